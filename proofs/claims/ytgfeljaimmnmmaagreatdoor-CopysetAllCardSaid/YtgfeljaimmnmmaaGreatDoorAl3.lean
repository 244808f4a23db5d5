/-
  Texts of ours, joined: FlPlain FlW2 FlW3 FlW4 FlW5 FlW6 FlW7 FlW8 FlW9 ToPlain ToCode ToW1 ToW2 Pm34 ToW3 ToW4 ToW5 ToW6 ToW7 ToW8 ToW9 ToW10 MkCode R1Code R1W1 R1W2 R1W3 R1W4 MkPlain MkW1 Pm35 Pm36 MkW2 MkW3 MkW4 MkW5 MkW6. No condition.
-/
import Derived.Test.YtgfeljaimmnmmaaGreatDoorAl1
import Derived.Test.YtgfeljaimmnmmaaGreatDoorAl2
import Derived.Lib.ItoaNum
set_option linter.unusedSimpArgs false
set_option linter.unusedVariables false
open Nat renaming reduceEqDiff → γ, reduceAdd → δ, reduceSub → ε, reduceMul → ζ, reduceLT → η, reduceLeDiff → θ, reduceBEq → τ
open Int renaming reduceLT → ι, reduceLE → κ, reduceEq → μ, reduceToNat → ν, reduceAdd → ξ, reduceNeg → ο, reduceBEq → ρ, reduceBNe → σ
open List renaming reduceReplicate → υ
open List renaming length_map → a7I, range → a7J, getElem_mem → a7L, replicate → a7M, length_append → a7Q, length_singleton → a7U, mem_cons → a7V, getElem?_eq_getElem → a7W, all_eq_true → a7Y, getD_eq_getElem?_getD → a8B, length_take → a8C, take_of_length_le → a8D, not_mem_nil → a8E, getElem?_map → a8H, map_append → a8I, take_length → a8K, mem_map → a8L, mem_range → a8M, getElem?_eq_some_iff → a8R, append_assoc → a8S, drop_zero → a8T, getElem_of_mem → a8U, map_cons → a8X, getElem?_eq_none → a8Z, length_cons → a9A, getElem_map → a9D, mem_append → a9E, take_succ_eq_append_getElem → a9G, append_nil → a9I, drop_eq_getElem_cons → a9J, range' → a9K, length_drop → a9L, Sublist → a9M, length_set → a9N, map_nil → a9R, length_nil → a9Y, mem_singleton → a9Z, getElem?_append_right → baA, getElem?_append_left → baB, nodup_append → baC, mem_of_getElem? → baE, set_append_right → baF, take_append_drop → baG, ext_getElem → baQ, range_succ → baU, getElem?_take → baW, drop_of_length_le → bbC, map_congr_left → bbD, set_cons_zero → bbE, length_filter_le → bbF, getElem_append_right → bbG
open Nat renaming gcd → a7K, le_refl → a7O, zero_le → a7P, mul_add → a7X, lt_or_ge → a8F, zero_add → a8G, mul_assoc → a8J, mul_comm → a8N, add_mul → a8O, mul_le_mul_right → a8P, le_trans → a8V, mod_eq_of_lt → a8W, mod_lt → a9B, pow_succ → a9F, add_zero → a9O, eq_zero_or_pos → a9S, add_assoc → a9T, min_eq_left → a9U, mul_le_mul_left → a9V, pos_of_ne_zero → a9W, pow_pos → baD, div_le_self → baH, pow_le_pow_right → baI, sub_self → baJ, div_lt_iff_lt_mul → baN, succ_mul → baO, mul_le_mul → baR, div_add_mod → baX, div_eq_of_lt → baY
open Bool renaming not_true → a7N, false_and → a7R, true_and → a7T, not_false → a7Z, and_eq_true → a8A, and_false → a8Q, and_true → a9P, and_assoc → baL, and_self → baM, false_eq_true → baT
open Option renaming map_eq_some_iff → a7S, map_some → a8Y, some → a9X, getD_some → baK, bind_eq_some_iff → baZ, bind_some → bbA
open Int renaming toNat_natCast → a9C, tdiv → a9Q
open Array renaming replicate → a9H, length_toList → baP, getElem?_eq_some_iff → baS, getElem?_eq_getElem → baV, getD_eq_getD_getElem? → bbB
namespace Go.PM
open Go Go.Na
abbrev dB (x:Int):Prop:=-9223372036854775808≤x∧x≤9223372036854775807
structure cE where
 name:List UInt8
 start:List RF
 a6C:List (List RF)
 exit:List RF
structure cT where
 name:List UInt8
 a6N:Int
 port:Int
 law:Int
structure cD where
 name:List UInt8
 level:Int
 parent:Int
 a6R:Int
 a6M:RF
structure dH where
 name:List UInt8
 model:Int
 machine:Int
structure bS where
 name:List UInt8
 k:Int
 m:Int
 a6V:Int
 s0:Int
 s1:Int
 s2:Int
 s3:Int
 s4:Int
 a5Y:List Int
 repair:List RF
 target:RF
 a6H:RF
structure eW where
 name:List UInt8
 a6J:Int
structure aE where
 a7B:Int
 a6E:List cE
 a5Y:List cT
 a6A:List cD
 a5X:List dH
 a6B:List bS
 a5Z:List eW
abbrev I (x:Int):PV:=.int .i64 x
abbrev anL (l:List (List RF)):PV:=.sl 1 (l.map fun r=>[frs r])
abbrev cE.cells (x:cE):List PV:=[.str x.name,frs x.start,anL x.a6C,frs x.exit]
abbrev cT.cells (x:cT):List PV:=[.str x.name,.int .i64 x.a6N,.int .i64 x.port,.int .i64 x.law]
abbrev cD.cells (x:cD):List PV:=[.str x.name,.int .i64 x.level,.int .i64 x.parent,.int .i64 x.a6R,.bool x.a6M.neg,aJ x.a6M.num,aJ x.a6M.den]
abbrev dH.cells (x:dH):List PV:=[.str x.name,.int .i64 x.model,.int .i64 x.machine]
abbrev bS.cells (x:bS):List PV:=[.str x.name,.int .i64 x.k,.int .i64 x.m,.int .i64 x.a6V,.int .i64 x.s0,.int .i64 x.s1,.int .i64 x.s2,.int .i64 x.s3,.int .i64 x.s4,ints x.a5Y,frs x.repair,
 .bool x.target.neg,aJ x.target.num,aJ x.target.den,.bool x.a6H.neg,aJ x.a6H.num,aJ x.a6H.den]
abbrev eW.cells (x:eW):List PV:=[.str x.name,.int .i64 x.a6J]
abbrev aE.cells (f:aE):List PV:=[.int .i64 f.a7B,.sl 4 (f.a6E.map cE.cells),.sl 4 (f.a5Y.map cT.cells),.sl 7 (f.a6A.map cD.cells),.sl 3 (f.a5X.map dH.cells),.sl 17 (f.a6B.map bS.cells),.sl 2 (f.a5Z.map eW.cells)]
def bS.spread (p:bS) (level:Nat):Int:=match level with
 | 0=>p.s0
 | 1=>p.s1
 | 2=>p.s2
 | 3=>p.s3
 | _=>p.s4
abbrev Fits {α:Type} (l:List α):Prop:=l.length≤9223372036854775807
structure jR (l:List RF):Prop where
 fits:Fits l
 all:∀ x∈l,x.Ok
structure cE.Ok (x:cE):Prop where
 start:jR x.start
 exit:jR x.exit
 a6C:Fits x.a6C
 row:∀ r∈x.a6C,jR r
structure bS.Ok (x:bS):Prop where
 k:dB x.k
 m:dB x.m
 a6V:dB x.a6V
 a5Y:Fits x.a5Y
 each:∀ m∈x.a5Y,dB m
 repair:jR x.repair
 target:x.target.Ok
 a6H:x.a6H.Ok
structure aE.Ok (f:aE):Prop where
 a6E:Fits f.a6E
 a5Y:Fits f.a5Y
 a6A:Fits f.a6A
 a5X:Fits f.a5X
 a6B:Fits f.a6B
 a5Z:Fits f.a5Z
 law:∀ x∈f.a6E,x.Ok
 dom:∀ x∈f.a6A,x.a6M.Ok∧dB x.level∧dB x.parent
 drive:∀ x∈f.a5X,dB x.model∧dB x.machine
 a6J:∀ x∈f.a6B,x.Ok
 volume:∀ x∈f.a5Z,dB x.a6J
def oT (x:RF):FR:=if cU (val x.num) (val x.den) then iD x.neg (val x.num) (val x.den) else .error 1
theorem m6 (x:RF):VE x.neg (val x.num) (val x.den)=frV (oT x):=by
 unfold VE oT;split
 ·exact u1 _ _ _
 ·rfl
def cS (x:RF):Bool:=match oT x with
 | .ok (n,a,b)=>!n&&(decide (cM a≤32)&&decide (cM b≤32))
 | .error _=>false
def bG (x:RF):Bool:=decide (val x.num≠0)
def wH (x:RF):Bool:=cU (val x.num) (val x.den)&&decide (pM x.neg (val x.num) (val x.den) false 1 1≤0)
def within (n lo hi:Int):Bool:=decide (lo≤n)&&decide (n≤hi)
def cK (R:List Bool) (i:Nat) (row:List RF):Nat→List Bool
 | 0=>R
 | k+1=>let c:=cK R i row k
  c.set i (c.getD i false||(row.map bG).getD k false&&c.getD k false)
def kG (l:cE) (R:List Bool) (i:Nat):List Bool :=
 cK (R.set i (R.getD i false||(l.exit.map bG).getD i false)) i (l.a6C.getD i []) (l.a6C.getD i []).length
def cV (l:cE) (R:List Bool):Nat→List Bool
 | 0=>R
 | i+1=>kG l (cV l R i) i
def cW (l:cE):Nat→List Bool
 | 0=>a7M l.exit.length false
 | r+1=>cV l (cW l r) l.exit.length
def oW (l:cE):Bool:=(cW l (l.exit.length+1)).all id
def jZ (l:cE):Bool :=
 within l.start.length 1 4&&decide (l.exit.length=l.start.length)&&decide (l.a6C.length=l.start.length)&&l.start.all cS&&l.exit.all cS
 && (a7J l.a6C.length).all (fun i=>decide ((l.a6C.getD i []).length=l.start.length)&&(l.a6C.getD i []).all cS&&!((l.a6C.getD i []).map bG).getD i false)
 && (match nH (l.start.map RF.v) with
  | .ok (n,a,b)=>decide (pM n a b false 1 1=0)
  | .error _=>false)&&oW l
def distinct (l:List (List UInt8)):Bool:=(a7J l.length).all fun i=>isName (l.getD i [])&&!(l.take i).contains (l.getD i [])
def HK (f:aE) (i:Nat) (d:cD):Bool :=
 within d.parent 0 i&&decide ((f.a6A.map cD.level).getD d.parent.toNat 0=IntKind.i64.wrap (d.level-1))&&within d.level 1 4&&within d.a6R 1 64&&cS d.a6M
def BB (f:aE) (r:cD) (t:List cD):Bool :=
 decide (r.name=[])&&decide (r.level=0)&&decide (r.parent=-1)&&decide (r.a6R=0)&&cS r.a6M&&!bG r.a6M
  && (a7J t.length).all fun i=>match t[i]? with
   | some d=>HK f i d
   | none=>false
def nN (f:aE):Bool:=match f.a6A with
 | []=>false
 | r::t=>BB f r t
def JZ (p:bS):Bool :=
 within p.k 1 6&&within p.m 0 4&&decide (p.k+p.m≤8)&&within p.a6V p.k (p.k+p.m)&&decide (p.s0=0)&&([p.s0,p.s1,p.s2,p.s3,p.s4].all fun n=>within n 0 8)
def BR (p:bS):Bool :=
 decide ((p.repair.length:Int)=max p.m 1)&&(p.repair.all fun x=>cS x&&bG x)&&cS p.target&&wH p.target&&cS p.a6H
def jI (a5Y:Nat) (p:bS):Bool :=
 JZ p&&decide (p.a5Y.length≠0)&&BR p&&(a7J p.a5Y.length).all fun j=>within (p.a5Y.getD j 0) 0 ((a5Y:Int)-1)&&!(p.a5Y.take j).contains (p.a5Y.getD j 0)
def kB (f:aE) (m:cT):Bool:=within m.a6N 1 16&&within m.port 1 64&&within m.law 0 ((f.a6E.length:Int)-1)
def iJ (f:aE) (d:dH):Bool:=within d.model 0 ((f.a5Y.length:Int)-1)&&within d.machine 0 ((f.a6A.length:Int)-1)&&decide ((f.a6A.map cD.level).getD d.machine.toNat 0=4)
def oC (f:aE) (v:eW):Bool:=within v.a6J 0 ((f.a6B.length:Int)-1)
def nF (f:aE):Bool:=within f.a7B 1 4&&decide (f.a6E.length≤4)&&decide (f.a5Y.length≤4)&&decide (f.a6A.length≤40)&&decide (f.a5X.length≤24)&&decide (f.a6B.length≤4)&&decide (f.a5Z.length≤12)
def dR (f:aE):Bool :=
 nF f&&nN f&&(f.a6E.all jZ&&f.a5Y.all (kB f)&&f.a5X.all (iJ f)&&f.a6B.all (jI f.a5Y.length)&&f.a5Z.all (oC f))
 && (distinct (f.a6E.map cE.name)&&distinct (f.a5Y.map cT.name)&&distinct ((f.a6A.drop 1).map cD.name++f.a5X.map dH.name)&&distinct (f.a6B.map bS.name)&&distinct (f.a5Z.map eW.name))
theorem bD {t:Nat} {b c:Bool} {F:PF} {H:PH} (h:F t=some (.bool b)) (e:b=c):aV [.tmp t] (bY (.bool c)) .ret F H:=by
 subst e;exact bA (.inr rfl) .nil (vs:=[.bool b]) (by rw[kI,nE,h,oN]) a_ ⟨.refl _,rfl⟩
theorem asQ {C:Ctx} (n lo hi:Int):zK.wp C (aV gin.res (bY (.bool (within n lo hi)))) (PF.args [.int .i64 n,.int .i64 lo,.int .i64 hi]) .nil:=by
 by_cases a:lo≤n
 ·by_cases b:n≤hi
  ·simp only[go_sem,zK,js,jt,gin,show n≥lo from a,b];exact bD Ev (by simp[within,a,b])
  ·simp only[go_sem,zK,js,jt,gin,show n≥lo from a,b];exact bD Ev (by simp[within,a,b])
 ·have c:¬ n≥lo:=a;simp only[go_sem,zK,js,jt,gin,c];exact bD Ev (by simp[within,a])
theorem zp {C:Ctx} (L:qW C) (x:RF) (c:x.Ok):CR.wp C (aV jp.res (bY (.bool (bG x)))) (PF.args [.agg x.cells]) .nil:=by
 simp only[go_sem,CR,zq,zr,jp];refine aA (L.bits x.num c.1 c.2.2.1) Ev ?_;simp only[go_sem];refine bD Ev ?_;have:=@jW (val x.num);rw[bG,decide_eq_decide];omega
structure fg (C:Ctx):Prop extends AQ C where
 frac:∀ n d:Int,dB n→dB d→aH C 115 [.int .i64 n,.int .i64 d] .nil (aF (j7 n d))
 red:∀ x:RF,x.Ok→aH C 116 [.agg x.cells] .nil (aF (frV (oT x)))
 ord:∀ x y:RF,x.Ok→y.Ok→aH C 114 [.agg x.cells,.agg y.cells] .nil (aF (BD x.neg (val x.num) (val x.den) y.neg (val y.num) (val y.den)))
 plus:∀ x y:RF,x.Ok→y.Ok→aH C 113 [.agg x.cells,.agg y.cells] .nil (aF (frV (gJ x.v y.v)))
 tot:∀ l:List RF,jR l→aH C 117 [frs l] .nil (aF (frV (nH (l.map RF.v))))
theorem IU {neg:Bool} {a b:Nat} {e:Int} (h:iD neg a b=.error e):e=2:=by
 unfold iD at h;split at h
 ·injection h with h; exact h.symm
 ·cases h
theorem Ro {x:RF} {e:Int} (h:oT x=.error e):e≠0:=by
 unfold oT at h;split at h
 ·rw[IU h]; decide
 ·injection h with h; subst h; decide
theorem aRM {x:RF} {r:FV} (h:oT x=.ok r):r.rf.Ok:=by
 unfold oT at h;split at h
 ·exact (sV h).2
 ·cases h
theorem Zp {C:Ctx} (L:fg C) (x:RF) (p:x.Ok):PY.wp C (aV akO.res (bY (.bool (cS x)))) (PF.args [.agg x.cells]) .nil:=by
 simp only[go_sem,PY,Zq,Zr,akO];refine aA (L.red x p) Ev ?_;unfold cS;cases i:oT x with
 | error e =>have:=bF (Ro i);simp only[go_sem,frV];refine aR fun o l=>?_;simp only[go_sem,US,this];exact bD Ev rfl
 | ok r =>
  obtain⟨n,a,b⟩:=r;obtain⟨q,u,w,y⟩:=aRM i;simp only[go_sem,frV];refine aR fun o l=>?_;cases n with
  | true =>simp only[go_sem,US];exact bD Ev rfl
  | false =>
   simp only[go_sem,US];refine aA (L.bits _ q w) Ev ?_;rw[show val (FV.rf (false,a,b)).num=a from aW a];by_cases d:cM a≤32
   ·have c:((cM a:Nat):Int)≤32:=Om;simp only[go_sem,c];refine aA (L.bits _ u y) Ev ?_;rw[show val (FV.rf (false,a,b)).den=b from aW b];simp only[go_sem];refine bD Ev ?_;rw[decide_eq_true d];simp;omega
   ·have c:¬ ((cM a:Nat):Int)≤32:=Om;simp only[go_sem,c];refine bD Ev ?_;rw[decide_eq_false d];rfl
theorem Oc:iD false 1 1=.ok (false,1,1):=by
 have:cM 1=1:=by rw[pG (by decide),jM]
 simp[iD,this]
theorem Oe:j7 1 1=frV (.ok (false,1,1)):=by
 rw[j7,if_neg (by decide),u1];show frV (iD false 1 1)=_;rw[Oc]
theorem avD:(FV.rf (false,1,1)).Ok:=(sV Oc).2
theorem Es:cU 1 1=true:=by
 have:cM 1=1:=by rw[pG (by decide),jM]
 simp[cU,this]
theorem Zw {C:Ctx} (L:fg C) (x:RF) (c:x.Ok):QA.wp C (aV gone.res (bY (.bool (wH x)))) (PF.args [.agg x.cells]) .nil:=by
 simp only[go_sem,QA,Zx,Zy,gone];refine aA (L.frac 1 1 (by decide) (by decide)) Ev ?_;rw[Oe];simp only[go_sem,frV];refine aR fun o d=>?_;simp only[go_sem,Zz];refine aA (L.ord x (FV.rf (false,1,1)) c avD) Ev ?_;rw[show val (FV.rf (false,1,1)).num=1 from aW 1,show val (FV.rf (false,1,1)).den=1 from aW 1,show (FV.rf (false,1,1)).neg=false from rfl];unfold BD wH;rw[Es,a9P];cases e:cU (val x.num) (val x.den) with
 | false =>simp only[go_sem,ut];exact bD Ev rfl
 | true =>simp only[go_sem,ut];exact bD Ev rfl
theorem Lm {C:Ctx} (p:RF→Bool) (fn:Nat) (l:List RF) (q:Fits l) (h:∀ x∈l,aH C fn [.agg x.cells] .nil (aF (.bool (p x)))) :
  HY.wp C (aV G8.res (bY (.bool (l.all p)))) (PF.args [frs l,.fn fn []]) .nil:=by
 simp only[go_sem,HY,Ln,Lo,G8];refine wp_loop (α:=Nat) (fun k=>((((PF.nil.set 1 (.fn fn [])).set 7 (frs l)).set 8 (.int .i64 (l.length:Nat))).set 9 (.int .i64 k))) (fun _=>.nil) (fun k=>k≤l.length∧(l.take k).all p=true) (fun k=>l.length-k) 0 ⟨a7P _,rfl⟩ ?_ a_ ?_
 ·(repeat' (first|exact c_|refine d_ ?_ ?_))<;>first|(simp only[go_sem,a7I]<;>rfl)|rfl
 rintro k ⟨u,d⟩;simp only[go_sem,Ll,Lp];by_cases hlt:k<l.length
 ·have c:(k:Int)<(l.length:Nat):=Om;have i:(l.map RF.cells)[k]?=some (l[k]).cells:=by simp[hlt]
  simp only[go_sem,c,Lr,i];refine aR fun o w=>?_;simp only[go_sem,Lt];refine aA (h _ (a7L hlt)) Ev ?_;cases e:p l[k] with
  | false =>simp only[go_sem,Lu];exact bD (b:=false) Ev (pF (p:=p) hlt e).symm
  | true =>simp only[go_sem,Lw,wZz k];refine aD (k+1) ⟨hlt,a7Y.1 (pE hlt d e)⟩ Om ?_ a_;exact Lq
 ·have c:¬ (k:Int)<(l.length:Nat):=Om;simp only[go_sem,c,Lx];have:k=l.length:=Om;subst this;rw[a8D (a7O _)] at d;exact bD Ev d.symm
theorem Lz {C:Ctx} (p:Int→Bool) (fn:Nat) (l:List Int) (q:Fits l) (h:∀ x∈l,aH C fn [.int .i64 x] .nil (aF (.bool (p x)))) :
  HZ.wp C (aV G9.res (bY (.bool (l.all p)))) (PF.args [ints l,.fn fn []]) .nil:=by
 simp only[go_sem,HZ,L0,L3,G9];refine wp_loop (α:=Nat) (fun k=>((((PF.nil.set 1 (.fn fn [])).set 7 (ints l)).set 8 (.int .i64 (l.length:Nat))).set 9 (.int .i64 k))) (fun _=>.nil) (fun k=>k≤l.length∧(l.take k).all p=true) (fun k=>l.length-k) 0 ⟨a7P _,rfl⟩ ?_ a_ ?_
 ·(repeat' (first|exact c_|refine d_ ?_ ?_))<;>first|(simp only[go_sem,a7I]<;>rfl)|rfl
 rintro k ⟨u,d⟩;simp only[go_sem,Ly,L4];by_cases hlt:k<l.length
 ·have c:(k:Int)<(l.length:Nat):=Om;have i:(l.map fun n=>[PV.int .i64 n])[k]?=some [.int .i64 l[k]]:=by simp[hlt]
  simp only[go_sem,c,L5,i,L6];refine aA (h _ (a7L hlt)) Ev ?_;cases e:p l[k] with
  | false =>simp only[go_sem,L7];exact bD (b:=false) Ev (pF (p:=p) hlt e).symm
  | true =>simp only[go_sem,L8,wZz k];refine aD (k+1) ⟨hlt,a7Y.1 (pE hlt d e)⟩ Om ?_ a_;exact Lq
 ·have c:¬ (k:Int)<(l.length:Nat):=Om;simp only[go_sem,c,L9];have:k=l.length:=Om;subst this;rw[a8D (a7O _)] at d;exact bD Ev d.symm
abbrev ajC (l:List Bool):PV:=.sl 1 (l.map fun b=>[PV.bool b])
theorem Lc {C:Ctx} (p:Bool→Bool) (fn:Nat) (l:List Bool) (q:Fits l) (h:∀ x∈l,aH C fn [.bool x] .nil (aF (.bool (p x)))) :
  HX.wp C (aV G7.res (bY (.bool (l.all p)))) (PF.args [ajC l,.fn fn []]) .nil:=by
 simp only[go_sem,HX,Ld,Le,G7];refine wp_loop (α:=Nat) (fun k=>((((PF.nil.set 1 (.fn fn [])).set 7 (ajC l)).set 8 (.int .i64 (l.length:Nat))).set 9 (.int .i64 k))) (fun _=>.nil) (fun k=>k≤l.length∧(l.take k).all p=true) (fun k=>l.length-k) 0 ⟨a7P _,rfl⟩ ?_ a_ ?_
 ·(repeat' (first|exact c_|refine d_ ?_ ?_))<;>first|(simp only[go_sem,a7I]<;>rfl)|rfl
 rintro k ⟨u,d⟩;simp only[go_sem,La,Lf];by_cases hlt:k<l.length
 ·have c:(k:Int)<(l.length:Nat):=Om;have i:(l.map fun b=>[PV.bool b])[k]?=some [.bool l[k]]:=by simp[hlt]
  simp only[go_sem,c,Lg,i,Lh];refine aA (h _ (a7L hlt)) Ev ?_;cases e:p l[k] with
  | false =>simp only[go_sem,Li];exact bD (b:=false) Ev (pF (p:=p) hlt e).symm
  | true =>simp only[go_sem,Lj,wZz k];refine aD (k+1) ⟨hlt,a7Y.1 (pE hlt d e)⟩ Om ?_ a_;exact Lq
 ·have c:¬ (k:Int)<(l.length:Nat):=Om;simp only[go_sem,c,Lk];have:k=l.length:=Om;subst this;rw[a8D (a7O _)] at d;exact bD Ev d.symm
theorem zt {C:Ctx} (b:Bool):CS.wp C (aV jr.res (bY (.bool b))) (PF.args [.bool b]) .nil:=by
 simp only[go_sem,CS,zu,zw,jr];exact bD Ev rfl
theorem Mn {C:Ctx} (c:∀ n lo hi:Int,aH C 104 [.int .i64 n,.int .i64 lo,.int .i64 hi] .nil (aF (.bool (within n lo hi)))) (n:Int):ID.wp C (aV Hb.res (bY (.bool (within n 0 8)))) (PF.args [.int .i64 n]) .nil:=by
 simp only[go_sem,ID,Mo,Mp,Hb];refine aA (c n 0 8) Ev ?_;simp only[go_sem];exact bD Ev rfl
theorem Aa {C:Ctx} (d:∀ x:RF,x.Ok→aH C 105 [.agg x.cells] .nil (aF (.bool (cS x)))) (e:∀ x:RF,x.Ok→aH C 97 [.agg x.cells] .nil (aF (.bool (bG x)))) (x:RF) (c:x.Ok) :
  CU.wp C (aV ju.res (bY (.bool (cS x&&bG x)))) (PF.args [.agg x.cells]) .nil:=by
 simp only[go_sem,CU,Ab,Ac,ju];refine aA (d x c) Ev ?_;cases i:cS x with
 | false =>simp only[go_sem];exact bD Ev rfl
 | true =>simp only[go_sem];refine aA (e x c) Ev ?_;simp only[go_sem];exact bD Ev rfl
structure rD (C:Ctx):Prop extends fg C where
 inn:∀ n lo hi:Int,aH C 104 [.int .i64 n,.int .i64 lo,.int .i64 hi] .nil (aF (.bool (within n lo hi)))
 lK:∀ x:RF,x.Ok→aH C 97 [.agg x.cells] .nil (aF (.bool (bG x)))
 lim:∀ x:RF,x.Ok→aH C 105 [.agg x.cells] .nil (aF (.bool (cS x)))
 one:∀ x:RF,x.Ok→aH C 101 [.agg x.cells] .nil (aF (.bool (wH x)))
 allf:∀ (p:RF→Bool) (fn:Nat) (l:List RF),Fits l→(∀ x∈l,aH C fn [.agg x.cells] .nil (aF (.bool (p x))))→aH C 99 [frs l,.fn fn []] .nil (aF (.bool (l.all p)))
 alli:∀ (p:Int→Bool) (fn:Nat) (l:List Int),Fits l→(∀ x∈l,aH C fn [.int .i64 x] .nil (aF (.bool (p x))))→aH C 100 [ints l,.fn fn []] .nil (aF (.bool (l.all p)))
 allb:∀ (p:Bool→Bool) (fn:Nat) (l:List Bool),Fits l→(∀ x∈l,aH C fn [.bool x] .nil (aF (.bool (p x))))→aH C 98 [ajC l,.fn fn []] .nil (aF (.bool (l.all p)))
 ends1:∀ b:Bool,aH C 103 [.bool b] .nil (aF (.bool b))
 num1:∀ n:Int,aH C 107 [.int .i64 n] .nil (aF (.bool (within n 0 8)))
 rate1:∀ x:RF,x.Ok→aH C 109 [.agg x.cells] .nil (aF (.bool (cS x&&bG x)))
 name:∀ s:List UInt8,aH C 123 [.str s] .nil (aF (.bool (isName s)))
theorem rD.aGE {C:Ctx} (L:rD C) (l:List RF) (h:jR l):aH C 99 [frs l,.fn 105 []] .nil (aF (.bool (l.all cS))) :=
 L.allf cS 105 l h.fits fun x c=>L.lim x (h.all x c)
theorem within_iff {n lo hi:Int}:within n lo hi=true↔lo≤n∧n≤hi:=by simp[within]
theorem Zs {C:Ctx} (L:rD C) (p:bS) (A:p.Ok) :
  PZ.wp C (aV akP.res (bY (.bool (JZ p)))) (PF.args [.int .i64 p.k,.int .i64 p.m,.int .i64 p.a6V,.agg [.int .i64 p.s0,.int .i64 p.s1,.int .i64 p.s2,.int .i64 p.s3,.int .i64 p.s4]]) .nil:=by
 simp only[go_sem,PZ,Zt,Zu,akP];refine aA (L.inn p.k 1 6) rfl ?_;unfold JZ;cases q:within p.k 1 6 with
 | false =>simp only[go_sem,a7Z,yF];exact bD rfl (by simp only[a7R])
 | true =>
  obtain⟨k1,k2⟩:=within_iff.1 q;simp only[go_sem,a7N];refine aA (L.inn p.m 0 4) rfl ?_;cases u:within p.m 0 4 with
  | false =>simp only[go_sem,a7Z,yF];exact bD rfl (by simp only[a7R,a8Q])
  | true =>
   obtain⟨B,E⟩:=within_iff.1 u;have l:IntKind.i64.wrap (p.k+p.m)=p.k+p.m:=wrap_i64 Om Om;by_cases i:p.k+p.m≤8
   ·have c:¬ p.k+p.m>8:=Om;simp only[go_sem,a7N,l,c];refine aA (L.inn p.a6V p.k (p.k+p.m)) rfl ?_;cases y:within p.a6V p.k (p.k+p.m) with
    | false =>simp only[go_sem,a7Z,yF];exact bD rfl (by simp only[a7R,a8Q])
    | true =>
     have d:(0:Int)<((5:Nat):Int):=by decide
     by_cases h5:p.s0=0
     ·have e:chunks 1 5 [PV.int .i64 p.s0,.int .i64 p.s1,.int .i64 p.s2,.int .i64 p.s3,.int .i64 p.s4]=([p.s0,p.s1,p.s2,p.s3,p.s4].map fun n=>[PV.int .i64 n]):=rfl;have w:5≤maxLen:=by decide
      simp only[go_sem,a7N,d,cC h5,Zv,e,w];refine aA (L.alli (fun n=>within n 0 8) 107 [p.s0,p.s1,p.s2,p.s3,p.s4] (show 5≤9223372036854775807 by decide) fun x _=>L.num1 x) rfl ?_;simp only[go_sem];exact bD rfl (by rw[decide_eq_true i,decide_eq_true h5]; simp only[a7T])
     ·simp only[go_sem,a7N,d,dN h5,yF];exact bD rfl (by rw[decide_eq_false h5]; simp only[a7R,a8Q])
   ·have c:p.k+p.m>8:=Om;simp only[go_sem,a7N,l,c,yF];exact bD rfl (by rw[decide_eq_false i]; simp only[a7R,a8Q])
theorem max_eq (a b:Int):(if a<b then b else a)=max a b:=by
 rw[Int.max_def];by_cases h:a<b
 ·rw[if_pos h,if_pos Om]
 ·by_cases c:a≤b
  ·rw[if_neg h,if_pos c]; omega
  ·rw[if_neg h,if_neg c]
theorem Mt {C:Ctx} (L:rD C) (p:bS) (c:p.Ok) :
  IE.wp C (aV Hc.res (bY (.bool (BR p)))) (PF.args [.int .i64 p.m,frs p.repair,.agg p.target.cells,.agg p.a6H.cells]) .nil:=by
 simp only[go_sem,IE,Mu,Mv,Hc,max_eq,a7I];unfold BR;by_cases d:(p.repair.length:Int)=max p.m 1
 ·simp only[go_sem,bL d];refine aA (L.allf (fun x=>cS x&&bG x) 109 p.repair c.repair.fits fun x e=>L.rate1 x (c.repair.all x e)) rfl ?_;rw[decide_eq_true d,a7T];cases i:p.repair.all fun x=>cS x&&bG x with
  | false =>simp only[go_sem];exact bD rfl rfl
  | true =>
   simp only[go_sem];refine aA (L.lim _ c.target) rfl ?_;cases l:cS p.target with
   | false =>simp only[go_sem];exact bD rfl rfl
   | true =>
    simp only[go_sem];refine aA (L.one _ c.target) rfl ?_;cases q:wH p.target with
    | false =>simp only[go_sem];exact bD rfl rfl
    | true =>simp only[go_sem];refine aA (L.lim _ c.a6H) rfl ?_;simp only[go_sem];exact bD rfl rfl
 ·simp only[go_sem,bF d];exact bD rfl (by rw[decide_eq_false d]; rfl)
def qP (l:List (List UInt8)) (k:List KS):Option PV:=match k with
 | [.str s]=>if l.contains s then some (.bool true) else none
 | _=>none
theorem awO (l:List (List UInt8)) (s:List UInt8):(fun k=>if k=[KS.str s] then some (PV.bool true) else qP l k)=qP (l++[s]):=by
 funext k
 match k with
 | []=>rfl
 | [.int a b]=>simp[qP]
 | [.bool a]=>simp[qP]
 | [.str t] =>
  by_cases h:t=s
  ·subst h; simp[qP]
  ·simp[qP,h]
 | a::b::c=>simp[qP]
abbrev texts (l:List (List UInt8)):PV:=.sl 1 (l.map fun s=>[PV.str s])
theorem awN:qP []=(fun _=>none:jN):=by
 funext k
 match k with
 | []=>rfl
 | [.int a b]=>rfl
 | [.bool a]=>rfl
 | [.str t]=>rfl
 | a::b::c=>cases a<;>rfl
theorem awP (l:List (List UInt8)) (s:List UInt8):jN.upd (qP l) [KS.str s] (.bool true)=qP (l++[s]):=awO l s
theorem Sg (l:List (List UInt8)) (s:List UInt8):(qP l [KS.str s]).getD (.bool false)=.bool (l.contains s):=by
 show (if l.contains s then some (PV.bool true) else none).getD (.bool false)=_;cases l.contains s<;>rfl
theorem wm {p:Nat→Bool} {k:Nat} (h:(a7J k).all p=true) (c:p k=true):(a7J (k+1)).all p=true:=by
 rw[baU,List.all_append,h]; simp[c]
theorem eU {p:Nat→Bool} {n k:Nat} (c:k<n) (d:p k=false):(a7J n).all p=false:=by
 rw[List.all_eq_false];exact⟨k,a8M.2 c,by simp[d]⟩
def rC (p:Nat→Bool) (k:Nat):Prop:=(a7J k).all p=true
theorem rC.zero {p:Nat→Bool}:rC p 0:=rfl
theorem rC.step {p:Nat→Bool} {k:Nat} (h:rC p k) (c:p k=true):rC p (k+1):=wm h c
def aqA (l:List (List UInt8)) (o k:Nat):PF:=((((PF.nil.set 3 (.map o)).set 7 (texts l)).set 8 (.int .i64 (l.length:Nat))).set 9 (.int .i64 k))
theorem M0 {C:Ctx} (L:rD C) (l:List (List UInt8)) (B:Fits l):IF.wp C (aV Hd.res (bY (.bool (distinct l)))) (PF.args [texts l]) .nil:=by
 simp only[go_sem,IF,M1,M2,Hd];refine aR fun o F=>?_;simp only[go_sem,M3];have x:(PH.nil.set o (.map (false,[.str]) (fun _=>none)))=PH.nil.set o (.map (false,[.str]) (qP (l.take 0))):=by rw[List.take_zero,awN]
 unfold distinct;generalize y:(fun i=>isName (l.getD i [])&&!(l.take i).contains (l.getD i []))=p;have q:∀ k (h:k<l.length),p k=(isName l[k]&&!(l.take k).contains l[k]):=by intro k h;rw[← y];simp only[a8B,a7W h,baK]
 refine wp_loop (α:=Nat) (fun k=>aqA l o k) (fun k=>PH.nil.set o (.map (false,[.str]) (qP (l.take k)))) (fun k=>k≤l.length∧rC p k) (fun k=>l.length-k) 0 ⟨a7P _,.zero⟩ ?_ ?_ ?_
 ·unfold aqA
  (repeat' (first|exact c_|refine d_ ?_ ?_))<;>first|(simp only[go_sem,a7I]<;>rfl)|rfl
 ·rw[x]; exact b_
 rintro k ⟨E,w⟩;simp only[go_sem,Mz,M4,aqA];by_cases hlt:k<l.length
 ·have d:(k:Int)<(l.length:Nat):=Om;have A:(l.map fun s=>[PV.str s])[k]?=some [.str l[k]]:=by simp[hlt]
  simp only[go_sem,d,M5,A,M6];refine aA (L.name l[k]) rfl ?_;have c:=q k hlt;cases u:isName l[k] with
  | false =>rw[u,a7R] at c;simp only[go_sem,a7Z,ZX];exact bD (b:=false) rfl (eU hlt c).symm
  | true =>
   rw[u,a7T] at c;cases e:(l.take k).contains l[k] with
   | true =>rw[e] at c;simp only[go_sem,a7N,Sg,e,ZX];exact bD (b:=false) rfl (eU hlt c).symm
   | false =>
    rw[e] at c;simp only[go_sem,a7N,Sg,e,M7,awP,M8,wZz k];refine aD (k+1) ⟨hlt,w.step c⟩ Om ?_ ?_
    ·exact Lq
    ·rw[a9G hlt];exact PH.aK a_ Sq
 ·have d:¬ (k:Int)<(l.length:Nat):=Om;simp only[go_sem,d,Ad];have:k=l.length:=Om;subst this;exact bD (b:=true) rfl (show rC p l.length from w).symm
def marks (n:Nat) (l:List Int):List Bool:=(a7J n).map fun (i:Nat)=>l.contains (i:Int)
theorem QI (n:Nat) (l:List Int):(marks n l).length=n:=by simp[marks]
theorem At (n:Nat):marks n []=a7M n false:=by
 refine baQ (by simp[marks]) fun i c d=>by simp[marks]
theorem zR {n:Nat} {l:List Int} {m:Int} (c:0≤m) (d:m<n):(marks n l)[m.toNat]?=some (l.contains m):=by
 have:m.toNat<n:=Om;simp only[marks,a8H,List.getElem?_range this,a8Y];rw[Int.toNat_of_nonneg c]
theorem QJ {n:Nat} {l:List Int} {m:Int} (d:0≤m) (e:m<n):(marks n l).set m.toNat true=marks n (l++[m]):=by
 refine baQ (by simp[marks]) fun i p q=>?_;simp only[marks,a9D,List.getElem_range,List.getElem_set,List.contains_append];by_cases h:m.toNat=i
 ·subst h;rw[if_pos rfl,Int.toNat_of_nonneg d]; simp
 ·have c:((i:Nat):Int)≠m:=Om;rw[if_neg h]; simp[c]
abbrev dJ (l:List Bool):List (List PV):=l.map fun b=>[PV.bool b]
theorem jX (l:List Bool) (i:Nat) (b:Bool):(dJ l).set i [.bool b]=dJ (l.set i b):=by unfold dJ; rw[List.map_set]
structure ff (C:Ctx):Prop extends rD C where
 num:∀ p:bS,p.Ok→aH C 106 [.int .i64 p.k,.int .i64 p.m,.int .i64 p.a6V,.agg [.int .i64 p.s0,.int .i64 p.s1,.int .i64 p.s2,.int .i64 p.s3,.int .i64 p.s4]] .nil (aF (.bool (JZ p)))
 rate:∀ p:bS,p.Ok→aH C 108 [.int .i64 p.m,frs p.repair,.agg p.target.cells,.agg p.a6H.cells] .nil (aF (.bool (BR p)))
 uniq:∀ l:List (List UInt8),Fits l→aH C 110 [texts l] .nil (aF (.bool (distinct l)))
def aHX (p:bS) (a5Y:Nat) (o k:Nat):PF:=(((((PF.nil.set 1 (.int .i64 a5Y)).set 5 (.osl o 1 0 a5Y)).set 39 (ints p.a5Y)).set 40 (.int .i64 (p.a5Y.length:Nat))).set 41 (.int .i64 k))
theorem Z1 {C:Ctx} (L:ff C) (p:bS) (B:p.Ok) (a5Y:Nat) (R:a5Y≤4):QB.wp C (aV akQ.res (bY (.bool (jI a5Y p)))) (PF.args [.agg p.cells,.int .i64 a5Y]) .nil:=by
 simp only[go_sem,QB,Z2,Z3,akQ];refine aA (L.num p B) rfl ?_;unfold jI;cases l:JZ p with
 | false =>simp only[go_sem,a7Z,UT];exact bD rfl (by simp only[a7R])
 | true =>
  by_cases i:p.a5Y.length=0
  ·simp only[go_sem,a7N,a7I,bL (Om:(p.a5Y.length:Int)=0),UT];refine bD rfl ?_;have:decide (p.a5Y.length≠0)=false:=by simp[i]
   rw[this]; simp only[a7R,a8Q]
  ·have x:decide (p.a5Y.length≠0)=true:=by simp[i]
   simp only[go_sem,a7N,a7I,bF (Om:(p.a5Y.length:Int)≠0)];refine aA (L.rate p B) rfl ?_;rw[x];cases O:BR p with
   | false =>simp only[go_sem,a7Z,UT];exact bD rfl (by simp only[a7R,a8Q])
   | true =>
    have y:((a5Y:Nat):Int)*((1:Nat):Int)≤140737488355328:=Om;have A:((a5Y:Nat):Int)≤9223372036854775807:=Om;simp only[a7T];simp only[go_sem,a7N,Z4,y,A];refine aR fun o S=>?_;simp only[go_sem,Z5];have J:a7M a5Y [PV.bool false]=dJ (marks a5Y (p.a5Y.take 0)):=by rw[List.take_zero,At]; simp[dJ]
    rw[J];generalize K:(fun j=>within (p.a5Y.getD j 0) 0 ((a5Y:Int)-1)&&!(p.a5Y.take j).contains (p.a5Y.getD j 0))=q;have E:∀ k (h:k<p.a5Y.length),q k=(within p.a5Y[k] 0 ((a5Y:Int)-1)&&!(p.a5Y.take k).contains p.a5Y[k]):=by intro k h;rw[← K];simp only[a8B,a7W h,baK]
    refine wp_loop (α:=Nat) (fun k=>aHX p a5Y o k) (fun k=>PH.nil.set o (.rows 1 (dJ (marks a5Y (p.a5Y.take k))))) (fun k=>k≤p.a5Y.length∧rC q k) (fun k=>p.a5Y.length-k) 0 ⟨a7P _,.zero⟩ ?_ (b_) ?_
    ·unfold aHX
     (repeat' (first|exact c_|refine d_ ?_ ?_))<;>first|(simp only[go_sem,a7I]<;>rfl)|rfl
    rintro k ⟨Q,F⟩;simp only[go_sem,Mq,Z6,aHX];have H:=B.a5Y;by_cases hlt:k<p.a5Y.length
    ·have d:(k:Int)<(p.a5Y.length:Nat):=Om;have M:(p.a5Y.map fun n=>[PV.int .i64 n])[k]?=some [.int .i64 p.a5Y[k]]:=by simp[hlt]
     have N:IntKind.i64.wrap ((a5Y:Int)-1)=(a5Y:Int)-1:=wrap_i64 Om Om;simp only[go_sem,d,Z7,M,Z8,N];refine aA (L.inn p.a5Y[k] 0 ((a5Y:Int)-1)) rfl ?_;have c:=E k hlt;cases l:within p.a5Y[k] 0 ((a5Y:Int)-1) with
     | false =>rw[l,a7R] at c;simp only[go_sem,a7Z,uu];exact bD (b:=false) rfl (eU hlt c).symm
     | true =>
      rw[l,a7T] at c;obtain⟨u,U⟩:=within_iff.1 l;have w:p.a5Y[k]<(a5Y:Nat):=Om;have e:(dJ (marks a5Y (p.a5Y.take k)))[p.a5Y[k].toNat]?=some [.bool ((p.a5Y.take k).contains p.a5Y[k])]:=by unfold dJ;rw[a8H,zR u w]; rfl
      cases i:(p.a5Y.take k).contains p.a5Y[k] with
      | true =>rw[i] at c e;simp only[go_sem,a7N,u,w,a8G,e,uu];exact bD (b:=false) rfl (eU hlt c).symm
      | false =>
       rw[i] at c e;simp only[go_sem,a7N,u,w,a8G,e,Z9,jX,QJ u w,Mr,wZz k];refine aD (k+1) ⟨hlt,F.step c⟩ Om ?_ ?_
       ·exact Lq
       ·rw[a9G hlt];exact PH.aK a_ Sq
    ·have d:¬ (k:Int)<(p.a5Y.length:Nat):=Om;simp only[go_sem,d,Ms];have:k=p.a5Y.length:=Om;subst this;exact bD (b:=true) rfl (show rC q p.a5Y.length from F).symm
def aEQ:PV→RF
 | .agg [.bool n,a,b]=>⟨n,jD a,jD b⟩
 | _=>⟨false,[],[]⟩
theorem ajT (x:RF):aEQ (.agg x.cells)=x:=by
 show (⟨x.neg,jD (aJ x.num),jD (aJ x.den)⟩:RF)=x;rw[eG,eG]
def flS:Spec:=fun name vs=>match name,vs with
 | 104,[.int _ n,.int _ lo,.int _ hi]=>some ([],fun _=>aF (.bool (within n lo hi)))
 | 105,[x]=>some ([],fun _=>aF (.bool (cS (aEQ x))))
 | 97,[x]=>some ([],fun _=>aF (.bool (bG (aEQ x))))
 | _,_=>none
theorem Kv (n lo hi:Int):flS 104 [.int .i64 n,.int .i64 lo,.int .i64 hi]=some ([],fun _=>aF (.bool (within n lo hi))):=rfl
theorem aPE (x:RF):flS 105 [.agg x.cells]=some ([],fun _=>aF (.bool (cS x))):=by
 show some _=_; rw[ajT]
def akM (f:aE) (t:List cD) (k:Nat):PF:=((((PF.nil.set 1 (.bH f.cells)).set 45 (.sl 7 (t.map cD.cells))).set 46 (.int .i64 (t.length:Nat))).set 47 (.int .i64 k))
theorem Y9 {C:Ctx} (L:rD C) (f:aE) (Y:f.Ok):BG.wp C (aV Ma.res (bY (.bool (nN f)))) (PF.args [.agg f.cells]) .nil:=by
 obtain⟨a7B,a6E,a5Y,a6A,a5X,a6B,a5Z⟩:=f;cases a6A with
 | nil =>rw[show nN ⟨a7B,a6E,a5Y,[],a5X,a6B,a5Z⟩=false from rfl];simp only[go_sem,BG,uo,uq,Ma,a9R,a9Y];have:(((0:Nat):Int)==0)=true:=rfl;simp only[go_sem,this,Za];exact bD rfl rfl
 | cons r t =>
  generalize hF:(⟨a7B,a6E,a5Y,r::t,a5X,a6B,a5Z⟩:aE)=f at *
  have A:f.a6A=r::t:=by rw[← hF]
  have hP:nN f=BB f r t:=by unfold nN; rw[A]
  rw[hP];unfold BB;have e:f.a6A.length=t.length+1:=by rw[A]; rfl
  have Z:=Y.a6A;have H:(f.a6A.map cD.cells)[0]?=some r.cells:=by rw[A]; rfl
  have β:(f.a6A.map cD.cells)[Int.toNat 0]?=some r.cells:=H;have E:=Y.dom;have u:=E r (by rw[A]; exact List.mem_cons_self ..);simp only[go_sem,BG,uo,uq,Ma,a7I,e,bF (Om:((t.length+1:Nat):Int)≠0),Zb,H];refine aR fun o ho=>?_;by_cases w:r.name=[]
  ·rw[decide_eq_true w];by_cases y:r.level=0
   ·rw[decide_eq_true y];by_cases B:r.parent=-1
    ·rw[decide_eq_true B];by_cases J:r.a6R=0
     ·rw[decide_eq_true J];simp only[go_sem,yD,pX w,a7N,cC y,cC B,cC J];refine aA (L.lim r.a6M u.1) rfl ?_;cases c5:cS r.a6M with
      | false =>simp only[go_sem,a7Z,uB];exact bD rfl (by simp only[a8Q,a7R])
      | true =>
       simp only[go_sem,a7N];refine aA (L.lK r.a6M u.1) rfl ?_;cases c6:bG r.a6M with
       | true =>simp only[go_sem,uB];exact bD rfl (by simp only[a7N,a8Q,a7R])
       | false =>
        have S:(0:Int)≤1∧(1:Int)≤((t.length+1:Nat):Int):=Om;have x:((f.a6A.map cD.cells).take (t.length+1)).drop (Int.toNat 1)=t.map cD.cells:=by rw[a8D (by simp[e]),A]; rfl
        have p:((f.a6A.map cD.cells).take (t.length+1)).drop 1=t.map cD.cells:=x;simp only[go_sem,Zc,a7I,e,S,p,a9C];generalize hq:(fun i=>match t[i]? with | some d=>HK f i d | none=>false)=q;have Q:∀ k (h:k<t.length),q k=HK f k t[k]:=by intro k h;rw[← hq];simp only[a7W h]
        refine wp_loop (α:=Nat) (fun k=>akM f t k) (fun k=>.nil) (fun k=>k≤t.length∧rC q k) (fun k=>t.length-k) 0 ⟨a7P _,.zero⟩ ?_ a_ ?_
        ·unfold akM
         (repeat' (first|exact c_|refine d_ ?_ ?_))<;>first|(simp only[go_sem,a7I]<;>rfl)|rfl
        rintro k ⟨hk,X⟩;simp only[go_sem,Mb,Zd,akM];by_cases hlt:k<t.length
        ·have l:(k:Int)<(t.length:Nat):=Om;have R:(t.map cD.cells)[k]?=some (t[k]).cells:=by simp[hlt]
         have N:=E t[k] (by rw[A]; exact List.mem_cons_of_mem _ (a7L hlt));have c:=Q k hlt;unfold HK at c;simp only[go_sem,l,Ze,R];refine aR fun o2 γ=>?_;simp only[go_sem];refine bW .nil flS a_ ?_;simp only[go_sem,Zf];refine bN (Kv _ 0 k) (L.inn (t[k]).parent 0 k) rfl a_ ?_;cases M:within (t[k]).parent 0 k with
         | false =>simp only[M,a7R] at c;simp only[go_sem,a7Z,uA];exact bD (b:=false) rfl (eU hlt c).symm
         | true =>
          obtain⟨i1,i2⟩:=within_iff.1 M;have i3:(t[k]).parent.toNat<f.a6A.length:=Om;have F:(f.a6A.map cD.cells)[(t[k]).parent.toNat]?=some (f.a6A[(t[k]).parent.toNat]).cells:=by simp[i3]
          have O:(f.a6A.map cD.level).getD (t[k]).parent.toNat 0=(f.a6A[(t[k]).parent.toNat]).level:=by simp[i3]
          rw[O,M,a7T] at c;by_cases K:(f.a6A[(t[k]).parent.toNat]).level=IntKind.i64.wrap ((t[k]).level-1)
          ·rw[decide_eq_true K,a7T] at c;simp only[go_sem,a7N,i1,F,cC K];refine bN (Kv _ 1 4) (L.inn (t[k]).level 1 4) rfl a_ ?_;cases U:within (t[k]).level 1 4 with
           | false =>simp only[U,a7R] at c;simp only[go_sem,a7Z,uA];exact bD (b:=false) rfl (eU hlt c).symm
           | true =>
            rw[U,a7T] at c;simp only[go_sem,a7N];refine bN (Kv _ 1 64) (L.inn (t[k]).a6R 1 64) rfl a_ ?_;cases V:within (t[k]).a6R 1 64 with
            | false =>simp only[V,a7R] at c;simp only[go_sem,a7Z,uA];exact bD (b:=false) rfl (eU hlt c).symm
            | true =>
             rw[V,a7T] at c;simp only[go_sem,a7N];refine bN (aPE (t[k]).a6M) (L.lim _ N.1) rfl a_ ?_;cases W:cS (t[k]).a6M with
             | false =>rw[W] at c;simp only[go_sem,a7Z,uA];exact bD (b:=false) rfl (eU hlt c).symm
             | true =>rw[W] at c;simp only[go_sem,a7N,Mc,wZz k];refine aD (k+1) ⟨hlt,X.step c⟩ Om ?_ a_;exact Lq
          ·simp only[decide_eq_false K,a7R] at c;simp only[go_sem,a7N,i1,F,dN K,uA];exact bD (b:=false) rfl (eU hlt c).symm
        ·have l:¬ (k:Int)<(t.length:Nat):=Om;simp only[go_sem,l,Md];have:k=t.length:=Om;subst this;exact bD (b:=true) rfl (show rC q t.length from X).symm
     ·simp only[go_sem,yD,pX w,a7N,cC y,cC B,dN J,uB];exact bD rfl (by rw[decide_eq_false J]; simp only[a8Q,a7R])
    ·simp only[go_sem,yD,pX w,a7N,cC y,dN B,uB];exact bD rfl (by rw[decide_eq_false B]; simp only[a8Q,a7R])
   ·simp only[go_sem,yD,pX w,a7N,dN y,uB];exact bD rfl (by rw[decide_eq_false y]; simp only[a8Q,a7R])
  ·simp only[go_sem,yD,fz w,a7Z,uB];exact bD rfl (by rw[decide_eq_false w]; simp only[a8Q,a7R])
theorem tH (R:List Bool) (i:Nat) (row:List RF):∀ k,(cK R i row k).length=R.length
 | 0=>rfl
 | k+1=>by simp only[cK,a9N,tH R i row k]
theorem Rn (l:cE) (R:List Bool) (i:Nat):(kG l R i).length=R.length:=by
 unfold kG; rw[tH,a9N]
theorem qM (l:cE) (R:List Bool):∀ i,(cV l R i).length=R.length
 | 0=>rfl
 | i+1=>by simp only[cV,Rn,qM l R i]
theorem qL (l:cE):∀ r,(cW l r).length=l.exit.length
 | 0=>by simp[cW]
 | r+1=>by simp only[cW,qM,qL l r]
theorem rI {R:List Bool} {i:Nat} (h:i<R.length):(dJ R)[i]?=some [.bool (R.getD i false)]:=by
 unfold dJ;rw[a8H,a7W h,a8B,a7W h]; rfl
theorem AV (R:List Bool):(dJ R).length=R.length:=by simp[dJ]
def UO (l:cE) (o r:Nat):PF:=(((PF.nil.set 1 (.bH l.cells)).set 3 (.osl o 1 0 l.exit.length)).set 4 (.int .i64 r))
def HM (l:cE) (o r i:Nat):PF:=(((((PF.nil.set 1 (.bH l.cells)).set 3 (.osl o 1 0 l.exit.length)).set 4 (.int .i64 r)).set 19 (.int .i64 (l.exit.length:Nat))).set 20 (.int .i64 i))
def sO (l:cE) (o r i:Nat) (row:List RF) (k:Nat):PF:=(((((((((PF.nil.set 1 (.bH l.cells)).set 3 (.osl o 1 0 l.exit.length)).set 4 (.int .i64 r)).set 19 (.int .i64 (l.exit.length:Nat))).set 20 (.int .i64 i)).set 5 (.int .i64 i)).set 42 (frs row)).set 43 (.int .i64 (row.length:Nat))).set 44 (.int .i64 k))
def gY (o:Nat) (R:List Bool):PH:=PH.nil.set o (.rows 1 (dJ R))
theorem Vu {C:Ctx} (L:rD C) (l:cE) (o r i:Nat) (row:List RF) (B:jR row) (V:row.length=l.exit.length) (hi:i<l.exit.length) (Z:l.exit.length≤4) (d:List Bool) (W:d.length=l.exit.length) (K:bR) (F:PF) (H:PH)
  (M:(sO l o r i row 0).le F) (E:(gY o d).le H)
  (S:∀ F H,(sO l o r i row row.length).le F→(gY o (cK d i row row.length)).le H→K .normal F H) :
  aC.wp C (.block 4 (.loop BH)) K F H:=by
 simp only[go_sem];refine wp_loop (α:=Nat) (fun k=>sO l o r i row k) (fun k=>gY o (cK d i row k)) (fun k=>k≤row.length) (fun k=>row.length-k) 0 (a7P _) M E ?_;intro k Y;simp only[go_sem,BH,Ml,sO,gY];have O:=tH d i row k;by_cases hlt:k<row.length
 ·have e:(k:Int)<(row.length:Nat):=Om;have U:(row.map RF.cells)[k]?=some (row[k]).cells:=by simp[hlt]
  simp only[go_sem,e,zy,U];refine aR fun o7 y=>?_;have J:o≠o7:=by rintro rfl; simp only[aT,if_true] at y; cases y
  have q:(i:Int)<(l.exit.length:Nat):=Om;have x:(k:Int)<(l.exit.length:Nat):=Om;have p:=rI (R:=cK d i row k) (i:=i) Om;have u:=rI (R:=cK d i row k) (i:=k) Om;have w:cK d i row (k+1)=(cK d i row k).set i ((cK d i row k).getD i false||bG row[k]&&(cK d i row k).getD k false):=by simp only[cK,a8B,a8H,a7W hlt,a8Y,baK]
  have fin:∀ (b:Bool) (F:PF) (H:PH),b=((cK d i row k).getD i false||bG row[k]&&(cK d i row k).getD k false)→(sO l o r i row (k+1)).le F→H o=some (.rows 1 ((dJ (cK d i row k)).set i [.bool b])) →
    fJ (fun k=>sO l o r i row k) (fun k=>gY o (cK d i row k)) (fun k=>k≤row.length) (fun k=>row.length-k) (row.length-k) (eX 4 K) .normal F H:=by
   intro b F H N M E;refine aD (k+1) hlt Om M ?_;rw[jX,N,← w] at E;exact PH.aK a_ E
  unfold sO gY at fin;generalize N:(cK d i row k).getD i false=b at *
  generalize X:(cK d i row k).getD k false=c at *
  generalize Q:bG row[k]=A at *
  cases b with
  | true =>simp only[go_sem,PU,J,q,a8G,p,BJ,wZz k];exact fin true _ _ (by simp) Lq Sq
  | false =>
   simp only[go_sem,PU,J,q,a8G,p];refine aA (L.lK _ (B.all _ (a7L hlt))) rfl ?_;rw[Q];cases A with
   | false =>simp only[go_sem,q,x,J,a8G,p,u,BJ,wZz k];exact fin false _ _ (by simp) Lq Sq
   | true =>simp only[go_sem,q,x,J,a8G,p,u,BJ,wZz k];exact fin c _ _ (by simp) Lq Sq
 ·have e:¬ (k:Int)<(row.length:Nat):=Om;simp only[go_sem,e];have:k=row.length:=Om;subst this;exact S _ _ (by unfold sO; exact Lq) (b_)
structure AP (l:cE):Prop where
 n:l.exit.length≤4
 a6C:l.a6C.length=l.exit.length
 row:∀ r∈l.a6C,r.length=l.exit.length
theorem Vv {C:Ctx} (L:rD C) (l:cE) (Q:l.Ok) (N:AP l) (o r:Nat) (R:List Bool) (hR:R.length=l.exit.length) (K:bR) (F:PF) (H:PH)
  (p:(HM l o r 0).le F) (J:(gY o R).le H)
  (hK:∀ F H,(UO l o r).le F→(gY o (cV l R l.exit.length)).le H→K .normal F H) :
  aC.wp C (.block 2 (.loop BI)) K F H:=by
 simp only[go_sem];refine wp_loop (α:=Nat) (fun i=>HM l o r i) (fun i=>gY o (cV l R i)) (fun i=>i≤l.exit.length) (fun i=>l.exit.length-i) 0 (a7P _) p J ?_;intro i hi;have S:=qM l R i;have hn:=N.n;by_cases hlt:i<l.exit.length
 ·have c:(i:Int)<(l.exit.length:Nat):=Om;have e:i<l.a6C.length:=by rw[N.a6C]; exact hlt
  have u:=rI (R:=cV l R i) (i:=i) Om;have hx:(l.exit.map RF.cells)[i]?=some (l.exit[i]).cells:=by simp[hlt]
  have A:(l.a6C.map fun r=>[frs r])[i]?=some [frs l.a6C[i]]:=by simp[e]
  have O:(l.a6C[i]).length=l.exit.length:=N.row _ (a7L e);generalize d:(cV l R i).set i ((cV l R i).getD i false||bG l.exit[i])=B;have y:B.length=l.exit.length:=by rw[← d,a9N]; omega
  have w:cV l R (i+1)=cK B i l.a6C[i] (l.a6C[i]).length:=by
   simp only[cV,kG];have V:(l.exit.map bG).getD i false=bG l.exit[i]:=by simp[a8B,hlt]
   have W:l.a6C.getD i []=l.a6C[i]:=by simp[a8B,e]
   rw[V,W,d]
  have rest:∀ (F:PF) (H:PH),(((((((PF.nil.set 1 (.bH l.cells)).set 3 (.osl o 1 0 l.exit.length)).set 4 (.int .i64 r)).set 19 (.int .i64 (l.exit.length:Nat))).set 20 (.int .i64 i)).set 5 (.int .i64 i)):PF).le F→H o=some (.rows 1 (dJ B)) →
    aC.wp C (.seq (.region ZR) (.block 4 (.loop BH))) (eX 3 (gG C (aC.wp C (.region PW)) (fJ (fun i=>HM l o r i) (fun i=>gY o (cV l R i)) (fun i=>i≤l.exit.length) (fun i=>l.exit.length-i) (l.exit.length-i) (eX 2 K)))) F H:=by
   intro F H p J;have f1:F 1=some (.bH l.cells):=p 1 _ rfl;have f3:F 3=some (.osl o 1 0 l.exit.length):=p 3 _ rfl;have f4:F 4=some (.int .i64 r):=p 4 _ rfl;have X:F 19=some (.int .i64 (l.exit.length:Nat)):=p 19 _ rfl;have Y:F 20=some (.int .i64 i):=p 20 _ rfl;have Z:F 5=some (.int .i64 i):=p 5 _ rfl;rw[xj];simp only[go_sem,ZR,f1,Z,A,a7I];have inner:=Vu L l o r i l.a6C[i] (Q.row _ (a7L e)) O hlt hn B y;simp only[aC.wp,go_sem] at inner;refine inner _ _ _ ?_ (PH.aK a_ J) ?_
   ·unfold sO;exact Lq
   ·intro U H' x M;have E:U 20=some (.int .i64 i):=x 20 _ (by unfold sO; simp only[go_sem]);simp only[go_sem,PW,E,wZz i];refine aD (i+1) hlt Om ?_ (by rw[w]; exact M);have g:=fun (q:Nat) v h=>x q v h;unfold HM;unfold sO at g;refine d_ (d_ (d_ (d_ (d_ c_ ?_) ?_) ?_) ?_) ?_
    ·simp only[go_sem]; exact g 1 _ rfl
    ·simp only[go_sem]; exact g 3 _ rfl
    ·simp only[go_sem]; exact g 4 _ rfl
    ·simp only[go_sem]; exact g 19 _ rfl
    ·simp only[go_sem]
  simp only[aC.wp,go_sem] at rest;simp only[go_sem,BI,ZP,HM,gY,c,Mk];generalize hb:(cV l R i).getD i false=b at *
  cases b with
  | true =>simp only[go_sem,ZQ,c,a8G,u];refine rest _ _ Lq ?_;rw[← d];simp only[go_sem,jX,Bool.true_or]
  | false =>simp only[go_sem,ZQ,c,a8G,u,hx];refine aA (L.lK _ (Q.exit.all _ (a7L hlt))) rfl ?_;simp only[go_sem,c,a8G,u];refine rest _ _ Lq ?_;rw[← d];simp only[go_sem,jX,Bool.false_or]
 ·have c:¬ (i:Int)<(l.exit.length:Nat):=Om;simp only[go_sem,BI,ZP,HM,gY,c];have:i=l.exit.length:=Om;subst this;exact hK _ _ (by unfold UO; exact Lq) b_
theorem Me {C:Ctx} (L:rD C) (l:cE) (E:l.Ok) (y:AP l):IA.wp C (aV Ha.res (bY (.bool (oW l)))) (PF.args [.agg l.cells]) .nil:=by
 have F:=y.n;have u:(l.exit.length:Int)*((1:Nat):Int)≤140737488355328:=Om;have w:(l.exit.length:Int)≤9223372036854775807:=Om;simp only[go_sem,IA,Mf,Mg,Ha,a7I,u,w];refine aR fun o H=>?_;simp only[go_sem,Mh];refine wp_loop (α:=Nat) (fun r=>UO l o r) (fun r=>gY o (cW l r)) (fun r=>r≤l.exit.length+1) (fun r=>l.exit.length+1-r) 0 (a7P _) ?_ ?_ ?_
 ·unfold UO;exact Lq
 ·refine PH.aK a_ ?_;simp only[go_sem,cW];simp[dJ]
 intro r J;have d:=qL l r;simp only[go_sem,zx,Mi,UO,gY];by_cases hlt:r≤l.exit.length
 ·have c:(r:Int)≤(l.exit.length:Nat):=Om;simp only[go_sem,c,Mj];have inner:=Vv L l E y o r (cW l r) d;simp only[aC.wp,go_sem] at inner;refine inner _ _ _ ?_ b_ ?_
  ·unfold HM;exact Lq
  ·intro A H' i p;have g:=fun (q:Nat) v h=>i q v h;unfold UO at g;have g4:A 4=some (.int .i64 r):=g 4 _ rfl;simp only[go_sem,zz,g4,wZz r];refine aD (r+1) Om Om ?_ p;refine d_ (d_ (d_ c_ ?_) ?_) ?_
   ·simp only[go_sem]; exact g 1 _ rfl
   ·simp only[go_sem]; exact g 3 _ rfl
   ·simp only[go_sem]
 ·have c:¬ (r:Int)≤(l.exit.length:Nat):=Om;have:r=l.exit.length+1:=Om;subst this;simp only[go_sem,c,z8];have e:=L.allb id 103 (cW l (l.exit.length+1)) (Om:(cW l (l.exit.length+1)).length≤_) fun x _=>L.ends1 x;have B:(dJ (cW l (l.exit.length+1))).length=l.exit.length:=by rw[AV,d]
  refine rB e (rs:=dJ (cW l (l.exit.length+1))) (o:=o) (s:=1) Sq ?_ ?_
  ·simp only[go_sem,tZ (show l.exit.length≤(dJ (cW l (l.exit.length+1))).length by omega),a8D (show (dJ (cW l (l.exit.length+1))).length≤l.exit.length by omega)]
  ·simp only[go_sem];exact bD rfl rfl
structure NV (C:Ctx):Prop extends ff C where
 ends:∀ l:cE,l.Ok→AP l→aH C 102 [.agg l.cells] .nil (aF (.bool (oW l)))
def rN (l:cE) (i:Nat):Bool:=decide ((l.a6C.getD i []).length=l.start.length)&&(l.a6C.getD i []).all cS&&!((l.a6C.getD i []).map bG).getD i false
def uO (l:cE):Bool:=match nH (l.start.map RF.v) with
 | .ok (n,a,b)=>decide (pM n a b false 1 1=0)
 | .error _=>false
theorem aaI (l:cE):jZ l=(within l.start.length 1 4&&decide (l.exit.length=l.start.length)&&decide (l.a6C.length=l.start.length)&&l.start.all cS&&l.exit.all cS&&(a7J l.a6C.length).all (rN l)&&uO l&&oW l):=rfl
theorem So {l:List FV} {e:Int} (h:nH l=.error e):e≠0:=by
 have:∀ (l:List FV) (b:FV) (e:Int),l.foldlM gJ b=.error e→e≠0:=by
  intro l
  induction l with
  | nil=>intro b e h; cases h
  | cons x t i =>
   intro b e h;rw[List.foldlM_cons] at h;cases c:gJ b x with
   | error d =>
    rw[c] at h;have:d=e:=by injection h
    subst this;obtain⟨p,a1,b1⟩:=b;obtain⟨q,a2,b2⟩:=x;simp only[gJ] at c;split at c
    ·split at c
     ·rw[IU c]; decide
     ·split at c
      ·rw[IU c]; decide
      ·rw[IU c]; decide
    ·injection c with c; subst c; decide
   | ok y=>rw[c] at h; exact i y e h
 exact this l _ e h
theorem aeP {l:List FV} {r:FV} (h:nH l=.ok r):r.rf.Ok:=by
 have:∀ (l:List FV) (b r:FV),b.rf.Ok→l.foldlM gJ b=.ok r→r.rf.Ok:=by
  intro l
  induction l with
  | nil=>intro b r d h; injection h with h; subst h; exact d
  | cons x t e =>
   intro b r d h;rw[List.foldlM_cons] at h;cases c:gJ b x with
   | error i=>rw[c] at h; cases h
   | ok y=>rw[c] at h; exact e y r (tw c) h
 refine this l _ r ⟨aX _,aX _,?_,?_⟩ h
 ·show (aI 0).length≤_;rw[fO]; simp
 ·show (aI 1).length≤_;rw[oL (by decide) (by decide)]; simp
theorem IV {neg:Bool} {a b:Nat} {r:FV} (c:b≠0) (h:iD neg a b=.ok r):cU r.2.1 r.2.2=true:=by
 unfold iD at h;split at h
 ·cases h
 ·rename_i l;injection h with h
  subst h;have d:a7K a b ∣ b:=Nat.gcd_dvd_right _ _;have e:b/a7K a b≠0:=by have:=Nat.div_pos (Nat.le_of_dvd (a9W c) d) (a9W fun h=>c (Nat.gcd_eq_zero_iff.1 h).2);omega
  have i:=@jW (b/a7K a b);simp only[cU,a8A,decide_eq_true_eq];omega
theorem aiQ {x y r:FV} (h:gJ x y=.ok r):cU r.2.1 r.2.2=true:=by
 obtain⟨e,a1,b1⟩:=x;obtain⟨i,a2,b2⟩:=y;simp only[gJ] at h;split at h
 ·rename_i d;rw[a8A] at d;have c:b1*b2≠0:=Nat.mul_ne_zero (fR.1 d.1).1 (fR.1 d.2).1;split at h
  ·exact IV c h
  ·split at h
   ·exact IV c h
   ·exact IV c h
 ·cases h
theorem aqG:cU 0 1=true:=by
 have:cM 1=1:=by rw[pG (by decide),jM]
 simp[cU,this,jM]
theorem oq {l:List FV} {r:FV} (h:nH l=.ok r):cU r.2.1 r.2.2=true:=by
 have:∀ (l:List FV) (b r:FV),cU b.2.1 b.2.2=true→l.foldlM gJ b=.ok r→cU r.2.1 r.2.2=true:=by
  intro l
  induction l with
  | nil=>intro b r d h; injection h with h; subst h; exact d
  | cons x t e =>
   intro b r d h;rw[List.foldlM_cons] at h;cases c:gJ b x with
   | error i=>rw[c] at h; cases h
   | ok y=>rw[c] at h; exact e y r (aiQ c) h
 exact this l _ r aqG h
theorem aFB:(⟨false,[],[]⟩:RF).Ok:=⟨fun _ h=>absurd h (a8E),fun _ h=>absurd h (a8E),show 0≤35184372087808 by decide,show 0≤35184372087808 by decide⟩
def aFZ (l:cE) (k:Nat):PF:=(((((PF.nil.set 1 (.bH l.cells)).set 3 (.int .i64 (l.start.length:Nat))).set 45 (anL l.a6C)).set 46 (.int .i64 (l.a6C.length:Nat))).set 47 (.int .i64 k))
theorem asR {C:Ctx} (L:NV C) (l:cE) (A:l.Ok) (J:AP l) (F:PF) (u:F 1=some (.bH l.cells)) :
  aC.wp C (.seq (.region ZS) (.seq (.region IB) (.seq (.region IC) (.seq (.region uC) .ret)))) (aV [.tmp 2] (bY (.bool (uO l&&oW l)))) F .nil:=by
 simp only[go_sem,ZS,u];refine aA (L.tot l.start A.start) rfl ?_;obtain⟨B,x,y,e,Q⟩:=tX (nH (l.start.map RF.v));have go:∀ (z:RF) (e:Int),z.Ok→(e=0→(BD z.neg (val z.num) (val z.den) false 1 1=.tup [.int .i64 (pM z.neg (val z.num) (val z.den) false 1 1),.int .i64 0])∧uO l=decide (pM z.neg (val z.num) (val z.den) false 1 1=0))→(e≠0→uO l=false) →
   frV (nH (l.start.map RF.v))=.tup [.agg z.cells,.int .i64 e] →
   wpOps C [⟨(some 69),.mv (.tmp 72),none⟩,⟨(some 73),.extract (.tmp 69) 0,none⟩,⟨(some 74),.extract (.tmp 69) 1,none⟩,⟨(some 6),.alloc [(.bool false),.aB,.aB],none⟩,⟨none,.store 3 (.tmp 6) (.tmp 73),none⟩,⟨(some 7),.mv (.tmp 74),none⟩]
    (aC.wp C (.seq (.region IB) (.seq (.region IC) (.seq (.region uC) .ret))) (aV [.tmp 2] (bY (.bool (uO l&&oW l))))) ((((F.set 70 (.bH [frs l.start,anL l.a6C,frs l.exit])).set 71 (frs l.start))).set 72 (.tup [.agg z.cells,.int .i64 e])) .nil:=by
  intro z e N E H _;simp only[go_sem];refine aR fun o6 K=>?_;simp only[go_sem,IB];refine aA (L.frac 1 1 (by decide) (by decide)) rfl ?_;rw[Oe];simp only[go_sem,frV];refine aR fun o8 p=>?_;have O:o6≠o8:=by rintro rfl; simp only[aT,if_true] at p; cases p
  simp only[go_sem,IC,O];refine aA (L.ord z (FV.rf (false,1,1)) N avD) rfl ?_;rw[show val (FV.rf (false,1,1)).num=1 from aW 1,show val (FV.rf (false,1,1)).den=1 from aW 1,show (FV.rf (false,1,1)).neg=false from rfl];by_cases c:e=0
  ·obtain⟨g1,g2⟩:=E c;rw[g1,g2];by_cases d:pM z.neg (val z.num) (val z.den) false 1 1=0
   ·simp only[go_sem,uC,bL c,bL d,u];refine aA (L.ends l A J) rfl ?_;simp only[go_sem];exact bD rfl (by rw[decide_eq_true d,a7T])
   ·simp only[go_sem,uC,bL c,bF d];exact bD rfl (by rw[decide_eq_false d,a7R])
  ·rw[H c];have:∃ v w,BD z.neg (val z.num) (val z.den) false 1 1=.tup [.int .i64 v,.int .i64 w]:=by
    unfold BD;split
    ·exact⟨_,_,rfl⟩
    ·exact⟨_,_,rfl⟩
   obtain⟨v,w,q⟩:=this;rw[q];simp only[go_sem,uC,bF c];exact bD rfl rfl
 cases i:nH (l.start.map RF.v) with
 | error e =>rw[i] at go;exact go ⟨false,[],[]⟩ e aFB (fun h=>absurd h (So i)) (fun _=>by rw[uO,i]) rfl
 | ok r =>obtain⟨n,a,b⟩:=r;rw[i] at go;have M:=aeP i;refine go (FV.rf (n,a,b)) 0 M (fun _=>?_) (fun h=>absurd rfl h) rfl;rw[show val (FV.rf (n,a,b)).num=a from aW a,show val (FV.rf (n,a,b)).den=b from aW b,show (FV.rf (n,a,b)).neg=n from rfl];refine⟨?_,by rw[uO,i]⟩;have q:cU a b=true:=oq i;rw[BD,q,Es];rfl
theorem Zg {C:Ctx} (L:NV C) (l:cE) (w:l.Ok):PX.wp C (aV akN.res (bY (.bool (jZ l)))) (PF.args [.agg l.cells]) .nil:=by
 rw[aaI];simp only[go_sem,PX,Zh,Zi,akN,Zj,a7I];refine aA (L.inn l.start.length 1 4) rfl ?_;cases K:within l.start.length 1 4 with
 | false =>simp only[go_sem,a7Z,yE];exact bD rfl (by simp only[a7R])
 | true =>
  obtain⟨S,U⟩:=within_iff.1 K;by_cases A:l.exit.length=l.start.length
  ·rw[decide_eq_true A];by_cases B:l.a6C.length=l.start.length
   ·rw[decide_eq_true B];simp only[go_sem,a7N,a7I,cC (Om:(l.exit.length:Int)=(l.start.length:Nat)),cC (Om:(l.a6C.length:Int)=(l.start.length:Nat))];refine aA (L.aGE l.start w.start) rfl ?_;cases O:l.start.all cS with
    | false =>simp only[go_sem,a7Z,yE];exact bD rfl (by simp only[a7R])
    | true =>
     simp only[go_sem,a7N];refine aA (L.aGE l.exit w.exit) rfl ?_;cases Q:l.exit.all cS with
     | false =>simp only[go_sem,a7Z,yE];exact bD rfl (by simp only[a7R])
     | true =>
      simp only[go_sem,a7N,Zk,a7I];have u:∀ k (h:k<l.a6C.length),rN l k=(decide ((l.a6C[k]).length=l.start.length)&&(l.a6C[k]).all cS&&!((l.a6C[k]).map bG).getD k false):=by
       intro k h;have:l.a6C.getD k []=l.a6C[k]:=by simp[a8B,h]
       rw[rN,this]
      refine wp_loop (α:=Nat) (fun k=>aFZ l k) (fun _=>.nil) (fun k=>k≤l.a6C.length∧rC (rN l) k) (fun k=>l.a6C.length-k) 0 ⟨a7P _,.zero⟩ ?_ a_ ?_
      ·unfold aFZ
       (repeat' (first|exact c_|refine d_ ?_ ?_))<;>first|(simp only[go_sem,a7I]<;>rfl)|rfl
      rintro k ⟨R,J⟩;simp only[go_sem,Mm,Zl,aFZ];by_cases hlt:k<l.a6C.length
      ·have d:(k:Int)<(l.a6C.length:Nat):=Om;have y:(l.a6C.map fun r=>[frs r])[k]?=some [frs l.a6C[k]]:=by simp[hlt]
       have c:=u k hlt;have p:=w.row l.a6C[k] (a7L hlt);simp only[go_sem,d,Zm,y,Zn,a7I];by_cases E:(l.a6C[k]).length=l.start.length
       ·rw[decide_eq_true E,a7T] at c;simp only[go_sem,cC (show (((l.a6C[k]).length:Nat):Int)=(l.start.length:Nat) by omega)];refine aA (L.aGE _ p) rfl ?_;cases F:(l.a6C[k]).all cS with
        | false =>rw[F,a7R] at c;simp only[go_sem,a7Z,UR];refine bD (b:=false) rfl ?_;have:(a7J l.a6C.length).all (rN l)=false:=eU hlt c;rw[this]; simp only[a7R,a8Q]
        | true =>
         have q:k<(l.a6C[k]).length:=Om;have N:((l.a6C[k]).map RF.cells)[k]?=some ((l.a6C[k])[k]).cells:=by simp[q]
         have x:((l.a6C[k]).map bG).getD k false=bG (l.a6C[k])[k]:=by simp[a8B,q]
         rw[F,a7T,x] at c;simp only[go_sem,a7N,N];refine aA (L.lK _ (p.all _ (a7L q))) rfl ?_;cases H:bG (l.a6C[k])[k] with
         | true =>rw[H] at c;simp only[go_sem,UR];refine bD (b:=false) rfl ?_;have:(a7J l.a6C.length).all (rN l)=false:=eU hlt c;rw[this]; simp only[a7R,a8Q]
         | false =>rw[H] at c;simp only[go_sem,Zo,wZz k];refine aD (k+1) ⟨hlt,J.step c⟩ Om ?_ a_;exact Lq
       ·simp only[decide_eq_false E,a7R] at c;simp only[go_sem,dN (show (((l.a6C[k]).length:Nat):Int)≠(l.start.length:Nat) by omega),UR];refine bD (b:=false) rfl ?_;have:(a7J l.a6C.length).all (rN l)=false:=eU hlt c;rw[this]; simp only[a7R,a8Q]
      ·have d:¬ (k:Int)<(l.a6C.length:Nat):=Om;have:k=l.a6C.length:=Om;subst this;have e:(a7J l.a6C.length).all (rN l)=true:=J;have M:AP l:=⟨by omega,by omega,fun r y=>by obtain⟨i,hi,rfl⟩:=a8U y;have:=a7Y.1 e i (a8M.2 hi);rw[u i hi] at this;simp only[a8A,decide_eq_true_eq] at this;omega⟩
       have tail:=asR L l w M;simp only[aC.wp,go_sem] at tail;rw[e];simp only[go_sem,d,a7T,a9P];exact tail _ rfl
   ·simp only[go_sem,a7N,a7I,cC (Om:(l.exit.length:Int)=(l.start.length:Nat)),dN (Om:(l.a6C.length:Int)≠(l.start.length:Nat)),yE];exact bD rfl (by rw[decide_eq_false B]; simp only[a7R,a8Q])
  ·simp only[go_sem,a7N,a7I,dN (Om:(l.exit.length:Int)≠(l.start.length:Nat)),yE];exact bD rfl (by rw[decide_eq_false A]; simp only[a7R,a8Q])
structure jV (C:Ctx):Prop extends NV C where
 law:∀ l:cE,l.Ok→aH C 95 [.agg l.cells] .nil (aF (.bool (jZ l)))
 pol:∀ (p:bS) (n:Nat),p.Ok→n≤4→aH C 112 [.agg p.cells,.int .i64 n] .nil (aF (.bool (jI n p)))
 a6G:∀ f:aE,f.Ok→aH C 111 [.agg f.cells] .nil (aF (.bool (nN f)))
abbrev fA (l:List (List UInt8)):List (List PV):=l.map fun s=>[PV.str s]
theorem vZ (l:List (List UInt8)) {k:Nat} (h:k<l.length):fA (l.take k)++[[.str l[k]]]=fA (l.take (k+1)):=by
 unfold fA;rw[a9G h,a8I]; rfl
theorem sC {l:List (List UInt8)} (h:l.length≤1000):roomFor (fA l).length 1 16:=by
 unfold roomFor fA;simp only[a7I,maxLen]; omega
def iV {α:Type} (l:List α) (p:α→Bool) (k:Nat):Bool:=(l.take k).all p
theorem sJ {α:Type} (l:List α) (p:α→Bool):iV l p 0=true:=rfl
theorem sI {α:Type} (l:List α) (p:α→Bool) {k:Nat} (h:k<l.length):iV l p (k+1)=(iV l p k&&p l[k]):=by
 unfold iV;rw[a9G h,List.all_append]; simp
theorem vL {α:Type} (l:List α) (p:α→Bool):iV l p l.length=l.all p:=by unfold iV; rw[a8K]
def jB (f:aE) (c d e i l:PV) (ok:Bool):PF:=(((((((PF.nil.set 1 (.bH f.cells)).set 3 (c)).set 4 (d)).set 5 (e)).set 6 (i)).set 7 (l)).set 8 (.bool ok))
structure kO (F:PF) (f:aE) (w3 w4 w5 w6 w7:PV) (ok:Bool):Prop where
 a1:F 1=some (.bH f.cells)
 a3:F 3=some w3
 a4:F 4=some w4
 a5:F 5=some w5
 a6:F 6=some w6
 a7:F 7=some w7
 a8:F 8=some (.bool ok)
theorem akU {C:Ctx} (L:jV C) (f:aE) (O:f.Ok) (V:f.a6E.length≤4) (y A B E:PV) (K:bR) (F:PF) (H:PH) (i:kO F f .aB y A B E true)
  (u:F 67=some (.sl 4 (f.a6E.map cE.cells))) (w:F 68=some (.int .i64 (f.a6E.length:Nat))) (x:F 69=some (.int .i64 0))
  (N:∀ v J H',kO J f v y A B E (f.a6E.all jZ)→bQ H' 1 v (fA (f.a6E.map cE.name))→K (.exit 0) J H') :
  aC.wp C (.loop IG) K F H:=by
 refine wp_loop (α:=Nat × PV × PH) (fun t=>(((jB f t.2.1 y A B E (iV f.a6E jZ t.1)).set 67 (.sl 4 (f.a6E.map cE.cells))).set 68 (.int .i64 (f.a6E.length:Nat))).set 69 (.int .i64 t.1)) (fun t=>t.2.2)
  (fun t=>t.1≤f.a6E.length∧bQ t.2.2 1 t.2.1 (fA ((f.a6E.map cE.name).take t.1))) (fun t=>f.a6E.length-t.1) (0,.aB,.nil) ⟨a7P _,.nil⟩ ?_ a_ ?_
 ·unfold jB
  (repeat' (first|exact c_|refine d_ ?_ ?_))<;>first|(simp only[go_sem,i.a1,i.a3,i.a4,i.a5,i.a6,i.a7,i.a8,u,w,x,sJ]<;>rfl)|rfl
 rintro⟨k,v,U⟩ ⟨Q,q⟩;simp only at Q q ⊢;simp only[go_sem,IG,aaF,jB];by_cases hlt:k<f.a6E.length
 ·have d:(k:Int)<(f.a6E.length:Nat):=Om;have S:(f.a6E.map cE.cells)[k]?=some (f.a6E[k]).cells:=by simp[hlt]
  have p:=vZ (f.a6E.map cE.name) (k:=k) (by simpa using hlt);rw[a9D] at p;simp only[go_sem,d,aaG,S];refine aR fun o R=>?_;simp only[go_sem,aaH];refine mZ q R (sC (by simp; omega)) fun v' H' e l=>?_;rw[p] at e;have c:=sI f.a6E jZ hlt;cases M:iV f.a6E jZ k with
  | false =>rw[M,a7R] at c;simp only[go_sem,uw,l,ZY,wZz k];refine aD (k+1,v',H') ⟨hlt,e⟩ (by simp only; omega) ?_ b_;simp only[c];exact Lq
  | true =>rw[M,a7T] at c;simp only[go_sem,uw,l];refine aA (L.law _ (O.law _ (a7L hlt))) Ev ?_;simp only[go_sem,ZY,wZz k];refine aD (k+1,v',H') ⟨hlt,e⟩ (by simp only; omega) ?_ b_;simp only[c];exact Lq
 ·have d:¬ (k:Int)<(f.a6E.length:Nat):=Om;have:k=f.a6E.length:=Om;subst this;rw[a8D (by simp)] at q;rw[vL];simp only[go_sem,d];exact N v _ _ ⟨by simp only[go_sem],by simp only[go_sem],by simp only[go_sem],by simp only[go_sem],by simp only[go_sem],by simp only[go_sem],by simp only[go_sem]⟩ q
theorem CD {n:Nat} (h:n≤1000):IntKind.i64.wrap ((n:Int)-1)=(n:Int)-1:=wrap_i64 Om Om
theorem akV {C:Ctx} (L:jV C) (f:aE) (hs:f.a5Y.length≤4) (hl:f.a6E.length≤4) (q:Bool) (y A B E:PV) (K:bR) (F:PF) (H:PH) (l:kO F f y .aB A B E q)
  (N:F 85=some (.sl 4 (f.a5Y.map cT.cells))) (O:F 86=some (.int .i64 (f.a5Y.length:Nat))) (Q:F 87=some (.int .i64 0))
  (V:∀ v p H',kO p f y v A B E (q&&f.a5Y.all (kB f))→bQ H' 1 v (fA (f.a5Y.map cT.name))→K (.exit 2) p H') :
  aC.wp C (.loop IH) K F H:=by
 refine wp_loop (α:=Nat × PV × PH) (fun t=>(((jB f y t.2.1 A B E (q&&iV f.a5Y (kB f) t.1)).set 85 (.sl 4 (f.a5Y.map cT.cells))).set 86 (.int .i64 (f.a5Y.length:Nat))).set 87 (.int .i64 t.1)) (fun t=>t.2.2)
  (fun t=>t.1≤f.a5Y.length∧bQ t.2.2 1 t.2.1 (fA ((f.a5Y.map cT.name).take t.1))) (fun t=>f.a5Y.length-t.1) (0,.aB,.nil) ⟨a7P _,.nil⟩ ?_ a_ ?_
 ·unfold jB
  (repeat' (first|exact c_|refine d_ ?_ ?_))<;>first|(simp only[go_sem,l.a1,l.a3,l.a4,l.a5,l.a6,l.a7,l.a8,N,O,Q,sJ,a9P]<;>rfl)|rfl
 rintro⟨k,v,H0⟩ ⟨X,J⟩;simp only at X J ⊢;simp only[go_sem,IH,M9,jB];by_cases hlt:k<f.a5Y.length
 ·have d:(k:Int)<(f.a5Y.length:Nat):=Om;have Z:(f.a5Y.map cT.cells)[k]?=some (f.a5Y[k]).cells:=by simp[hlt]
  have x:=vZ (f.a5Y.map cT.name) (k:=k) (by simpa using hlt);rw[a9D] at x;simp only[go_sem,d,Nb,Z];refine aR fun o Y=>?_;simp only[go_sem,Nc];refine mZ J Y (sC (by simp; omega)) fun v' H' u e=>?_;rw[x] at u;have i:=sI f.a5Y (kB f) hlt;have fin:∀ (c:Bool) (p:PF),c=(q&&iV f.a5Y (kB f) (k+1))→((((jB f y v' A B E c).set 85 (.sl 4 (f.a5Y.map cT.cells))).set 86 (.int .i64 (f.a5Y.length:Nat))).set 87 (.int .i64 (k+1:Nat))).le p →
    fJ (fun (t:Nat × PV × PH)=>(((jB f y t.2.1 A B E (q&&iV f.a5Y (kB f) t.1)).set 85 (.sl 4 (f.a5Y.map cT.cells))).set 86 (.int .i64 (f.a5Y.length:Nat))).set 87 (.int .i64 t.1)) (fun (t:Nat × PV × PH)=>t.2.2)  (fun (t:Nat × PV × PH)=>t.1≤f.a5Y.length∧bQ t.2.2 1 t.2.1 (fA ((f.a5Y.map cT.name).take t.1))) (fun (t:Nat × PV × PH)=>f.a5Y.length-t.1) (f.a5Y.length-k) K .normal p H':=by
   intro c p W w;refine aD (α:=Nat × PV × PH) (k+1,v',H') ⟨hlt,u⟩ (by simp only; omega) ?_ b_;rw[W] at w;exact w
  unfold jB at fin;rw[i,← baL] at fin;have R:kB f f.a5Y[k]=(within (f.a5Y[k]).a6N 1 16&&within (f.a5Y[k]).port 1 64&&within (f.a5Y[k]).law 0 ((f.a6E.length:Int)-1)):=rfl;cases U:(q&&iV f.a5Y (kB f) k) with
  | false =>rw[U,a7R] at fin;simp only[go_sem,aa,e,zN,wZz k];refine fin false _ rfl ?_;exact Lq
  | true =>
   rw[U,a7T] at fin;simp only[go_sem,aa,e];refine aA (L.inn _ 1 16) Ev ?_;cases M:within (f.a5Y[k]).a6N 1 16 with
   | false =>simp only[go_sem,zN,wZz k];refine fin false _ (by rw[R,M]; simp only[a7R]) ?_;exact Lq
   | true =>
    simp only[go_sem,e];refine aA (L.inn _ 1 64) Ev ?_;cases S:within (f.a5Y[k]).port 1 64 with
    | false =>simp only[go_sem,zN,wZz k];refine fin false _ (by rw[R,M,S]; simp only[a7R,a8Q]) ?_;exact Lq
    | true =>simp only[go_sem,e,a7I,CD (Om:f.a6E.length≤1000)];refine aA (L.inn _ 0 _) Ev ?_;simp only[go_sem,zN,wZz k];refine fin (within (f.a5Y[k]).law 0 ((f.a6E.length:Int)-1)) _ (by rw[R,M,S]; simp only[a7T]) ?_;exact Lq
 ·have d:¬ (k:Int)<(f.a5Y.length:Nat):=Om;have:k=f.a5Y.length:=Om;subst this;rw[a8D (by simp)] at J;rw[vL];simp only[go_sem,d];exact V v _ _ ⟨by simp only[go_sem],by simp only[go_sem],by simp only[go_sem],by simp only[go_sem],by simp only[go_sem],by simp only[go_sem],by simp only[go_sem]⟩ J
theorem akW {C:Ctx} (L:jV C) (f:aE) (t:List cD) (S:t.length≤40) (p:Bool) (x y A B:PV) (K:bR) (F:PF) (H:PH) (d:kO F f x y .aB A B p)
  (q:F 119=some (.sl 7 (t.map cD.cells))) (u:F 120=some (.int .i64 (t.length:Nat))) (w:F 121=some (.int .i64 0))
  (J:∀ v E H',kO E f x y v A B p→bQ H' 1 v (fA (t.map cD.name))→K (.exit 4) E H') :
  aC.wp C (.loop II) K F H:=by
 refine wp_loop (α:=Nat × PV × PH) (fun a=>(((jB f x y a.2.1 A B p).set 119 (.sl 7 (t.map cD.cells))).set 120 (.int .i64 (t.length:Nat))).set 121 (.int .i64 a.1)) (fun a=>a.2.2)
  (fun a=>a.1≤t.length∧bQ a.2.2 1 a.2.1 (fA ((t.map cD.name).take a.1))) (fun a=>t.length-a.1) (0,.aB,.nil) ⟨a7P _,.nil⟩ ?_ a_ ?_
 ·unfold jB
  (repeat' (first|exact c_|refine d_ ?_ ?_))<;>first|(simp only[go_sem,d.a1,d.a3,d.a4,d.a5,d.a6,d.a7,d.a8,q,u,w]<;>rfl)|rfl
 rintro⟨k,v,R⟩ ⟨M,l⟩;simp only at M l ⊢;simp only[go_sem,II,Nd,jB];by_cases hlt:k<t.length
 ·have c:(k:Int)<(t.length:Nat):=Om;have Q:(t.map cD.cells)[k]?=some (t[k]).cells:=by simp[hlt]
  have i:=vZ (t.map cD.name) (k:=k) (by simpa using hlt);rw[a9D] at i;simp only[go_sem,c,Nf,Q];refine aR fun o N=>?_;simp only[go_sem,Ng];refine mZ l N (sC (by simp; omega)) fun v' H' e O=>?_;rw[i] at e;simp only[go_sem,Nh,wZz k];refine aD (k+1,v',H') ⟨hlt,e⟩ (by simp only; omega) ?_ b_;exact Lq
 ·have c:¬ (k:Int)<(t.length:Nat):=Om;have:k=t.length:=Om;subst this;rw[a8D (by simp)] at l;simp only[go_sem,c];exact J v _ _ ⟨by simp only[go_sem],by simp only[go_sem],by simp only[go_sem],by simp only[go_sem],by simp only[go_sem],by simp only[go_sem],by simp only[go_sem]⟩ l
theorem akX {C:Ctx} (L:jV C) (f:aE) (d:List (List UInt8)) (hn:d.length≤40) (hs:f.a5X.length≤24) (hm:f.a5Y.length≤4) (hd:f.a6A.length≤40) (w:Bool) (B E Y J M:PV) (K:bR) (F:PF) (H:PH) (q:kO F f B E Y J M w)
  (h0:bQ H 1 Y (fA d))
  (S:F 132=some (.sl 3 (f.a5X.map dH.cells))) (U:F 133=some (.int .i64 (f.a5X.length:Nat))) (V:F 134=some (.int .i64 0))
  (hK:∀ v u H',kO u f B E v J M (w&&f.a5X.all (iJ f))→bQ H' 1 v (fA (d++f.a5X.map dH.name))→K (.exit 6) u H') :
  aC.wp C (.loop IJ) K F H:=by
 refine wp_loop (α:=Nat × PV × PH) (fun t=>(((jB f B E t.2.1 J M (w&&iV f.a5X (iJ f) t.1)).set 132 (.sl 3 (f.a5X.map dH.cells))).set 133 (.int .i64 (f.a5X.length:Nat))).set 134 (.int .i64 t.1)) (fun t=>t.2.2)
  (fun t=>t.1≤f.a5X.length∧bQ t.2.2 1 t.2.1 (fA (d++(f.a5X.map dH.name).take t.1))) (fun t=>f.a5X.length-t.1) (0,Y,H) ⟨a7P _,by rw[List.take_zero,a9I]; exact h0⟩ ?_ b_ ?_
 ·unfold jB
  (repeat' (first|exact c_|refine d_ ?_ ?_))<;>first|(simp only[go_sem,q.a1,q.a3,q.a4,q.a5,q.a6,q.a7,q.a8,S,U,V,sJ,a9P]<;>rfl)|rfl
 rintro⟨k,v,H0⟩ ⟨hk,R⟩;simp only at hk R ⊢;simp only[go_sem,IJ,Ni,jB];by_cases hlt:k<f.a5X.length
 ·have e:(k:Int)<(f.a5X.length:Nat):=Om;have hr:(f.a5X.map dH.cells)[k]?=some (f.a5X[k]).cells:=by simp[hlt]
  have X:fA (d++(f.a5X.map dH.name).take k)++[[.str (f.a5X[k]).name]]=fA (d++(f.a5X.map dH.name).take (k+1)):=by rw[a9G (by simpa using hlt),← a8S,a9D];unfold fA;simp only[a8I,a8X,a9R]
  simp only[go_sem,e,Nj,hr];refine aR fun o ho=>?_;simp only[go_sem,Nk];refine mZ R ho (sC (by simp; omega)) fun v' H' x l=>?_;rw[X] at x;have p:=sI f.a5X (iJ f) hlt;have fin:∀ (c:Bool) (u:PF),c=(w&&iV f.a5X (iJ f) (k+1))→((((jB f B E v' J M c).set 132 (.sl 3 (f.a5X.map dH.cells))).set 133 (.int .i64 (f.a5X.length:Nat))).set 134 (.int .i64 (k+1:Nat))).le u →
    fJ (fun (t:Nat × PV × PH)=>(((jB f B E t.2.1 J M (w&&iV f.a5X (iJ f) t.1)).set 132 (.sl 3 (f.a5X.map dH.cells))).set 133 (.int .i64 (f.a5X.length:Nat))).set 134 (.int .i64 t.1)) (fun (t:Nat × PV × PH)=>t.2.2)  (fun (t:Nat × PV × PH)=>t.1≤f.a5X.length∧bQ t.2.2 1 t.2.1 (fA (d++(f.a5X.map dH.name).take t.1))) (fun (t:Nat × PV × PH)=>f.a5X.length-t.1) (f.a5X.length-k) K .normal u H':=by
   intro c u hc y;refine aD (α:=Nat × PV × PH) (k+1,v',H') ⟨hlt,x⟩ (by simp only; omega) ?_ b_;rw[hc] at y;exact y
  unfold jB at fin;rw[p,← baL] at fin;have i:iJ f f.a5X[k]=(within (f.a5X[k]).model 0 ((f.a5Y.length:Int)-1)&&within (f.a5X[k]).machine 0 ((f.a6A.length:Int)-1)&&decide ((f.a6A.map cD.level).getD (f.a5X[k]).machine.toNat 0=4)):=rfl;cases Z:(w&&iV f.a5X (iJ f) k) with
  | false =>rw[Z,a7R] at fin;simp only[go_sem,aj,l,uD,wZz k];refine fin false _ rfl ?_;exact Lq
  | true =>
   rw[Z,a7T] at fin;simp only[go_sem,aj,l,a7I,CD (Om:f.a5Y.length≤1000)];refine aA (L.inn _ 0 _) Ev ?_;cases N:within (f.a5X[k]).model 0 ((f.a5Y.length:Int)-1) with
   | false =>simp only[go_sem,uD,wZz k];refine fin false _ (by rw[i,N]; simp only[a7R]) ?_;exact Lq
   | true =>
    simp only[go_sem,l,a7I,CD (Om:f.a6A.length≤1000)];refine aA (L.inn _ 0 _) Ev ?_;cases O:within (f.a5X[k]).machine 0 ((f.a6A.length:Int)-1) with
    | false =>simp only[go_sem,uD,wZz k];refine fin false _ (by rw[i,N,O]; simp only[a7R,a8Q]) ?_;exact Lq
    | true =>
     obtain⟨i1,i2⟩:=within_iff.1 O;have i3:(f.a5X[k]).machine.toNat<f.a6A.length:=Om;have A:(f.a6A.map cD.cells)[(f.a5X[k]).machine.toNat]?=some (f.a6A[(f.a5X[k]).machine.toNat]).cells:=by simp[i3]
     have W:(f.a6A.map cD.level).getD (f.a5X[k]).machine.toNat 0=(f.a6A[(f.a5X[k]).machine.toNat]).level:=by simp[i3]
     rw[W] at i;by_cases Q:(f.a6A[(f.a5X[k]).machine.toNat]).level=4
     ·simp only[go_sem,l,i1,A,bL Q,uD,wZz k];refine fin true _ (by rw[i,N,O,decide_eq_true Q]; rfl) ?_;exact Lq
     ·simp only[go_sem,l,i1,A,bF Q,uD,wZz k];refine fin false _ (by rw[i,N,O,decide_eq_false Q]; rfl) ?_;exact Lq
 ·have e:¬ (k:Int)<(f.a5X.length:Nat):=Om;have:k=f.a5X.length:=Om;subst this;rw[a8D (by simp)] at R;rw[vL];simp only[go_sem,e];exact hK v _ _ ⟨by simp only[go_sem],by simp only[go_sem],by simp only[go_sem],by simp only[go_sem],by simp only[go_sem],by simp only[go_sem],by simp only[go_sem]⟩ R
theorem akY {C:Ctx} (L:jV C) (f:aE) (U:f.Ok) (hs:f.a6B.length≤4) (W:f.a5Y.length≤4) (p:Bool) (y A B E:PV) (K:bR) (F:PF) (H:PH) (i:kO F f y A B .aB E p)
  (M:F 174=some (.sl 17 (f.a6B.map bS.cells))) (N:F 175=some (.int .i64 (f.a6B.length:Nat))) (O:F 176=some (.int .i64 0))
  (R:∀ v l H',kO l f y A B v E (p&&f.a6B.all (jI f.a5Y.length))→bQ H' 1 v (fA (f.a6B.map bS.name))→K (.exit 8) l H') :
  aC.wp C (.loop IK) K F H:=by
 refine wp_loop (α:=Nat × PV × PH) (fun t=>(((jB f y A B t.2.1 E (p&&iV f.a6B (jI f.a5Y.length) t.1)).set 174 (.sl 17 (f.a6B.map bS.cells))).set 175 (.int .i64 (f.a6B.length:Nat))).set 176 (.int .i64 t.1)) (fun t=>t.2.2)
  (fun t=>t.1≤f.a6B.length∧bQ t.2.2 1 t.2.1 (fA ((f.a6B.map bS.name).take t.1))) (fun t=>f.a6B.length-t.1) (0,.aB,.nil) ⟨a7P _,.nil⟩ ?_ a_ ?_
 ·unfold jB
  (repeat' (first|exact c_|refine d_ ?_ ?_))<;>first|(simp only[go_sem,i.a1,i.a3,i.a4,i.a5,i.a6,i.a7,i.a8,M,N,O,sJ,a9P]<;>rfl)|rfl
 rintro⟨k,v,Z⟩ ⟨V,J⟩;simp only at V J ⊢;simp only[go_sem,IK,Nl,jB];by_cases hlt:k<f.a6B.length
 ·have d:(k:Int)<(f.a6B.length:Nat):=Om;have Y:(f.a6B.map bS.cells)[k]?=some (f.a6B[k]).cells:=by simp[hlt]
  have x:=vZ (f.a6B.map bS.name) (k:=k) (by simpa using hlt);rw[a9D] at x;simp only[go_sem,d,Nm,Y];refine aR fun o X=>?_;simp only[go_sem,Nn];refine mZ J X (sC (by simp; omega)) fun v' H' q w=>?_;rw[x] at q;have e:=sI f.a6B (jI f.a5Y.length) hlt;have fin:∀ (c:Bool) (l:PF),c=(p&&iV f.a6B (jI f.a5Y.length) (k+1))→((((jB f y A B v' E c).set 174 (.sl 17 (f.a6B.map bS.cells))).set 175 (.int .i64 (f.a6B.length:Nat))).set 176 (.int .i64 (k+1:Nat))).le l →
    fJ (fun (t:Nat × PV × PH)=>(((jB f y A B t.2.1 E (p&&iV f.a6B (jI f.a5Y.length) t.1)).set 174 (.sl 17 (f.a6B.map bS.cells))).set 175 (.int .i64 (f.a6B.length:Nat))).set 176 (.int .i64 t.1)) (fun (t:Nat × PV × PH)=>t.2.2)  (fun (t:Nat × PV × PH)=>t.1≤f.a6B.length∧bQ t.2.2 1 t.2.1 (fA ((f.a6B.map bS.name).take t.1))) (fun (t:Nat × PV × PH)=>f.a6B.length-t.1) (f.a6B.length-k) K .normal l H':=by
   intro c l S u;refine aD (α:=Nat × PV × PH) (k+1,v',H') ⟨hlt,q⟩ (by simp only; omega) ?_ b_;rw[S] at u;exact u
  unfold jB at fin;rw[e,← baL] at fin;cases Q:(p&&iV f.a6B (jI f.a5Y.length) k) with
  | false =>rw[Q,a7R] at fin;simp only[go_sem,an,w,ao,wZz k];refine fin false _ rfl ?_;exact Lq
  | true =>rw[Q,a7T] at fin;simp only[go_sem,an,w,a7I];refine aA (L.pol _ _ (U.a6J _ (a7L hlt)) W) Ev ?_;simp only[go_sem,ao,wZz k];refine fin _ _ rfl ?_;exact Lq
 ·have d:¬ (k:Int)<(f.a6B.length:Nat):=Om;have:k=f.a6B.length:=Om;subst this;rw[a8D (by simp)] at J;rw[vL];simp only[go_sem,d];exact R v _ _ ⟨by simp only[go_sem],by simp only[go_sem],by simp only[go_sem],by simp only[go_sem],by simp only[go_sem],by simp only[go_sem],by simp only[go_sem]⟩ J
theorem akZ {C:Ctx} (L:jV C) (f:aE) (hs:f.a5Z.length≤12) (Z:f.a6B.length≤4) (p:Bool) (y A B E:PV) (K:bR) (F:PF) (H:PH) (i:kO F f y A B E .aB p)
  (M:F 195=some (.sl 2 (f.a5Z.map eW.cells))) (N:F 196=some (.int .i64 (f.a5Z.length:Nat))) (O:F 197=some (.int .i64 0))
  (R:∀ v l H',kO l f y A B E v (p&&f.a5Z.all (oC f))→bQ H' 1 v (fA (f.a5Z.map eW.name))→K (.exit 10) l H') :
  aC.wp C (.loop IL) K F H:=by
 refine wp_loop (α:=Nat × PV × PH) (fun t=>(((jB f y A B E t.2.1 (p&&iV f.a5Z (oC f) t.1)).set 195 (.sl 2 (f.a5Z.map eW.cells))).set 196 (.int .i64 (f.a5Z.length:Nat))).set 197 (.int .i64 t.1)) (fun t=>t.2.2)
  (fun t=>t.1≤f.a5Z.length∧bQ t.2.2 1 t.2.1 (fA ((f.a5Z.map eW.name).take t.1))) (fun t=>f.a5Z.length-t.1) (0,.aB,.nil) ⟨a7P _,.nil⟩ ?_ a_ ?_
 ·unfold jB
  (repeat' (first|exact c_|refine d_ ?_ ?_))<;>first|(simp only[go_sem,i.a1,i.a3,i.a4,i.a5,i.a6,i.a7,i.a8,M,N,O,sJ,a9P]<;>rfl)|rfl
 rintro⟨k,v,Y⟩ ⟨U,J⟩;simp only at U J ⊢;simp only[go_sem,IL,No,jB];by_cases hlt:k<f.a5Z.length
 ·have d:(k:Int)<(f.a5Z.length:Nat):=Om;have X:(f.a5Z.map eW.cells)[k]?=some (f.a5Z[k]).cells:=by simp[hlt]
  have x:=vZ (f.a5Z.map eW.name) (k:=k) (by simpa using hlt);rw[a9D] at x;simp only[go_sem,d,Np,X];refine aR fun o W=>?_;simp only[go_sem,Nq];refine mZ J W (sC (by simp; omega)) fun v' H' q w=>?_;rw[x] at q;have e:=sI f.a5Z (oC f) hlt;have fin:∀ (c:Bool) (l:PF),c=(p&&iV f.a5Z (oC f) (k+1))→((((jB f y A B E v' c).set 195 (.sl 2 (f.a5Z.map eW.cells))).set 196 (.int .i64 (f.a5Z.length:Nat))).set 197 (.int .i64 (k+1:Nat))).le l →
    fJ (fun (t:Nat × PV × PH)=>(((jB f y A B E t.2.1 (p&&iV f.a5Z (oC f) t.1)).set 195 (.sl 2 (f.a5Z.map eW.cells))).set 196 (.int .i64 (f.a5Z.length:Nat))).set 197 (.int .i64 t.1)) (fun (t:Nat × PV × PH)=>t.2.2)  (fun (t:Nat × PV × PH)=>t.1≤f.a5Z.length∧bQ t.2.2 1 t.2.1 (fA ((f.a5Z.map eW.name).take t.1))) (fun (t:Nat × PV × PH)=>f.a5Z.length-t.1) (f.a5Z.length-k) K .normal l H':=by
   intro c l S u;refine aD (α:=Nat × PV × PH) (k+1,v',H') ⟨hlt,q⟩ (by simp only; omega) ?_ b_;rw[S] at u;exact u
  unfold jB at fin;rw[e,← baL] at fin;have V:oC f f.a5Z[k]=within (f.a5Z[k]).a6J 0 ((f.a6B.length:Int)-1):=rfl;cases Q:(p&&iV f.a5Z (oC f) k) with
  | false =>rw[Q,a7R] at fin;simp only[go_sem,au,w,av,wZz k];refine fin false _ rfl ?_;exact Lq
  | true =>rw[Q,a7T,V] at fin;simp only[go_sem,au,w,a7I,CD (Om:f.a6B.length≤1000)];refine aA (L.inn _ 0 _) Ev ?_;simp only[go_sem,av,wZz k];refine fin _ _ rfl ?_;exact Lq
 ·have d:¬ (k:Int)<(f.a5Z.length:Nat):=Om;have:k=f.a5Z.length:=Om;subst this;rw[a8D (by simp)] at J;rw[vL];simp only[go_sem,d];exact R v _ _ ⟨by simp only[go_sem],by simp only[go_sem],by simp only[go_sem],by simp only[go_sem],by simp only[go_sem],by simp only[go_sem],by simp only[go_sem]⟩ J
theorem nG {f:aE} (h:¬ (f.a6E.length≤4∧f.a5Y.length≤4∧f.a6A.length≤40∧f.a5X.length≤24∧f.a6B.length≤4∧f.a5Z.length≤12)):nF f=false:=by
 rw[← Bool.not_eq_true];intro c;simp only[nF,a8A,decide_eq_true_eq] at c;omega
theorem Wz {f:aE} (h:f.a6E.length≤4∧f.a5Y.length≤4∧f.a6A.length≤40∧f.a5X.length≤24∧f.a6B.length≤4∧f.a5Z.length≤12):nF f=within f.a7B 1 4:=by
 obtain⟨c,d,e,i,h5,l⟩:=h;simp[nF,c,d,e,i,h5,l]
theorem pQ {t:Nat} {n m:Int} {F:PF} {H:PH} (h:F t=some (.int .i64 n)) (e:n=m):aV [.tmp t] (bY (.int .i64 m)) .ret F H:=by
 subst e;exact bA (.inr rfl) .nil (vs:=[.int .i64 n]) (by rw[kI,nE,h,oN]) a_ ⟨.refl _,rfl⟩
def wK (f:aE):Int:=if dR f then 0 else 1
theorem aqF {f:aE} (h:dR f=false):wK f=1:=by rw[wK,h]; rfl
theorem tP {C:Ctx} {F:PF} {H:PH} {name t s:Nat} {v r:PV} {rows:List (List PV)} {d:Option Nat} {K:PF→PH→Prop} (h:aH C name [.sl s rows] .nil (aF r)) (w:bQ H s v rows) (l:F t=some v)
  (e:∀ (c:PF) (p:PH),(∀ i u,F i=some u→Pure u→c i=some u)→K (c.put d r) p):iU C name [.tmp t] [] d K F H:=by
 rcases w with ⟨rfl,rfl⟩ | ⟨q,rs,rfl,h1,h2,h3⟩
 ·refine aA (h.anP (.inl ⟨rfl,rfl⟩)) (by rw[zG,i4,l,UP]) ?_;exact e F H fun i u hi _=>hi
 ·rw[← h3] at h;refine qQ (k:=rows.length) h l h1 h2 (e _ _ fun i u hi x=>?_);rw[qY,hi,a8Y,x q s rs]
theorem Seen.pure {s:Nat} {v:PV} {rows:List (List PV)} (h:Seen s v rows):Pure v:=by
 rcases h with ⟨_,rfl⟩ | rfl
 ·exact fun _ _ _=>rfl
 ·exact fun _ _ _=>rfl
def bI (b:Bool):Int:=if b then 0 else 1
abbrev UZ (f:aE):List (List UInt8):=(f.a6A.drop 1).map cD.name++f.a5X.map dH.name
def vH (f:aE):Bool:=distinct (f.a6E.map cE.name)&&distinct (f.a5Y.map cT.name)&&distinct (UZ f)&&distinct (f.a6B.map bS.name)&&distinct (f.a5Z.map eW.name)
structure Small (f:aE):Prop where
 a6E:f.a6E.length≤4
 a5Y:f.a5Y.length≤4
 a6A:f.a6A.length≤40
 a5X:f.a5X.length≤24
 a6B:f.a6B.length≤4
 a5Z:f.a5Z.length≤12
theorem BV {C:Ctx} (L:jV C) {v:PV} {l:List (List UInt8)} (h:Seen 1 v (fA l)) (c:l.length≤1000):aH C 110 [v] .nil (aF (.bool (distinct l))) :=
 (L.uniq l (Om:l.length≤9223372036854775807)).anP h
theorem aFU {C:Ctx} (L:jV C) (f:aE) (A:Small f) (d e i l p:PV) (ok:Bool) (F:PF) (H:PH) (c:kO F f d e i l p ok)
  (u:Seen 1 d (fA (f.a6E.map cE.name))) (w:Seen 1 e (fA (f.a5Y.map cT.name))) (h5:Seen 1 i (fA (UZ f))) (x:Seen 1 l (fA (f.a6B.map bS.name))) (h7:bQ H 1 p (fA (f.a5Z.map eW.name))) :
  aC.wp C (.seq (.seq (.region zO) (.cond (.tmp 243) (.seq (.region nP) .ret) .skip)) (.seq (.region IM) .ret)) (aV [.tmp 2] (bY (.int .i64 (bI (ok&&vH f))))) F H:=by
 obtain⟨s1,s2,s3,s4,V,W⟩:=A;have B:(f.a6E.map cE.name).length≤1000:=by simp; omega
 have E:(f.a5Y.map cT.name).length≤1000:=by simp; omega
 have J:(UZ f).length≤1000:=by simp; omega
 have K:(f.a6B.map bS.name).length≤1000:=by simp; omega
 have M:(f.a5Z.map eW.name).length≤9223372036854775807:=by simp; omega
 cases ok with
 | false =>simp only[go_sem,zO,c.a8,nP];exact pQ rfl rfl
 | true =>
  simp only[go_sem,zO,c.a8,c.a3];refine aA (BV L u B) rfl ?_;unfold vH;cases O:distinct (f.a6E.map cE.name) with
  | false =>simp only[go_sem,nP,a7Z];exact pQ rfl rfl
  | true =>
   simp only[go_sem,c.a4,a7N];refine aA (BV L w E) rfl ?_;cases Q:distinct (f.a5Y.map cT.name) with
   | false =>simp only[go_sem,nP,a7Z];exact pQ rfl rfl
   | true =>
    simp only[go_sem,c.a5,a7N];refine aA (BV L h5 J) rfl ?_;cases R:distinct (UZ f) with
    | false =>simp only[go_sem,nP,a7Z];exact pQ rfl rfl
    | true =>
     simp only[go_sem,c.a6,a7N];refine aA (BV L x K) rfl ?_;cases S:distinct (f.a6B.map bS.name) with
     | false =>simp only[go_sem,nP,a7Z];exact pQ rfl rfl
     | true =>
      simp only[go_sem,c.a7,a7N];refine tP (L.uniq _ M) h7 rfl fun q N y=>?_;have g:q 239=some (.bool false):=y 239 _ rfl fun _ _ _=>rfl;cases U:distinct (f.a5Z.map eW.name) with
      | false =>simp only[go_sem,nP,a7Z,g];exact pQ rfl rfl
      | true =>simp only[go_sem,IM,a7N,g];exact pQ rfl rfl
abbrev xg (b:Bool):bR:=aV [.tmp 2] (bY (.int .i64 (bI b)))
def Ht:aC:=.seq (.seq (.region ap) (.block 10 (.loop IL))) (.seq (.seq (.region zO) (.cond (.tmp 243) (.seq (.region nP) .ret) .skip)) (.seq (.region IM) .ret))
def Hr:aC:=.seq (.seq (.region al) (.block 8 (.loop IK))) Ht
def Hq:aC:=.seq (.seq (.region ai) (.block 6 (.loop IJ))) Hr
def Hp:aC:=.seq (.seq (.region ac) (.block 4 (.loop II))) Hq
def Ho:aC:=.seq (.seq (.region ZZ) (.block 2 (.loop IH))) Hp
def aqE:aC:=.seq (.seq (.region uv) (.block 0 (.loop IG))) Ho
theorem aPV {C:Ctx} (L:jV C) (f:aE) (q:Small f) (i l p B:PV) (ok:Bool) (F:PF) (H:PH) (d:kO F f i l p B .aB ok)
  (x:Seen 1 i (fA (f.a6E.map cE.name))) (y:Seen 1 l (fA (f.a5Y.map cT.name))) (h5:Seen 1 p (fA (UZ f))) (M:bQ H 1 B (fA (f.a6B.map bS.name))) :
  aC.wp C Ht (xg (ok&&f.a5Z.all (oC f)&&vH f)) F H:=by
 unfold Ht;simp only[go_sem,ap,d.a1,a7I];refine qR M fun A w J K O c=>?_;refine akZ L f q.a5Z q.a6B ok i l p A _ J K ⟨c 1 _ (by simp only[go_sem,d.a1]) fun _ _ _=>rfl,c 3 _ (by simp only[go_sem,d.a3]) x.pure,c 4 _ (by simp only[go_sem,d.a4]) y.pure,c 5 _ (by simp only[go_sem,d.a5]) h5.pure,O 6 (by simp only[go_sem,d.a6]),c 7 _ (by simp only[go_sem,d.a7]) fun _ _ _=>rfl,c 8 _ (by simp only[go_sem,d.a8]) fun _ _ _=>rfl⟩
  (c 195 _ rfl fun _ _ _=>rfl) (c 196 _ rfl fun _ _ _=>rfl) (c 197 _ rfl fun _ _ _=>rfl) fun v E H' u N=>?_
 have e:=aFU L f q i l p A v _ E H' u x y h5 w N;simp only[aC.wp,go_sem] at e;simp only[go_sem];exact e
theorem aPU {C:Ctx} (L:jV C) (f:aE) (K:f.Ok) (l:Small f) (e i y:PV) (ok:Bool) (F:PF) (H:PH) (d:kO F f e i y .aB .aB ok)
  (u:Seen 1 e (fA (f.a6E.map cE.name))) (w:Seen 1 i (fA (f.a5Y.map cT.name))) (h5:bQ H 1 y (fA (UZ f))) :
  aC.wp C Hr (xg (ok&&f.a6B.all (jI f.a5Y.length)&&f.a5Z.all (oC f)&&vH f)) F H:=by
 unfold Hr;simp only[go_sem,al,d.a1,a7I];refine qR h5 fun x q B E M c=>?_;refine akY L f K l.a6B l.a5Y ok e i x .aB _ B E ⟨c 1 _ (by simp only[go_sem,d.a1]) fun _ _ _=>rfl,c 3 _ (by simp only[go_sem,d.a3]) u.pure,c 4 _ (by simp only[go_sem,d.a4]) w.pure,M 5 (by simp only[go_sem,d.a5]),c 6 _ (by simp only[go_sem,d.a6]) fun _ _ _=>rfl,c 7 _ (by simp only[go_sem,d.a7]) fun _ _ _=>rfl,c 8 _ (by simp only[go_sem,d.a8]) fun _ _ _=>rfl⟩
  (c 174 _ rfl fun _ _ _=>rfl) (c 175 _ rfl fun _ _ _=>rfl) (c 176 _ rfl fun _ _ _=>rfl) fun v A H' p J=>?_
 simp only[go_sem];exact aPV L f l e i x v _ A H' p u w q J
theorem aPT {C:Ctx} (L:jV C) (f:aE) (y:f.Ok) (d:Small f) (e i p:PV) (ok:Bool) (F:PF) (H:PH) (c:kO F f e i p .aB .aB ok)
  (u:Seen 1 e (fA (f.a6E.map cE.name))) (w:Seen 1 i (fA (f.a5Y.map cT.name))) (h5:bQ H 1 p (fA ((f.a6A.drop 1).map cD.name))) :
  aC.wp C Hq (xg (ok&&f.a5X.all (iJ f)&&f.a6B.all (jI f.a5Y.length)&&f.a5Z.all (oC f)&&vH f)) F H:=by
 unfold Hq;simp only[go_sem,ai,c.a1,a7I];refine akX L f ((f.a6A.drop 1).map cD.name) (by have:=d.a6A; simp; omega) d.a5X d.a5Y d.a6A ok e i p .aB .aB _ _ H ⟨by simp only[go_sem,c.a1],by simp only[go_sem,c.a3],by simp only[go_sem,c.a4],by simp only[go_sem,c.a5],by simp only[go_sem,c.a6],by simp only[go_sem,c.a7],by simp only[go_sem,c.a8]⟩ h5
  rfl rfl rfl fun v q H' l x=>?_
 simp only[go_sem];exact aPU L f y d e i v _ q H' l u w x
theorem aPS {C:Ctx} (L:jV C) (f:aE) (M:f.Ok) (w:Small f) (Q:0<f.a6A.length) (i y:PV) (ok:Bool) (F:PF) (H:PH) (d:kO F f i y .aB .aB .aB ok)
  (u:Seen 1 i (fA (f.a6E.map cE.name))) (J:bQ H 1 y (fA (f.a5Y.map cT.name))) :
  aC.wp C Hp (xg (ok&&f.a5X.all (iJ f)&&f.a6B.all (jI f.a5Y.length)&&f.a5Z.all (oC f)&&vH f)) F H:=by
 unfold Hp;have l:(1:Int)≤(f.a6A.length:Nat):=Om;have N:=w.a6A;have e:((f.a6A.map cD.cells).take f.a6A.length).drop 1=(f.a6A.drop 1).map cD.cells:=by rw[a8D (by simp),List.map_drop]
 simp only[go_sem,ac,d.a1,a7I,l,a9C,e];refine qR J fun x q B E O c=>?_;refine akW L f (f.a6A.drop 1) (by simp; omega) ok i x .aB .aB _ B E ⟨c 1 _ (by simp only[go_sem,d.a1]) fun _ _ _=>rfl,c 3 _ (by simp only[go_sem,d.a3]) u.pure,O 4 (by simp only[go_sem,d.a4]),c 5 _ (by simp only[go_sem,d.a5]) fun _ _ _=>rfl,c 6 _ (by simp only[go_sem,d.a6]) fun _ _ _=>rfl,c 7 _ (by simp only[go_sem,d.a7]) fun _ _ _=>rfl,c 8 _ (by simp only[go_sem,d.a8]) fun _ _ _=>rfl⟩
  (c 119 _ rfl fun _ _ _=>rfl) (c 120 _ rfl fun _ _ _=>rfl) (c 121 _ rfl fun _ _ _=>rfl) fun v A H' p K=>?_
 simp only[go_sem];exact aPT L f M w i x v _ A H' p u q K
theorem aPR {C:Ctx} (L:jV C) (f:aE) (E:f.Ok) (e:Small f) (B:0<f.a6A.length) (q:PV) (ok:Bool) (F:PF) (H:PH) (d:kO F f q .aB .aB .aB .aB ok)
  (y:bQ H 1 q (fA (f.a6E.map cE.name))) :
  aC.wp C Ho (xg (ok&&f.a5Y.all (kB f)&&f.a5X.all (iJ f)&&f.a6B.all (jI f.a5Y.length)&&f.a5Z.all (oC f)&&vH f)) F H:=by
 unfold Ho;simp only[go_sem,ZZ,d.a1,a7I];refine qR y fun p l w x J c=>?_;refine akV L f e.a5Y e.a6E ok p .aB .aB .aB _ w x ⟨c 1 _ (by simp only[go_sem,d.a1]) fun _ _ _=>rfl,J 3 (by simp only[go_sem,d.a3]),c 4 _ (by simp only[go_sem,d.a4]) fun _ _ _=>rfl,c 5 _ (by simp only[go_sem,d.a5]) fun _ _ _=>rfl,c 6 _ (by simp only[go_sem,d.a6]) fun _ _ _=>rfl,c 7 _ (by simp only[go_sem,d.a7]) fun _ _ _=>rfl,c 8 _ (by simp only[go_sem,d.a8]) fun _ _ _=>rfl⟩
  (c 85 _ rfl fun _ _ _=>rfl) (c 86 _ rfl fun _ _ _=>rfl) (c 87 _ rfl fun _ _ _=>rfl) fun v u H' i A=>?_
 simp only[go_sem];exact aPS L f E e B p v _ u H' i l A
theorem aPQ {C:Ctx} (L:jV C) (f:aE) (e:f.Ok) (i:Small f) (q:0<f.a6A.length) (F:PF) (H:PH) (c:kO F f .aB .aB .aB .aB .aB true) :
  aC.wp C aqE (xg (f.a6E.all jZ&&f.a5Y.all (kB f)&&f.a5X.all (iJ f)&&f.a6B.all (jI f.a5Y.length)&&f.a5Z.all (oC f)&&vH f)) F H:=by
 unfold aqE;simp only[go_sem,uv,c.a1,a7I];refine akU L f e i.a6E .aB .aB .aB .aB _ _ H ⟨by simp only[go_sem,c.a1],by simp only[go_sem,c.a3],by simp only[go_sem,c.a4],by simp only[go_sem,c.a5],by simp only[go_sem,c.a6],by simp only[go_sem,c.a7],by simp only[go_sem,c.a8]⟩ rfl rfl rfl fun v l H' d p=>?_;simp only[go_sem];exact aPR L f e i q v _ l H' d p
theorem aaA {C:Ctx} (L:jV C) (f:aE) (B:f.Ok):QC.wp C (aV akT.res (bY (.int .i64 (wK f)))) (PF.args [.agg f.cells]) .nil:=by
 have q:dR f=(nF f&&nN f&&(f.a6E.all jZ&&f.a5Y.all (kB f)&&f.a5X.all (iJ f)&&f.a6B.all (jI f.a5Y.length)&&f.a5Z.all (oC f))&&vH f):=rfl;simp only[go_sem,QC,aaB,aaC,akT];refine aA (L.inn f.a7B 1 4) rfl ?_;have c:∀ (F:PF) (H:PH),dR f=false→F 2=some (.int .i64 1)→aV [.tmp 2] (bY (.int .i64 (wK f))) .ret F H:=fun F H K M=>pQ M (aqF K).symm;cases A:within f.a7B 1 4 with
 | false =>
  have:nF f=false:=by simp[nF,A]
  simp only[go_sem,a7Z,qE];exact c _ _ (by rw[q,this]; simp only[a7R]) rfl
 | true =>
  by_cases s1:f.a6E.length≤4
  ·have d:¬ (f.a6E.length:Int)>4:=Om;by_cases s2:f.a5Y.length≤4
   ·have i:¬ (f.a5Y.length:Int)>4:=Om;by_cases s3:f.a6A.length≤40
    ·have l:¬ (f.a6A.length:Int)>40:=Om;by_cases s4:f.a5X.length≤24
     ·have p:¬ (f.a5X.length:Int)>24:=Om;by_cases E:f.a6B.length≤4
      ·have u:¬ (f.a6B.length:Int)>4:=Om;by_cases J:f.a5Z.length≤12
       ·have w:¬ (f.a5Z.length:Int)>12:=Om;have x:=Wz ⟨s1,s2,s3,s4,E,J⟩;rw[A] at x;simp only[go_sem,a7N,a7I,d,i,l,p,u,w];refine aA (L.a6G f B) rfl ?_;cases y:nN f with
        | false =>simp only[go_sem,a7Z,qE];exact c _ _ (by rw[q,y]; simp only[a8Q,a7R]) rfl
        | true =>
         have N:0<f.a6A.length:=by
          rcases a9S f.a6A.length with h | h
          ·have:f.a6A=[]:=List.eq_nil_of_length_eq_zero h;rw[nN,this] at y;cases y
          ·exact h
         have Q:wK f=bI (f.a6E.all jZ&&f.a5Y.all (kB f)&&f.a5X.all (iJ f)&&f.a6B.all (jI f.a5Y.length)&&f.a5Z.all (oC f)&&vH f):=by rw[wK,q,x,y]; rfl
         rw[Q];simp only[go_sem,a7N,aaD,aaE];have e:=fun F H O=>aPQ L f B ⟨s1,s2,s3,s4,E,J⟩ N F H O;simp only[aqE,Ho,Hp,Hq,Hr,Ht,aC.wp,go_sem] at e;exact e _ _ ⟨by simp only[go_sem],by simp only[go_sem],by simp only[go_sem],by simp only[go_sem],by simp only[go_sem],by simp only[go_sem],by simp only[go_sem]⟩
       ·have w:(f.a5Z.length:Int)>12:=Om;simp only[go_sem,a7N,a7I,d,i,l,p,u,w,qE];exact c _ _ (by rw[q,nG Om]; simp only[a7R]) rfl
      ·have u:(f.a6B.length:Int)>4:=Om;simp only[go_sem,a7N,a7I,d,i,l,p,u,qE];exact c _ _ (by rw[q,nG Om]; simp only[a7R]) rfl
     ·have p:(f.a5X.length:Int)>24:=Om;simp only[go_sem,a7N,a7I,d,i,l,p,qE];exact c _ _ (by rw[q,nG Om]; simp only[a7R]) rfl
    ·have l:(f.a6A.length:Int)>40:=Om;simp only[go_sem,a7N,a7I,d,i,l,qE];exact c _ _ (by rw[q,nG Om]; simp only[a7R]) rfl
   ·have i:(f.a5Y.length:Int)>4:=Om;simp only[go_sem,a7N,a7I,d,i,qE];exact c _ _ (by rw[q,nG Om]; simp only[a7R]) rfl
  ·have d:(f.a6E.length:Int)>4:=Om;simp only[go_sem,a7N,a7I,d,qE];exact c _ _ (by rw[q,nG Om]; simp only[a7R]) rfl
def lvl (f:aE) (i:Nat):Int:=(f.a6A.map cD.level).getD i 0
def par (f:aE) (i:Nat):Int:=(f.a6A.map cD.parent).getD i 0
def KE (f:aE) (i:Nat):Nat:=(par f i).toNat
def dK (f:aE) (d:Nat):Nat:=((f.a5X.map dH.machine).getD d 0).toNat
def mdl (f:aE) (d:Nat):Nat:=((f.a5X.map dH.model).getD d 0).toNat
def ext (f:aE) (d:Nat):Int:=(f.a5Y.map cT.a6N).getD (mdl f d) 0
def DQ (f:aE) (v:Nat):Nat:=((f.a5Z.map eW.a6J).getD v 0).toNat
def aNQ:bS:=⟨[],0,0,0,0,0,0,0,0,[],[],⟨false,[],[]⟩,⟨false,[],[]⟩⟩
def KJ (f:aE) (v:Nat):bS:=f.a6B.getD (DQ f v) aNQ
def upN (f:aE):Nat→Nat→Nat
 | 0,i=>i
 | k+1,i=>KE f (upN f k i)
theorem getD_at {α β:Type} {l:List α} {g:α→β} {i:Nat} {b:β} (h:i<l.length):(l.map g).getD i b=g l[i]:=by
 simp[a8B,h]
structure VF (f:aE):Prop where
 small:Small f
 root:0<f.a6A.length∧lvl f 0=0∧par f 0=-1
 dom:∀ i,0<i→i<f.a6A.length→0≤par f i∧KE f i<i∧lvl f (KE f i)=lvl f i-1∧1≤lvl f i∧lvl f i≤4
 drive:∀ d (h:d<f.a5X.length),0≤(f.a5X[d]).model∧mdl f d<f.a5Y.length∧0≤(f.a5X[d]).machine∧dK f d<f.a6A.length∧lvl f (dK f d)=4
 a6J:∀ p∈f.a6B,1≤p.k∧p.k≤6∧0≤p.m∧p.m≤4∧p.k+p.m≤8∧p.s0=0∧(∀ l,0≤p.spread l∧p.spread l≤8)∧∀ m∈p.a5Y,0≤m∧m<f.a5Y.length
 volume:∀ v (h:v<f.a5Z.length),0≤(f.a5Z[v]).a6J∧DQ f v<f.a6B.length
 model:∀ m∈f.a5Y,1≤m.a6N∧m.a6N≤16
theorem aRF {p:bS} {n:Nat} (h:jI n p=true):∀ m∈p.a5Y,0≤m∧m<n:=by
 intro m d;simp only[jI,a8A] at h;obtain⟨i,hi,rfl⟩:=a8U d;have:=a7Y.1 h.2 i (a8M.2 hi);rw[a8A] at this;have c:=within_iff.1 this.1;simp only[a8B,a7W hi,baK] at c;omega
theorem ry {x:Int} (c:1≤x) (d:x≤4):IntKind.i64.wrap (x-1)=x-1:=wrap_i64 Om Om
theorem VF.of {f:aE} (h:dR f=true):VF f:=by
 simp only[dR,a8A] at h;obtain⟨⟨⟨O,e⟩,⟨⟨⟨M,y⟩,x⟩,A⟩,B⟩,-⟩:=h;simp only[nF,a8A,decide_eq_true_eq] at O;obtain⟨⟨⟨⟨⟨⟨s0,s1⟩,s2⟩,s3⟩,s4⟩,s5⟩,s6⟩:=O;cases c:f.a6A with
 | nil=>rw[nN,c] at e; cases e
 | cons r t =>
  rw[nN,c] at e;simp only[BB,a8A,decide_eq_true_eq] at e;obtain⟨⟨⟨⟨⟨⟨r1,r2⟩,r3⟩,r4⟩,r5⟩,r6⟩,w⟩:=e;have N:f.a6A.length=t.length+1:=by rw[c]; rfl
  refine⟨⟨s1,s2,s3,s4,s5,s6⟩,⟨by omega,by rw[lvl,c]; exact r2,by rw[par,c]; exact r3⟩,?_,?_,?_,?_,?_⟩
  ·intro i h0 hi;obtain⟨k,rfl⟩:∃ k,i=k+1:=⟨i-1,by omega⟩;have F:k<t.length:=Om;have:=a7Y.1 w k (a8M.2 F);rw[a7W F] at this;simp only[HK,a8A,decide_eq_true_eq] at this;obtain⟨⟨⟨⟨H,E⟩,J⟩,d4⟩,d5⟩:=this;obtain⟨Z,p1⟩:=within_iff.1 H;obtain⟨R,S⟩:=within_iff.1 J;have q:par f (k+1)=(t[k]).parent:=by rw[par,c]; simp[a8B,F]
   have u:lvl f (k+1)=(t[k]).level:=by rw[lvl,c]; simp[a8B,F]
   rw[ry R S] at E;have U:lvl f (t[k]).parent.toNat=(t[k]).level-1:=E;refine⟨by rw[q]; exact Z,?_,?_,by rw[u]; exact R,by rw[u]; exact S⟩
   ·rw[KE,q]; omega
   ·rw[KE,q,u]; exact U
  ·intro d e;have:=a7Y.1 x _ (a7L e);simp only[iJ,a8A,decide_eq_true_eq] at this;obtain⟨⟨H,E⟩,J⟩:=this;have a1:=within_iff.1 H;have a2:=within_iff.1 E;have q:mdl f d=(f.a5X[d]).model.toNat:=by rw[mdl,getD_at e]
   have u:dK f d=(f.a5X[d]).machine.toNat:=by rw[dK,getD_at e]
   refine⟨a1.1,by rw[q]; omega,a2.1,by rw[u]; omega,by rw[u]; exact J⟩
  ·intro p X;have K:=a7Y.1 A p X;have V:=aRF K;simp only[jI,JZ,a8A,decide_eq_true_eq,List.all_cons,List.all_nil,a9P] at K;obtain⟨⟨⟨⟨⟨⟨⟨⟨k1,Y⟩,km⟩,q1⟩,z0⟩,sp⟩,-⟩,-⟩,-⟩:=K;obtain⟨g0,g1,g2,g3,g4⟩:=sp;have b1:=within_iff.1 k1;have b2:=within_iff.1 Y;have b3:=within_iff.1 g0;have b4:=within_iff.1 g1;have b5:=within_iff.1 g2;have b6:=within_iff.1 g3;have b7:=within_iff.1 g4;refine⟨b1.1,b1.2,b2.1,b2.2,km,z0,fun l=>?_,V⟩;unfold bS.spread;split<;>omega
  ·intro v Q;have:=a7Y.1 B _ (a7L Q);have a1:=within_iff.1 this;have q:DQ f v=(f.a5Z[v]).a6J.toNat:=by rw[DQ,getD_at Q]
   exact⟨a1.1,by rw[q]; omega⟩
  ·intro m W;have:=a7Y.1 y m W;simp only[kB,a8A] at this;exact within_iff.1 this.1.1
theorem GI {f:aE} (h:VF f) {d:Nat} (c:d<f.a5X.length):∀ {k:Nat},k≤4→upN f k (dK f d)<f.a6A.length∧lvl f (upN f k (dK f d))=4-(k:Int)
 | 0,_=>⟨(h.drive d c).2.2.2.1,by rw[upN,(h.drive d c).2.2.2.2]; rfl⟩
 | k+1,u=>by
  obtain⟨p,l⟩:=GI h c (k:=k) Om;have i:0<upN f k (dK f d):=by
   rcases a9S (upN f k (dK f d)) with e | e
   ·rw[e,h.root.2.1] at l; omega
   ·exact e
  obtain⟨g1,g2,g3,g4,q⟩:=h.dom _ i p;refine⟨by rw[upN]; omega,?_⟩;rw[upN,g3,l]; omega
def cO (f:aE) (d:Nat) (level:Int):Nat:=upN f (4-level.toNat) (dK f d)
def akG (f:aE) (v:Nat):Int:=(KJ f v).k+(KJ f v).m
def azP:Rg:=[iA 1 (.box true (Tm 0)),iT 2 false]
def azQ:Rg:=[iO 3 7 1,iK 4 96 3,iC 5 .eql 4 0,iM 2 5]
def Xe:aC:=(sq azP (sq azQ .ret))
def aXJ:aS:=⟨1,6,Xe,[.tmp 2]⟩
def aLC:Rg:=[iA 2 (.box true (Tm 0)),iI 4 0]
def aLD:Rd:=[(iF 6 5 2,false),(iL 7 6,false),(iF 8 6 2,false),(iL 9 8,false),(iM 10 1,false),(iX 11 2 9 10,false),(iF 12 1 11,false),(iL 13 12,false),(iX 14 17 7 13,false),(iO 15 17 14,false),(iA 5 (.alloc [(.str []),zI,zI,zI,zI,zI,zI,zI,zI,.aB,.aB,zB,.aB,.aB,zB,.aB,.aB]),true),(iS 17 5 15,true)]
def aLE:Rg:=[iF 16 1 5,iL 17 16,iF 18 2 5,iL 19 18,iB 20 .add 17 19,iM 4 20]
def apI:aC:=(sq aLC (dq aLD (sq aLE .ret)))
def a0I:aS:=⟨2,21,apI,[.tmp 4]⟩
def axZ:Rg:=[iA 3 (.box true (Tm 0)),iI 6 0]
def ayA:Rg:=[iF 8 4 3,iL 9 8,iM 10 1,iX 11 3 9 10,iF 12 2 11,iL 13 12,iM 7 13]
def ayB:Rg:=[iF 14 3 3,iL 15 14,iM 16 7,iX 17 7 15 16,iF 18 1 17,iL 19 18,iM 20 2,iB 21 .gtr 19 20]
def ayC:Rg:=[iF 22 3 3,iL 23 22,iM 24 7,iX 25 7 23 24,iF 26 2 25,iL 27 26,iM 7 27]
def axY:aC:=(.seq (sq ayB (.cond (Tm 21) .skip (.exit 0))) (.block 1 (.region ayC)))
def ayD:Rg:=[iM 28 7,iM 6 28]
def W7:aC:=(sq axZ (sq ayA (.seq (.block 0 (.loop axY)) (sq ayD .ret))))
def aXA:aS:=⟨3,29,W7,[.tmp 6]⟩
def aLG:Rg:=[iA 2 (.box true (Tm 0)),iZ 4]
def aLH:Rg:=[iO 7 7 2,iK 8 161 7,iA 9 (.un .not (Tm 8))]
def aLI:Rg:=[iZ 4]
def aLJ:Rg:=[iF 10 4 2,iL 11 10,iN 12 11,iA 13 (.a6F 1 8 [zI] (Tm 12) (Tm 12)),iM 5 13]
def aLK:Rg:=[iM 14 5,iN 15 14,iI 16 0]
def aLL:Rg:=[iB 17 .lss 16 15]
def aLM:Rg:=[iM 18 16,iM 6 18]
def aLN:Rd:=[(iM 19 5,false),(iM 20 6,false),(iF 21 2 2,false),(iL 22 21,false),(iF 23 4 2,false),(iL 24 23,false),(iM 25 6,false),(iX 26 3 24 25,false),(iF 27 1 26,false),(iL 28 27,false),(iX 29 4 22 28,false),(iF 30 1 29,false),(iL 31 30,false),(iX 32 1 19 20,false),(iS 1 32 31,true)]
def aLO:Rg:=[iM 33 1,iN 34 33,iM 35 5,iN 36 35,iB 37 .eql 34 36]
def aLP:Rd:=[(iM 38 5,false),(iM 39 6,false),(iM 40 1,false),(iM 41 6,false),(iX 42 1 40 41,false),(iL 43 42,false),(iA 44 (.a6S true (Tm 43) (Ci 0)),false),(iM 45 5,false),(iM 46 6,false),(iX 47 1 45 46,false),(iL 48 47,false),(iA 49 (.a6S false (Tm 44) (Tm 48)),false),(iX 50 1 38 39,false),(iS 1 50 49,true)]
def azD:Rg:=[iC 51 .add 16 1,iM 16 51]
def azC:aC:=(sq aLL (.seq (.cond (Tm 17) .skip (.exit 0)) (.seq (.block 1 (sq aLM (dq aLN (sq aLO (.cond (Tm 37) (.draw aLP) .skip))))) (.region azD))))
def azE:Rg:=[iM 52 5,iM 4 52]
def apO:aC:=(sq aLG (.seq (sq aLH (.cond (Tm 9) (sq aLI .ret) .skip)) (sq aLJ (.seq (sq aLK (.block 0 (.loop azC))) (sq azE .ret)))))
def a0J:aS:=⟨2,53,apO,[.tmp 4]⟩
def aXB:Rg:=[iA 3 (.box true (Tm 0)),iI 6 0]
def aXC:Rg:=[iO 7 7 3,iK 8 161 7,iA 9 (.un .not (Tm 8)),iM 10 9,gM 11 1 10 false,gC 12 .lss 11 0 10 false,iQ 13 10 12,iM 14 13,gM 15 1 14 false,gF 16 4 3 14 false,gL 17 16 14 false,gN 18 17 14 false,gB 19 .geq 15 18 14 false,iQ 20 14 19,iM 21 20,gM 22 2 21 false,gC 23 .lss 22 0 21 false,iQ 24 21 23,iM 25 24,gM 26 2 25 false,gC 27 .geq 26 5 25 false,iQ 28 25 27]
def aXD:Rg:=[iI 6 (-1)]
def aXE:Rg:=[iO 29 7 3,iM 30 1,iM 31 2,iA 32 (.call 155 [(Tm 29),(Tm 30),(Tm 31)]),iM 6 32]
def aLB:aC:=(sq aXB (.seq (sq aXC (.cond (Tm 28) (sq aXD .ret) .skip)) (sq aXE .ret)))
def tat:aS:=⟨3,33,aLB,[.tmp 6]⟩
def aoY:Rg:=[iA 2 (.box true (Tm 0)),iZ 4]
def aoZ:Rg:=[iZ 5]
def apA:Rg:=[iO 7 7 2,iK 8 161 7,iA 9 (.un .not (Tm 8)),iM 10 9,gM 11 1 10 false,gC 12 .lss 11 0 10 false,iQ 13 10 12,iM 14 13,gM 15 1 14 false,gF 16 3 2 14 false,gL 17 16 14 false,gN 18 17 14 false,gB 19 .geq 15 18 14 false,iQ 20 14 19]
def apB:Rg:=[iM 21 5,iM 4 21]
def apC:Rg:=[iF 22 4 2,iL 23 22,iN 24 23,iI 25 0]
def apD:Rg:=[iB 26 .lss 25 24]
def apE:Rg:=[iM 27 25,iM 6 27]
def apF:Rd:=[(iO 28 7 2,false),(iM 29 6,false),(iF 30 3 2,false),(iL 31 30,false),(iM 32 1,false),(iX 33 7 31 32,false),(iF 34 1 33,false),(iL 35 34,false),(iA 36 (.call 155 [(Tm 28),(Tm 29),(Tm 35)]),true),(iM 37 1,true),(iB 38 .eql 36 37,false)]
def apG:Rg:=[iM 39 5,iM 40 6,iA 41 (.a6D true 1 1 [zI] [(0,(Tm 40))]),iA 42 (.append 1 8 (Tm 39) (Tm 41)),iM 5 42]
def apH:Rg:=[iC 43 .add 25 1,iM 25 43]
def W9:aC:=(sq apD (.seq (.cond (Tm 26) .skip (.exit 0)) (.seq (.block 1 (sq apE (dq apF (.cond (Tm 38) (.region apG) .skip)))) (.region apH))))
def Xa:Rg:=[iM 44 5,iM 4 44]
def St:aC:=(sq aoY (sq aoZ (.seq (sq apA (.cond (Tm 20) (sq apB .ret) .skip)) (.seq (sq apC (.block 0 (.loop W9))) (sq Xa .ret)))))
def aTM:aS:=⟨2,45,St,[.tmp 4]⟩
def ayE:Rg:=[iA 2 (.box true (Tm 0)),iZ 4]
def ayF:Rg:=[iZ 5]
def ayG:Rg:=[iO 8 7 2,iK 9 161 8,iA 10 (.un .not (Tm 9)),iM 11 10,gM 12 1 11 false,gC 13 .lss 12 0 11 false,iQ 14 11 13]
def ayH:Rg:=[iM 15 5,iM 4 15]
def ayI:Rg:=[iF 16 3 2,iL 17 16,iN 18 17,iI 19 0]
def ayJ:Rg:=[iB 20 .lss 19 18]
def ayK:Rg:=[iM 21 19,iX 22 7 17 19,iO 23 7 22,iA 7 (.alloc [(.str []),zI,zI,zI,zB,.aB,.aB]),iM 6 21,iS 7 7 23]
def ayL:Rg:=[iF 24 2 7,iL 25 24,iM 26 1,iB 27 .eql 25 26]
def ayM:Rg:=[iM 28 5,iM 29 6,iA 30 (.a6D true 1 1 [zI] [(0,(Tm 29))]),iA 31 (.append 1 8 (Tm 28) (Tm 30)),iM 5 31]
def ayN:Rg:=[iC 32 .add 19 1,iM 19 32]
def aoW:aC:=(sq ayJ (.seq (.cond (Tm 20) .skip (.exit 0)) (.seq (.block 1 (sq ayK (sq ayL (.cond (Tm 27) (.region ayM) .skip)))) (.region ayN))))
def aoX:Rg:=[iM 33 5,iM 4 33]
def W8:aC:=(sq ayE (sq ayF (.seq (sq ayG (.cond (Tm 14) (sq ayH .ret) .skip)) (.seq (sq ayI (.block 0 (.loop aoW))) (sq aoX .ret)))))
def aXF:aS:=⟨2,34,W8,[.tmp 4]⟩
def ayR:Rg:=[iA 2 (.box true (Tm 0)),iZ 4]
def ayS:Rg:=[iF 10 4 2,iL 11 10,iN 12 11,iA 13 (.a6F 1 8 [zI] (Tm 12) (Tm 12)),iM 5 13]
def ayT:Rg:=[iM 14 1,iN 15 14,iI 16 0]
def ayU:Rg:=[iB 17 .lss 16 15]
def ayV:Rg:=[iX 18 1 14 16,iL 19 18,iM 7 19]
def ayW:Rg:=[iM 20 7,iN 21 20,iI 22 0]
def ayX:Rg:=[iB 23 .lss 22 21]
def ayY:Rg:=[iX 24 1 20 22,iL 25 24,iM 9 25]
def ayZ:Rg:=[iM 26 9,iC 27 .geq 26 0,iM 28 27,gM 29 9 28 true,gM 30 5 28 true,gN 31 30 28 true,gB 32 .lss 29 31 28 true,iP 33 28 32]
def azA:Rg:=[iM 34 5,iM 35 9,iX 36 1 34 35,iL 37 36,iC 38 .add 37 1,iX 39 1 34 35,iS 1 39 38]
def apL:Rg:=[iC 40 .add 22 1,iM 22 40]
def apJ:aC:=(sq ayX (.seq (.cond (Tm 23) .skip (.exit 2)) (.seq (.block 3 (sq ayY (sq ayZ (.cond (Tm 33) (.region azA) .skip)))) (.region apL))))
def apM:Rg:=[iC 41 .add 16 1,iM 16 41]
def apK:aC:=(sq ayU (.seq (.cond (Tm 17) .skip (.exit 0)) (.seq (.block 1 (sq ayV (sq ayW (.block 2 (.loop apJ))))) (.region apM))))
def apN:Rg:=[iM 42 5,iM 4 42]
def Xc:aC:=(sq ayR (sq ayS (.seq (sq ayT (.block 0 (.loop apK))) (sq apN .ret))))
def aXH:aS:=⟨2,43,Xc,[.tmp 4]⟩
def axU:Rg:=[iA 2 (.box true (Tm 0)),iZ 4]
def axV:Rg:=[iO 5 7 2,iK 6 161 5,iA 7 (.un .not (Tm 6))]
def axW:Rg:=[iZ 4]
def axX:Rg:=[iO 8 7 2,iM 9 1,iK2 10 157 8 9,iM 4 10]
def W4:aC:=(sq axU (.seq (sq axV (.cond (Tm 7) (sq axW .ret) .skip)) (sq axX .ret)))
def aWZ:aS:=⟨2,11,W4,[.tmp 4]⟩
def azG:Rg:=[iA 3 (.box true (Tm 0)),iA 6 (.alloc [zI,zI,zI]),iT 7 false]
def azH:Rd:=[(iM 10 1,true),(iM 11 2,true),(iX 12 1 10 11,true),(iL 13 12,true),(iN 14 13,true),(iO 15 7 3,false),(iM 16 2,false),(iK2 17 156 15 16,true),(iB 18 .neq 14 17,false)]
def azI:Rg:=[iM 19 2,iM 20 1,iM 21 2,iX 22 1 20 21,iL 23 22,iN 24 23,iA 25 (.build [zI,zI,zI] [(0,1,(Ci 1)),(1,1,(Tm 19)),(2,1,(Tm 24))]),iS 3 6 25,iT 7 true]
def azJ:Rg:=[iM 26 1,iM 27 2,iX 28 1 26 27,iL 29 28,iN 30 29,iI 31 0]
def azK:Rg:=[iB 32 .lss 31 30]
def azL:Rg:=[iM 33 31,iX 34 1 29 31,iL 35 34,iM 8 33,iM 9 35]
def azM:Rg:=[iM 36 9,iC 37 .lss 36 (-1),iM 38 37,gM 39 9 38 false,gF 40 4 3 38 false,gL 41 40 38 false,gN 42 41 38 false,gB 43 .geq 39 42 38 false,iQ 44 38 43]
def azN:Rg:=[iM 45 2,iM 46 8,iA 47 (.build [zI,zI,zI] [(0,1,(Ci 1)),(1,1,(Tm 45)),(2,1,(Tm 46))]),iS 3 6 47,iT 7 true]
def azO:Rg:=[iC 48 .add 31 1,iM 31 48]
def azF:aC:=(sq azK (.seq (.cond (Tm 32) .skip (.exit 0)) (.seq (.block 1 (sq azL (sq azM (.cond (Tm 44) (sq azN .ret) .skip)))) (.region azO))))
def apP:Rg:=[iA 49 (.build [zI,zI,zI] []),iS 3 6 49,iT 7 false]
def Xd:aC:=(sq azG (.seq (dq azH (.cond (Tm 18) (sq azI .ret) .skip)) (.seq (sq azJ (.block 0 (.loop azF))) (sq apP .ret))))
def aXI:aS:=⟨3,50,Xd,[.cell 6 (some 3),.tmp 7]⟩
def aoL:Rg:=[iA 2 (.box true (Tm 0)),iT 4 false]
def aoM:Rg:=[iO 8 7 2,iK 9 161 8,iA 10 (.un .not (Tm 9)),iM 11 10,gM 12 1 11 false,gN 13 12 11 false,gF 14 6 2 11 false,gL 15 14 11 false,gN 16 15 11 false,gB 17 .neq 13 16 11 false,iQ 18 11 17]
def aoN:Rg:=[iT 4 false]
def aoO:Rg:=[iM 19 1,iN 20 19,iI 21 0]
def aoP:Rg:=[iB 22 .lss 21 20]
def aoQ:Rg:=[iM 23 21,iM 5 23]
def aoR:Rg:=[iO 25 7 2,iM 26 1,iM 27 5,iA 28 (.call 160 [(Tm 25),(Tm 26),(Tm 27)]),iM 24 28,iE 29 24 0,iE 30 24 1,iA 6 (.alloc [zI,zI,zI]),iS 3 6 29,iM 7 30]
def aoS:Rg:=[iM 31 7]
def aoT:Rg:=[iT 4 false]
def aoU:Rg:=[iC 32 .add 21 1,iM 21 32]
def W5:aC:=(sq aoP (.seq (.cond (Tm 22) .skip (.exit 0)) (.seq (.block 1 (sq aoQ (sq aoR (sq aoS (.cond (Tm 31) (sq aoT .ret) .skip))))) (.region aoU))))
def W6:Rg:=[iT 4 true]
def Ss:aC:=(sq aoL (.seq (sq aoM (.cond (Tm 18) (sq aoN .ret) .skip)) (.seq (sq aoO (.block 0 (.loop W5))) (sq W6 .ret))))
def aTL:aS:=⟨2,33,Ss,[.tmp 4]⟩
def aAF:Rg:=[iA 5 (.alloc [zI,zI,zI])]
def aAG:Rg:=[iM 6 0,iL 7 2,iM 8 1,iA 9 (.build [zI,zI,zI] [(0,1,(Tm 6)),(1,1,(Tm 7)),(2,1,(Tm 8))]),iS 3 5 9]
def Xf:aC:=(sq aAF (sq aAG .ret))
def aXK:aS:=⟨2,10,Xf,[.cell 5 (some 3)]⟩
def aMB:Rg:=[iA 3 (.box true (Tm 0)),iA 5 (.box false (Tm 2)),iZ 6]
def aMC:Rd:=[(iF 25 5 3,false),(iL 26 25,false),(iF 27 6 3,false),(iL 28 27,false),(iL 29 5,false),(iX 30 2 28 29,false),(iF 31 1 30,false),(iL 32 31,false),(iX 33 17 26 32,false),(iO 34 17 33,false),(iA 7 (.alloc [(.str []),zI,zI,zI,zI,zI,zI,zI,zI,.aB,.aB,zB,.aB,.aB,zB,.aB,.aB]),true),(iS 17 7 34,true)]
def aMD:Rg:=[iF 35 2 3,iL 36 35,iN 37 36,iA 38 (.a6F 1 1 [zB] (Tm 37) (Tm 37)),iM 8 38]
def aME:Rg:=[iF 39 9 7,iL 40 39,iN 41 40,iI 42 0]
def aMF:Rg:=[iB 43 .lss 42 41]
def aMG:Rg:=[iX 44 1 40 42,iL 45 44,iM 10 45]
def aMH:Rg:=[iM 46 8,iM 47 10,iX 48 1 46 47,⟨none,.store 1 (Tm 48) (.const (.bool true)),none⟩]
def aMI:Rg:=[iC 49 .add 42 1,iM 42 49]
def aMA:aC:=(sq aMF (.seq (.cond (Tm 43) .skip (.exit 0)) (.seq (.block 1 (sq aMG (.region aMH))) (.region aMI))))
def aMJ:Rg:=[iA 50 (.mkfn 159 [(Tm 5)]),iM 11 50]
def aAL:Rg:=[iZ 12,iZ 13]
def aAM:Rd:=[(iF 51 4 3,false),(iL 52 51,false),(iN 53 52,false),(iA 54 (.a6F 1 8 [zI] (Tm 53) (Tm 53)),true),(iF 55 3 3,false),(iL 56 55,false),(iN 57 56,false),(iA 58 (.a6F 1 8 [zI] (Tm 57) (Tm 57)),true),(iM 14 54,false),(iM 15 58,false)]
def aAN:Rg:=[iM 59 1,iL 60 5,iX 61 1 59 60,iL 62 61,iN 63 62,iI 64 0]
def aAO:Rg:=[iB 65 .lss 64 63]
def aAP:Rg:=[iM 66 64,iX 67 1 62 64,iL 68 67,iM 16 66,iM 17 68]
def aAQ:Rg:=[iM 69 17,iC 70 .lss 69 0]
def aAR:Rg:=[iM 71 12,iM 72 11,iM 73 16,iA 74 (.a6Z (Tm 72) [(Ci 2),(Tm 73)]),iA 75 (.a6D true 3 1 [zI,zI,zI] [(0,(Tm 74))]),iA 76 (.append 3 24 (Tm 71) (Tm 75)),iM 12 76]
def aAS:Rg:=[iM 77 8,iF 78 4 3,iL 79 78,iM 80 17,iX 81 3 79 80,iF 82 1 81,iL 83 82,iX 84 1 77 83,iL 85 84,iA 86 (.un .not (Tm 85))]
def aAT:Rg:=[iM 87 13,iM 88 11,iM 89 16,iA 90 (.a6Z (Tm 88) [(Ci 4),(Tm 89)]),iA 91 (.a6D true 3 1 [zI,zI,zI] [(0,(Tm 90))]),iA 92 (.append 3 24 (Tm 87) (Tm 91)),iM 13 92]
def aAU:Rg:=[iM 93 14,iM 94 17,iX 95 1 93 94,iL 96 95,iC 97 .add 96 1,iX 98 1 93 94,iS 1 98 97]
def aAV:Rg:=[iF 99 4 3,iL 100 99,iM 101 17,iX 102 3 100 101,iF 103 2 102,iL 104 103,iM 18 104]
def aAW:Rg:=[iM 105 18,iC 106 .gtr 105 0]
def aAX:Rg:=[iM 113 15,iM 114 18,iX 115 1 113 114,iL 116 115,iC 117 .add 116 1,iX 118 1 113 114,iS 1 118 117]
def aAY:Rg:=[iF 107 3 3,iL 108 107,iM 109 18,iX 110 7 108 109,iF 111 2 110,iL 112 111,iM 18 112]
def aAH:aC:=(.seq (sq aAW (.cond (Tm 106) .skip (.exit 4))) (.seq (.block 5 (.region aAX)) (.region aAY)))
def aAZ:Rg:=[iC 119 .add 64 1,iM 64 119]
def aAI:aC:=(sq aAO (.seq (.cond (Tm 65) .skip (.exit 2)) (.seq (.block 3 (sq aAP (.seq (sq aAQ (.cond (Tm 70) (sq aAR (.exit 3)) .skip)) (.seq (sq aAS (.cond (Tm 86) (.region aAT) .skip)) (sq aAU (sq aAV (.block 4 (.loop aAH)))))))) (.region aAZ))))
def aBA:Rg:=[iM 120 12,iM 19 120]
def aBB:Rg:=[iM 121 14,iN 122 121,iI 123 0]
def aBC:Rg:=[iB 124 .lss 123 122]
def aBD:Rg:=[iM 125 123,iX 126 1 121 123,iL 127 126,iM 20 125,iM 21 127]
def aBE:Rg:=[iM 128 21,iC 129 .gtr 128 1]
def aBF:Rg:=[iM 130 19,iM 131 11,iM 132 20,iA 133 (.a6Z (Tm 131) [(Ci 3),(Tm 132)]),iA 134 (.a6D true 3 1 [zI,zI,zI] [(0,(Tm 133))]),iA 135 (.append 3 24 (Tm 130) (Tm 134)),iM 19 135]
def aBG:Rg:=[iC 136 .add 123 1,iM 123 136]
def aAJ:aC:=(sq aBC (.seq (.cond (Tm 124) .skip (.exit 6)) (.seq (.block 7 (sq aBD (sq aBE (.cond (Tm 129) (.region aBF) .skip)))) (.region aBG))))
def aBH:Rg:=[iM 137 19,iM 138 13,iA 139 (.append 3 24 (Tm 137) (Tm 138)),iM 19 139]
def aBI:Rg:=[iM 140 15,iN 141 140,iI 142 0]
def aBJ:Rg:=[iB 143 .lss 142 141]
def aBK:Rg:=[iM 144 142,iX 145 1 140 142,iL 146 145,iM 22 144,iM 23 146]
def aBL:Rg:=[iF 147 3 3,iL 148 147,iM 149 22,iX 150 7 148 149,iF 151 1 150,iL 152 151,iF 153 4 7,iA 154 (.idxA 5 1 (Tm 153) (Tm 152)),iL 155 154,iM 24 155]
def aBM:Rg:=[iM 156 24,iC 157 .gtr 156 0,iM 158 157,gM 159 23 158 true,gM 160 24 158 true,gB 161 .gtr 159 160 158 true,iP 162 158 161]
def aBN:Rg:=[iM 163 19,iM 164 11,iM 165 22,iA 166 (.a6Z (Tm 164) [(Ci 5),(Tm 165)]),iA 167 (.a6D true 3 1 [zI,zI,zI] [(0,(Tm 166))]),iA 168 (.append 3 24 (Tm 163) (Tm 167)),iM 19 168]
def aBO:Rg:=[iC 169 .add 142 1,iM 142 169]
def aAK:aC:=(sq aBJ (.seq (.cond (Tm 143) .skip (.exit 8)) (.seq (.block 9 (sq aBK (sq aBL (sq aBM (.cond (Tm 162) (.region aBN) .skip))))) (.region aBO))))
def aBP:Rg:=[iM 170 19,iM 6 170]
def apR:aC:=(sq aMB (dq aMC (sq aMD (.seq (sq aME (.block 0 (.loop aMA))) (sq aMJ (sq aAL (dq aAM (.seq (sq aAN (.block 2 (.loop aAI))) (sq aBA (.seq (sq aBB (.block 6 (.loop aAJ))) (sq aBH (.seq (sq aBI (.block 8 (.loop aAK))) (sq aBP .ret)))))))))))))
def a0L:aS:=⟨3,171,apR,[.tmp 6]⟩
def aLQ:Rg:=[iA 3 (.box true (Tm 0)),iZ 6]
def aLR:Rg:=[iO 15 7 3,iK 16 161 15,iA 17 (.un .not (Tm 16)),iM 14 17]
def aLS:Rg:=[iZ 6]
def aLT:Rg:=[iM 19 1,iN 20 19,iF 21 6 3,iL 22 21,iN 23 22,iB 24 .neq 20 23,iM 18 24]
def aLU:Rg:=[iM 25 1,iN 26 25,iA 27 (.build [zI,zI,zI] [(0,1,(Ci 1)),(1,1,(Ci (-1))),(2,1,(Tm 26))]),iA 28 (.a6D true 3 1 [zI,zI,zI] [(0,(Tm 27))]),iM 6 28]
def aLV:Rg:=[iZ 7]
def aLW:Rg:=[iM 29 1,iN 30 29,iI 31 0]
def aLX:Rg:=[iB 32 .lss 31 30]
def aLY:Rg:=[iM 33 31,iM 8 33]
def aLZ:Rg:=[iO 35 7 3,iM 36 1,iM 37 8,iA 38 (.call 160 [(Tm 35),(Tm 36),(Tm 37)]),iM 34 38,iE 39 34 0,iE 40 34 1,iA 9 (.alloc [zI,zI,zI]),iS 3 9 39,iM 10 40]
def azT:Rg:=[iM 41 10]
def azU:Rg:=[iM 42 7,iO 43 3 9,iA 44 (.a6D true 3 1 [zI,zI,zI] [(0,(Tm 43))]),iA 45 (.append 3 24 (Tm 42) (Tm 44)),iM 7 45]
def azV:Rg:=[iM 46 7,iO 47 7 3,iM 48 1,iM 49 8,iA 50 (.call 158 [(Tm 47),(Tm 48),(Tm 49)]),iA 51 (.append 3 24 (Tm 46) (Tm 50)),iM 7 51]
def azW:Rg:=[iC 52 .add 31 1,iM 31 52]
def azR:aC:=(sq aLX (.seq (.cond (Tm 32) .skip (.exit 1)) (.seq (.block 2 (sq aLY (.seq (sq aLZ (sq azT (.cond (Tm 41) (sq azU (.exit 2)) .skip))) (.region azV)))) (.region azW))))
def azX:Rg:=[iO 53 7 3,iM 54 2,iK2 55 152 53 54,iM 11 55]
def azY:Rg:=[iO 56 7 3,iM 57 1,iK2 58 157 56 57,iN 59 58,iI 60 0]
def azZ:Rg:=[iB 61 .lss 60 59]
def aAA:Rg:=[iM 62 60,iX 63 1 58 60,iL 64 63,iM 12 62,iM 13 64]
def aAB:Rg:=[iM 65 13,iM 66 11,iM 67 12,iX 68 1 66 67,iL 69 68,iB 70 .gtr 65 69]
def aAC:Rg:=[iM 71 7,iM 72 12,iA 73 (.build [zI,zI,zI] [(0,1,(Ci 6)),(1,1,(Ci (-1))),(2,1,(Tm 72))]),iA 74 (.a6D true 3 1 [zI,zI,zI] [(0,(Tm 73))]),iA 75 (.append 3 24 (Tm 71) (Tm 74)),iM 7 75]
def aAD:Rg:=[iC 76 .add 60 1,iM 60 76]
def azS:aC:=(sq azZ (.seq (.cond (Tm 61) .skip (.exit 3)) (.seq (.block 4 (sq aAA (sq aAB (.cond (Tm 70) (.region aAC) .skip)))) (.region aAD))))
def aAE:Rg:=[iM 77 7,iM 6 77]
def apQ:aC:=(sq aLQ (.seq (.block 0 (sq aLR (.cond (Tm 14) (sq aLS .ret) (sq aLT (.cond (Tm 18) (sq aLU .ret) .skip))))) (sq aLV (.seq (sq aLW (.block 1 (.loop azR))) (sq azX (.seq (sq azY (.block 3 (.loop azS))) (sq aAE .ret)))))))
def a0K:aS:=⟨3,78,apQ,[.tmp 6]⟩
def ayP:Rg:=[iA 3 (.box true (Tm 0)),iT 6 false]
def ayQ:Rg:=[iO 7 7 3,iK 8 161 7,iM 9 8,gO 10 7 3 9 true,gM 11 1 9 true,gM 12 2 9 true,iG 13 (.call 154 [(Tm 10),(Tm 11),(Tm 12)]) 9 true,gN 14 13 9 true,gC 15 .eql 14 0 9 true,iP 16 9 15,iM 6 16]
def Xb:aC:=(sq ayP (sq ayQ .ret))
def aXG:aS:=⟨3,17,Xb,[.tmp 6]⟩
theorem pK {f:aE} {d:Nat} (h:d<f.a5X.length):(f.a5X.map dH.cells)[d]?=some (f.a5X[d]).cells:=by simp[h]
theorem fG {f:aE} {d:Nat} (h:d<f.a6A.length):(f.a6A.map cD.cells)[d]?=some (f.a6A[d]).cells:=by simp[h]
theorem Wo {f:aE} {d:Nat} (h:d<f.a6B.length):(f.a6B.map bS.cells)[d]?=some (f.a6B[d]).cells:=by simp[h]
theorem sW {f:aE} {d:Nat} (h:d<f.a6A.length):(f.a6A[d]).level=lvl f d:=by rw[lvl,getD_at h]
theorem mf {f:aE} {d:Nat} (h:d<f.a6A.length):(f.a6A[d]).parent=par f d:=by rw[par,getD_at h]
theorem VF.u5 {f:aE} (h:VF f) {d:Nat} (c:d<f.a5X.length):(f.a5X[d]).machine=((dK f d:Nat):Int):=by
 have:=(h.drive d c).2.2.1;rw[dK,getD_at c]; omega
theorem VF.j9 {f:aE} (h:VF f) {d:Nat} (c:d<f.a5X.length):(f.a5X[d]).model=((mdl f d:Nat):Int):=by
 have:=(h.drive d c).1;rw[mdl,getD_at c]; omega
theorem VF.wb {f:aE} (h:VF f) {i:Nat} (c:0<i) (hi:i<f.a6A.length):par f i=((KE f i:Nat):Int):=by
 have:=(h.dom i c hi).1;rw[KE]; omega
theorem aHY {f:aE} (h:VF f) {v:Nat} (d:v<f.a5Z.length):∃ c:DQ f v<f.a6B.length,f.a6B[DQ f v]=KJ f v:=by
 have c:=(h.volume v d).2;exact⟨c,by simp[KJ,a8B,c]⟩
def pick (n:Nat) (p:Nat→Bool):List Int:=((a7J n).filter p).map fun (i:Nat)=>(i:Int)
theorem avG (n:Nat) (p:Nat→Bool):pick (n+1) p=if p n then pick n p++[(n:Int)] else pick n p:=by
 unfold pick;rw[baU,List.filter_append,a8I];by_cases h:p n
 ·rw[if_pos h]; simp[h]
 ·rw[if_neg h]; simp[h]
theorem aHW (n:Nat) (p:Nat→Bool):(pick n p).length≤n:=by
 unfold pick;rw[a7I];exact a8V (bbF _ _) (by simp)
theorem alF (l:List Int) (x:Int):aY l++[[.int .i64 x]]=aY (l++[x]):=by unfold aY; rw[a8I]; rfl
theorem dC (l:List Int):(aY l).length=l.length:=by unfold aY; rw[a7I]
theorem wr {t:Nat} {H:PH} {v:PV} {l:List Int} {F:PF} (h:bQ H 1 v (aY l)) (c:F t=some v):aV [.tmp t] (bY (ints l)) .ret F H:=qN (.inr rfl) h c
theorem AB {t:Nat} {H:PH} {F:PF} (c:F t=some .aB):aV [.tmp t] (bY (ints [])) .ret F H:=qN (rows:=[]) (.inr rfl) .nil c
def FI (f:aE) (dom:Int):List Int :=
 if dR f∧0≤dom∧dom<f.a6A.length then pick f.a5X.length fun d=>decide ((cO f d (lvl f dom.toNat):Nat)=dom.toNat) else []
section
variable (o s:Nat) (rs:List (List PV))
@[go_sem] theorem a3B (k:IntKind) (n:Int):PV.frz o s rs (.int k n)=.int k n:=(rfl)
@[go_sem] theorem a1I (b:Bool):PV.frz o s rs (.bool b)=.bool b:=(rfl)
@[go_sem] theorem a3F (l:List UInt8):PV.frz o s rs (.str l)=.str l:=(rfl)
@[go_sem] theorem a1J:PV.frz o s rs .aB=.aB:=(rfl)
@[go_sem] theorem a4H (n:Nat) (r:List (List PV)):PV.frz o s rs (.sl n r)=.sl n r:=(rfl)
@[go_sem] theorem a1K (c:List PV):PV.frz o s rs (.bH c)=.bH c:=(rfl)
@[go_sem] theorem a3E (q z i c:Nat):PV.frz o s rs (.ptr q z i c)=.ptr q z i c:=(rfl)
@[go_sem] theorem a4G (n:Nat) (c:List PV):PV.frz o s rs (.fn n c)=.fn n c:=(rfl)
@[go_sem] theorem a3C (q:Nat):PV.frz o s rs (.map q)=.map q:=(rfl)
@[go_sem] theorem a3D (q z c len:Nat):PV.frz o s rs (.osl q z c len)=if q=o then (if z=s∧c+len≤rs.length then .sl s ((rs.drop c).take len) else .junk) else .osl q z c len:=(rfl)
end
def oU (s:Nat) (rows:List (List PV)) (r:PV) (H:PH):Prop :=
 (rows=[]∧r=.aB∧H=PH.nil)∨∃ q rs,r=.osl q s 0 rows.length∧H=PH.nil.set q (.rows s rs)∧rows.length≤rs.length∧rs.take rows.length=rows
theorem Yy (q s:Nat) (rs:List (List PV)):(PH.nil.set q (.rows s rs)).frz q s rs=PH.nil:=PH.ext fun o=>by
 rw[yG];by_cases e:o=q
 ·rw[if_pos e]; rfl
 ·rw[if_neg e,aT,if_neg e]; rfl
section
variable {C:Ctx} {K:bR} {F:PF} {H:PH} {s:Nat} {v:PV} {rows:List (List PV)}
theorem oU.over {r:PV} {H':PH} (h:oU s rows r H') (i:lZ H .nil H'):bQ (H.over .nil H') s r rows∧∀ o x,H o=some x→(H.over .nil H') o=some x:=by
 rcases h with ⟨c,e,rfl⟩ | ⟨q,rs,c,rfl,h3,h4⟩
 ·rw[PH.zV]; exact⟨.inl ⟨c,e⟩,fun o x h=>h⟩
 ·rw[PH.pO];have l:H q=none:=i q (.rows s rs) (by simp only[aT,if_true]) rfl;refine⟨.inr ⟨q,rs,c,by simp only[aT,if_true],h3,h4⟩,fun o x d=>?_⟩;have:o≠q:=by rintro rfl; rw[l] at d; cases d
  simp only[aT,if_neg this,d]
theorem m8 {t:Nat} {e:kM} (c:e=.normal∨e=.ret) (h:bQ H s v rows) (d:F t=some v):aV [.tmp t] (oU s rows) e F H:=by
 rcases h with ⟨rfl,rfl⟩ | ⟨q,rs,rfl,h1,h2,h3⟩
 ·exact bA (vs:=[.aB]) c .nil (by rw[kI,nE,d,oN]) a_ (.inl ⟨rfl,rfl,rfl⟩)
 ·exact bA (vs:=[.osl q s 0 rows.length]) c (PH.nil.set q (.rows s rs)) (by rw[kI,nE,d,oN]) (PH.aK a_ h1) (.inr ⟨q,rs,rfl,rfl,h2,h3⟩)
theorem wq {t:Nat} {e:kM} (c:e=.normal∨e=.ret) (d:F t=some .aB):aV [.tmp t] (oU s []) e F H:=m8 c .nil d
theorem avO {t:Nat} {e:kM} {r:PV} {H':PH} (c:e=.normal∨e=.ret) (h:oU s rows r H') (i:F t=some r):aV [.tmp t] (oU s rows) e F (H.over .nil H'):=by
 refine bA (vs:=[r]) c H' (by rw[kI,nE,i,oN]) (fun o x d=>?_) h;rw[gV,d]
theorem aH.freeze {name:Nat} {args:List PV} (h:aH C name args H (oU s rows)):aH C name args H (aF (.sl s rows)) :=
 ⟨h.1,fun E w vs J hW l=>(h.2 E w vs J hW l).mono fun e R M=>by
  obtain⟨u,pv,A,H',rfl,c,y,x,N⟩:=M;rcases N with ⟨rfl,rfl,rfl⟩ | ⟨q,rs,rfl,rfl,h3,h4⟩
  ·exact⟨u,_,A,_,rfl,c,(Co.nil s).sound y,x,rfl,rfl⟩
  ·have O:jC (PF.nil.set 0 (.osl q s 0 rows.length)) (PH.nil.set q (.rows s rs)) _ _:=.step q (s:=s) (rs:=rs) (by simp only[aT,if_true]) (.refl _ _);obtain⟨B,k1,k2,Q⟩:=O.sound c;have d:=Q (fun _=>u) (fun i p hi=>by
    rw[kD] at hi;split at hi
    ·cases hi; exact y
    ·cases hi) 0 (.sl s rows) (by rw[qY,kD,if_pos rfl,a8Y,tZ h3,h4])
   rw[Yy] at k1 k2;exact⟨u,_,B,_,rfl,k1,d,x.trans k2,rfl,rfl⟩⟩
theorem eJ.of:∀ {E:Env} (ps:List PV) (vs:List Value),vs.length=ps.length→(∀ (i:Nat) p v,ps[i]?=some p→vs[i]?=some v→aZ E p v)→eJ E ps vs
 | _,[],[],_,_=>.nil
 | _,[],_::_,h,_=>by simp at h
 | _,_::_,[],h,_=>by simp at h
 | _,p::ps,v::vs,h,k=>.cons (k 0 p v rfl rfl) (eJ.of ps vs (by simpa using h) fun i q u a b=>k (i+1) q u (by simpa using a) (by simpa using b))
theorem bM.same {E:Env} {w l:World} (hW:bM E H w) (A:w.heap.size≤l.heap.size) (y:∀ b,b<w.heap.size→H b=none→l.heap[b]?=w.heap[b]?) (u:∀ o x,H o=some x→l.heap[o]?=w.heap[o]?):bM E H l:=by
 have d:∀ b,b<w.heap.size→l.heap[b]?=w.heap[b]?:=fun b hlt=>by
  cases e:H b with
  | none=>exact y b hlt e
  | some x=>exact u b x e
 refine⟨fun b cs h=>?_,fun o x h=>?_,fun o n h=>?_⟩
 ·obtain⟨c,ty,q,i⟩:=hW.g b cs h;exact⟨c,ty,q,(d b (baS.1 i).1).trans i⟩
 ·obtain⟨c,i⟩:=hW.h o x h;exact⟨Nat.lt_of_lt_of_le c A,i.mono (.refl E) (d o c)⟩
 ·obtain⟨p,ty,q,c,i⟩:=hW.s o n h;exact⟨p,ty,q,(d o (baS.1 c).1).trans c,i⟩
inductive Plain:PV→Prop
 | int (k:IntKind) (n:Int):Plain (.int k n)
 | bool (b:Bool):Plain (.bool b)
 | str (l:List UInt8):Plain (.str l)
theorem Plain.rep {v:PV} (h:Plain v) {E c:Env} {u:Value} (r:aZ E v u):aZ c v u:=by
 cases h<;>cases r
 ·exact .int _ _
 ·exact .bool _
 ·exact .str _
theorem aH.aGC {name o:Nat} {rs:List (List PV)} {args:List PV} (Y:Plain v) (h:aH C name (args.map (PV.frz o s rs)) .nil (aF v)) :
  aH C name args (PH.nil.set o (.rows s rs)) (fun r H'=>r=v∧H'=PH.nil.set o (.rows s rs)):=by
 refine⟨h.1,fun E w vs Q hW B=>?_⟩;have Z:jC (PF.args args) (PH.nil.set o (.rows s rs)) _ _:=.step o (s:=s) (rs:=rs) (by simp only[aT,if_true]) (.refl _ _);obtain⟨N,k1,k2,k3⟩:=Z.sound hW;rw[Yy] at k1 k2;have A:=B.len;have J:eJ N (args.map (PV.frz o s rs)) vs.toList:=by
  refine eJ.of _ _ (by rw[a7I]; exact A) fun i p u V X=>?_;have:=k3 (fun i=>(vs.toList[i]?).getD undef) (fun j q O=>by have U:=(a8R.1 O).1;have y:j<vs.toList.length:=Om;simp only[a7W y,baK];exact B.at_ j q _ O (a7W y)) i p (by rw[qY,args_at,← a8H]; exact V)
  simp only[X,baK] at this;exact this
 refine (h.2 N w vs (k2.env.num.trans Q) k1 J).mono fun e w' S=>?_;obtain⟨u,pv,E2,H2,rfl,R,W,l,rfl,rfl⟩:=S;have c:∀ b,b<w.heap.size→w'.heap[b]?=w.heap[b]?:=fun b d=>l.block b d rfl;refine⟨u,pv,E,_,rfl,hW.same l.size (fun b d _=>c b d) (fun q x M=>c q (hW.h q x M).1),Y.rep W,⟨.refl E,l.os,l.tape,l.output,l.size,fun b d _=>c b d,fun q x M=>.inl ⟨x,M⟩,fun b cs d=>.inl d⟩,rfl,rfl⟩
theorem Xj {name o:Nat} {rs:List (List PV)} {args:List aP} {vs:List PV} {d:Option Nat} {K:PF→PH→Prop} (l:Plain v) (h:aH C name (vs.map (PV.frz o s rs)) .nil (aF v)) (c:H o=some (.rows s rs)) (e:aP.evs F args=some vs)
  (i:K (F.put d v) H):iU C name args [] d K F H:=by
 refine kU (h.aGC l) e (PH.aK a_ c) ?_;rintro r H' ⟨rfl,rfl⟩ -;rw[PH.over_self _ (PH.aK a_ c)];exact i
theorem aEO {Hs:PH} {S:Spec} {name o:Nat} {rs:List (List PV)} {vs:List PV} {R:PH→PV→PH→Prop} {args:List aP} {st:Bool} {d:Option Nat} {K:PF→PH→Prop} (l:S name vs=some ([o],R)) (w:Plain v) (u:H o=some (.rows s rs))
  (h:aH C name (vs.map (PV.frz o s rs)) .nil (aF v)) (c:R (PH.nil.set o (.rows s rs)) v (PH.nil.set o (.rows s rs))) (e:∀ r H',R (PH.nil.set o (.rows s rs)) r H'→r=v∧H'=PH.nil.set o (.rows s rs)) (p:aP.evs F args=some vs) (i:Hs.le H) (q:K (F.put d v) H) :
  dOp C Hs S st (.call name args) d K F H:=ZH l u (h.aGC w) c e p i q
theorem Gw {name t:Nat} {R:PV→PH→Prop} {d:Option Nat} {K:PF→PH→Prop} (h:aH C name [.sl s rows] .nil R) (w:bQ H s v rows) (p:F t=some v)
  (l:∀ (c:PF) (e:PH),(∀ i u,F i=some u→Pure u→c i=some u)→∀ r H',R r H'→lZ e .nil H'→K (c.put d r) (e.over .nil H')):iU C name [.tmp t] [] d K F H:=by
 rcases w with ⟨rfl,rfl⟩ | ⟨q,rs,rfl,h1,h2,h3⟩
 ·exact .inl ⟨[.aB],.nil,R,by rw[zG,i4,p,UP]; rfl,a_,h.anP (.inl ⟨rfl,rfl⟩),l F H fun i u hi _=>hi⟩
 ·refine .inr ⟨_,_,.step q h1 (.refl _ _),[.sl s rows],.nil,R,?_,a_,h,l _ _ fun i u hi x=>?_⟩
  ·simp only[zG,UP,i4,qY,p,a8Y,tZ h2,h3,a9I]
  ·rw[qY,hi,a8Y,x q s rs]
end
theorem Af (l:List Int) (i:Nat) (x:Int):(aY l).set i [.int .i64 x]=aY (l.set i x):=by unfold aY; rw[List.map_set]
theorem WD (n:Nat):a7M n [PV.int .i64 0]=aY (a7M n 0):=by simp[aY]
def aWJ (f:aE) (c:List Int) (d:Nat):Int:=if c.length=f.a5X.length then min (max (c.getD d 0) 0) (ext f d) else ext f d
def a0D (f:aE) (c:List Int):List Int:=(a7J f.a5X.length).map (aWJ f c)
abbrev lay (l:List (List Int)):PV:=.sl 1 (l.map fun r=>[ints r])
def a2N (n:Nat) (xs:List Int):List Int:=(a7J n).map fun (d:Nat)=>((xs.count (d:Int):Nat):Int)
def aVV (f:aE) (l:List (List Int)):List Int:=a2N f.a5X.length l.flatten
structure aYR (l:List (List Int)):Prop where
 rows:l.length≤16777216
 all:l.flatten.length≤16777216
theorem asL (l:List (List Int)) {i:Nat} (h:i<l.length):(l.take (i+1)).flatten=(l.take i).flatten++l[i]:=by
 rw[a9G h,List.flatten_append];simp only[List.flatten_cons,List.flatten_nil,a9I]
structure aUR where
 kind:Int
 vol:Int
 wher:Int
abbrev aUR.cells (x:aUR):List PV:=[.int .i64 x.kind,.int .i64 x.vol,.int .i64 x.wher]
section
variable {C:Ctx} {F:PF} {H:PH}
theorem aqO {name:Nat} {vs cs:List PV} {r:PV} {e:PH} {args:List aP} {d:Option Nat} {K:PF→PH→Prop} (h:aH C name (vs++cs) e (fun i H'=>i=r∧H'=e)) (l:aP.evs F args=some vs) (c:e.le H)
  (p:K (F.put d r) H):iU C name args cs d K F H:=by
 refine .inl ⟨vs++cs,e,_,by rw[l]; rfl,c,h,?_⟩;rintro i H' ⟨rfl,rfl⟩ -;rw[PH.over_self _ c];exact p
theorem bQ.ne {s s':Nat} {v:PV} {rows:List (List PV)} {o:Nat} {y:List (List PV)} (h:bQ H s v rows) (i:H o=some (.rows s' y)) (p:s≠s'):∀ l,v≠.osl o s 0 l:=by
 intro l e;rcases h with ⟨_,c⟩ | ⟨q,rs,h1,c,_⟩
 ·rw[c] at e; cases e
 ·rw[h1] at e;injection e with d
  subst d;rw[i] at c;injection c with c
  injection c with c
  exact p c.symm
theorem bQ.set {s s':Nat} {v:PV} {rows:List (List PV)} {o:Nat} {y:List (List PV)} {x:cG} (h:bQ H s v rows) (i:H o=some (.rows s' y)) (l:s≠s'):bQ (H.set o x) s v rows:=by
 have e:=h.ne i l;rcases h with ⟨c,d⟩ | ⟨q,rs,c,d,h3,h4⟩
 ·exact .inl ⟨c,d⟩
 ·refine .inr ⟨q,rs,c,?_,h3,h4⟩;have:q≠o:=by rintro rfl; exact e _ c
  simp only[aT,if_neg this,d]
def Dis (s:Nat) (v u:PV):Prop:=∀ q l c d,v=.osl q s 0 l→u=.osl c s 0 d→q≠c
theorem Dis.nil {s:Nat}:Dis s .aB .aB:=fun _ _ _ _ h=>by cases h
theorem Dis.symm {s:Nat} {v u:PV} (h:Dis s v u):Dis s u v:=fun q l i e c d=>(h i e q l d c).symm
end
def lM (f:aE) (i:Nat) (d:Int):Bool:=decide (0≤d)&&decide (cO f d.toNat (lvl f i)=i)
def fD (f:aE) (xs:List Int) (i:Nat):Int:=if i=0 then 0 else ((xs.countP (lM f i):Nat):Int)
def mD (f:aE) (xs:List Int):List Int:=(a7J f.a6A.length).map (fD f xs)
def mM (f:aE) (xs:List Int) (d:Nat) (k:Nat):List Int:=(a7J f.a6A.length).map fun i=>if 4-(k:Int)<lvl f i then fD f (xs++[(d:Int)]) i else fD f xs i
theorem aET (f:aE) (xs:List Int) (d k:Nat):(mM f xs d k).length=f.a6A.length:=by simp[mM]
theorem VF.kA {f:aE} (h:VF f) {i:Nat} (hi:i<f.a6A.length):0≤lvl f i∧lvl f i≤4∧(lvl f i=0↔i=0):=by
 rcases a9S i with e | e
 ·subst e; rw[h.root.2.1]; simp
 ·have:=h.dom i e hi;omega
theorem asA {f:aE} (h:VF f) (xs:List Int) (d:Nat):mM f xs d 0=mD f xs:=by
 refine baQ (by simp[mM,mD]) fun i e c=>?_;simp only[mM,mD,a9D,List.getElem_range];have hi:i<f.a6A.length:=by simpa [mD] using c
 have:=h.kA hi;rw[if_neg Om]
theorem arZ {f:aE} (h:VF f) (xs:List Int) (d:Nat):mM f xs d 4=mD f (xs++[(d:Int)]):=by
 refine baQ (by simp[mM,mD]) fun i l c=>?_;simp only[mM,mD,a9D,List.getElem_range];have hi:i<f.a6A.length:=by simpa [mD] using c
 have:=h.kA hi;by_cases e:i=0
 ·subst e;rw[if_neg Om];simp[fD]
 ·rw[if_pos Om]
theorem AZ (f:aE) (xs:List Int) (d:Nat) {i:Nat} (hi:i≠0):fD f (xs++[(d:Int)]) i=fD f xs i+if cO f d (lvl f i)=i then 1 else 0:=by
 unfold fD;rw[if_neg hi,if_neg hi,List.countP_append];by_cases h:cO f d (lvl f i)=i
 ·rw[if_pos h]; simp[lM,h]
 ·rw[if_neg h]; simp[lM,h]
theorem aOU {f:aE} (h:VF f) (xs:List Int) {d:Nat} (x:d<f.a5X.length) {k:Nat} (B:k<4) :
  (mM f xs d k)[upN f k (dK f d)]?=some (fD f xs (upN f k (dK f d))) ∧
  (mM f xs d k).set (upN f k (dK f d)) (fD f xs (upN f k (dK f d))+1)=mM f xs d (k+1):=by
 obtain⟨y,u⟩:=GI h x (k:=k) Om;constructor
 ·simp only[mM,a8H,List.getElem?_range y,a8Y];rw[if_neg Om]
 ·refine baQ (by simp[mM]) fun i A w=>?_;have hi:i<f.a6A.length:=by simpa [mM] using w
  simp only[mM,List.getElem_set,a9D,List.getElem_range];have E:=h.kA hi;by_cases e:upN f k (dK f d)=i
  ·rw[if_pos e];subst e;rw[if_pos Om];have l:upN f k (dK f d)≠0:=by intro e; rw[e,h.root.2.1] at u; omega
   rw[AZ f xs d l,cO,u];have:4-(4-(k:Int)).toNat=k:=Om;rw[this,if_pos rfl]
  ·rw[if_neg e];by_cases c:4-(k:Int)<lvl f i
   ·rw[if_pos c,if_pos Om]
   ·rw[if_neg c];by_cases p:4-((k+1:Nat):Int)<lvl f i
    ·rw[if_pos p];have q:lvl f i=4-(k:Int):=Om;have l:i≠0:=by intro e; subst e; rw[h.root.2.1] at q; omega
     rw[AZ f xs d l,cO,q];have:4-(4-(k:Int)).toNat=k:=Om;rw[this,if_neg e]; simp
    ·rw[if_neg p]
theorem aOT (f:aE) (xs:List Int) (i:Nat):0≤fD f xs i∧fD f xs i≤xs.length:=by
 unfold fD;have:=List.countP_le_length (p:=lM f i) (l:=xs);split<;>omega
structure Obs where
 o5:Nat
 o7:Nat
 o8:Nat
 oD:Nat
 oB:Nat
structure Obs.Ne (o:Obs):Prop where
 a1:o.o5≠o.oD
 a2:o.o5≠o.oB
 a3:o.o7≠o.oD
 a4:o.o7≠o.oB
 a5:o.o8≠o.oD
 a6:o.o8≠o.oB
 a7:o.oD≠o.oB
structure aDF (H:PH) (o:Obs) (v:Nat) (p:bS) (A:List Bool) (D B:List Int):Prop where
 h5:H o.o5=some (.rows 1 [[.int .i64 v]])
 h7:H o.o7=some (.rows 17 [p.cells])
 h8:H o.o8=some (.rows 1 (dJ A))
 hD:H o.oD=some (.rows 1 (aY D))
 hB:H o.oB=some (.rows 1 (aY B))
theorem aDF.keep {H H':PH} {o:Obs} {v:Nat} {p:bS} {A:List Bool} {D B:List Int} (h:aDF H o v p A D B) (c:∀ q s' z,3≠s'→H q=some (.rows s' z)→H' q=some (.rows s' z)):aDF H' o v p A D B :=
 ⟨c _ _ _ (by decide) h.h5,c _ _ _ (by decide) h.h7,c _ _ _ (by decide) h.h8,c _ _ _ (by decide) h.hD,c _ _ _ (by decide) h.hB⟩
structure G2 (f:aE) (row:List Int):Prop where
 len:row.length≤16777216
 at_:∀ x∈row,-1≤x∧x<(f.a5X.length:Nat)
def home (row:List Int) (i:Nat):Bool:=decide (row.getD i 0<0)
def dZ (f:aE) (p:bS) (i:Nat):Int:=p.spread (lvl f i).toNat
theorem OJ (n:Nat):a7M n [PV.bool false]=dJ (marks n []):=by rw[At]; simp[dJ]
theorem aCT (f:aE):a7M f.a6A.length [PV.int .i64 0]=aY (mD f []):=by
 have:mD f []=a7M f.a6A.length 0:=by refine baQ (by simp[mD]) fun i c d=>?_;simp[mD,fD]
 rw[this,WD]
def over (f:aE) (l:List (List Int)) (c:List Int) (d:Nat):Bool:=decide ((aVV f l).getD d 0>(a0D f c).getD d 0)
def aaW:Rg:=[iA 2 (.mv (.const (.lit (.pointer none))))]
def aaX:Rg:=[iM 3 0,iN 4 3,iC 5 .gtr 4 400]
def aaY:Rg:=[iM 6 0,iA 7 (.slice 1 (Tm 6) none (some (Ci 400)) none),iM 0 7]
def vb:Rg:=[iM 8 0,iA 9 (.append 1 1 (.const .aB) (Tm 8)),iA 10 (.build [.aB,zI] [(0,1,(Tm 9))]),iA 11 (.box false (Tm 10)),iM 2 11]
def QT:aC:=(sq aaW (.seq (sq aaX (.cond (Tm 5) (.region aaY) .skip)) (sq vb .ret)))
def aQL:List Nat:=[]
def amC:aS:=⟨1,12,QT,[.tmp 2]⟩
def bx:Rg:=[iI 4 0]
def JN:Rd:=[(iM 5 0,false),(iA 6 (.a6K (Tm 5)),false),(iF 7 1 6,false),(iL 8 7,false),(iM 9 0,false),(iA 10 (.a6K (Tm 9)),false),(iF 11 0 10,false),(iL 12 11,false),(iN 13 12,false),(iB 14 .geq 8 13,false),(iM 15 14,false),(gM 16 1 15 false,false),(gC 17 .lss 16 2 15 false,false),(iQ 18 15 17,false)]
def bz:Rg:=[iI 4 0]
def Pe:Rg:=[iM 19 0,iA 20 (.a6K (Tm 19)),iF 21 1 20,iL 22 21,iC 23 .add 22 1,iA 24 (.a6K (Tm 19)),iF 25 1 24,iS 1 25 23]
def Pf:Rd:=[(iM 26 0,false),(iA 27 (.a6K (Tm 26)),false),(iF 28 0 27,false),(iL 29 28,false),(iM 30 0,false),(iA 31 (.a6K (Tm 30)),false),(iF 32 1 31,false),(iL 33 32,false),(iC 34 .sub 33 1,false),(iX 35 1 29 34,false),(iL 36 35,false),(iA 37 (.conv .i64 (Tm 36)),false),(iM 38 1,false),(iB 39 .rem 37 38,false),(iM 4 39,false)]
def xG:aC:=(sq bx (.seq (dq JN (.cond (Tm 18) (sq bz .ret) .skip)) (sq Pe (dq Pf .ret))))
def aHB:List Nat:=[]
def lg:aS:=⟨2,40,xG,[.tmp 4]⟩
def Oq:Rg:=[iA 2 (.alloc [zB,.aB,.aB])]
def Or:Rg:=[iM 6 0,iA 7 (.call 4 [(Tm 6),(Ci 6)]),iA 8 (.bin .add (Ci 1) (Tm 7)),iM 9 0,iA 10 (.call 4 [(Tm 9),(Ci 8)]),iA 11 (.bin .add (Ci 1) (Tm 10)),iK2 12 50 8 11,iM 5 12,iE 13 5 0,iE 14 5 1,iA 3 (.alloc [zB,.aB,.aB]),iS 3 3 13,iM 4 14]
def Ot:Rg:=[iO 15 3 3,iS 3 2 15]
def JH:aC:=(sq Oq (sq Or (sq Ot .ret)))
def aGW:List Nat:=[]
def He:aS:=⟨1,16,JH,[.cell 2 (some 3)]⟩
def aaP:Rg:=[iA 4 (.alloc [(.str []),.aB,.aB,.aB])]
def aaQ:Rg:=[iM 16 0,iM 17 1,iK2 18 4 16 17,iA 19 (.bin .add (Ci 1) (Tm 18)),iM 5 19]
def aaR:Rg:=[iA 6 (.alloc [(.str []),.aB,.aB,.aB])]
def aaS:Rg:=[iI 7 8]
def aaT:Rg:=[iI 8 0]
def aaU:Rg:=[iM 20 8,iM 21 5,iB 22 .lss 20 21]
def u7:Rg:=[iM 25 7,iM 9 25]
def u9:Rg:=[iM 26 8,iC 27 .add 26 1,iM 28 5,iB 29 .lss 27 28]
def va:Rg:=[iM 30 0,iM 31 7,iC 32 .add 31 1,iK2 33 4 30 32,iM 9 33]
def UY:Rg:=[iM 34 7,iM 35 9,iB 36 .sub 34 35,iM 7 36]
def bg:Rg:=[iM 38 9,iA 39 (.call 50 [(Tm 38),(Ci 8)]),iM 37 39,iE 40 37 0,iE 41 37 1,iA 10 (.alloc [zB,.aB,.aB]),iS 3 10 40,iM 11 41]
def bi:Rg:=[iF 42 1 6,iL 43 42,iO 44 3 10,iA 45 (.a6D true 3 1 [zB,.aB,.aB] [(0,(Tm 44))]),iA 46 (.append 3 56 (Tm 43) (Tm 45)),iF 47 1 6,iS 1 47 46]
def bj:Rg:=[iM 48 0,iK 49 1 48,iA 12 (.alloc [zB,.aB,.aB]),iS 3 12 49]
def bk:Rg:=[iM 50 8,iC 51 .add 50 1,iM 52 5,iB 53 .lss 51 52,iM 54 53,gM 55 0 54 true,iG 56 (.call 4 [(Tm 55),(Ci 3)]) 54 true,gC 57 .eql 56 0 54 true,iP 58 54 57]
def bn:Rg:=[iA 59 (.call 47 [(Ci 0)]),iS 3 12 59]
def JL:Rg:=[iF 60 3 6,iL 61 60,iO 62 3 12,iA 63 (.a6D true 3 1 [zB,.aB,.aB] [(0,(Tm 62))]),iA 64 (.append 3 56 (Tm 61) (Tm 63)),iF 65 3 6,iS 1 65 64]
def bo:Rg:=[iZ 13]
def br:Rg:=[iI 14 0]
def O4:Rg:=[iM 66 14,iM 67 5,iB 68 .lss 66 67]
def O5:Rg:=[iA 71 (.call 47 [(Ci 0)]),iA 15 (.alloc [zB,.aB,.aB]),iS 3 15 71]
def O6:Rg:=[iM 72 14,iM 73 8,iC 74 .add 73 1,iB 75 .eql 72 74,iM 76 75,gM 77 14 76 false,gM 78 8 76 false,gB 79 .neq 77 78 76 false,gM 80 79 76 false,gM 81 0 80 true,iG 82 (.call 4 [(Tm 81),(Ci 3)]) 80 true,gC 83 .eql 82 0 80 true,iG 84 (.pick (Tm 80) (Tm 83) (.const zB)) 76 false,iQ 85 76 84]
def bs:Rg:=[iM 86 0,iK 87 1 86,iS 3 15 87]
def bu:Rg:=[iM 88 13,iO 89 3 15,iA 90 (.a6D true 3 1 [zB,.aB,.aB] [(0,(Tm 89))]),iA 91 (.append 3 56 (Tm 88) (Tm 90)),iM 13 91]
def bv:Rg:=[iM 69 14,iC 70 .add 69 1,iM 14 70]
def JK:aC:=(.seq (sq O4 (.cond (Tm 68) .skip (.exit 2))) (.seq (.block 3 (sq O5 (.seq (sq O6 (.cond (Tm 85) (.region bs) .skip)) (.region bu)))) (.region bv)))
def bw:Rg:=[iF 92 2 6,iL 93 92,iM 94 13,iA 95 (.a6D true 1 1 [.aB] [(0,(Tm 94))]),iA 96 (.append 1 24 (Tm 93) (Tm 95)),iF 97 2 6,iS 1 97 96]
def O7:Rg:=[iM 23 8,iC 24 .add 23 1,iM 8 24]
def O3:aC:=(.seq (sq aaU (.cond (Tm 22) .skip (.exit 0))) (.seq (.block 1 (sq u7 (.seq (sq u9 (.cond (Tm 29) (.region va) .skip)) (sq UY (sq bg (sq bi (sq bj (.seq (sq bk (.cond (Tm 58) (.region bn) .skip)) (sq JL (sq bo (.seq (sq br (.block 2 (.loop JK))) (.region bw)))))))))))) (.region O7)))
def O8:Rg:=[iO 98 4 6,iS 4 4 98]
def QS:aC:=(sq aaP (sq aaQ (sq aaR (sq aaS (.seq (sq aaT (.block 0 (.loop O3))) (sq O8 .ret))))))
def aQJ:List Nat:=[45,63,90,95]
def alP:aS:=⟨2,99,QS,[.cell 4 (some 4)]⟩
def abB:Rg:=[iZ 4]
def abC:Rg:=[iZ 5]
def abD:Rg:=[iI 6 0]
def abE:Rg:=[iM 7 6,iM 8 1,iA 9 (.a6S true (Tm 8) (Ci 1)),iB 10 .lss 7 9]
def abF:Rg:=[iM 13 5,iM 14 0,iK 15 1 14,iA 16 (.a6D true 3 1 [zB,.aB,.aB] [(0,(Tm 15))]),iA 17 (.append 3 56 (Tm 13) (Tm 16)),iM 5 17]
def abG:Rg:=[iM 11 6,iC 12 .add 11 1,iM 6 12]
def aaZ:aC:=(.seq (sq abE (.cond (Tm 10) .skip (.exit 0))) (.seq (.block 1 (.region abF)) (.region abG)))
def abH:Rg:=[iM 18 5,iM 4 18]
def QU:aC:=(sq abB (sq abC (.seq (sq abD (.block 0 (.loop aaZ))) (sq abH .ret))))
def aQN:List Nat:=[16]
def amD:aS:=⟨2,19,QU,[.tmp 4]⟩
def Pb:Rg:=[iA 4 (.mv (.const (.str [])))]
def Pc:Rg:=[iM 5 0,iM 6 1,iK 7 195 6,iB 8 .add 5 7,iM 4 8]
def JM:aC:=(sq Pb (sq Pc .ret))
def aHA:List Nat:=[]
def Hf:aS:=⟨2,9,JM,[.tmp 4]⟩
def Ow:Rg:=[iM 12 1,iA 13 (.a6K (Tm 12)),iF 14 3 13,iL 15 14,iM 16 2,iX 17 7 15 16,iF 18 1 17,iL 19 18,iC 20 .add 19 1,iM 8 20]
def Ox:Rg:=[iM 21 0,iA 22 (.call 4 [(Tm 21),(Ci 2)]),iA 23 (.bin .add (Ci 1) (Tm 22)),iM 9 23]
def Oy:Rg:=[iM 24 8,iC 25 .eql 24 2]
def Oz:Rg:=[iI 9 1]
def JI:Rg:=[iI 10 0]
def bd:Rg:=[iM 26 10,iM 27 9,iB 28 .lss 26 27]
def be:Rg:=[iM 31 8,iC 32 .eql 31 5]
def O0:Rg:=[iM 33 1,iA 34 (.a6K (Tm 33)),iF 35 4 34,iL 36 35,iN 37 36,iM 38 3,iB 39 .lss 37 38]
def O1:Rd:=[(iM 40 1,true),(iM 41 1,true),(iA 42 (.a6K (Tm 41)),true),(iF 43 4 42,true),(iL 44 43,true),(iM 45 1,false),(iA 46 (.a6K (Tm 45)),false),(iF 47 4 46,false),(iL 48 47,false),(iN 49 48,false),(iA 50 (.call 29 [(.const (.str [100])),(Tm 49)]),true),(iM 51 0,true),(iM 52 1,true),(iA 53 (.a6K (Tm 52)),true),(iF 54 2 53,true),(iL 55 54,true),(iN 56 55,true),(iK2 57 4 51 56,true),(iM 58 2,true),(iA 59 (.build [(.str []),zI,zI] [(0,1,(Tm 50)),(1,1,(Tm 57)),(2,1,(Tm 58))]),false),(iA 60 (.a6D true 3 1 [(.str []),zI,zI] [(0,(Tm 59))]),false),(iA 61 (.append 3 32 (Tm 44) (Tm 60)),true),(iA 62 (.a6K (Tm 40)),false),(iF 63 4 62,false)]
def O2:Rd:=[(iS 1 63 61,true)]
def A5:Rg:=[iM 64 1,iA 65 (.a6K (Tm 64)),iF 66 4 65,iL 67 66,iN 68 67,iM 69 3,iB 70 .geq 68 69,iM 71 70,gM 72 1 71 false,iG 73 (.a6K (Tm 72)) 71 false,gF 74 3 73 71 false,gL 75 74 71 false,gN 76 75 71 false,gC 77 .geq 76 35 71 false,iQ 78 71 77]
def A6:Rd:=[(iM 79 8,false),(iA 80 (.a6Y (.const (.str [45,115,114,107,109])) (Tm 79)),false),(iA 81 (.a6D true 1 1 [(.int .u8 0)] [(0,(Tm 80))]),false),(iA 82 (.a6L (Tm 81)),false),(iM 83 1,false),(iA 84 (.a6K (Tm 83)),false),(iF 85 3 84,false),(iL 86 85,false),(iN 87 86,false),(iK2 88 29 82 87,true),(iM 89 8,true),(iM 90 2,true),(iM 91 0,true),(iA 92 (.call 4 [(Tm 91),(Ci 16)]),true),(iA 93 (.bin .add (Ci 1) (Tm 92)),true),(iA 94 (.call 47 [(Ci 0)]),true),(iA 95 (.build [(.str []),zI,zI,zI,zB,.aB,.aB] [(0,1,(Tm 88)),(1,1,(Tm 89)),(2,1,(Tm 90)),(3,1,(Tm 93)),(4,3,(Tm 94))]),false),(iA 11 (.alloc [(.str []),zI,zI,zI,zB,.aB,.aB]),true),(iS 7 11 95,true)]
def A7:Rg:=[iM 96 0,iA 97 (.call 4 [(Tm 96),(Ci 3)]),iC 98 .eql 97 0]
def A8:Rg:=[iM 100 0,iA 101 (.call 4 [(Tm 100),(Ci 6)]),iA 102 (.bin .add (Ci 2) (Tm 101)),iA 103 (.call 50 [(Ci 1),(Tm 102)]),iM 99 103,iE 104 99 0,iE 105 99 1,iF 106 4 11,iS 3 106 104]
def QM:Rd:=[(iM 107 1,true),(iM 108 1,false),(iA 109 (.a6K (Tm 108)),false),(iF 110 3 109,false),(iL 111 110,false),(iO 112 7 11,false),(iA 113 (.a6D true 7 1 [(.str []),zI,zI,zI,zB,.aB,.aB] [(0,(Tm 112))]),false),(iA 114 (.append 7 96 (Tm 111) (Tm 113)),true),(iA 115 (.a6K (Tm 107)),false),(iF 116 3 115,false),(iS 1 116 114,true)]
def QN:Rg:=[iM 117 0,iM 118 1,iM 119 1,iA 120 (.a6K (Tm 119)),iF 121 3 120,iL 122 121,iN 123 122,iC 124 .sub 123 1,iM 125 3,iA 126 (.call 7 [(Tm 117),(Tm 118),(Tm 124),(Tm 125)])]
def vX:Rg:=[iM 29 10,iC 30 .add 29 1,iM 10 30]
def vW:aC:=(.seq (sq bd (.cond (Tm 28) .skip (.exit 0))) (.seq (.block 1 (.seq (sq be (.cond (Tm 32) (.seq (sq O0 (.cond (Tm 39) (dq O1 (.draw O2)) .skip)) (.exit 1)) .skip)) (.seq (sq A5 (.cond (Tm 78) .ret .skip)) (dq A6 (.seq (sq A7 (.cond (Tm 98) (.region A8) .skip)) (dq QM (.region QN))))))) (.region vX)))
def xF:aC:=(sq Ow (sq Ox (.seq (sq Oy (.cond (Tm 25) (.region Oz) .skip)) (sq JI (.block 0 (.loop vW))))))
def aGX:List Nat:=[60,81,113]
def lf:aS:=⟨4,127,xF,[]⟩
def Aw:Rg:=[iA 6 (.alloc [zI,.aB,.aB,.aB,.aB,.aB,.aB])]
def Ax:Rg:=[iM 20 0,iA 21 (.call 4 [(Tm 20),(Ci 2)]),iA 22 (.bin .add (Ci 1) (Tm 21)),iA 23 (.build [zI,.aB,.aB,.aB,.aB,.aB,.aB] [(0,1,(Tm 22))]),iA 7 (.alloc [zI,.aB,.aB,.aB,.aB,.aB,.aB]),iS 7 7 23]
def Ay:Rg:=[iM 24 0,iA 25 (.call 4 [(Tm 24),(Ci 2)]),iA 26 (.bin .add (Ci 1) (Tm 25)),iM 8 26]
def Az:Rg:=[iI 9 0]
def A0:Rg:=[iM 27 9,iM 28 8,iB 29 .lss 27 28]
def A1:Rg:=[iM 32 0,iA 33 (.call 2 [(Tm 32),(Ci 2)]),iA 10 (.alloc [(.str []),.aB,.aB,.aB]),iS 4 10 33]
def A2:Rg:=[iM 34 9,iA 35 (.call 29 [(.const (.str [108,97,119])),(Tm 34)]),iF 36 0 10,iS 1 36 35]
def A3:Rg:=[iF 37 1 7,iL 38 37,iO 39 4 10,iA 40 (.a6D true 4 1 [(.str []),.aB,.aB,.aB] [(0,(Tm 39))]),iA 41 (.append 4 88 (Tm 38) (Tm 40)),iF 42 1 7,iS 1 42 41]
def A4:Rg:=[iM 30 9,iC 31 .add 30 1,iM 9 31]
def QL:aC:=(.seq (sq A0 (.cond (Tm 29) .skip (.exit 0))) (.seq (.block 1 (sq A1 (sq A2 (.region A3)))) (.region A4)))
def kb:Rg:=[iM 43 0,iA 44 (.call 4 [(Tm 43),(Ci 2)]),iA 45 (.bin .add (Ci 1) (Tm 44)),iM 11 45]
def kc:Rg:=[iI 12 0]
def kd:Rg:=[iM 46 12,iM 47 11,iB 48 .lss 46 47]
def kf:Rd:=[(iF 51 2 7,true),(iL 52 51,true),(iM 53 12,false),(iA 54 (.call 29 [(.const (.str [109])),(Tm 53)]),true),(iM 55 0,true),(iA 56 (.call 4 [(Tm 55),(Ci 4)]),true),(iA 57 (.bin .add (Ci 1) (Tm 56)),true),(iM 58 0,true),(iA 59 (.call 4 [(Tm 58),(Ci 8)]),true),(iA 60 (.bin .add (Ci 1) (Tm 59)),true),(iM 61 0,true),(iF 62 1 7,true),(iL 63 62,true),(iN 64 63,true),(iK2 65 4 61 64,true),(iA 66 (.build [(.str []),zI,zI,zI] [(0,1,(Tm 54)),(1,1,(Tm 57)),(2,1,(Tm 60)),(3,1,(Tm 65))]),false),(iA 67 (.a6D true 4 1 [(.str []),zI,zI,zI] [(0,(Tm 66))]),false),(iA 68 (.append 4 40 (Tm 52) (Tm 67)),true),(iF 69 2 7,false)]
def kg:Rd:=[(iS 1 69 68,true)]
def kh:Rg:=[iM 49 12,iC 50 .add 49 1,iM 12 50]
def IX:aC:=(.seq (sq kd (.cond (Tm 48) .skip (.exit 2))) (.seq (.block 3 (dq kf (.draw kg))) (.region kh)))
def ki:Rg:=[iA 70 (.call 47 [(Ci 0)]),iA 71 (.build [(.str []),zI,zI,zI,zB,.aB,.aB] [(2,1,(Ci (-1))),(4,3,(Tm 70))]),iA 72 (.a6D false 7 1 [(.str []),zI,zI,zI,zB,.aB,.aB] [(0,(Tm 71))]),iF 73 3 7,iS 1 73 72]
def kj:Rg:=[iM 74 0,iM 75 1,iA 76 (.call 7 [(Tm 74),(Tm 7),(Ci 0),(Tm 75)])]
def kk:Rg:=[iM 77 0,iA 78 (.call 4 [(Tm 77),(Ci 2)]),iA 79 (.bin .add (Ci 1) (Tm 78)),iM 13 79]
def kn:Rg:=[iI 14 0]
def ko:Rg:=[iM 80 14,iM 81 13,iB 82 .lss 80 81]
def JA:Rg:=[iM 85 14,iA 86 (.call 29 [(.const (.str [112])),(Tm 85)]),iM 87 0,iA 88 (.call 4 [(Tm 87),(Ci 2)]),iA 89 (.bin .add (Ci 1) (Tm 88)),iM 90 0,iA 91 (.call 4 [(Tm 90),(Ci 3)]),iM 92 0,iA 93 (.call 4 [(Tm 92),(Ci 4)]),iA 94 (.bin .add (Ci 1) (Tm 93)),iK 95 47 94,iA 96 (.build [(.str []),zI,zI,zI,zI,zI,zI,zI,zI,.aB,.aB,zB,.aB,.aB,zB,.aB,.aB] [(0,1,(Tm 86)),(1,1,(Tm 89)),(2,1,(Tm 91)),(14,3,(Tm 95))]),iA 15 (.alloc [(.str []),zI,zI,zI,zI,zI,zI,zI,zI,.aB,.aB,zB,.aB,.aB,zB,.aB,.aB]),iS 17 15 96]
def xA:Rd:=[(iF 97 1 15,true),(iL 98 97,true),(iM 99 0,false),(iF 100 2 15,false),(iL 101 100,false),(iC 102 .add 101 1,false),(iK2 103 4 99 102,true),(iB 104 .add 98 103,false),(iF 105 3 15,false)]
def xB:Rd:=[(iS 1 105 104,true)]
def xC:Rg:=[iM 106 0,iF 107 2 15,iL 108 107,iK2 109 5 106 108,iF 110 10 15,iS 1 110 109]
def xD:Rg:=[iM 112 0,iA 113 (.call 4 [(Tm 112),(Ci 9)]),iA 114 (.call 50 [(Tm 113),(Ci 8)]),iM 111 114,iE 115 111 0,iE 116 111 1,iF 117 11 15,iS 3 117 115]
def JB:Rg:=[iI 16 1]
def kp:Rg:=[iM 118 16,iC 119 .lss 118 5]
def kr:Rg:=[iM 122 0,iA 123 (.call 4 [(Tm 122),(Ci 3)]),iC 124 .eql 123 0]
def ku:Rg:=[iM 125 16,iM 126 0,iA 127 (.call 4 [(Tm 126),(Ci 3)]),iA 128 (.bin .add (Ci 1) (Tm 127)),iF 129 4 15,iA 130 (.idxA 5 1 (Tm 129) (Tm 125)),iS 1 130 128]
def JC:Rg:=[iM 120 16,iC 121 .add 120 1,iM 16 121]
def wZ:aC:=(.seq (sq kp (.cond (Tm 119) .skip (.exit 6))) (.seq (.block 7 (sq kr (.cond (Tm 124) (.region ku) .skip))) (.region JC)))
def JD:Rg:=[iM 131 0,iM 132 11,iK2 133 4 131 132,iM 17 133]
def JE:Rg:=[iM 134 17,iA 135 (.a6D false 1 1 [zI] [(0,(Tm 134))]),iF 136 9 15,iS 1 136 135]
def JF:Rg:=[iM 137 11,iC 138 .gtr 137 1,iM 139 138,gM 140 0 139 true,iG 141 (.call 4 [(Tm 140),(Ci 2)]) 139 true,gC 142 .eql 141 0 139 true,iP 143 139 142]
def JG:Rg:=[iF 144 9 15,iL 145 144,iM 146 17,iA 147 (.bin .sub (Ci 1) (Tm 146)),iA 148 (.a6D true 1 1 [zI] [(0,(Tm 147))]),iA 149 (.append 1 8 (Tm 145) (Tm 148)),iF 150 9 15,iS 1 150 149]
def xE:Rg:=[iF 151 5 7,iL 152 151,iO 153 17 15,iA 154 (.a6D true 17 1 [(.str []),zI,zI,zI,zI,zI,zI,zI,zI,.aB,.aB,zB,.aB,.aB,zB,.aB,.aB] [(0,(Tm 153))]),iA 155 (.append 17 240 (Tm 152) (Tm 154)),iF 156 5 7,iS 1 156 155]
def kw:Rg:=[iM 83 14,iC 84 .add 83 1,iM 14 84]
def IY:aC:=(.seq (sq ko (.cond (Tm 82) .skip (.exit 4))) (.seq (.block 5 (sq JA (.seq (dq xA (.draw xB)) (sq xC (sq xD (.seq (sq JB (.block 6 (.loop wZ))) (sq JD (sq JE (.seq (sq JF (.cond (Tm 143) (.region JG) .skip)) (.region xE)))))))))) (.region kw)))
def kx:Rg:=[iM 157 0,iM 158 2,iC 159 .add 158 1,iK2 160 4 157 159,iM 18 160]
def ky:Rg:=[iI 19 0]
def kz:Rg:=[iM 161 19,iM 162 18,iB 163 .lss 161 162]
def k6:Rd:=[(iF 166 6 7,true),(iL 167 166,true),(iM 168 19,false),(iA 169 (.call 29 [(.const (.str [118])),(Tm 168)]),true),(iM 170 0,true),(iF 171 5 7,true),(iL 172 171,true),(iN 173 172,true),(iK2 174 4 170 173,true),(iA 175 (.build [(.str []),zI] [(0,1,(Tm 169)),(1,1,(Tm 174))]),false),(iA 176 (.a6D true 2 1 [(.str []),zI] [(0,(Tm 175))]),false),(iA 177 (.append 2 24 (Tm 167) (Tm 176)),true),(iF 178 6 7,false)]
def k7:Rd:=[(iS 1 178 177,true)]
def la:Rg:=[iM 164 19,iC 165 .add 164 1,iM 19 165]
def IZ:aC:=(.seq (sq kz (.cond (Tm 163) .skip (.exit 8))) (.seq (.block 9 (dq k6 (.draw k7))) (.region la)))
def lb:Rg:=[iO 179 7 7,iS 7 6 179]
def CY:aC:=(sq Aw (sq Ax (sq Ay (.seq (sq Az (.block 0 (.loop QL))) (sq kb (.seq (sq kc (.block 2 (.loop IX))) (sq ki (sq kj (sq kk (.seq (sq kn (.block 4 (.loop IY))) (sq kx (.seq (sq ky (.block 8 (.loop IZ))) (sq lb .ret)))))))))))))
def atZ:List Nat:=[40,67,148,154,176]
def ka:aS:=⟨3,180,CY,[.cell 6 (some 7)]⟩
def Aq:Rg:=[iA 6 (.alloc [zI,.aB,.aB,.aB,.aB,.aB,.aB])]
def Ar:Rg:=[iM 7 0,iK 8 28 7,iM 9 1,iM 10 2,iA 11 (.call 0 [(Tm 8),(Tm 9),(Tm 10)]),iS 7 6 11]
def CW:aC:=(sq Aq (sq Ar .ret))
def atY:List Nat:=[]
def j6:aS:=⟨3,12,CW,[.cell 6 (some 7)]⟩
def aHD:Rg:=[iA 3 (.box true (Tm 1)),iZ 4]
def aHE:Rg:=[iM 7 0,iA 8 (.call 4 [(Tm 7),(Ci 4)]),iC 9 .eql 8 0]
def aHF:Rg:=[iZ 4]
def aHG:Rg:=[iZ 5]
def aHH:Rg:=[iI 6 0]
def aHI:Rg:=[iM 10 6,iF 11 4 3,iL 12 11,iN 13 12,iB 14 .lss 10 13]
def aHJ:Rg:=[iM 17 5,iM 18 0,iA 19 (.call 4 [(Tm 18),(Ci 7)]),iC 20 .sub 19 1,iA 21 (.a6D true 1 1 [zI] [(0,(Tm 20))]),iA 22 (.append 1 8 (Tm 17) (Tm 21)),iM 5 22]
def aHK:Rg:=[iM 15 6,iC 16 .add 15 1,iM 6 16]
def aHC:aC:=(.seq (sq aHI (.cond (Tm 14) .skip (.exit 0))) (.seq (.block 1 (.region aHJ)) (.region aHK)))
def aHL:Rg:=[iM 23 5,iM 4 23]
def amF:aC:=(sq aHD (.seq (sq aHE (.cond (Tm 9) (sq aHF .ret) .skip)) (sq aHG (.seq (sq aHH (.block 0 (.loop aHC))) (sq aHL .ret)))))
def a0B:aS:=⟨2,24,amF,[.tmp 4]⟩
def alS:Rg:=[iA 3 (.box true (Tm 1)),iZ 4]
def alT:Rg:=[iZ 5]
def alU:Rg:=[iI 6 0]
def alV:Rg:=[iM 11 6,iF 12 6 3,iL 13 12,iN 14 13,iB 15 .lss 11 14]
def alW:Rg:=[iZ 7]
def alX:Rg:=[iM 18 0,iF 19 4 3,iL 20 19,iN 21 20,iC 22 .add 21 1,iK2 23 4 18 22,iM 8 23]
def alY:Rg:=[iI 9 0]
def alZ:Rg:=[iM 24 9,iO 25 7 3,iM 26 6,iK2 27 82 25 26,iB 28 .lss 24 27]
def amA:Rg:=[iI 10 (-1)]
def amB:Rg:=[iF 31 4 3,iL 32 31,iN 33 32,iC 34 .gtr 33 0]
def V8:Rg:=[iM 35 8,iM 36 9,iB 37 .add 35 36,iF 38 4 3,iL 39 38,iN 40 39,iB 41 .rem 37 40,iM 10 41]
def V9:Rg:=[iM 42 0,iA 43 (.call 4 [(Tm 42),(Ci 6)])]
def Wa:Rg:=[iC 45 .eql 43 0,iM 44 45]
def Wb:Rg:=[iM 46 0,iF 47 4 3,iL 48 47,iN 49 48,iK2 50 4 46 49,iM 10 50]
def Wc:Rg:=[iC 52 .eql 43 1,iM 51 52]
def Wd:Rg:=[iM 53 0,iF 54 4 3,iL 55 54,iN 56 55,iC 57 .add 56 1,iK2 58 4 53 57,iC 59 .sub 58 1,iM 10 59]
def We:Rg:=[iM 60 7,iM 61 10,iA 62 (.a6D true 1 1 [zI] [(0,(Tm 61))]),iA 63 (.append 1 8 (Tm 60) (Tm 62)),iM 7 63]
def Wf:Rg:=[iM 29 9,iC 30 .add 29 1,iM 9 30]
def V6:aC:=(.seq (sq alZ (.cond (Tm 28) .skip (.exit 2))) (.seq (.block 3 (sq amA (.seq (sq amB (.cond (Tm 34) (sq V8 (sq V9 (.block 4 (sq Wa (.cond (Tm 44) (.region Wb) (sq Wc (.cond (Tm 51) (.region Wd) .skip))))))) .skip)) (.region We)))) (.region Wf)))
def Wg:Rg:=[iM 64 5,iM 65 7,iA 66 (.a6D true 1 1 [.aB] [(0,(Tm 65))]),iA 67 (.append 1 24 (Tm 64) (Tm 66)),iM 5 67]
def Wh:Rg:=[iM 16 6,iC 17 .add 16 1,iM 6 17]
def V7:aC:=(.seq (sq alV (.cond (Tm 15) .skip (.exit 0))) (.seq (.block 1 (sq alW (sq alX (.seq (sq alY (.block 2 (.loop V6))) (.region Wg))))) (.region Wh)))
def Wi:Rg:=[iM 68 5,iM 4 68]
def O9:aC:=(sq alS (sq alT (.seq (sq alU (.block 0 (.loop V7))) (sq Wi .ret))))
def aQK:aS:=⟨2,69,O9,[.tmp 4]⟩
def aIU:Rg:=[iA 2 (.box true (Tm 0)),iI 4 0]
def aIV:Rd:=[(iF 6 5 2,false),(iL 7 6,false),(iF 8 6 2,false),(iL 9 8,false),(iM 10 1,false),(iX 11 2 9 10,false),(iF 12 1 11,false),(iL 13 12,false),(iX 14 17 7 13,false),(iO 15 17 14,false),(iA 5 (.alloc [(.str []),zI,zI,zI,zI,zI,zI,zI,zI,.aB,.aB,zB,.aB,.aB,zB,.aB,.aB]),true),(iS 17 5 15,true)]
def aIW:Rg:=[iF 16 1 5,iL 17 16,iF 18 2 5,iL 19 18,iB 20 .add 17 19,iM 4 20]
def anQ:aC:=(sq aIU (dq aIV (sq aIW .ret)))
def a0E:aS:=⟨2,21,anQ,[.tmp 4]⟩
def T3:Rg:=[iZ 2]
def T4:Rg:=[iM 4 0,iN 5 4,iM 3 5]
def T5:Rg:=[iM 6 3,iC 7 .gtr 6 0,iM 8 7,gM 9 0 8 true,gM 10 3 8 true,gC 11 .sub 10 1 8 true,iG 12 (.a6O 1 (Tm 9) (Tm 11)) 8 true,gL 13 12 8 true,iG 14 (.bin .eql (Tm 13) (.const (.int .u32 0))) 8 true,iP 15 8 14]
def T6:Rg:=[iM 16 3,iC 17 .sub 16 1,iM 3 17]
def T1:aC:=(.seq (sq T5 (.cond (Tm 15) .skip (.exit 0))) (.block 1 (.region T6)))
def du:Rg:=[iM 18 0,iM 19 3,iA 20 (.slice 1 (Tm 18) none (some (Tm 19)) none),iA 21 (.append 1 4 (.const .aB) (Tm 20)),iM 2 21]
def MC:aC:=(sq T3 (sq T4 (.seq (.block 0 (.loop T1)) (sq du .ret))))
def aMW:List Nat:=[]
def Hn:aS:=⟨1,22,MC,[.tmp 2]⟩
def Tq:Rg:=[iZ 2]
def Tr:Rg:=[iM 3 0,iA 4 (.conv .u32 (Tm 3)),iM 5 0,iA 6 (.bin .shr (Tm 5) (.const (.int .u64 32))),iA 7 (.conv .u32 (Tm 6)),iA 8 (.a6D true 1 2 [(.int .u32 0)] [(0,(Tm 4)),(1,(Tm 7))]),iK 9 38 8,iM 2 9]
def LP:aC:=(sq Tq (sq Tr .ret))
def aMO:List Nat:=[8]
def Hl:aS:=⟨1,10,LP,[.tmp 2]⟩
def D3:Rg:=[iT 2 false]
def D4:Rg:=[iM 3 0,iK 4 38 3,iN 5 4,iC 6 .gtr 5 512,iM 2 6]
def EK:aC:=(sq D3 (sq D4 .ret))
def aBS:List Nat:=[]
def pn:aS:=⟨1,7,EK,[.tmp 2]⟩
def aeZ:Rg:=[iI 4 0]
def afA:Rg:=[iM 6 0,iK 7 38 6,iM 8 1,iK 9 38 8,iM 0 7,iM 1 9]
def afB:Rg:=[iM 10 0,iN 11 10,iM 12 1,iN 13 12,iB 14 .neq 11 13]
def afC:Rg:=[iM 15 0,iN 16 15,iM 17 1,iN 18 17,iB 19 .lss 16 18]
def afD:Rg:=[iI 4 (-1)]
def afE:Rg:=[iI 4 1]
def afF:Rg:=[iM 20 0,iN 21 20,iC 22 .sub 21 1,iM 5 22]
def afG:Rg:=[iM 23 5,iC 24 .geq 23 0]
def afH:Rd:=[(iM 27 0,false),(iM 28 5,false),(iX 29 1 27 28,false),(iL 30 29,false),(iM 31 1,false),(iM 32 5,false),(iX 33 1 31 32,false),(iL 34 33,false),(iB 35 .lss 30 34,false)]
def afI:Rg:=[iI 4 (-1)]
def S9:Rd:=[(iM 36 0,false),(iM 37 5,false),(iX 38 1 36 37,false),(iL 39 38,false),(iM 40 1,false),(iM 41 5,false),(iX 42 1 40 41,false),(iL 43 42,false),(iB 44 .gtr 39 43,false)]
def Ta:Rg:=[iI 4 1]
def Tb:Rg:=[iM 25 5,iC 26 .sub 25 1,iM 5 26]
def S8:aC:=(.seq (sq afG (.cond (Tm 24) .skip (.exit 0))) (.seq (.block 1 (.seq (dq afH (.cond (Tm 35) (sq afI .ret) .skip)) (dq S9 (.cond (Tm 44) (sq Ta .ret) .skip)))) (.region Tb)))
def Tc:Rg:=[iI 4 0]
def TF:aC:=(sq aeZ (sq afA (.seq (sq afB (.cond (Tm 14) (.seq (sq afC (.cond (Tm 19) (sq afD .ret) .skip)) (sq afE .ret)) .skip)) (.seq (sq afF (.block 0 (.loop S8))) (sq Tc .ret)))))
def aTO:List Nat:=[]
def apT:aS:=⟨2,45,TF,[.tmp 4]⟩
def ow:Rg:=[iZ 4,iZ 5]
def oz:Rg:=[iM 20 0,iM 21 1,iK2 22 32 20 21,iC 23 .lss 22 0]
def o9:Rg:=[iM 24 0,iK 25 38 24,iZ 4,iM 5 25]
def pd:Rg:=[iM 26 1,iN 27 26,iC 28 .eql 27 1]
def LL:Rg:=[iM 29 0,iN 30 29,iA 31 (.a6F 1 4 [(.int .u32 0)] (Tm 30) (Tm 30)),iM 6 31]
def LM:Rg:=[iA 7 (.mv (.const (.int .u64 0)))]
def LN:Rg:=[iM 32 0,iN 33 32,iC 34 .sub 33 1,iM 8 34]
def pe:Rg:=[iM 35 8,iC 36 .geq 35 0]
def pi:Rg:=[iM 39 7,iA 40 (.bin .shl (Tm 39) (.const (.int .u64 32))),iM 41 0,iM 42 8,iX 43 1 41 42,iL 44 43,iA 45 (.conv .u64 (Tm 44)),iB 46 .or 40 45,iM 9 46]
def pj:Rg:=[iM 47 6,iM 48 8,iM 49 9,iM 50 1,iA 51 (.a6O 1 (Tm 50) (Ci 0)),iL 52 51,iA 53 (.conv .u64 (Tm 52)),iB 54 .quo 49 53,iA 55 (.conv .u32 (Tm 54)),iX 56 1 47 48,iS 1 56 55]
def XW:Rg:=[iM 57 9,iM 58 1,iA 59 (.a6O 1 (Tm 58) (Ci 0)),iL 60 59,iA 61 (.conv .u64 (Tm 60)),iB 62 .rem 57 61,iM 7 62]
def XY:Rg:=[iM 37 8,iC 38 .sub 37 1,iM 8 38]
def DY:aC:=(.seq (sq pe (.cond (Tm 36) .skip (.exit 0))) (.seq (.block 1 (sq pi (sq pj (.region XW)))) (.region XY)))
def DZ:Rg:=[iM 63 6,iK 64 38 63,iM 65 7,iK 66 35 65,iM 4 64,iM 5 66]
def XZ:Rg:=[iM 67 1,iN 68 67,iA 69 (.bin .mul (Ci 32) (Tm 68)),iM 70 1,iK 71 31 70,iB 72 .sub 69 71,iM 10 72]
def YA:Rg:=[iM 73 0,iM 74 10,iK2 75 45 73 74,iA 76 (.a6D true 1 2 [(.int .u32 0)] [(0,(.const (.int .u32 0))),(1,(.const (.int .u32 0)))]),iA 77 (.append 1 4 (Tm 75) (Tm 76)),iM 78 1,iM 79 10,iK2 80 45 78 79,iM 11 77,iM 12 80]
def EA:Rg:=[iM 81 11,iM 82 0,iM 83 10,iK2 84 45 82 83,iN 85 84,iC 86 .add 85 1,iA 87 (.slice 1 (Tm 81) none (some (Tm 86)) none),iM 11 87]
def EB:Rg:=[iM 88 12,iM 89 12,iN 90 89,iC 91 .sub 90 1,iX 92 1 88 91,iL 93 92,iA 94 (.conv .u64 (Tm 93)),iM 13 94]
def EC:Rg:=[iM 95 11,iN 96 95,iM 97 12,iN 98 97,iB 99 .sub 96 98,iA 100 (.a6F 1 4 [(.int .u32 0)] (Tm 99) (Tm 99)),iM 14 100]
def ED:Rg:=[iM 101 14,iN 102 101,iC 103 .sub 102 1,iM 15 103]
def YB:Rg:=[iM 104 15,iC 105 .geq 104 0]
def YC:Rd:=[(iM 108 11,false),(iM 109 15,false),(iM 110 12,false),(iN 111 110,false),(iB 112 .add 109 111,false),(iX 113 1 108 112,false),(iL 114 113,false),(iA 115 (.conv .u64 (Tm 114)),false),(iA 116 (.bin .shl (Tm 115) (.const (.int .u64 32))),false),(iM 117 11,false),(iM 118 15,false),(iM 119 12,false),(iN 120 119,false),(iB 121 .add 118 120,false),(iC 122 .sub 121 1,false),(iX 123 1 117 122,false),(iL 124 123,false),(iA 125 (.conv .u64 (Tm 124)),false),(iB 126 .or 116 125,false),(iM 16 126,false)]
def YD:Rg:=[iM 127 16,iM 128 13,iB 129 .quo 127 128,iM 17 129]
def YE:Rg:=[iM 130 17,iA 131 (.bin .gtr (Tm 130) (.const (.int .u64 4294967295)))]
def YF:Rg:=[iA 17 (.mv (.const (.int .u64 4294967295)))]
def YG:Rd:=[(iM 132 12,true),(iM 133 17,false),(iK 134 35 133,true),(iK2 135 44 132 134,true),(iM 136 11,true),(iM 137 15,true),(iM 138 15,true),(iM 139 12,true),(iN 140 139,true),(iB 141 .add 138 140,true),(iC 142 .add 141 1,true),(iA 143 (.slice 1 (Tm 136) (some (Tm 137)) (some (Tm 142)) none),true),(iA 144 (.append 1 4 (.const .aB) (Tm 143)),true),(iK2 145 32 135 144,true),(iC 146 .gtr 145 0,false)]
def YH:Rg:=[iM 147 17,iA 148 (.bin .sub (Tm 147) (.const (.int .u64 1))),iM 17 148]
def vE:aC:=(.seq (dq YG (.cond (Tm 146) .skip (.exit 4))) (.block 5 (.region YH)))
def EE:Rg:=[iM 149 11,iM 150 15,iM 151 15,iM 152 12,iN 153 152,iB 154 .add 151 153,iC 155 .add 154 1,iA 156 (.slice 1 (Tm 149) (some (Tm 150)) (some (Tm 155)) none),iA 157 (.append 1 4 (.const .aB) (Tm 156)),iM 158 12,iM 159 17,iK 160 35 159,iK2 161 44 158 160,iK2 162 42 157 161,iM 18 162]
def EF:Rg:=[iI 19 0]
def YI:Rg:=[iM 163 19,iM 164 12,iN 165 164,iB 166 .leq 163 165]
def YJ:Rg:=[iM 169 11,iM 170 15,iM 171 19,iB 172 .add 170 171,iX 173 1 169 172,⟨none,.store 1 (Tm 173) (.const (.int .u32 0)),none⟩]
def YK:Rg:=[iM 174 19,iM 175 18,iN 176 175,iB 177 .lss 174 176]
def YL:Rg:=[iM 178 11,iM 179 15,iM 180 19,iB 181 .add 179 180,iM 182 18,iM 183 19,iX 184 1 182 183,iL 185 184,iX 186 1 178 181,iS 1 186 185]
def EG:Rg:=[iM 167 19,iC 168 .add 167 1,iM 19 168]
def vF:aC:=(.seq (sq YI (.cond (Tm 166) .skip (.exit 6))) (.seq (.block 7 (sq YJ (sq YK (.cond (Tm 177) (.region YL) .skip)))) (.region EG)))
def EH:Rg:=[iM 187 14,iM 188 15,iM 189 17,iA 190 (.conv .u32 (Tm 189)),iX 191 1 187 188,iS 1 191 190]
def EI:Rg:=[iM 106 15,iC 107 .sub 106 1,iM 15 107]
def vG:aC:=(.seq (sq YB (.cond (Tm 105) .skip (.exit 2))) (.seq (.block 3 (dq YC (sq YD (.seq (sq YE (.cond (Tm 131) (.region YF) .skip)) (.seq (.block 4 (.loop vE)) (sq EE (.seq (sq EF (.block 6 (.loop vF))) (.region EH)))))))) (.region EI)))
def EJ:Rg:=[iM 192 14,iK 193 38 192,iM 194 11,iK 195 38 194,iM 196 10,iK2 197 40 195 196,iM 4 193,iM 5 197]
def AG:aC:=(sq ow (.seq (sq oz (.cond (Tm 23) (sq o9 .ret) .skip)) (.seq (sq pd (.cond (Tm 28) (sq LL (sq LM (.seq (sq LN (.block 0 (.loop DY))) (sq DZ .ret)))) .skip)) (sq XZ (sq YA (sq EA (sq EB (sq EC (.seq (sq ED (.block 2 (.loop vG))) (sq EJ .ret))))))))))
def apW:List Nat:=[76]
def VK:aS:=⟨2,198,AG,[.tmp 4,.tmp 5]⟩
def afK:Rg:=[iZ 4,iZ 5,iI 6 0]
def afL:Rg:=[iM 9 0,iK 10 41 9,iM 11 10,gM 12 1 11 false,gK 13 41 12 11 false,iQ 14 11 13]
def xb:Rg:=[iZ 4,iZ 5,iI 6 2]
def afM:Rg:=[iM 15 1,iK 16 38 15,iN 17 16,iC 18 .eql 17 0]
def afN:Rg:=[iZ 4,iZ 5,iI 6 3]
def afO:Rg:=[iM 20 0,iK 21 38 20,iM 22 1,iK 23 38 22,iK2 24 39 21 23,iM 19 24,iE 25 19 0,iE 26 19 1,iM 7 25,iM 8 26]
def afP:Rg:=[iM 27 7,iM 28 8,iM 4 27,iM 5 28,iI 6 0]
def TG:aC:=(sq afK (.seq (sq afL (.cond (Tm 14) (sq xb .ret) .skip)) (.seq (sq afM (.cond (Tm 18) (sq afN .ret) .skip)) (sq afO (sq afP .ret)))))
def aTP:List Nat:=[]
def udiv:aS:=⟨2,29,TG,[.tmp 4,.tmp 5,.tmp 6]⟩
def afS:Rg:=[iZ 4,iI 5 0]
def afT:Rg:=[iM 10 0,iK 11 41 10,iM 12 11,gM 13 1 12 false,gK 14 41 13 12 false,iQ 15 12 14]
def xc:Rg:=[iZ 4,iI 5 2]
def afU:Rg:=[iM 16 0,iK 17 38 16,iM 18 1,iK 19 38 18,iM 6 17,iM 7 19]
def afV:Rg:=[iM 20 7,iN 21 20,iC 22 .gtr 21 0]
def afW:Rg:=[iM 24 6,iM 25 7,iK2 26 39 24 25,iM 23 26,iE 27 23 0,iE 28 23 1,iM 8 27,iM 9 28]
def afX:Rg:=[iM 29 7,iM 30 9,iM 6 29,iM 7 30]
def afQ:aC:=(.seq (sq afV (.cond (Tm 22) .skip (.exit 0))) (.block 1 (sq afW (.region afX))))
def afY:Rg:=[iM 31 6,iM 4 31,iI 5 0]
def TJ:aC:=(sq afS (.seq (sq afT (.cond (Tm 15) (sq xc .ret) .skip)) (sq afU (.seq (.block 0 (.loop afQ)) (sq afY .ret)))))
def aTQ:List Nat:=[]
def apX:aS:=⟨2,32,TJ,[.tmp 4,.tmp 5]⟩
def qc:Rg:=[iA 6 (.alloc [zB,.aB,.aB])]
def qd:Rg:=[iM 9 1,iK 10 38 9,iM 11 2,iK 12 38 11,iM 1 10,iM 2 12]
def qe:Rg:=[iM 13 1,iN 14 13,iC 15 .eql 14 0]
def qf:Rg:=[iA 16 (.a6D true 1 1 [(.int .u32 0)] [(0,(.const (.int .u32 1)))]),iA 17 (.build [zB,.aB,.aB] [(2,1,(Tm 16))]),iS 3 6 17]
def qg:Rg:=[iM 19 1,iM 20 2,iK2 21 34 19 20,iM 18 21,iE 22 18 0,iE 23 18 1,iM 7 22,iM 8 23]
def qh:Rg:=[iM 24 7,iN 25 24,iC 26 .gtr 25 1,iM 27 26,gM 28 7 27 false,iG 29 (.a6O 1 (Tm 28) (Ci 0)) 27 false,gL 30 29 27 false,iG 31 (.bin .gtr (Tm 30) (.const (.int .u32 1))) 27 false,iQ 32 27 31]
def MG:Rg:=[iM 34 1,iM 35 7,iK2 36 33 34 35,iM 33 36,iE 37 33 0,iE 38 33 1,iE 39 33 2,iM 1 37]
def MH:Rg:=[iM 41 2,iM 42 7,iK2 43 33 41 42,iM 40 43,iE 44 40 0,iE 45 40 1,iE 46 40 2,iM 2 44]
def xQ:Rg:=[iM 47 0,iM 48 1,iM 49 2,iA 50 (.build [zB,.aB,.aB] [(0,1,(Tm 47)),(1,1,(Tm 48)),(2,1,(Tm 49))]),iS 3 6 50]
def AI:aC:=(sq qc (sq qd (.seq (sq qe (.cond (Tm 15) (sq qf .ret) .skip)) (.seq (sq qg (sq qh (.cond (Tm 32) (sq MG (.region MH)) .skip))) (sq xQ .ret)))))
def aqI:List Nat:=[16]
def VO:aS:=⟨3,51,AI,[.cell 6 (some 3)]⟩
def Uy:Rg:=[iA 2 (.mv (.const (.int .u64 0)))]
def Uz:Rg:=[iM 3 0,iC 4 .lss 3 0]
def U1:Rg:=[iM 5 0,iC 6 .add 5 1,iA 7 (.un .neg (Tm 6)),iA 8 (.conv .u64 (Tm 7)),iA 9 (.bin .add (Tm 8) (.const (.int .u64 1))),iM 2 9]
def U2:Rg:=[iM 10 0,iA 11 (.conv .u64 (Tm 10)),iM 2 11]
def ML:aC:=(sq Uy (.seq (sq Uz (.cond (Tm 4) (sq U1 .ret) .skip)) (sq U2 .ret)))
def aNE:List Nat:=[]
def Hz:aS:=⟨1,12,ML,[.tmp 2]⟩
def Ul:Rg:=[iA 4 (.alloc [zB,.aB,.aB]),iI 5 0]
def Um:Rg:=[iM 6 1,iC 7 .eql 6 0]
def Un:Rg:=[iA 8 (.build [zB,.aB,.aB] []),iS 3 4 8,iI 5 3]
def Uo:Rg:=[iM 9 0,iC 10 .lss 9 0,iM 11 1,iC 12 .lss 11 0,iA 13 (.eqb true (Tm 10) (Tm 12)),iM 14 0,iK 15 59 14,iK 16 35 15,iM 17 1,iK 18 59 17,iK 19 35 18,iA 20 (.call 58 [(Tm 13),(Tm 16),(Tm 19)]),iS 3 4 20,iI 5 0]
def MI:aC:=(sq Ul (.seq (sq Um (.cond (Tm 7) (sq Un .ret) .skip)) (sq Uo .ret)))
def aNB:List Nat:=[]
def qi:aS:=⟨2,21,MI,[.cell 4 (some 3),.tmp 5]⟩
def ahA:Rg:=[iA 2 (.alloc [zB,.aB,.aB])]
def ahB:Rg:=[iM 6 0,iA 7 (.call 50 [(Tm 6),(Ci 1)]),iM 5 7,iE 8 5 0,iE 9 5 1,iA 3 (.alloc [zB,.aB,.aB]),iS 3 3 8,iM 4 9]
def ahC:Rg:=[iO 10 3 3,iS 3 2 10]
def TU:aC:=(sq ahA (sq ahB (sq ahC .ret)))
def aTW:List Nat:=[]
def aqH:aS:=⟨1,11,TU,[.cell 2 (some 3)]⟩
def utF (xs:List Nat) (n:Nat):PF:=((PF.nil.set 0 (aJ xs)).set 3 (.int .i64 n))
theorem T2 {C:Ctx} (xs:List Nat) (K:Lim xs) (M:xs.length≤35184372087808):MC.wp C (aV Hn.res (oU 1 (aL (aI (val xs))))) (PF.args [aJ xs]) .nil:=by
 simp only[go_sem,MC,T3,T4,Hn,a7I];refine wp_loop (α:=Nat) (fun n=>utF xs n) (fun _=>.nil) (fun n=>n≤xs.length∧∀ j x,n≤j→xs[j]?=some x→x=0) (fun n=>n) xs.length ⟨a7O _,fun j x u d=>?_⟩ ?_ a_ ?_
 ·rw[a8Z u] at d; cases d
 ·unfold utF;exact Lq
 rintro n ⟨H,A⟩;have done:(0<n→∀ h:n-1<xs.length,xs[n-1]≠0)→∀ F:PF,(utF xs n).le F→aC.wp C (.seq (.region du) .ret) (aV [.tmp 2] (oU 1 (aL (aI (val xs))))) F .nil:=by
  intro h F q;have f0:F 0=some (aJ xs):=q 0 _ (by unfold utF; simp only[go_sem]);have B:F 3=some (.int .i64 n):=q 3 _ (by unfold utF; simp only[go_sem]);have w:xs.take n=aI (val xs):=LH K H A fun x l d=>by
   rw[a7W Om] at d;injection d with d
   subst d;exact h l Om
  have E:((n:Nat):Int)≤(xs.length:Nat):=Om;simp only[go_sem,du,f0,B,a7I,E,or_true,a8T];refine fI (rows:=[]) (src:=aL (aI (val xs))) .nil ?_ ?_ fun v H' J _=>?_
  ·simp only[go_sem];rw[← w,← List.map_take]
  ·unfold roomFor;rw[cA,← w,a8C];simp only[a9Y,maxLen];omega
  ·exact m8 (.inr rfl) (by simpa using J) rfl
 simp only[aC.wp,go_sem] at done;simp only[go_sem,T1,T5,utF];by_cases l:0<n
 ·have i:((n:Nat):Int)>0:=Om;have hlt:n-1<xs.length:=Om;have p:=bU xs hlt;have y:IntKind.i64.wrap ((n:Int)-1)=((n-1:Nat):Int):=wD Om l;simp only[go_sem,i,y,p];by_cases c:xs[n-1]=0
  ·simp only[go_sem,bL (Om:((xs[n-1]:Nat):Int)=0),T6,y];refine aD (n-1) ⟨by omega,fun j x u d=>?_⟩ Om ?_ a_
   ·by_cases e:j=n-1
    ·subst e;rw[a7W hlt] at d;injection d with d
     omega
    ·exact A j x Om d
   ·exact Lq
  ·simp only[go_sem,bF (Om:((xs[n-1]:Nat):Int)≠0)];exact done (fun _ _=>c) _ (by unfold utF; exact Lq)
 ·have i:¬ ((n:Nat):Int)>0:=Om;simp only[go_sem,i];exact done (fun h=>absurd h l) _ (by unfold utF; exact Lq)
structure oV (C:Ctx):Prop where
 trimM:∀ xs,Lim xs→xs.length≤35184372087808→aH C 38 [aJ xs] .nil (oU 1 (aL (aI (val xs))))
theorem oV.trim {C:Ctx} (L:oV C) (xs:List Nat) (d:Lim xs) (c:xs.length≤35184372087808):aH C 38 [aJ xs] .nil (aF (aJ (aI (val xs)))):=(L.trimM xs d c).freeze
theorem To {C:Ctx} (L:oV C) (v:Nat) (y:v<18446744073709551616):LP.wp C (aV Hl.res (bY (aJ (aI v)))) (PF.args [.int .u64 v]) .nil:=by
 have p:IntKind.u32.wrap ((v:Nat):Int)=((v%4294967296:Nat):Int):=cL v;have e:v/4294967296<4294967296:=Om;have q:IntKind.u32.wrap ((v/4294967296:Nat):Int)=((v/4294967296:Nat):Int):=by rw[cL,a8W e]
 have u:Lim [v%4294967296,v/4294967296]:=by
  intro x l;simp only[a7V,List.mem_nil_iff,or_false] at l;rcases l with rfl | rfl
  ·exact a9B _ (by decide)
  ·exact e
 have c:val [v%4294967296,v/4294967296]=v:=by simp only[val,Nat.mul_zero,a9O]; exact Nat.mod_add_div v 4294967296
 have d:shift .shr .u64 (v:Int) 32=some (.int .u64 ((v/4294967296:Nat):Int)):=xM;have w:(2:Nat)*1≤16777216:=by decide
 simp only[go_sem,LP,Tq,Tr,Hl,p,d,q,w];have i:=L.trim [v%4294967296,v/4294967296] u (by simp);rw[c] at i;refine aA i rfl ?_;simp only[go_sem];exact bA (.inr rfl) .nil rfl a_ ⟨.refl _,rfl⟩
theorem D2 {C:Ctx} (L:oV C) (xs:List Nat) (d:Lim xs) (c:xs.length≤35184372087808):EK.wp C (aV pn.res (bY (.bool (decide (nl (val xs)>512))))) (PF.args [aJ xs]) .nil:=by
 simp only[go_sem,EK,D3,D4,pn];refine aA (L.trim xs d c) rfl ?_;simp only[go_sem,a7I,bB];refine bD rfl ?_;rw[decide_eq_decide];omega
theorem ajO {a b:Nat} (h:nl a<nl b):dP a b=-1:=by
 have:a<b:=by
  rcases a8F a b with h' | h'
  ·exact h'
  ·have:=fT h'; omega
 simp[dP,this]
theorem ajN {a b:Nat} (h:nl b<nl a):dP a b=1:=by
 have:b<a:=by
  rcases a8F b a with h' | h'
  ·exact h'
  ·have:=fT h'; omega
 have c:¬ a<b:=Om;simp[dP,this,c]
def apU (X Y:List Nat) (i:Int):PF:=(((PF.nil.set 0 (aJ X)).set 1 (aJ Y)).set 5 (.int .i64 i))
theorem aeY {C:Ctx} (L:oV C) (xs ys:List Nat) (u:Lim xs) (w:Lim ys) (O:xs.length≤35184372087808) (Q:ys.length≤35184372087808) :
  TF.wp C (aV apT.res (aF (.int .i64 (dP (val xs) (val ys))))) (PF.args [aJ xs,aJ ys]) .nil:=by
 simp only[go_sem,TF,aeZ,afA,apT];refine aA (L.trim xs u O) Ev ?_;simp only[go_sem];refine aA (L.trim ys w Q) Ev ?_;have R:=fM u;have A:=fM w;simp only[go_sem,afB,a7I,bB];by_cases i:nl (val xs)≠nl (val ys)
 ·simp only[go_sem,dN (show ((nl (val xs):Nat):Int)≠(nl (val ys):Nat) by omega),afC];by_cases B:nl (val xs)<nl (val ys)
  ·simp only[go_sem,a7I,bB,show ((nl (val xs):Nat):Int)<(nl (val ys):Nat) by omega,afD];refine aQ (.inr rfl) Ev ?_;rw[ajO B]; rfl
  ·simp only[go_sem,a7I,bB,show ¬ ((nl (val xs):Nat):Int)<(nl (val ys):Nat) by omega,afE];refine aQ (.inr rfl) Ev ?_;rw[ajN Om]; rfl
 replace i:=Decidable.of_not_not i;simp only[go_sem,cC (show ((nl (val xs):Nat):Int)=(nl (val ys):Nat) by omega),afF,a7I,bB];have ex:=aW (val xs);have l:=aW (val ys);have x:=aX (val xs);have y:=aX (val ys);generalize J:aI (val xs)=X at *
 generalize K:aI (val ys)=Y at *
 have M:X.length=nl (val xs):=by rw[← J]; rfl
 have N:Y.length=nl (val xs):=by rw[i,← K]; rfl
 refine wp_loop (α:=Nat) (fun k=>apU X Y ((k:Int)-1)) (fun _=>.nil) (fun k=>k≤nl (val xs)∧X.drop k=Y.drop k) (fun k=>k) (nl (val xs)) ⟨a7O _,?_⟩ ?_ a_ ?_
 ·rw[bbC Om,bbC Om]
 ·unfold apU
  (repeat' (first|exact c_|refine d_ ?_ ?_))<;>first|(simp only[go_sem,wrap_i64 (show -9223372036854775808≤((nl (val xs):Nat):Int)-1 by omega) (show ((nl (val xs):Nat):Int)-1≤9223372036854775807 by omega)]<;>rfl)|rfl
 rintro k ⟨U,c⟩;simp only[go_sem,S8,afG,apU];by_cases S:0<k
 ·obtain⟨m,rfl⟩:∃ m,k=m+1:=⟨k-1,by omega⟩;have q:((m+1:Nat):Int)-1=(m:Int):=Om;have p:(m:Int)≥0:=Om;have d:m<X.length:=Om;have e:m<Y.length:=Om;simp only[go_sem,q,p];refine bW .nil eT a_ ?_;simp only[go_sem,afH,bU X d,bU Y e];by_cases E:X[m]<Y[m]
  ·simp only[go_sem,show ((X[m]:Nat):Int)<(Y[m]:Nat) by omega,afI];refine aQ (.inr rfl) Ev ?_;have:=gw x d e c E;rw[ex,l] at this;simp[bP,dP,this]
  ·simp only[go_sem,show ¬ ((X[m]:Nat):Int)<(Y[m]:Nat) by omega];refine bW .nil eT a_ ?_;simp only[go_sem,S9,bU X d,bU Y e];by_cases F:X[m]>Y[m]
   ·simp only[go_sem,show ((X[m]:Nat):Int)>(Y[m]:Nat) by omega,Ta];refine aQ (.inr rfl) Ev ?_;have:=gw y e d c.symm F;rw[ex,l] at this;have H:¬ val xs<val ys:=Om;simp[bP,dP,this,H]
   ·simp only[go_sem,show ¬ ((X[m]:Nat):Int)>(Y[m]:Nat) by omega,Tb];refine aD m ⟨by omega,zd d e c Om⟩ Om ?_ a_
    (repeat' (first|exact c_|refine d_ ?_ ?_))<;>first|(simp only[go_sem,wrap_i64 (Om:-9223372036854775808≤(m:Int)-1) (Om:(m:Int)-1≤9223372036854775807)]<;>rfl)|rfl
 ·have:k=0:=Om;subst this;have q:¬ ((0:Nat):Int)-1≥0:=by decide
  simp only[go_sem,q,Tc];refine aQ (.inr rfl) Ev ?_;rw[a8T,a8T] at c;have:val xs=val ys:=by rw[← ex,← l,c]
  simp[bP,dP,this]
theorem BY (n:Nat):(((n:Nat):Int)==0)=decide (n=0):=by
 by_cases h:n=0
 ·subst h; rfl
 ·rw[bF Om,decide_eq_false h]
structure fp (C:Ctx):Prop extends oV C where
 make:∀ v:Nat,v<18446744073709551616→aH C 35 [.int .u64 v] .nil (aF (aJ (aI v)))
 large:∀ xs,Lim xs→xs.length≤35184372087808→aH C 41 [aJ xs] .nil (aF (.bool (decide (nl (val xs)>512))))
 cmp:∀ xs ys,Lim xs→Lim ys→xs.length≤35184372087808→ys.length≤35184372087808→aH C 32 [aJ xs,aJ ys] .nil (aF (.int .i64 (dP (val xs) (val ys))))
def apY (a b:Nat):PF:=((PF.nil.set 6 (aJ (aI a))).set 7 (aJ (aI b)))
structure NY (C:Ctx):Prop extends fp C where
 divide:∀ A B:Nat,B≠0→nl A≤512→nl B≤512→aH C 39 [aJ (aI A),aJ (aI B)] .nil (aF (pJ A B))
def akL (a b:Nat):PV:=if dY a b then .tup [aJ [],.int .i64 2] else .tup [aJ (aI (a7K a b)),.int .i64 0]
theorem afR {C:Ctx} (L:NY C) (a b:List Nat) (l:Lim a) (p:Lim b) (u:a.length≤35184372087808) (w:b.length≤35184372087808) :
  TJ.wp C (aV apX.res (bY (akL (val a) (val b)))) (PF.args [aJ a,aJ b]) .nil:=by
 unfold akL;simp only[go_sem,TJ,afS,afT,apX];refine aA (L.large a l u) rfl ?_;by_cases c:nl (val a)>512
 ·simp only[go_sem,c,xc];rw[if_pos (by simp[dY,c])];exact eQ rfl
 simp only[go_sem,c];refine aA (L.large b p w) rfl ?_;by_cases d:nl (val b)>512
 ·simp only[go_sem,d,xc];rw[if_pos (by simp[dY,d])];exact eQ rfl
 rw[if_neg (by simp[dY,c,d])];simp only[go_sem,d,afU];refine aA (L.trim a l u) rfl ?_;simp only[go_sem];refine aA (L.trim b p w) rfl ?_;simp only[go_sem];refine wp_loop (α:=Nat × Nat) (fun t=>apY t.1 t.2) (fun _=>.nil) (fun t=>a7K t.1 t.2=a7K (val a) (val b)∧nl t.1≤512∧nl t.2≤512) (fun t=>t.2) (val a,val b) ⟨rfl,by simp only; omega,by simp only; omega⟩ ?_ a_ ?_
 ·unfold apY;exact Lq
 rintro⟨x,y⟩ ⟨i,A,q⟩;simp only at i A q;simp only[go_sem,afQ,afV,apY,bB];by_cases e:y=0
 ·subst e;have:¬ ((nl 0:Nat):Int)>0:=by rw[yL]; decide
  simp only[go_sem,this,afY];refine bA (vs:=[aJ (aI x),.int .i64 0]) (.inr rfl) .nil rfl a_ ⟨?_,rfl⟩;rw[← i,Nat.gcd_zero_right];exact .refl _
 ·have B:nl y≠0:=fun h=>e (hZ.1 h);have:((nl y:Nat):Int)>0:=Om;simp only[go_sem,this,afW];refine aA (L.divide x y e Om Om) rfl ?_;simp only[go_sem,pJ,afX];have hlt:x%y<y:=a9B _ (a9W e);refine aD (y,x%y) ⟨?_,q,?_⟩ hlt ?_ a_
  ·simp only;rw[← i,Nat.gcd_comm y,← Nat.gcd_rec y x,Nat.gcd_comm]
  ·have:=fT (Nat.le_of_lt hlt);simp only; omega
  ·exact Lq
theorem afJ {C:Ctx} (L:NY C) (a b:List Nat) (p:Lim a) (i:Lim b) (q:a.length≤35184372087808) (l:b.length≤35184372087808) :
  TG.wp C (aV udiv.res (bY (mT (val a) (val b)))) (PF.args [aJ a,aJ b]) .nil:=by
 unfold mT;simp only[go_sem,TG,afK,afL,udiv];refine aA (L.large a p q) rfl ?_;by_cases d:nl (val a)>512
 ·simp only[go_sem,d,xb];rw[if_pos (by simp[dY,d])];exact rX rfl
 simp only[go_sem,d];refine aA (L.large b i l) rfl ?_;by_cases e:nl (val b)>512
 ·simp only[go_sem,e,xb];rw[if_pos (by simp[dY,e])];exact rX rfl
 rw[if_neg (by simp[dY,d,e])];simp only[go_sem,e,afM];refine aA (L.trim b i l) rfl ?_;simp only[go_sem,a7I,bB,BY,hZ];by_cases c:val b=0
 ·rw[if_pos c];simp only[go_sem,decide_eq_true c,afN];exact rX rfl
 rw[if_neg c];simp only[go_sem,decide_eq_false c,afO];refine aA (L.trim a p q) rfl ?_;simp only[go_sem];refine aA (L.trim b i l) rfl ?_;simp only[go_sem];refine aA (L.divide (val a) (val b) c Om Om) rfl ?_;simp only[go_sem,pJ,afP];exact bA (.inr rfl) .nil rfl a_ ⟨.refl _,rfl⟩
def mO (neg:Bool) (a b:Nat):FV:=(neg&&decide (a/a7K a b≠0),a/a7K a b,b/a7K a b)
structure fq (C:Ctx):Prop extends NY C where
 gcd:∀ a b,Lim a→Lim b→a.length≤35184372087808→b.length≤35184372087808→aH C 34 [aJ a,aJ b] .nil (aF (akL (val a) (val b)))
 div:∀ a b,Lim a→Lim b→a.length≤35184372087808→b.length≤35184372087808→aH C 33 [aJ a,aJ b] .nil (aF (mT (val a) (val b)))
theorem tA {n:Nat} (h:nl n≤512):(aI n).length≤35184372087808:=by rw[bB]; omega
theorem vT:aI 1=[1]:=oL (by decide) (by decide)
theorem jv {n:Nat} (h:n≠0):aI n=n%4294967296::aI (n/4294967296):=rW h
theorem zL {n:Nat} (h:n≠0):(nl n>1∨n%4294967296>1)↔n≠1:=by
 constructor
 ·rintro h1 rfl;rcases h1 with h1 | h1
  ·rw[nl,vT] at h1; simp at h1
  ·omega
 ·intro h1;by_cases c:nl n>1
  ·exact .inl c
  ·have:n<4294967296 ^ 1:=(jA n 1).1 Om;rw[Nat.pow_one] at this;rw[a8W this];exact .inr Om
theorem qb {C:Ctx} (L:fq C) (neg:Bool) (a b:List Nat) (U:Lim a) (V:Lim b) (Y:a.length≤35184372087808) (Z:b.length≤35184372087808) (u:nl (val a)≤512) (p:nl (val b)≤512) (w:val b≠0) :
  AI.wp C (aV VO.res (bY (.agg (mO neg (val a) (val b)).rf.cells))) (PF.args [.bool neg,aJ a,aJ b]) .nil:=by
 have c:a7K (val a) (val b)≠0:=fun h=>w (Nat.eq_zero_of_gcd_eq_zero_right h);have E:a7K (val a) (val b)≤val b:=Nat.gcd_le_right _ (a9W w);have M:nl (a7K (val a) (val b))≤512:=a8V (fT E) p;have J:dY (val a) (val b)=false:=hC u p;simp only[go_sem,AI,qc,qd,VO];refine aR fun o ho=>?_;simp only[go_sem];refine aA (L.trim a U Y) rfl ?_;simp only[go_sem];refine aA (L.trim b V Z) rfl ?_;simp only[go_sem,qe,a7I,bB,BY,hZ];by_cases q:val a=0
 ·simp only[go_sem,decide_eq_true q,qf];have e:(mO neg (val a) (val b)).rf=⟨false,[],[1]⟩:=by rw[q];unfold mO FV.rf;simp[fO,Nat.div_self (a9W w),vT]
  rw[e];refine bA (vs:=[.agg [.bool false,.aB,aJ [1]]]) (.inr rfl) .nil ?_ a_ ⟨show Co (.agg _) (.agg _) from CoL.agg (CoL.cons (.refl _) (CoL.cons (.nil 1) (CoL.cons (.refl _) .nil))),rfl⟩;simp only[go_sem];rfl
 have d:=L.gcd (aI (val a)) (aI (val b)) (aX _) (aX _) (tA u) (tA p);rw[aW,aW,akL,J] at d;simp only[go_sem,decide_eq_false q,qg];refine aA d rfl ?_;have fin:∀ x y:Nat,x=val a/a7K (val a) (val b)→y=val b/a7K (val a) (val b)→∀ (F:PF) (H:PH),F 0=some (.bool neg)→F 1=some (aJ (aI x))→F 2=some (aJ (aI y))→F 6=some (.ptr o 3 0 0)→H o=some (.rows 3 [[.bool false,.aB,.aB]]) →
   aC.wp C (.seq (.region xQ) .ret) (aV [.cell 6 (some 3)] (bY (.agg (mO neg (val a) (val b)).rf.cells))) F H:=by
  intro x y K X F H f0 f1 f2 f6 A;subst K; subst X;simp only[go_sem,xQ,f0,f1,f2,f6,A];have W:val a/a7K (val a) (val b)≠0:=by have:=Nat.div_pos (Nat.gcd_le_left (val b) (a9W q)) (a9W c);omega
  have e:(mO neg (val a) (val b)).rf=⟨neg,aI (val a/a7K (val a) (val b)),aI (val b/a7K (val a) (val b))⟩:=by unfold mO FV.rf;simp only[W,ne_eq,not_false_eq_true,decide_true,a9P]
  rw[e];refine bA (vs:=[.agg (eH neg (aI (val a/a7K (val a) (val b))) (aI (val b/a7K (val a) (val b))))]) (.inr rfl) .nil ?_ a_ ⟨.refl _,rfl⟩;simp only[go_sem,f6]
 simp only[aC.wp,go_sem] at fin;have B:=fun x (K:nl x≤512)=>L.div (aI x) (aI (a7K (val a) (val b))) (aX _) (aX _) (tA K) (tA M);simp only[aW,mT] at B;have tail:a7K (val a) (val b)≠1→∀ (F:PF) (H:PH),F 0=some (.bool neg)→F 1=some (aJ (aI (val a)))→F 2=some (aJ (aI (val b)))→F 6=some (.ptr o 3 0 0)→F 7=some (aJ (aI (a7K (val a) (val b))))→H o=some (.rows 3 [[.bool false,.aB,.aB]]) →
   aC.wp C (.seq (.seq (.region MG) (.region MH)) (.seq (.region xQ) .ret)) (aV [.cell 6 (some 3)] (bY (.agg (mO neg (val a) (val b)).rf.cells))) F H:=by
  intro _ F H f0 f1 f2 f6 f7 A;have Q:=B (val a) u;have R:=B (val b) p;rw[hC u M,if_neg c] at Q;rw[hC p M,if_neg c] at R;simp only[go_sem,MG,f1,f7];refine aA Q rfl ?_;simp only[go_sem,baT,MH,f2,f7];refine aA R rfl ?_;simp only[go_sem,baT];exact fin _ _ rfl rfl _ _ (by simp only[go_sem,f0]) rfl rfl (by simp only[go_sem,f6]) A
 simp only[aC.wp,go_sem] at tail;simp only[go_sem,baT,qh,a7I,bB];by_cases N:nl (a7K (val a) (val b))>1
 ·have i:((nl (a7K (val a) (val b)):Nat):Int)>1:=Om;simp only[go_sem,i];exact tail ((zL c).1 (.inl N)) _ _ rfl rfl rfl rfl rfl Sq
 ·have i:¬ ((nl (a7K (val a) (val b)):Nat):Int)>1:=Om;simp only[go_sem,i,jv c];by_cases O:a7K (val a) (val b)%4294967296>1
  ·have l:((a7K (val a) (val b)%4294967296:Nat):Int)>1:=Om;simp only[go_sem,l];exact tail ((zL c).1 (.inr O)) _ _ rfl rfl rfl rfl (by simp only[go_sem,jv c]) Sq
  ·have l:¬ ((a7K (val a) (val b)%4294967296:Nat):Int)>1:=Om;have S:a7K (val a) (val b)=1:=by
    rcases Decidable.em (a7K (val a) (val b)=1) with h | h
    ·exact h
    ·rcases (zL c).2 h with h | h
     ·exact absurd h N
     ·exact absurd h O
   simp only[go_sem,l];exact fin (val a) (val b) (by rw[S,Nat.div_one]) (by rw[S,Nat.div_one]) _ _ rfl rfl rfl rfl Sq
theorem Ux {C:Ctx} (v:Int) (p:-9223372036854775808≤v) (q:v≤9223372036854775807) :
  ML.wp C (aV Hz.res (aF (.int .u64 (v.natAbs:Nat)))) (PF.args [.int .i64 v]) .nil:=by
 simp only[go_sem,ML,Uy,Uz,Hz];by_cases c:v<0
 ·have d:IntKind.i64.wrap (v+1)=v+1:=wrap_i64 Om Om;have i:IntKind.i64.wrap (0-(v+1))=-(v+1):=by rw[wrap_i64 Om Om]; omega
  have l:IntKind.u64.wrap (IntKind.u64.wrap (-(v+1))+1)=(v.natAbs:Int):=by rw[fU,fU]; omega
  simp only[go_sem,c,U1,d,i,l];refine aQ (.inr rfl) rfl ?_;rfl
 ·have e:IntKind.u64.wrap v=(v.natAbs:Int):=by rw[fU]; omega
  simp only[go_sem,c,U2,e];refine aQ (.inr rfl) rfl ?_;rfl
structure Gz (C:Ctx):Prop extends fq C where
 lowest:∀ neg a b,Lim a→Lim b→a.length≤35184372087808→b.length≤35184372087808→nl (val a)≤512→nl (val b)≤512→val b≠0→aH C 58 [.bool neg,aJ a,aJ b] .nil (aF (.agg (mO neg (val a) (val b)).rf.cells))
 size:∀ v:Int,dB v→aH C 59 [.int .i64 v] .nil (aF (.int .u64 (v.natAbs:Nat)))
def mkT (n d:Int):RF:=(mO (decide (n<0) != decide (d<0)) n.natAbs d.natAbs).rf
def wA (n d:Int):PV:=if d=0 then BE 3 else .tup [.agg (mkT n d).cells,.int .i64 0]
theorem Uk {C:Ctx} (L:Gz C) (n d:Int) (e:dB n) (i:dB d) :
  MI.wp C (aV qi.res (bY (wA n d))) (PF.args [.int .i64 n,.int .i64 d]) .nil:=by
 simp only[go_sem,MI,Ul,Um];refine aR fun o l=>?_;unfold wA;by_cases c:d=0
 ·subst c;simp only[go_sem,Un];refine hL ?_;simp only[go_sem,qi]
 ·rw[if_neg c];simp only[go_sem,bF c,Uo];refine aA (L.size n e) rfl ?_;simp only[go_sem];refine aA (L.make n.natAbs Om) rfl ?_;simp only[go_sem];refine aA (L.size d i) rfl ?_;simp only[go_sem];refine aA (L.make d.natAbs Om) rfl ?_;simp only[go_sem];have p:nl n.natAbs≤2:=nT Om;have q:nl d.natAbs≤2:=nT Om;have low:=L.lowest (decide (n<0) != decide (d<0)) (aI n.natAbs) (aI d.natAbs) (aX _) (aX _) (by rw[bB]; omega) (by rw[bB]; omega);rw[aW,aW] at low;have low:=low Om Om Om;refine aA low rfl ?_;simp only[go_sem];exact bA (.inr rfl) .nil (vs:=[.agg (mkT n d).cells,.int .i64 0]) (by simp only[go_sem,qi]; rfl) a_ ⟨.refl _,rfl⟩
structure NZ (C:Ctx):Prop extends Gz C where
 fmk:∀ n d:Int,dB n→dB d→aH C 50 [.int .i64 n,.int .i64 d] .nil (aF (wA n d))
theorem VN {C:Ctx} (L:NZ C) (n:Int) (i:dB n) :
  TU.wp C (aV aqH.res (bY (.agg (mkT n 1).cells))) (PF.args [.int .i64 n]) .nil:=by
 simp only[go_sem,TU,ahA,ahB,aqH];refine aR fun o l=>?_;simp only[go_sem];refine aA (L.fmk n 1 i (by unfold dB; omega)) rfl ?_;unfold wA;rw[if_neg (by decide)];simp only[go_sem];refine aR fun p e=>?_;have c:o≠p:=by rintro rfl;simp only[aT,if_true] at e;cases e
 have d:p≠o:=fun h=>c h.symm;simp only[go_sem,c,ahC];refine bA (vs:=[.agg (mkT n 1).cells]) (.inr rfl) .nil ?_ a_ ⟨.refl _,rfl⟩;simp only[go_sem,d]
def aG (l:List Nat) (n a:Nat):Nat × Nat:=if l.length≤a∨n<2 then (0,a) else (l.getD a 0%n,a+1)
theorem cJ (l:List Nat) {n:Nat} (h:0<n) (a:Nat):(aG l n a).1<n:=by
 unfold aG;split
 ·exact h
 ·exact a9B _ h
theorem bT (l:List Nat) (n:Nat) {a:Nat} (h:a≤l.length):(aG l n a).2≤l.length:=by
 unfold aG;split
 ·exact h
 ·simp only; omega
def fH (l:List Nat) (a:Nat):RF × Nat :=
 let x:=aG l 6 a
 let y:=aG l 8 x.2
 (mkT ((1+x.1:Nat):Int) ((1+y.1:Nat):Int),y.2)
abbrev jP:RF:=mkT 0 1
def iY (l:List Nat) (i j a:Nat):RF × Nat :=
 if j=i+1 then fH l a
 else if j=i then (jP,a)
 else let t:=aG l 3 a
  if t.1=0 then fH l t.2 else (jP,t.2)
def dT (l:List Nat) (i a:Nat):Nat→List RF × Nat
 | 0=>([],a)
 | j+1=>let s:=dT l i a j
  let z:=iY l i j s.2
  (s.1++[z.1],z.2)
structure CG where
 start:List RF
 exit:List RF
 a6C:List (List RF)
 left:Nat
 a:Nat
def dS (l:List Nat) (n i:Nat) (s:CG):Nat × Nat:=if i+1<n then aG l (s.left+1) s.a else (s.left,s.a)
def eY (l:List Nat) (n i a:Nat):RF × Nat :=
 let e:=fH l a
 if i+1<n then (let t:=aG l 3 e.2; (if t.1=0 then jP else e.1,t.2)) else e
def fS (l:List Nat) (n a:Nat):Nat→CG
 | 0=>⟨[],[],[],8,a⟩
 | i+1=>let s:=fS l n a i
  let k:=dS l n i s
  let e:=eY l n i k.2
  let r:=dT l i e.2 n
  ⟨s.start++[mkT (k.1:Nat) 8],s.exit++[e.1],s.a6C++[r.1],s.left-k.1,r.2⟩
def qS (l:List Nat) (dZ a:Nat):cE × Nat :=
 let t:=aG l dZ a
 let s:=fS l (1+t.1) t.2 (1+t.1)
 (⟨[],s.start,s.a6C,s.exit⟩,s.a)
def kC (l:List Nat) (a:Nat):Nat→List RF × Nat
 | 0=>([],a)
 | k+1=>let s:=kC l a k
  let z:=fH l s.2
  (s.1++[z.1],z.2)
abbrev bZ (n:Nat):List UInt8:=Lib.decDigits n
def hM (l:List Nat) (a:Nat):Nat→List cE × Nat
 | 0=>([],a)
 | k+1=>let s:=hM l a k
  let z:=qS l 2 s.2
  (s.1++[{ z.1 with name:=[108,97,119]++bZ k }],z.2)
def eI (l:List Nat) (a6E a:Nat):Nat→List cT × Nat
 | 0=>([],a)
 | k+1=>let s:=eI l a6E a k
  let x:=aG l 4 s.2
  let y:=aG l 8 x.2
  let z:=aG l a6E y.2
  (s.1++[⟨[109]++bZ k,(1+x.1:Nat),(1+y.1:Nat),(z.1:Nat)⟩],z.2)
structure GS where
 a6G:List cD
 a6Q:List dH
 a:Nat
def jO (l:List Nat) (mc a5X c:Nat) (s:GS):Nat→GS
 | 0=>s
 | i+1=>let s:=jO l mc a5X c s i
  if s.a6Q.length<a5X then
   let t:=aG l mc s.a
   { s with a6Q:=s.a6Q++[⟨[100]++bZ s.a6Q.length,(t.1:Nat),(c:Nat)⟩],a:=t.2 }
  else s
def kY (level:Nat):UInt8:=match level with
 | 0=>45
 | 1=>115
 | 2=>114
 | 3=>107
 | _=>109
def nA (l:List Nat) (level c:Nat) (s:GS):GS :=
 let u:=aG l 16 s.a
 let t:=aG l 3 u.2
 let k:=aG l 6 t.2
 let sh:RF × Nat:=if t.1=0 then (mkT 1 ((2+k.1:Nat):Int),k.2) else (jP,t.2)
 { s with a6G:=s.a6G++[⟨[kY level]++bZ s.a6G.length,(level:Nat),(c:Nat),(1+u.1:Nat),sh.1⟩],a:=sh.2 }
def qD (a5X:Nat) (s:GS):Bool:=decide (a5X≤s.a6Q.length)||decide (35≤s.a6G.length)
def gD (l:List Nat) (level a5X c:Nat) (rec:Nat→GS→GS) (s:GS):Nat→GS
 | 0=>s
 | i+1=>let s:=gD l level a5X c rec s i
  if qD a5X s then s else (let s':=nA l level c s; rec (s'.a6G.length-1) s')
def eR (l:List Nat) (mc a5X:Nat):Nat→Nat→GS→GS
 | 0,c,s=>let t:=aG l 2 s.a
  jO l mc a5X c { s with a:=t.2 } (1+t.1)
 | k+1,c,s=>let t:=aG l 2 s.a
  gD l (4-k) a5X c (eR l mc a5X k) { s with a:=t.2 } (if 4-k=2 then 1 else 1+t.1)
def mI:cD:=⟨[],0,-1,0,jP⟩
def gQ (l:List Nat) (a:Nat):Int × Nat :=
 let t:=aG l 3 a
 let k:=aG l 3 t.2
 if t.1=0 then ((1+k.1:Nat),k.2) else (0,t.2)
def lY (l:List Nat) (a5Y i a:Nat):bS × Nat :=
 let k:=aG l 2 a
 let m:=aG l 3 k.2
 let h:=aG l 4 m.2
 let q:=aG l (m.1+1) h.2
 let r:=kC l q.2 (max m.1 1)
 let g:=aG l 9 r.2
 let s1:=gQ l g.2
 let s2:=gQ l s1.2
 let s3:=gQ l s2.2
 let s4:=gQ l s3.2
 let f:=aG l a5Y s4.2
 let b:=aG l 2 f.2
 let ms:List Int × Nat:=if 1<a5Y then (if b.1=0 then ([(f.1:Int),1-(f.1:Int)],b.2) else ([(f.1:Int)],b.2)) else ([(f.1:Int)],f.2)
 (⟨[112]++bZ i,(1+k.1:Nat),(m.1:Nat),(1+k.1+q.1:Nat),0,s1.1,s2.1,s3.1,s4.1,ms.1,r.1,mkT (g.1:Nat) 8,mkT ((1+h.1:Nat):Int) 1⟩,ms.2)
def dU (l:List Nat) (a5Y a:Nat):Nat→List bS × Nat
 | 0=>([],a)
 | k+1=>let s:=dU l a5Y a k
  let z:=lY l a5Y k s.2
  (s.1++[z.1],z.2)
def eM (l:List Nat) (pols a:Nat):Nat→List eW × Nat
 | 0=>([],a)
 | k+1=>let s:=eM l pols a k
  let z:=aG l pols s.2
  (s.1++[⟨[118]++bZ k,(z.1:Nat)⟩],z.2)
def jF (l:List Nat) (a5X a5Z a:Nat):aE × Nat :=
 let e:=aG l 2 a
 let d:=aG l 2 e.2
 let a6E:=hM l d.2 (1+d.1)
 let c:=aG l 2 a6E.2
 let a5Y:=eI l (1+d.1) c.2 (1+c.1)
 let g:=eR l (1+c.1) a5X 4 0 ⟨[mI],[],a5Y.2⟩
 let pl:=aG l 2 g.a
 let pols:=dU l (1+c.1) pl.2 (1+pl.1)
 let i:=aG l (a5Z+1) pols.2
 let vols:=eM l (1+pl.1) i.2 i.1
 (⟨(1+e.1:Nat),a6E.1,a5Y.1,g.a6G,g.a6Q,pols.1,vols.1⟩,vols.2)
abbrev kF (l:List Nat):List (List PV):=l.map fun (n:Nat)=>[PV.int .u8 (n:Int)]
theorem TP (l:List Nat):(kF l).length=l.length:=by simp
theorem aMV (l:List Nat) {i:Nat} (h:i<l.length):(kF l)[i]?=some [.int .u8 (l[i]:Nat)]:=by simp[h]
abbrev bO (v:PV) (a:Nat):cG:=.rows 2 [[v,.int .i64 a]]
structure Tp (l:List Nat) (v:PV):Prop where
 seen:Seen 1 v (kF l)
 byte:∀ x∈l,x<256
 len:l.length≤400
def aiP (l:List Nat) (r:PV) (H:PH):Prop:=∃ o v,r=.ptr o 2 0 0∧Tp (l.take 400) v∧H=PH.nil.set o (bO v 0)
theorem Gq {t q s:Nat} {rs:List (List PV)} {F:PF} {H H2:PH} {R:PV→PH→Prop} {v:PV} {e:kM} (w:e=.normal∨e=.ret) (y:F t=some v) (x:H q=some (.rows s rs)) (l:H2.le (H.frz q s rs)) (p:R (PV.frz q s rs v) H2):aV [.tmp t] R e F H:=by
 have c:∃ vs,dV.evs F H [.tmp t]=some vs∧∃ d i H2,jC (PF.nil.set 0 (bP vs)) H d i∧H2.le i∧∃ u,d 0=some u∧R u H2:=by refine⟨[v],by rw[kI,nE,y,oN],_,_,H2,.step q x (.refl _ _),l,PV.frz q s rs v,?_,p⟩;rw[qY,kD,if_pos rfl,a8Y];rfl
 rcases w with rfl | rfl<;>exact c
theorem aaV {C:Ctx} (l:List Nat) (E:∀ x∈l,x<256) (O:l.length≤9223372036854775807):QT.wp C (aV amC.res (aiP l)) (PF.args [.sl 1 (kF l)]) .nil:=by
 simp only[go_sem,QT,aaW,aaX,amC,a7I];have fin:∀ F:PF,F 0=some (.sl 1 (kF (l.take 400)))→aC.wp C (.seq (.region vb) .ret) (aV [.tmp 2] (aiP l)) F .nil:=by
  intro F f0;have w:(l.take 400).length≤400:=by rw[a8C]; omega
  have u:∀ x∈l.take 400,x<256:=fun x M=>E x (List.mem_of_mem_take M);have y:∀ o v,Seen 1 v (kF (l.take 400))→aiP l (.ptr o 2 0 0) (PH.nil.set o (bO v 0)):=fun o v K=>⟨o,v,rfl,⟨K,u,w⟩,rfl⟩;generalize N:l.take 400=L at *
  simp only[go_sem,vb,f0];refine tO (src:=kF L) rfl ?_ (fun h=>?_) fun h o H=>?_
  ·unfold roomFor;rw[TP];simp only[maxLen]; omega
  ·simp only[go_sem,a7V,a8E,or_false,forall_eq];refine aR fun o H=>?_;simp only[go_sem];exact bA (vs:=[.ptr o 2 0 0]) (.inr rfl) (PH.nil.set o (bO .aB 0)) rfl b_ (y o .aB (.inl ⟨h,rfl⟩))
  ·simp only[go_sem,a7V,a8E,or_false,forall_eq];refine aR fun p J=>?_;have d:¬ p=o:=(iR.1 J).1;have e:¬ o=p:=fun h=>d h.symm;simp only[go_sem];refine Gq (v:=.ptr p 2 0 0) (q:=o) (s:=1) (rs:=kF L) (H2:=PH.nil.set p (bO (.sl 1 (kF L)) 0)) (.inr rfl) rfl (by simp only[go_sem,e]) (PH.aK a_ ?_) (y p _ (.inr rfl));have B:(kF L).take L.length=kF L:=a8D (by rw[TP]; exact a7O _);simp only[go_sem,d,cG.frz,PV.dE,a7I,B];rfl
 simp only[aC.wp,go_sem] at fin;by_cases c:l.length>400
 ·have i:(l.length:Int)>400:=Om;have A:(400:Int)≤(l.length:Int):=Om;simp only[go_sem,i,aaY,a7I,A];refine fin _ ?_;rw[kD,if_pos rfl];simp[kF]
 ·have i:¬ (l.length:Int)>400:=Om;simp only[go_sem,i];refine fin _ ?_;rw[a8D Om];simp only[go_sem]
def fm (l:List Nat) (v:PV) (o n a:Nat) (r:PV) (H:PH):Prop:=r=.int .i64 ((aG l n a).1:Nat)∧H=PH.nil.set o (bO v (aG l n a).2)
theorem Pd {C:Ctx} {l:List Nat} {v:PV} (T:Tp l v) (o n a:Nat) (O:n≤1000000) (M:a≤l.length):xG.wp C (aV lg.res (fm l v o n a)) (PF.args [.ptr o 2 0 0,.int .i64 n]) (PH.nil.set o (bO v a)):=by
 obtain⟨J,E,N⟩:=T;have zero:(l.length≤a∨n<2)→∀ F,aC.wp C (.seq (.region bz) .ret) (aV [.tmp 4] (fm l v o n a)) F (PH.nil.set o (bO v a)):=by
  intro h F;have e:aG l n a=(0,a):=by unfold aG; rw[if_pos h]
  simp only[go_sem,bz];exact bA (vs:=[.int .i64 0]) (.inr rfl) _ rfl b_ ⟨by rw[e]; rfl,by rw[e]⟩
 simp only[aC.wp,go_sem] at zero;rcases J with ⟨B,rfl⟩ | rfl
 ·have K:l.length=0:=by rw[← TP,B]; rfl
  have p:(a:Int)≥0:=Om;simp only[go_sem,xG,bx,lg];refine bW .nil eT a_ ?_;simp only[go_sem,JN,p];exact zero (.inl Om) _
 simp only[go_sem,xG,bx,lg];refine bW .nil eT a_ ?_;by_cases u:l.length≤a
 ·have c:(a:Int)≥(l.length:Nat):=Om;simp only[go_sem,JN,a7I,c];exact zero (.inl u) _
 have c:¬ (a:Int)≥(l.length:Nat):=Om;simp only[go_sem,JN,a7I,c];by_cases w:n<2
 ·have d:(n:Int)<2:=Om;simp only[go_sem,d];exact zero (.inr w) _
 have d:¬ (n:Int)<2:=Om;have i:a<l.length:=Om;have e:aG l n a=(l[a]%n,a+1):=by unfold aG;rw[if_neg Om];simp[a8B,i]
 have A:IntKind.i64.wrap ((a:Int)+1)=((a+1:Nat):Int):=cZ Om;have y:IntKind.i64.wrap (((a+1:Nat):Int)-1)=((a:Nat):Int):=by rw[wrap_i64 Om Om]; omega
 have H:=aMV l i;have Q:=E _ (a7L i);have x:IntKind.i64.wrap ((l[a]:Nat):Int)=((l[a]:Nat):Int):=dx Om;have q:¬ ((n:Nat):Int)=0:=Om;have em:Int.tmod ((l[a]:Nat):Int) ((n:Nat):Int)=((l[a]%n:Nat):Int):=rfl;simp only[go_sem,d,Pe,A];refine bW .nil eT a_ ?_;simp only[go_sem,Pf,y,H,x,q,em];exact bA (vs:=[.int .i64 (l[a]%n:Nat)]) (.inr rfl) _ rfl b_ ⟨by rw[e]; rfl,by rw[e]⟩
def PV.oid:PV→Option Nat
 | .osl q _ _ _=>some q
 | _=>none
abbrev LI:=PV × Nat × List (List PV)
abbrev BX:=Nat × cG
def eP (B:List BX):List Nat:=B.map (·.1)
def eF (L:List LI):List Nat:=L.filterMap fun x=>x.1.oid
structure aN (H:PH) (B:List BX) (L:List LI):Prop where
 box:∀ b∈B,H b.1=some b.2
 lst:∀ x∈L,bQ H x.2.1 x.1 x.2.2
 nd:(eP B++eF L).Nodup
section
variable {C:Ctx} {H:PH} {B:List BX} {L:List LI} {K:PV→PH→Prop}
theorem bQ.id {s q:Nat} {v:PV} {rows:List (List PV)} (h:bQ H s v rows) (c:v.oid=some q):∃ rs,H q=some (.rows s rs)∧v=.osl q s 0 rows.length∧rows.length≤rs.length∧rs.take rows.length=rows:=by
 rcases h with ⟨_,rfl⟩ | ⟨p,rs,rfl,h1,h2,h3⟩
 ·cases c
 ·cases c;exact⟨rs,h1,rfl,h2,h3⟩
theorem bQ.same {s:Nat} {v:PV} {rows:List (List PV)} {H':PH} (h:bQ H s v rows) (c:∀ q,v.oid=some q→H' q=H q):bQ H' s v rows:=by
 rcases h with h | ⟨p,rs,rfl,h1,h2,h3⟩
 ·exact .inl h
 ·exact .inr ⟨p,rs,rfl,by rw[c p rfl]; exact h1,h2,h3⟩
theorem lH {x:LI} {q:Nat} (h:x∈L) (c:x.1.oid=some q):q∈eF L:=List.mem_filterMap.2 ⟨x,h,c⟩
theorem uE {b:BX} (h:b∈B):b.1∈eP B:=a8L.2 ⟨b,h,rfl⟩
theorem aN.nil:aN H [] []:=⟨by simp,by simp,by simp[eP,eF]⟩
theorem aN.at (h:aN H B L) (i:Nat) {o:Nat} {x:cG} (hi:B[i]?=some (o,x)):H o=some x:=h.box _ (baE hi)
theorem aN.own (h:aN H B L) (i:Nat) {s:Nat} {v:PV} {rows:List (List PV)} (hi:L[i]?=some (v,s,rows)):bQ H s v rows:=h.lst _ (baE hi)
theorem aN.ndB (h:aN H B L):(eP B).Nodup:=(baC.1 h.nd).1
theorem aN.ndL (h:aN H B L):(eF L).Nodup:=(baC.1 h.nd).2.1
theorem aN.ndX (h:aN H B L) {o q:Nat} (c:o∈eP B) (d:q∈eF L):o≠q:=(baC.1 h.nd).2.2 o c q d
theorem aN.ne (h:aN H B L) (i j:Nat) {o p:Nat} {x y:cG} (hi:B[i]?=some (o,x)) (F:B[j]?=some (p,y)) (c:i≠j):o≠p:=by
 intro e;have A:(eP B)[i]?=some o:=by unfold eP; rw[a8H,hi]; rfl
 have E:(eP B)[j]?=some p:=by unfold eP; rw[a8H,F]; rfl
 obtain⟨u,d⟩:=a8R.1 A;obtain⟨w,l⟩:=a8R.1 E;have q:=List.pairwise_iff_getElem.1 h.ndB;rcases Nat.lt_or_gt_of_ne c with g | g
 ·exact q i j u w g (by rw[d,l,e])
 ·exact q j i w u g (by rw[d,l,e])
theorem aN.neL (h:aN H B L) (i j:Nat) {o q:Nat} {x:cG} {y:LI} (hi:B[i]?=some (o,x)) (c:L[j]?=some y) (d:y.1.oid=some q):o≠q :=
 h.ndX (uE (baE hi)) (lH (baE c) d)
theorem aN.fresh (h:aN H B L) {o:Nat} (c:H o=none):o ∉ eP B∧o ∉ eF L:=by
 refine⟨fun d=>?_,fun d=>?_⟩
 ·obtain⟨b,l,rfl⟩:=a8L.1 d;rw[h.box b l] at c; cases c
 ·obtain⟨x,p,e⟩:=List.mem_filterMap.1 d;obtain⟨rs,i,_⟩:=(h.lst x p).id e;rw[i] at c; cases c
theorem aN.keep (h:aN H B L) {H':PH} (d:∀ q,q∈eP B∨q∈eF L→H' q=H q):aN H' B L :=
 ⟨fun b c=>by rw[d _ (.inl (uE c))]; exact h.box b c,fun x e=>(h.lst x e).same fun q i=>d q (.inr (lH e i)),h.nd⟩
theorem aFW {i:Nat} {o:Nat} {x y:cG} (hi:B[i]?=some (o,x)):eP (B.set i (o,y))=eP B:=by
 unfold eP;rw[List.map_set];refine List.ext_getElem? fun j=>?_;rw[List.getElem?_set];split
 ·rename_i e;subst e;rw[a8H,hi];have:=(a8R.1 hi).1;simp[this]
 ·rfl
theorem aN.set (h:aN H B L) (i:Nat) {o:Nat} {x:cG} (hi:B[i]?=some (o,x)) (y:cG):aN (H.set o y) (B.set i (o,y)) L:=by
 have l:o∈eP B:=uE (baE hi);refine⟨fun b u=>?_,fun z p=>(h.lst z p).same fun q w=>?_,by rw[aFW hi]; exact h.nd⟩
 ·obtain⟨j,c⟩:=List.mem_iff_getElem?.1 u;rw[List.getElem?_set] at c;split at c
  ·split at c
   ·cases c; simp only[aT,if_true]
   ·cases c
  ·rename_i d;have:b.1≠o:=fun e=>h.ne i j hi (show B[j]?=some (b.1,b.2) from c) d e.symm;rw[aT,if_neg this];exact h.box b (baE c)
 ·have:q≠o:=fun e=>h.ndX l (lH p w) e.symm;rw[aT,if_neg this]
theorem aN.new (h:aN H B L) {o:Nat} (u:H o=none) (y:cG):aN (H.set o y) (B++[(o,y)]) L:=by
 obtain⟨f1,f2⟩:=h.fresh u;refine⟨fun b d=>?_,fun z l=>(h.lst z l).same fun q hq=>?_,?_⟩
 ·rw[a9E,a9Z] at d;rcases d with d | rfl
  ·have:b.1≠o:=fun e=>f1 (e ▸ uE d);rw[aT,if_neg this]; exact h.box b d
  ·simp only[aT,if_true]
 ·have:q≠o:=fun e=>f2 (e ▸ lH l hq);rw[aT,if_neg this]
 ·have:=h.nd;simp only[eP,a8I,a8X,a9R] at *
  rw[a8S,baC] at *
  obtain⟨a,b,c⟩:=this;refine⟨a,?_,fun p i q hq=>?_⟩
  ·rw[List.singleton_append,List.nodup_cons]; exact⟨f2,b⟩
  ·rw[List.singleton_append,a7V] at hq;rcases hq with rfl | hq
   ·intro e; subst e; exact f1 i
   ·exact c p i q hq
theorem kV (L1 L2:List LI):eF (L1++L2)=eF L1++eF L2:=List.filterMap_append ..
theorem aN.nC (h:aN H B L) (s:Nat):aN H B (L++[(.aB,s,[])]):=by
 refine⟨h.box,fun z c=>?_,?_⟩
 ·rw[a9E,a9Z] at c;rcases c with c | rfl
  ·exact h.lst z c
  ·exact .nil
 ·rw[kV,show eF [((.aB:PV),s,([]:List (List PV)))]=[] from rfl,a9I]; exact h.nd
theorem aN.amQ (h:aN H B L) {o s:Nat} {rows:List (List PV)} (i:H o=none):aN (H.set o (.rows s rows)) B (L++[(.osl o s 0 rows.length,s,rows)]):=by
 obtain⟨f1,f2⟩:=h.fresh i;have e:=h.keep (H':=H.set o (.rows s rows)) fun q c=>by
  have:q≠o:=by rintro rfl; exact c.elim f1 f2
  rw[aT,if_neg this]
 refine⟨e.box,fun z d=>?_,?_⟩
 ·rw[a9E,a9Z] at d;rcases d with d | rfl
  ·exact e.lst z d
  ·exact .inr ⟨o,rows,rfl,by simp only[aT,if_true],a7O _,a8K⟩
 ·rw[kV,show eF [((.osl o s 0 rows.length:PV),s,rows)]=[o] from rfl,← a8S,baC];refine⟨h.nd,by simp,fun p hp q c=>?_⟩;rw[a9Z] at c;subst c;rintro rfl;rcases a9E.1 hp with hp | hp
  ·exact f1 hp
  ·exact f2 hp
theorem Nr {i:Nat} {v v':PV} {s s':Nat} {rows rows':List (List PV)} (hi:L[i]?=some (v,s,rows)):∃ L1 L2,L=L1++(v,s,rows)::L2∧L.set i (v',s',rows')=L1++(v',s',rows')::L2:=by
 obtain⟨c,d⟩:=a8R.1 hi;refine⟨L.take i,L.drop (i+1),?_,?_⟩
 ·rw[← d,← a9J c,baG]
 ·rw[List.set_eq_take_append_cons_drop,if_pos c]
theorem aN.LJ (h:aN H B L) (i:Nat) {s:Nat} {v:PV} {rows:List (List PV)} (hi:L[i]?=some (v,s,rows)) {s':Nat} {v':PV} {rows':List (List PV)} {H':PH} (Q:bQ H' s' v' rows')
  (F:∀ q,v'.oid=some q→v.oid=some q∨H q=none) (O:∀ q,q∈eP B∨q∈eF L→(∀ p,v.oid=some p→q≠p)→H' q=H q):aN H' B (L.set i (v',s',rows')):=by
 obtain⟨L1,L2,M,N⟩:=Nr (v':=v') (s':=s') (rows':=rows') hi;rw[N];subst M;have d:=h.nd;have A:eF (L1++(v,s,rows)::L2)=eF L1++(v.oid.toList++eF L2):=by rw[kV];congr 1;unfold eF;rw[List.filterMap_cons];cases e:v.oid<;>simp
 have E:eF (L1++(v',s',rows')::L2)=eF L1++(v'.oid.toList++eF L2):=by rw[kV];congr 1;unfold eF;rw[List.filterMap_cons];cases e:v'.oid<;>simp
 rw[A] at d;have x:∀ q,q∈eP B∨q∈eF L1∨q∈eF L2→∀ p,v.oid=some p→q≠p:=by
  intro q hq p w e;subst e;rw[w] at d;simp only[Option.toList_some] at d;rw[baC] at d;obtain⟨a,b,c⟩:=d;rw[baC] at b;obtain⟨b1,b2,y⟩:=b;rw[List.singleton_append,List.nodup_cons] at b2;rcases hq with hq | hq | hq
  ·exact c q hq q (by simp) rfl
  ·exact y q hq q (by simp) rfl
  ·exact b2.1 hq
 have l:∀ q,q∈eP B∨q∈eF L1∨q∈eF L2→H' q=H q:=by
  intro q hq;refine O q ?_ (x q hq);rw[A];simp only[a9E];rcases hq with hq | hq | hq
  ·exact .inl hq
  ·exact .inr (.inl hq)
  ·exact .inr (.inr (.inr hq))
 refine⟨fun b J=>by rw[l _ (.inl (uE J))]; exact h.box b J,fun z hz=>?_,?_⟩
 ·rw[a9E,a7V] at hz;rcases hz with hz | rfl | hz
  ·exact (h.lst z (by simp[hz])).same fun q hq=>l q (.inr (.inl (lH hz hq)))
  ·exact Q
  ·exact (h.lst z (by simp[hz])).same fun q hq=>l q (.inr (.inr (lH hz hq)))
 ·rw[E];cases e:v'.oid with
  | none =>simp only[Option.toList_none,List.nil_append];refine List.Nodup.sublist ?_ d;exact a9M.append (a9M.refl _) (a9M.append (a9M.refl _) (List.sublist_append_right _ _))
  | some q =>
   rcases F q e with R | hn
   ·rw[R] at d;exact d
   ·obtain⟨f1,f2⟩:=h.fresh hn;rw[A] at f2;simp only[a9E,not_or] at f2;have u:(eP B++(eF L1++eF L2)).Nodup:=List.Nodup.sublist (a9M.append (a9M.refl _) (a9M.append (a9M.refl _) (List.sublist_append_right _ _))) d;simp only[Option.toList_some];rw[baC] at u ⊢;obtain⟨a,b,c⟩:=u;rw[baC] at b;obtain⟨b1,b2,y⟩:=b;refine⟨a,?_,?_⟩
    ·rw[baC];refine⟨b1,by rw[List.singleton_append,List.nodup_cons]; exact⟨f2.2.2,b2⟩,fun p w r hr=>?_⟩;rw[List.singleton_append,a7V] at hr;rcases hr with rfl | hr
     ·rintro rfl; exact f2.1 w
     ·exact y p w r hr
    ·intro p w r hr;rw[a9E,List.singleton_append,a7V] at hr;rcases hr with hr | rfl | hr
     ·exact c p w r (by simp[hr])
     ·rintro rfl; exact f1 w
     ·exact c p w r (by simp[hr])
theorem aN.append (h:aN H B L) (i:Nat) {s b:Nat} {v y:PV} {rows src:List (List PV)} (hi:L[i]?=some (v,s,rows)) (E:dX H s y=some src) (A:roomFor rows.length src.length b)
  (w:∀ v' H',aN H' B (L.set i (v',s,rows++src))→(src≠[]→∃ q,v'=.osl q s 0 (rows++src).length)→K v' H'):mQ H s b v y K:=by
 rcases h.own i hi with ⟨rfl,rfl⟩ | ⟨q,rs,rfl,h1,h2,h3⟩
 ·refine⟨src,E,A,fun e=>?_,fun e o l=>?_⟩
  ·subst e;refine w _ _ ?_ fun h=>absurd rfl h;exact h.LJ i hi (.inl ⟨rfl,rfl⟩) (fun q u=>by cases u) fun q _ _=>rfl
  ·refine w _ _ (h.LJ i hi (.inr ⟨o,src,rfl,by simp only[aT,if_true],a7O _,a8K⟩) (fun q u=>by cases u; exact .inr l) fun q u _=>?_) fun _=>⟨o,rfl⟩;obtain⟨f1,f2⟩:=h.fresh l;have:q≠o:=by rintro rfl; exact u.elim f1 f2
   rw[aT,if_neg this]
 ·have c:(rows++src).length=rows.length+src.length:=a7Q;refine⟨src,E,rfl,rfl,A,rs,h1,h2,?_,fun o l=>?_⟩
  ·rw[h3];refine w _ _ (h.LJ i hi (.inr ⟨q,rows++src,by rw[c],by simp only[aT,if_true],a7O _,a8K⟩) (fun p d=>by cases d; exact .inl rfl) fun p _ d=>?_) fun _=>⟨q,by rw[c]⟩;rw[aT,if_neg (d q rfl)]
  ·rw[h3];refine w _ _ (h.LJ i hi (.inr ⟨o,rows++src,by rw[c],by simp only[aT,if_true],a7O _,a8K⟩) (fun p d=>by cases d; exact .inr l) fun p x d=>?_) fun _=>⟨o,by rw[c]⟩;obtain⟨f1,f2⟩:=h.fresh l;have F:p≠o:=by rintro rfl; exact x.elim f1 f2
   rw[aT,if_neg F]
theorem aN.sub (h:aN H B L) {B':List BX} {L':List LI} (hB:B'.Sublist B) (c:L'.Sublist L):aN H B' L' :=
 ⟨fun b d=>h.box b (hB.subset d),fun x e=>h.lst x (c.subset e),List.Nodup.sublist (a9M.append (hB.map _) (c.filterMap _)) h.nd⟩
theorem aN.sN (h:aN H B L) (i:Nat):aN H (B.eraseIdx i) L:=h.sub (List.eraseIdx_sublist ..) (a9M.refl _)
theorem aN.ajV (h:aN H B L) (i:Nat):aN H B (L.eraseIdx i):=h.sub (a9M.refl _) (List.eraseIdx_sublist ..)
end
section
variable {C:Ctx} {F:PF} {H:PH} {B:List BX} {L:List LI}
theorem aN.VI (h:aN H B L) {q:Nat} (hq:q∈eP B∨q∈eF L):∃ x,H q=some x:=by
 rcases hq with hq | hq
 ·obtain⟨b,d,rfl⟩:=a8L.1 hq;exact⟨_,h.box b d⟩
 ·obtain⟨x,i,e⟩:=List.mem_filterMap.1 hq;obtain⟨rs,c,_⟩:=(h.lst x i).id e;exact⟨_,c⟩
theorem aN.perm (h:aN H B L) {B':List BX} {L':List LI} (hB:B.Perm B') (c:L.Perm L'):aN H B' L' :=
 ⟨fun b d=>h.box b (hB.mem_iff.2 d),fun x e=>h.lst x (c.mem_iff.2 e),(List.Perm.nodup_iff ((hB.map _).append (c.filterMap _))).1 h.nd⟩
theorem aN.only (h:aN H B L) {B1:List BX} {L1:List LI} (hB:B1.Sublist B) (c:L1.Sublist L):aN (H.only (eP B1++eF L1)) B1 L1:=by
 refine (h.sub hB c).keep fun q d=>?_;rw[rY];rw[if_pos (a9E.2 d)]
theorem aVZ {a b c d:List Nat} (i:(a++c).Nodup) (l:(b++d).Nodup) (u:∀ q,q∈a∨q∈c→q∈b∨q∈d→False):((a++b)++(c++d)).Nodup:=by
 have e:List.Perm ((a++b)++(c++d)) ((a++c)++(b++d)):=by rw[a8S,a8S];exact List.Perm.append_left a (by rw[← a8S,← a8S]; exact List.Perm.append_right d List.perm_append_comm)
 rw[e.nodup_iff,baC];refine⟨i,l,fun p w q x=>?_⟩;rintro rfl;exact u p (a9E.1 w) (a9E.1 x)
theorem aN.frame {H':PH} {B1 B2 B':List BX} {L1 L2 L':List LI} (h:aN H (B1++B2) (L1++L2)) (p:aN H' B' L') (E:lZ H (H.only (eP B1++eF L1)) H'):aN (H.over (H.only (eP B1++eF L1)) H') (B'++B2) (L'++L2):=by
 have w:aN H B2 L2:=h.sub (List.sublist_append_right ..) (List.sublist_append_right ..);have i:∀ q,q∈eP B2∨q∈eF L2→¬ (q∈eP B1++eF L1):=by
  intro q c J;have d:=h.nd;rw[show eP (B1++B2)=eP B1++eP B2 from a8I,kV] at d;have e:List.Perm ((eP B1++eP B2)++(eF L1++eF L2)) ((eP B1++eF L1)++(eP B2++eF L2)):=by rw[a8S,a8S];exact List.Perm.append_left _ (by rw[← a8S,← a8S]; exact List.Perm.append_right _ List.perm_append_comm)
  rw[e.nodup_iff,baC] at d;exact d.2.2 q J q (a9E.2 c) rfl
 have new:∀ q,q∈eP B'∨q∈eF L'→(H.over (H.only (eP B1++eF L1)) H') q=H' q:=by intro q c;obtain⟨x,hx⟩:=p.VI c;rw[gV,hx]
 have A:∀ q,q∈eP B2∨q∈eF L2→(H.over (H.only (eP B1++eF L1)) H') q=H q:=by
  intro q c;obtain⟨x,hx⟩:=w.VI c;have u:(H.only (eP B1++eF L1)) q=none:=by rw[rY,if_neg (i q c)]
  rw[gV];cases e:H' q with
  | none=>simp only[u]
  | some y =>have:=E q y e u;rw[hx] at this; cases this
 have k1:=p.keep new;have k2:=w.keep A;refine⟨fun b hb=>?_,fun x hx=>?_,?_⟩
 ·rcases a9E.1 hb with hb | hb
  ·exact k1.box b hb
  ·exact k2.box b hb
 ·rcases a9E.1 hx with hx | hx
  ·exact k1.lst x hx
  ·exact k2.lst x hx
 ·rw[show eP (B'++B2)=eP B'++eP B2 from a8I,kV];refine aVZ p.nd w.nd fun q c l=>?_;obtain⟨x,hx⟩:=p.VI c;obtain⟨y,K⟩:=w.VI l;have u:(H.only (eP B1++eF L1)) q=none:=by rw[rY,if_neg (i q l)]
  have:=E q x hx u;rw[K] at this; cases this
theorem ET {name:Nat} {vs:List PV} {args:List aP} {d:Option Nat} {K:PF→PH→Prop} {B1 B2:List BX} {L1 L2:List LI} {Q:PV→List BX→List LI→Prop} (h:aN H (B1++B2) (L1++L2))
  (p:∀ e,aN e B1 L1→aH C name vs e (fun r H'=>∃ B' L',Q r B' L'∧aN H' B' L')) (l:aP.evs F args=some vs)
  (q:∀ r B' L' H',Q r B' L'→aN H' (B'++B2) (L'++L2)→K (F.put d r) H'):iU C name args [] d K F H:=by
 refine kU (p (H.only (eP B1++eF L1)) (h.only (List.sublist_append_left ..) (List.sublist_append_left ..))) l (VB H _) ?_;rintro r H' ⟨B',L',u,i⟩ c;exact q r B' L' _ u (h.frame i c)
theorem aN.OE {B:List BX} {o:Nat} {x:cG} (h:aN H (B++[(o,x)]) L):H o=some x:=h.box (o,x) (by simp)
theorem aN.wz {B:List BX} {o:Nat} {x:cG} (h:aN H (B++[(o,x)]) L) (y:cG):aN (H.set o y) (B++[(o,y)]) L:=by
 have:=h.set B.length (o:=o) (x:=x) (by simp) y
 rwa [baF _ _ (a7O _),baJ] at this
theorem aN.dropLast {B:List BX} {b:BX} (h:aN H (B++[b]) L):aN H B L:=h.sub (List.sublist_append_left ..) (a9M.refl _)
theorem aN.aSL {B:List BX} {o:Nat} {x:cG} (h:aN H ((o,x)::B) L) (y:cG):aN (H.set o y) ((o,y)::B) L:=h.set 0 rfl y
theorem aN.aUW {B:List BX} {o:Nat} {x:cG} (h:aN H ((o,x)::B) L):H o=some x:=h.at 0 rfl
theorem mR {name o:Nat} {x y:cG} {r:PV} {vs:List PV} {args:List aP} {d:Option Nat} {K:PF→PH→Prop} (h:aH C name vs (PH.nil.set o x) (fun c H'=>c=r∧H'=PH.nil.set o y)) (l:H o=some x) (e:aP.evs F args=some vs)
  (i:K (F.put d r) (H.set o y)):iU C name args [] d K F H:=by
 refine kU h e (PH.aK a_ l) ?_;rintro c H' ⟨rfl,rfl⟩ -;rw[PH.tD];exact i
theorem aEP {Hs:PH} {S:Spec} {name o:Nat} {x y:cG} {r:PV} {vs:List PV} {R:PH→PV→PH→Prop} {args:List aP} {st:Bool} {d:Option Nat} {K:PF→PH→Prop} (N:S name vs=some ([o],R)) (J:H o=some x)
  (h:aH C name vs (PH.nil.set o x) (fun c H'=>c=r∧H'=PH.nil.set o y)) (i:R (PH.nil.set o x) r (PH.nil.set o y)) (u:∀ c H',R (PH.nil.set o x) c H'→c=r∧H'=PH.nil.set o y) (O:aP.evs F args=some vs)
  (w:Hs.le (H.set o y)) (Q:K (F.put d r) (H.set o y)):dOp C Hs S st (.call name args) d K F H:=by
 have e:=cw J;refine⟨vs,[o],_,O,N,fun q M=>?_,?_,fun G=>⟨r,_,by rw[e]; exact i,fun q z E p=>?_⟩,fun c H' l _=>?_⟩
 ·simp at M; subst M; exact⟨x,J⟩
 ·rw[e];exact h.post fun c H' l=>⟨c,.refl _,by rw[l.1,l.2]; exact i⟩
 ·rw[e] at p;rw[aT] at E p;split at p
  ·cases p
  ·rename_i A;rw[if_neg A] at E; cases E
 ·rw[e] at l;obtain⟨rfl,rfl⟩:=u c H' l;rw[e,PH.tD];exact⟨w,Q⟩
theorem aLA {s:Nat} {q z:Nat} {rs:List (List PV)} {v:PV} {rows:List (List PV)} (h:bQ H s v rows) (d:v.oid≠some q):bQ (H.frz q z rs) s v (rows.map fun r=>r.map (PV.dE q z rs)):=by
 rcases h with ⟨rfl,rfl⟩ | ⟨p,rs',rfl,h1,h2,h3⟩
 ·exact .inl ⟨rfl,rfl⟩
 ·have c:¬ p=q:=fun e=>d (by rw[e]; rfl);refine .inr ⟨p,rs'.map fun r=>r.map (PV.dE q z rs),by rw[a7I],?_,by simpa using h2,?_⟩
  ·rw[yG,if_neg c,h1]; rfl
  ·rw[a7I,← List.map_take,h3]
theorem aN.frz (h:aN H B L) (i:Nat) {q s k:Nat} {rows:List (List PV)} (hi:L[i]?=some (.osl q s 0 k,s,rows)):∃ rs,H q=some (.rows s rs)∧PV.dE q s rs (.osl q s 0 k)=.sl s rows∧PV.frz q s rs (.osl q s 0 k)=.sl s rows∧(∀ j x,j≠i→L[j]?=some x→PV.dE q s rs x.1=x.1) ∧
  aN (H.frz q s rs) (B.map fun b=>(b.1,b.2.frz q s rs)) ((L.eraseIdx i).map fun x=>(x.1,x.2.1,x.2.2.map fun r=>r.map (PV.dE q s rs))):=by
 obtain⟨rs,U,V,W,X⟩:=(h.own i hi).id rfl;injection V with _ _ _ hk
 subst hk;have e:PV.frz q s rs (.osl q s 0 rows.length)=.sl s rows:=by rw[tZ W,X]
 refine⟨rs,U,e,e,?_⟩;refine⟨fun j x K R=>?_,?_⟩
 ·have l:x.1.oid≠some q:=by
   intro l;obtain⟨M,J⟩:=a8R.1 hi;obtain⟨β,Z⟩:=a8R.1 R;have u:x∈L.eraseIdx i:=List.mem_eraseIdx_iff_getElem?.2 ⟨j,K,R⟩;have d:=h.ndL;have O:L=L.take i++(L[i]::L.drop (i+1)):=by rw[← a9J M,baG]
   rw[List.eraseIdx_eq_take_drop_succ] at u;rw[O,kV] at d;have E:eF (L[i]::L.drop (i+1))=q::eF (L.drop (i+1)):=by rw[J]; rfl
   rw[E,baC] at d;obtain⟨a,b,c⟩:=d;rcases a9E.1 u with hx | hx
   ·exact c q (lH hx l) q (by simp) rfl
   ·exact (List.nodup_cons.1 b).1 (lH hx l)
  cases hx:x.1<;>try rfl
  rename_i p z γ len;have:¬ p=q:=fun e=>l (by rw[hx,e]; rfl);simp only[PV.dE,if_neg this]
 obtain⟨L1,L2,e1,e2⟩:=Nr (v':=.aB) (s':=s) (rows':=rows) hi;have α:i=L1.length∨True:=.inr trivial;have w:(L.eraseIdx i).Sublist L:=List.eraseIdx_sublist ..;have N:∀ x∈L.eraseIdx i,x.1.oid≠some q:=by
  intro x hx l;obtain⟨M,J⟩:=a8R.1 hi;have d:=h.ndL;have O:L=L.take i++(L[i]::L.drop (i+1)):=by rw[← a9J M,baG]
  rw[List.eraseIdx_eq_take_drop_succ] at hx;rw[O,kV] at d;have E:eF (L[i]::L.drop (i+1))=q::eF (L.drop (i+1)):=by rw[J]; rfl
  rw[E,baC] at d;obtain⟨a,b,c⟩:=d;rcases a9E.1 hx with hx | hx
  ·exact c q (lH hx l) q (by simp) rfl
  ·exact (List.nodup_cons.1 b).1 (lH hx l)
 refine⟨fun b Y=>?_,fun x hx=>?_,?_⟩
 ·obtain⟨Q,y,rfl⟩:=a8L.1 Y;have:¬ Q.1=q:=h.ndX (uE y) (lH (baE hi) rfl);simp only;rw[yG,if_neg this,h.box Q y]; rfl
 ·obtain⟨S,A,rfl⟩:=a8L.1 hx;exact aLA (h.lst S (w.subset A)) (N S A)
 ·have i1:eP (B.map fun b=>(b.1,b.2.frz q s rs))=eP B:=by unfold eP; rw[List.map_map]; rfl
  have i2:eF ((L.eraseIdx i).map fun x=>(x.1,x.2.1,x.2.2.map fun r=>r.map (PV.dE q s rs)))=eF (L.eraseIdx i):=by unfold eF; rw[List.filterMap_map]; rfl
  rw[i1,i2];exact List.Nodup.sublist (a9M.append (a9M.refl _) (w.filterMap _)) h.nd
def Flat (rows:List (List PV)):Prop:=∀ q s rs,rows.map (fun r=>r.map (PV.dE q s rs))=rows
theorem Flat.nil:Flat []:=fun _ _ _=>rfl
theorem Flat.of {rows:List (List PV)} (h:∀ r∈rows,∀ c∈r,∀ q s rs,PV.dE q s rs c=c):Flat rows:=fun q s rs=>by
 conv=>rhs; rw[← List.map_id rows]
 refine bbD fun r e=>?_
 conv=>rhs; rw[id,← List.map_id r]
 exact bbD fun c d=>h r e c d q s rs
theorem Flat.map {α:Type} {f:α→List PV} (l:List α) (h:∀ x,∀ c∈f x,∀ q s rs,PV.dE q s rs c=c):Flat (l.map f):=Flat.of fun r d=>by
 obtain⟨x,_,rfl⟩:=a8L.1 d;exact h x
theorem Flat.append {r1 r2:List (List PV)} (c:Flat r1) (d:Flat r2):Flat (r1++r2):=fun q s rs=>by rw[a8I,c,d]
theorem aN.flat {φ:PV→List (List PV)} (h:aN H B L):aN H B L:=h
def AR (v:PV) (H:PH) (R:PV→PH→Prop):Prop:=∃ c d H2,jC (PF.nil.set 0 v) H c d∧H2.le d∧∃ u,c 0=some u∧R u H2
theorem AR.done {v:PV} {H2:PH} {R:PV→PH→Prop} (d:R v H2) (c:H2.le H):AR v H R:=⟨_,_,H2,.refl _ _,c,v,by rw[kD,if_pos rfl],d⟩
theorem AR.step {v:PV} {q s:Nat} {rs:List (List PV)} {R:PV→PH→Prop} (w:H q=some (.rows s rs)) (h:AR (PV.frz q s rs v) (H.frz q s rs) R):AR v H R:=by
 obtain⟨c,d,H2,l,p,u⟩:=h;have e:(PF.nil.set 0 v).frz q s rs=PF.nil.set 0 (PV.frz q s rs v):=by funext i;rw[qY,kD,kD];split<;>rfl
 exact⟨c,d,H2,.step q w (by rw[e]; exact l),p,u⟩
theorem yQ {res:List dV} {R:PV→PH→Prop} {vs:List PV} {e:kM} (l:e=.normal∨e=.ret) (h:dV.evs F H res=some vs) (p:AR (bP vs) H R):aV res R e F H:=by
 have c:∃ vs,dV.evs F H res=some vs∧∃ d i H2,jC (PF.nil.set 0 (bP vs)) H d i∧H2.le i∧∃ u,d 0=some u∧R u H2:=⟨vs,h,p⟩;rcases l with rfl | rfl<;>exact c
theorem jm {u:PV} (h:u.oid=none) (q s:Nat) (rs:List (List PV)):PV.dE q s rs u=u:=by
 cases u<;>first | rfl | (simp[PV.oid] at h)
theorem Seen.co {s:Nat} {v:PV} {rows:List (List PV)} (h:Seen s v rows):Co v (.sl s rows):=by
 rcases h with ⟨rfl,rfl⟩ | rfl
 ·exact .nil s
 ·exact .refl _
theorem aN.giveUp:∀ (L:List LI) {H:PH} {B:List BX},aN H B L→(∀ x∈L,Flat x.2.2)→(∀ b∈B,∀ q s rs,cG.frz q s rs b.2=b.2) →
  ∃ (φ:PV→PV) (d:PH),(∀ x∈L,Seen x.2.1 (φ x.1) x.2.2)∧(∀ u,u.oid=none→φ u=u)∧aN d B []∧∀ cs R,AR (.agg (cs.map φ)) d R→AR (.agg cs) H R
 | [],H,B,h,_,_=>⟨id,H,by simp,fun _ _=>rfl,h,fun cs R p=>by rwa [List.map_id] at p⟩
 | (w,s,rows)::L,H,B,h,l,hB=>by
  have c:∀ q z rs,(L.map fun x=>(x.1,x.2.1,x.2.2.map fun r=>r.map (PV.dE q z rs)))=L:=fun q z rs=>by
   conv=>rhs; rw[← List.map_id L]
   refine bbD fun x hx=>?_;rw[l x (by simp[hx]) q z rs]; rfl
  rcases h.own 0 rfl with ⟨i,M⟩ | ⟨q,rs,i,_⟩
  ·obtain⟨φ,d,k1,k2,y,A⟩:=aN.giveUp L (h.ajV 0) (fun x hx=>l x (by simp[hx])) hB;refine⟨φ,d,fun x hx=>?_,k2,y,A⟩;rw[a7V] at hx;rcases hx with rfl | hx
   ·exact .inl ⟨i,by simp only; rw[M]; exact k2 _ rfl⟩
   ·exact k1 x hx
  ·subst i;obtain⟨rs,Q,S,W,U,J⟩:=h.frz 0 rfl;have V:aN (H.frz q s rs) B L:=by
    have K:(B.map fun b=>(b.1,b.2.frz q s rs))=B:=by
     conv=>rhs; rw[← List.map_id B]
     refine bbD fun b N=>?_;rw[hB b N q s rs]; rfl
    rw[K] at J;have:=J;simp only[List.eraseIdx_cons_zero] at this
    rwa [c q s rs] at this
   obtain⟨φ,d,k1,k2,y,A⟩:=aN.giveUp L V (fun x hx=>l x (by simp[hx])) hB;refine⟨fun u=>φ (PV.dE q s rs u),d,fun x hx=>?_,fun u E=>?_,y,fun cs R p=>?_⟩
   ·rw[a7V] at hx;rcases hx with rfl | hx
    ·simp only;rw[S];exact .inr (k2 _ rfl)
    ·obtain⟨j,O⟩:=List.mem_iff_getElem?.1 hx;have:=U (j+1) x Om (by simpa using O);simp only;rw[this];exact k1 x hx
   ·simp only;rw[jm E,k2 u E]
   ·refine .step Q ?_;have e:PV.frz q s rs (.agg cs)=.agg (cs.map (PV.dE q s rs)):=rfl;rw[e];refine A _ R ?_;rw[List.map_map];exact p
theorem Ap {K:bR} {α:Type} {c:α→PF} {Hs:α→PH} {d:α→Prop} {m:α→Nat} {n q s:Nat} {rs:List (List PV)} (a:α) (u:H q=some (.rows s rs)) (e:d a) (p:m a<n) (i:(c a).le (F.frz q s rs)) (l:(Hs a).le (H.frz q s rs)):fJ c Hs d m n K .normal F H :=
 ⟨a,_,_,.step q u (.refl _ _),e,p,i,l⟩
end
structure AU (C:Ctx):Prop extends NZ C where
 int:∀ n:Int,dB n→aH C 47 [.int .i64 n] .nil (aF (.agg (mkT n 1).cells))
 itoa:∀ n:Nat,n<100→aH C 195 [.int .i64 n] .nil (aF (.str (bZ n)))
 next:∀ (l:List Nat) (v:PV),Tp l v→∀ (o n a:Nat),n≤1000000→a≤l.length→aH C 4 [.ptr o 2 0 0,.int .i64 n] (PH.nil.set o (bO v a)) (fm l v o n a)
section
variable {C:Ctx} {F:PF} {H:PH} {l:List Nat} {v:PV} {o a:Nat}
theorem dM (e:AU C) (T:Tp l v) {n:Nat} {args:List aP} {d:Option Nat} {K:PF→PH→Prop} (q:n≤1000000) (i:a≤l.length) (c:aP.evs F args=some [.ptr o 2 0 0,.int .i64 n]) (u:H o=some (bO v a))
  (p:K (F.put d (.int .i64 ((aG l n a).1:Nat))) (H.set o (bO v (aG l n a).2))):iU C 4 args [] d K F H :=
 mR (e.next l v T o n a q i) u c p
end
def aNL (l:List Nat) (v:PV) (o a:Nat) (r:PV) (H:PH):Prop:=r=.agg (fH l a).1.cells∧H=PH.nil.set o (bO v (fH l a).2)
theorem tY (l:List Nat) {a:Nat} (h:a≤l.length):(fH l a).2≤l.length:=bT l 8 (bT l 6 h)
theorem Oo {C:Ctx} (d:AU C) {l:List Nat} {v:PV} (T:Tp l v) (o a:Nat) (u:a≤l.length):JH.wp C (aV He.res (aNL l v o a)) (PF.args [.ptr o 2 0 0]) (PH.nil.set o (bO v a)):=by
 simp only[go_sem,JH,Oq,He];refine aR fun p K=>?_;have x:¬ p=o:=(iR.1 K).1;have c:¬ o=p:=fun h=>x h.symm;have M:=cJ l (show 0<6 by decide) a;have a1:=bT l 6 u;simp only[go_sem,Or];refine dM d T (o:=o) (n:=6) (a:=a) (by decide) u rfl (by simp only[go_sem,c]) ?_;have B:IntKind.i64.wrap (1+((aG l 6 a).1:Int))=((1+(aG l 6 a).1:Nat):Int):=by rw[wrap_i64 Om Om]; omega
 simp only[go_sem,B];have N:=cJ l (show 0<8 by decide) (aG l 6 a).2;refine dM d T (o:=o) (n:=8) (a:=(aG l 6 a).2) (by decide) a1 rfl Sq ?_;have E:IntKind.i64.wrap (1+((aG l 8 (aG l 6 a).2).1:Int))=((1+(aG l 8 (aG l 6 a).2).1:Nat):Int):=by rw[wrap_i64 Om Om]; omega
 simp only[go_sem,E];refine aA (d.fmk ((1+(aG l 6 a).1:Nat):Int) ((1+(aG l 8 (aG l 6 a).2).1:Nat):Int) (by unfold dB; omega) (by unfold dB; omega)) rfl ?_;have J:¬ ((1+(aG l 8 (aG l 6 a).2).1:Nat):Int)=0:=Om;unfold wA;rw[if_neg J];simp only[go_sem];refine aR fun q w=>?_;have y:¬ q=o:=(iR.1 w).1;have A:¬ q=p:=(iR.1 (iR.1 w).2).1;have i:¬ p=q:=fun h=>A h.symm;have e:¬ o=q:=fun h=>y h.symm;simp only[go_sem,Ot,x,c,y,A,i];refine bA (vs:=[.agg (fH l a).1.cells]) (.inr rfl) (PH.nil.set o (bO v (fH l a).2)) ?_ (PH.aK a_ ?_) ⟨rfl,rfl⟩
 ·simp only[go_sem];rfl
 ·simp only[go_sem,c,e];rfl
structure fj (C:Ctx):Prop extends AU C where
 frac:∀ (l:List Nat) (v:PV),Tp l v→∀ (o a:Nat),a≤l.length→aH C 1 [.ptr o 2 0 0] (PH.nil.set o (bO v a)) (aNL l v o a)
abbrev fX (l:List RF):List (List PV):=l.map RF.cells
theorem wX (l:List RF) (x:RF):fX l++[x.cells]=fX (l++[x]):=by simp[fX]
theorem HV (l:List RF):Flat (fX l):=Flat.map l fun x c d q s rs=>by
 simp only[RF.cells,eH,a7V,a8E,or_false] at d;rcases d with rfl | rfl | rfl<;>rfl
theorem mF (l:List RF):(fX l).length=l.length:=by simp[fX]
theorem Tp.frz {l:List Nat} {v:PV} (T:Tp l v) (q s:Nat) (rs:List (List PV)):PV.dE q s rs v=v:=by
 rcases T.seen with ⟨_,rfl⟩ | rfl<;>rfl
theorem GD (l:List Nat) {a:Nat} (h:a≤l.length):∀ k,(kC l a k).2≤l.length
 | 0=>h
 | k+1=>tY l (GD l h k)
theorem Rp (l:List Nat) (a:Nat):∀ k,(kC l a k).1.length=k
 | 0=>rfl
 | k+1=>by simp only[kC,a7Q,a7U,Rp l a k]
def aUO (l:List Nat) (v:PV) (o a k:Nat) (r:PV) (H:PH):Prop:=r=frs (kC l a k).1∧H=PH.nil.set o (bO v (kC l a k).2)
def amE (o:Nat) (m:Nat) (w:PV) (i:Nat):PF:=((((PF.nil.set 0 (.ptr o 2 0 0)).set 1 (.int .i64 m)).set 5 (w)).set 6 (.int .i64 i))
theorem abA {C:Ctx} (J:fj C) {l:List Nat} {v:PV} (T:Tp l v) (o a m:Nat) (S:m≤1000) (N:a≤l.length):QU.wp C (aV amD.res (aUO l v o a (max m 1))) (PF.args [.ptr o 2 0 0,.int .i64 m]) (PH.nil.set o (bO v a)):=by
 have p:∀ i:Nat,((i:Int)<(if (m:Int)<1 then 1 else (m:Int)))↔i<max m 1:=by intro i;split<;>omega
 simp only[go_sem,QU,abB,abC,abD,amD];have K:aN (PH.nil.set o (bO v a)) [(o,bO v a)] [(.aB,3,fX [])]:=(aN.nil.new (H:=PH.nil) rfl (bO v a)).nC 3;refine wp_loop (α:=Nat × PV × PH) (fun t=>amE o m t.2.1 t.1) (fun t=>t.2.2) (fun t=>t.1≤max m 1∧aN t.2.2 [(o,bO v (kC l a t.1).2)] [(t.2.1,3,fX (kC l a t.1).1)]) (fun t=>max m 1-t.1) (0,.aB,PH.nil.set o (bO v a)) ⟨a7P _,K⟩ ?_ b_ ?_
 ·unfold amE;exact Lq
 rintro⟨k,w,R⟩ ⟨O,d⟩;simp only at O d ⊢;simp only[go_sem,aaZ,abE,amE];have A:=GD l N k;have c:=Rp l a k;by_cases hlt:k<max m 1
 ·have y:=(p k).2 hlt;simp only[go_sem,y,abF];refine mR (J.frac l v T o _ A) (d.at 0 rfl) rfl ?_;have x:=d.set 0 rfl (bO v (fH l (kC l a k).2).2);have u:(1:Nat)*3≤16777216:=by decide
  simp only[go_sem,u];refine x.append 0 (src:=[(fH l (kC l a k).2).1.cells]) rfl rfl (by unfold roomFor; rw[mF,c]; simp only[a7U,maxLen]; omega) fun Q H' E _=>?_;rw[wX] at E;simp only[go_sem,abG,wZz k];refine aD (k+1,Q,H') ⟨hlt,E⟩ (by simp only; omega) ?_ b_;exact Lq
 ·have y:¬ ((k:Int)<(if (m:Int)<1 then 1 else (m:Int))):=fun h=>hlt ((p k).1 h);have e:k=max m 1:=Om;subst e;simp only[go_sem,y,abH];have B:fX (kC l a (max m 1)).1≠[]:=fun h=>by have:=congrArg List.length h;rw[mF,c] at this;simp at this
  rcases d.own 0 rfl with ⟨M,_⟩ | ⟨q,rs,rfl,_⟩
  ·exact absurd M B
  obtain⟨rs,g1,g2,g3,-,g4⟩:=d.frz 0 rfl;refine yQ (vs:=[.osl q 3 0 (fX (kC l a (max m 1)).1).length]) (.inr rfl) rfl (.step g1 (.done (H2:=PH.nil.set o (bO v (kC l a (max m 1)).2)) ?_ (PH.aK a_ ?_)))
  ·rw[bP,g3];exact⟨rfl,rfl⟩
  ·have:=g4.at 0 rfl;rw[this];simp only[cG.frz,a8X,a9R,T.frz];rfl
theorem Pa {C:Ctx} (d:AU C) (s:List UInt8) (n:Nat) (p:s.length≤100) (e:n<100):JM.wp C (aV Hf.res (aF (.str (s++bZ n)))) (PF.args [.str s,.int .i64 n]) .nil:=by
 have i:(bZ n).length≤2:=by
  unfold bZ;rw[Lib.decDigits];split
  ·simp
  ·rw[Lib.decDigits,dif_pos Om]; simp
 have c:¬ (((s.length+(bZ n).length:Nat):Int)>9223372036854775807):=Om;simp only[go_sem,JM,Pb,Pc,Hf];refine aA (d.itoa n e) rfl ?_;simp only[go_sem,ajB,c];refine aQ (.inr rfl) rfl ?_;rfl
structure qV (C:Ctx):Prop extends fj C where
 rep:∀ (l:List Nat) (v:PV),Tp l v→∀ (o a m:Nat),m≤1000→a≤l.length→aH C 5 [.ptr o 2 0 0,.int .i64 m] (PH.nil.set o (bO v a)) (aUO l v o a (max m 1))
 name:∀ (s:List UInt8) (n:Nat),s.length≤100→n<100→aH C 29 [.str s,.int .i64 n] .nil (aF (.str (s++bZ n)))
theorem aDW (l:List Nat) (i j:Nat) {a:Nat} (h:a≤l.length):(iY l i j a).2≤l.length:=by
 unfold iY;split
 ·exact tY l h
 ·split
  ·exact h
  ·simp only;split
   ·exact tY l (bT l 3 h)
   ·exact bT l 3 h
theorem wx (l:List Nat) (i:Nat) {a:Nat} (h:a≤l.length):∀ j,(dT l i a j).2≤l.length
 | 0=>h
 | j+1=>aDW l i j (wx l i h j)
theorem dd (l:List Nat) (i a:Nat):∀ j,(dT l i a j).1.length=j
 | 0=>rfl
 | j+1=>by simp only[dT,a7Q,a7U,dd l i a j]
theorem bb (l:List Nat) (n i:Nat) (s:CG) (h:s.a≤l.length):(dS l n i s).2≤l.length∧(dS l n i s).1≤s.left:=by
 unfold dS;split
 ·exact⟨bT l _ h,by have:=cJ l (Om:0<s.left+1) s.a; omega⟩
 ·exact⟨h,a7O _⟩
theorem Kp (l:List Nat) (n i:Nat) {a:Nat} (h:a≤l.length):(eY l n i a).2≤l.length:=by
 unfold eY;simp only;split
 ·exact bT l 3 (tY l h)
 ·exact tY l h
theorem u0 (l:List Nat) (n:Nat) {a:Nat} (h:a≤l.length):∀ i,(fS l n a i).a≤l.length∧(fS l n a i).left≤8∧(fS l n a i).start.length=i∧(fS l n a i).exit.length=i∧(fS l n a i).a6C.length=i
 | 0=>⟨h,a7O _,rfl,rfl,rfl⟩
 | i+1=>by
  obtain⟨c,q,d,e,h5⟩:=u0 l n h i;have p:=bb l n i (fS l n a i) c;refine⟨?_,?_,?_,?_,?_⟩
  ·exact wx l i (Kp l n i p.1) n
  ·simp only[fS]; omega
  ·simp only[fS,a7Q,a7U,d]
  ·simp only[fS,a7Q,a7U,e]
  ·simp only[fS,a7Q,a7U,h5]
abbrev uI (l:List (List RF)):List (List PV):=l.map fun r=>[frs r]
theorem Cs (l:List (List RF)):Flat (uI l):=Flat.map l fun x c d q s rs=>by
 simp only[a7V,a8E,or_false] at d;subst d; rfl
abbrev ay (c d e:PV):cG:=.rows 4 [[.str [],c,d,e]]
abbrev Nz:cG:=.rows 4 [[.str [],.aB,.aB,.aB]]
def fK (o o4 o6 n left i:Nat) (w:PV) (j:Nat):PF:=((((((((PF.nil.set 0 (.ptr o 2 0 0)).set 4 (.ptr o4 4 0 0)).set 5 (.int .i64 n)).set 6 (.ptr o6 4 0 0)).set 7 (.int .i64 left)).set 8 (.int .i64 i)).set 13 (w)).set 14 (.int .i64 j))
def cX (o o4 o6 n left i:Nat):PF:=((((((PF.nil.set 0 (.ptr o 2 0 0)).set 4 (.ptr o4 4 0 0)).set 5 (.int .i64 n)).set 6 (.ptr o6 4 0 0)).set 7 (.int .i64 left)).set 8 (.int .i64 i))
theorem bf {l:List RF} (h:l.length≤1000):roomFor (fX l).length 1 56:=by
 unfold roomFor;rw[mF];simp only[maxLen]; omega
theorem aGZ {C:Ctx} (V:qV C) {l:List Nat} {v:PV} (T:Tp l v) (o o4 o6 n left i a:Nat) (ha:a≤l.length) (hn:n≤100) (hi:i<n) (B:List BX) (L:List LI) (K:bR) (F:PF) (H:PH)
  (hF:(fK o o4 o6 n left i .aB 0).le F) (O:aN H ((o,bO v a)::B) L)
  (hK:∀ w d H',(fK o o4 o6 n left i w n).le d→aN H' ((o,bO v (dT l i a n).2)::B) (L++[(w,3,fX (dT l i a n).1)])→K (.exit 2) d H') :
  aC.wp C (.loop JK) K F H:=by
 refine wp_loop (α:=Nat × PV × PH) (fun t=>fK o o4 o6 n left i t.2.1 t.1) (fun t=>t.2.2) (fun t=>t.1≤n∧aN t.2.2 ((o,bO v (dT l i a t.1).2)::B) (L++[(t.2.1,3,fX (dT l i a t.1).1)])) (fun t=>n-t.1) (0,.aB,H) ⟨a7P _,O.nC 3⟩ hF b_ ?_;rintro⟨j,w,H0⟩ ⟨hj,O⟩;simp only at hj O ⊢;have N:=wx l i ha j;have δ:=dd l i a j;have e1:IntKind.i64.wrap ((i:Int)+1)=((i+1:Nat):Int):=cZ Om;simp only[go_sem,JK,O4,fK];by_cases hlt:j<n
 ·have A:(j:Int)<(n:Nat):=Om;simp only[go_sem,A,O5];refine aA (V.int 0 (by unfold dB; omega)) rfl ?_;simp only[go_sem];refine aR fun p hp=>?_;have e:=O.new hp (.rows 3 [jP.cells]);simp only[go_sem,O6,e1];have fin:∀ (d:PF) (H':PH),(fK o o4 o6 n left i w j).le d→d 15=some (.ptr p 3 0 0)→aN H' ((o,bO v (iY l i j (dT l i a j).2).2)::B++[(p,.rows 3 [(iY l i j (dT l i a j).2).1.cells])]) (L++[(w,3,fX (dT l i a j).1)]) →
    aC.wp C (.region bu) (eX 3 (gG C (aC.wp C (.region bv)) (fJ (fun (t:Nat × PV × PH)=>fK o o4 o6 n left i t.2.1 t.1) (fun t=>t.2.2) (fun t=>t.1≤n∧aN t.2.2 ((o,bO v (dT l i a t.1).2)::B) (L++[(t.2.1,3,fX (dT l i a t.1).1)])) (fun t=>n-t.1) (n-j) K))) d H':=by
   intro d H' c E Q;have f0:d 0=some (.ptr o 2 0 0):=c 0 _ (by unfold fK; simp only[go_sem]);have f4:d 4=some (.ptr o4 4 0 0):=c 4 _ (by unfold fK; simp only[go_sem]);have f5:d 5=some (.int .i64 n):=c 5 _ (by unfold fK; simp only[go_sem]);have f6:d 6=some (.ptr o6 4 0 0):=c 6 _ (by unfold fK; simp only[go_sem]);have f7:d 7=some (.int .i64 left):=c 7 _ (by unfold fK; simp only[go_sem]);have f8:d 8=some (.int .i64 i):=c 8 _ (by unfold fK; simp only[go_sem]);have f13:d 13=some w:=c 13 _ (by unfold fK; simp only[go_sem]);have f14:d 14=some (.int .i64 j):=c 14 _ (by unfold fK; simp only[go_sem]);have β:H' p=some (.rows 3 [(iY l i j (dT l i a j).2).1.cells]):=Q.box (p,.rows 3 [(iY l i j (dT l i a j).2).1.cells]) (by simp);have X:(1:Nat)*3≤16777216:=by decide
   simp only[go_sem,bu,f13,E,β,X];refine Q.append (v:=w) (s:=3) (rows:=fX (dT l i a j).1) L.length (src:=[(iY l i j (dT l i a j).2).1.cells]) (by simp) rfl (bf Om) fun w' H2 h2 _=>?_;rw[wX,baF _ _ (a7O _),baJ] at h2;simp only[go_sem,bv,f14,wZz j];refine aD (α:=Nat × PV × PH) (j+1,w',H2) ⟨hlt,h2.sub (List.sublist_append_left ..) (a9M.refl _)⟩ (by simp only; omega) ?_ b_;unfold fK;exact Lq
  simp only[aC.wp,go_sem] at fin;have U:∀ x:RF,PH.set (PH.set H0 p (.rows 3 [jP.cells])) p (.rows 3 [x.cells])=PH.set H0 p (.rows 3 [x.cells]):=fun x=>PH.set_set p _ _;have draw:∀ (d:PF) (R:PH) (a1:Nat),a1≤l.length→(fK o o4 o6 n left i w j).le d→d 15=some (.ptr p 3 0 0)→aN R ((o,bO v a1)::B++[(p,.rows 3 [jP.cells])]) (L++[(w,3,fX (dT l i a j).1)])→iY l i j (dT l i a j).2=fH l a1→∀ K',(∀ M H2,(fK o o4 o6 n left i w j).le M→M 15=some (.ptr p 3 0 0)→aN H2 ((o,bO v (iY l i j (dT l i a j).2).2)::B++[(p,.rows 3 [(iY l i j (dT l i a j).2).1.cells])]) (L++[(w,3,fX (dT l i a j).1)])→K' M H2) →
    wpOps C bs K' d R:=by
   intro d R a1 Z c E e J K' Y;have f0:d 0=some (.ptr o 2 0 0):=c 0 _ (by unfold fK; simp only[go_sem]);simp only[go_sem,bs,f0];refine mR (V.frac l v T o a1 Z) (e.at 0 rfl) rfl ?_;have y:aN (R.set o (bO v (fH l a1).2)) ((o,bO v (fH l a1).2)::B++[(p,.rows 3 [jP.cells])]) (L++[(w,3,fX (dT l i a j).1)]):=e.set 0 rfl _;have γ:=y.OE;simp only[go_sem,E,γ];refine Y _ _ ?_ (by simp only[go_sem,E]) ?_
   ·have g:=fun (q:Nat) u h=>c q u h;unfold fK at g ⊢;refine d_ (d_ (d_ (d_ (d_ (d_ (d_ (d_ c_ ?_) ?_) ?_) ?_) ?_) ?_) ?_) ?_
    ·simp only[go_sem,f0]
    ·simp only[go_sem,g 4 _ rfl]
    ·simp only[go_sem,g 5 _ rfl]
    ·simp only[go_sem,g 6 _ rfl]
    ·simp only[go_sem,g 7 _ rfl]
    ·simp only[go_sem,g 8 _ rfl]
    ·simp only[go_sem,g 13 _ rfl]
    ·simp only[go_sem,g 14 _ rfl]
   ·rw[J];exact y.wz (.rows 3 [(fH l a1).1.cells])
  by_cases S:j=i+1
  ·have J:iY l i j (dT l i a j).2=fH l (dT l i a j).2:=by unfold iY; rw[if_pos S]
   simp only[go_sem,bL (Om:(j:Int)=((i+1:Nat):Int))];refine draw _ _ _ N (by unfold fK; exact Lq) rfl e J _ ?_;intro M H2 k1 k2 k3;exact fin M H2 k1 k2 k3
  ·simp only[go_sem,bF (Om:¬ (j:Int)=((i+1:Nat):Int))];by_cases W:j=i
   ·have J:iY l i j (dT l i a j).2=(jP,(dT l i a j).2):=by unfold iY; rw[if_neg S,if_pos W]
    simp only[go_sem,cC (Om:(j:Int)=(i:Int))];exact fin _ _ (by unfold fK; exact Lq) rfl (by rw[J]; exact e)
   ·simp only[go_sem,dN (Om:¬ (j:Int)=(i:Int))];refine dM V.toAU T (o:=o) (n:=3) (a:=(dT l i a j).2) (by decide) N rfl (e.at 0 rfl) ?_;have y:aN _ ((o,bO v (aG l 3 (dT l i a j).2).2)::B++[(p,.rows 3 [jP.cells])]) (L++[(w,3,fX (dT l i a j).1)]):=e.set 0 rfl _;by_cases c3:(aG l 3 (dT l i a j).2).1=0
    ·have J:iY l i j (dT l i a j).2=fH l (aG l 3 (dT l i a j).2).2:=by unfold iY; rw[if_neg S,if_neg W]; simp only[c3,if_true]
     simp only[go_sem,bL (show (((aG l 3 (dT l i a j).2).1:Nat):Int)=0 by omega)];refine draw _ _ _ (bT l 3 N) (by unfold fK; exact Lq) rfl y J _ ?_;intro M H2 k1 k2 k3;exact fin M H2 k1 k2 k3
    ·have J:iY l i j (dT l i a j).2=(jP,(aG l 3 (dT l i a j).2).2):=by unfold iY; rw[if_neg S,if_neg W]; simp only[c3,if_false]
     simp only[go_sem,bF (show ¬ (((aG l 3 (dT l i a j).2).1:Nat):Int)=0 by omega)];exact fin _ _ (by unfold fK; exact Lq) rfl (by rw[J]; exact y)
 ·have A:¬ (j:Int)<(n:Nat):=Om;have:j=n:=Om;subst this;simp only[go_sem,A];exact hK w _ _ (by unfold fK; exact Lq) O
abbrev rE (o o4 o6:Nat) (v c d e:PV) (a:Nat):List BX:=[(o,bO v a),(o4,Nz),(o6,ay c d e)]
abbrev uV (s:CG) (c d e:PV):List LI:=[(c,3,fX s.start),(d,1,uI s.a6C),(e,3,fX s.exit)]
theorem auC {C:Ctx} (E:qV C) {l:List Nat} {v:PV} (T:Tp l v) (o o4 o6 n i:Nat) (s:CG) (A:s.a≤l.length) (S:s.left≤8) (U:n≤100) (hi:i<n) (B:List BX) (L:List LI) (rest:aC) (K:bR) (F:PF) (H:PH)
  (d:(cX o o4 o6 n s.left i).le F) (w:aN H ((o,bO v s.a)::B) L)
  (p:∀ q H',(cX o o4 o6 n (s.left-(dS l n i s).1) i).le q→q 9=some (.int .i64 ((dS l n i s).1:Nat))→aN H' ((o,bO v (dS l n i s).2)::B) L→aC.wp C rest K q H') :
  aC.wp C (.seq (.region u7) (.seq (.seq (.region u9) (.cond (.tmp 29) (.region va) .skip)) (.seq (.region UY) rest))) K F H:=by
 have f0:F 0=some (.ptr o 2 0 0):=d 0 _ (by unfold cX; simp only[go_sem]);have Q:F 4=some (.ptr o4 4 0 0):=d 4 _ (by unfold cX; simp only[go_sem]);have N:F 5=some (.int .i64 n):=d 5 _ (by unfold cX; simp only[go_sem]);have f6:F 6=some (.ptr o6 4 0 0):=d 6 _ (by unfold cX; simp only[go_sem]);have f7:F 7=some (.int .i64 s.left):=d 7 _ (by unfold cX; simp only[go_sem]);have O:F 8=some (.int .i64 i):=d 8 _ (by unfold cX; simp only[go_sem]);have J:IntKind.i64.wrap ((i:Int)+1)=((i+1:Nat):Int):=cZ Om;have R:=(bb l n i s A).2;have e:IntKind.i64.wrap ((s.left:Int)-((dS l n i s).1:Int))=((s.left-(dS l n i s).1:Nat):Int):=by rw[wrap_i64 Om Om]; omega
 simp only[go_sem,u7,f7,u9,O,N,J];by_cases c:i+1<n
 ·have u:((i+1:Nat):Int)<(n:Nat):=Om;have y:dS l n i s=aG l (s.left+1) s.a:=by unfold dS; rw[if_pos c]
  have M:IntKind.i64.wrap ((s.left:Int)+1)=((s.left+1:Nat):Int):=cZ Om;rw[y] at p e;simp only[go_sem,u,va,f0,f7,M];refine dM E.toAU T (o:=o) (n:=s.left+1) (a:=s.a) Om A rfl w.aUW ?_;have x:=w.aSL (bO v (aG l (s.left+1) s.a).2);simp only[go_sem,UY,f7,e];refine p _ _ ?_ rfl x;unfold cX;exact Lq
 ·have u:¬ ((i+1:Nat):Int)<(n:Nat):=Om;have y:dS l n i s=(s.left,s.a):=by unfold dS; rw[if_neg c]
  rw[y] at p e;simp only at p e;simp only[go_sem,u,UY,f7,e];refine p _ _ ?_ rfl w;unfold cX;exact Lq
theorem alR {C:Ctx} (O:qV C) {l:List Nat} {v:PV} (o o4 o6 n i left k a:Nat) (hk:k≤8) (hi:i<n) (hn:n≤100) (s:CG) (hs:s.start.length=i) (N u w:PV) (B:List BX) (rest:aC) (K:bR) (F:PF) (H:PH)
  (e:(cX o o4 o6 n left i).le F) (Q:F 9=some (.int .i64 k)) (V:aN H (rE o o4 o6 v N u w a++B) (uV s N u w))
  (W:∀ d M H' B',(cX o o4 o6 n left i).le M→aN H' (rE o o4 o6 v d u w a++B') (uV { s with start:=s.start++[mkT (k:Nat) 8] } d u w)→aC.wp C rest K M H') :
  aC.wp C (.seq (.region bg) (.seq (.region bi) rest)) K F H:=by
 have f0:F 0=some (.ptr o 2 0 0):=e 0 _ (by unfold cX; simp only[go_sem]);have Z:F 4=some (.ptr o4 4 0 0):=e 4 _ (by unfold cX; simp only[go_sem]);have f5:F 5=some (.int .i64 n):=e 5 _ (by unfold cX; simp only[go_sem]);have f6:F 6=some (.ptr o6 4 0 0):=e 6 _ (by unfold cX; simp only[go_sem]);have f7:F 7=some (.int .i64 left):=e 7 _ (by unfold cX; simp only[go_sem]);have f8:F 8=some (.int .i64 i):=e 8 _ (by unfold cX; simp only[go_sem]);simp only[go_sem,bg,Q];refine aA (O.fmk (k:Int) 8 (by unfold dB; omega) (by unfold dB; omega)) rfl ?_;unfold wA;rw[if_neg (by decide)];simp only[go_sem];refine aR fun p X=>?_;have c:=V.new X (.rows 3 [(mkT (k:Nat) 8).cells]);have R:=c.at 2 rfl;have S:=c.OE;have A:(1:Nat)*3≤16777216:=by decide
 have Y:∀ y,PH.set (PH.set H p (.rows 3 [[PV.bool false,PV.aB,PV.aB]])) p y=PH.set H p y:=fun y=>PH.set_set p _ _;simp only[go_sem,bi,f6,R,S,A];refine c.append 0 (src:=[(mkT (k:Nat) 8).cells]) rfl rfl (bf Om) fun d H2 E J=>?_;rw[wX] at E J; rw[mF] at J;obtain⟨q,rfl⟩:=J (by simp);have x:=E.at 2 rfl;simp only[go_sem,x,a7V,a8E,or_false,forall_eq];have U:=E.set 2 rfl (ay (.osl q 3 0 (s.start++[mkT (k:Nat) 8]).length) u w);refine W _ _ _ (B++[(p,.rows 3 [(mkT (k:Nat) 8).cells])]) ?_ U;unfold cX;exact Lq
theorem auB {C:Ctx} (O:qV C) {l:List Nat} {v:PV} (T:Tp l v) (o o4 o6 n i left a:Nat) (ha:a≤l.length) (hi:i<n) (hn:n≤100) (s:CG) (hs:s.exit.length=i) (u w M:PV) (B:List BX) (rest:aC) (K:bR) (F:PF) (H:PH)
  (J:(cX o o4 o6 n left i).le F) (hH:aN H (rE o o4 o6 v u w M a++B) (uV s u w M))
  (hK:∀ E d H' B',(cX o o4 o6 n left i).le d→aN H' (rE o o4 o6 v u w E (eY l n i a).2++B') (uV { s with exit:=s.exit++[(eY l n i a).1] } u w E)→aC.wp C rest K d H') :
  aC.wp C (.seq (.region bj) (.seq (.seq (.region bk) (.cond (.tmp 58) (.region bn) .skip)) (.seq (.region JL) rest))) K F H:=by
 have f0:F 0=some (.ptr o 2 0 0):=J 0 _ (by unfold cX; simp only[go_sem]);have f4:F 4=some (.ptr o4 4 0 0):=J 4 _ (by unfold cX; simp only[go_sem]);have f5:F 5=some (.int .i64 n):=J 5 _ (by unfold cX; simp only[go_sem]);have f6:F 6=some (.ptr o6 4 0 0):=J 6 _ (by unfold cX; simp only[go_sem]);have f7:F 7=some (.int .i64 left):=J 7 _ (by unfold cX; simp only[go_sem]);have f8:F 8=some (.int .i64 i):=J 8 _ (by unfold cX; simp only[go_sem]);have e1:IntKind.i64.wrap ((i:Int)+1)=((i+1:Nat):Int):=cZ Om;simp only[go_sem,bj,f0];refine mR (O.frac l v T o a ha) (hH.at 0 rfl) rfl ?_;have X:=hH.set 0 rfl (bO v (fH l a).2);simp only[go_sem];refine aR fun p hp=>?_;have y:=X.new hp (.rows 3 [(fH l a).1.cells]);simp only[go_sem,bk,f8,f5,e1];have fin:∀ (d:PF) (H':PH),(cX o o4 o6 n left i).le d→d 12=some (.ptr p 3 0 0)→aN H' (rE o o4 o6 v u w M (eY l n i a).2++B++[(p,.rows 3 [(eY l n i a).1.cells])]) (uV s u w M)→wpOps C JL (aC.wp C rest K) d H':=by
  intro d H' e R x;have q0:d 0=some (.ptr o 2 0 0):=e 0 _ (by unfold cX; simp only[go_sem]);have q4:d 4=some (.ptr o4 4 0 0):=e 4 _ (by unfold cX; simp only[go_sem]);have q5:d 5=some (.int .i64 n):=e 5 _ (by unfold cX; simp only[go_sem]);have q6:d 6=some (.ptr o6 4 0 0):=e 6 _ (by unfold cX; simp only[go_sem]);have q7:d 7=some (.int .i64 left):=e 7 _ (by unfold cX; simp only[go_sem]);have q8:d 8=some (.int .i64 i):=e 8 _ (by unfold cX; simp only[go_sem]);have g6:=x.at 2 rfl;have U:=x.OE;have V:(1:Nat)*3≤16777216:=by decide
  simp only[go_sem,JL,q6,g6,R,U,V];refine x.append 2 (src:=[(eY l n i a).1.cells]) rfl rfl (bf Om) fun E H2 W Z=>?_;rw[wX] at W Z; rw[mF] at Z;obtain⟨q,rfl⟩:=Z (by simp);have S:=W.at 2 rfl;simp only[go_sem,S,a7V,a8E,or_false,forall_eq];have h3:=W.set 2 rfl (ay u w (.osl q 3 0 (s.exit++[(eY l n i a).1]).length));refine hK _ _ _ (B++[(p,.rows 3 [(eY l n i a).1.cells])]) ?_ h3;unfold cX;exact Lq
 by_cases c:i+1<n
 ·have Q:((i+1:Nat):Int)<(n:Nat):=Om;have Y:=tY l ha;simp only[go_sem,Q,f0];refine dM O.toAU T (o:=o) (n:=3) (a:=(fH l a).2) (by decide) Y rfl (y.at 0 rfl) ?_;have A:=y.set 0 rfl (bO v (aG l 3 (fH l a).2).2);by_cases c3:(aG l 3 (fH l a).2).1=0
  ·have N:eY l n i a=(jP,(aG l 3 (fH l a).2).2):=by unfold eY; simp only[if_pos c,c3,if_true]
   have U:=aN.OE (B:=rE o o4 o6 v u w M (aG l 3 (fH l a).2).2++B) A;simp only[go_sem,bL (show (((aG l 3 (fH l a).2).1:Nat):Int)=0 by omega),bn];refine aA (O.int 0 (by unfold dB; omega)) rfl ?_;simp only[go_sem,U];refine fin _ _ ?_ rfl ?_
   ·unfold cX;exact Lq
   ·rw[N];exact aN.wz (B:=rE o o4 o6 v u w M (aG l 3 (fH l a).2).2++B) A (.rows 3 [jP.cells])
  ·have N:eY l n i a=((fH l a).1,(aG l 3 (fH l a).2).2):=by unfold eY; simp only[if_pos c,c3,if_false]
   simp only[go_sem,bF (show ¬ (((aG l 3 (fH l a).2).1:Nat):Int)=0 by omega)];refine fin _ _ ?_ rfl ?_
   ·unfold cX;exact Lq
   ·rw[N];exact A
 ·have Q:¬ ((i+1:Nat):Int)<(n:Nat):=Om;have N:eY l n i a=fH l a:=by unfold eY; simp only[if_neg c]
  simp only[go_sem,Q];refine fin _ _ ?_ rfl ?_
  ·unfold cX;exact Lq
  ·rw[N];exact y
def aDE (l:List Nat) (v:PV) (o dZ a:Nat) (r:PV) (H:PH):Prop:=r=.agg (qS l dZ a).1.cells∧H=PH.nil.set o (bO v (qS l dZ a).2)
theorem avQ {l:List (List RF)} (h:l.length≤1000):roomFor (uI l).length 1 24:=by
 unfold roomFor;simp only[a7I,maxLen]; omega
theorem avR (l:List (List RF)) (x:List RF):uI l++[[frs x]]=uI (l++[x]):=by simp[uI]
theorem alQ {C:Ctx} (Z:qV C) {l:List Nat} {v:PV} (T:Tp l v) (o o4 o6 n left i a:Nat) (ha:a≤l.length) (hn:n≤100) (hi:i<n) (s:CG) (hs:s.a6C.length=i) (u M A:PV) (B:List BX) (K:bR) (F:PF) (H:PH)
  (E:(cX o o4 o6 n left i).le F) (hH:aN H (rE o o4 o6 v u M A a++B) (uV s u M A))
  (hK:∀ y x U H' B',(cX o o4 o6 n left i).le U→(∃ q,x=.osl q 3 0 n)→aN H' (rE o o4 o6 v u y A (dT l i a n).2++B') [(u,3,fX s.start),(y,1,uI s.a6C++[[x]]),(A,3,fX s.exit),(x,3,fX (dT l i a n).1)]→K .normal U H') :
  aC.wp C (.seq (.region bo) (.seq (.seq (.region br) (.block 2 (.loop JK))) (.region bw))) K F H:=by
 have f0:F 0=some (.ptr o 2 0 0):=E 0 _ (by unfold cX; simp only[go_sem]);have f4:F 4=some (.ptr o4 4 0 0):=E 4 _ (by unfold cX; simp only[go_sem]);have f5:F 5=some (.int .i64 n):=E 5 _ (by unfold cX; simp only[go_sem]);have f6:F 6=some (.ptr o6 4 0 0):=E 6 _ (by unfold cX; simp only[go_sem]);have f7:F 7=some (.int .i64 left):=E 7 _ (by unfold cX; simp only[go_sem]);have f8:F 8=some (.int .i64 i):=E 8 _ (by unfold cX; simp only[go_sem]);simp only[go_sem,bo,br];refine aGZ (C:=C) Z T o o4 o6 n left i a ha hn hi ([(o4,Nz),(o6,ay u M A)]++B) (uV s u M A) _ _ H ?_ hH ?_
 ·unfold fK
  (repeat' (first|exact c_|refine d_ ?_ ?_))<;>first|(simp only[go_sem,f0,f4,f5,f6,f7,f8]<;>rfl)|rfl
 intro w e H1 c p;have d:=dd l i a n;have hw:∃ q,w=.osl q 3 0 n:=by
  rcases p.own (v:=w) 3 rfl with ⟨J,_⟩ | ⟨q,rs,J,_⟩
  ·have:=congrArg List.length J;rw[mF,d] at this;simp at this; omega
  ·rw[mF,d] at J;exact⟨q,J⟩
 obtain⟨q,rfl⟩:=hw;have g0:e 0=some (.ptr o 2 0 0):=c 0 _ (by unfold fK; simp only[go_sem]);have g4:e 4=some (.ptr o4 4 0 0):=c 4 _ (by unfold fK; simp only[go_sem]);have g5:e 5=some (.int .i64 n):=c 5 _ (by unfold fK; simp only[go_sem]);have V:e 6=some (.ptr o6 4 0 0):=c 6 _ (by unfold fK; simp only[go_sem]);have g7:e 7=some (.int .i64 left):=c 7 _ (by unfold fK; simp only[go_sem]);have g8:e 8=some (.int .i64 i):=c 8 _ (by unfold fK; simp only[go_sem]);have O:e 13=some (.osl q 3 0 n):=c 13 _ (by unfold fK; simp only[go_sem]);have b6:=p.at 2 rfl;have Q:(1:Nat)*1≤16777216:=by decide
 simp only[go_sem,bw,V,b6,O,Q,a7V,a8E,or_false,forall_eq];refine p.append 1 (src:=[[.osl q 3 0 n]]) rfl Sq (avQ Om) fun y H2 W S=>?_;obtain⟨Y,rfl⟩:=S (by simp);have N:=W.at 2 rfl;simp only[go_sem,N,a7V,a8E,or_false,forall_eq];have X:=W.set 2 rfl (ay u (.osl Y 1 0 (uI s.a6C++[[PV.osl q 3 0 n]]).length) A);have R:(uI s.a6C++[[(PV.osl q 3 0 n:PV)]]).length=s.a6C.length+1:=by simp
 rw[R] at X ⊢;refine hK (.osl Y 1 0 (s.a6C.length+1)) (.osl q 3 0 n) _ _ B ?_ ⟨q,rfl⟩ X;unfold cX
 (repeat' (first|exact c_|refine d_ ?_ ?_))<;>first|(simp only[go_sem,g0,g4,g5,V,g7,g8]<;>rfl)|rfl
theorem aaO {C:Ctx} (J:qV C) {l:List Nat} {v:PV} (T:Tp l v) (o dZ a:Nat) (hm:0<dZ) (γ:dZ≤50) (ha:a≤l.length):QS.wp C (aV alP.res (aDE l v o dZ a)) (PF.args [.ptr o 2 0 0,.int .i64 dZ]) (PH.nil.set o (bO v a)):=by
 have h0:aN (PH.nil.set o (bO v a)) [(o,bO v a)] []:=aN.nil.new (H:=PH.nil) rfl (bO v a);simp only[go_sem,QS,aaP,alP];refine aR fun o4 Z=>?_;have F:=h0.new Z Nz;simp only[go_sem,aaQ];refine dM J.toAU T (o:=o) (n:=dZ) (a:=a) Om ha Sq (F.at 0 rfl) ?_;have h2:=F.set 0 rfl (bO v (aG l dZ a).2);have hN:=cJ l hm a;have X:=bT l dZ ha;have e1:IntKind.i64.wrap (1+((aG l dZ a).1:Int))=((1+(aG l dZ a).1:Nat):Int):=by rw[wrap_i64 Om Om]; omega
 have Y:∀ s:CG,s=fS l (1+(aG l dZ a).1) (aG l dZ a).2 (1+(aG l dZ a).1)→qS l dZ a=(⟨[],s.start,s.a6C,s.exit⟩,s.a):=fun s hs=>by rw[hs]; rfl
 have W:∀ r H,aDE l v o dZ a r H↔r=.agg (qS l dZ a).1.cells∧H=PH.nil.set o (bO v (qS l dZ a).2):=fun _ _=>Iff.rfl;generalize hn:1+(aG l dZ a).1=n at *
 generalize hb:(aG l dZ a).2=b at *
 have δ:0<n:=Om;have c:n≤100:=Om;simp only[go_sem,e1,aaR];refine aR fun o6 β=>?_;have h3:=((h2.new β Nz).nC 3).nC 1;have h4:=h3.nC 3;simp only[go_sem,aaS,aaT];refine wp_loop (α:=Nat × PV × PV × PV × PH) (fun t=>cX o o4 o6 n (fS l n b t.1).left t.1) (fun t=>t.2.2.2.2)
  (fun t=>t.1≤n∧aN t.2.2.2.2 (rE o o4 o6 v t.2.1 t.2.2.1 t.2.2.2.1 (fS l n b t.1).a) (uV (fS l n b t.1) t.2.1 t.2.2.1 t.2.2.2.1)) (fun t=>n-t.1) (0,.aB,.aB,.aB,_) ⟨a7P _,h4⟩ ?_ b_ ?_
 ·unfold cX
  (repeat' (first|exact c_|refine d_ ?_ ?_))<;>first|(simp only[go_sem,fS]<;>rfl)|rfl
 rintro⟨i,w1,K,M,H0⟩ ⟨hi,B⟩;simp only at hi B ⊢;obtain⟨k1,k2,k3,k4,k5⟩:=u0 l n X i;simp only[go_sem,O3,aaU,cX];by_cases hlt:i<n
 ·have y:(i:Int)<(n:Nat):=Om;have A:fS l n b (i+1)=⟨(fS l n b i).start++[mkT ((dS l n i (fS l n b i)).1:Nat) 8],(fS l n b i).exit++[(eY l n i (dS l n i (fS l n b i)).2).1],(fS l n b i).a6C++[(dT l i (eY l n i (dS l n i (fS l n b i)).2).2 n).1],(fS l n b i).left-(dS l n i (fS l n b i)).1,(dT l i (eY l n i (dS l n i (fS l n b i)).2).2 n).2⟩:=rfl;have kl:=bb l n i (fS l n b i) k1;have ke:=Kp l n i kl.1;generalize hs:fS l n b i=s at *
  simp only[go_sem,y];refine auC (C:=C) J T o o4 o6 n i s k1 k2 c hlt [(o4,Nz),(o6,ay w1 K M)] (uV s w1 K M) _ _ _ H0 (by unfold cX; exact Lq) B ?_;intro F1 H1 N f9 R;refine alR (C:=C) (l:=l) J o o4 o6 n i _ (dS l n i s).1 (dS l n i s).2 Om hlt c s k3 w1 K M [] _ _ F1 H1 N f9 R ?_;intro d F2 H2 B2 O S;refine auB (C:=C) J T o o4 o6 n i _ (dS l n i s).2 kl.1 hlt c { s with start:=s.start++[mkT ((dS l n i s).1:Nat) 8] } k4 d K M B2 _ _ F2 H2 O S ?_;intro e F3 H3 B3 Q U;refine alQ (C:=C) J T o o4 o6 n _ i (eY l n i (dS l n i s).2).2 ke c hlt { s with start:=s.start++[mkT ((dS l n i s).1:Nat) 8],exit:=s.exit++[(eY l n i (dS l n i s).2).1] } k5 d K e B3 _ F3 H3 Q U ?_;rintro u ε E H4 B4 p ⟨q,rfl⟩ V;have g0:E 0=some (.ptr o 2 0 0):=p 0 _ (by unfold cX; simp only[go_sem]);have g4:E 4=some (.ptr o4 4 0 0):=p 4 _ (by unfold cX; simp only[go_sem]);have g5:E 5=some (.int .i64 n):=p 5 _ (by unfold cX; simp only[go_sem]);have g6:E 6=some (.ptr o6 4 0 0):=p 6 _ (by unfold cX; simp only[go_sem]);have g7:E 7=some (.int .i64 (s.left-(dS l n i s).1:Nat)):=p 7 _ (by unfold cX; simp only[go_sem]);have g8:E 8=some (.int .i64 i):=p 8 _ (by unfold cX; simp only[go_sem]);obtain⟨rs,z1,z2,z3,z4,z5⟩:=V.frz 3 rfl;have y1:=z4 0 _ (by decide) rfl;have y2:=z4 1 _ (by decide) rfl;have y3:=z4 2 _ (by decide) rfl;simp only at y1 y2 y3;have y4:=T.frz q 3 rs;simp only[go_sem,O7,g8,wZz i];refine Ap (i+1,d,u,e,H4.frz q 3 rs) z1 ⟨hlt,?_⟩ (by simp only; omega) ?_ b_
  ·rw[A];have eB:(rE o o4 o6 v d u e (dT l i (eY l n i (dS l n i s).2).2 n).2).map (fun b=>(b.1,b.2.frz q 3 rs))=rE o o4 o6 v d u e (dT l i (eY l n i (dS l n i s).2).2 n).2:=by simp only[a8X,a9R,cG.frz,y1,y2,y3,y4];rfl
   have eL:([(d,3,fX (s.start++[mkT ((dS l n i s).1:Nat) 8])),(u,1,uI s.a6C++[[.osl q 3 0 n]]),(e,3,fX (s.exit++[(eY l n i (dS l n i s).2).1]))]:List LI).map (fun x=>(x.1,x.2.1,x.2.2.map fun r=>r.map (PV.dE q 3 rs))) =
     uV ⟨s.start++[mkT ((dS l n i s).1:Nat) 8],s.exit++[(eY l n i (dS l n i s).2).1],s.a6C++[(dT l i (eY l n i (dS l n i s).2).2 n).1],s.left-(dS l n i s).1,(dT l i (eY l n i (dS l n i s).2).2 n).2⟩ d u e:=by
    have e2:(uI s.a6C++[[PV.osl q 3 0 n]]).map (fun r=>r.map (PV.dE q 3 rs))=uI (s.a6C++[(dT l i (eY l n i (dS l n i s).2).2 n).1]):=by rw[a8I,Cs,a8X,a9R,a8X,a9R,z2,avR]
    show ([(d,3,(fX (s.start++[mkT ((dS l n i s).1:Nat) 8])).map (fun r=>r.map (PV.dE q 3 rs))),(u,1,(uI s.a6C++[[PV.osl q 3 0 n]]).map (fun r=>r.map (PV.dE q 3 rs))),(e,3,(fX (s.exit++[(eY l n i (dS l n i s).2).1])).map (fun r=>r.map (PV.dE q 3 rs)))]:List LI)=_;rw[HV,e2,HV]
   rw[← eB,← eL];exact z5.sub (by rw[a8I]; exact List.sublist_append_left ..) (a9M.refl _)
  ·rw[A]
   (repeat' (first|exact c_|refine d_ ?_ ?_))<;>first|(simp only[go_sem,g0,g4,g5,g6,g7,g8]<;>rfl)|rfl
 ·have y:¬ (i:Int)<(n:Nat):=Om;have:i=n:=Om;subst this;simp only[go_sem,y,O8];have b4:=B.at 1 rfl;have b6:=B.at 2 rfl;have osl:∀ {w:PV} {z:Nat} {rows:List (List PV)},rows.length=i→bQ H0 z w rows→∃ q,w=.osl q z 0 i:=by
   intro w z rows hr hO;rcases hO with ⟨F,_⟩ | ⟨q,rs,F,_⟩
   ·rw[F] at hr; simp at hr; omega
   ·exact⟨q,by rw[F,hr]⟩
  obtain⟨q1,rfl⟩:=osl (by rw[mF,k3]) (B.own 0 rfl);obtain⟨q2,rfl⟩:=osl (by rw[a7I,k5]) (B.own 1 rfl);obtain⟨q3,rfl⟩:=osl (by rw[mF,k4]) (B.own 2 rfl);have hR:=Y (fS l i b i) rfl;simp only[go_sem,b6,b4,a7V,a8E,or_false,forall_eq,forall_eq_or_imp];have x1:=B.set 1 rfl (ay (.osl q1 3 0 i) (.osl q2 1 0 i) (.osl q3 3 0 i));obtain⟨r1,s1,s2,s3,s4,s5⟩:=x1.frz 0 rfl;have u2:=s4 1 _ (by decide) rfl;have u3:=s4 2 _ (by decide) rfl;simp only at u2 u3;have u4:=T.frz q1 3 r1;obtain⟨r2,t1,t2,t3,t4,t5⟩:=s5.frz 0 rfl;have m3:=t4 1 _ (by decide) rfl;simp only at m3;have m4:=T.frz q2 1 r2;obtain⟨r3,n1,n2,n3,n4,n5⟩:=t5.frz 0 rfl;have n4:=T.frz q3 3 r3;refine yQ (vs:=[.agg [.str [],.osl q1 3 0 i,.osl q2 1 0 i,.osl q3 3 0 i]]) (.inr rfl) ?_ (.step s1 (.step t1 (.step n1 (.done (H2:=PH.nil.set o (bO v (fS l i b i).a)) ?_ (PH.aK a_ ?_)))))
  ·simp only[go_sem]
  ·rw[W,hR];refine⟨?_,rfl⟩;simp only[bP,PV.frz,PV.sP,a8X,a9R,s2,u2,u3,t2,m3,n2];simp only[PV.dE,HV _ _ _ _,Cs _ _ _ _]
  ·have:=n5.at 0 rfl;rw[this];simp only[cG.frz,a8X,a9R,u4,m4,n4];rfl
structure mA (C:Ctx):Prop extends qV C where
 law:∀ (l:List Nat) (v:PV),Tp l v→∀ (o dZ a:Nat),0<dZ→dZ≤50→a≤l.length→aH C 2 [.ptr o 2 0 0,.int .i64 dZ] (PH.nil.set o (bO v a)) (aDE l v o dZ a)
structure GOk (l:List Nat) (a5X:Nat) (s:GS):Prop where
 a6G:s.a6G.length≤35
 a6Q:s.a6Q.length≤a5X
 a:s.a≤l.length
theorem ZT {l:List Nat} {mc a5X dom:Nat} {s:GS} (h:GOk l a5X s):∀ i,GOk l a5X (jO l mc a5X dom s i)∧(jO l mc a5X dom s i).a6G=s.a6G
 | 0=>⟨h,rfl⟩
 | i+1=>by
  obtain⟨⟨c,p,d⟩,e⟩:=ZT (mc:=mc) (dom:=dom) h i;simp only[jO];split
  ·exact⟨⟨c,by simp only[a7Q,a7U]; omega,bT l mc d⟩,e⟩
  ·exact⟨⟨c,p,d⟩,e⟩
theorem Yc {l:List Nat} {level dom a5X:Nat} {s:GS} (h:GOk l a5X s) (c:qD a5X s=false):GOk l a5X (nA l level dom s)∧∃ x:cD,(nA l level dom s).a6G=s.a6G++[x]∧x.level=(level:Int)∧x.parent=(dom:Int):=by
 obtain⟨i,d,e⟩:=h;unfold qD at c;rw[Bool.or_eq_false_iff] at c;have p:=of_decide_eq_false c.2;refine⟨⟨?_,d,?_⟩,_,rfl,rfl,rfl⟩
 ·simp only[nA,a7Q,a7U]; omega
 ·have a1:=bT l 3 (bT l 16 e);simp only[nA];split
  ·exact bT l 6 a1
  ·exact a1
theorem ZU {l:List Nat} {level a5X dom:Nat} {rec:Nat→GS→GS} (c:∀ d t,GOk l a5X t→GOk l a5X (rec d t)∧∃ u,(rec d t).a6G=t.a6G++u) {s:GS} (h:GOk l a5X s) :
  ∀ i,GOk l a5X (gD l level a5X dom rec s i)∧∃ u,(gD l level a5X dom rec s i).a6G=s.a6G++u
 | 0=>⟨h,[],by simp[gD]⟩
 | i+1=>by
  obtain⟨e,u,p⟩:=ZU c h i;simp only[gD];split
  ·exact⟨e,u,p⟩
  ·rename_i q;obtain⟨g1,x,g2,-⟩:=Yc (level:=level) (dom:=dom) e (by simpa using q);obtain⟨k1,w,k2⟩:=c ((nA l level dom (gD l level a5X dom rec s i)).a6G.length-1) _ g1;exact⟨k1,u++[x]++w,by rw[k2,g2,p]; simp⟩
theorem ZV {l:List Nat} {mc a5X:Nat}:∀ (k dom:Nat) {s:GS},GOk l a5X s→GOk l a5X (eR l mc a5X k dom s)∧∃ u,(eR l mc a5X k dom s).a6G=s.a6G++u
 | 0,dom,s,h=>by have c:GOk l a5X { s with a:=(aG l 2 s.a).2 }:=⟨h.a6G,h.a6Q,bT l 2 h.a⟩;obtain⟨e,i⟩:=ZT (mc:=mc) (dom:=dom) c (1+(aG l 2 s.a).1);exact⟨e,[],by simp only[eR]; rw[i]; simp⟩
 | k+1,dom,s,h=>by have c:GOk l a5X { s with a:=(aG l 2 s.a).2 }:=⟨h.a6G,h.a6Q,bT l 2 h.a⟩;exact ZU (level:=4-k) (dom:=dom) (fun d t p=>ZV k d p) c (if 4-k=2 then 1 else 1+(aG l 2 s.a).1)
theorem akR {l : List Nat} {level a5X dom : Nat} {rec : Nat → GS → GS} {s : GS} {i : Nat} (h : qD a5X (gD l level a5X dom rec s i) = true) : ∀ n, i ≤ n → gD l level a5X dom rec s n = gD l level a5X dom rec s i := by
  intro n hn
  induction n with
  | zero => have : i = 0 := Om
            subst this; rfl
  | succ n ih =>
    rcases a8F n i with h' | h'
    · have : i = n + 1 := Om
      subst this; rfl
    · have e := ih h'
      simp only [gD];rw [e, if_pos h]
def mkS (l:List Nat) (v:PV):Spec:=fun name vs=>match name,vs with
 | 29,[.str s,.int _ i]=>some ([],fun _=>aF (.str (s++bZ i.toNat)))
 | 47,[.int _ n]=>some ([],fun _=>aF (.agg (mkT n 1).cells))
 | 4,[.ptr o _ _ _,.int _ n]=>some ([o],fun c r H'=>∀ a,c o=some (bO v a)→fm l v o n.toNat a r H')
 | _,_=>none
section
variable {C:Ctx} {F:PF} {H Hs:PH} {l:List Nat} {v:PV} {o a:Nat}
theorem rJ (q:AU C) (T:Tp l v) {n:Nat} {st:Bool} {args:List aP} {d:Option Nat} {K:PF→PH→Prop} (A:n≤1000000) (u:a≤l.length) (e:aP.evs F args=some [.ptr o 2 0 0,.int .i64 n]) (B:H o=some (bO v a))
  (i:Hs.le (H.set o (bO v (aG l n a).2))) (w:K (F.put d (.int .i64 ((aG l n a).1:Nat))) (H.set o (bO v (aG l n a).2))):dOp C Hs (mkS l v) st (.call 4 args) d K F H:=by
 refine aEP (x:=bO v a) (y:=bO v (aG l n a).2) (r:=.int .i64 ((aG l n a).1:Nat)) (R:=fun p r H'=>∀ a,p o=some (bO v a)→fm l v o n a r H') rfl B (q.next l v T o n a A u) ?_ ?_ e i w
 ·intro b c;rw[cQ] at c;injection c with c
  injection c with _ c
  injection c with c _
  injection c with _ c
  injection c with c _
  injection c with _ c
  have:a=b:=Om;subst this;exact⟨rfl,rfl⟩
 ·intro J H' E;exact E a (by rw[cQ])
theorem HI (i:qV C) {s:List UInt8} {n:Nat} {st:Bool} {args:List aP} {d:Option Nat} {K:PF→PH→Prop} (u:s.length≤100) (q:n<100) (c:aP.evs F args=some [.str s,.int .i64 n]) (e:Hs.le H) (p:K (F.put d (.str (s++bZ n))) H) :
  dOp C Hs (mkS l v) st (.call 29 args) d K F H :=
 bN (v:=.str (s++bZ n)) rfl (i.name s n u q) c e p
theorem aOQ (i:AU C) {n:Int} {st:Bool} {args:List aP} {d:Option Nat} {K:PF→PH→Prop} (q:dB n) (c:aP.evs F args=some [.int .i64 n]) (e:Hs.le H) (p:K (F.put d (.agg (mkT n 1).cells)) H) :
  dOp C Hs (mkS l v) st (.call 47 args) d K F H :=
 bN (v:=.agg (mkT n 1).cells) rfl (i.int n q) c e p
end
theorem bQ.sS {H:PH} {s:Nat} {v:PV} {rows:List (List PV)} (h:bQ H s v rows):PV.sS v=some (.int .i64 (rows.length:Nat)):=by
 rcases h with ⟨rfl,rfl⟩ | ⟨q,rs,rfl,_⟩<;>rfl
abbrev jY (l:List cD):List (List PV):=l.map cD.cells
abbrev mE (l:List dH):List (List PV):=l.map dH.cells
abbrev flB (ext wl d c e wp wv:PV):cG:=.rows 7 [[ext,wl,d,c,e,wp,wv]]
structure GE where
 o:Nat
 fo:Nat
 qm:Nat
 ext:PV
 wl:PV
 wp:PV
 wv:PV
abbrev GE.boxes (G:GE) (v:PV) (mc:Nat) (c d:PV) (a:Nat):List BX:=[(G.o,bO v a),(G.fo,flB G.ext G.wl (.osl G.qm 4 0 mc) c d G.wp G.wv)]
abbrev lL (s:GS) (c d:PV):List LI:=[(c,7,jY s.a6G),(d,3,mE s.a6Q)]
def eZ (G:GE) (dom a5X level n i:Nat):PF:=(((((((PF.nil.set 0 (.ptr G.o 2 0 0)).set 1 (.ptr G.fo 7 0 0)).set 2 (.int .i64 dom)).set 3 (.int .i64 a5X)).set 8 (.int .i64 level)).set 9 (.int .i64 n)).set 10 (.int .i64 i))
theorem bQ.one {H:PH} {s:Nat} {v:PV} {rows:List (List PV)} (h:bQ H s v rows) (c:0<rows.length):∃ q,v=.osl q s 0 rows.length:=by
 rcases h with ⟨rfl,_⟩ | ⟨q,rs,rfl,_⟩
 ·simp at c
 ·exact⟨q,rfl⟩
theorem Ou {C:Ctx} (Q:mA C) {l:List Nat} {v:PV} (T:Tp l v) (G:GE) (mc a5X dom n:Nat) (γ:0<mc) (W:mc≤1000) (β:a5X≤60) (hn:n≤10) (s:GS) (hs:GOk l a5X s) (p w:PV) (K:bR) (F:PF) (H:PH)
  (Z:(eZ G dom a5X 5 n 0).le F) (u:aN H (G.boxes v mc p w s.a) (lL s p w))
  (hK:∀ E y X H',aN H' (G.boxes v mc E y (jO l mc a5X dom s n).a) (lL (jO l mc a5X dom s n) E y)→K (.exit 0) X H') :
  aC.wp C (.loop vW) K F H:=by
 refine wp_loop (α:=Nat × PV × PV × PH) (fun t=>eZ G dom a5X 5 n t.1) (fun t=>t.2.2.2) (fun t=>t.1≤n∧aN t.2.2.2 (G.boxes v mc t.2.1 t.2.2.1 (jO l mc a5X dom s t.1).a) (lL (jO l mc a5X dom s t.1) t.2.1 t.2.2.1)) (fun t=>n-t.1) (0,p,w,H) ⟨a7P _,u⟩ Z b_ ?_;rintro⟨i,p,w,O⟩ ⟨hi,u⟩;simp only at hi u ⊢;obtain⟨M,-⟩:=ZT (mc:=mc) (dom:=dom) hs i;have c:jO l mc a5X dom s (i+1)=(if (jO l mc a5X dom s i).a6Q.length<a5X then { jO l mc a5X dom s i with a6Q:=(jO l mc a5X dom s i).a6Q++[⟨[100]++bZ (jO l mc a5X dom s i).a6Q.length,((aG l mc (jO l mc a5X dom s i).a).1:Nat),(dom:Nat)⟩],a:=(aG l mc (jO l mc a5X dom s i).a).2 } else jO l mc a5X dom s i):=rfl;simp only[go_sem,vW,bd,eZ];by_cases hlt:i<n
 ·have d:(i:Int)<(n:Nat):=Om;generalize hg:jO l mc a5X dom s i=g at *
  have b1:=u.at 1 rfl;have N:=(u.own 1 rfl).sS;rw[a7I] at N;have R:=wZz i;simp only[go_sem,d,be,show (((5:Nat):Int)==5)=true from rfl,O0,b1,N];by_cases V:g.a6Q.length<a5X
  ·have x:(g.a6Q.length:Int)<(a5X:Nat):=Om;rw[if_pos V] at c;simp only[go_sem,x];have B:(PH.nil.set G.fo (flB G.ext G.wl (.osl G.qm 4 0 mc) p w G.wp G.wv)).le O:=PH.aK a_ b1;refine bW (PH.nil.set G.fo (flB G.ext G.wl (.osl G.qm 4 0 mc) p w G.wp G.wv)) (mkS l v) B ?_;simp only[go_sem,O1,b1,N];refine HI Q.toqV (s:=[100]) (n:=g.a6Q.length) (by decide) (by have:=M.a6Q; omega) rfl B ?_;simp only[go_sem];have ho:=u.at 0 rfl;have S:=u.set 0 rfl (bO v (aG l mc g.a).2);have J:=S.at 1 rfl;refine rJ Q.toAU T (o:=G.o) (n:=mc) (a:=g.a) Om M.a rfl ho (PH.aK a_ J) ?_;have A:(1:Nat)*3≤16777216:=by decide
   simp only[go_sem,A,a7V,a8E,or_false,forall_eq,forall_eq_or_imp];refine S.append 1 (src:=[(⟨[100]++bZ g.a6Q.length,((aG l mc g.a).1:Nat),(dom:Nat)⟩:dH).cells]) rfl rfl (by unfold roomFor; rw[a7I]; have:=M.a6Q; simp only[a7U,maxLen]; omega) fun y H2 U hw=>?_;obtain⟨q,rfl⟩:=hw (by simp);have b2:=U.at 1 rfl;refine⟨PH.aK a_ b2,?_⟩;refine bW .nil eT a_ ?_;simp only[go_sem,O2,b2,a7V,a8E,or_false,forall_eq];have Y:=U.set 1 rfl (flB G.ext G.wl (.osl G.qm 4 0 mc) p (.osl q 3 0 (mE g.a6Q++[(⟨[100]++bZ g.a6Q.length,((aG l mc g.a).1:Nat),(dom:Nat)⟩:dH).cells]).length) G.wp G.wv);refine⟨a_,?_⟩;simp only[go_sem,vX,R];refine aD (i+1,p,.osl q 3 0 (mE g.a6Q++[(⟨[100]++bZ g.a6Q.length,((aG l mc g.a).1:Nat),(dom:Nat)⟩:dH).cells]).length,_) ⟨hlt,?_⟩ (by simp only; omega) ?_ b_
   ·rw[c];have e:mE (g.a6Q++[(⟨[100]++bZ g.a6Q.length,((aG l mc g.a).1:Nat),(dom:Nat)⟩:dH)])=mE g.a6Q++[(⟨[100]++bZ g.a6Q.length,((aG l mc g.a).1:Nat),(dom:Nat)⟩:dH).cells]:=by simp[mE]
    unfold lL;simp only;rw[e];exact Y
   ·exact Lq
  ·have x:¬ (g.a6Q.length:Int)<(a5X:Nat):=Om;rw[if_neg V] at c;simp only[go_sem,x,vX,R];refine aD (i+1,p,w,O) ⟨hlt,by rw[c]; exact u⟩ (by simp only; omega) ?_ b_;exact Lq
 ·have d:¬ (i:Int)<(n:Nat):=Om;have:i=n:=Om;subst this;simp only[go_sem,d];exact hK p w _ _ u
def aiO (G:GE) (v:PV) (mc:Nat) (s':GS) (r:PV) (B':List BX) (L':List LI):Prop:=r=.tup []∧∃ c d,B'=G.boxes v mc c d s'.a∧L'=lL s' c d
def fi (C:Ctx) (l:List Nat) (v:PV) (mc a5X k:Nat):Prop :=
 ∀ (G:GE) (d e:PV) (s:GS) (dom:Nat) (x:cD),GOk l a5X s→s.a6G[dom]?=some x→x.level=4-(k:Int)→∀ c,aN c (G.boxes v mc d e s.a) (lL s d e) →
  aH C 7 [.ptr G.o 2 0 0,.ptr G.fo 7 0 0,.int .i64 dom,.int .i64 a5X] c (fun r H'=>∃ B' L',aiO G v mc (eR l mc a5X k dom s) r B' L'∧aN H' B' L')
theorem atF {lv:Nat} (h:lv≤4):([45,115,114,107,109]:List UInt8)[lv]?=some (kY lv):=by
 match lv,h with
 | 0,_=>rfl
 | 1,_=>rfl
 | 2,_=>rfl
 | 3,_=>rfl
 | 4,_=>rfl
theorem WH {C:Ctx} {l:List Nat} {v:PV} (G:GE) (mc a5X dom lv n i k p:Nat) (β:lv=4-k) (hk:k<4) (w:fi C l v mc a5X k) (g:GS) (x:cD) (a:Nat) (U:GOk l a5X { g with a6G:=g.a6G++[x],a:=a }) (hx:x.level=(lv:Nat)) (V u:PV) (α:a5X≤60) (K:bR) (F:PF) (H:PH)
  (c:(eZ G dom a5X lv n i).le F) (f11:F 11=some (.ptr p 7 0 0)) (E:aN H (G.boxes v mc V u a++[(p,.rows 7 [x.cells])]) (lL g V u))
  (hK:∀ d y R H',(eZ G dom a5X lv n i).le R→aN H' (G.boxes v mc d y (eR l mc a5X k g.a6G.length { g with a6G:=g.a6G++[x],a:=a }).a) (lL (eR l mc a5X k g.a6G.length { g with a6G:=g.a6G++[x],a:=a }) d y)→K .normal R H') :
  aC.wp C (.draw QM) (gG C (aC.wp C (.region QN)) K) F H:=by
 have f0:F 0=some (.ptr G.o 2 0 0):=c 0 _ (by unfold eZ; simp only[go_sem]);have f1:F 1=some (.ptr G.fo 7 0 0):=c 1 _ (by unfold eZ; simp only[go_sem]);have f2:F 2=some (.int .i64 dom):=c 2 _ (by unfold eZ; simp only[go_sem]);have f3:F 3=some (.int .i64 a5X):=c 3 _ (by unfold eZ; simp only[go_sem]);have f8:F 8=some (.int .i64 lv):=c 8 _ (by unfold eZ; simp only[go_sem]);have f9:F 9=some (.int .i64 n):=c 9 _ (by unfold eZ; simp only[go_sem]);have Z:F 10=some (.int .i64 i):=c 10 _ (by unfold eZ; simp only[go_sem]);have N:=U.a6G;simp only[a7Q,a7U] at N;have b1:=E.at 1 rfl;have b2:=E.at 2 rfl;have A:(1:Nat)*7≤16777216:=by decide
 refine bW .nil eT a_ ?_;simp only[go_sem,QM,f1,f11,b1,b2,A,a7V,a8E,or_false,forall_eq,forall_eq_or_imp];refine E.append 0 (src:=[x.cells]) rfl rfl (by unfold roomFor; rw[a7I]; simp only[a7U,maxLen]; omega) fun d H2 B hw=>?_;obtain⟨q,rfl⟩:=hw (by simp);have hl:(jY g.a6G++[x.cells]).length=g.a6G.length+1:=by simp
 rw[hl] at B ⊢;have X:=B.at 1 rfl;refine⟨a_,?_⟩;simp only[go_sem,X,a7V,a8E,or_false,forall_eq];have S:=B.set 1 rfl (flB G.ext G.wl (.osl G.qm 4 0 mc) (.osl q 7 0 (g.a6G.length+1)) u G.wp G.wv);have c2:=S.at 1 rfl;refine⟨a_,?_⟩;have e:jY (g.a6G++[x])=jY g.a6G++[x.cells]:=by simp[jY]
 have Y:IntKind.i64.wrap (((g.a6G.length+1:Nat):Int)-1)=(g.a6G.length:Int):=by rw[wrap_i64 Om Om]; omega
 simp only[go_sem,QN,f0,f1,f3,Y];have h4:aN (H2.set G.fo (flB G.ext G.wl (.osl G.qm 4 0 mc) (.osl q 7 0 (g.a6G.length+1)) u G.wp G.wv)) (G.boxes v mc (.osl q 7 0 (g.a6G.length+1)) u a++[(p,.rows 7 [x.cells])]) (lL { g with a6G:=g.a6G++[x],a:=a } (.osl q 7 0 (g.a6G.length+1)) u++[]):=by unfold lL;simp only;rw[e];exact S
 refine ET h4 (fun W M=>w G _ u { g with a6G:=g.a6G++[x],a:=a } g.a6G.length x U (by simp) (by rw[hx]; omega) W M) rfl ?_;rintro r B' L' H' ⟨rfl,O,Q,rfl,rfl⟩ J;refine hK O Q _ _ ?_ (J.sub (List.sublist_append_left ..) (by rw[a9I]; exact a9M.refl _));unfold eZ;exact Lq
theorem NO {C:Ctx} (S:mA C) {l:List Nat} {v:PV} (T:Tp l v) (G:GE) (mc a5X dom n k:Nat) (hk:k<4) (V:a5X≤60) (hn:n≤10) (O:fi C l v mc a5X k) (s:GS) (hs:GOk l a5X s) (ε:0<s.a6G.length) (M N:PV) (K:bR) (F:PF) (H:PH)
  (hF:(eZ G dom a5X (4-k) n 0).le F) (A:aN H (G.boxes v mc M N s.a) (lL s M N))
  (Y:∀ e x y w H',(e=.exit 0∨e=.ret)→aN H' (G.boxes v mc x y (gD l (4-k) a5X dom (eR l mc a5X k) s n).a) (lL (gD l (4-k) a5X dom (eR l mc a5X k) s n) x y)→K e w H') :
  aC.wp C (.loop vW) K F H:=by
 obtain⟨lv,R⟩:∃ lv,lv=4-k:=⟨_,rfl⟩;rw[← R] at hF Y;refine wp_loop (α:=Nat × PV × PV × PH) (fun t=>eZ G dom a5X lv n t.1) (fun t=>t.2.2.2) (fun t=>t.1≤n∧aN t.2.2.2 (G.boxes v mc t.2.1 t.2.2.1 (gD l lv a5X dom (eR l mc a5X k) s t.1).a) (lL (gD l lv a5X dom (eR l mc a5X k) s t.1) t.2.1 t.2.2.1)) (fun t=>n-t.1) (0,M,N,H) ⟨a7P _,A⟩ hF b_ ?_;rintro⟨i,M,N,H0⟩ ⟨hi,A⟩;simp only at hi A ⊢;obtain⟨X,u,gu⟩:=ZU (level:=lv) (dom:=dom) (fun d t ht=>ZV (mc:=mc) k d ht) hs i;have E:=fun h=>akR (l:=l) (level:=lv) (a5X:=a5X) (dom:=dom) (rec:=eR l mc a5X k) (s:=s) (i:=i) h n hi;have q:gD l lv a5X dom (eR l mc a5X k) s (i+1)=(if qD a5X (gD l lv a5X dom (eR l mc a5X k) s i) then gD l lv a5X dom (eR l mc a5X k) s i else eR l mc a5X k ((nA l lv dom (gD l lv a5X dom (eR l mc a5X k) s i)).a6G.length-1) (nA l lv dom (gD l lv a5X dom (eR l mc a5X k) s i))):=rfl;simp only[go_sem,vW,bd,eZ];by_cases hlt:i<n
 ·have J:(i:Int)<(n:Nat):=Om;generalize hg:gD l lv a5X dom (eR l mc a5X k) s i=g at *
  have δ:0<g.a6G.length:=by rw[gu,a7Q]; omega
  have b1:=A.at 1 rfl;have lr:=(A.own 1 rfl).sS;have ld:=(A.own 0 rfl).sS;rw[a7I] at lr ld;have ei:=wZz i;simp only[go_sem,J,be,bF (Om:((lv:Nat):Int)≠5),A5,b1,lr];by_cases c1:a5X≤g.a6Q.length
  ·have U:qD a5X g=true:=by unfold qD; simp[c1]
   simp only[go_sem,show (g.a6Q.length:Int)≥(a5X:Nat) by omega];exact Y _ M N _ _ (.inr rfl) (by rw[E U]; exact A)
  simp only[go_sem,show ¬ (g.a6Q.length:Int)≥(a5X:Nat) by omega,b1,ld];by_cases c2:35≤g.a6G.length
  ·have U:qD a5X g=true:=by unfold qD; simp[c2]
   simp only[go_sem,show (g.a6G.length:Int)≥35 by omega];exact Y _ M N _ _ (.inr rfl) (by rw[E U]; exact A)
  have U:qD a5X g=false:=by unfold qD; simp[c1,c2]
  rw[if_neg (by rw[U]; decide)] at q;simp only[go_sem,show ¬ (g.a6G.length:Int)≥35 by omega];have ls:=atF (Om:lv≤4);refine bW .nil (mkS l v) a_ ?_;have β:pI [[PV.int IntKind.u8 (((kY lv).toNat:Nat):Int)]]=some [kY lv]:=by simp[pI]
  obtain⟨W,x0,Z,-⟩:=Yc (level:=lv) (dom:=dom) X U;have γ:(nA l lv dom g).a6G.length-1=g.a6G.length:=by rw[Z]; simp
  rw[γ] at q;have h1:=A.set 0 rfl (bO v (aG l 16 g.a).2);have a1:=bT l 16 X.a;have n1:=cJ l (show 0<16 by decide) g.a;have e1:IntKind.i64.wrap (1+((aG l 16 g.a).1:Int))=((1+(aG l 16 g.a).1:Nat):Int):=by rw[wrap_i64 Om Om]; omega
  simp only[go_sem,A6,ls,β,b1,ld];refine HI S.toqV (s:=[kY lv]) (n:=g.a6G.length) (by simp) (by have:=X.a6G; omega) rfl a_ ?_;simp only[go_sem];refine rJ S.toAU T (o:=G.o) (n:=16) (a:=g.a) Om X.a rfl (A.at 0 rfl) a_ ?_;simp only[go_sem,e1];refine aOQ S.toAU (n:=0) (by unfold dB; omega) rfl a_ ?_;simp only[go_sem,a7V,a8E,or_false,forall_eq,forall_eq_or_imp];refine aR fun p hp=>?_;have h2:=h1.new hp (.rows 7 [(⟨[kY lv]++bZ g.a6G.length,(lv:Nat),(dom:Nat),(1+(aG l 16 g.a).1:Nat),jP⟩:cD).cells]);simp only[go_sem,a7V,a8E,or_false,forall_eq,forall_eq_or_imp];refine⟨a_,?_⟩;simp only[go_sem,A7];refine dM S.toAU T (o:=G.o) (n:=3) (a:=(aG l 16 g.a).2) (by decide) a1 rfl (h2.at 0 rfl) ?_;have h3:=h2.set 0 rfl (bO v (aG l 3 (aG l 16 g.a).2).2);have a2:=bT l 3 a1;by_cases c3:(aG l 3 (aG l 16 g.a).2).1=0
  ·have hd:nA l lv dom g={ g with a6G:=g.a6G++[⟨[kY lv]++bZ g.a6G.length,(lv:Nat),(dom:Nat),(1+(aG l 16 g.a).1:Nat),mkT 1 ((2+(aG l 6 (aG l 3 (aG l 16 g.a).2).2).1:Nat):Int)⟩],a:=(aG l 6 (aG l 3 (aG l 16 g.a).2).2).2 }:=by unfold nA; simp only[c3,if_true]
   rw[hd] at q W;have n2:=cJ l (show 0<6 by decide) (aG l 3 (aG l 16 g.a).2).2;have e2:IntKind.i64.wrap (2+((aG l 6 (aG l 3 (aG l 16 g.a).2).2).1:Int))=((2+(aG l 6 (aG l 3 (aG l 16 g.a).2).2).1:Nat):Int):=by rw[wrap_i64 Om Om]; omega
   simp only[go_sem,bL (show (((aG l 3 (aG l 16 g.a).2).1:Nat):Int)=0 by omega),A8];refine dM S.toAU T (o:=G.o) (n:=6) (a:=(aG l 3 (aG l 16 g.a).2).2) (by decide) a2 rfl (h3.at 0 rfl) ?_;have h4:=h3.set 0 rfl (bO v (aG l 6 (aG l 3 (aG l 16 g.a).2).2).2);rw[PH.set_set] at h4;simp only[go_sem,e2];refine aA (S.fmk 1 ((2+(aG l 6 (aG l 3 (aG l 16 g.a).2).2).1:Nat):Int) (by unfold dB; omega) (by unfold dB; omega)) rfl ?_;unfold wA;rw[if_neg Om];simp only[go_sem,show ¬ p=G.o from h4.ne 2 0 rfl rfl (by decide)];have h5:=h4.set 2 rfl (.rows 7 [(⟨[kY lv]++bZ g.a6G.length,(lv:Nat),(dom:Nat),(1+(aG l 16 g.a).1:Nat),mkT 1 ((2+(aG l 6 (aG l 3 (aG l 16 g.a).2).2).1:Nat):Int)⟩:cD).cells])
   try simp only[xj]
   refine WH G mc a5X dom lv n i k p R hk O g _ _ W rfl M N V _ _ _ (by unfold eZ; exact Lq) rfl h5 ?_;intro x y w H' c B;rw[← q] at B;have Q:w 10=some (.int .i64 i):=c 10 _ (by unfold eZ; simp only[go_sem]);have g0:w 0=some (.ptr G.o 2 0 0):=c 0 _ (by unfold eZ; simp only[go_sem]);have g1:w 1=some (.ptr G.fo 7 0 0):=c 1 _ (by unfold eZ; simp only[go_sem]);have g2:w 2=some (.int .i64 dom):=c 2 _ (by unfold eZ; simp only[go_sem]);have g3:w 3=some (.int .i64 a5X):=c 3 _ (by unfold eZ; simp only[go_sem]);have g8:w 8=some (.int .i64 lv):=c 8 _ (by unfold eZ; simp only[go_sem]);have g9:w 9=some (.int .i64 n):=c 9 _ (by unfold eZ; simp only[go_sem]);simp only[go_sem,vX,Q,ei];refine aD (i+1,x,y,H') ⟨hlt,B⟩ (by simp only; omega) ?_ b_;exact Lq
  ·have hd:nA l lv dom g={ g with a6G:=g.a6G++[⟨[kY lv]++bZ g.a6G.length,(lv:Nat),(dom:Nat),(1+(aG l 16 g.a).1:Nat),jP⟩],a:=(aG l 3 (aG l 16 g.a).2).2 }:=by unfold nA; simp only[c3,if_false]
   rw[hd] at q W;simp only[go_sem,bF (show ¬ (((aG l 3 (aG l 16 g.a).2).1:Nat):Int)=0 by omega)]
   try simp only[xj]
   refine WH G mc a5X dom lv n i k p R hk O g _ _ W rfl M N V _ _ _ (by unfold eZ; exact Lq) rfl h3 ?_;intro x y w H' c B;rw[← q] at B;have Q:w 10=some (.int .i64 i):=c 10 _ (by unfold eZ; simp only[go_sem]);have g0:w 0=some (.ptr G.o 2 0 0):=c 0 _ (by unfold eZ; simp only[go_sem]);have g1:w 1=some (.ptr G.fo 7 0 0):=c 1 _ (by unfold eZ; simp only[go_sem]);have g2:w 2=some (.int .i64 dom):=c 2 _ (by unfold eZ; simp only[go_sem]);have g3:w 3=some (.int .i64 a5X):=c 3 _ (by unfold eZ; simp only[go_sem]);have g8:w 8=some (.int .i64 lv):=c 8 _ (by unfold eZ; simp only[go_sem]);have g9:w 9=some (.int .i64 n):=c 9 _ (by unfold eZ; simp only[go_sem]);simp only[go_sem,vX,Q,ei];refine aD (i+1,x,y,H') ⟨hlt,B⟩ (by simp only; omega) ?_ b_;exact Lq
 ·have J:¬ (i:Int)<(n:Nat):=Om;have:i=n:=Om;subst this;simp only[go_sem,J];exact Y _ M N _ _ (.inl rfl) A
theorem Ov {C:Ctx} (M:mA C) {l:List Nat} {v:PV} (T:Tp l v) (mc a5X k:Nat) (R:0<mc) (F:mc≤1000) (y:a5X≤60) (hk:k≤4) (J:∀ X,k=X+1→fi C l v mc a5X X) (G:GE) (U K:PV) (s:GS) (dom:Nat) (x:cD)
  (N:GOk l a5X s) (W:s.a6G[dom]?=some x) (hl:x.level=4-(k:Int)) (O:PH) (B:aN O (G.boxes v mc U K s.a) (lL s U K)) :
  xF.wp C (aV lf.res (fun r H'=>∃ B' L',aiO G v mc (eR l mc a5X k dom s) r B' L'∧aN H' B' L')) (PF.args [.ptr G.o 2 0 0,.ptr G.fo 7 0 0,.int .i64 dom,.int .i64 a5X]) O:=by
 have w:dom<s.a6G.length:=(a8R.1 W).1;have b1:=B.at 1 rfl;have fin:∀ (e:kM) (c d:PV) (p:PF) (H':PH),(e=.exit 0∨e=.ret)→aN H' (G.boxes v mc c d (eR l mc a5X k dom s).a) (lL (eR l mc a5X k dom s) c d) →
   eX 0 (aV lf.res (fun r H'=>∃ B' L',aiO G v mc (eR l mc a5X k dom s) r B' L'∧aN H' B' L')) e p H':=by
  intro e c d p H' E i;rcases E with rfl | rfl
  ·rw[CH,if_pos rfl];exact bA (vs:=[]) (.inl rfl) H' rfl b_ ⟨_,_,⟨rfl,c,d,rfl,rfl⟩,i⟩
  ·exact bA (vs:=[]) (.inr rfl) H' rfl b_ ⟨_,_,⟨rfl,c,d,rfl,rfl⟩,i⟩
 obtain⟨q,rs,Z,e2,e3,e4⟩:∃ q rs,U=.osl q 7 0 s.a6G.length∧O q=some (.rows 7 rs)∧s.a6G.length≤rs.length∧rs.take s.a6G.length=jY s.a6G:=by
  rcases B.own 0 rfl with ⟨u,_⟩ | ⟨q,rs,u,h2,h3,h4⟩
  ·have:=congrArg List.length u;rw[a7I] at this;simp at this; rw[this] at w; simp at w
  ·rw[a7I] at u h3 h4;exact⟨q,rs,u,h2,h3,h4⟩
 have S:rs[dom]?=some x.cells:=by
  have:(jY s.a6G)[dom]?=some x.cells:=by simp[jY,W]
  rw[← e4,List.getElem?_take_of_lt w] at this;exact this
 subst Z;have Y:(dom:Int)<(s.a6G.length:Nat):=Om;have ew:IntKind.i64.wrap (x.level+1)=((5-k:Nat):Int):=by rw[hl,wrap_i64 Om Om]; omega
 have β:=cJ l (show 0<2 by decide) s.a;have en:IntKind.i64.wrap (1+((aG l 2 s.a).1:Int))=((1+(aG l 2 s.a).1:Nat):Int):=by rw[wrap_i64 Om Om]; omega
 have u:=B.set 0 rfl (bO v (aG l 2 s.a).2);have A:GOk l a5X { s with a:=(aG l 2 s.a).2 }:=⟨N.a6G,N.a6Q,bT l 2 N.a⟩;have α:¬ q=G.o:=fun h=>B.neL 0 0 rfl rfl rfl h.symm;simp only[go_sem,xF,Ow,b1,Y,e2,S,ew,Ox];refine dM M.toAU T (o:=G.o) (n:=2) (a:=s.a) (by decide) N.a (by simp only[go_sem]; rfl) (B.at 0 rfl) ?_;simp only[go_sem,en,Oy];cases k with
 | zero =>
  simp only[go_sem,bF (Om:¬ ((5-0:Nat):Int)=2),JI];refine Ou (C:=C) M T G mc a5X dom (1+(aG l 2 s.a).1) R F y Om { s with a:=(aG l 2 s.a).2 } A _ K _ _ _ ?_ u ?_
  ·unfold eZ;exact Lq
  ·intro c d p H' i;exact fin _ c d p H' (.inl rfl) i
 | succ k =>
  have H:=J k rfl;by_cases V:4-k=2
  ·have Q:eR l mc a5X (k+1) dom s=gD l (4-k) a5X dom (eR l mc a5X k) { s with a:=(aG l 2 s.a).2 } 1:=by simp only[eR,if_pos V]
   simp only[go_sem,bL (show ((5-(k+1):Nat):Int)=2 by omega),Oz,JI];refine NO (C:=C) M T G mc a5X dom 1 k Om y (by decide) H { s with a:=(aG l 2 s.a).2 } A (by simp only; omega) _ K _ _ _ ?_ u ?_
   ·unfold eZ
    (repeat' (first|exact c_|refine d_ ?_ ?_))<;>first|(simp only[go_sem,show 4-k=5-(k+1) by omega]<;>rfl)|rfl
   ·intro e c d p H' E i;rw[← Q] at i;exact fin e c d p H' E i
  ·have Q:eR l mc a5X (k+1) dom s=gD l (4-k) a5X dom (eR l mc a5X k) { s with a:=(aG l 2 s.a).2 } (1+(aG l 2 s.a).1):=by simp only[eR,if_neg V]
   simp only[go_sem,bF (show ¬ ((5-(k+1):Nat):Int)=2 by omega),JI];refine NO (C:=C) M T G mc a5X dom (1+(aG l 2 s.a).1) k Om y Om H { s with a:=(aG l 2 s.a).2 } A (by simp only; omega) _ K _ _ _ ?_ u ?_
   ·unfold eZ
    (repeat' (first|exact c_|refine d_ ?_ ?_))<;>first|(simp only[go_sem,show 4-k=5-(k+1) by omega]<;>rfl)|rfl
   ·intro e c d p H' E i;rw[← Q] at i;exact fin e c d p H' E i
theorem ZW {C:Ctx} (q:mA C) {l:List Nat} {v:PV} (T:Tp l v) (mc a5X:Nat) (i:0<mc) (c:mc≤1000) (d:a5X≤60)
  (u:∀ (args:List PV) (H:PH) (R:PV→PH→Prop),args.length=4→xF.wp C (aV lf.res R) (PF.args args) H→aH C 7 args H R):∀ k,k≤4→fi C l v mc a5X k
 | 0,h=>fun G E F s dom x A B y p w=>u _ _ _ rfl (Ov q T mc a5X 0 i c d h (fun _ e=>by omega) G E F s dom x A B y p w)
 | k+1,h=>fun G E F s dom x A B y p w=>u _ _ _ rfl (Ov q T mc a5X (k+1) i c d h (fun J e=>by have:J=k:=Om;subst this;exact ZW q T mc a5X i c d u J Om) G E F s dom x A B y p w)
theorem aPZ (l:List Nat) (dZ:Nat) {a:Nat} (h:a≤l.length):(qS l dZ a).2≤l.length:=(u0 l (1+(aG l dZ a).1) (bT l dZ h) (1+(aG l dZ a).1)).1
theorem ba (l:List Nat) {a:Nat} (h:a≤l.length):∀ k,(hM l a k).2≤l.length∧(hM l a k).1.length=k
 | 0=>⟨h,rfl⟩
 | k+1=>by obtain⟨c,d⟩:=ba l h k;exact⟨aPZ l 2 c,by simp only[hM,a7Q,a7U,d]⟩
theorem JO (l:List Nat) (a6E:Nat) {a:Nat} (h:a≤l.length):∀ k,(eI l a6E a k).2≤l.length∧(eI l a6E a k).1.length=k
 | 0=>⟨h,rfl⟩
 | k+1=>by obtain⟨c,d⟩:=JO l a6E h k;exact⟨bT l a6E (bT l 8 (bT l 4 c)),by simp only[eI,a7Q,a7U,d]⟩
structure FE where
 o:Nat
 o6:Nat
 o7:Nat
 a5X:Nat
 a5Z:Nat
abbrev flZ:cG:=flB (.int .i64 0) .aB .aB .aB .aB .aB .aB
abbrev FE.boxes (E:FE) (v ext c d e i l p:PV) (a:Nat):List BX:=[(E.o,bO v a),(E.o7,flB ext c d e i l p),(E.o6,flZ)]
def fP (E:FE):PF:=(((((PF.nil.set 0 (.ptr E.o 2 0 0)).set 1 (.int .i64 E.a5X)).set 2 (.int .i64 E.a5Z)).set 6 (.ptr E.o6 7 0 0)).set 7 (.ptr E.o7 7 0 0))
abbrev gZ (l:List cE):List (List PV):=l.map cE.cells
abbrev jQ (l:List cT):List (List PV):=l.map cT.cells
theorem UX {E:FE} {F:PF} (c:F 0=some (.ptr E.o 2 0 0)) (d:F 1=some (.int .i64 E.a5X)) (e:F 2=some (.int .i64 E.a5Z)) (i:F 6=some (.ptr E.o6 7 0 0)) (h7:F 7=some (.ptr E.o7 7 0 0)):(fP E).le F :=
 d_ (d_ (d_ (d_ (d_ c_ c) d) e) i) h7
theorem aGT {C:Ctx} (N:mA C) {l:List Nat} {v:PV} (T:Tp l v) (E:FE) (n a:Nat) (hn:n≤10) (V:a≤l.length) (ext:PV) (K:bR) (F:PF) (H:PH)
  (S:(((fP E).set 8 (.int .i64 n)).set 9 (.int .i64 0)).le F) (w:aN H (E.boxes v ext .aB .aB .aB .aB .aB .aB a) [])
  (U:∀ A M H',(fP E).le M→aN H' (E.boxes v ext A .aB .aB .aB .aB .aB (hM l a n).2) [(A,4,gZ (hM l a n).1)]→K (.exit 0) M H') :
  aC.wp C (.loop QL) K F H:=by
 refine wp_loop (α:=Nat × PV × PH) (fun t=>((fP E).set 8 (.int .i64 n)).set 9 (.int .i64 t.1)) (fun t=>t.2.2) (fun t=>t.1≤n∧aN t.2.2 (E.boxes v ext t.2.1 .aB .aB .aB .aB .aB (hM l a t.1).2) [(t.2.1,4,gZ (hM l a t.1).1)]) (fun t=>n-t.1) (0,.aB,H) ⟨a7P _,w.nC 4⟩ S b_ ?_;rintro⟨i,A,Y⟩ ⟨hi,w⟩;simp only at hi w ⊢;obtain⟨k1,k2⟩:=ba l V i;have u:hM l a (i+1)=((hM l a i).1++[{ (qS l 2 (hM l a i).2).1 with name:=[108,97,119]++bZ i }],(qS l 2 (hM l a i).2).2):=rfl;simp only[go_sem,QL,A0,fP];by_cases hlt:i<n
 ·have c:(i:Int)<(n:Nat):=Om;generalize Z:hM l a i=g at *
  simp only[go_sem,c,A1];refine mR (N.law l v T E.o 2 g.2 (by decide) (by decide) k1) (w.at 0 rfl) rfl ?_;have Q:=w.set 0 rfl (bO v (qS l 2 g.2).2);generalize hz:qS l 2 g.2=z at *
  simp only[go_sem];refine aR fun p W=>?_;have R:=Q.new W (.rows 4 [z.1.cells]);simp only[go_sem,A2,a7V,a8E,or_false,forall_eq,forall_eq_or_imp];refine aA (N.name [108,97,119] i (by decide) Om) rfl ?_;have x:=R.set 3 rfl (.rows 4 [({ z.1 with name:=[108,97,119]++bZ i }:cE).cells]);rw[PH.set_set] at x;have b1:=x.at 1 rfl;have y:¬ E.o7=p:=x.ne 1 3 rfl rfl (by decide);have d:¬ E.o7=E.o:=x.ne 1 0 rfl rfl (by decide);simp only[aT,if_neg y,if_neg d] at b1;have J:(1:Nat)*4≤16777216:=by decide
  simp only[go_sem,A3,y,d,b1,J,a7V,a8E,or_false,forall_eq,forall_eq_or_imp];refine x.append 0 (src:=[({ z.1 with name:=[108,97,119]++bZ i }:cE).cells]) rfl rfl (by unfold roomFor; rw[a7I]; simp only[a7U,maxLen]; omega) fun w' H2 O X=>?_;obtain⟨q,rfl⟩:=X (by simp);have b2:=O.at 1 rfl;simp only[go_sem,b2,a7V,a8E,or_false,forall_eq];have h5:=O.set 1 rfl (flB ext (.osl q 4 0 (gZ g.1++[({ z.1 with name:=[108,97,119]++bZ i }:cE).cells]).length) .aB .aB .aB .aB .aB);simp only[go_sem,A4,wZz i];refine aD (i+1,.osl q 4 0 (gZ g.1++[({ z.1 with name:=[108,97,119]++bZ i }:cE).cells]).length,_) ⟨hlt,?_⟩ (by simp only; omega) ?_ b_
  ·rw[u];have e:gZ (g.1++[{ z.1 with name:=[108,97,119]++bZ i }])=gZ g.1++[({ z.1 with name:=[108,97,119]++bZ i }:cE).cells]:=by simp[gZ]
   simp only;rw[e];exact h5.dropLast (B:=E.boxes v ext _ .aB .aB .aB .aB .aB z.2)
  ·exact Lq
 ·have c:¬ (i:Int)<(n:Nat):=Om;have:i=n:=Om;subst this;simp only[go_sem,c];exact U A _ _ (UX rfl rfl rfl rfl rfl) w
theorem alN {C:Ctx} (O:mA C) {l:List Nat} {v:PV} (T:Tp l v) (E:FE) (n a nl:Nat) (hn:n≤10) (β:nl≤1000) (ha:a≤l.length) (ext d:PV) (a6E:List cE) (U:a6E.length=nl) (K:bR) (F:PF) (H:PH)
  (hF:(((fP E).set 11 (.int .i64 n)).set 12 (.int .i64 0)).le F) (p:aN H (E.boxes v ext d .aB .aB .aB .aB .aB a) [(d,4,gZ a6E)])
  (hK:∀ A Q H',(fP E).le Q→Q 11=some (.int .i64 n)→aN H' (E.boxes v ext d A .aB .aB .aB .aB (eI l nl a n).2) [(d,4,gZ a6E),(A,4,jQ (eI l nl a n).1)]→K (.exit 2) Q H') :
  aC.wp C (.loop IX) K F H:=by
 refine wp_loop (α:=Nat × PV × PH) (fun t=>((fP E).set 11 (.int .i64 n)).set 12 (.int .i64 t.1)) (fun t=>t.2.2) (fun t=>t.1≤n∧aN t.2.2 (E.boxes v ext d t.2.1 .aB .aB .aB .aB (eI l nl a t.1).2) [(d,4,gZ a6E),(t.2.1,4,jQ (eI l nl a t.1).1)]) (fun t=>n-t.1) (0,.aB,H) ⟨a7P _,p.nC 4⟩ hF b_ ?_;rintro⟨i,A,Z⟩ ⟨hi,p⟩;simp only at hi p ⊢;obtain⟨k1,k2⟩:=JO l nl ha i;have u:eI l nl a (i+1)=((eI l nl a i).1++[⟨[109]++bZ i,(1+(aG l 4 (eI l nl a i).2).1:Nat),(1+(aG l 8 (aG l 4 (eI l nl a i).2).2).1:Nat),((aG l nl (aG l 8 (aG l 4 (eI l nl a i).2).2).2).1:Nat)⟩],(aG l nl (aG l 8 (aG l 4 (eI l nl a i).2).2).2).2):=rfl;simp only[go_sem,IX,kd,fP];by_cases hlt:i<n
 ·have c:(i:Int)<(n:Nat):=Om;generalize hg:eI l nl a i=g at *
  have hx:=cJ l (show 0<4 by decide) g.2;have V:=bT l 4 k1;have hy:=cJ l (show 0<8 by decide) (aG l 4 g.2).2;have W:=bT l 8 V;have az:=bT l nl W;have R:=p.set 0 rfl (bO v (aG l 4 g.2).2);have w:=R.set 0 rfl (bO v (aG l 8 (aG l 4 g.2).2).2);have h3:=w.set 0 rfl (bO v (aG l nl (aG l 8 (aG l 4 g.2).2).2).2);generalize J:aG l 4 g.2=x at *
  generalize M:aG l 8 x.2=y at *
  generalize N:aG l nl y.2=z at *
  have b1:=p.at 1 rfl;have Y:=(p.own 0 rfl).sS;rw[a7I,U] at Y;have B:(PH.nil.set E.o7 (flB ext d A .aB .aB .aB .aB)).le Z:=PH.aK a_ b1;have ex:IntKind.i64.wrap (1+(x.1:Int))=((1+x.1:Nat):Int):=by rw[wrap_i64 Om Om]; omega
  have ey:IntKind.i64.wrap (1+(y.1:Int))=((1+y.1:Nat):Int):=by rw[wrap_i64 Om Om]; omega
  simp only[go_sem,c];refine bW (PH.nil.set E.o7 (flB ext d A .aB .aB .aB .aB)) (mkS l v) B ?_;simp only[go_sem,kf];refine HI O.toqV (s:=[109]) (n:=i) (by decide) Om rfl B ?_;simp only[go_sem];refine rJ O.toAU T (o:=E.o) (n:=4) (a:=g.2) (by decide) k1 rfl (p.at 0 rfl) ?_ ?_
  ·rw[J]; exact PH.aK a_ (R.at 1 rfl)
  rw[J];simp only[go_sem,ex];refine rJ O.toAU T (o:=E.o) (n:=8) (a:=x.2) (by decide) V rfl (R.at 0 rfl) ?_ ?_
  ·rw[M]; exact PH.aK a_ (w.at 1 rfl)
  rw[M];simp only[go_sem,ey,Y];rw[PH.set_set] at w;refine rJ O.toAU T (o:=E.o) (n:=nl) (a:=y.2) Om W rfl (w.at 0 rfl) ?_ ?_
  ·rw[N]; exact PH.aK a_ ((w.set 0 rfl (bO v z.2)).at 1 rfl)
  rw[N];have X:=w.set 0 rfl (bO v z.2);have S:(1:Nat)*4≤16777216:=by decide
  simp only[go_sem,S,a7V,a8E,or_false,forall_eq,forall_eq_or_imp];rw[PH.set_set] at X;refine X.append 1 (src:=[(⟨[109]++bZ i,(1+x.1:Nat),(1+y.1:Nat),(z.1:Nat)⟩:cT).cells]) rfl rfl (by unfold roomFor; rw[a7I]; simp only[a7U,maxLen]; omega) fun w' H2 h5 hw=>?_;obtain⟨q,rfl⟩:=hw (by simp);have b2:=h5.at 1 rfl;refine⟨PH.aK a_ b2,?_⟩;refine bW .nil eT a_ ?_;simp only[go_sem,kg,b2,a7V,a8E,or_false,forall_eq];have h6:=h5.set 1 rfl (flB ext d (.osl q 4 0 (jQ g.1++[(⟨[109]++bZ i,(1+x.1:Nat),(1+y.1:Nat),(z.1:Nat)⟩:cT).cells]).length) .aB .aB .aB .aB);refine⟨a_,?_⟩;simp only[go_sem,kh,wZz i];refine aD (i+1,.osl q 4 0 (jQ g.1++[(⟨[109]++bZ i,(1+x.1:Nat),(1+y.1:Nat),(z.1:Nat)⟩:cT).cells]).length,_) ⟨hlt,?_⟩ (by simp only; omega) ?_ b_
  ·rw[u];have e:jQ (g.1++[⟨[109]++bZ i,(1+x.1:Nat),(1+y.1:Nat),(z.1:Nat)⟩])=jQ g.1++[(⟨[109]++bZ i,(1+x.1:Nat),(1+y.1:Nat),(z.1:Nat)⟩:cT).cells]:=by simp[jQ]
   simp only;rw[e];exact h6
  ·exact Lq
 ·have c:¬ (i:Int)<(n:Nat):=Om;have:i=n:=Om;subst this;simp only[go_sem,c];exact hK A _ _ (UX rfl rfl rfl rfl rfl) rfl p
abbrev wI (x:bS) (w:PV):List PV:=[.str x.name,.int .i64 x.k,.int .i64 x.m,.int .i64 x.a6V,.int .i64 x.s0,.int .i64 x.s1,.int .i64 x.s2,.int .i64 x.s3,.int .i64 x.s4,w,frs x.repair,
 .bool x.target.neg,aJ x.target.num,aJ x.target.den,.bool x.a6H.neg,aJ x.a6H.num,aJ x.a6H.den]
def u6 (E:FE) (mc n i:Nat):PF:=(((fP E).set 11 (.int .i64 mc)).set 13 (.int .i64 n)).set 14 (.int .i64 i)
structure PAt (E:FE) (mc n i:Nat) (F:PF):Prop where
 f0:F 0=some (.ptr E.o 2 0 0)
 f1:F 1=some (.int .i64 E.a5X)
 f2:F 2=some (.int .i64 E.a5Z)
 f6:F 6=some (.ptr E.o6 7 0 0)
 f7:F 7=some (.ptr E.o7 7 0 0)
 f11:F 11=some (.int .i64 mc)
 f13:F 13=some (.int .i64 n)
 f14:F 14=some (.int .i64 i)
def qU (l:List Nat) (a:Nat):Nat→List Int × Nat
 | 0=>([],a)
 | j+1=>let s:=qU l a j
  let t:=gQ l s.2
  (s.1++[t.1],t.2)
theorem tL (l:List Nat) {a:Nat} (h:a≤l.length):(gQ l a).2≤l.length:=by
 unfold gQ;simp only;split
 ·exact bT l 3 (bT l 3 h)
 ·exact bT l 3 h
theorem w9 (l:List Nat) {a:Nat} (h:a≤l.length):∀ j,(qU l a j).2≤l.length∧(qU l a j).1.length=j
 | 0=>⟨h,rfl⟩
 | j+1=>by obtain⟨c,d⟩:=w9 l h j;exact⟨tL l c,by simp only[qU,a7Q,a7U,d]⟩
abbrev qT (pre post:List PV) (s:List Int):List PV:=pre++(s.map fun x=>PV.int .i64 x)++a7M (4-s.length) (.int .i64 0)++post
theorem aSO {pre post:List PV} {s:List Int} (c:pre.length=5) (e:s.length<4) (x:Int):(qT pre post s).set (5+s.length) (.int .i64 x)=qT pre post (s++[x]):=by
 obtain⟨k,d⟩:∃ k,4-s.length=k+1:=⟨3-s.length,by omega⟩;unfold qT;rw[a7Q,a7U,show 4-(s.length+1)=k by omega,d,List.replicate_succ,a8I,a8X,a9R];rw[List.set_append_left _ _ (by simp[c]),baF _ _ (by simp[c])];have:5+s.length-(pre++s.map fun x=>PV.int .i64 x).length=0:=by simp[c]
 rw[this,bbE];simp
theorem aIX {pre post:List PV} {s:List Int} (d:pre.length=5) (e:s.length<4):qT pre post s=qT pre post (s++[0]):=by
 obtain⟨k,c⟩:∃ k,4-s.length=k+1:=⟨3-s.length,by omega⟩;unfold qT;rw[a7Q,a7U,show 4-(s.length+1)=k by omega,c,List.replicate_succ,a8I,a8X,a9R];simp
theorem alO {C:Ctx} (Y:mA C) {l:List Nat} {v:PV} (T:Tp l v) (E:FE) (mc n i a p:Nat) (ha:a≤l.length) (B:List BX) (L:List LI) (pre post:List PV) (d:pre.length=5) (x:post.length=8) (K:bR) (F:PF) (H:PH)
  (q:PAt E mc n i F) (R:F 15=some (.ptr p 17 0 0)) (S:F 16=some (.int .i64 1)) (y:aN H ((E.o,bO v a)::B++[(p,.rows 17 [qT pre post []])]) L)
  (hK:∀ O H',PAt E mc n i O→O 15=some (.ptr p 17 0 0)→aN H' ((E.o,bO v (qU l a 4).2)::B++[(p,.rows 17 [qT pre post (qU l a 4).1])]) L→K (.exit 6) O H') :
  aC.wp C (.loop wZ) K F H:=by
 refine wp_loop (α:=Nat × PH) (fun t=>((u6 E mc n i).set 15 (.ptr p 17 0 0)).set 16 (.int .i64 (t.1+1:Nat))) (fun t=>t.2) (fun t=>t.1≤4∧aN t.2 ((E.o,bO v (qU l a t.1).2)::B++[(p,.rows 17 [qT pre post (qU l a t.1).1])]) L) (fun t=>4-t.1) (0,H) ⟨a7P _,y⟩ ?_ b_ ?_
 ·unfold u6 fP
  (repeat' (first|exact c_|refine d_ ?_ ?_))<;>first|(simp only[go_sem,q.f0,q.f1,q.f2,q.f6,q.f7,q.f11,q.f13,q.f14,R,S]<;>rfl)|rfl
 rintro⟨j,H0⟩ ⟨hj,y⟩;simp only at hj y ⊢;obtain⟨k1,k2⟩:=w9 l ha j;have e:qU l a (j+1)=((qU l a j).1++[(gQ l (qU l a j).2).1],(gQ l (qU l a j).2).2):=rfl;simp only[go_sem,wZ,kp,u6,fP];by_cases hlt:j<4
 ·generalize hg:qU l a j=g at *
  have Z:=cZ (Om:j+1<9223372036854775807);simp only[go_sem,show ((j+1:Nat):Int)<5 by omega,kr];refine dM Y.toAU T (o:=E.o) (n:=3) (a:=g.2) (by decide) k1 (by simp only[go_sem]; rfl) (y.at 0 rfl) ?_;have M:aN _ ((E.o,bO v (aG l 3 g.2).2)::B++[(p,.rows 17 [qT pre post g.1])]) L:=y.set 0 rfl (bO v (aG l 3 g.2).2);by_cases c:(aG l 3 g.2).1=0
  ·have X:gQ l g.2=(((1+(aG l 3 (aG l 3 g.2).2).1:Nat):Int),(aG l 3 (aG l 3 g.2).2).2):=by unfold gQ; simp only[c,if_true]
   have n2:=cJ l (show 0<3 by decide) (aG l 3 g.2).2;have e2:IntKind.i64.wrap (1+((aG l 3 (aG l 3 g.2).2).1:Int))=((1+(aG l 3 (aG l 3 g.2).2).1:Nat):Int):=by rw[wrap_i64 Om Om]; omega
   simp only[go_sem,bL (show (((aG l 3 g.2).1:Nat):Int)=0 by omega),ku];refine dM Y.toAU T (o:=E.o) (n:=3) (a:=(aG l 3 g.2).2) (by decide) (bT l 3 k1) (by simp only[go_sem]; rfl) (M.at 0 rfl) ?_;have N:aN _ ((E.o,bO v (aG l 3 (aG l 3 g.2).2).2)::B++[(p,.rows 17 [qT pre post g.1])]) L:=M.set 0 rfl (bO v (aG l 3 (aG l 3 g.2).2).2);have Q:=N.OE;rw[PH.set_set] at Q N;have J:¬ p=E.o:=fun h=>by have W:=N.ndB;simp[eP,h] at W
   simp only[aT,if_neg J] at Q;have V:((j+1:Nat):Int)<((5:Nat):Int):=Om;have U:(0:Int)≤((j+1:Nat):Int):=Om;have β:(qT pre post g.1).length=17:=by simp[qT,d,x,k2]; omega
   have u:=aSO (pre:=pre) (post:=post) (s:=g.1) d Om ((1+(aG l 3 (aG l 3 g.2).2).1:Nat):Int);rw[k2] at u;have A:4+(j+1)*1=5+j:=Om;have w:5+j+1≤17:=Om;simp only[go_sem,e2,V,U,A,J,Q,w,a7V,a8E,or_false,forall_eq,u,JC,Z];refine aD (j+1,_) ⟨hlt,?_⟩ (by simp only; omega) ?_ b_
   ·rw[e,X];exact N.wz _
   ·exact Lq
  ·have X:gQ l g.2=(0,(aG l 3 g.2).2):=by unfold gQ; simp only[c,if_false]
   simp only[go_sem,bF (show ¬ (((aG l 3 g.2).1:Nat):Int)=0 by omega),JC,Z];refine aD (j+1,_) ⟨hlt,?_⟩ (by simp only; omega) ?_ b_
   ·rw[aIX (pre:=pre) (post:=post) (s:=g.1) d Om] at M;rw[e,X];exact M
   ·exact Lq
 ·have:j=4:=Om;subst this;simp only[go_sem,show ¬ ((4+1:Nat):Int)<5 by decide];exact hK _ _ ⟨by simp only[go_sem],by simp only[go_sem],by simp only[go_sem],by simp only[go_sem],by simp only[go_sem],by simp only[go_sem],by simp only[go_sem],by simp only[go_sem]⟩ Sq y
theorem aN.pH {E:FE} {v ext c d e i l p:PV} {a:Nat} {H:PH} {B:List BX} {L:List LI} (h:aN H (E.boxes v ext c d e i l p a++B) L) (b:Nat):aN (H.set E.o (bO v b)) (E.boxes v ext c d e i l p b++B) L:=h.set 0 rfl _
abbrev cy (s:List UInt8) (k m q:Int) (w r c d e:PV) (h:RF):List PV:=[.str s,.int .i64 k,.int .i64 m,.int .i64 q,.int .i64 0,.int .i64 0,.int .i64 0,.int .i64 0,.int .i64 0,w,r,c,d,e,.bool h.neg,aJ h.num,aJ h.den]
theorem aGU {C : Ctx} (Lb : mA C) {l : List Nat} {v : PV} (T : Tp l v) (E : FE) (mc n i a : Nat) (ha : a ≤ l.length) (hi : i < 50) (ext w1 w2 w3 w4 w5 w6 : PV) (L : List LI) (rest : aC) (K : bR) (F : PF) (H : PH)
    (hF : PAt E mc n i F) (hH : aN H (E.boxes v ext w1 w2 w3 w4 w5 w6 a) L)
    (hK : ∀ p F' H', PAt E mc n i F' → F' 15 = some (.ptr p 17 0 0) →
      (let k := aG l 2 a; let m := aG l 3 k.2; let h := aG l 4 m.2; let q := aG l (m.1 + 1) h.2; let r := kC l q.2 (max m.1 1); let g := aG l 9 r.2
       aN H' (E.boxes v ext w1 w2 w3 w4 w5 w6 g.2 ++ [(p, .rows 17 [qT [.str ([112] ++ bZ i), .int .i64 (1 + k.1 : Nat), .int .i64 (m.1 : Nat), .int .i64 (1 + k.1 + q.1 : Nat), .int .i64 0]
        ([.aB, frs r.1] ++ (mkT (g.1 : Nat) 8).cells ++ (mkT ((1 + h.1 : Nat) : Int) 1).cells) []])]) L) → aC.wp C rest K F' H') :
    aC.wp C (.seq (.region JA) (.seq (.seq (.draw xA) (.draw xB)) (.seq (.region xC) (.seq (.region xD) rest)))) K F H := by
  obtain ⟨f0, f1, f2, f6, f7, f11, f13, f14⟩ := hF;have nk := cJ l (show 0 < 2 by decide) a;have ak := bT l 2 ha;have nm := cJ l (show 0 < 3 by decide) (aG l 2 a).2;have am := bT l 3 ak;simp only at hK;generalize hk : aG l 2 a = k at *
  generalize hm : aG l 3 k.2 = m at *
  have nh := cJ l (show 0 < 4 by decide) m.2;have ah := bT l 4 am;generalize hh : aG l 4 m.2 = h at *
  have nq := cJ l (Om : 0 < m.1 + 1) h.2;have aq := bT l (m.1 + 1) ah;generalize hq : aG l (m.1 + 1) h.2 = q at *
  have ar := GD l aq (max m.1 1);generalize hr : kC l q.2 (max m.1 1) = r at *
  have ng := cJ l (show 0 < 9 by decide) r.2;have ag := bT l 9 ar;generalize hg : aG l 9 r.2 = g at *
  have ek : IntKind.i64.wrap (1 + (k.1 : Int)) = ((1 + k.1 : Nat) : Int) := by rw [wrap_i64 Om Om]; omega
  have eh : IntKind.i64.wrap (1 + (h.1 : Int)) = ((1 + h.1 : Nat) : Int) := by rw [wrap_i64 Om Om]; omega
  have em : IntKind.i64.wrap ((m.1 : Int) + 1) = ((m.1 + 1 : Nat) : Int) := cZ Om;have eq' : IntKind.i64.wrap (((1 + k.1 : Nat) : Int) + (q.1 : Int)) = ((1 + k.1 + q.1 : Nat) : Int) := by rw [wrap_i64 Om Om]; omega
  have h0 : aN H (E.boxes v ext w1 w2 w3 w4 w5 w6 a ++ []) L := by rw [a9I]; exact hH
  simp only[go_sem,JA,f14];refine aA (Lb.name [112] i (by decide) Om) rfl ?_;simp only[go_sem,f0];refine dM Lb.toAU T (o := E.o) (n := 2) (a := a) (by decide) ha rfl (h0.at 0 rfl) ?_;have g1 := h0.pH k.2;rw [hk];simp only[go_sem,ek,f0];refine dM Lb.toAU T (o := E.o) (n := 3) (a := k.2) (by decide) ak rfl (g1.at 0 rfl) ?_;have g2 := g1.pH m.2;rw [hm];rw [PH.set_set] at g2;simp only[go_sem,f0];refine dM Lb.toAU T (o := E.o) (n := 4) (a := m.2) (by decide) am rfl (g2.at 0 rfl) ?_;have g3 := g2.pH h.2;rw [hh];rw [PH.set_set] at g3;simp only[go_sem,eh];refine aA (Lb.int ((1 + h.1 : Nat) : Int) (by unfold dB; omega)) rfl ?_;simp only[go_sem,a7V,a8E,or_false,forall_eq,forall_eq_or_imp];refine aR fun p hp => ?_;have g4 := g3.new hp (.rows 17 [cy ([112] ++ bZ i) (1 + k.1 : Nat) (m.1 : Nat) 0 .aB .aB (.bool false) .aB .aB (mkT ((1 + h.1 : Nat) : Int) 1)]);have hpo : ¬ p = E.o := g4.ne 3 0 rfl rfl (by decide);have hop : ¬ E.o = p := fun e => hpo e.symm;have q2 : ∀ (F2 : PF) (H2 : PH), PAt E mc n i F2 → F2 15 = some (.ptr p 17 0 0) → aN H2 (E.boxes v ext w1 w2 w3 w4 w5 w6 h.2 ++ [(p, .rows 17 [cy ([112] ++ bZ i) (1 + k.1 : Nat) (m.1 : Nat) 0 .aB .aB (.bool false) .aB .aB (mkT ((1 + h.1 : Nat) : Int) 1)])]) L →
      aC.wp C (.seq (.seq (.draw xA) (.draw xB)) (.seq (.region xC) (.seq (.region xD) rest))) K F2 H2 := by
    intro F2 H2 hF2 f15 hH2;obtain ⟨f0, f1, f2, f6, f7, f11, f13, f14⟩ := hF2;have bp := hH2.at 3 rfl;have hHs : (PH.nil.set p (.rows 17 [cy ([112] ++ bZ i) (1 + k.1 : Nat) (m.1 : Nat) 0 .aB .aB (.bool false) .aB .aB (mkT ((1 + h.1 : Nat) : Int) 1)])).le H2 := PH.aK a_ bp;simp only[go_sem];refine bW _ (mkS l v) hHs ?_;simp only[go_sem,xA,f15,bp,em,f0];refine rJ Lb.toAU T (o := E.o) (n := m.1 + 1) (a := h.2) Om ah rfl (hH2.at 0 rfl) ?_ ?_
    · rw [hq]; exact PH.aK a_ ((hH2.pH q.2).at 3 rfl)
    rw [hq];have g5 := hH2.pH q.2;simp only[go_sem,eq',f15];refine bW .nil eT a_ ?_;simp only[go_sem,xB,hpo,bp];refine ⟨a_, ?_⟩;have g6 : aN _ (E.boxes v ext w1 w2 w3 w4 w5 w6 q.2 ++ [(p, .rows 17 [cy ([112] ++ bZ i) (1 + k.1 : Nat) (m.1 : Nat) (1 + k.1 + q.1 : Nat) .aB .aB (.bool false) .aB .aB (mkT ((1 + h.1 : Nat) : Int) 1)])]) L := g5.set 3 rfl (.rows 17 [cy ([112] ++ bZ i) (1 + k.1 : Nat) (m.1 : Nat) (1 + k.1 + q.1 : Nat) .aB .aB (.bool false) .aB .aB (mkT ((1 + h.1 : Nat) : Int) 1)]);have bq := g6.at 3 rfl;simp only[go_sem,xC,f0,f15];refine mR (Lb.rep l v T E.o q.2 m.1 Om aq) (g6.at 0 rfl) rfl ?_;have g7 := g6.pH r.2;rw [hr];simp only[go_sem,hpo,f15];have g8 : aN _ (E.boxes v ext w1 w2 w3 w4 w5 w6 r.2 ++ [(p, .rows 17 [cy ([112] ++ bZ i) (1 + k.1 : Nat) (m.1 : Nat) (1 + k.1 + q.1 : Nat) .aB (frs r.1) (.bool false) .aB .aB (mkT ((1 + h.1 : Nat) : Int) 1)])]) L := g7.set 3 rfl (.rows 17 [cy ([112] ++ bZ i) (1 + k.1 : Nat) (m.1 : Nat) (1 + k.1 + q.1 : Nat) .aB (frs r.1) (.bool false) .aB .aB (mkT ((1 + h.1 : Nat) : Int) 1)]);simp only[go_sem,xD,f0];refine dM Lb.toAU T (o := E.o) (n := 9) (a := r.2) (by decide) ar rfl (g8.at 0 rfl) ?_;have g9 := g8.pH g.2;rw [hg];simp only[go_sem];refine aA (Lb.fmk (g.1 : Int) 8 (by unfold dB; omega) (by unfold dB; omega)) rfl ?_;unfold wA;rw [if_neg (by decide)];simp only[go_sem,f15,hpo];have g10 := g9.set 3 rfl (.rows 17 [qT [.str ([112] ++ bZ i), .int .i64 (1 + k.1 : Nat), .int .i64 (m.1 : Nat), .int .i64 (1 + k.1 + q.1 : Nat), .int .i64 0]
        ([.aB, frs r.1] ++ (mkT (g.1 : Nat) 8).cells ++ (mkT ((1 + h.1 : Nat) : Int) 1).cells) []])
    refine hK p _ _ ⟨by simp only[go_sem,f0], by simp only[go_sem,f1], by simp only[go_sem,f2], by simp only[go_sem,f6], by simp only[go_sem,f7], by simp only[go_sem,f11], by simp only[go_sem,f13], by simp only[go_sem,f14]⟩ (by simp only[go_sem,f15]) g10
  simp only [aC.wp, go_sem] at q2;simp only[go_sem,a7V,a8E,or_false,forall_eq,forall_eq_or_imp];exact q2 _ _ ⟨by simp only[go_sem,f0], by simp only[go_sem,f1], by simp only[go_sem,f2], by simp only[go_sem,f6], by simp only[go_sem,f7], by simp only[go_sem,f11], by simp only[go_sem,f13], by simp only[go_sem,f14]⟩ rfl g4
abbrev FE.lists (p q u w x:PV) (e:List cE) (i:List cT) (c:List cD) (d:List dH) (l:List (List PV)):List LI:=[(p,4,gZ e),(q,4,jQ i),(u,7,jY c),(w,3,mE d),(x,17,l)]
theorem aGV {C:Ctx} (Lb:mA C) {l:List Nat} {v:PV} (T:Tp l v) (E:FE) (mc n i a:Nat) (ha:a≤l.length) (η:0<mc) (μ:mc≤50) (ext y A B J w5:PV) (lw:List cE) (md:List cT) (dm:List cD) (dv:List dH) (pr:List (List PV)) (ρ:pr.length≤50)
  (s:List UInt8) (k m q:Int) (r t h:RF) (N:List RF) (p:Nat) (K:bR) (F:PF) (H:PH)
  (hF:PAt E mc n i F) (u:F 15=some (.ptr p 17 0 0))
  (hH:aN H (E.boxes v ext y A B J w5 .aB a++[(p,.rows 17 [qT [.str s,.int .i64 k,.int .i64 m,.int .i64 q,.int .i64 0] ([.aB,frs N]++t.cells++h.cells) []])]) (FE.lists y A B J w5 lw md dm dv pr))
  (V:(let M:=qU l a 4; let f:=aG l mc M.2; let b:=aG l 2 f.2
   let ms:List Int × Nat:=if 1<mc then (if b.1=0 then ([(f.1:Int),1-(f.1:Int)],b.2) else ([(f.1:Int)],b.2)) else ([(f.1:Int)],f.2)
   ∀ (w d:PV) (W:PF) (H':PH) (B':List BX),PAt E mc n i W→(∃ o,w=.osl o 1 0 ms.1.length)→aN H' (E.boxes v ext y A B J d .aB ms.2++B')
    (FE.lists y A B J d lw md dm dv (pr++[wI ⟨s,k,m,q,0,(M.1.getD 0 0),(M.1.getD 1 0),(M.1.getD 2 0),(M.1.getD 3 0),ms.1,N,t,h⟩ w])++[(w,1,aY ms.1)])→K .normal W H')) :
  aC.wp C (.seq (.seq (.region JB) (.block 6 (.loop wZ))) (.seq (.region JD) (.seq (.region JE) (.seq (.seq (.region JF) (.cond (.tmp 143) (.region JG) .skip)) (.region xE))))) K F H:=by
 obtain⟨f0,f1,f2,f6,f7,f11,f13,f14⟩:=hF;simp only[go_sem,JB];refine alO (C:=C) Lb T E mc n i a p ha [(E.o7,flB ext y A B J w5 .aB),(E.o6,flZ)] _ _ _ rfl rfl _ _ H ⟨by simp only[go_sem,f0],by simp only[go_sem,f1],by simp only[go_sem,f2],by simp only[go_sem,f6],by simp only[go_sem,f7],by simp only[go_sem,f11],by simp only[go_sem,f13],by simp only[go_sem,f14]⟩ (by simp only[go_sem,u]) rfl hH ?_;clear f0 f1 f2 f6 f7 f11 f13 f14 u hH;intro F1 H1 ε u x;obtain⟨f0,f1,f2,f6,f7,f11,f13,f14⟩:=ε;obtain⟨α,ls⟩:=w9 l ha 4;have ι:∃ O Q R S,(qU l a 4).1=[O,Q,R,S]:=⟨_,_,_,_,rfl⟩;simp only at V;generalize ν:qU l a 4=M at *
 obtain⟨O,Q,R,S,hx⟩:=ι;rw[hx] at V x;replace x:aN H1 (E.boxes v ext y A B J w5 .aB M.2++[(p,.rows 17 [wI ⟨s,k,m,q,0,O,Q,R,S,[],N,t,h⟩ .aB])]) (FE.lists y A B J w5 lw md dm dv pr):=x;have nf:=cJ l η M.2;have af:=bT l mc α;generalize hf:aG l mc M.2=f at *
 have ab:=bT l 2 af;generalize hb:aG l 2 f.2=b at *
 have Z:¬ p=E.o:=x.ne 3 0 rfl rfl (by decide);have θ:¬ p=E.o7:=x.ne 3 1 rfl rfl (by decide);have ο:¬ E.o7=p:=fun e=>θ e.symm;have ξ:¬ E.o7=E.o:=x.ne 1 0 rfl rfl (by decide);simp only[go_sem,JD,f0,f11];refine dM Lb.toAU T (o:=E.o) (n:=mc) (a:=M.2) Om α rfl (x.at 0 rfl) ?_;have h2:=x.set 0 rfl (bO v f.2);rw[hf];simp only[go_sem,JE];refine aR fun o ho=>?_;have h3:=h2.amQ (s:=1) (rows:=aY [(f.1:Int)]) ho;have b3:=h3.at 3 rfl;have ob:¬ p=o:=h3.neL 3 5 rfl rfl rfl;have σ:¬ E.o7=o:=h3.neL 1 5 rfl rfl rfl;have τ:¬ E.o=o:=h3.neL 0 5 rfl rfl rfl;simp only[aT,if_neg ob,if_neg Z] at b3;simp only[go_sem,u,ob,Z,b3,a7V,a8E,or_false,forall_eq];have h4:=h3.set 3 rfl (.rows 17 [wI ⟨s,k,m,q,0,O,Q,R,S,[],N,t,h⟩ (.osl o 1 0 1)]);have fin:∀ (w:PV) (ms:List Int) (a':Nat) (W:PF) (H':PH),PAt E mc n i W→W 15=some (.ptr p 17 0 0)→(∃ o,w=.osl o 1 0 ms.length) →
   aN H' (E.boxes v ext y A B J w5 .aB a'++[(p,.rows 17 [wI ⟨s,k,m,q,0,O,Q,R,S,ms,N,t,h⟩ w])]) (FE.lists y A B J w5 lw md dm dv pr++[(w,1,aY ms)]) →
   (∀ (d:PV) (U:PF) (H2:PH),PAt E mc n i U→aN H2 (E.boxes v ext y A B J d .aB a'++[(p,.rows 17 [wI ⟨s,k,m,q,0,O,Q,R,S,ms,N,t,h⟩ w])]) (FE.lists y A B J d lw md dm dv (pr++[wI ⟨s,k,m,q,0,O,Q,R,S,ms,N,t,h⟩ w])++[(w,1,aY ms)])→K .normal U H2) →
   wpOps C xE (K .normal) W H':=by
  intro w ms a' W H' δ u hw Y ζ;obtain⟨wo,rfl⟩:=hw;obtain⟨f0,f1,f2,f6,f7,f11,f13,f14⟩:=δ;have c1:=Y.at 1 rfl;have c3:=Y.at 3 rfl;have γ:(1:Nat)*17≤16777216:=by decide
  simp only[go_sem,xE,f7,u,c1,c3,γ,a7V,a8E,or_false,forall_eq,forall_eq_or_imp];refine Y.append 4 (src:=[wI ⟨s,k,m,q,0,O,Q,R,S,ms,N,t,h⟩ (.osl wo 1 0 ms.length)]) rfl rfl (by unfold roomFor; simp only[a7U,maxLen]; omega) fun d H2 h5 κ=>?_;obtain⟨q5,rfl⟩:=κ (by simp);have c2:=h5.at 1 rfl;simp only[go_sem,c2,a7V,a8E,or_false,forall_eq];exact ζ _ _ _ ⟨by simp only[go_sem,f0],by simp only[go_sem,f1],by simp only[go_sem,f2],by simp only[go_sem,f6],by simp only[go_sem,f7],by simp only[go_sem,f11],by simp only[go_sem,f13],by simp only[go_sem,f14]⟩ (h5.set 1 rfl (flB ext y A B J _ .aB))
 simp only[go_sem,JF,f11];by_cases c:1<mc
 ·have c':(mc:Int)>1:=Om;simp only[go_sem,c',f0];refine dM Lb.toAU T (o:=E.o) (n:=2) (a:=f.2) (by decide) af rfl (h4.at 0 rfl) ?_;have h5:=h4.set 0 rfl (bO v b.2);rw[hb];by_cases c2:b.1=0
  ·have X:(b.1:Int)=0:=Om;rw[if_pos c,if_pos c2] at V;have e1:IntKind.i64.wrap (1-(f.1:Int))=1-(f.1:Int):=wrap_i64 Om Om;have c3:=h5.at 3 rfl;have β:(1:Nat)*1≤16777216:=by decide
   simp only[go_sem,bL X,JG,u,Z,e1,β];refine h5.append 5 (src:=[[.int .i64 (1-(f.1:Int))]]) rfl rfl (by unfold roomFor; simp only[aY,a7I,a7U,maxLen]; omega) fun w' H2 h6 hw=>?_;obtain⟨q2,rfl⟩:=hw (by simp);have c4:=h6.at 3 rfl;simp only[go_sem,c4,u,a7V,a8E,or_false,forall_eq];have h7:=h6.set 3 rfl (.rows 17 [wI ⟨s,k,m,q,0,O,Q,R,S,[(f.1:Int),1-(f.1:Int)],N,t,h⟩ (.osl q2 1 0 2)]);exact fin (.osl q2 1 0 2) [(f.1:Int),1-(f.1:Int)] b.2 _ _ ⟨by simp only[go_sem,f0],by simp only[go_sem,f1],by simp only[go_sem,f2],by simp only[go_sem,f6],by simp only[go_sem,f7],by simp only[go_sem,f11],by simp only[go_sem,f13],by simp only[go_sem,f14]⟩ (by simp only[go_sem,u]) ⟨q2,rfl⟩ h7 (fun d U H2 g1 g2=>V _ d U H2 _ g1 ⟨q2,rfl⟩ g2)
  ·have X:¬ (b.1:Int)=0:=Om;rw[if_pos c,if_neg c2] at V;simp only[go_sem,bF X];exact fin (.osl o 1 0 1) [(f.1:Int)] b.2 _ _ ⟨by simp only[go_sem,f0],by simp only[go_sem,f1],by simp only[go_sem,f2],by simp only[go_sem,f6],by simp only[go_sem,f7],by simp only[go_sem,f11],by simp only[go_sem,f13],by simp only[go_sem,f14]⟩ (by simp only[go_sem,u]) ⟨o,rfl⟩ h5 (fun d U H2 g1 g2=>V _ d U H2 _ g1 ⟨o,rfl⟩ g2)
 ·have c':¬ (mc:Int)>1:=Om;rw[if_neg c] at V;simp only[go_sem,c'];exact fin (.osl o 1 0 1) [(f.1:Int)] f.2 _ _ ⟨by simp only[go_sem,f0],by simp only[go_sem,f1],by simp only[go_sem,f2],by simp only[go_sem,f6],by simp only[go_sem,f7],by simp only[go_sem,f11],by simp only[go_sem,f13],by simp only[go_sem,f14]⟩ (by simp only[go_sem,u]) ⟨o,rfl⟩ h4 (fun d U H2 g1 g2=>V _ d U H2 _ g1 ⟨o,rfl⟩ g2)
abbrev lN (l:List bS):List (List PV):=l.map bS.cells
abbrev oI (l:List eW):List (List PV):=l.map eW.cells
theorem qK {rows:List (List PV)} (h:∀ r∈rows,∀ c∈r,c.oid=none):Flat rows:=Flat.of fun r e c d q s rs=>jm (h r e c d) q s rs
theorem aaL (l:List cE):Flat (gZ l):=qK fun r e c d=>by
 obtain⟨x,_,rfl⟩:=a8L.1 e;simp only[cE.cells,a7V,a8E,or_false] at d;rcases d with rfl | rfl | rfl | rfl<;>rfl
theorem aaM (l:List cT):Flat (jQ l):=qK fun r e c d=>by
 obtain⟨x,_,rfl⟩:=a8L.1 e;simp only[cT.cells,a7V,a8E,or_false] at d;rcases d with rfl | rfl | rfl | rfl<;>rfl
theorem Yb (l:List cD):Flat (jY l):=qK fun r e c d=>by
 obtain⟨x,_,rfl⟩:=a8L.1 e;simp only[cD.cells,a7V,a8E,or_false] at d;rcases d with rfl | rfl | rfl | rfl | rfl | rfl | rfl<;>rfl
theorem Yd (l:List dH):Flat (mE l):=qK fun r e c d=>by
 obtain⟨x,_,rfl⟩:=a8L.1 e;simp only[dH.cells,a7V,a8E,or_false] at d;rcases d with rfl | rfl | rfl<;>rfl
theorem aTX (l:List eW):Flat (oI l):=qK fun r e c d=>by
 obtain⟨x,_,rfl⟩:=a8L.1 e;simp only[eW.cells,a7V,a8E,or_false] at d;rcases d with rfl | rfl<;>rfl
theorem adP (l:List bS):Flat (lN l):=qK fun r e c d=>by
 obtain⟨x,_,rfl⟩:=a8L.1 e;simp only[bS.cells,a7V,a8E,or_false] at d;rcases d with rfl | rfl | rfl | rfl | rfl | rfl | rfl | rfl | rfl | rfl | rfl | rfl | rfl | rfl | rfl | rfl | rfl<;>rfl
theorem anC (l:List Nat) (mc i:Nat) {a:Nat} (h:a≤l.length):(lY l mc i a).2≤l.length:=by
 have d:=bT l 9 (GD l (bT l ((aG l 3 (aG l 2 a).2).1+1) (bT l 4 (bT l 3 (bT l 2 h)))) (max (aG l 3 (aG l 2 a).2).1 1));have c:=bT l mc (tL l (tL l (tL l (tL l d))));unfold lY;simp only;split
 ·split
  ·exact bT l 2 c
  ·exact bT l 2 c
 ·exact c
theorem zW (l:List Nat) (mc:Nat) {a:Nat} (h:a≤l.length):∀ k,(dU l mc a k).2≤l.length∧(dU l mc a k).1.length=k
 | 0=>⟨h,rfl⟩
 | k+1=>by obtain⟨c,d⟩:=zW l mc h k;exact⟨anC l mc k c,by simp only[dU,a7Q,a7U,d]⟩
theorem YM (l:List Nat) (pc:Nat) {a:Nat} (h:a≤l.length):∀ k,(eM l pc a k).2≤l.length∧(eM l pc a k).1.length=k
 | 0=>⟨h,rfl⟩
 | k+1=>by obtain⟨c,d⟩:=YM l pc h k;exact⟨bT l pc c,by simp only[eM,a7Q,a7U,d]⟩
theorem On {C:Ctx} (Lb:mA C) {l:List Nat} {v:PV} (T:Tp l v) (E:FE) (mc n a:Nat) (hn:n≤10) (η:0<mc) (X:mc≤50) (ha:a≤l.length) (M:Int) (d e q u:PV) (Q:List cE) (R:List cT) (N:List cD) (O:List dH) (K:bR) (F:PF) (H:PH)
  (B:PAt E mc n 0 F) (U:aN H (E.boxes v (.int .i64 M) d e q u .aB .aB a) [(d,4,gZ Q),(e,4,jQ R),(q,7,jY N),(u,3,mE O)])
  (hK:∀ S F' H',(fP E).le F'→aN H' (E.boxes v (.int .i64 M) d e q u S .aB (dU l mc a n).2) (FE.lists d e q u S Q R N O (lN (dU l mc a n).1))→K (.exit 4) F' H') :
  aC.wp C (.loop IY) K F H:=by
 refine wp_loop (α:=Nat × PV × PH) (fun t=>u6 E mc n t.1) (fun t=>t.2.2) (fun t=>t.1≤n∧aN t.2.2 (E.boxes v (.int .i64 M) d e q u t.2.1 .aB (dU l mc a t.1).2) (FE.lists d e q u t.2.1 Q R N O (lN (dU l mc a t.1).1))) (fun t=>n-t.1) (0,.aB,H) ⟨a7P _,U.nC 17⟩ ?_ b_ ?_
 ·unfold u6 fP
  (repeat' (first|exact c_|refine d_ ?_ ?_))<;>first|(simp only[go_sem,B.f0,B.f1,B.f2,B.f6,B.f7,B.f11,B.f13,B.f14]<;>rfl)|rfl
 rintro⟨i,S,H0⟩ ⟨hi,U⟩;simp only at hi U ⊢;obtain⟨k1,k2⟩:=zW l mc ha i;have A:dU l mc a (i+1)=((dU l mc a i).1++[(lY l mc i (dU l mc a i).2).1],(lY l mc i (dU l mc a i).2).2):=rfl;simp only[go_sem,IY,ko,u6,fP];by_cases hlt:i<n
 ·have y:(i:Int)<(n:Nat):=Om;generalize hg:dU l mc a i=g at *
  simp only[go_sem,y];refine aGU (C:=C) Lb T E mc n i g.2 k1 Om (.int .i64 M) d e q u S .aB _ _ _ _ H0 ⟨by simp only[go_sem],by simp only[go_sem],by simp only[go_sem],by simp only[go_sem],by simp only[go_sem],by simp only[go_sem],by simp only[go_sem],by simp only[go_sem]⟩ U ?_;intro p F1 H1 β Z V;simp only at V;have θ:lY l mc i g.2=_:=rfl;have W:=bT l 9 (GD l (bT l ((aG l 3 (aG l 2 g.2).2).1+1) (bT l 4 (bT l 3 (bT l 2 k1)))) (max (aG l 3 (aG l 2 g.2).2).1 1));refine aGV (C:=C) Lb T E mc n i _ W η X (.int .i64 M) d e q u S Q R N O _ (by rw[a7I,k2]; omega) _ _ _ _ (mkT 0 1) _ _ _ p _ F1 H1 β Z V ?_;intro J f b ms w c F2 H2 B' γ hw δ;obtain⟨o,rfl⟩:=hw;have hP:lY l mc i g.2=(⟨[112]++bZ i,(1+(aG l 2 g.2).1:Nat),((aG l 3 (aG l 2 g.2).2).1:Nat),(1+(aG l 2 g.2).1+(aG l ((aG l 3 (aG l 2 g.2).2).1+1) (aG l 4 (aG l 3 (aG l 2 g.2).2).2).2).1:Nat),0,J.1.getD 0 0,J.1.getD 1 0,J.1.getD 2 0,J.1.getD 3 0,ms.1,(kC l (aG l ((aG l 3 (aG l 2 g.2).2).1+1) (aG l 4 (aG l 3 (aG l 2 g.2).2).2).2).2 (max (aG l 3 (aG l 2 g.2).2).1 1)).1,mkT ((aG l 9 (kC l (aG l ((aG l 3 (aG l 2 g.2).2).1+1) (aG l 4 (aG l 3 (aG l 2 g.2).2).2).2).2 (max (aG l 3 (aG l 2 g.2).2).1 1)).2).1:Nat) 8,mkT ((1+(aG l 4 (aG l 3 (aG l 2 g.2).2).2).1:Nat):Int) 1⟩,ms.2):=rfl;rw[hP] at A;generalize ε:(⟨[112]++bZ i,(1+(aG l 2 g.2).1:Nat),((aG l 3 (aG l 2 g.2).2).1:Nat),(1+(aG l 2 g.2).1+(aG l ((aG l 3 (aG l 2 g.2).2).1+1) (aG l 4 (aG l 3 (aG l 2 g.2).2).2).2).1:Nat),0,J.1.getD 0 0,J.1.getD 1 0,J.1.getD 2 0,J.1.getD 3 0,ms.1,(kC l (aG l ((aG l 3 (aG l 2 g.2).2).1+1) (aG l 4 (aG l 3 (aG l 2 g.2).2).2).2).2 (max (aG l 3 (aG l 2 g.2).2).1 1)).1,mkT ((aG l 9 (kC l (aG l ((aG l 3 (aG l 2 g.2).2).1+1) (aG l 4 (aG l 3 (aG l 2 g.2).2).2).2).2 (max (aG l 3 (aG l 2 g.2).2).1 1)).2).1:Nat) 8,mkT ((1+(aG l 4 (aG l 3 (aG l 2 g.2).2).2).1:Nat):Int) 1⟩:bS)=P at *
  have ζ:P.a5Y=ms.1:=by rw[← ε]
  obtain⟨rs,z1,z2,z3,Y,z5⟩:=δ.frz 5 rfl;have y1:=Y 0 _ (by decide) rfl;have y2:=Y 1 _ (by decide) rfl;have y3:=Y 2 _ (by decide) rfl;have y4:=Y 3 _ (by decide) rfl;have y5:=Y 4 _ (by decide) rfl;simp only at y1 y2 y3 y4 y5;have y0:=T.frz o 1 rs;obtain⟨f0,f1,f2,f6,f7,f11,f13,f14⟩:=γ;simp only[go_sem,kw,f14,wZz i];refine Ap (i+1,c,H2.frz o 1 rs) z1 ⟨hlt,?_⟩ (by simp only; omega) ?_ b_
  ·rw[A];have eB:(E.boxes v (.int .i64 M) d e q u c .aB ms.2).map (fun b=>(b.1,b.2.frz o 1 rs))=E.boxes v (.int .i64 M) d e q u c .aB ms.2:=by show [(E.o,cG.rows 2 [[PV.dE o 1 rs v,.int .i64 ms.2]]),(E.o7,cG.rows 7 [[.int .i64 M,PV.dE o 1 rs d,PV.dE o 1 rs e,PV.dE o 1 rs q,PV.dE o 1 rs u,PV.dE o 1 rs c,.aB]]),(E.o6,flZ)]=_;rw[y0,y1,y2,y3,y4,y5]
   have e5:(lN g.1++[wI P (.osl o 1 0 ms.1.length)]).map (fun r=>r.map (PV.dE o 1 rs))=lN (g.1++[P]):=by
    rw[a8I,adP];have:([wI P (.osl o 1 0 ms.1.length)]:List (List PV)).map (fun r=>r.map (PV.dE o 1 rs))=[P.cells]:=by show [[PV.str P.name,.int .i64 P.k,.int .i64 P.m,.int .i64 P.a6V,.int .i64 P.s0,.int .i64 P.s1,.int .i64 P.s2,.int .i64 P.s3,.int .i64 P.s4,PV.dE o 1 rs (.osl o 1 0 ms.1.length),frs P.repair,.bool P.target.neg,aJ P.target.num,aJ P.target.den,.bool P.a6H.neg,aJ P.a6H.num,aJ P.a6H.den]]=_;rw[z2,← ζ];rfl
    rw[this];simp[lN]
   have eL:(FE.lists d e q u c Q R N O (lN g.1++[wI P (.osl o 1 0 ms.1.length)])).map (fun x=>(x.1,x.2.1,x.2.2.map fun r=>r.map (PV.dE o 1 rs)))=FE.lists d e q u c Q R N O (lN (g.1++[P])):=by show [(d,4,(gZ Q).map _),(e,4,(jQ R).map _),(q,7,(jY N).map _),(u,3,(mE O).map _),(c,17,(lN g.1++[wI P (.osl o 1 0 ms.1.length)]).map _)]=_;rw[aaL,aaM,Yb,Yd,e5]
   rw[← eB,← eL];exact z5.sub (by rw[a8I]; exact List.sublist_append_left ..) (a9M.refl _)
  ·(repeat' (first|exact c_|refine d_ ?_ ?_))<;>first|(simp only[go_sem,f0,f1,f2,f6,f7,f11,f13]<;>rfl)|rfl
 ·have y:¬ (i:Int)<(n:Nat):=Om;have:i=n:=Om;subst this;simp only[go_sem,y];exact hK S _ _ (UX Sq Sq Sq Sq Sq) U
end Go.PM
