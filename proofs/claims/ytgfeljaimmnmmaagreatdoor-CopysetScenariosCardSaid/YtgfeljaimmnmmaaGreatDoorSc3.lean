/-
  Texts of ours, joined: FlPlain FlW2 FlW3 FlW4 FlW5 FlW6 FlW7 FlW8 FlW9 ToPlain ToCode ToW1 ToW2 Pm34 ToW3 ToW4 ToW5 ToW6 ToW7 ToW8 ToW9 ToW10 MkCode R1Code R1W1 R1W2 R1W3 R1W4 MkPlain MkW1 Pm35 Pm36 MkW2 MkW3 MkW4 MkW5 MkW6. No condition.
-/
import Derived.Test.YtgfeljaimmnmmaaGreatDoorSc1
import Derived.Test.YtgfeljaimmnmmaaGreatDoorSc2
import Derived.Lib.ItoaNum
set_option linter.unusedSimpArgs false
set_option linter.unusedVariables false
open Nat renaming reduceEqDiff → γ, reduceAdd → δ, reduceSub → ε, reduceMul → ζ, reduceLT → η, reduceLeDiff → θ, reduceBEq → τ
open Int renaming reduceLT → ι, reduceLE → κ, reduceEq → μ, reduceToNat → ν, reduceAdd → ξ, reduceNeg → ο, reduceBEq → ρ, reduceBNe → σ
open List renaming reduceReplicate → υ
open List renaming length_map → a7G, range → a7H, getElem_mem → a7J, replicate → a7K, length_append → a7O, length_singleton → a7S, mem_cons → a7T, getElem?_eq_getElem → a7U, all_eq_true → a7W, getD_eq_getElem?_getD → a7Z, length_take → a8A, not_mem_nil → a8B, take_of_length_le → a8C, getElem?_map → a8F, map_append → a8G, take_length → a8I, mem_map → a8J, mem_range → a8K, getElem?_eq_some_iff → a8P, append_assoc → a8Q, drop_zero → a8R, getElem_of_mem → a8S, map_cons → a8U, getElem?_eq_none → a8X, length_cons → a8Y, getElem_map → a9B, mem_append → a9C, take_succ_eq_append_getElem → a9E, append_nil → a9G, drop_eq_getElem_cons → a9H, range' → a9I, length_drop → a9J, Sublist → a9K, length_set → a9L, map_nil → a9P, length_nil → a9W, mem_singleton → a9X, getElem?_append_right → a9Y, getElem?_append_left → a9Z, nodup_append → baA, mem_of_getElem? → baC, set_append_right → baD, take_append_drop → baE, ext_getElem → baO, range_succ → baS, getElem?_take → baU, drop_of_length_le → bbA, map_congr_left → bbB, set_cons_zero → bbC, getElem_append_right → bbD
open Nat renaming gcd → a7I, le_refl → a7M, zero_le → a7N, mul_add → a7V, lt_or_ge → a8D, zero_add → a8E, mul_assoc → a8H, mul_comm → a8L, add_mul → a8M, mul_le_mul_right → a8N, mod_eq_of_lt → a8T, le_trans → a8V, mod_lt → a8Z, pow_succ → a9D, add_zero → a9M, eq_zero_or_pos → a9Q, add_assoc → a9R, min_eq_left → a9S, mul_le_mul_left → a9T, pos_of_ne_zero → a9U, pow_pos → baB, div_le_self → baF, sub_self → baG, div_lt_iff_lt_mul → baK, pow_le_pow_right → baL, succ_mul → baM, mul_le_mul → baP, div_add_mod → baV, div_eq_of_lt → baW
open Bool renaming not_true → a7L, false_and → a7P, true_and → a7R, and_eq_true → a7X, not_false → a7Y, and_false → a8O, and_true → a9N, and_assoc → baI, and_self → baJ, false_eq_true → baR
open Option renaming map_eq_some_iff → a7Q, map_some → a8W, some → a9V, getD_some → baH, bind_eq_some_iff → baX, bind_some → baY
open Int renaming toNat_natCast → a9A, tdiv → a9O
open Array renaming replicate → a9F, length_toList → baN, getElem?_eq_some_iff → baQ, getElem?_eq_getElem → baT, getD_eq_getD_getElem? → baZ
namespace Go.PM
open Go Go.Na
abbrev dB (x:Int):Prop:=-9223372036854775808≤x∧x≤9223372036854775807
structure cE where
 name:List UInt8
 start:List RF
 a6A:List (List RF)
 exit:List RF
structure cT where
 name:List UInt8
 a6L:Int
 port:Int
 law:Int
structure cD where
 name:List UInt8
 level:Int
 parent:Int
 a6P:Int
 a6K:RF
structure dH where
 name:List UInt8
 model:Int
 machine:Int
structure bS where
 name:List UInt8
 k:Int
 m:Int
 a6T:Int
 s0:Int
 s1:Int
 s2:Int
 s3:Int
 s4:Int
 a5W:List Int
 repair:List RF
 target:RF
 a6F:RF
structure eW where
 name:List UInt8
 a6H:Int
structure aE where
 a6Z:Int
 a6C:List cE
 a5W:List cT
 a5Y:List cD
 a5V:List dH
 a5Z:List bS
 a5X:List eW
abbrev I (x:Int):PV:=.int .i64 x
abbrev anJ (l:List (List RF)):PV:=.sl 1 (l.map fun r=>[frs r])
abbrev cE.cells (x:cE):List PV:=[.str x.name,frs x.start,anJ x.a6A,frs x.exit]
abbrev cT.cells (x:cT):List PV:=[.str x.name,.int .i64 x.a6L,.int .i64 x.port,.int .i64 x.law]
abbrev cD.cells (x:cD):List PV:=[.str x.name,.int .i64 x.level,.int .i64 x.parent,.int .i64 x.a6P,.bool x.a6K.neg,aJ x.a6K.num,aJ x.a6K.den]
abbrev dH.cells (x:dH):List PV:=[.str x.name,.int .i64 x.model,.int .i64 x.machine]
abbrev bS.cells (x:bS):List PV:=[.str x.name,.int .i64 x.k,.int .i64 x.m,.int .i64 x.a6T,.int .i64 x.s0,.int .i64 x.s1,.int .i64 x.s2,.int .i64 x.s3,.int .i64 x.s4,ints x.a5W,frs x.repair,
 .bool x.target.neg,aJ x.target.num,aJ x.target.den,.bool x.a6F.neg,aJ x.a6F.num,aJ x.a6F.den]
abbrev eW.cells (x:eW):List PV:=[.str x.name,.int .i64 x.a6H]
abbrev aE.cells (f:aE):List PV:=[.int .i64 f.a6Z,.sl 4 (f.a6C.map cE.cells),.sl 4 (f.a5W.map cT.cells),.sl 7 (f.a5Y.map cD.cells),.sl 3 (f.a5V.map dH.cells),.sl 17 (f.a5Z.map bS.cells),.sl 2 (f.a5X.map eW.cells)]
def bS.spread (p:bS) (level:Nat):Int:=match level with
 | 0=>p.s0
 | 1=>p.s1
 | 2=>p.s2
 | 3=>p.s3
 | _=>p.s4
abbrev Fits {α:Type} (l:List α):Prop:=l.length≤9223372036854775807
structure jS (l:List RF):Prop where
 fits:Fits l
 all:∀ x∈l,x.Ok
structure cE.Ok (x:cE):Prop where
 start:jS x.start
 exit:jS x.exit
 a6A:Fits x.a6A
 row:∀ r∈x.a6A,jS r
structure bS.Ok (x:bS):Prop where
 k:dB x.k
 m:dB x.m
 a6T:dB x.a6T
 a5W:Fits x.a5W
 each:∀ m∈x.a5W,dB m
 repair:jS x.repair
 target:x.target.Ok
 a6F:x.a6F.Ok
structure aE.Ok (f:aE):Prop where
 a6C:Fits f.a6C
 a5W:Fits f.a5W
 a5Y:Fits f.a5Y
 a5V:Fits f.a5V
 a5Z:Fits f.a5Z
 a5X:Fits f.a5X
 law:∀ x∈f.a6C,x.Ok
 dom:∀ x∈f.a5Y,x.a6K.Ok∧dB x.level∧dB x.parent
 drive:∀ x∈f.a5V,dB x.model∧dB x.machine
 a6H:∀ x∈f.a5Z,x.Ok
 volume:∀ x∈f.a5X,dB x.a6H
def oO (x:RF):FR:=if cU (val x.num) (val x.den) then iH x.neg (val x.num) (val x.den) else .error 1
theorem m9 (x:RF):VH x.neg (val x.num) (val x.den)=frV (oO x):=by
 unfold VH oO;split
 ·exact u5 _ _ _
 ·rfl
def cS (x:RF):Bool:=match oO x with
 | .ok (n,a,b)=>!n&&(decide (cM a≤32)&&decide (cM b≤32))
 | .error _=>false
def bG (x:RF):Bool:=decide (val x.num≠0)
def wG (x:RF):Bool:=cU (val x.num) (val x.den)&&decide (pL x.neg (val x.num) (val x.den) false 1 1≤0)
def within (n lo hi:Int):Bool:=decide (lo≤n)&&decide (n≤hi)
def cK (R:List Bool) (i:Nat) (row:List RF):Nat→List Bool
 | 0=>R
 | k+1=>let c:=cK R i row k
  c.set i (c.getD i false||(row.map bG).getD k false&&c.getD k false)
def kG (l:cE) (R:List Bool) (i:Nat):List Bool :=
 cK (R.set i (R.getD i false||(l.exit.map bG).getD i false)) i (l.a6A.getD i []) (l.a6A.getD i []).length
def cV (l:cE) (R:List Bool):Nat→List Bool
 | 0=>R
 | i+1=>kG l (cV l R i) i
def cW (l:cE):Nat→List Bool
 | 0=>a7K l.exit.length false
 | r+1=>cV l (cW l r) l.exit.length
def oR (l:cE):Bool:=(cW l (l.exit.length+1)).all id
def jZ (l:cE):Bool :=
 within l.start.length 1 4&&decide (l.exit.length=l.start.length)&&decide (l.a6A.length=l.start.length)&&l.start.all cS&&l.exit.all cS
 && (a7H l.a6A.length).all (fun i=>decide ((l.a6A.getD i []).length=l.start.length)&&(l.a6A.getD i []).all cS&&!((l.a6A.getD i []).map bG).getD i false)
 && (match nG (l.start.map RF.v) with
  | .ok (n,a,b)=>decide (pL n a b false 1 1=0)
  | .error _=>false)&&oR l
def distinct (l:List (List UInt8)):Bool:=(a7H l.length).all fun i=>isName (l.getD i [])&&!(l.take i).contains (l.getD i [])
def HL (f:aE) (i:Nat) (d:cD):Bool :=
 within d.parent 0 i&&decide ((f.a5Y.map cD.level).getD d.parent.toNat 0=IntKind.i64.wrap (d.level-1))&&within d.level 1 4&&within d.a6P 1 64&&cS d.a6K
def BB (f:aE) (r:cD) (t:List cD):Bool :=
 decide (r.name=[])&&decide (r.level=0)&&decide (r.parent=-1)&&decide (r.a6P=0)&&cS r.a6K&&!bG r.a6K
  && (a7H t.length).all fun i=>match t[i]? with
   | some d=>HL f i d
   | none=>false
def nL (f:aE):Bool:=match f.a5Y with
 | []=>false
 | r::t=>BB f r t
def KC (p:bS):Bool :=
 within p.k 1 6&&within p.m 0 4&&decide (p.k+p.m≤8)&&within p.a6T p.k (p.k+p.m)&&decide (p.s0=0)&&([p.s0,p.s1,p.s2,p.s3,p.s4].all fun n=>within n 0 8)
def BR (p:bS):Bool :=
 decide ((p.repair.length:Int)=max p.m 1)&&(p.repair.all fun x=>cS x&&bG x)&&cS p.target&&wG p.target&&cS p.a6F
def jJ (a5W:Nat) (p:bS):Bool :=
 KC p&&decide (p.a5W.length≠0)&&BR p&&(a7H p.a5W.length).all fun j=>within (p.a5W.getD j 0) 0 ((a5W:Int)-1)&&!(p.a5W.take j).contains (p.a5W.getD j 0)
def kB (f:aE) (m:cT):Bool:=within m.a6L 1 16&&within m.port 1 64&&within m.law 0 ((f.a6C.length:Int)-1)
def iR (f:aE) (d:dH):Bool:=within d.model 0 ((f.a5W.length:Int)-1)&&within d.machine 0 ((f.a5Y.length:Int)-1)&&decide ((f.a5Y.map cD.level).getD d.machine.toNat 0=4)
def nU (f:aE) (v:eW):Bool:=within v.a6H 0 ((f.a5Z.length:Int)-1)
def nE (f:aE):Bool:=within f.a6Z 1 4&&decide (f.a6C.length≤4)&&decide (f.a5W.length≤4)&&decide (f.a5Y.length≤40)&&decide (f.a5V.length≤24)&&decide (f.a5Z.length≤4)&&decide (f.a5X.length≤12)
def dQ (f:aE):Bool :=
 nE f&&nL f&&(f.a6C.all jZ&&f.a5W.all (kB f)&&f.a5V.all (iR f)&&f.a5Z.all (jJ f.a5W.length)&&f.a5X.all (nU f))
 && (distinct (f.a6C.map cE.name)&&distinct (f.a5W.map cT.name)&&distinct ((f.a5Y.drop 1).map cD.name++f.a5V.map dH.name)&&distinct (f.a5Z.map bS.name)&&distinct (f.a5X.map eW.name))
theorem bD {t:Nat} {b c:Bool} {F:PF} {H:PH} (h:F t=some (.bool b)) (e:b=c):aV [.tmp t] (bY (.bool c)) .ret F H:=by
 subst e;exact bA (.inr rfl) .nil (vs:=[.bool b]) (by rw[kI,nC,h,oK]) a_ ⟨.refl _,rfl⟩
theorem asO {C:Ctx} (n lo hi:Int):zJ.wp C (aV gin.res (bY (.bool (within n lo hi)))) (PF.args [.int .i64 n,.int .i64 lo,.int .i64 hi]) .nil:=by
 by_cases a:lo≤n
 ·by_cases b:n≤hi
  ·simp only[go_sem,zJ,jv,jw,gin,show n≥lo from a,b];exact bD Ev (by simp[within,a,b])
  ·simp only[go_sem,zJ,jv,jw,gin,show n≥lo from a,b];exact bD Ev (by simp[within,a,b])
 ·have c:¬ n≥lo:=a;simp only[go_sem,zJ,jv,jw,gin,c];exact bD Ev (by simp[within,a])
theorem zp {C:Ctx} (L:qU C) (x:RF) (c:x.Ok):CS.wp C (aV jt.res (bY (.bool (bG x)))) (PF.args [.agg x.cells]) .nil:=by
 simp only[go_sem,CS,zq,zr,jt];refine aA (L.bits x.num c.1 c.2.2.1) Ev ?_;simp only[go_sem];refine bD Ev ?_;have:=@jW (val x.num);rw[bG,decide_eq_decide];omega
structure fk (C:Ctx):Prop extends AQ C where
 frac:∀ n d:Int,dB n→dB d→aH C 115 [.int .i64 n,.int .i64 d] .nil (aF (ka n d))
 red:∀ x:RF,x.Ok→aH C 116 [.agg x.cells] .nil (aF (frV (oO x)))
 ord:∀ x y:RF,x.Ok→y.Ok→aH C 114 [.agg x.cells,.agg y.cells] .nil (aF (BD x.neg (val x.num) (val x.den) y.neg (val y.num) (val y.den)))
 plus:∀ x y:RF,x.Ok→y.Ok→aH C 113 [.agg x.cells,.agg y.cells] .nil (aF (frV (gI x.v y.v)))
 tot:∀ l:List RF,jS l→aH C 117 [frs l] .nil (aF (frV (nG (l.map RF.v))))
theorem IV {neg:Bool} {a b:Nat} {e:Int} (h:iH neg a b=.error e):e=2:=by
 unfold iH at h;split at h
 ·injection h with h; exact h.symm
 ·cases h
theorem Ru {x:RF} {e:Int} (h:oO x=.error e):e≠0:=by
 unfold oO at h;split at h
 ·rw[IV h]; decide
 ·injection h with h; subst h; decide
theorem aRL {x:RF} {r:FV} (h:oO x=.ok r):r.rf.Ok:=by
 unfold oO at h;split at h
 ·exact (sU h).2
 ·cases h
theorem Zv {C:Ctx} (L:fk C) (x:RF) (p:x.Ok):PZ.wp C (aV akN.res (bY (.bool (cS x)))) (PF.args [.agg x.cells]) .nil:=by
 simp only[go_sem,PZ,Zw,Zx,akN];refine aA (L.red x p) Ev ?_;unfold cS;cases i:oO x with
 | error e =>have:=bF (Ru i);simp only[go_sem,frV];refine aR fun o l=>?_;simp only[go_sem,UT,this];exact bD Ev rfl
 | ok r =>
  obtain⟨n,a,b⟩:=r;obtain⟨q,u,w,y⟩:=aRL i;simp only[go_sem,frV];refine aR fun o l=>?_;cases n with
  | true =>simp only[go_sem,UT];exact bD Ev rfl
  | false =>
   simp only[go_sem,UT];refine aA (L.bits _ q w) Ev ?_;rw[show val (FV.rf (false,a,b)).num=a from aW a];by_cases d:cM a≤32
   ·have c:((cM a:Nat):Int)≤32:=Om;simp only[go_sem,c];refine aA (L.bits _ u y) Ev ?_;rw[show val (FV.rf (false,a,b)).den=b from aW b];simp only[go_sem];refine bD Ev ?_;rw[decide_eq_true d];simp;omega
   ·have c:¬ ((cM a:Nat):Int)≤32:=Om;simp only[go_sem,c];refine bD Ev ?_;rw[decide_eq_false d];rfl
theorem Ob:iH false 1 1=.ok (false,1,1):=by
 have:cM 1=1:=by rw[pD (by decide),jN]
 simp[iH,this]
theorem Od:ka 1 1=frV (.ok (false,1,1)):=by
 rw[ka,if_neg (by decide),u5];show frV (iH false 1 1)=_;rw[Ob]
theorem avB:(FV.rf (false,1,1)).Ok:=(sU Ob).2
theorem Es:cU 1 1=true:=by
 have:cM 1=1:=by rw[pD (by decide),jN]
 simp[cU,this]
theorem Z3 {C:Ctx} (L:fk C) (x:RF) (c:x.Ok):QB.wp C (aV gone.res (bY (.bool (wG x)))) (PF.args [.agg x.cells]) .nil:=by
 simp only[go_sem,QB,Z4,Z5,gone];refine aA (L.frac 1 1 (by decide) (by decide)) Ev ?_;rw[Od];simp only[go_sem,frV];refine aR fun o d=>?_;simp only[go_sem,Z6];refine aA (L.ord x (FV.rf (false,1,1)) c avB) Ev ?_;rw[show val (FV.rf (false,1,1)).num=1 from aW 1,show val (FV.rf (false,1,1)).den=1 from aW 1,show (FV.rf (false,1,1)).neg=false from rfl];unfold BD wG;rw[Es,a9N];cases e:cU (val x.num) (val x.den) with
 | false =>simp only[go_sem,uv];exact bD Ev rfl
 | true =>simp only[go_sem,uv];exact bD Ev rfl
theorem Lm {C:Ctx} (p:RF→Bool) (fn:Nat) (l:List RF) (q:Fits l) (h:∀ x∈l,aH C fn [.agg x.cells] .nil (aF (.bool (p x)))) :
  HZ.wp C (aV G7.res (bY (.bool (l.all p)))) (PF.args [frs l,.fn fn []]) .nil:=by
 simp only[go_sem,HZ,Ln,Lo,G7];refine wp_loop (α:=Nat) (fun k=>((((PF.nil.set 1 (.fn fn [])).set 7 (frs l)).set 8 (.int .i64 (l.length:Nat))).set 9 (.int .i64 k))) (fun _=>.nil) (fun k=>k≤l.length∧(l.take k).all p=true) (fun k=>l.length-k) 0 ⟨a7N _,rfl⟩ ?_ a_ ?_
 ·(repeat' (first|exact c_|refine d_ ?_ ?_))<;>first|(simp only[go_sem,a7G]<;>rfl)|rfl
 rintro k ⟨u,d⟩;simp only[go_sem,Ll,Lp];by_cases hlt:k<l.length
 ·have c:(k:Int)<(l.length:Nat):=Om;have i:(l.map RF.cells)[k]?=some (l[k]).cells:=by simp[hlt]
  simp only[go_sem,c,Lr,i];refine aR fun o w=>?_;simp only[go_sem,Lt];refine aA (h _ (a7J hlt)) Ev ?_;cases e:p l[k] with
  | false =>simp only[go_sem,Lu];exact bD (b:=false) Ev (pC (p:=p) hlt e).symm
  | true =>simp only[go_sem,Lw,wZz k];refine aD (k+1) ⟨hlt,a7W.1 (pB hlt d e)⟩ Om ?_ a_;exact Lq
 ·have c:¬ (k:Int)<(l.length:Nat):=Om;simp only[go_sem,c,Lx];have:k=l.length:=Om;subst this;rw[a8C (a7M _)] at d;exact bD Ev d.symm
theorem Lz {C:Ctx} (p:Int→Bool) (fn:Nat) (l:List Int) (q:Fits l) (h:∀ x∈l,aH C fn [.int .i64 x] .nil (aF (.bool (p x)))) :
  IA.wp C (aV G8.res (bY (.bool (l.all p)))) (PF.args [ints l,.fn fn []]) .nil:=by
 simp only[go_sem,IA,L0,L3,G8];refine wp_loop (α:=Nat) (fun k=>((((PF.nil.set 1 (.fn fn [])).set 7 (ints l)).set 8 (.int .i64 (l.length:Nat))).set 9 (.int .i64 k))) (fun _=>.nil) (fun k=>k≤l.length∧(l.take k).all p=true) (fun k=>l.length-k) 0 ⟨a7N _,rfl⟩ ?_ a_ ?_
 ·(repeat' (first|exact c_|refine d_ ?_ ?_))<;>first|(simp only[go_sem,a7G]<;>rfl)|rfl
 rintro k ⟨u,d⟩;simp only[go_sem,Ly,L4];by_cases hlt:k<l.length
 ·have c:(k:Int)<(l.length:Nat):=Om;have i:(l.map fun n=>[PV.int .i64 n])[k]?=some [.int .i64 l[k]]:=by simp[hlt]
  simp only[go_sem,c,L5,i,L6];refine aA (h _ (a7J hlt)) Ev ?_;cases e:p l[k] with
  | false =>simp only[go_sem,L7];exact bD (b:=false) Ev (pC (p:=p) hlt e).symm
  | true =>simp only[go_sem,L8,wZz k];refine aD (k+1) ⟨hlt,a7W.1 (pB hlt d e)⟩ Om ?_ a_;exact Lq
 ·have c:¬ (k:Int)<(l.length:Nat):=Om;simp only[go_sem,c,L9];have:k=l.length:=Om;subst this;rw[a8C (a7M _)] at d;exact bD Ev d.symm
abbrev ajB (l:List Bool):PV:=.sl 1 (l.map fun b=>[PV.bool b])
theorem Lc {C:Ctx} (p:Bool→Bool) (fn:Nat) (l:List Bool) (q:Fits l) (h:∀ x∈l,aH C fn [.bool x] .nil (aF (.bool (p x)))) :
  HY.wp C (aV G6.res (bY (.bool (l.all p)))) (PF.args [ajB l,.fn fn []]) .nil:=by
 simp only[go_sem,HY,Ld,Le,G6];refine wp_loop (α:=Nat) (fun k=>((((PF.nil.set 1 (.fn fn [])).set 7 (ajB l)).set 8 (.int .i64 (l.length:Nat))).set 9 (.int .i64 k))) (fun _=>.nil) (fun k=>k≤l.length∧(l.take k).all p=true) (fun k=>l.length-k) 0 ⟨a7N _,rfl⟩ ?_ a_ ?_
 ·(repeat' (first|exact c_|refine d_ ?_ ?_))<;>first|(simp only[go_sem,a7G]<;>rfl)|rfl
 rintro k ⟨u,d⟩;simp only[go_sem,La,Lf];by_cases hlt:k<l.length
 ·have c:(k:Int)<(l.length:Nat):=Om;have i:(l.map fun b=>[PV.bool b])[k]?=some [.bool l[k]]:=by simp[hlt]
  simp only[go_sem,c,Lg,i,Lh];refine aA (h _ (a7J hlt)) Ev ?_;cases e:p l[k] with
  | false =>simp only[go_sem,Li];exact bD (b:=false) Ev (pC (p:=p) hlt e).symm
  | true =>simp only[go_sem,Lj,wZz k];refine aD (k+1) ⟨hlt,a7W.1 (pB hlt d e)⟩ Om ?_ a_;exact Lq
 ·have c:¬ (k:Int)<(l.length:Nat):=Om;simp only[go_sem,c,Lk];have:k=l.length:=Om;subst this;rw[a8C (a7M _)] at d;exact bD Ev d.symm
theorem zt {C:Ctx} (b:Bool):CU.wp C (aV ju.res (bY (.bool b))) (PF.args [.bool b]) .nil:=by
 simp only[go_sem,CU,zu,zw,ju];exact bD Ev rfl
theorem Mn {C:Ctx} (c:∀ n lo hi:Int,aH C 104 [.int .i64 n,.int .i64 lo,.int .i64 hi] .nil (aF (.bool (within n lo hi)))) (n:Int):IE.wp C (aV Ha.res (bY (.bool (within n 0 8)))) (PF.args [.int .i64 n]) .nil:=by
 simp only[go_sem,IE,Mo,Mp,Ha];refine aA (c n 0 8) Ev ?_;simp only[go_sem];exact bD Ev rfl
theorem Aa {C:Ctx} (d:∀ x:RF,x.Ok→aH C 105 [.agg x.cells] .nil (aF (.bool (cS x)))) (e:∀ x:RF,x.Ok→aH C 97 [.agg x.cells] .nil (aF (.bool (bG x)))) (x:RF) (c:x.Ok) :
  CV.wp C (aV jx.res (bY (.bool (cS x&&bG x)))) (PF.args [.agg x.cells]) .nil:=by
 simp only[go_sem,CV,Ab,Ac,jx];refine aA (d x c) Ev ?_;cases i:cS x with
 | false =>simp only[go_sem];exact bD Ev rfl
 | true =>simp only[go_sem];refine aA (e x c) Ev ?_;simp only[go_sem];exact bD Ev rfl
structure rB (C:Ctx):Prop extends fk C where
 inn:∀ n lo hi:Int,aH C 104 [.int .i64 n,.int .i64 lo,.int .i64 hi] .nil (aF (.bool (within n lo hi)))
 lK:∀ x:RF,x.Ok→aH C 97 [.agg x.cells] .nil (aF (.bool (bG x)))
 lim:∀ x:RF,x.Ok→aH C 105 [.agg x.cells] .nil (aF (.bool (cS x)))
 one:∀ x:RF,x.Ok→aH C 101 [.agg x.cells] .nil (aF (.bool (wG x)))
 allf:∀ (p:RF→Bool) (fn:Nat) (l:List RF),Fits l→(∀ x∈l,aH C fn [.agg x.cells] .nil (aF (.bool (p x))))→aH C 99 [frs l,.fn fn []] .nil (aF (.bool (l.all p)))
 alli:∀ (p:Int→Bool) (fn:Nat) (l:List Int),Fits l→(∀ x∈l,aH C fn [.int .i64 x] .nil (aF (.bool (p x))))→aH C 100 [ints l,.fn fn []] .nil (aF (.bool (l.all p)))
 allb:∀ (p:Bool→Bool) (fn:Nat) (l:List Bool),Fits l→(∀ x∈l,aH C fn [.bool x] .nil (aF (.bool (p x))))→aH C 98 [ajB l,.fn fn []] .nil (aF (.bool (l.all p)))
 ends1:∀ b:Bool,aH C 103 [.bool b] .nil (aF (.bool b))
 num1:∀ n:Int,aH C 107 [.int .i64 n] .nil (aF (.bool (within n 0 8)))
 rate1:∀ x:RF,x.Ok→aH C 109 [.agg x.cells] .nil (aF (.bool (cS x&&bG x)))
 name:∀ s:List UInt8,aH C 123 [.str s] .nil (aF (.bool (isName s)))
theorem rB.aGD {C:Ctx} (L:rB C) (l:List RF) (h:jS l):aH C 99 [frs l,.fn 105 []] .nil (aF (.bool (l.all cS))) :=
 L.allf cS 105 l h.fits fun x c=>L.lim x (h.all x c)
theorem within_iff {n lo hi:Int}:within n lo hi=true↔lo≤n∧n≤hi:=by simp[within]
theorem Zy {C:Ctx} (L:rB C) (p:bS) (A:p.Ok) :
  QA.wp C (aV akO.res (bY (.bool (KC p)))) (PF.args [.int .i64 p.k,.int .i64 p.m,.int .i64 p.a6T,.agg [.int .i64 p.s0,.int .i64 p.s1,.int .i64 p.s2,.int .i64 p.s3,.int .i64 p.s4]]) .nil:=by
 simp only[go_sem,QA,Zz,Z1,akO];refine aA (L.inn p.k 1 6) rfl ?_;unfold KC;cases q:within p.k 1 6 with
 | false =>simp only[go_sem,a7Y,yE];exact bD rfl (by simp only[a7P])
 | true =>
  obtain⟨k1,k2⟩:=within_iff.1 q;simp only[go_sem,a7L];refine aA (L.inn p.m 0 4) rfl ?_;cases u:within p.m 0 4 with
  | false =>simp only[go_sem,a7Y,yE];exact bD rfl (by simp only[a7P,a8O])
  | true =>
   obtain⟨B,E⟩:=within_iff.1 u;have l:IntKind.i64.wrap (p.k+p.m)=p.k+p.m:=wrap_i64 Om Om;by_cases i:p.k+p.m≤8
   ·have c:¬ p.k+p.m>8:=Om;simp only[go_sem,a7L,l,c];refine aA (L.inn p.a6T p.k (p.k+p.m)) rfl ?_;cases y:within p.a6T p.k (p.k+p.m) with
    | false =>simp only[go_sem,a7Y,yE];exact bD rfl (by simp only[a7P,a8O])
    | true =>
     have d:(0:Int)<((5:Nat):Int):=by decide
     by_cases h5:p.s0=0
     ·have e:chunks 1 5 [PV.int .i64 p.s0,.int .i64 p.s1,.int .i64 p.s2,.int .i64 p.s3,.int .i64 p.s4]=([p.s0,p.s1,p.s2,p.s3,p.s4].map fun n=>[PV.int .i64 n]):=rfl;have w:5≤maxLen:=by decide
      simp only[go_sem,a7L,d,cC h5,Z2,e,w];refine aA (L.alli (fun n=>within n 0 8) 107 [p.s0,p.s1,p.s2,p.s3,p.s4] (show 5≤9223372036854775807 by decide) fun x _=>L.num1 x) rfl ?_;simp only[go_sem];exact bD rfl (by rw[decide_eq_true i,decide_eq_true h5]; simp only[a7R])
     ·simp only[go_sem,a7L,d,dN h5,yE];exact bD rfl (by rw[decide_eq_false h5]; simp only[a7P,a8O])
   ·have c:p.k+p.m>8:=Om;simp only[go_sem,a7L,l,c,yE];exact bD rfl (by rw[decide_eq_false i]; simp only[a7P,a8O])
theorem max_eq (a b:Int):(if a<b then b else a)=max a b:=by
 rw[Int.max_def];by_cases h:a<b
 ·rw[if_pos h,if_pos Om]
 ·by_cases c:a≤b
  ·rw[if_neg h,if_pos c]; omega
  ·rw[if_neg h,if_neg c]
theorem Mt {C:Ctx} (L:rB C) (p:bS) (c:p.Ok) :
  IF.wp C (aV Hb.res (bY (.bool (BR p)))) (PF.args [.int .i64 p.m,frs p.repair,.agg p.target.cells,.agg p.a6F.cells]) .nil:=by
 simp only[go_sem,IF,Mu,Mv,Hb,max_eq,a7G];unfold BR;by_cases d:(p.repair.length:Int)=max p.m 1
 ·simp only[go_sem,bL d];refine aA (L.allf (fun x=>cS x&&bG x) 109 p.repair c.repair.fits fun x e=>L.rate1 x (c.repair.all x e)) rfl ?_;rw[decide_eq_true d,a7R];cases i:p.repair.all fun x=>cS x&&bG x with
  | false =>simp only[go_sem];exact bD rfl rfl
  | true =>
   simp only[go_sem];refine aA (L.lim _ c.target) rfl ?_;cases l:cS p.target with
   | false =>simp only[go_sem];exact bD rfl rfl
   | true =>
    simp only[go_sem];refine aA (L.one _ c.target) rfl ?_;cases q:wG p.target with
    | false =>simp only[go_sem];exact bD rfl rfl
    | true =>simp only[go_sem];refine aA (L.lim _ c.a6F) rfl ?_;simp only[go_sem];exact bD rfl rfl
 ·simp only[go_sem,bF d];exact bD rfl (by rw[decide_eq_false d]; rfl)
def qN (l:List (List UInt8)) (k:List KS):Option PV:=match k with
 | [.str s]=>if l.contains s then some (.bool true) else none
 | _=>none
theorem awM (l:List (List UInt8)) (s:List UInt8):(fun k=>if k=[KS.str s] then some (PV.bool true) else qN l k)=qN (l++[s]):=by
 funext k
 match k with
 | []=>rfl
 | [.int a b]=>simp[qN]
 | [.bool a]=>simp[qN]
 | [.str t] =>
  by_cases h:t=s
  ·subst h; simp[qN]
  ·simp[qN,h]
 | a::b::c=>simp[qN]
abbrev texts (l:List (List UInt8)):PV:=.sl 1 (l.map fun s=>[PV.str s])
theorem awL:qN []=(fun _=>none:jO):=by
 funext k
 match k with
 | []=>rfl
 | [.int a b]=>rfl
 | [.bool a]=>rfl
 | [.str t]=>rfl
 | a::b::c=>cases a<;>rfl
theorem awN (l:List (List UInt8)) (s:List UInt8):jO.upd (qN l) [KS.str s] (.bool true)=qN (l++[s]):=awM l s
theorem Sl (l:List (List UInt8)) (s:List UInt8):(qN l [KS.str s]).getD (.bool false)=.bool (l.contains s):=by
 show (if l.contains s then some (PV.bool true) else none).getD (.bool false)=_;cases l.contains s<;>rfl
theorem wm {p:Nat→Bool} {k:Nat} (h:(a7H k).all p=true) (c:p k=true):(a7H (k+1)).all p=true:=by
 rw[baS,List.all_append,h]; simp[c]
theorem eU {p:Nat→Bool} {n k:Nat} (c:k<n) (d:p k=false):(a7H n).all p=false:=by
 rw[List.all_eq_false];exact⟨k,a8K.2 c,by simp[d]⟩
def rA (p:Nat→Bool) (k:Nat):Prop:=(a7H k).all p=true
theorem rA.zero {p:Nat→Bool}:rA p 0:=rfl
theorem rA.step {p:Nat→Bool} {k:Nat} (h:rA p k) (c:p k=true):rA p (k+1):=wm h c
def apY (l:List (List UInt8)) (o k:Nat):PF:=((((PF.nil.set 3 (.map o)).set 7 (texts l)).set 8 (.int .i64 (l.length:Nat))).set 9 (.int .i64 k))
theorem M0 {C:Ctx} (L:rB C) (l:List (List UInt8)) (B:Fits l):IG.wp C (aV Hc.res (bY (.bool (distinct l)))) (PF.args [texts l]) .nil:=by
 simp only[go_sem,IG,M1,M2,Hc];refine aR fun o F=>?_;simp only[go_sem,M3];have x:(PH.nil.set o (.map (false,[.str]) (fun _=>none)))=PH.nil.set o (.map (false,[.str]) (qN (l.take 0))):=by rw[List.take_zero,awL]
 unfold distinct;generalize y:(fun i=>isName (l.getD i [])&&!(l.take i).contains (l.getD i []))=p;have q:∀ k (h:k<l.length),p k=(isName l[k]&&!(l.take k).contains l[k]):=by intro k h;rw[← y];simp only[a7Z,a7U h,baH]
 refine wp_loop (α:=Nat) (fun k=>apY l o k) (fun k=>PH.nil.set o (.map (false,[.str]) (qN (l.take k)))) (fun k=>k≤l.length∧rA p k) (fun k=>l.length-k) 0 ⟨a7N _,.zero⟩ ?_ ?_ ?_
 ·unfold apY
  (repeat' (first|exact c_|refine d_ ?_ ?_))<;>first|(simp only[go_sem,a7G]<;>rfl)|rfl
 ·rw[x]; exact b_
 rintro k ⟨E,w⟩;simp only[go_sem,Mz,M4,apY];by_cases hlt:k<l.length
 ·have d:(k:Int)<(l.length:Nat):=Om;have A:(l.map fun s=>[PV.str s])[k]?=some [.str l[k]]:=by simp[hlt]
  simp only[go_sem,d,M5,A,M6];refine aA (L.name l[k]) rfl ?_;have c:=q k hlt;cases u:isName l[k] with
  | false =>rw[u,a7P] at c;simp only[go_sem,a7Y,aa];exact bD (b:=false) rfl (eU hlt c).symm
  | true =>
   rw[u,a7R] at c;cases e:(l.take k).contains l[k] with
   | true =>rw[e] at c;simp only[go_sem,a7L,Sl,e,aa];exact bD (b:=false) rfl (eU hlt c).symm
   | false =>
    rw[e] at c;simp only[go_sem,a7L,Sl,e,M7,awN,M8,wZz k];refine aD (k+1) ⟨hlt,w.step c⟩ Om ?_ ?_
    ·exact Lq
    ·rw[a9E hlt];exact PH.aK a_ Sq
 ·have d:¬ (k:Int)<(l.length:Nat):=Om;simp only[go_sem,d,Ad];have:k=l.length:=Om;subst this;exact bD (b:=true) rfl (show rA p l.length from w).symm
def marks (n:Nat) (l:List Int):List Bool:=(a7H n).map fun (i:Nat)=>l.contains (i:Int)
theorem QJ (n:Nat) (l:List Int):(marks n l).length=n:=by simp[marks]
theorem At (n:Nat):marks n []=a7K n false:=by
 refine baO (by simp[marks]) fun i c d=>by simp[marks]
theorem zQ {n:Nat} {l:List Int} {m:Int} (c:0≤m) (d:m<n):(marks n l)[m.toNat]?=some (l.contains m):=by
 have:m.toNat<n:=Om;simp only[marks,a8F,List.getElem?_range this,a8W];rw[Int.toNat_of_nonneg c]
theorem QK {n:Nat} {l:List Int} {m:Int} (d:0≤m) (e:m<n):(marks n l).set m.toNat true=marks n (l++[m]):=by
 refine baO (by simp[marks]) fun i p q=>?_;simp only[marks,a9B,List.getElem_range,List.getElem_set,List.contains_append];by_cases h:m.toNat=i
 ·subst h;rw[if_pos rfl,Int.toNat_of_nonneg d]; simp
 ·have c:((i:Nat):Int)≠m:=Om;rw[if_neg h]; simp[c]
abbrev dJ (l:List Bool):List (List PV):=l.map fun b=>[PV.bool b]
theorem jX (l:List Bool) (i:Nat) (b:Bool):(dJ l).set i [.bool b]=dJ (l.set i b):=by unfold dJ; rw[List.map_set]
structure fj (C:Ctx):Prop extends rB C where
 num:∀ p:bS,p.Ok→aH C 106 [.int .i64 p.k,.int .i64 p.m,.int .i64 p.a6T,.agg [.int .i64 p.s0,.int .i64 p.s1,.int .i64 p.s2,.int .i64 p.s3,.int .i64 p.s4]] .nil (aF (.bool (KC p)))
 rate:∀ p:bS,p.Ok→aH C 108 [.int .i64 p.m,frs p.repair,.agg p.target.cells,.agg p.a6F.cells] .nil (aF (.bool (BR p)))
 uniq:∀ l:List (List UInt8),Fits l→aH C 110 [texts l] .nil (aF (.bool (distinct l)))
def aHY (p:bS) (a5W:Nat) (o k:Nat):PF:=(((((PF.nil.set 1 (.int .i64 a5W)).set 5 (.osl o 1 0 a5W)).set 39 (ints p.a5W)).set 40 (.int .i64 (p.a5W.length:Nat))).set 41 (.int .i64 k))
theorem Z7 {C:Ctx} (L:fj C) (p:bS) (B:p.Ok) (a5W:Nat) (R:a5W≤4):QC.wp C (aV akP.res (bY (.bool (jJ a5W p)))) (PF.args [.agg p.cells,.int .i64 a5W]) .nil:=by
 simp only[go_sem,QC,Z8,Z9,akP];refine aA (L.num p B) rfl ?_;unfold jJ;cases l:KC p with
 | false =>simp only[go_sem,a7Y,UU];exact bD rfl (by simp only[a7P])
 | true =>
  by_cases i:p.a5W.length=0
  ·simp only[go_sem,a7L,a7G,bL (Om:(p.a5W.length:Int)=0),UU];refine bD rfl ?_;have:decide (p.a5W.length≠0)=false:=by simp[i]
   rw[this]; simp only[a7P,a8O]
  ·have x:decide (p.a5W.length≠0)=true:=by simp[i]
   simp only[go_sem,a7L,a7G,bF (Om:(p.a5W.length:Int)≠0)];refine aA (L.rate p B) rfl ?_;rw[x];cases O:BR p with
   | false =>simp only[go_sem,a7Y,UU];exact bD rfl (by simp only[a7P,a8O])
   | true =>
    have y:((a5W:Nat):Int)*((1:Nat):Int)≤140737488355328:=Om;have A:((a5W:Nat):Int)≤9223372036854775807:=Om;simp only[a7R];simp only[go_sem,a7L,aaA,y,A];refine aR fun o S=>?_;simp only[go_sem,aaB];have J:a7K a5W [PV.bool false]=dJ (marks a5W (p.a5W.take 0)):=by rw[List.take_zero,At]; simp[dJ]
    rw[J];generalize K:(fun j=>within (p.a5W.getD j 0) 0 ((a5W:Int)-1)&&!(p.a5W.take j).contains (p.a5W.getD j 0))=q;have E:∀ k (h:k<p.a5W.length),q k=(within p.a5W[k] 0 ((a5W:Int)-1)&&!(p.a5W.take k).contains p.a5W[k]):=by intro k h;rw[← K];simp only[a7Z,a7U h,baH]
    refine wp_loop (α:=Nat) (fun k=>aHY p a5W o k) (fun k=>PH.nil.set o (.rows 1 (dJ (marks a5W (p.a5W.take k))))) (fun k=>k≤p.a5W.length∧rA q k) (fun k=>p.a5W.length-k) 0 ⟨a7N _,.zero⟩ ?_ (b_) ?_
    ·unfold aHY
     (repeat' (first|exact c_|refine d_ ?_ ?_))<;>first|(simp only[go_sem,a7G]<;>rfl)|rfl
    rintro k ⟨Q,F⟩;simp only[go_sem,Mq,aaC,aHY];have H:=B.a5W;by_cases hlt:k<p.a5W.length
    ·have d:(k:Int)<(p.a5W.length:Nat):=Om;have M:(p.a5W.map fun n=>[PV.int .i64 n])[k]?=some [.int .i64 p.a5W[k]]:=by simp[hlt]
     have N:IntKind.i64.wrap ((a5W:Int)-1)=(a5W:Int)-1:=wrap_i64 Om Om;simp only[go_sem,d,aaD,M,aaE,N];refine aA (L.inn p.a5W[k] 0 ((a5W:Int)-1)) rfl ?_;have c:=E k hlt;cases l:within p.a5W[k] 0 ((a5W:Int)-1) with
     | false =>rw[l,a7P] at c;simp only[go_sem,a7Y,uw];exact bD (b:=false) rfl (eU hlt c).symm
     | true =>
      rw[l,a7R] at c;obtain⟨u,U⟩:=within_iff.1 l;have w:p.a5W[k]<(a5W:Nat):=Om;have e:(dJ (marks a5W (p.a5W.take k)))[p.a5W[k].toNat]?=some [.bool ((p.a5W.take k).contains p.a5W[k])]:=by unfold dJ;rw[a8F,zQ u w]; rfl
      cases i:(p.a5W.take k).contains p.a5W[k] with
      | true =>rw[i] at c e;simp only[go_sem,a7L,u,w,a8E,e,uw];exact bD (b:=false) rfl (eU hlt c).symm
      | false =>
       rw[i] at c e;simp only[go_sem,a7L,u,w,a8E,e,aaF,jX,QK u w,Mr,wZz k];refine aD (k+1) ⟨hlt,F.step c⟩ Om ?_ ?_
       ·exact Lq
       ·rw[a9E hlt];exact PH.aK a_ Sq
    ·have d:¬ (k:Int)<(p.a5W.length:Nat):=Om;simp only[go_sem,d,Ms];have:k=p.a5W.length:=Om;subst this;exact bD (b:=true) rfl (show rA q p.a5W.length from F).symm
def aEO:PV→RF
 | .agg [.bool n,a,b]=>⟨n,jE a,jE b⟩
 | _=>⟨false,[],[]⟩
theorem ajS (x:RF):aEO (.agg x.cells)=x:=by
 show (⟨x.neg,jE (aJ x.num),jE (aJ x.den)⟩:RF)=x;rw[eG,eG]
def flS:Spec:=fun name vs=>match name,vs with
 | 104,[.int _ n,.int _ lo,.int _ hi]=>some ([],fun _=>aF (.bool (within n lo hi)))
 | 105,[x]=>some ([],fun _=>aF (.bool (cS (aEO x))))
 | 97,[x]=>some ([],fun _=>aF (.bool (bG (aEO x))))
 | _,_=>none
theorem Kv (n lo hi:Int):flS 104 [.int .i64 n,.int .i64 lo,.int .i64 hi]=some ([],fun _=>aF (.bool (within n lo hi))):=rfl
theorem aPF (x:RF):flS 105 [.agg x.cells]=some ([],fun _=>aF (.bool (cS x))):=by
 show some _=_; rw[ajS]
def akL (f:aE) (t:List cD) (k:Nat):PF:=((((PF.nil.set 1 (.bH f.cells)).set 45 (.sl 7 (t.map cD.cells))).set 46 (.int .i64 (t.length:Nat))).set 47 (.int .i64 k))
theorem Zf {C:Ctx} (L:rB C) (f:aE) (Y:f.Ok):BG.wp C (aV Ma.res (bY (.bool (nL f)))) (PF.args [.agg f.cells]) .nil:=by
 obtain⟨a6Z,a6C,a5W,a5Y,a5V,a5Z,a5X⟩:=f;cases a5Y with
 | nil =>rw[show nL ⟨a6Z,a6C,a5W,[],a5V,a5Z,a5X⟩=false from rfl];simp only[go_sem,BG,ut,uu,Ma,a9P,a9W];have:(((0:Nat):Int)==0)=true:=rfl;simp only[go_sem,this,Zg];exact bD rfl rfl
 | cons r t =>
  generalize hF:(⟨a6Z,a6C,a5W,r::t,a5V,a5Z,a5X⟩:aE)=f at *
  have A:f.a5Y=r::t:=by rw[← hF]
  have hP:nL f=BB f r t:=by unfold nL; rw[A]
  rw[hP];unfold BB;have e:f.a5Y.length=t.length+1:=by rw[A]; rfl
  have Z:=Y.a5Y;have H:(f.a5Y.map cD.cells)[0]?=some r.cells:=by rw[A]; rfl
  have β:(f.a5Y.map cD.cells)[Int.toNat 0]?=some r.cells:=H;have E:=Y.dom;have u:=E r (by rw[A]; exact List.mem_cons_self ..);simp only[go_sem,BG,ut,uu,Ma,a7G,e,bF (Om:((t.length+1:Nat):Int)≠0),Zh,H];refine aR fun o ho=>?_;by_cases w:r.name=[]
  ·rw[decide_eq_true w];by_cases y:r.level=0
   ·rw[decide_eq_true y];by_cases B:r.parent=-1
    ·rw[decide_eq_true B];by_cases J:r.a6P=0
     ·rw[decide_eq_true J];simp only[go_sem,yC,pV w,a7L,cC y,cC B,cC J];refine aA (L.lim r.a6K u.1) rfl ?_;cases c5:cS r.a6K with
      | false =>simp only[go_sem,a7Y,uB];exact bD rfl (by simp only[a8O,a7P])
      | true =>
       simp only[go_sem,a7L];refine aA (L.lK r.a6K u.1) rfl ?_;cases c6:bG r.a6K with
       | true =>simp only[go_sem,uB];exact bD rfl (by simp only[a7L,a8O,a7P])
       | false =>
        have S:(0:Int)≤1∧(1:Int)≤((t.length+1:Nat):Int):=Om;have x:((f.a5Y.map cD.cells).take (t.length+1)).drop (Int.toNat 1)=t.map cD.cells:=by rw[a8C (by simp[e]),A]; rfl
        have p:((f.a5Y.map cD.cells).take (t.length+1)).drop 1=t.map cD.cells:=x;simp only[go_sem,Zi,a7G,e,S,p,a9A];generalize hq:(fun i=>match t[i]? with | some d=>HL f i d | none=>false)=q;have Q:∀ k (h:k<t.length),q k=HL f k t[k]:=by intro k h;rw[← hq];simp only[a7U h]
        refine wp_loop (α:=Nat) (fun k=>akL f t k) (fun k=>.nil) (fun k=>k≤t.length∧rA q k) (fun k=>t.length-k) 0 ⟨a7N _,.zero⟩ ?_ a_ ?_
        ·unfold akL
         (repeat' (first|exact c_|refine d_ ?_ ?_))<;>first|(simp only[go_sem,a7G]<;>rfl)|rfl
        rintro k ⟨hk,X⟩;simp only[go_sem,Mb,Zj,akL];by_cases hlt:k<t.length
        ·have l:(k:Int)<(t.length:Nat):=Om;have R:(t.map cD.cells)[k]?=some (t[k]).cells:=by simp[hlt]
         have N:=E t[k] (by rw[A]; exact List.mem_cons_of_mem _ (a7J hlt));have c:=Q k hlt;unfold HL at c;simp only[go_sem,l,Zk,R];refine aR fun o2 γ=>?_;simp only[go_sem];refine bW .nil flS a_ ?_;simp only[go_sem,Zl];refine bP (Kv _ 0 k) (L.inn (t[k]).parent 0 k) rfl a_ ?_;cases M:within (t[k]).parent 0 k with
         | false =>simp only[M,a7P] at c;simp only[go_sem,a7Y,uA];exact bD (b:=false) rfl (eU hlt c).symm
         | true =>
          obtain⟨i1,i2⟩:=within_iff.1 M;have i3:(t[k]).parent.toNat<f.a5Y.length:=Om;have F:(f.a5Y.map cD.cells)[(t[k]).parent.toNat]?=some (f.a5Y[(t[k]).parent.toNat]).cells:=by simp[i3]
          have O:(f.a5Y.map cD.level).getD (t[k]).parent.toNat 0=(f.a5Y[(t[k]).parent.toNat]).level:=by simp[i3]
          rw[O,M,a7R] at c;by_cases K:(f.a5Y[(t[k]).parent.toNat]).level=IntKind.i64.wrap ((t[k]).level-1)
          ·rw[decide_eq_true K,a7R] at c;simp only[go_sem,a7L,i1,F,cC K];refine bP (Kv _ 1 4) (L.inn (t[k]).level 1 4) rfl a_ ?_;cases U:within (t[k]).level 1 4 with
           | false =>simp only[U,a7P] at c;simp only[go_sem,a7Y,uA];exact bD (b:=false) rfl (eU hlt c).symm
           | true =>
            rw[U,a7R] at c;simp only[go_sem,a7L];refine bP (Kv _ 1 64) (L.inn (t[k]).a6P 1 64) rfl a_ ?_;cases V:within (t[k]).a6P 1 64 with
            | false =>simp only[V,a7P] at c;simp only[go_sem,a7Y,uA];exact bD (b:=false) rfl (eU hlt c).symm
            | true =>
             rw[V,a7R] at c;simp only[go_sem,a7L];refine bP (aPF (t[k]).a6K) (L.lim _ N.1) rfl a_ ?_;cases W:cS (t[k]).a6K with
             | false =>rw[W] at c;simp only[go_sem,a7Y,uA];exact bD (b:=false) rfl (eU hlt c).symm
             | true =>rw[W] at c;simp only[go_sem,a7L,Mc,wZz k];refine aD (k+1) ⟨hlt,X.step c⟩ Om ?_ a_;exact Lq
          ·simp only[decide_eq_false K,a7P] at c;simp only[go_sem,a7L,i1,F,dN K,uA];exact bD (b:=false) rfl (eU hlt c).symm
        ·have l:¬ (k:Int)<(t.length:Nat):=Om;simp only[go_sem,l,Md];have:k=t.length:=Om;subst this;exact bD (b:=true) rfl (show rA q t.length from X).symm
     ·simp only[go_sem,yC,pV w,a7L,cC y,cC B,dN J,uB];exact bD rfl (by rw[decide_eq_false J]; simp only[a8O,a7P])
    ·simp only[go_sem,yC,pV w,a7L,cC y,dN B,uB];exact bD rfl (by rw[decide_eq_false B]; simp only[a8O,a7P])
   ·simp only[go_sem,yC,pV w,a7L,dN y,uB];exact bD rfl (by rw[decide_eq_false y]; simp only[a8O,a7P])
  ·simp only[go_sem,yC,ge w,a7Y,uB];exact bD rfl (by rw[decide_eq_false w]; simp only[a8O,a7P])
theorem tG (R:List Bool) (i:Nat) (row:List RF):∀ k,(cK R i row k).length=R.length
 | 0=>rfl
 | k+1=>by simp only[cK,a9L,tG R i row k]
theorem Rt (l:cE) (R:List Bool) (i:Nat):(kG l R i).length=R.length:=by
 unfold kG; rw[tG,a9L]
theorem qK (l:cE) (R:List Bool):∀ i,(cV l R i).length=R.length
 | 0=>rfl
 | i+1=>by simp only[cV,Rt,qK l R i]
theorem qJ (l:cE):∀ r,(cW l r).length=l.exit.length
 | 0=>by simp[cW]
 | r+1=>by simp only[cW,qK,qJ l r]
theorem rH {R:List Bool} {i:Nat} (h:i<R.length):(dJ R)[i]?=some [.bool (R.getD i false)]:=by
 unfold dJ;rw[a8F,a7U h,a7Z,a7U h]; rfl
theorem AV (R:List Bool):(dJ R).length=R.length:=by simp[dJ]
def UP (l:cE) (o r:Nat):PF:=(((PF.nil.set 1 (.bH l.cells)).set 3 (.osl o 1 0 l.exit.length)).set 4 (.int .i64 r))
def HN (l:cE) (o r i:Nat):PF:=(((((PF.nil.set 1 (.bH l.cells)).set 3 (.osl o 1 0 l.exit.length)).set 4 (.int .i64 r)).set 19 (.int .i64 (l.exit.length:Nat))).set 20 (.int .i64 i))
def sN (l:cE) (o r i:Nat) (row:List RF) (k:Nat):PF:=(((((((((PF.nil.set 1 (.bH l.cells)).set 3 (.osl o 1 0 l.exit.length)).set 4 (.int .i64 r)).set 19 (.int .i64 (l.exit.length:Nat))).set 20 (.int .i64 i)).set 5 (.int .i64 i)).set 42 (frs row)).set 43 (.int .i64 (row.length:Nat))).set 44 (.int .i64 k))
def gY (o:Nat) (R:List Bool):PH:=PH.nil.set o (.rows 1 (dJ R))
theorem Vz {C:Ctx} (L:rB C) (l:cE) (o r i:Nat) (row:List RF) (B:jS row) (V:row.length=l.exit.length) (hi:i<l.exit.length) (Z:l.exit.length≤4) (d:List Bool) (W:d.length=l.exit.length) (K:bR) (F:PF) (H:PH)
  (M:(sN l o r i row 0).le F) (E:(gY o d).le H)
  (S:∀ F H,(sN l o r i row row.length).le F→(gY o (cK d i row row.length)).le H→K .normal F H) :
  aC.wp C (.block 4 (.loop BH)) K F H:=by
 simp only[go_sem];refine wp_loop (α:=Nat) (fun k=>sN l o r i row k) (fun k=>gY o (cK d i row k)) (fun k=>k≤row.length) (fun k=>row.length-k) 0 (a7N _) M E ?_;intro k Y;simp only[go_sem,BH,Ml,sN,gY];have O:=tG d i row k;by_cases hlt:k<row.length
 ·have e:(k:Int)<(row.length:Nat):=Om;have U:(row.map RF.cells)[k]?=some (row[k]).cells:=by simp[hlt]
  simp only[go_sem,e,zy,U];refine aR fun o7 y=>?_;have J:o≠o7:=by rintro rfl; simp only[aT,if_true] at y; cases y
  have q:(i:Int)<(l.exit.length:Nat):=Om;have x:(k:Int)<(l.exit.length:Nat):=Om;have p:=rH (R:=cK d i row k) (i:=i) Om;have u:=rH (R:=cK d i row k) (i:=k) Om;have w:cK d i row (k+1)=(cK d i row k).set i ((cK d i row k).getD i false||bG row[k]&&(cK d i row k).getD k false):=by simp only[cK,a7Z,a8F,a7U hlt,a8W,baH]
  have fin:∀ (b:Bool) (F:PF) (H:PH),b=((cK d i row k).getD i false||bG row[k]&&(cK d i row k).getD k false)→(sN l o r i row (k+1)).le F→H o=some (.rows 1 ((dJ (cK d i row k)).set i [.bool b])) →
    fJ (fun k=>sN l o r i row k) (fun k=>gY o (cK d i row k)) (fun k=>k≤row.length) (fun k=>row.length-k) (row.length-k) (eX 4 K) .normal F H:=by
   intro b F H N M E;refine aD (k+1) hlt Om M ?_;rw[jX,N,← w] at E;exact PH.aK a_ E
  unfold sN gY at fin;generalize N:(cK d i row k).getD i false=b at *
  generalize X:(cK d i row k).getD k false=c at *
  generalize Q:bG row[k]=A at *
  cases b with
  | true =>simp only[go_sem,PW,J,q,a8E,p,BJ,wZz k];exact fin true _ _ (by simp) Lq Sq
  | false =>
   simp only[go_sem,PW,J,q,a8E,p];refine aA (L.lK _ (B.all _ (a7J hlt))) rfl ?_;rw[Q];cases A with
   | false =>simp only[go_sem,q,x,J,a8E,p,u,BJ,wZz k];exact fin false _ _ (by simp) Lq Sq
   | true =>simp only[go_sem,q,x,J,a8E,p,u,BJ,wZz k];exact fin c _ _ (by simp) Lq Sq
 ·have e:¬ (k:Int)<(row.length:Nat):=Om;simp only[go_sem,e];have:k=row.length:=Om;subst this;exact S _ _ (by unfold sN; exact Lq) (b_)
structure AP (l:cE):Prop where
 n:l.exit.length≤4
 a6A:l.a6A.length=l.exit.length
 row:∀ r∈l.a6A,r.length=l.exit.length
theorem V0 {C:Ctx} (L:rB C) (l:cE) (Q:l.Ok) (N:AP l) (o r:Nat) (R:List Bool) (hR:R.length=l.exit.length) (K:bR) (F:PF) (H:PH)
  (p:(HN l o r 0).le F) (J:(gY o R).le H)
  (hK:∀ F H,(UP l o r).le F→(gY o (cV l R l.exit.length)).le H→K .normal F H) :
  aC.wp C (.block 2 (.loop BI)) K F H:=by
 simp only[go_sem];refine wp_loop (α:=Nat) (fun i=>HN l o r i) (fun i=>gY o (cV l R i)) (fun i=>i≤l.exit.length) (fun i=>l.exit.length-i) 0 (a7N _) p J ?_;intro i hi;have S:=qK l R i;have hn:=N.n;by_cases hlt:i<l.exit.length
 ·have c:(i:Int)<(l.exit.length:Nat):=Om;have e:i<l.a6A.length:=by rw[N.a6A]; exact hlt
  have u:=rH (R:=cV l R i) (i:=i) Om;have hx:(l.exit.map RF.cells)[i]?=some (l.exit[i]).cells:=by simp[hlt]
  have A:(l.a6A.map fun r=>[frs r])[i]?=some [frs l.a6A[i]]:=by simp[e]
  have O:(l.a6A[i]).length=l.exit.length:=N.row _ (a7J e);generalize d:(cV l R i).set i ((cV l R i).getD i false||bG l.exit[i])=B;have y:B.length=l.exit.length:=by rw[← d,a9L]; omega
  have w:cV l R (i+1)=cK B i l.a6A[i] (l.a6A[i]).length:=by
   simp only[cV,kG];have V:(l.exit.map bG).getD i false=bG l.exit[i]:=by simp[a7Z,hlt]
   have W:l.a6A.getD i []=l.a6A[i]:=by simp[a7Z,e]
   rw[V,W,d]
  have rest:∀ (F:PF) (H:PH),(((((((PF.nil.set 1 (.bH l.cells)).set 3 (.osl o 1 0 l.exit.length)).set 4 (.int .i64 r)).set 19 (.int .i64 (l.exit.length:Nat))).set 20 (.int .i64 i)).set 5 (.int .i64 i)):PF).le F→H o=some (.rows 1 (dJ B)) →
    aC.wp C (.seq (.region ZU) (.block 4 (.loop BH))) (eX 3 (gE C (aC.wp C (.region PX)) (fJ (fun i=>HN l o r i) (fun i=>gY o (cV l R i)) (fun i=>i≤l.exit.length) (fun i=>l.exit.length-i) (l.exit.length-i) (eX 2 K)))) F H:=by
   intro F H p J;have f1:F 1=some (.bH l.cells):=p 1 _ rfl;have f3:F 3=some (.osl o 1 0 l.exit.length):=p 3 _ rfl;have f4:F 4=some (.int .i64 r):=p 4 _ rfl;have X:F 19=some (.int .i64 (l.exit.length:Nat)):=p 19 _ rfl;have Y:F 20=some (.int .i64 i):=p 20 _ rfl;have Z:F 5=some (.int .i64 i):=p 5 _ rfl;rw[xj];simp only[go_sem,ZU,f1,Z,A,a7G];have inner:=Vz L l o r i l.a6A[i] (Q.row _ (a7J e)) O hlt hn B y;simp only[aC.wp,go_sem] at inner;refine inner _ _ _ ?_ (PH.aK a_ J) ?_
   ·unfold sN;exact Lq
   ·intro U H' x M;have E:U 20=some (.int .i64 i):=x 20 _ (by unfold sN; simp only[go_sem]);simp only[go_sem,PX,E,wZz i];refine aD (i+1) hlt Om ?_ (by rw[w]; exact M);have g:=fun (q:Nat) v h=>x q v h;unfold HN;unfold sN at g;refine d_ (d_ (d_ (d_ (d_ c_ ?_) ?_) ?_) ?_) ?_
    ·simp only[go_sem]; exact g 1 _ rfl
    ·simp only[go_sem]; exact g 3 _ rfl
    ·simp only[go_sem]; exact g 4 _ rfl
    ·simp only[go_sem]; exact g 19 _ rfl
    ·simp only[go_sem]
  simp only[aC.wp,go_sem] at rest;simp only[go_sem,BI,ZS,HN,gY,c,Mk];generalize hb:(cV l R i).getD i false=b at *
  cases b with
  | true =>simp only[go_sem,ZT,c,a8E,u];refine rest _ _ Lq ?_;rw[← d];simp only[go_sem,jX,Bool.true_or]
  | false =>simp only[go_sem,ZT,c,a8E,u,hx];refine aA (L.lK _ (Q.exit.all _ (a7J hlt))) rfl ?_;simp only[go_sem,c,a8E,u];refine rest _ _ Lq ?_;rw[← d];simp only[go_sem,jX,Bool.false_or]
 ·have c:¬ (i:Int)<(l.exit.length:Nat):=Om;simp only[go_sem,BI,ZS,HN,gY,c];have:i=l.exit.length:=Om;subst this;exact hK _ _ (by unfold UP; exact Lq) b_
theorem Me {C:Ctx} (L:rB C) (l:cE) (E:l.Ok) (y:AP l):IB.wp C (aV G9.res (bY (.bool (oR l)))) (PF.args [.agg l.cells]) .nil:=by
 have F:=y.n;have u:(l.exit.length:Int)*((1:Nat):Int)≤140737488355328:=Om;have w:(l.exit.length:Int)≤9223372036854775807:=Om;simp only[go_sem,IB,Mf,Mg,G9,a7G,u,w];refine aR fun o H=>?_;simp only[go_sem,Mh];refine wp_loop (α:=Nat) (fun r=>UP l o r) (fun r=>gY o (cW l r)) (fun r=>r≤l.exit.length+1) (fun r=>l.exit.length+1-r) 0 (a7N _) ?_ ?_ ?_
 ·unfold UP;exact Lq
 ·refine PH.aK a_ ?_;simp only[go_sem,cW];simp[dJ]
 intro r J;have d:=qJ l r;simp only[go_sem,zx,Mi,UP,gY];by_cases hlt:r≤l.exit.length
 ·have c:(r:Int)≤(l.exit.length:Nat):=Om;simp only[go_sem,c,Mj];have inner:=V0 L l E y o r (cW l r) d;simp only[aC.wp,go_sem] at inner;refine inner _ _ _ ?_ b_ ?_
  ·unfold HN;exact Lq
  ·intro A H' i p;have g:=fun (q:Nat) v h=>i q v h;unfold UP at g;have g4:A 4=some (.int .i64 r):=g 4 _ rfl;simp only[go_sem,zz,g4,wZz r];refine aD (r+1) Om Om ?_ p;refine d_ (d_ (d_ c_ ?_) ?_) ?_
   ·simp only[go_sem]; exact g 1 _ rfl
   ·simp only[go_sem]; exact g 3 _ rfl
   ·simp only[go_sem]
 ·have c:¬ (r:Int)≤(l.exit.length:Nat):=Om;have:r=l.exit.length+1:=Om;subst this;simp only[go_sem,c,z8];have e:=L.allb id 103 (cW l (l.exit.length+1)) (Om:(cW l (l.exit.length+1)).length≤_) fun x _=>L.ends1 x;have B:(dJ (cW l (l.exit.length+1))).length=l.exit.length:=by rw[AV,d]
  refine qZ e (rs:=dJ (cW l (l.exit.length+1))) (o:=o) (s:=1) Sq ?_ ?_
  ·simp only[go_sem,tZ (show l.exit.length≤(dJ (cW l (l.exit.length+1))).length by omega),a8C (show (dJ (cW l (l.exit.length+1))).length≤l.exit.length by omega)]
  ·simp only[go_sem];exact bD rfl rfl
structure NW (C:Ctx):Prop extends fj C where
 ends:∀ l:cE,l.Ok→AP l→aH C 102 [.agg l.cells] .nil (aF (.bool (oR l)))
def rM (l:cE) (i:Nat):Bool:=decide ((l.a6A.getD i []).length=l.start.length)&&(l.a6A.getD i []).all cS&&!((l.a6A.getD i []).map bG).getD i false
def uN (l:cE):Bool:=match nG (l.start.map RF.v) with
 | .ok (n,a,b)=>decide (pL n a b false 1 1=0)
 | .error _=>false
theorem aaO (l:cE):jZ l=(within l.start.length 1 4&&decide (l.exit.length=l.start.length)&&decide (l.a6A.length=l.start.length)&&l.start.all cS&&l.exit.all cS&&(a7H l.a6A.length).all (rM l)&&uN l&&oR l):=rfl
theorem Su {l:List FV} {e:Int} (h:nG l=.error e):e≠0:=by
 have:∀ (l:List FV) (b:FV) (e:Int),l.foldlM gI b=.error e→e≠0:=by
  intro l
  induction l with
  | nil=>intro b e h; cases h
  | cons x t i =>
   intro b e h;rw[List.foldlM_cons] at h;cases c:gI b x with
   | error d =>
    rw[c] at h;have:d=e:=by injection h
    subst this;obtain⟨p,a1,b1⟩:=b;obtain⟨q,a2,b2⟩:=x;simp only[gI] at c;split at c
    ·split at c
     ·rw[IV c]; decide
     ·split at c
      ·rw[IV c]; decide
      ·rw[IV c]; decide
    ·injection c with c; subst c; decide
   | ok y=>rw[c] at h; exact i y e h
 exact this l _ e h
theorem aeO {l:List FV} {r:FV} (h:nG l=.ok r):r.rf.Ok:=by
 have:∀ (l:List FV) (b r:FV),b.rf.Ok→l.foldlM gI b=.ok r→r.rf.Ok:=by
  intro l
  induction l with
  | nil=>intro b r d h; injection h with h; subst h; exact d
  | cons x t e =>
   intro b r d h;rw[List.foldlM_cons] at h;cases c:gI b x with
   | error i=>rw[c] at h; cases h
   | ok y=>rw[c] at h; exact e y r (tz c) h
 refine this l _ r ⟨aX _,aX _,?_,?_⟩ h
 ·show (aI 0).length≤_;rw[fO]; simp
 ·show (aI 1).length≤_;rw[oI (by decide) (by decide)]; simp
theorem IW {neg:Bool} {a b:Nat} {r:FV} (c:b≠0) (h:iH neg a b=.ok r):cU r.2.1 r.2.2=true:=by
 unfold iH at h;split at h
 ·cases h
 ·rename_i l;injection h with h
  subst h;have d:a7I a b ∣ b:=Nat.gcd_dvd_right _ _;have e:b/a7I a b≠0:=by have:=Nat.div_pos (Nat.le_of_dvd (a9U c) d) (a9U fun h=>c (Nat.gcd_eq_zero_iff.1 h).2);omega
  have i:=@jW (b/a7I a b);simp only[cU,a7X,decide_eq_true_eq];omega
theorem aiP {x y r:FV} (h:gI x y=.ok r):cU r.2.1 r.2.2=true:=by
 obtain⟨e,a1,b1⟩:=x;obtain⟨i,a2,b2⟩:=y;simp only[gI] at h;split at h
 ·rename_i d;rw[a7X] at d;have c:b1*b2≠0:=Nat.mul_ne_zero (fR.1 d.1).1 (fR.1 d.2).1;split at h
  ·exact IW c h
  ·split at h
   ·exact IW c h
   ·exact IW c h
 ·cases h
theorem aqE:cU 0 1=true:=by
 have:cM 1=1:=by rw[pD (by decide),jN]
 simp[cU,this,jN]
theorem ou {l:List FV} {r:FV} (h:nG l=.ok r):cU r.2.1 r.2.2=true:=by
 have:∀ (l:List FV) (b r:FV),cU b.2.1 b.2.2=true→l.foldlM gI b=.ok r→cU r.2.1 r.2.2=true:=by
  intro l
  induction l with
  | nil=>intro b r d h; injection h with h; subst h; exact d
  | cons x t e =>
   intro b r d h;rw[List.foldlM_cons] at h;cases c:gI b x with
   | error i=>rw[c] at h; cases h
   | ok y=>rw[c] at h; exact e y r (aiP c) h
 exact this l _ r aqE h
theorem aEZ:(⟨false,[],[]⟩:RF).Ok:=⟨fun _ h=>absurd h (a8B),fun _ h=>absurd h (a8B),show 0≤35184372087808 by decide,show 0≤35184372087808 by decide⟩
def aFY (l:cE) (k:Nat):PF:=(((((PF.nil.set 1 (.bH l.cells)).set 3 (.int .i64 (l.start.length:Nat))).set 45 (anJ l.a6A)).set 46 (.int .i64 (l.a6A.length:Nat))).set 47 (.int .i64 k))
theorem asP {C:Ctx} (L:NW C) (l:cE) (A:l.Ok) (J:AP l) (F:PF) (u:F 1=some (.bH l.cells)) :
  aC.wp C (.seq (.region ZV) (.seq (.region IC) (.seq (.region ID) (.seq (.region uC) .ret)))) (aV [.tmp 2] (bY (.bool (uN l&&oR l)))) F .nil:=by
 simp only[go_sem,ZV,u];refine aA (L.tot l.start A.start) rfl ?_;obtain⟨B,x,y,e,Q⟩:=tX (nG (l.start.map RF.v));have go:∀ (z:RF) (e:Int),z.Ok→(e=0→(BD z.neg (val z.num) (val z.den) false 1 1=.tup [.int .i64 (pL z.neg (val z.num) (val z.den) false 1 1),.int .i64 0])∧uN l=decide (pL z.neg (val z.num) (val z.den) false 1 1=0))→(e≠0→uN l=false) →
   frV (nG (l.start.map RF.v))=.tup [.agg z.cells,.int .i64 e] →
   wpOps C [⟨(some 69),.mv (.tmp 72),none⟩,⟨(some 73),.extract (.tmp 69) 0,none⟩,⟨(some 74),.extract (.tmp 69) 1,none⟩,⟨(some 6),.alloc [(.bool false),.aB,.aB],none⟩,⟨none,.store 3 (.tmp 6) (.tmp 73),none⟩,⟨(some 7),.mv (.tmp 74),none⟩]
    (aC.wp C (.seq (.region IC) (.seq (.region ID) (.seq (.region uC) .ret))) (aV [.tmp 2] (bY (.bool (uN l&&oR l))))) ((((F.set 70 (.bH [frs l.start,anJ l.a6A,frs l.exit])).set 71 (frs l.start))).set 72 (.tup [.agg z.cells,.int .i64 e])) .nil:=by
  intro z e N E H _;simp only[go_sem];refine aR fun o6 K=>?_;simp only[go_sem,IC];refine aA (L.frac 1 1 (by decide) (by decide)) rfl ?_;rw[Od];simp only[go_sem,frV];refine aR fun o8 p=>?_;have O:o6≠o8:=by rintro rfl; simp only[aT,if_true] at p; cases p
  simp only[go_sem,ID,O];refine aA (L.ord z (FV.rf (false,1,1)) N avB) rfl ?_;rw[show val (FV.rf (false,1,1)).num=1 from aW 1,show val (FV.rf (false,1,1)).den=1 from aW 1,show (FV.rf (false,1,1)).neg=false from rfl];by_cases c:e=0
  ·obtain⟨g1,g2⟩:=E c;rw[g1,g2];by_cases d:pL z.neg (val z.num) (val z.den) false 1 1=0
   ·simp only[go_sem,uC,bL c,bL d,u];refine aA (L.ends l A J) rfl ?_;simp only[go_sem];exact bD rfl (by rw[decide_eq_true d,a7R])
   ·simp only[go_sem,uC,bL c,bF d];exact bD rfl (by rw[decide_eq_false d,a7P])
  ·rw[H c];have:∃ v w,BD z.neg (val z.num) (val z.den) false 1 1=.tup [.int .i64 v,.int .i64 w]:=by
    unfold BD;split
    ·exact⟨_,_,rfl⟩
    ·exact⟨_,_,rfl⟩
   obtain⟨v,w,q⟩:=this;rw[q];simp only[go_sem,uC,bF c];exact bD rfl rfl
 cases i:nG (l.start.map RF.v) with
 | error e =>rw[i] at go;exact go ⟨false,[],[]⟩ e aEZ (fun h=>absurd h (Su i)) (fun _=>by rw[uN,i]) rfl
 | ok r =>obtain⟨n,a,b⟩:=r;rw[i] at go;have M:=aeO i;refine go (FV.rf (n,a,b)) 0 M (fun _=>?_) (fun h=>absurd rfl h) rfl;rw[show val (FV.rf (n,a,b)).num=a from aW a,show val (FV.rf (n,a,b)).den=b from aW b,show (FV.rf (n,a,b)).neg=n from rfl];refine⟨?_,by rw[uN,i]⟩;have q:cU a b=true:=ou i;rw[BD,q,Es];rfl
theorem Zm {C:Ctx} (L:NW C) (l:cE) (w:l.Ok):PY.wp C (aV akM.res (bY (.bool (jZ l)))) (PF.args [.agg l.cells]) .nil:=by
 rw[aaO];simp only[go_sem,PY,Zn,Zo,akM,Zp,a7G];refine aA (L.inn l.start.length 1 4) rfl ?_;cases K:within l.start.length 1 4 with
 | false =>simp only[go_sem,a7Y,yD];exact bD rfl (by simp only[a7P])
 | true =>
  obtain⟨S,U⟩:=within_iff.1 K;by_cases A:l.exit.length=l.start.length
  ·rw[decide_eq_true A];by_cases B:l.a6A.length=l.start.length
   ·rw[decide_eq_true B];simp only[go_sem,a7L,a7G,cC (Om:(l.exit.length:Int)=(l.start.length:Nat)),cC (Om:(l.a6A.length:Int)=(l.start.length:Nat))];refine aA (L.aGD l.start w.start) rfl ?_;cases O:l.start.all cS with
    | false =>simp only[go_sem,a7Y,yD];exact bD rfl (by simp only[a7P])
    | true =>
     simp only[go_sem,a7L];refine aA (L.aGD l.exit w.exit) rfl ?_;cases Q:l.exit.all cS with
     | false =>simp only[go_sem,a7Y,yD];exact bD rfl (by simp only[a7P])
     | true =>
      simp only[go_sem,a7L,Zq,a7G];have u:∀ k (h:k<l.a6A.length),rM l k=(decide ((l.a6A[k]).length=l.start.length)&&(l.a6A[k]).all cS&&!((l.a6A[k]).map bG).getD k false):=by
       intro k h;have:l.a6A.getD k []=l.a6A[k]:=by simp[a7Z,h]
       rw[rM,this]
      refine wp_loop (α:=Nat) (fun k=>aFY l k) (fun _=>.nil) (fun k=>k≤l.a6A.length∧rA (rM l) k) (fun k=>l.a6A.length-k) 0 ⟨a7N _,.zero⟩ ?_ a_ ?_
      ·unfold aFY
       (repeat' (first|exact c_|refine d_ ?_ ?_))<;>first|(simp only[go_sem,a7G]<;>rfl)|rfl
      rintro k ⟨R,J⟩;simp only[go_sem,Mm,Zr,aFY];by_cases hlt:k<l.a6A.length
      ·have d:(k:Int)<(l.a6A.length:Nat):=Om;have y:(l.a6A.map fun r=>[frs r])[k]?=some [frs l.a6A[k]]:=by simp[hlt]
       have c:=u k hlt;have p:=w.row l.a6A[k] (a7J hlt);simp only[go_sem,d,Zs,y,Zt,a7G];by_cases E:(l.a6A[k]).length=l.start.length
       ·rw[decide_eq_true E,a7R] at c;simp only[go_sem,cC (show (((l.a6A[k]).length:Nat):Int)=(l.start.length:Nat) by omega)];refine aA (L.aGD _ p) rfl ?_;cases F:(l.a6A[k]).all cS with
        | false =>rw[F,a7P] at c;simp only[go_sem,a7Y,US];refine bD (b:=false) rfl ?_;have:(a7H l.a6A.length).all (rM l)=false:=eU hlt c;rw[this]; simp only[a7P,a8O]
        | true =>
         have q:k<(l.a6A[k]).length:=Om;have N:((l.a6A[k]).map RF.cells)[k]?=some ((l.a6A[k])[k]).cells:=by simp[q]
         have x:((l.a6A[k]).map bG).getD k false=bG (l.a6A[k])[k]:=by simp[a7Z,q]
         rw[F,a7R,x] at c;simp only[go_sem,a7L,N];refine aA (L.lK _ (p.all _ (a7J q))) rfl ?_;cases H:bG (l.a6A[k])[k] with
         | true =>rw[H] at c;simp only[go_sem,US];refine bD (b:=false) rfl ?_;have:(a7H l.a6A.length).all (rM l)=false:=eU hlt c;rw[this]; simp only[a7P,a8O]
         | false =>rw[H] at c;simp only[go_sem,Zu,wZz k];refine aD (k+1) ⟨hlt,J.step c⟩ Om ?_ a_;exact Lq
       ·simp only[decide_eq_false E,a7P] at c;simp only[go_sem,dN (show (((l.a6A[k]).length:Nat):Int)≠(l.start.length:Nat) by omega),US];refine bD (b:=false) rfl ?_;have:(a7H l.a6A.length).all (rM l)=false:=eU hlt c;rw[this]; simp only[a7P,a8O]
      ·have d:¬ (k:Int)<(l.a6A.length:Nat):=Om;have:k=l.a6A.length:=Om;subst this;have e:(a7H l.a6A.length).all (rM l)=true:=J;have M:AP l:=⟨by omega,by omega,fun r y=>by obtain⟨i,hi,rfl⟩:=a8S y;have:=a7W.1 e i (a8K.2 hi);rw[u i hi] at this;simp only[a7X,decide_eq_true_eq] at this;omega⟩
       have tail:=asP L l w M;simp only[aC.wp,go_sem] at tail;rw[e];simp only[go_sem,d,a7R,a9N];exact tail _ rfl
   ·simp only[go_sem,a7L,a7G,cC (Om:(l.exit.length:Int)=(l.start.length:Nat)),dN (Om:(l.a6A.length:Int)≠(l.start.length:Nat)),yD];exact bD rfl (by rw[decide_eq_false B]; simp only[a7P,a8O])
  ·simp only[go_sem,a7L,a7G,dN (Om:(l.exit.length:Int)≠(l.start.length:Nat)),yD];exact bD rfl (by rw[decide_eq_false A]; simp only[a7P,a8O])
structure jV (C:Ctx):Prop extends NW C where
 law:∀ l:cE,l.Ok→aH C 95 [.agg l.cells] .nil (aF (.bool (jZ l)))
 pol:∀ (p:bS) (n:Nat),p.Ok→n≤4→aH C 112 [.agg p.cells,.int .i64 n] .nil (aF (.bool (jJ n p)))
 a6E:∀ f:aE,f.Ok→aH C 111 [.agg f.cells] .nil (aF (.bool (nL f)))
abbrev fA (l:List (List UInt8)):List (List PV):=l.map fun s=>[PV.str s]
theorem vY (l:List (List UInt8)) {k:Nat} (h:k<l.length):fA (l.take k)++[[.str l[k]]]=fA (l.take (k+1)):=by
 unfold fA;rw[a9E h,a8G]; rfl
theorem sC {l:List (List UInt8)} (h:l.length≤1000):roomFor (fA l).length 1 16:=by
 unfold roomFor fA;simp only[a7G,maxLen]; omega
def iW {α:Type} (l:List α) (p:α→Bool) (k:Nat):Bool:=(l.take k).all p
theorem sI {α:Type} (l:List α) (p:α→Bool):iW l p 0=true:=rfl
theorem sH {α:Type} (l:List α) (p:α→Bool) {k:Nat} (h:k<l.length):iW l p (k+1)=(iW l p k&&p l[k]):=by
 unfold iW;rw[a9E h,List.all_append]; simp
theorem vK {α:Type} (l:List α) (p:α→Bool):iW l p l.length=l.all p:=by unfold iW; rw[a8I]
def jC (f:aE) (c d e i l:PV) (ok:Bool):PF:=(((((((PF.nil.set 1 (.bH f.cells)).set 3 (c)).set 4 (d)).set 5 (e)).set 6 (i)).set 7 (l)).set 8 (.bool ok))
structure kO (F:PF) (f:aE) (w3 w4 w5 w6 w7:PV) (ok:Bool):Prop where
 a1:F 1=some (.bH f.cells)
 a3:F 3=some w3
 a4:F 4=some w4
 a5:F 5=some w5
 a6:F 6=some w6
 a7:F 7=some w7
 a8:F 8=some (.bool ok)
theorem akT {C:Ctx} (L:jV C) (f:aE) (O:f.Ok) (V:f.a6C.length≤4) (y A B E:PV) (K:bR) (F:PF) (H:PH) (i:kO F f .aB y A B E true)
  (u:F 67=some (.sl 4 (f.a6C.map cE.cells))) (w:F 68=some (.int .i64 (f.a6C.length:Nat))) (x:F 69=some (.int .i64 0))
  (N:∀ v J H',kO J f v y A B E (f.a6C.all jZ)→bQ H' 1 v (fA (f.a6C.map cE.name))→K (.exit 0) J H') :
  aC.wp C (.loop IH) K F H:=by
 refine wp_loop (α:=Nat × PV × PH) (fun t=>(((jC f t.2.1 y A B E (iW f.a6C jZ t.1)).set 67 (.sl 4 (f.a6C.map cE.cells))).set 68 (.int .i64 (f.a6C.length:Nat))).set 69 (.int .i64 t.1)) (fun t=>t.2.2)
  (fun t=>t.1≤f.a6C.length∧bQ t.2.2 1 t.2.1 (fA ((f.a6C.map cE.name).take t.1))) (fun t=>f.a6C.length-t.1) (0,.aB,.nil) ⟨a7N _,.nil⟩ ?_ a_ ?_
 ·unfold jC
  (repeat' (first|exact c_|refine d_ ?_ ?_))<;>first|(simp only[go_sem,i.a1,i.a3,i.a4,i.a5,i.a6,i.a7,i.a8,u,w,x,sI]<;>rfl)|rfl
 rintro⟨k,v,U⟩ ⟨Q,q⟩;simp only at Q q ⊢;simp only[go_sem,IH,aaL,jC];by_cases hlt:k<f.a6C.length
 ·have d:(k:Int)<(f.a6C.length:Nat):=Om;have S:(f.a6C.map cE.cells)[k]?=some (f.a6C[k]).cells:=by simp[hlt]
  have p:=vY (f.a6C.map cE.name) (k:=k) (by simpa using hlt);rw[a9B] at p;simp only[go_sem,d,aaM,S];refine aR fun o R=>?_;simp only[go_sem,aaN];refine mY q R (sC (by simp; omega)) fun v' H' e l=>?_;rw[p] at e;have c:=sH f.a6C jZ hlt;cases M:iW f.a6C jZ k with
  | false =>rw[M,a7P] at c;simp only[go_sem,uy,l,ac,wZz k];refine aD (k+1,v',H') ⟨hlt,e⟩ (by simp only; omega) ?_ b_;simp only[c];exact Lq
  | true =>rw[M,a7R] at c;simp only[go_sem,uy,l];refine aA (L.law _ (O.law _ (a7J hlt))) Ev ?_;simp only[go_sem,ac,wZz k];refine aD (k+1,v',H') ⟨hlt,e⟩ (by simp only; omega) ?_ b_;simp only[c];exact Lq
 ·have d:¬ (k:Int)<(f.a6C.length:Nat):=Om;have:k=f.a6C.length:=Om;subst this;rw[a8C (by simp)] at q;rw[vK];simp only[go_sem,d];exact N v _ _ ⟨by simp only[go_sem],by simp only[go_sem],by simp only[go_sem],by simp only[go_sem],by simp only[go_sem],by simp only[go_sem],by simp only[go_sem]⟩ q
theorem CD {n:Nat} (h:n≤1000):IntKind.i64.wrap ((n:Int)-1)=(n:Int)-1:=wrap_i64 Om Om
theorem akU {C:Ctx} (L:jV C) (f:aE) (hs:f.a5W.length≤4) (hl:f.a6C.length≤4) (q:Bool) (y A B E:PV) (K:bR) (F:PF) (H:PH) (l:kO F f y .aB A B E q)
  (N:F 85=some (.sl 4 (f.a5W.map cT.cells))) (O:F 86=some (.int .i64 (f.a5W.length:Nat))) (Q:F 87=some (.int .i64 0))
  (V:∀ v p H',kO p f y v A B E (q&&f.a5W.all (kB f))→bQ H' 1 v (fA (f.a5W.map cT.name))→K (.exit 2) p H') :
  aC.wp C (.loop II) K F H:=by
 refine wp_loop (α:=Nat × PV × PH) (fun t=>(((jC f y t.2.1 A B E (q&&iW f.a5W (kB f) t.1)).set 85 (.sl 4 (f.a5W.map cT.cells))).set 86 (.int .i64 (f.a5W.length:Nat))).set 87 (.int .i64 t.1)) (fun t=>t.2.2)
  (fun t=>t.1≤f.a5W.length∧bQ t.2.2 1 t.2.1 (fA ((f.a5W.map cT.name).take t.1))) (fun t=>f.a5W.length-t.1) (0,.aB,.nil) ⟨a7N _,.nil⟩ ?_ a_ ?_
 ·unfold jC
  (repeat' (first|exact c_|refine d_ ?_ ?_))<;>first|(simp only[go_sem,l.a1,l.a3,l.a4,l.a5,l.a6,l.a7,l.a8,N,O,Q,sI,a9N]<;>rfl)|rfl
 rintro⟨k,v,H0⟩ ⟨X,J⟩;simp only at X J ⊢;simp only[go_sem,II,M9,jC];by_cases hlt:k<f.a5W.length
 ·have d:(k:Int)<(f.a5W.length:Nat):=Om;have Z:(f.a5W.map cT.cells)[k]?=some (f.a5W[k]).cells:=by simp[hlt]
  have x:=vY (f.a5W.map cT.name) (k:=k) (by simpa using hlt);rw[a9B] at x;simp only[go_sem,d,Nb,Z];refine aR fun o Y=>?_;simp only[go_sem,Nc];refine mY J Y (sC (by simp; omega)) fun v' H' u e=>?_;rw[x] at u;have i:=sH f.a5W (kB f) hlt;have fin:∀ (c:Bool) (p:PF),c=(q&&iW f.a5W (kB f) (k+1))→((((jC f y v' A B E c).set 85 (.sl 4 (f.a5W.map cT.cells))).set 86 (.int .i64 (f.a5W.length:Nat))).set 87 (.int .i64 (k+1:Nat))).le p →
    fJ (fun (t:Nat × PV × PH)=>(((jC f y t.2.1 A B E (q&&iW f.a5W (kB f) t.1)).set 85 (.sl 4 (f.a5W.map cT.cells))).set 86 (.int .i64 (f.a5W.length:Nat))).set 87 (.int .i64 t.1)) (fun (t:Nat × PV × PH)=>t.2.2)  (fun (t:Nat × PV × PH)=>t.1≤f.a5W.length∧bQ t.2.2 1 t.2.1 (fA ((f.a5W.map cT.name).take t.1))) (fun (t:Nat × PV × PH)=>f.a5W.length-t.1) (f.a5W.length-k) K .normal p H':=by
   intro c p W w;refine aD (α:=Nat × PV × PH) (k+1,v',H') ⟨hlt,u⟩ (by simp only; omega) ?_ b_;rw[W] at w;exact w
  unfold jC at fin;rw[i,← baI] at fin;have R:kB f f.a5W[k]=(within (f.a5W[k]).a6L 1 16&&within (f.a5W[k]).port 1 64&&within (f.a5W[k]).law 0 ((f.a6C.length:Int)-1)):=rfl;cases U:(q&&iW f.a5W (kB f) k) with
  | false =>rw[U,a7P] at fin;simp only[go_sem,aj,e,zM,wZz k];refine fin false _ rfl ?_;exact Lq
  | true =>
   rw[U,a7R] at fin;simp only[go_sem,aj,e];refine aA (L.inn _ 1 16) Ev ?_;cases M:within (f.a5W[k]).a6L 1 16 with
   | false =>simp only[go_sem,zM,wZz k];refine fin false _ (by rw[R,M]; simp only[a7P]) ?_;exact Lq
   | true =>
    simp only[go_sem,e];refine aA (L.inn _ 1 64) Ev ?_;cases S:within (f.a5W[k]).port 1 64 with
    | false =>simp only[go_sem,zM,wZz k];refine fin false _ (by rw[R,M,S]; simp only[a7P,a8O]) ?_;exact Lq
    | true =>simp only[go_sem,e,a7G,CD (Om:f.a6C.length≤1000)];refine aA (L.inn _ 0 _) Ev ?_;simp only[go_sem,zM,wZz k];refine fin (within (f.a5W[k]).law 0 ((f.a6C.length:Int)-1)) _ (by rw[R,M,S]; simp only[a7R]) ?_;exact Lq
 ·have d:¬ (k:Int)<(f.a5W.length:Nat):=Om;have:k=f.a5W.length:=Om;subst this;rw[a8C (by simp)] at J;rw[vK];simp only[go_sem,d];exact V v _ _ ⟨by simp only[go_sem],by simp only[go_sem],by simp only[go_sem],by simp only[go_sem],by simp only[go_sem],by simp only[go_sem],by simp only[go_sem]⟩ J
theorem akV {C:Ctx} (L:jV C) (f:aE) (t:List cD) (S:t.length≤40) (p:Bool) (x y A B:PV) (K:bR) (F:PF) (H:PH) (d:kO F f x y .aB A B p)
  (q:F 119=some (.sl 7 (t.map cD.cells))) (u:F 120=some (.int .i64 (t.length:Nat))) (w:F 121=some (.int .i64 0))
  (J:∀ v E H',kO E f x y v A B p→bQ H' 1 v (fA (t.map cD.name))→K (.exit 4) E H') :
  aC.wp C (.loop IJ) K F H:=by
 refine wp_loop (α:=Nat × PV × PH) (fun a=>(((jC f x y a.2.1 A B p).set 119 (.sl 7 (t.map cD.cells))).set 120 (.int .i64 (t.length:Nat))).set 121 (.int .i64 a.1)) (fun a=>a.2.2)
  (fun a=>a.1≤t.length∧bQ a.2.2 1 a.2.1 (fA ((t.map cD.name).take a.1))) (fun a=>t.length-a.1) (0,.aB,.nil) ⟨a7N _,.nil⟩ ?_ a_ ?_
 ·unfold jC
  (repeat' (first|exact c_|refine d_ ?_ ?_))<;>first|(simp only[go_sem,d.a1,d.a3,d.a4,d.a5,d.a6,d.a7,d.a8,q,u,w]<;>rfl)|rfl
 rintro⟨k,v,R⟩ ⟨M,l⟩;simp only at M l ⊢;simp only[go_sem,IJ,Nd,jC];by_cases hlt:k<t.length
 ·have c:(k:Int)<(t.length:Nat):=Om;have Q:(t.map cD.cells)[k]?=some (t[k]).cells:=by simp[hlt]
  have i:=vY (t.map cD.name) (k:=k) (by simpa using hlt);rw[a9B] at i;simp only[go_sem,c,Nf,Q];refine aR fun o N=>?_;simp only[go_sem,Ng];refine mY l N (sC (by simp; omega)) fun v' H' e O=>?_;rw[i] at e;simp only[go_sem,Nh,wZz k];refine aD (k+1,v',H') ⟨hlt,e⟩ (by simp only; omega) ?_ b_;exact Lq
 ·have c:¬ (k:Int)<(t.length:Nat):=Om;have:k=t.length:=Om;subst this;rw[a8C (by simp)] at l;simp only[go_sem,c];exact J v _ _ ⟨by simp only[go_sem],by simp only[go_sem],by simp only[go_sem],by simp only[go_sem],by simp only[go_sem],by simp only[go_sem],by simp only[go_sem]⟩ l
theorem akW {C:Ctx} (L:jV C) (f:aE) (d:List (List UInt8)) (hn:d.length≤40) (hs:f.a5V.length≤24) (hm:f.a5W.length≤4) (hd:f.a5Y.length≤40) (w:Bool) (B E Y J M:PV) (K:bR) (F:PF) (H:PH) (q:kO F f B E Y J M w)
  (h0:bQ H 1 Y (fA d))
  (S:F 132=some (.sl 3 (f.a5V.map dH.cells))) (U:F 133=some (.int .i64 (f.a5V.length:Nat))) (V:F 134=some (.int .i64 0))
  (hK:∀ v u H',kO u f B E v J M (w&&f.a5V.all (iR f))→bQ H' 1 v (fA (d++f.a5V.map dH.name))→K (.exit 6) u H') :
  aC.wp C (.loop IK) K F H:=by
 refine wp_loop (α:=Nat × PV × PH) (fun t=>(((jC f B E t.2.1 J M (w&&iW f.a5V (iR f) t.1)).set 132 (.sl 3 (f.a5V.map dH.cells))).set 133 (.int .i64 (f.a5V.length:Nat))).set 134 (.int .i64 t.1)) (fun t=>t.2.2)
  (fun t=>t.1≤f.a5V.length∧bQ t.2.2 1 t.2.1 (fA (d++(f.a5V.map dH.name).take t.1))) (fun t=>f.a5V.length-t.1) (0,Y,H) ⟨a7N _,by rw[List.take_zero,a9G]; exact h0⟩ ?_ b_ ?_
 ·unfold jC
  (repeat' (first|exact c_|refine d_ ?_ ?_))<;>first|(simp only[go_sem,q.a1,q.a3,q.a4,q.a5,q.a6,q.a7,q.a8,S,U,V,sI,a9N]<;>rfl)|rfl
 rintro⟨k,v,H0⟩ ⟨hk,R⟩;simp only at hk R ⊢;simp only[go_sem,IK,Ni,jC];by_cases hlt:k<f.a5V.length
 ·have e:(k:Int)<(f.a5V.length:Nat):=Om;have hr:(f.a5V.map dH.cells)[k]?=some (f.a5V[k]).cells:=by simp[hlt]
  have X:fA (d++(f.a5V.map dH.name).take k)++[[.str (f.a5V[k]).name]]=fA (d++(f.a5V.map dH.name).take (k+1)):=by rw[a9E (by simpa using hlt),← a8Q,a9B];unfold fA;simp only[a8G,a8U,a9P]
  simp only[go_sem,e,Nj,hr];refine aR fun o ho=>?_;simp only[go_sem,Nk];refine mY R ho (sC (by simp; omega)) fun v' H' x l=>?_;rw[X] at x;have p:=sH f.a5V (iR f) hlt;have fin:∀ (c:Bool) (u:PF),c=(w&&iW f.a5V (iR f) (k+1))→((((jC f B E v' J M c).set 132 (.sl 3 (f.a5V.map dH.cells))).set 133 (.int .i64 (f.a5V.length:Nat))).set 134 (.int .i64 (k+1:Nat))).le u →
    fJ (fun (t:Nat × PV × PH)=>(((jC f B E t.2.1 J M (w&&iW f.a5V (iR f) t.1)).set 132 (.sl 3 (f.a5V.map dH.cells))).set 133 (.int .i64 (f.a5V.length:Nat))).set 134 (.int .i64 t.1)) (fun (t:Nat × PV × PH)=>t.2.2)  (fun (t:Nat × PV × PH)=>t.1≤f.a5V.length∧bQ t.2.2 1 t.2.1 (fA (d++(f.a5V.map dH.name).take t.1))) (fun (t:Nat × PV × PH)=>f.a5V.length-t.1) (f.a5V.length-k) K .normal u H':=by
   intro c u hc y;refine aD (α:=Nat × PV × PH) (k+1,v',H') ⟨hlt,x⟩ (by simp only; omega) ?_ b_;rw[hc] at y;exact y
  unfold jC at fin;rw[p,← baI] at fin;have i:iR f f.a5V[k]=(within (f.a5V[k]).model 0 ((f.a5W.length:Int)-1)&&within (f.a5V[k]).machine 0 ((f.a5Y.length:Int)-1)&&decide ((f.a5Y.map cD.level).getD (f.a5V[k]).machine.toNat 0=4)):=rfl;cases Z:(w&&iW f.a5V (iR f) k) with
  | false =>rw[Z,a7P] at fin;simp only[go_sem,ao,l,uD,wZz k];refine fin false _ rfl ?_;exact Lq
  | true =>
   rw[Z,a7R] at fin;simp only[go_sem,ao,l,a7G,CD (Om:f.a5W.length≤1000)];refine aA (L.inn _ 0 _) Ev ?_;cases N:within (f.a5V[k]).model 0 ((f.a5W.length:Int)-1) with
   | false =>simp only[go_sem,uD,wZz k];refine fin false _ (by rw[i,N]; simp only[a7P]) ?_;exact Lq
   | true =>
    simp only[go_sem,l,a7G,CD (Om:f.a5Y.length≤1000)];refine aA (L.inn _ 0 _) Ev ?_;cases O:within (f.a5V[k]).machine 0 ((f.a5Y.length:Int)-1) with
    | false =>simp only[go_sem,uD,wZz k];refine fin false _ (by rw[i,N,O]; simp only[a7P,a8O]) ?_;exact Lq
    | true =>
     obtain⟨i1,i2⟩:=within_iff.1 O;have i3:(f.a5V[k]).machine.toNat<f.a5Y.length:=Om;have A:(f.a5Y.map cD.cells)[(f.a5V[k]).machine.toNat]?=some (f.a5Y[(f.a5V[k]).machine.toNat]).cells:=by simp[i3]
     have W:(f.a5Y.map cD.level).getD (f.a5V[k]).machine.toNat 0=(f.a5Y[(f.a5V[k]).machine.toNat]).level:=by simp[i3]
     rw[W] at i;by_cases Q:(f.a5Y[(f.a5V[k]).machine.toNat]).level=4
     ·simp only[go_sem,l,i1,A,bL Q,uD,wZz k];refine fin true _ (by rw[i,N,O,decide_eq_true Q]; rfl) ?_;exact Lq
     ·simp only[go_sem,l,i1,A,bF Q,uD,wZz k];refine fin false _ (by rw[i,N,O,decide_eq_false Q]; rfl) ?_;exact Lq
 ·have e:¬ (k:Int)<(f.a5V.length:Nat):=Om;have:k=f.a5V.length:=Om;subst this;rw[a8C (by simp)] at R;rw[vK];simp only[go_sem,e];exact hK v _ _ ⟨by simp only[go_sem],by simp only[go_sem],by simp only[go_sem],by simp only[go_sem],by simp only[go_sem],by simp only[go_sem],by simp only[go_sem]⟩ R
theorem akX {C:Ctx} (L:jV C) (f:aE) (U:f.Ok) (hs:f.a5Z.length≤4) (W:f.a5W.length≤4) (p:Bool) (y A B E:PV) (K:bR) (F:PF) (H:PH) (i:kO F f y A B .aB E p)
  (M:F 174=some (.sl 17 (f.a5Z.map bS.cells))) (N:F 175=some (.int .i64 (f.a5Z.length:Nat))) (O:F 176=some (.int .i64 0))
  (R:∀ v l H',kO l f y A B v E (p&&f.a5Z.all (jJ f.a5W.length))→bQ H' 1 v (fA (f.a5Z.map bS.name))→K (.exit 8) l H') :
  aC.wp C (.loop IL) K F H:=by
 refine wp_loop (α:=Nat × PV × PH) (fun t=>(((jC f y A B t.2.1 E (p&&iW f.a5Z (jJ f.a5W.length) t.1)).set 174 (.sl 17 (f.a5Z.map bS.cells))).set 175 (.int .i64 (f.a5Z.length:Nat))).set 176 (.int .i64 t.1)) (fun t=>t.2.2)
  (fun t=>t.1≤f.a5Z.length∧bQ t.2.2 1 t.2.1 (fA ((f.a5Z.map bS.name).take t.1))) (fun t=>f.a5Z.length-t.1) (0,.aB,.nil) ⟨a7N _,.nil⟩ ?_ a_ ?_
 ·unfold jC
  (repeat' (first|exact c_|refine d_ ?_ ?_))<;>first|(simp only[go_sem,i.a1,i.a3,i.a4,i.a5,i.a6,i.a7,i.a8,M,N,O,sI,a9N]<;>rfl)|rfl
 rintro⟨k,v,Z⟩ ⟨V,J⟩;simp only at V J ⊢;simp only[go_sem,IL,Nl,jC];by_cases hlt:k<f.a5Z.length
 ·have d:(k:Int)<(f.a5Z.length:Nat):=Om;have Y:(f.a5Z.map bS.cells)[k]?=some (f.a5Z[k]).cells:=by simp[hlt]
  have x:=vY (f.a5Z.map bS.name) (k:=k) (by simpa using hlt);rw[a9B] at x;simp only[go_sem,d,Nm,Y];refine aR fun o X=>?_;simp only[go_sem,Nn];refine mY J X (sC (by simp; omega)) fun v' H' q w=>?_;rw[x] at q;have e:=sH f.a5Z (jJ f.a5W.length) hlt;have fin:∀ (c:Bool) (l:PF),c=(p&&iW f.a5Z (jJ f.a5W.length) (k+1))→((((jC f y A B v' E c).set 174 (.sl 17 (f.a5Z.map bS.cells))).set 175 (.int .i64 (f.a5Z.length:Nat))).set 176 (.int .i64 (k+1:Nat))).le l →
    fJ (fun (t:Nat × PV × PH)=>(((jC f y A B t.2.1 E (p&&iW f.a5Z (jJ f.a5W.length) t.1)).set 174 (.sl 17 (f.a5Z.map bS.cells))).set 175 (.int .i64 (f.a5Z.length:Nat))).set 176 (.int .i64 t.1)) (fun (t:Nat × PV × PH)=>t.2.2)  (fun (t:Nat × PV × PH)=>t.1≤f.a5Z.length∧bQ t.2.2 1 t.2.1 (fA ((f.a5Z.map bS.name).take t.1))) (fun (t:Nat × PV × PH)=>f.a5Z.length-t.1) (f.a5Z.length-k) K .normal l H':=by
   intro c l S u;refine aD (α:=Nat × PV × PH) (k+1,v',H') ⟨hlt,q⟩ (by simp only; omega) ?_ b_;rw[S] at u;exact u
  unfold jC at fin;rw[e,← baI] at fin;cases Q:(p&&iW f.a5Z (jJ f.a5W.length) k) with
  | false =>rw[Q,a7P] at fin;simp only[go_sem,au,w,av,wZz k];refine fin false _ rfl ?_;exact Lq
  | true =>rw[Q,a7R] at fin;simp only[go_sem,au,w,a7G];refine aA (L.pol _ _ (U.a6H _ (a7J hlt)) W) Ev ?_;simp only[go_sem,av,wZz k];refine fin _ _ rfl ?_;exact Lq
 ·have d:¬ (k:Int)<(f.a5Z.length:Nat):=Om;have:k=f.a5Z.length:=Om;subst this;rw[a8C (by simp)] at J;rw[vK];simp only[go_sem,d];exact R v _ _ ⟨by simp only[go_sem],by simp only[go_sem],by simp only[go_sem],by simp only[go_sem],by simp only[go_sem],by simp only[go_sem],by simp only[go_sem]⟩ J
theorem akY {C:Ctx} (L:jV C) (f:aE) (hs:f.a5X.length≤12) (Z:f.a5Z.length≤4) (p:Bool) (y A B E:PV) (K:bR) (F:PF) (H:PH) (i:kO F f y A B E .aB p)
  (M:F 195=some (.sl 2 (f.a5X.map eW.cells))) (N:F 196=some (.int .i64 (f.a5X.length:Nat))) (O:F 197=some (.int .i64 0))
  (R:∀ v l H',kO l f y A B E v (p&&f.a5X.all (nU f))→bQ H' 1 v (fA (f.a5X.map eW.name))→K (.exit 10) l H') :
  aC.wp C (.loop IM) K F H:=by
 refine wp_loop (α:=Nat × PV × PH) (fun t=>(((jC f y A B E t.2.1 (p&&iW f.a5X (nU f) t.1)).set 195 (.sl 2 (f.a5X.map eW.cells))).set 196 (.int .i64 (f.a5X.length:Nat))).set 197 (.int .i64 t.1)) (fun t=>t.2.2)
  (fun t=>t.1≤f.a5X.length∧bQ t.2.2 1 t.2.1 (fA ((f.a5X.map eW.name).take t.1))) (fun t=>f.a5X.length-t.1) (0,.aB,.nil) ⟨a7N _,.nil⟩ ?_ a_ ?_
 ·unfold jC
  (repeat' (first|exact c_|refine d_ ?_ ?_))<;>first|(simp only[go_sem,i.a1,i.a3,i.a4,i.a5,i.a6,i.a7,i.a8,M,N,O,sI,a9N]<;>rfl)|rfl
 rintro⟨k,v,Y⟩ ⟨U,J⟩;simp only at U J ⊢;simp only[go_sem,IM,No,jC];by_cases hlt:k<f.a5X.length
 ·have d:(k:Int)<(f.a5X.length:Nat):=Om;have X:(f.a5X.map eW.cells)[k]?=some (f.a5X[k]).cells:=by simp[hlt]
  have x:=vY (f.a5X.map eW.name) (k:=k) (by simpa using hlt);rw[a9B] at x;simp only[go_sem,d,Np,X];refine aR fun o W=>?_;simp only[go_sem,Nq];refine mY J W (sC (by simp; omega)) fun v' H' q w=>?_;rw[x] at q;have e:=sH f.a5X (nU f) hlt;have fin:∀ (c:Bool) (l:PF),c=(p&&iW f.a5X (nU f) (k+1))→((((jC f y A B E v' c).set 195 (.sl 2 (f.a5X.map eW.cells))).set 196 (.int .i64 (f.a5X.length:Nat))).set 197 (.int .i64 (k+1:Nat))).le l →
    fJ (fun (t:Nat × PV × PH)=>(((jC f y A B E t.2.1 (p&&iW f.a5X (nU f) t.1)).set 195 (.sl 2 (f.a5X.map eW.cells))).set 196 (.int .i64 (f.a5X.length:Nat))).set 197 (.int .i64 t.1)) (fun (t:Nat × PV × PH)=>t.2.2)  (fun (t:Nat × PV × PH)=>t.1≤f.a5X.length∧bQ t.2.2 1 t.2.1 (fA ((f.a5X.map eW.name).take t.1))) (fun (t:Nat × PV × PH)=>f.a5X.length-t.1) (f.a5X.length-k) K .normal l H':=by
   intro c l S u;refine aD (α:=Nat × PV × PH) (k+1,v',H') ⟨hlt,q⟩ (by simp only; omega) ?_ b_;rw[S] at u;exact u
  unfold jC at fin;rw[e,← baI] at fin;have V:nU f f.a5X[k]=within (f.a5X[k]).a6H 0 ((f.a5Z.length:Int)-1):=rfl;cases Q:(p&&iW f.a5X (nU f) k) with
  | false =>rw[Q,a7P] at fin;simp only[go_sem,ay,w,ba,wZz k];refine fin false _ rfl ?_;exact Lq
  | true =>rw[Q,a7R,V] at fin;simp only[go_sem,ay,w,a7G,CD (Om:f.a5Z.length≤1000)];refine aA (L.inn _ 0 _) Ev ?_;simp only[go_sem,ba,wZz k];refine fin _ _ rfl ?_;exact Lq
 ·have d:¬ (k:Int)<(f.a5X.length:Nat):=Om;have:k=f.a5X.length:=Om;subst this;rw[a8C (by simp)] at J;rw[vK];simp only[go_sem,d];exact R v _ _ ⟨by simp only[go_sem],by simp only[go_sem],by simp only[go_sem],by simp only[go_sem],by simp only[go_sem],by simp only[go_sem],by simp only[go_sem]⟩ J
theorem nF {f:aE} (h:¬ (f.a6C.length≤4∧f.a5W.length≤4∧f.a5Y.length≤40∧f.a5V.length≤24∧f.a5Z.length≤4∧f.a5X.length≤12)):nE f=false:=by
 rw[← Bool.not_eq_true];intro c;simp only[nE,a7X,decide_eq_true_eq] at c;omega
theorem W5 {f:aE} (h:f.a6C.length≤4∧f.a5W.length≤4∧f.a5Y.length≤40∧f.a5V.length≤24∧f.a5Z.length≤4∧f.a5X.length≤12):nE f=within f.a6Z 1 4:=by
 obtain⟨c,d,e,i,h5,l⟩:=h;simp[nE,c,d,e,i,h5,l]
theorem pP {t:Nat} {n m:Int} {F:PF} {H:PH} (h:F t=some (.int .i64 n)) (e:n=m):aV [.tmp t] (bY (.int .i64 m)) .ret F H:=by
 subst e;exact bA (.inr rfl) .nil (vs:=[.int .i64 n]) (by rw[kI,nC,h,oK]) a_ ⟨.refl _,rfl⟩
def wJ (f:aE):Int:=if dQ f then 0 else 1
theorem aqD {f:aE} (h:dQ f=false):wJ f=1:=by rw[wJ,h]; rfl
theorem tP {C:Ctx} {F:PF} {H:PH} {name t s:Nat} {v r:PV} {rows:List (List PV)} {d:Option Nat} {K:PF→PH→Prop} (h:aH C name [.sl s rows] .nil (aF r)) (w:bQ H s v rows) (l:F t=some v)
  (e:∀ (c:PF) (p:PH),(∀ i u,F i=some u→Pure u→c i=some u)→K (c.put d r) p):iV C name [.tmp t] [] d K F H:=by
 rcases w with ⟨rfl,rfl⟩ | ⟨q,rs,rfl,h1,h2,h3⟩
 ·refine aA (h.anN (.inl ⟨rfl,rfl⟩)) (by rw[zF,i7,l,UQ]) ?_;exact e F H fun i u hi _=>hi
 ·rw[← h3] at h;refine qO (k:=rows.length) h l h1 h2 (e _ _ fun i u hi x=>?_);rw[qW,hi,a8W,x q s rs]
theorem Seen.pure {s:Nat} {v:PV} {rows:List (List PV)} (h:Seen s v rows):Pure v:=by
 rcases h with ⟨_,rfl⟩ | rfl
 ·exact fun _ _ _=>rfl
 ·exact fun _ _ _=>rfl
def bI (b:Bool):Int:=if b then 0 else 1
abbrev VB (f:aE):List (List UInt8):=(f.a5Y.drop 1).map cD.name++f.a5V.map dH.name
def vG (f:aE):Bool:=distinct (f.a6C.map cE.name)&&distinct (f.a5W.map cT.name)&&distinct (VB f)&&distinct (f.a5Z.map bS.name)&&distinct (f.a5X.map eW.name)
structure Small (f:aE):Prop where
 a6C:f.a6C.length≤4
 a5W:f.a5W.length≤4
 a5Y:f.a5Y.length≤40
 a5V:f.a5V.length≤24
 a5Z:f.a5Z.length≤4
 a5X:f.a5X.length≤12
theorem BV {C:Ctx} (L:jV C) {v:PV} {l:List (List UInt8)} (h:Seen 1 v (fA l)) (c:l.length≤1000):aH C 110 [v] .nil (aF (.bool (distinct l))) :=
 (L.uniq l (Om:l.length≤9223372036854775807)).anN h
theorem aFS {C:Ctx} (L:jV C) (f:aE) (A:Small f) (d e i l p:PV) (ok:Bool) (F:PF) (H:PH) (c:kO F f d e i l p ok)
  (u:Seen 1 d (fA (f.a6C.map cE.name))) (w:Seen 1 e (fA (f.a5W.map cT.name))) (h5:Seen 1 i (fA (VB f))) (x:Seen 1 l (fA (f.a5Z.map bS.name))) (h7:bQ H 1 p (fA (f.a5X.map eW.name))) :
  aC.wp C (.seq (.seq (.region zN) (.cond (.tmp 243) (.seq (.region nN) .ret) .skip)) (.seq (.region IN) .ret)) (aV [.tmp 2] (bY (.int .i64 (bI (ok&&vG f))))) F H:=by
 obtain⟨s1,s2,s3,s4,V,W⟩:=A;have B:(f.a6C.map cE.name).length≤1000:=by simp; omega
 have E:(f.a5W.map cT.name).length≤1000:=by simp; omega
 have J:(VB f).length≤1000:=by simp; omega
 have K:(f.a5Z.map bS.name).length≤1000:=by simp; omega
 have M:(f.a5X.map eW.name).length≤9223372036854775807:=by simp; omega
 cases ok with
 | false =>simp only[go_sem,zN,c.a8,nN];exact pP rfl rfl
 | true =>
  simp only[go_sem,zN,c.a8,c.a3];refine aA (BV L u B) rfl ?_;unfold vG;cases O:distinct (f.a6C.map cE.name) with
  | false =>simp only[go_sem,nN,a7Y];exact pP rfl rfl
  | true =>
   simp only[go_sem,c.a4,a7L];refine aA (BV L w E) rfl ?_;cases Q:distinct (f.a5W.map cT.name) with
   | false =>simp only[go_sem,nN,a7Y];exact pP rfl rfl
   | true =>
    simp only[go_sem,c.a5,a7L];refine aA (BV L h5 J) rfl ?_;cases R:distinct (VB f) with
    | false =>simp only[go_sem,nN,a7Y];exact pP rfl rfl
    | true =>
     simp only[go_sem,c.a6,a7L];refine aA (BV L x K) rfl ?_;cases S:distinct (f.a5Z.map bS.name) with
     | false =>simp only[go_sem,nN,a7Y];exact pP rfl rfl
     | true =>
      simp only[go_sem,c.a7,a7L];refine tP (L.uniq _ M) h7 rfl fun q N y=>?_;have g:q 239=some (.bool false):=y 239 _ rfl fun _ _ _=>rfl;cases U:distinct (f.a5X.map eW.name) with
      | false =>simp only[go_sem,nN,a7Y,g];exact pP rfl rfl
      | true =>simp only[go_sem,IN,a7L,g];exact pP rfl rfl
abbrev xg (b:Bool):bR:=aV [.tmp 2] (bY (.int .i64 (bI b)))
def Ht:aC:=.seq (.seq (.region aw) (.block 10 (.loop IM))) (.seq (.seq (.region zN) (.cond (.tmp 243) (.seq (.region nN) .ret) .skip)) (.seq (.region IN) .ret))
def Hr:aC:=.seq (.seq (.region ap) (.block 8 (.loop IL))) Ht
def Hq:aC:=.seq (.seq (.region an) (.block 6 (.loop IK))) Hr
def Hp:aC:=.seq (.seq (.region al) (.block 4 (.loop IJ))) Hq
def Ho:aC:=.seq (.seq (.region ai) (.block 2 (.loop II))) Hp
def aqC:aC:=.seq (.seq (.region ux) (.block 0 (.loop IH))) Ho
theorem aPW {C:Ctx} (L:jV C) (f:aE) (q:Small f) (i l p B:PV) (ok:Bool) (F:PF) (H:PH) (d:kO F f i l p B .aB ok)
  (x:Seen 1 i (fA (f.a6C.map cE.name))) (y:Seen 1 l (fA (f.a5W.map cT.name))) (h5:Seen 1 p (fA (VB f))) (M:bQ H 1 B (fA (f.a5Z.map bS.name))) :
  aC.wp C Ht (xg (ok&&f.a5X.all (nU f)&&vG f)) F H:=by
 unfold Ht;simp only[go_sem,aw,d.a1,a7G];refine qP M fun A w J K O c=>?_;refine akY L f q.a5X q.a5Z ok i l p A _ J K ⟨c 1 _ (by simp only[go_sem,d.a1]) fun _ _ _=>rfl,c 3 _ (by simp only[go_sem,d.a3]) x.pure,c 4 _ (by simp only[go_sem,d.a4]) y.pure,c 5 _ (by simp only[go_sem,d.a5]) h5.pure,O 6 (by simp only[go_sem,d.a6]),c 7 _ (by simp only[go_sem,d.a7]) fun _ _ _=>rfl,c 8 _ (by simp only[go_sem,d.a8]) fun _ _ _=>rfl⟩
  (c 195 _ rfl fun _ _ _=>rfl) (c 196 _ rfl fun _ _ _=>rfl) (c 197 _ rfl fun _ _ _=>rfl) fun v E H' u N=>?_
 have e:=aFS L f q i l p A v _ E H' u x y h5 w N;simp only[aC.wp,go_sem] at e;simp only[go_sem];exact e
theorem aPV {C:Ctx} (L:jV C) (f:aE) (K:f.Ok) (l:Small f) (e i y:PV) (ok:Bool) (F:PF) (H:PH) (d:kO F f e i y .aB .aB ok)
  (u:Seen 1 e (fA (f.a6C.map cE.name))) (w:Seen 1 i (fA (f.a5W.map cT.name))) (h5:bQ H 1 y (fA (VB f))) :
  aC.wp C Hr (xg (ok&&f.a5Z.all (jJ f.a5W.length)&&f.a5X.all (nU f)&&vG f)) F H:=by
 unfold Hr;simp only[go_sem,ap,d.a1,a7G];refine qP h5 fun x q B E M c=>?_;refine akX L f K l.a5Z l.a5W ok e i x .aB _ B E ⟨c 1 _ (by simp only[go_sem,d.a1]) fun _ _ _=>rfl,c 3 _ (by simp only[go_sem,d.a3]) u.pure,c 4 _ (by simp only[go_sem,d.a4]) w.pure,M 5 (by simp only[go_sem,d.a5]),c 6 _ (by simp only[go_sem,d.a6]) fun _ _ _=>rfl,c 7 _ (by simp only[go_sem,d.a7]) fun _ _ _=>rfl,c 8 _ (by simp only[go_sem,d.a8]) fun _ _ _=>rfl⟩
  (c 174 _ rfl fun _ _ _=>rfl) (c 175 _ rfl fun _ _ _=>rfl) (c 176 _ rfl fun _ _ _=>rfl) fun v A H' p J=>?_
 simp only[go_sem];exact aPW L f l e i x v _ A H' p u w q J
theorem aPU {C:Ctx} (L:jV C) (f:aE) (y:f.Ok) (d:Small f) (e i p:PV) (ok:Bool) (F:PF) (H:PH) (c:kO F f e i p .aB .aB ok)
  (u:Seen 1 e (fA (f.a6C.map cE.name))) (w:Seen 1 i (fA (f.a5W.map cT.name))) (h5:bQ H 1 p (fA ((f.a5Y.drop 1).map cD.name))) :
  aC.wp C Hq (xg (ok&&f.a5V.all (iR f)&&f.a5Z.all (jJ f.a5W.length)&&f.a5X.all (nU f)&&vG f)) F H:=by
 unfold Hq;simp only[go_sem,an,c.a1,a7G];refine akW L f ((f.a5Y.drop 1).map cD.name) (by have:=d.a5Y; simp; omega) d.a5V d.a5W d.a5Y ok e i p .aB .aB _ _ H ⟨by simp only[go_sem,c.a1],by simp only[go_sem,c.a3],by simp only[go_sem,c.a4],by simp only[go_sem,c.a5],by simp only[go_sem,c.a6],by simp only[go_sem,c.a7],by simp only[go_sem,c.a8]⟩ h5
  rfl rfl rfl fun v q H' l x=>?_
 simp only[go_sem];exact aPV L f y d e i v _ q H' l u w x
theorem aPT {C:Ctx} (L:jV C) (f:aE) (M:f.Ok) (w:Small f) (Q:0<f.a5Y.length) (i y:PV) (ok:Bool) (F:PF) (H:PH) (d:kO F f i y .aB .aB .aB ok)
  (u:Seen 1 i (fA (f.a6C.map cE.name))) (J:bQ H 1 y (fA (f.a5W.map cT.name))) :
  aC.wp C Hp (xg (ok&&f.a5V.all (iR f)&&f.a5Z.all (jJ f.a5W.length)&&f.a5X.all (nU f)&&vG f)) F H:=by
 unfold Hp;have l:(1:Int)≤(f.a5Y.length:Nat):=Om;have N:=w.a5Y;have e:((f.a5Y.map cD.cells).take f.a5Y.length).drop 1=(f.a5Y.drop 1).map cD.cells:=by rw[a8C (by simp),List.map_drop]
 simp only[go_sem,al,d.a1,a7G,l,a9A,e];refine qP J fun x q B E O c=>?_;refine akV L f (f.a5Y.drop 1) (by simp; omega) ok i x .aB .aB _ B E ⟨c 1 _ (by simp only[go_sem,d.a1]) fun _ _ _=>rfl,c 3 _ (by simp only[go_sem,d.a3]) u.pure,O 4 (by simp only[go_sem,d.a4]),c 5 _ (by simp only[go_sem,d.a5]) fun _ _ _=>rfl,c 6 _ (by simp only[go_sem,d.a6]) fun _ _ _=>rfl,c 7 _ (by simp only[go_sem,d.a7]) fun _ _ _=>rfl,c 8 _ (by simp only[go_sem,d.a8]) fun _ _ _=>rfl⟩
  (c 119 _ rfl fun _ _ _=>rfl) (c 120 _ rfl fun _ _ _=>rfl) (c 121 _ rfl fun _ _ _=>rfl) fun v A H' p K=>?_
 simp only[go_sem];exact aPU L f M w i x v _ A H' p u q K
theorem aPS {C:Ctx} (L:jV C) (f:aE) (E:f.Ok) (e:Small f) (B:0<f.a5Y.length) (q:PV) (ok:Bool) (F:PF) (H:PH) (d:kO F f q .aB .aB .aB .aB ok)
  (y:bQ H 1 q (fA (f.a6C.map cE.name))) :
  aC.wp C Ho (xg (ok&&f.a5W.all (kB f)&&f.a5V.all (iR f)&&f.a5Z.all (jJ f.a5W.length)&&f.a5X.all (nU f)&&vG f)) F H:=by
 unfold Ho;simp only[go_sem,ai,d.a1,a7G];refine qP y fun p l w x J c=>?_;refine akU L f e.a5W e.a6C ok p .aB .aB .aB _ w x ⟨c 1 _ (by simp only[go_sem,d.a1]) fun _ _ _=>rfl,J 3 (by simp only[go_sem,d.a3]),c 4 _ (by simp only[go_sem,d.a4]) fun _ _ _=>rfl,c 5 _ (by simp only[go_sem,d.a5]) fun _ _ _=>rfl,c 6 _ (by simp only[go_sem,d.a6]) fun _ _ _=>rfl,c 7 _ (by simp only[go_sem,d.a7]) fun _ _ _=>rfl,c 8 _ (by simp only[go_sem,d.a8]) fun _ _ _=>rfl⟩
  (c 85 _ rfl fun _ _ _=>rfl) (c 86 _ rfl fun _ _ _=>rfl) (c 87 _ rfl fun _ _ _=>rfl) fun v u H' i A=>?_
 simp only[go_sem];exact aPT L f E e B p v _ u H' i l A
theorem aPR {C:Ctx} (L:jV C) (f:aE) (e:f.Ok) (i:Small f) (q:0<f.a5Y.length) (F:PF) (H:PH) (c:kO F f .aB .aB .aB .aB .aB true) :
  aC.wp C aqC (xg (f.a6C.all jZ&&f.a5W.all (kB f)&&f.a5V.all (iR f)&&f.a5Z.all (jJ f.a5W.length)&&f.a5X.all (nU f)&&vG f)) F H:=by
 unfold aqC;simp only[go_sem,ux,c.a1,a7G];refine akT L f e i.a6C .aB .aB .aB .aB _ _ H ⟨by simp only[go_sem,c.a1],by simp only[go_sem,c.a3],by simp only[go_sem,c.a4],by simp only[go_sem,c.a5],by simp only[go_sem,c.a6],by simp only[go_sem,c.a7],by simp only[go_sem,c.a8]⟩ rfl rfl rfl fun v l H' d p=>?_;simp only[go_sem];exact aPS L f e i q v _ l H' d p
theorem aaG {C:Ctx} (L:jV C) (f:aE) (B:f.Ok):QD.wp C (aV akS.res (bY (.int .i64 (wJ f)))) (PF.args [.agg f.cells]) .nil:=by
 have q:dQ f=(nE f&&nL f&&(f.a6C.all jZ&&f.a5W.all (kB f)&&f.a5V.all (iR f)&&f.a5Z.all (jJ f.a5W.length)&&f.a5X.all (nU f))&&vG f):=rfl;simp only[go_sem,QD,aaH,aaI,akS];refine aA (L.inn f.a6Z 1 4) rfl ?_;have c:∀ (F:PF) (H:PH),dQ f=false→F 2=some (.int .i64 1)→aV [.tmp 2] (bY (.int .i64 (wJ f))) .ret F H:=fun F H K M=>pP M (aqD K).symm;cases A:within f.a6Z 1 4 with
 | false =>
  have:nE f=false:=by simp[nE,A]
  simp only[go_sem,a7Y,qC];exact c _ _ (by rw[q,this]; simp only[a7P]) rfl
 | true =>
  by_cases s1:f.a6C.length≤4
  ·have d:¬ (f.a6C.length:Int)>4:=Om;by_cases s2:f.a5W.length≤4
   ·have i:¬ (f.a5W.length:Int)>4:=Om;by_cases s3:f.a5Y.length≤40
    ·have l:¬ (f.a5Y.length:Int)>40:=Om;by_cases s4:f.a5V.length≤24
     ·have p:¬ (f.a5V.length:Int)>24:=Om;by_cases E:f.a5Z.length≤4
      ·have u:¬ (f.a5Z.length:Int)>4:=Om;by_cases J:f.a5X.length≤12
       ·have w:¬ (f.a5X.length:Int)>12:=Om;have x:=W5 ⟨s1,s2,s3,s4,E,J⟩;rw[A] at x;simp only[go_sem,a7L,a7G,d,i,l,p,u,w];refine aA (L.a6E f B) rfl ?_;cases y:nL f with
        | false =>simp only[go_sem,a7Y,qC];exact c _ _ (by rw[q,y]; simp only[a8O,a7P]) rfl
        | true =>
         have N:0<f.a5Y.length:=by
          rcases a9Q f.a5Y.length with h | h
          ·have:f.a5Y=[]:=List.eq_nil_of_length_eq_zero h;rw[nL,this] at y;cases y
          ·exact h
         have Q:wJ f=bI (f.a6C.all jZ&&f.a5W.all (kB f)&&f.a5V.all (iR f)&&f.a5Z.all (jJ f.a5W.length)&&f.a5X.all (nU f)&&vG f):=by rw[wJ,q,x,y]; rfl
         rw[Q];simp only[go_sem,a7L,aaJ,aaK];have e:=fun F H O=>aPR L f B ⟨s1,s2,s3,s4,E,J⟩ N F H O;simp only[aqC,Ho,Hp,Hq,Hr,Ht,aC.wp,go_sem] at e;exact e _ _ ⟨by simp only[go_sem],by simp only[go_sem],by simp only[go_sem],by simp only[go_sem],by simp only[go_sem],by simp only[go_sem],by simp only[go_sem]⟩
       ·have w:(f.a5X.length:Int)>12:=Om;simp only[go_sem,a7L,a7G,d,i,l,p,u,w,qC];exact c _ _ (by rw[q,nF Om]; simp only[a7P]) rfl
      ·have u:(f.a5Z.length:Int)>4:=Om;simp only[go_sem,a7L,a7G,d,i,l,p,u,qC];exact c _ _ (by rw[q,nF Om]; simp only[a7P]) rfl
     ·have p:(f.a5V.length:Int)>24:=Om;simp only[go_sem,a7L,a7G,d,i,l,p,qC];exact c _ _ (by rw[q,nF Om]; simp only[a7P]) rfl
    ·have l:(f.a5Y.length:Int)>40:=Om;simp only[go_sem,a7L,a7G,d,i,l,qC];exact c _ _ (by rw[q,nF Om]; simp only[a7P]) rfl
   ·have i:(f.a5W.length:Int)>4:=Om;simp only[go_sem,a7L,a7G,d,i,qC];exact c _ _ (by rw[q,nF Om]; simp only[a7P]) rfl
  ·have d:(f.a6C.length:Int)>4:=Om;simp only[go_sem,a7L,a7G,d,qC];exact c _ _ (by rw[q,nF Om]; simp only[a7P]) rfl
def lvl (f:aE) (i:Nat):Int:=(f.a5Y.map cD.level).getD i 0
def par (f:aE) (i:Nat):Int:=(f.a5Y.map cD.parent).getD i 0
def KG (f:aE) (i:Nat):Nat:=(par f i).toNat
def dK (f:aE) (d:Nat):Nat:=((f.a5V.map dH.machine).getD d 0).toNat
def mdl (f:aE) (d:Nat):Nat:=((f.a5V.map dH.model).getD d 0).toNat
def ext (f:aE) (d:Nat):Int:=(f.a5W.map cT.a6L).getD (mdl f d) 0
def DR (f:aE) (v:Nat):Nat:=((f.a5X.map eW.a6H).getD v 0).toNat
def aNR:bS:=⟨[],0,0,0,0,0,0,0,0,[],[],⟨false,[],[]⟩,⟨false,[],[]⟩⟩
def KL (f:aE) (v:Nat):bS:=f.a5Z.getD (DR f v) aNR
def upN (f:aE):Nat→Nat→Nat
 | 0,i=>i
 | k+1,i=>KG f (upN f k i)
theorem getD_at {α β:Type} {l:List α} {g:α→β} {i:Nat} {b:β} (h:i<l.length):(l.map g).getD i b=g l[i]:=by
 simp[a7Z,h]
structure VF (f:aE):Prop where
 small:Small f
 root:0<f.a5Y.length∧lvl f 0=0∧par f 0=-1
 dom:∀ i,0<i→i<f.a5Y.length→0≤par f i∧KG f i<i∧lvl f (KG f i)=lvl f i-1∧1≤lvl f i∧lvl f i≤4
 drive:∀ d (h:d<f.a5V.length),0≤(f.a5V[d]).model∧mdl f d<f.a5W.length∧0≤(f.a5V[d]).machine∧dK f d<f.a5Y.length∧lvl f (dK f d)=4
 a6H:∀ p∈f.a5Z,1≤p.k∧p.k≤6∧0≤p.m∧p.m≤4∧p.k+p.m≤8∧p.s0=0∧(∀ l,0≤p.spread l∧p.spread l≤8)∧∀ m∈p.a5W,0≤m∧m<f.a5W.length
 volume:∀ v (h:v<f.a5X.length),0≤(f.a5X[v]).a6H∧DR f v<f.a5Z.length
 model:∀ m∈f.a5W,1≤m.a6L∧m.a6L≤16
theorem aRE {p:bS} {n:Nat} (h:jJ n p=true):∀ m∈p.a5W,0≤m∧m<n:=by
 intro m d;simp only[jJ,a7X] at h;obtain⟨i,hi,rfl⟩:=a8S d;have:=a7W.1 h.2 i (a8K.2 hi);rw[a7X] at this;have c:=within_iff.1 this.1;simp only[a7Z,a7U hi,baH] at c;omega
theorem r8 {x:Int} (c:1≤x) (d:x≤4):IntKind.i64.wrap (x-1)=x-1:=wrap_i64 Om Om
theorem VF.of {f:aE} (h:dQ f=true):VF f:=by
 simp only[dQ,a7X] at h;obtain⟨⟨⟨O,e⟩,⟨⟨⟨M,y⟩,x⟩,A⟩,B⟩,-⟩:=h;simp only[nE,a7X,decide_eq_true_eq] at O;obtain⟨⟨⟨⟨⟨⟨s0,s1⟩,s2⟩,s3⟩,s4⟩,s5⟩,s6⟩:=O;cases c:f.a5Y with
 | nil=>rw[nL,c] at e; cases e
 | cons r t =>
  rw[nL,c] at e;simp only[BB,a7X,decide_eq_true_eq] at e;obtain⟨⟨⟨⟨⟨⟨r1,r2⟩,r3⟩,r4⟩,r5⟩,r6⟩,w⟩:=e;have N:f.a5Y.length=t.length+1:=by rw[c]; rfl
  refine⟨⟨s1,s2,s3,s4,s5,s6⟩,⟨by omega,by rw[lvl,c]; exact r2,by rw[par,c]; exact r3⟩,?_,?_,?_,?_,?_⟩
  ·intro i h0 hi;obtain⟨k,rfl⟩:∃ k,i=k+1:=⟨i-1,by omega⟩;have F:k<t.length:=Om;have:=a7W.1 w k (a8K.2 F);rw[a7U F] at this;simp only[HL,a7X,decide_eq_true_eq] at this;obtain⟨⟨⟨⟨H,E⟩,J⟩,d4⟩,d5⟩:=this;obtain⟨Z,p1⟩:=within_iff.1 H;obtain⟨R,S⟩:=within_iff.1 J;have q:par f (k+1)=(t[k]).parent:=by rw[par,c]; simp[a7Z,F]
   have u:lvl f (k+1)=(t[k]).level:=by rw[lvl,c]; simp[a7Z,F]
   rw[r8 R S] at E;have U:lvl f (t[k]).parent.toNat=(t[k]).level-1:=E;refine⟨by rw[q]; exact Z,?_,?_,by rw[u]; exact R,by rw[u]; exact S⟩
   ·rw[KG,q]; omega
   ·rw[KG,q,u]; exact U
  ·intro d e;have:=a7W.1 x _ (a7J e);simp only[iR,a7X,decide_eq_true_eq] at this;obtain⟨⟨H,E⟩,J⟩:=this;have a1:=within_iff.1 H;have a2:=within_iff.1 E;have q:mdl f d=(f.a5V[d]).model.toNat:=by rw[mdl,getD_at e]
   have u:dK f d=(f.a5V[d]).machine.toNat:=by rw[dK,getD_at e]
   refine⟨a1.1,by rw[q]; omega,a2.1,by rw[u]; omega,by rw[u]; exact J⟩
  ·intro p X;have K:=a7W.1 A p X;have V:=aRE K;simp only[jJ,KC,a7X,decide_eq_true_eq,List.all_cons,List.all_nil,a9N] at K;obtain⟨⟨⟨⟨⟨⟨⟨⟨k1,Y⟩,km⟩,q1⟩,z0⟩,sp⟩,-⟩,-⟩,-⟩:=K;obtain⟨g0,g1,g2,g3,g4⟩:=sp;have b1:=within_iff.1 k1;have b2:=within_iff.1 Y;have b3:=within_iff.1 g0;have b4:=within_iff.1 g1;have b5:=within_iff.1 g2;have b6:=within_iff.1 g3;have b7:=within_iff.1 g4;refine⟨b1.1,b1.2,b2.1,b2.2,km,z0,fun l=>?_,V⟩;unfold bS.spread;split<;>omega
  ·intro v Q;have:=a7W.1 B _ (a7J Q);have a1:=within_iff.1 this;have q:DR f v=(f.a5X[v]).a6H.toNat:=by rw[DR,getD_at Q]
   exact⟨a1.1,by rw[q]; omega⟩
  ·intro m W;have:=a7W.1 y m W;simp only[kB,a7X] at this;exact within_iff.1 this.1.1
theorem GJ {f:aE} (h:VF f) {d:Nat} (c:d<f.a5V.length):∀ {k:Nat},k≤4→upN f k (dK f d)<f.a5Y.length∧lvl f (upN f k (dK f d))=4-(k:Int)
 | 0,_=>⟨(h.drive d c).2.2.2.1,by rw[upN,(h.drive d c).2.2.2.2]; rfl⟩
 | k+1,u=>by
  obtain⟨p,l⟩:=GJ h c (k:=k) Om;have i:0<upN f k (dK f d):=by
   rcases a9Q (upN f k (dK f d)) with e | e
   ·rw[e,h.root.2.1] at l; omega
   ·exact e
  obtain⟨g1,g2,g3,g4,q⟩:=h.dom _ i p;refine⟨by rw[upN]; omega,?_⟩;rw[upN,g3,l]; omega
def cO (f:aE) (d:Nat) (level:Int):Nat:=upN f (4-level.toNat) (dK f d)
def akF (f:aE) (v:Nat):Int:=(KL f v).k+(KL f v).m
def azN:Rg:=[iA 1 (.box true (Tm 0)),iT 2 false]
def azO:Rg:=[iO 3 7 1,iK 4 96 3,iC 5 .eql 4 0,iM 2 5]
def Xk:aC:=(sq azN (sq azO .ret))
def aXI:aS:=⟨1,6,Xk,[.tmp 2]⟩
def aLD:Rg:=[iA 2 (.box true (Tm 0)),iI 4 0]
def aLE:Rd:=[(iF 6 5 2,false),(iL 7 6,false),(iF 8 6 2,false),(iL 9 8,false),(iM 10 1,false),(iX 11 2 9 10,false),(iF 12 1 11,false),(iL 13 12,false),(iX 14 17 7 13,false),(iO 15 17 14,false),(iA 5 (.alloc [(.str []),zI,zI,zI,zI,zI,zI,zI,zI,.aB,.aB,zB,.aB,.aB,zB,.aB,.aB]),true),(iS 17 5 15,true)]
def aLF:Rg:=[iF 16 1 5,iL 17 16,iF 18 2 5,iL 19 18,iB 20 .add 17 19,iM 4 20]
def apG:aC:=(sq aLD (dq aLE (sq aLF .ret)))
def a0H:aS:=⟨2,21,apG,[.tmp 4]⟩
def axX:Rg:=[iA 3 (.box true (Tm 0)),iI 6 0]
def axY:Rg:=[iF 8 4 3,iL 9 8,iM 10 1,iX 11 3 9 10,iF 12 2 11,iL 13 12,iM 7 13]
def axZ:Rg:=[iF 14 3 3,iL 15 14,iM 16 7,iX 17 7 15 16,iF 18 1 17,iL 19 18,iM 20 2,iB 21 .gtr 19 20]
def ayA:Rg:=[iF 22 3 3,iL 23 22,iM 24 7,iX 25 7 23 24,iF 26 2 25,iL 27 26,iM 7 27]
def axW:aC:=(.seq (sq axZ (.cond (Tm 21) .skip (.exit 0))) (.block 1 (.region ayA)))
def ayB:Rg:=[iM 28 7,iM 6 28]
def Xd:aC:=(sq axX (sq axY (.seq (.block 0 (.loop axW)) (sq ayB .ret))))
def aWZ:aS:=⟨3,29,Xd,[.tmp 6]⟩
def aLH:Rg:=[iA 2 (.box true (Tm 0)),iZ 4]
def aLI:Rg:=[iO 7 7 2,iK 8 161 7,iA 9 (.un .not (Tm 8))]
def aLJ:Rg:=[iZ 4]
def aLK:Rg:=[iF 10 4 2,iL 11 10,iN 12 11,iA 13 (.a6D 1 8 [zI] (Tm 12) (Tm 12)),iM 5 13]
def aLL:Rg:=[iM 14 5,iN 15 14,iI 16 0]
def aLM:Rg:=[iB 17 .lss 16 15]
def aLN:Rg:=[iM 18 16,iM 6 18]
def aLO:Rd:=[(iM 19 5,false),(iM 20 6,false),(iF 21 2 2,false),(iL 22 21,false),(iF 23 4 2,false),(iL 24 23,false),(iM 25 6,false),(iX 26 3 24 25,false),(iF 27 1 26,false),(iL 28 27,false),(iX 29 4 22 28,false),(iF 30 1 29,false),(iL 31 30,false),(iX 32 1 19 20,false),(iS 1 32 31,true)]
def aLP:Rg:=[iM 33 1,iN 34 33,iM 35 5,iN 36 35,iB 37 .eql 34 36]
def aLQ:Rd:=[(iM 38 5,false),(iM 39 6,false),(iM 40 1,false),(iM 41 6,false),(iX 42 1 40 41,false),(iL 43 42,false),(iA 44 (.a6Q true (Tm 43) (Ci 0)),false),(iM 45 5,false),(iM 46 6,false),(iX 47 1 45 46,false),(iL 48 47,false),(iA 49 (.a6Q false (Tm 44) (Tm 48)),false),(iX 50 1 38 39,false),(iS 1 50 49,true)]
def azB:Rg:=[iC 51 .add 16 1,iM 16 51]
def azA:aC:=(sq aLM (.seq (.cond (Tm 17) .skip (.exit 0)) (.seq (.block 1 (sq aLN (dq aLO (sq aLP (.cond (Tm 37) (.draw aLQ) .skip))))) (.region azB))))
def azC:Rg:=[iM 52 5,iM 4 52]
def apM:aC:=(sq aLH (.seq (sq aLI (.cond (Tm 9) (sq aLJ .ret) .skip)) (sq aLK (.seq (sq aLL (.block 0 (.loop azA))) (sq azC .ret)))))
def a0I:aS:=⟨2,53,apM,[.tmp 4]⟩
def aXA:Rg:=[iA 3 (.box true (Tm 0)),iI 6 0]
def aXB:Rg:=[iO 7 7 3,iK 8 161 7,iA 9 (.un .not (Tm 8)),iM 10 9,gM 11 1 10 false,gC 12 .lss 11 0 10 false,iQ 13 10 12,iM 14 13,gM 15 1 14 false,gF 16 4 3 14 false,gL 17 16 14 false,gN 18 17 14 false,gB 19 .geq 15 18 14 false,iQ 20 14 19,iM 21 20,gM 22 2 21 false,gC 23 .lss 22 0 21 false,iQ 24 21 23,iM 25 24,gM 26 2 25 false,gC 27 .geq 26 5 25 false,iQ 28 25 27]
def aXC:Rg:=[iI 6 (-1)]
def aXD:Rg:=[iO 29 7 3,iM 30 1,iM 31 2,iA 32 (.call 155 [(Tm 29),(Tm 30),(Tm 31)]),iM 6 32]
def aLC:aC:=(sq aXA (.seq (sq aXB (.cond (Tm 28) (sq aXC .ret) .skip)) (sq aXD .ret)))
def tat:aS:=⟨3,33,aLC,[.tmp 6]⟩
def aoW:Rg:=[iA 2 (.box true (Tm 0)),iZ 4]
def aoX:Rg:=[iZ 5]
def aoY:Rg:=[iO 7 7 2,iK 8 161 7,iA 9 (.un .not (Tm 8)),iM 10 9,gM 11 1 10 false,gC 12 .lss 11 0 10 false,iQ 13 10 12,iM 14 13,gM 15 1 14 false,gF 16 3 2 14 false,gL 17 16 14 false,gN 18 17 14 false,gB 19 .geq 15 18 14 false,iQ 20 14 19]
def aoZ:Rg:=[iM 21 5,iM 4 21]
def apA:Rg:=[iF 22 4 2,iL 23 22,iN 24 23,iI 25 0]
def apB:Rg:=[iB 26 .lss 25 24]
def apC:Rg:=[iM 27 25,iM 6 27]
def apD:Rd:=[(iO 28 7 2,false),(iM 29 6,false),(iF 30 3 2,false),(iL 31 30,false),(iM 32 1,false),(iX 33 7 31 32,false),(iF 34 1 33,false),(iL 35 34,false),(iA 36 (.call 155 [(Tm 28),(Tm 29),(Tm 35)]),true),(iM 37 1,true),(iB 38 .eql 36 37,false)]
def apE:Rg:=[iM 39 5,iM 40 6,iA 41 (.a6B true 1 1 [zI] [(0,(Tm 40))]),iA 42 (.append 1 8 (Tm 39) (Tm 41)),iM 5 42]
def apF:Rg:=[iC 43 .add 25 1,iM 25 43]
def Xf:aC:=(sq apB (.seq (.cond (Tm 26) .skip (.exit 0)) (.seq (.block 1 (sq apC (dq apD (.cond (Tm 38) (.region apE) .skip)))) (.region apF))))
def Xg:Rg:=[iM 44 5,iM 4 44]
def Sy:aC:=(sq aoW (sq aoX (.seq (sq aoY (.cond (Tm 20) (sq aoZ .ret) .skip)) (.seq (sq apA (.block 0 (.loop Xf))) (sq Xg .ret)))))
def aTL:aS:=⟨2,45,Sy,[.tmp 4]⟩
def ayC:Rg:=[iA 2 (.box true (Tm 0)),iZ 4]
def ayD:Rg:=[iZ 5]
def ayE:Rg:=[iO 8 7 2,iK 9 161 8,iA 10 (.un .not (Tm 9)),iM 11 10,gM 12 1 11 false,gC 13 .lss 12 0 11 false,iQ 14 11 13]
def ayF:Rg:=[iM 15 5,iM 4 15]
def ayG:Rg:=[iF 16 3 2,iL 17 16,iN 18 17,iI 19 0]
def ayH:Rg:=[iB 20 .lss 19 18]
def ayI:Rg:=[iM 21 19,iX 22 7 17 19,iO 23 7 22,iA 7 (.alloc [(.str []),zI,zI,zI,zB,.aB,.aB]),iM 6 21,iS 7 7 23]
def ayJ:Rg:=[iF 24 2 7,iL 25 24,iM 26 1,iB 27 .eql 25 26]
def ayK:Rg:=[iM 28 5,iM 29 6,iA 30 (.a6B true 1 1 [zI] [(0,(Tm 29))]),iA 31 (.append 1 8 (Tm 28) (Tm 30)),iM 5 31]
def ayL:Rg:=[iC 32 .add 19 1,iM 19 32]
def aoU:aC:=(sq ayH (.seq (.cond (Tm 20) .skip (.exit 0)) (.seq (.block 1 (sq ayI (sq ayJ (.cond (Tm 27) (.region ayK) .skip)))) (.region ayL))))
def aoV:Rg:=[iM 33 5,iM 4 33]
def Xe:aC:=(sq ayC (sq ayD (.seq (sq ayE (.cond (Tm 14) (sq ayF .ret) .skip)) (.seq (sq ayG (.block 0 (.loop aoU))) (sq aoV .ret)))))
def aXE:aS:=⟨2,34,Xe,[.tmp 4]⟩
def ayP:Rg:=[iA 2 (.box true (Tm 0)),iZ 4]
def ayQ:Rg:=[iF 10 4 2,iL 11 10,iN 12 11,iA 13 (.a6D 1 8 [zI] (Tm 12) (Tm 12)),iM 5 13]
def ayR:Rg:=[iM 14 1,iN 15 14,iI 16 0]
def ayS:Rg:=[iB 17 .lss 16 15]
def ayT:Rg:=[iX 18 1 14 16,iL 19 18,iM 7 19]
def ayU:Rg:=[iM 20 7,iN 21 20,iI 22 0]
def ayV:Rg:=[iB 23 .lss 22 21]
def ayW:Rg:=[iX 24 1 20 22,iL 25 24,iM 9 25]
def ayX:Rg:=[iM 26 9,iC 27 .geq 26 0,iM 28 27,gM 29 9 28 true,gM 30 5 28 true,gN 31 30 28 true,gB 32 .lss 29 31 28 true,iP 33 28 32]
def ayY:Rg:=[iM 34 5,iM 35 9,iX 36 1 34 35,iL 37 36,iC 38 .add 37 1,iX 39 1 34 35,iS 1 39 38]
def apJ:Rg:=[iC 40 .add 22 1,iM 22 40]
def apH:aC:=(sq ayV (.seq (.cond (Tm 23) .skip (.exit 2)) (.seq (.block 3 (sq ayW (sq ayX (.cond (Tm 33) (.region ayY) .skip)))) (.region apJ))))
def apK:Rg:=[iC 41 .add 16 1,iM 16 41]
def apI:aC:=(sq ayS (.seq (.cond (Tm 17) .skip (.exit 0)) (.seq (.block 1 (sq ayT (sq ayU (.block 2 (.loop apH))))) (.region apK))))
def apL:Rg:=[iM 42 5,iM 4 42]
def Xi:aC:=(sq ayP (sq ayQ (.seq (sq ayR (.block 0 (.loop apI))) (sq apL .ret))))
def aXG:aS:=⟨2,43,Xi,[.tmp 4]⟩
def axS:Rg:=[iA 2 (.box true (Tm 0)),iZ 4]
def axT:Rg:=[iO 5 7 2,iK 6 161 5,iA 7 (.un .not (Tm 6))]
def axU:Rg:=[iZ 4]
def axV:Rg:=[iO 8 7 2,iM 9 1,iK2 10 157 8 9,iM 4 10]
def Xa:aC:=(sq axS (.seq (sq axT (.cond (Tm 7) (sq axU .ret) .skip)) (sq axV .ret)))
def aWY:aS:=⟨2,11,Xa,[.tmp 4]⟩
def azE:Rg:=[iA 3 (.box true (Tm 0)),iA 6 (.alloc [zI,zI,zI]),iT 7 false]
def azF:Rd:=[(iM 10 1,true),(iM 11 2,true),(iX 12 1 10 11,true),(iL 13 12,true),(iN 14 13,true),(iO 15 7 3,false),(iM 16 2,false),(iK2 17 156 15 16,true),(iB 18 .neq 14 17,false)]
def azG:Rg:=[iM 19 2,iM 20 1,iM 21 2,iX 22 1 20 21,iL 23 22,iN 24 23,iA 25 (.build [zI,zI,zI] [(0,1,(Ci 1)),(1,1,(Tm 19)),(2,1,(Tm 24))]),iS 3 6 25,iT 7 true]
def azH:Rg:=[iM 26 1,iM 27 2,iX 28 1 26 27,iL 29 28,iN 30 29,iI 31 0]
def azI:Rg:=[iB 32 .lss 31 30]
def azJ:Rg:=[iM 33 31,iX 34 1 29 31,iL 35 34,iM 8 33,iM 9 35]
def azK:Rg:=[iM 36 9,iC 37 .lss 36 (-1),iM 38 37,gM 39 9 38 false,gF 40 4 3 38 false,gL 41 40 38 false,gN 42 41 38 false,gB 43 .geq 39 42 38 false,iQ 44 38 43]
def azL:Rg:=[iM 45 2,iM 46 8,iA 47 (.build [zI,zI,zI] [(0,1,(Ci 1)),(1,1,(Tm 45)),(2,1,(Tm 46))]),iS 3 6 47,iT 7 true]
def azM:Rg:=[iC 48 .add 31 1,iM 31 48]
def azD:aC:=(sq azI (.seq (.cond (Tm 32) .skip (.exit 0)) (.seq (.block 1 (sq azJ (sq azK (.cond (Tm 44) (sq azL .ret) .skip)))) (.region azM))))
def apN:Rg:=[iA 49 (.build [zI,zI,zI] []),iS 3 6 49,iT 7 false]
def Xj:aC:=(sq azE (.seq (dq azF (.cond (Tm 18) (sq azG .ret) .skip)) (.seq (sq azH (.block 0 (.loop azD))) (sq apN .ret))))
def aXH:aS:=⟨3,50,Xj,[.cell 6 (some 3),.tmp 7]⟩
def aoJ:Rg:=[iA 2 (.box true (Tm 0)),iT 4 false]
def aoK:Rg:=[iO 8 7 2,iK 9 161 8,iA 10 (.un .not (Tm 9)),iM 11 10,gM 12 1 11 false,gN 13 12 11 false,gF 14 6 2 11 false,gL 15 14 11 false,gN 16 15 11 false,gB 17 .neq 13 16 11 false,iQ 18 11 17]
def aoL:Rg:=[iT 4 false]
def aoM:Rg:=[iM 19 1,iN 20 19,iI 21 0]
def aoN:Rg:=[iB 22 .lss 21 20]
def aoO:Rg:=[iM 23 21,iM 5 23]
def aoP:Rg:=[iO 25 7 2,iM 26 1,iM 27 5,iA 28 (.call 160 [(Tm 25),(Tm 26),(Tm 27)]),iM 24 28,iE 29 24 0,iE 30 24 1,iA 6 (.alloc [zI,zI,zI]),iS 3 6 29,iM 7 30]
def aoQ:Rg:=[iM 31 7]
def aoR:Rg:=[iT 4 false]
def aoS:Rg:=[iC 32 .add 21 1,iM 21 32]
def Xb:aC:=(sq aoN (.seq (.cond (Tm 22) .skip (.exit 0)) (.seq (.block 1 (sq aoO (sq aoP (sq aoQ (.cond (Tm 31) (sq aoR .ret) .skip))))) (.region aoS))))
def Xc:Rg:=[iT 4 true]
def Sx:aC:=(sq aoJ (.seq (sq aoK (.cond (Tm 18) (sq aoL .ret) .skip)) (.seq (sq aoM (.block 0 (.loop Xb))) (sq Xc .ret))))
def aTK:aS:=⟨2,33,Sx,[.tmp 4]⟩
def aAD:Rg:=[iA 5 (.alloc [zI,zI,zI])]
def aAE:Rg:=[iM 6 0,iL 7 2,iM 8 1,iA 9 (.build [zI,zI,zI] [(0,1,(Tm 6)),(1,1,(Tm 7)),(2,1,(Tm 8))]),iS 3 5 9]
def Xl:aC:=(sq aAD (sq aAE .ret))
def aXJ:aS:=⟨2,10,Xl,[.cell 5 (some 3)]⟩
def aMC:Rg:=[iA 3 (.box true (Tm 0)),iA 5 (.box false (Tm 2)),iZ 6]
def aMD:Rd:=[(iF 25 5 3,false),(iL 26 25,false),(iF 27 6 3,false),(iL 28 27,false),(iL 29 5,false),(iX 30 2 28 29,false),(iF 31 1 30,false),(iL 32 31,false),(iX 33 17 26 32,false),(iO 34 17 33,false),(iA 7 (.alloc [(.str []),zI,zI,zI,zI,zI,zI,zI,zI,.aB,.aB,zB,.aB,.aB,zB,.aB,.aB]),true),(iS 17 7 34,true)]
def aME:Rg:=[iF 35 2 3,iL 36 35,iN 37 36,iA 38 (.a6D 1 1 [zB] (Tm 37) (Tm 37)),iM 8 38]
def aMF:Rg:=[iF 39 9 7,iL 40 39,iN 41 40,iI 42 0]
def aMG:Rg:=[iB 43 .lss 42 41]
def aMH:Rg:=[iX 44 1 40 42,iL 45 44,iM 10 45]
def aMI:Rg:=[iM 46 8,iM 47 10,iX 48 1 46 47,⟨none,.store 1 (Tm 48) (.const (.bool true)),none⟩]
def aMJ:Rg:=[iC 49 .add 42 1,iM 42 49]
def aMB:aC:=(sq aMG (.seq (.cond (Tm 43) .skip (.exit 0)) (.seq (.block 1 (sq aMH (.region aMI))) (.region aMJ))))
def aMK:Rg:=[iA 50 (.mkfn 159 [(Tm 5)]),iM 11 50]
def aAJ:Rg:=[iZ 12,iZ 13]
def aAK:Rd:=[(iF 51 4 3,false),(iL 52 51,false),(iN 53 52,false),(iA 54 (.a6D 1 8 [zI] (Tm 53) (Tm 53)),true),(iF 55 3 3,false),(iL 56 55,false),(iN 57 56,false),(iA 58 (.a6D 1 8 [zI] (Tm 57) (Tm 57)),true),(iM 14 54,false),(iM 15 58,false)]
def aAL:Rg:=[iM 59 1,iL 60 5,iX 61 1 59 60,iL 62 61,iN 63 62,iI 64 0]
def aAM:Rg:=[iB 65 .lss 64 63]
def aAN:Rg:=[iM 66 64,iX 67 1 62 64,iL 68 67,iM 16 66,iM 17 68]
def aAO:Rg:=[iM 69 17,iC 70 .lss 69 0]
def aAP:Rg:=[iM 71 12,iM 72 11,iM 73 16,iA 74 (.a6X (Tm 72) [(Ci 2),(Tm 73)]),iA 75 (.a6B true 3 1 [zI,zI,zI] [(0,(Tm 74))]),iA 76 (.append 3 24 (Tm 71) (Tm 75)),iM 12 76]
def aAQ:Rg:=[iM 77 8,iF 78 4 3,iL 79 78,iM 80 17,iX 81 3 79 80,iF 82 1 81,iL 83 82,iX 84 1 77 83,iL 85 84,iA 86 (.un .not (Tm 85))]
def aAR:Rg:=[iM 87 13,iM 88 11,iM 89 16,iA 90 (.a6X (Tm 88) [(Ci 4),(Tm 89)]),iA 91 (.a6B true 3 1 [zI,zI,zI] [(0,(Tm 90))]),iA 92 (.append 3 24 (Tm 87) (Tm 91)),iM 13 92]
def aAS:Rg:=[iM 93 14,iM 94 17,iX 95 1 93 94,iL 96 95,iC 97 .add 96 1,iX 98 1 93 94,iS 1 98 97]
def aAT:Rg:=[iF 99 4 3,iL 100 99,iM 101 17,iX 102 3 100 101,iF 103 2 102,iL 104 103,iM 18 104]
def aAU:Rg:=[iM 105 18,iC 106 .gtr 105 0]
def aAV:Rg:=[iM 113 15,iM 114 18,iX 115 1 113 114,iL 116 115,iC 117 .add 116 1,iX 118 1 113 114,iS 1 118 117]
def aAW:Rg:=[iF 107 3 3,iL 108 107,iM 109 18,iX 110 7 108 109,iF 111 2 110,iL 112 111,iM 18 112]
def aAF:aC:=(.seq (sq aAU (.cond (Tm 106) .skip (.exit 4))) (.seq (.block 5 (.region aAV)) (.region aAW)))
def aAX:Rg:=[iC 119 .add 64 1,iM 64 119]
def aAG:aC:=(sq aAM (.seq (.cond (Tm 65) .skip (.exit 2)) (.seq (.block 3 (sq aAN (.seq (sq aAO (.cond (Tm 70) (sq aAP (.exit 3)) .skip)) (.seq (sq aAQ (.cond (Tm 86) (.region aAR) .skip)) (sq aAS (sq aAT (.block 4 (.loop aAF)))))))) (.region aAX))))
def aAY:Rg:=[iM 120 12,iM 19 120]
def aAZ:Rg:=[iM 121 14,iN 122 121,iI 123 0]
def aBA:Rg:=[iB 124 .lss 123 122]
def aBB:Rg:=[iM 125 123,iX 126 1 121 123,iL 127 126,iM 20 125,iM 21 127]
def aBC:Rg:=[iM 128 21,iC 129 .gtr 128 1]
def aBD:Rg:=[iM 130 19,iM 131 11,iM 132 20,iA 133 (.a6X (Tm 131) [(Ci 3),(Tm 132)]),iA 134 (.a6B true 3 1 [zI,zI,zI] [(0,(Tm 133))]),iA 135 (.append 3 24 (Tm 130) (Tm 134)),iM 19 135]
def aBE:Rg:=[iC 136 .add 123 1,iM 123 136]
def aAH:aC:=(sq aBA (.seq (.cond (Tm 124) .skip (.exit 6)) (.seq (.block 7 (sq aBB (sq aBC (.cond (Tm 129) (.region aBD) .skip)))) (.region aBE))))
def aBF:Rg:=[iM 137 19,iM 138 13,iA 139 (.append 3 24 (Tm 137) (Tm 138)),iM 19 139]
def aBG:Rg:=[iM 140 15,iN 141 140,iI 142 0]
def aBH:Rg:=[iB 143 .lss 142 141]
def aBI:Rg:=[iM 144 142,iX 145 1 140 142,iL 146 145,iM 22 144,iM 23 146]
def aBJ:Rg:=[iF 147 3 3,iL 148 147,iM 149 22,iX 150 7 148 149,iF 151 1 150,iL 152 151,iF 153 4 7,iA 154 (.idxA 5 1 (Tm 153) (Tm 152)),iL 155 154,iM 24 155]
def aBK:Rg:=[iM 156 24,iC 157 .gtr 156 0,iM 158 157,gM 159 23 158 true,gM 160 24 158 true,gB 161 .gtr 159 160 158 true,iP 162 158 161]
def aBL:Rg:=[iM 163 19,iM 164 11,iM 165 22,iA 166 (.a6X (Tm 164) [(Ci 5),(Tm 165)]),iA 167 (.a6B true 3 1 [zI,zI,zI] [(0,(Tm 166))]),iA 168 (.append 3 24 (Tm 163) (Tm 167)),iM 19 168]
def aBM:Rg:=[iC 169 .add 142 1,iM 142 169]
def aAI:aC:=(sq aBH (.seq (.cond (Tm 143) .skip (.exit 8)) (.seq (.block 9 (sq aBI (sq aBJ (sq aBK (.cond (Tm 162) (.region aBL) .skip))))) (.region aBM))))
def aBN:Rg:=[iM 170 19,iM 6 170]
def apP:aC:=(sq aMC (dq aMD (sq aME (.seq (sq aMF (.block 0 (.loop aMB))) (sq aMK (sq aAJ (dq aAK (.seq (sq aAL (.block 2 (.loop aAG))) (sq aAY (.seq (sq aAZ (.block 6 (.loop aAH))) (sq aBF (.seq (sq aBG (.block 8 (.loop aAI))) (sq aBN .ret)))))))))))))
def a0K:aS:=⟨3,171,apP,[.tmp 6]⟩
def aLR:Rg:=[iA 3 (.box true (Tm 0)),iZ 6]
def aLS:Rg:=[iO 15 7 3,iK 16 161 15,iA 17 (.un .not (Tm 16)),iM 14 17]
def aLT:Rg:=[iZ 6]
def aLU:Rg:=[iM 19 1,iN 20 19,iF 21 6 3,iL 22 21,iN 23 22,iB 24 .neq 20 23,iM 18 24]
def aLV:Rg:=[iM 25 1,iN 26 25,iA 27 (.build [zI,zI,zI] [(0,1,(Ci 1)),(1,1,(Ci (-1))),(2,1,(Tm 26))]),iA 28 (.a6B true 3 1 [zI,zI,zI] [(0,(Tm 27))]),iM 6 28]
def aLW:Rg:=[iZ 7]
def aLX:Rg:=[iM 29 1,iN 30 29,iI 31 0]
def aLY:Rg:=[iB 32 .lss 31 30]
def aLZ:Rg:=[iM 33 31,iM 8 33]
def aMA:Rg:=[iO 35 7 3,iM 36 1,iM 37 8,iA 38 (.call 160 [(Tm 35),(Tm 36),(Tm 37)]),iM 34 38,iE 39 34 0,iE 40 34 1,iA 9 (.alloc [zI,zI,zI]),iS 3 9 39,iM 10 40]
def azR:Rg:=[iM 41 10]
def azS:Rg:=[iM 42 7,iO 43 3 9,iA 44 (.a6B true 3 1 [zI,zI,zI] [(0,(Tm 43))]),iA 45 (.append 3 24 (Tm 42) (Tm 44)),iM 7 45]
def azT:Rg:=[iM 46 7,iO 47 7 3,iM 48 1,iM 49 8,iA 50 (.call 158 [(Tm 47),(Tm 48),(Tm 49)]),iA 51 (.append 3 24 (Tm 46) (Tm 50)),iM 7 51]
def azU:Rg:=[iC 52 .add 31 1,iM 31 52]
def azP:aC:=(sq aLY (.seq (.cond (Tm 32) .skip (.exit 1)) (.seq (.block 2 (sq aLZ (.seq (sq aMA (sq azR (.cond (Tm 41) (sq azS (.exit 2)) .skip))) (.region azT)))) (.region azU))))
def azV:Rg:=[iO 53 7 3,iM 54 2,iK2 55 152 53 54,iM 11 55]
def azW:Rg:=[iO 56 7 3,iM 57 1,iK2 58 157 56 57,iN 59 58,iI 60 0]
def azX:Rg:=[iB 61 .lss 60 59]
def azY:Rg:=[iM 62 60,iX 63 1 58 60,iL 64 63,iM 12 62,iM 13 64]
def azZ:Rg:=[iM 65 13,iM 66 11,iM 67 12,iX 68 1 66 67,iL 69 68,iB 70 .gtr 65 69]
def aAA:Rg:=[iM 71 7,iM 72 12,iA 73 (.build [zI,zI,zI] [(0,1,(Ci 6)),(1,1,(Ci (-1))),(2,1,(Tm 72))]),iA 74 (.a6B true 3 1 [zI,zI,zI] [(0,(Tm 73))]),iA 75 (.append 3 24 (Tm 71) (Tm 74)),iM 7 75]
def aAB:Rg:=[iC 76 .add 60 1,iM 60 76]
def azQ:aC:=(sq azX (.seq (.cond (Tm 61) .skip (.exit 3)) (.seq (.block 4 (sq azY (sq azZ (.cond (Tm 70) (.region aAA) .skip)))) (.region aAB))))
def aAC:Rg:=[iM 77 7,iM 6 77]
def apO:aC:=(sq aLR (.seq (.block 0 (sq aLS (.cond (Tm 14) (sq aLT .ret) (sq aLU (.cond (Tm 18) (sq aLV .ret) .skip))))) (sq aLW (.seq (sq aLX (.block 1 (.loop azP))) (sq azV (.seq (sq azW (.block 3 (.loop azQ))) (sq aAC .ret)))))))
def a0J:aS:=⟨3,78,apO,[.tmp 6]⟩
def ayN:Rg:=[iA 3 (.box true (Tm 0)),iT 6 false]
def ayO:Rg:=[iO 7 7 3,iK 8 161 7,iM 9 8,gO 10 7 3 9 true,gM 11 1 9 true,gM 12 2 9 true,iG 13 (.call 154 [(Tm 10),(Tm 11),(Tm 12)]) 9 true,gN 14 13 9 true,gC 15 .eql 14 0 9 true,iP 16 9 15,iM 6 16]
def Xh:aC:=(sq ayN (sq ayO .ret))
def aXF:aS:=⟨3,17,Xh,[.tmp 6]⟩
theorem pH {f:aE} {d:Nat} (h:d<f.a5V.length):(f.a5V.map dH.cells)[d]?=some (f.a5V[d]).cells:=by simp[h]
theorem fG {f:aE} {d:Nat} (h:d<f.a5Y.length):(f.a5Y.map cD.cells)[d]?=some (f.a5Y[d]).cells:=by simp[h]
theorem Wu {f:aE} {d:Nat} (h:d<f.a5Z.length):(f.a5Z.map bS.cells)[d]?=some (f.a5Z[d]).cells:=by simp[h]
theorem sV {f:aE} {d:Nat} (h:d<f.a5Y.length):(f.a5Y[d]).level=lvl f d:=by rw[lvl,getD_at h]
theorem mi {f:aE} {d:Nat} (h:d<f.a5Y.length):(f.a5Y[d]).parent=par f d:=by rw[par,getD_at h]
theorem VF.u6 {f:aE} (h:VF f) {d:Nat} (c:d<f.a5V.length):(f.a5V[d]).machine=((dK f d:Nat):Int):=by
 have:=(h.drive d c).2.2.1;rw[dK,getD_at c]; omega
theorem VF.kc {f:aE} (h:VF f) {d:Nat} (c:d<f.a5V.length):(f.a5V[d]).model=((mdl f d:Nat):Int):=by
 have:=(h.drive d c).1;rw[mdl,getD_at c]; omega
theorem VF.wc {f:aE} (h:VF f) {i:Nat} (c:0<i) (hi:i<f.a5Y.length):par f i=((KG f i:Nat):Int):=by
 have:=(h.dom i c hi).1;rw[KG]; omega
theorem aHZ {f:aE} (h:VF f) {v:Nat} (d:v<f.a5X.length):∃ c:DR f v<f.a5Z.length,f.a5Z[DR f v]=KL f v:=by
 have c:=(h.volume v d).2;exact⟨c,by simp[KL,a7Z,c]⟩
def pick (n:Nat) (p:Nat→Bool):List Int:=((a7H n).filter p).map fun (i:Nat)=>(i:Int)
theorem avE (n:Nat) (p:Nat→Bool):pick (n+1) p=if p n then pick n p++[(n:Int)] else pick n p:=by
 unfold pick;rw[baS,List.filter_append,a8G];by_cases h:p n
 ·rw[if_pos h]; simp[h]
 ·rw[if_neg h]; simp[h]
theorem aHX (n:Nat) (p:Nat→Bool):(pick n p).length≤n:=by
 unfold pick;rw[a7G];exact a8V (List.length_filter_le _ _) (by simp)
theorem alE (l:List Int) (x:Int):aY l++[[.int .i64 x]]=aY (l++[x]):=by unfold aY; rw[a8G]; rfl
theorem dC (l:List Int):(aY l).length=l.length:=by unfold aY; rw[a7G]
theorem wr {t:Nat} {H:PH} {v:PV} {l:List Int} {F:PF} (h:bQ H 1 v (aY l)) (c:F t=some v):aV [.tmp t] (bY (ints l)) .ret F H:=qL (.inr rfl) h c
theorem AA {t:Nat} {H:PH} {F:PF} (c:F t=some .aB):aV [.tmp t] (bY (ints [])) .ret F H:=qL (rows:=[]) (.inr rfl) .nil c
def FK (f:aE) (dom:Int):List Int :=
 if dQ f∧0≤dom∧dom<f.a5Y.length then pick f.a5V.length fun d=>decide ((cO f d (lvl f dom.toNat):Nat)=dom.toNat) else []
section
variable (o s:Nat) (rs:List (List PV))
@[go_sem] theorem a3A (k:IntKind) (n:Int):PV.frz o s rs (.int k n)=.int k n:=(rfl)
@[go_sem] theorem a1I (b:Bool):PV.frz o s rs (.bool b)=.bool b:=(rfl)
@[go_sem] theorem a3E (l:List UInt8):PV.frz o s rs (.str l)=.str l:=(rfl)
@[go_sem] theorem a1J:PV.frz o s rs .aB=.aB:=(rfl)
@[go_sem] theorem a4F (n:Nat) (r:List (List PV)):PV.frz o s rs (.sl n r)=.sl n r:=(rfl)
@[go_sem] theorem a1K (c:List PV):PV.frz o s rs (.bH c)=.bH c:=(rfl)
@[go_sem] theorem a3D (q z i c:Nat):PV.frz o s rs (.ptr q z i c)=.ptr q z i c:=(rfl)
@[go_sem] theorem a4E (n:Nat) (c:List PV):PV.frz o s rs (.fn n c)=.fn n c:=(rfl)
@[go_sem] theorem a3B (q:Nat):PV.frz o s rs (.map q)=.map q:=(rfl)
@[go_sem] theorem a3C (q z c len:Nat):PV.frz o s rs (.osl q z c len)=if q=o then (if z=s∧c+len≤rs.length then .sl s ((rs.drop c).take len) else .junk) else .osl q z c len:=(rfl)
end
def oP (s:Nat) (rows:List (List PV)) (r:PV) (H:PH):Prop :=
 (rows=[]∧r=.aB∧H=PH.nil)∨∃ q rs,r=.osl q s 0 rows.length∧H=PH.nil.set q (.rows s rs)∧rows.length≤rs.length∧rs.take rows.length=rows
theorem Y4 (q s:Nat) (rs:List (List PV)):(PH.nil.set q (.rows s rs)).frz q s rs=PH.nil:=PH.ext fun o=>by
 rw[yF];by_cases e:o=q
 ·rw[if_pos e]; rfl
 ·rw[if_neg e,aT,if_neg e]; rfl
section
variable {C:Ctx} {K:bR} {F:PF} {H:PH} {s:Nat} {v:PV} {rows:List (List PV)}
theorem oP.over {r:PV} {H':PH} (h:oP s rows r H') (i:lZ H .nil H'):bQ (H.over .nil H') s r rows∧∀ o x,H o=some x→(H.over .nil H') o=some x:=by
 rcases h with ⟨c,e,rfl⟩ | ⟨q,rs,c,rfl,h3,h4⟩
 ·rw[PH.zU]; exact⟨.inl ⟨c,e⟩,fun o x h=>h⟩
 ·rw[PH.pN];have l:H q=none:=i q (.rows s rs) (by simp only[aT,if_true]) rfl;refine⟨.inr ⟨q,rs,c,by simp only[aT,if_true],h3,h4⟩,fun o x d=>?_⟩;have:o≠q:=by rintro rfl; rw[l] at d; cases d
  simp only[aT,if_neg this,d]
theorem nb {t:Nat} {e:kM} (c:e=.normal∨e=.ret) (h:bQ H s v rows) (d:F t=some v):aV [.tmp t] (oP s rows) e F H:=by
 rcases h with ⟨rfl,rfl⟩ | ⟨q,rs,rfl,h1,h2,h3⟩
 ·exact bA (vs:=[.aB]) c .nil (by rw[kI,nC,d,oK]) a_ (.inl ⟨rfl,rfl,rfl⟩)
 ·exact bA (vs:=[.osl q s 0 rows.length]) c (PH.nil.set q (.rows s rs)) (by rw[kI,nC,d,oK]) (PH.aK a_ h1) (.inr ⟨q,rs,rfl,rfl,h2,h3⟩)
theorem wq {t:Nat} {e:kM} (c:e=.normal∨e=.ret) (d:F t=some .aB):aV [.tmp t] (oP s []) e F H:=nb c .nil d
theorem avM {t:Nat} {e:kM} {r:PV} {H':PH} (c:e=.normal∨e=.ret) (h:oP s rows r H') (i:F t=some r):aV [.tmp t] (oP s rows) e F (H.over .nil H'):=by
 refine bA (vs:=[r]) c H' (by rw[kI,nC,i,oK]) (fun o x d=>?_) h;rw[gV,d]
theorem aH.freeze {name:Nat} {args:List PV} (h:aH C name args H (oP s rows)):aH C name args H (aF (.sl s rows)) :=
 ⟨h.1,fun E w vs J hW l=>(h.2 E w vs J hW l).mono fun e R M=>by
  obtain⟨u,pv,A,H',rfl,c,y,x,N⟩:=M;rcases N with ⟨rfl,rfl,rfl⟩ | ⟨q,rs,rfl,rfl,h3,h4⟩
  ·exact⟨u,_,A,_,rfl,c,(Co.nil s).sound y,x,rfl,rfl⟩
  ·have O:jD (PF.nil.set 0 (.osl q s 0 rows.length)) (PH.nil.set q (.rows s rs)) _ _:=.step q (s:=s) (rs:=rs) (by simp only[aT,if_true]) (.refl _ _);obtain⟨B,k1,k2,Q⟩:=O.sound c;have d:=Q (fun _=>u) (fun i p hi=>by
    rw[kD] at hi;split at hi
    ·cases hi; exact y
    ·cases hi) 0 (.sl s rows) (by rw[qW,kD,if_pos rfl,a8W,tZ h3,h4])
   rw[Y4] at k1 k2;exact⟨u,_,B,_,rfl,k1,d,x.trans k2,rfl,rfl⟩⟩
theorem eJ.of:∀ {E:Env} (ps:List PV) (vs:List Value),vs.length=ps.length→(∀ (i:Nat) p v,ps[i]?=some p→vs[i]?=some v→aZ E p v)→eJ E ps vs
 | _,[],[],_,_=>.nil
 | _,[],_::_,h,_=>by simp at h
 | _,_::_,[],h,_=>by simp at h
 | _,p::ps,v::vs,h,k=>.cons (k 0 p v rfl rfl) (eJ.of ps vs (by simpa using h) fun i q u a b=>k (i+1) q u (by simpa using a) (by simpa using b))
theorem bM.same {E:Env} {w l:World} (hW:bM E H w) (A:w.heap.size≤l.heap.size) (y:∀ b,b<w.heap.size→H b=none→l.heap[b]?=w.heap[b]?) (u:∀ o x,H o=some x→l.heap[o]?=w.heap[o]?):bM E H l:=by
 have d:∀ b,b<w.heap.size→l.heap[b]?=w.heap[b]?:=fun b hlt=>by
  cases e:H b with
  | none=>exact y b hlt e
  | some x=>exact u b x e
 refine⟨fun b cs h=>?_,fun o x h=>?_,fun o n h=>?_⟩
 ·obtain⟨c,ty,q,i⟩:=hW.g b cs h;exact⟨c,ty,q,(d b (baQ.1 i).1).trans i⟩
 ·obtain⟨c,i⟩:=hW.h o x h;exact⟨Nat.lt_of_lt_of_le c A,i.mono (.refl E) (d o c)⟩
 ·obtain⟨p,ty,q,c,i⟩:=hW.s o n h;exact⟨p,ty,q,(d o (baQ.1 c).1).trans c,i⟩
inductive Plain:PV→Prop
 | int (k:IntKind) (n:Int):Plain (.int k n)
 | bool (b:Bool):Plain (.bool b)
 | str (l:List UInt8):Plain (.str l)
theorem Plain.rep {v:PV} (h:Plain v) {E c:Env} {u:Value} (r:aZ E v u):aZ c v u:=by
 cases h<;>cases r
 ·exact .int _ _
 ·exact .bool _
 ·exact .str _
theorem aH.aGB {name o:Nat} {rs:List (List PV)} {args:List PV} (Y:Plain v) (h:aH C name (args.map (PV.frz o s rs)) .nil (aF v)) :
  aH C name args (PH.nil.set o (.rows s rs)) (fun r H'=>r=v∧H'=PH.nil.set o (.rows s rs)):=by
 refine⟨h.1,fun E w vs Q hW B=>?_⟩;have Z:jD (PF.args args) (PH.nil.set o (.rows s rs)) _ _:=.step o (s:=s) (rs:=rs) (by simp only[aT,if_true]) (.refl _ _);obtain⟨N,k1,k2,k3⟩:=Z.sound hW;rw[Y4] at k1 k2;have A:=B.len;have J:eJ N (args.map (PV.frz o s rs)) vs.toList:=by
  refine eJ.of _ _ (by rw[a7G]; exact A) fun i p u V X=>?_;have:=k3 (fun i=>(vs.toList[i]?).getD undef) (fun j q O=>by have U:=(a8P.1 O).1;have y:j<vs.toList.length:=Om;simp only[a7U y,baH];exact B.at_ j q _ O (a7U y)) i p (by rw[qW,args_at,← a8F]; exact V)
  simp only[X,baH] at this;exact this
 refine (h.2 N w vs (k2.env.num.trans Q) k1 J).mono fun e w' S=>?_;obtain⟨u,pv,E2,H2,rfl,R,W,l,rfl,rfl⟩:=S;have c:∀ b,b<w.heap.size→w'.heap[b]?=w.heap[b]?:=fun b d=>l.block b d rfl;refine⟨u,pv,E,_,rfl,hW.same l.size (fun b d _=>c b d) (fun q x M=>c q (hW.h q x M).1),Y.rep W,⟨.refl E,l.os,l.tape,l.output,l.size,fun b d _=>c b d,fun q x M=>.inl ⟨x,M⟩,fun b cs d=>.inl d⟩,rfl,rfl⟩
theorem Xp {name o:Nat} {rs:List (List PV)} {args:List aP} {vs:List PV} {d:Option Nat} {K:PF→PH→Prop} (l:Plain v) (h:aH C name (vs.map (PV.frz o s rs)) .nil (aF v)) (c:H o=some (.rows s rs)) (e:aP.evs F args=some vs)
  (i:K (F.put d v) H):iV C name args [] d K F H:=by
 refine kU (h.aGB l) e (PH.aK a_ c) ?_;rintro r H' ⟨rfl,rfl⟩ -;rw[PH.over_self _ (PH.aK a_ c)];exact i
theorem aEM {Hs:PH} {S:Spec} {name o:Nat} {rs:List (List PV)} {vs:List PV} {R:PH→PV→PH→Prop} {args:List aP} {st:Bool} {d:Option Nat} {K:PF→PH→Prop} (l:S name vs=some ([o],R)) (w:Plain v) (u:H o=some (.rows s rs))
  (h:aH C name (vs.map (PV.frz o s rs)) .nil (aF v)) (c:R (PH.nil.set o (.rows s rs)) v (PH.nil.set o (.rows s rs))) (e:∀ r H',R (PH.nil.set o (.rows s rs)) r H'→r=v∧H'=PH.nil.set o (.rows s rs)) (p:aP.evs F args=some vs) (i:Hs.le H) (q:K (F.put d v) H) :
  dOp C Hs S st (.call name args) d K F H:=ZK l u (h.aGB w) c e p i q
theorem Gw {name t:Nat} {R:PV→PH→Prop} {d:Option Nat} {K:PF→PH→Prop} (h:aH C name [.sl s rows] .nil R) (w:bQ H s v rows) (p:F t=some v)
  (l:∀ (c:PF) (e:PH),(∀ i u,F i=some u→Pure u→c i=some u)→∀ r H',R r H'→lZ e .nil H'→K (c.put d r) (e.over .nil H')):iV C name [.tmp t] [] d K F H:=by
 rcases w with ⟨rfl,rfl⟩ | ⟨q,rs,rfl,h1,h2,h3⟩
 ·exact .inl ⟨[.aB],.nil,R,by rw[zF,i7,p,UQ]; rfl,a_,h.anN (.inl ⟨rfl,rfl⟩),l F H fun i u hi _=>hi⟩
 ·refine .inr ⟨_,_,.step q h1 (.refl _ _),[.sl s rows],.nil,R,?_,a_,h,l _ _ fun i u hi x=>?_⟩
  ·simp only[zF,UQ,i7,qW,p,a8W,tZ h2,h3,a9G]
  ·rw[qW,hi,a8W,x q s rs]
end
theorem Af (l:List Int) (i:Nat) (x:Int):(aY l).set i [.int .i64 x]=aY (l.set i x):=by unfold aY; rw[List.map_set]
theorem WG (n:Nat):a7K n [PV.int .i64 0]=aY (a7K n 0):=by simp[aY]
def aWI (f:aE) (c:List Int) (d:Nat):Int:=if c.length=f.a5V.length then min (max (c.getD d 0) 0) (ext f d) else ext f d
def a0C (f:aE) (c:List Int):List Int:=(a7H f.a5V.length).map (aWI f c)
abbrev lay (l:List (List Int)):PV:=.sl 1 (l.map fun r=>[ints r])
def a2N (n:Nat) (xs:List Int):List Int:=(a7H n).map fun (d:Nat)=>((xs.count (d:Int):Nat):Int)
def aVU (f:aE) (l:List (List Int)):List Int:=a2N f.a5V.length l.flatten
structure aYQ (l:List (List Int)):Prop where
 rows:l.length≤16777216
 all:l.flatten.length≤16777216
theorem asJ (l:List (List Int)) {i:Nat} (h:i<l.length):(l.take (i+1)).flatten=(l.take i).flatten++l[i]:=by
 rw[a9E h,List.flatten_append];simp only[List.flatten_cons,List.flatten_nil,a9G]
structure aUQ where
 kind:Int
 vol:Int
 wher:Int
abbrev aUQ.cells (x:aUQ):List PV:=[.int .i64 x.kind,.int .i64 x.vol,.int .i64 x.wher]
section
variable {C:Ctx} {F:PF} {H:PH}
theorem aqM {name:Nat} {vs cs:List PV} {r:PV} {e:PH} {args:List aP} {d:Option Nat} {K:PF→PH→Prop} (h:aH C name (vs++cs) e (fun i H'=>i=r∧H'=e)) (l:aP.evs F args=some vs) (c:e.le H)
  (p:K (F.put d r) H):iV C name args cs d K F H:=by
 refine .inl ⟨vs++cs,e,_,by rw[l]; rfl,c,h,?_⟩;rintro i H' ⟨rfl,rfl⟩ -;rw[PH.over_self _ c];exact p
theorem bQ.ne {s s':Nat} {v:PV} {rows:List (List PV)} {o:Nat} {y:List (List PV)} (h:bQ H s v rows) (i:H o=some (.rows s' y)) (p:s≠s'):∀ l,v≠.osl o s 0 l:=by
 intro l e;rcases h with ⟨_,c⟩ | ⟨q,rs,h1,c,_⟩
 ·rw[c] at e; cases e
 ·rw[h1] at e;injection e with d
  subst d;rw[i] at c;injection c with c
  injection c with c
  exact p c.symm
theorem bQ.set {s s':Nat} {v:PV} {rows:List (List PV)} {o:Nat} {y:List (List PV)} {x:cG} (h:bQ H s v rows) (i:H o=some (.rows s' y)) (l:s≠s'):bQ (H.set o x) s v rows:=by
 have e:=h.ne i l;rcases h with ⟨c,d⟩ | ⟨q,rs,c,d,h3,h4⟩
 ·exact .inl ⟨c,d⟩
 ·refine .inr ⟨q,rs,c,?_,h3,h4⟩;have:q≠o:=by rintro rfl; exact e _ c
  simp only[aT,if_neg this,d]
def Dis (s:Nat) (v u:PV):Prop:=∀ q l c d,v=.osl q s 0 l→u=.osl c s 0 d→q≠c
theorem Dis.nil {s:Nat}:Dis s .aB .aB:=fun _ _ _ _ h=>by cases h
theorem Dis.symm {s:Nat} {v u:PV} (h:Dis s v u):Dis s u v:=fun q l i e c d=>(h i e q l d c).symm
end
def lM (f:aE) (i:Nat) (d:Int):Bool:=decide (0≤d)&&decide (cO f d.toNat (lvl f i)=i)
def fE (f:aE) (xs:List Int) (i:Nat):Int:=if i=0 then 0 else ((xs.countP (lM f i):Nat):Int)
def mD (f:aE) (xs:List Int):List Int:=(a7H f.a5Y.length).map (fE f xs)
def mM (f:aE) (xs:List Int) (d:Nat) (k:Nat):List Int:=(a7H f.a5Y.length).map fun i=>if 4-(k:Int)<lvl f i then fE f (xs++[(d:Int)]) i else fE f xs i
theorem aER (f:aE) (xs:List Int) (d k:Nat):(mM f xs d k).length=f.a5Y.length:=by simp[mM]
theorem VF.kA {f:aE} (h:VF f) {i:Nat} (hi:i<f.a5Y.length):0≤lvl f i∧lvl f i≤4∧(lvl f i=0↔i=0):=by
 rcases a9Q i with e | e
 ·subst e; rw[h.root.2.1]; simp
 ·have:=h.dom i e hi;omega
theorem arY {f:aE} (h:VF f) (xs:List Int) (d:Nat):mM f xs d 0=mD f xs:=by
 refine baO (by simp[mM,mD]) fun i e c=>?_;simp only[mM,mD,a9B,List.getElem_range];have hi:i<f.a5Y.length:=by simpa [mD] using c
 have:=h.kA hi;rw[if_neg Om]
theorem arX {f:aE} (h:VF f) (xs:List Int) (d:Nat):mM f xs d 4=mD f (xs++[(d:Int)]):=by
 refine baO (by simp[mM,mD]) fun i l c=>?_;simp only[mM,mD,a9B,List.getElem_range];have hi:i<f.a5Y.length:=by simpa [mD] using c
 have:=h.kA hi;by_cases e:i=0
 ·subst e;rw[if_neg Om];simp[fE]
 ·rw[if_pos Om]
theorem AZ (f:aE) (xs:List Int) (d:Nat) {i:Nat} (hi:i≠0):fE f (xs++[(d:Int)]) i=fE f xs i+if cO f d (lvl f i)=i then 1 else 0:=by
 unfold fE;rw[if_neg hi,if_neg hi,List.countP_append];by_cases h:cO f d (lvl f i)=i
 ·rw[if_pos h]; simp[lM,h]
 ·rw[if_neg h]; simp[lM,h]
theorem aOV {f:aE} (h:VF f) (xs:List Int) {d:Nat} (x:d<f.a5V.length) {k:Nat} (B:k<4) :
  (mM f xs d k)[upN f k (dK f d)]?=some (fE f xs (upN f k (dK f d))) ∧
  (mM f xs d k).set (upN f k (dK f d)) (fE f xs (upN f k (dK f d))+1)=mM f xs d (k+1):=by
 obtain⟨y,u⟩:=GJ h x (k:=k) Om;constructor
 ·simp only[mM,a8F,List.getElem?_range y,a8W];rw[if_neg Om]
 ·refine baO (by simp[mM]) fun i A w=>?_;have hi:i<f.a5Y.length:=by simpa [mM] using w
  simp only[mM,List.getElem_set,a9B,List.getElem_range];have E:=h.kA hi;by_cases e:upN f k (dK f d)=i
  ·rw[if_pos e];subst e;rw[if_pos Om];have l:upN f k (dK f d)≠0:=by intro e; rw[e,h.root.2.1] at u; omega
   rw[AZ f xs d l,cO,u];have:4-(4-(k:Int)).toNat=k:=Om;rw[this,if_pos rfl]
  ·rw[if_neg e];by_cases c:4-(k:Int)<lvl f i
   ·rw[if_pos c,if_pos Om]
   ·rw[if_neg c];by_cases p:4-((k+1:Nat):Int)<lvl f i
    ·rw[if_pos p];have q:lvl f i=4-(k:Int):=Om;have l:i≠0:=by intro e; subst e; rw[h.root.2.1] at q; omega
     rw[AZ f xs d l,cO,q];have:4-(4-(k:Int)).toNat=k:=Om;rw[this,if_neg e]; simp
    ·rw[if_neg p]
theorem aOU (f:aE) (xs:List Int) (i:Nat):0≤fE f xs i∧fE f xs i≤xs.length:=by
 unfold fE;have:=List.countP_le_length (p:=lM f i) (l:=xs);split<;>omega
structure Obs where
 o5:Nat
 o7:Nat
 o8:Nat
 oD:Nat
 oB:Nat
structure Obs.Ne (o:Obs):Prop where
 a1:o.o5≠o.oD
 a2:o.o5≠o.oB
 a3:o.o7≠o.oD
 a4:o.o7≠o.oB
 a5:o.o8≠o.oD
 a6:o.o8≠o.oB
 a7:o.oD≠o.oB
structure aDD (H:PH) (o:Obs) (v:Nat) (p:bS) (A:List Bool) (D B:List Int):Prop where
 h5:H o.o5=some (.rows 1 [[.int .i64 v]])
 h7:H o.o7=some (.rows 17 [p.cells])
 h8:H o.o8=some (.rows 1 (dJ A))
 hD:H o.oD=some (.rows 1 (aY D))
 hB:H o.oB=some (.rows 1 (aY B))
theorem aDD.keep {H H':PH} {o:Obs} {v:Nat} {p:bS} {A:List Bool} {D B:List Int} (h:aDD H o v p A D B) (c:∀ q s' z,3≠s'→H q=some (.rows s' z)→H' q=some (.rows s' z)):aDD H' o v p A D B :=
 ⟨c _ _ _ (by decide) h.h5,c _ _ _ (by decide) h.h7,c _ _ _ (by decide) h.h8,c _ _ _ (by decide) h.hD,c _ _ _ (by decide) h.hB⟩
structure G2 (f:aE) (row:List Int):Prop where
 len:row.length≤16777216
 at_:∀ x∈row,-1≤x∧x<(f.a5V.length:Nat)
def home (row:List Int) (i:Nat):Bool:=decide (row.getD i 0<0)
def dZ (f:aE) (p:bS) (i:Nat):Int:=p.spread (lvl f i).toNat
theorem OK (n:Nat):a7K n [PV.bool false]=dJ (marks n []):=by rw[At]; simp[dJ]
theorem aCR (f:aE):a7K f.a5Y.length [PV.int .i64 0]=aY (mD f []):=by
 have:mD f []=a7K f.a5Y.length 0:=by refine baO (by simp[mD]) fun i c d=>?_;simp[mD,fE]
 rw[this,WG]
def over (f:aE) (l:List (List Int)) (c:List Int) (d:Nat):Bool:=decide ((aVU f l).getD d 0>(a0C f c).getD d 0)
def abC:Rg:=[iA 2 (.mv (.const (.lit (.pointer none))))]
def abD:Rg:=[iM 3 0,iN 4 3,iC 5 .gtr 4 400]
def abE:Rg:=[iM 6 0,iA 7 (.slice 1 (Tm 6) none (some (Ci 400)) none),iM 0 7]
def vd:Rg:=[iM 8 0,iA 9 (.append 1 1 (.const .aB) (Tm 8)),iA 10 (.build [.aB,zI] [(0,1,(Tm 9))]),iA 11 (.box false (Tm 10)),iM 2 11]
def QU:aC:=(sq abC (.seq (sq abD (.cond (Tm 5) (.region abE) .skip)) (sq vd .ret)))
def aQM:List Nat:=[]
def amB:aS:=⟨1,12,QU,[.tmp 2]⟩
def b9:Rg:=[iI 4 0]
def JO:Rd:=[(iM 5 0,false),(iA 6 (.a6I (Tm 5)),false),(iF 7 1 6,false),(iL 8 7,false),(iM 9 0,false),(iA 10 (.a6I (Tm 9)),false),(iF 11 0 10,false),(iL 12 11,false),(iN 13 12,false),(iB 14 .geq 8 13,false),(iM 15 14,false),(gM 16 1 15 false,false),(gC 17 .lss 16 2 15 false,false),(iQ 18 15 17,false)]
def ca:Rg:=[iI 4 0]
def Pd:Rg:=[iM 19 0,iA 20 (.a6I (Tm 19)),iF 21 1 20,iL 22 21,iC 23 .add 22 1,iA 24 (.a6I (Tm 19)),iF 25 1 24,iS 1 25 23]
def Pe:Rd:=[(iM 26 0,false),(iA 27 (.a6I (Tm 26)),false),(iF 28 0 27,false),(iL 29 28,false),(iM 30 0,false),(iA 31 (.a6I (Tm 30)),false),(iF 32 1 31,false),(iL 33 32,false),(iC 34 .sub 33 1,false),(iX 35 1 29 34,false),(iL 36 35,false),(iA 37 (.conv .i64 (Tm 36)),false),(iM 38 1,false),(iB 39 .rem 37 38,false),(iM 4 39,false)]
def xF:aC:=(sq b9 (.seq (dq JO (.cond (Tm 18) (sq ca .ret) .skip)) (sq Pd (dq Pe .ret))))
def aHA:List Nat:=[]
def lk:aS:=⟨2,40,xF,[.tmp 4]⟩
def Oo:Rg:=[iA 2 (.alloc [zB,.aB,.aB])]
def Oq:Rg:=[iM 6 0,iA 7 (.call 4 [(Tm 6),(Ci 6)]),iA 8 (.bin .add (Ci 1) (Tm 7)),iM 9 0,iA 10 (.call 4 [(Tm 9),(Ci 8)]),iA 11 (.bin .add (Ci 1) (Tm 10)),iK2 12 50 8 11,iM 5 12,iE 13 5 0,iE 14 5 1,iA 3 (.alloc [zB,.aB,.aB]),iS 3 3 13,iM 4 14]
def Or:Rg:=[iO 15 3 3,iS 3 2 15]
def JI:aC:=(sq Oo (sq Oq (sq Or .ret)))
def aGV:List Nat:=[]
def Hd:aS:=⟨1,16,JI,[.cell 2 (some 3)]⟩
def aaV:Rg:=[iA 4 (.alloc [(.str []),.aB,.aB,.aB])]
def aaW:Rg:=[iM 16 0,iM 17 1,iK2 18 4 16 17,iA 19 (.bin .add (Ci 1) (Tm 18)),iM 5 19]
def aaX:Rg:=[iA 6 (.alloc [(.str []),.aB,.aB,.aB])]
def aaY:Rg:=[iI 7 8]
def aaZ:Rg:=[iI 8 0]
def abA:Rg:=[iM 20 8,iM 21 5,iB 22 .lss 20 21]
def u9:Rg:=[iM 25 7,iM 9 25]
def va:Rg:=[iM 26 8,iC 27 .add 26 1,iM 28 5,iB 29 .lss 27 28]
def vb:Rg:=[iM 30 0,iM 31 7,iC 32 .add 31 1,iK2 33 4 30 32,iM 9 33]
def VA:Rg:=[iM 34 7,iM 35 9,iB 36 .sub 34 35,iM 7 36]
def bk:Rg:=[iM 38 9,iA 39 (.call 50 [(Tm 38),(Ci 8)]),iM 37 39,iE 40 37 0,iE 41 37 1,iA 10 (.alloc [zB,.aB,.aB]),iS 3 10 40,iM 11 41]
def bn:Rg:=[iF 42 1 6,iL 43 42,iO 44 3 10,iA 45 (.a6B true 3 1 [zB,.aB,.aB] [(0,(Tm 44))]),iA 46 (.append 3 56 (Tm 43) (Tm 45)),iF 47 1 6,iS 1 47 46]
def bo:Rg:=[iM 48 0,iK 49 1 48,iA 12 (.alloc [zB,.aB,.aB]),iS 3 12 49]
def br:Rg:=[iM 50 8,iC 51 .add 50 1,iM 52 5,iB 53 .lss 51 52,iM 54 53,gM 55 0 54 true,iG 56 (.call 4 [(Tm 55),(Ci 3)]) 54 true,gC 57 .eql 56 0 54 true,iP 58 54 57]
def bs:Rg:=[iA 59 (.call 47 [(Ci 0)]),iS 3 12 59]
def JM:Rg:=[iF 60 3 6,iL 61 60,iO 62 3 12,iA 63 (.a6B true 3 1 [zB,.aB,.aB] [(0,(Tm 62))]),iA 64 (.append 3 56 (Tm 61) (Tm 63)),iF 65 3 6,iS 1 65 64]
def bu:Rg:=[iZ 13]
def bv:Rg:=[iI 14 0]
def O3:Rg:=[iM 66 14,iM 67 5,iB 68 .lss 66 67]
def O4:Rg:=[iA 71 (.call 47 [(Ci 0)]),iA 15 (.alloc [zB,.aB,.aB]),iS 3 15 71]
def O5:Rg:=[iM 72 14,iM 73 8,iC 74 .add 73 1,iB 75 .eql 72 74,iM 76 75,gM 77 14 76 false,gM 78 8 76 false,gB 79 .neq 77 78 76 false,gM 80 79 76 false,gM 81 0 80 true,iG 82 (.call 4 [(Tm 81),(Ci 3)]) 80 true,gC 83 .eql 82 0 80 true,iG 84 (.pick (Tm 80) (Tm 83) (.const zB)) 76 false,iQ 85 76 84]
def bw:Rg:=[iM 86 0,iK 87 1 86,iS 3 15 87]
def bx:Rg:=[iM 88 13,iO 89 3 15,iA 90 (.a6B true 3 1 [zB,.aB,.aB] [(0,(Tm 89))]),iA 91 (.append 3 56 (Tm 88) (Tm 90)),iM 13 91]
def bz:Rg:=[iM 69 14,iC 70 .add 69 1,iM 14 70]
def JL:aC:=(.seq (sq O3 (.cond (Tm 68) .skip (.exit 2))) (.seq (.block 3 (sq O4 (.seq (sq O5 (.cond (Tm 85) (.region bw) .skip)) (.region bx)))) (.region bz)))
def b8:Rg:=[iF 92 2 6,iL 93 92,iM 94 13,iA 95 (.a6B true 1 1 [.aB] [(0,(Tm 94))]),iA 96 (.append 1 24 (Tm 93) (Tm 95)),iF 97 2 6,iS 1 97 96]
def O6:Rg:=[iM 23 8,iC 24 .add 23 1,iM 8 24]
def O2:aC:=(.seq (sq abA (.cond (Tm 22) .skip (.exit 0))) (.seq (.block 1 (sq u9 (.seq (sq va (.cond (Tm 29) (.region vb) .skip)) (sq VA (sq bk (sq bn (sq bo (.seq (sq br (.cond (Tm 58) (.region bs) .skip)) (sq JM (sq bu (.seq (sq bv (.block 2 (.loop JL))) (.region b8)))))))))))) (.region O6)))
def O7:Rg:=[iO 98 4 6,iS 4 4 98]
def QT:aC:=(sq aaV (sq aaW (sq aaX (sq aaY (.seq (sq aaZ (.block 0 (.loop O2))) (sq O7 .ret))))))
def aQK:List Nat:=[45,63,90,95]
def alO:aS:=⟨2,99,QT,[.cell 4 (some 4)]⟩
def abH:Rg:=[iZ 4]
def abI:Rg:=[iZ 5]
def abJ:Rg:=[iI 6 0]
def abK:Rg:=[iM 7 6,iM 8 1,iA 9 (.a6Q true (Tm 8) (Ci 1)),iB 10 .lss 7 9]
def abL:Rg:=[iM 13 5,iM 14 0,iK 15 1 14,iA 16 (.a6B true 3 1 [zB,.aB,.aB] [(0,(Tm 15))]),iA 17 (.append 3 56 (Tm 13) (Tm 16)),iM 5 17]
def abM:Rg:=[iM 11 6,iC 12 .add 11 1,iM 6 12]
def abF:aC:=(.seq (sq abK (.cond (Tm 10) .skip (.exit 0))) (.seq (.block 1 (.region abL)) (.region abM)))
def abN:Rg:=[iM 18 5,iM 4 18]
def QV:aC:=(sq abH (sq abI (.seq (sq abJ (.block 0 (.loop abF))) (sq abN .ret))))
def aQO:List Nat:=[16]
def amC:aS:=⟨2,19,QV,[.tmp 4]⟩
def Pa:Rg:=[iA 4 (.mv (.const (.str [])))]
def Pb:Rg:=[iM 5 0,iM 6 1,iK 7 195 6,iB 8 .add 5 7,iM 4 8]
def JN:aC:=(sq Pa (sq Pb .ret))
def aGZ:List Nat:=[]
def He:aS:=⟨2,9,JN,[.tmp 4]⟩
def Ov:Rg:=[iM 12 1,iA 13 (.a6I (Tm 12)),iF 14 3 13,iL 15 14,iM 16 2,iX 17 7 15 16,iF 18 1 17,iL 19 18,iC 20 .add 19 1,iM 8 20]
def Ow:Rg:=[iM 21 0,iA 22 (.call 4 [(Tm 21),(Ci 2)]),iA 23 (.bin .add (Ci 1) (Tm 22)),iM 9 23]
def Ox:Rg:=[iM 24 8,iC 25 .eql 24 2]
def Oy:Rg:=[iI 9 1]
def JJ:Rg:=[iI 10 0]
def bg:Rg:=[iM 26 10,iM 27 9,iB 28 .lss 26 27]
def bi:Rg:=[iM 31 8,iC 32 .eql 31 5]
def Oz:Rg:=[iM 33 1,iA 34 (.a6I (Tm 33)),iF 35 4 34,iL 36 35,iN 37 36,iM 38 3,iB 39 .lss 37 38]
def O0:Rd:=[(iM 40 1,true),(iM 41 1,true),(iA 42 (.a6I (Tm 41)),true),(iF 43 4 42,true),(iL 44 43,true),(iM 45 1,false),(iA 46 (.a6I (Tm 45)),false),(iF 47 4 46,false),(iL 48 47,false),(iN 49 48,false),(iA 50 (.call 29 [(.const (.str [100])),(Tm 49)]),true),(iM 51 0,true),(iM 52 1,true),(iA 53 (.a6I (Tm 52)),true),(iF 54 2 53,true),(iL 55 54,true),(iN 56 55,true),(iK2 57 4 51 56,true),(iM 58 2,true),(iA 59 (.build [(.str []),zI,zI] [(0,1,(Tm 50)),(1,1,(Tm 57)),(2,1,(Tm 58))]),false),(iA 60 (.a6B true 3 1 [(.str []),zI,zI] [(0,(Tm 59))]),false),(iA 61 (.append 3 32 (Tm 44) (Tm 60)),true),(iA 62 (.a6I (Tm 40)),false),(iF 63 4 62,false)]
def O1:Rd:=[(iS 1 63 61,true)]
def A5:Rg:=[iM 64 1,iA 65 (.a6I (Tm 64)),iF 66 4 65,iL 67 66,iN 68 67,iM 69 3,iB 70 .geq 68 69,iM 71 70,gM 72 1 71 false,iG 73 (.a6I (Tm 72)) 71 false,gF 74 3 73 71 false,gL 75 74 71 false,gN 76 75 71 false,gC 77 .geq 76 35 71 false,iQ 78 71 77]
def A6:Rd:=[(iM 79 8,false),(iA 80 (.a6W (.const (.str [45,115,114,107,109])) (Tm 79)),false),(iA 81 (.a6B true 1 1 [(.int .u8 0)] [(0,(Tm 80))]),false),(iA 82 (.a6J (Tm 81)),false),(iM 83 1,false),(iA 84 (.a6I (Tm 83)),false),(iF 85 3 84,false),(iL 86 85,false),(iN 87 86,false),(iK2 88 29 82 87,true),(iM 89 8,true),(iM 90 2,true),(iM 91 0,true),(iA 92 (.call 4 [(Tm 91),(Ci 16)]),true),(iA 93 (.bin .add (Ci 1) (Tm 92)),true),(iA 94 (.call 47 [(Ci 0)]),true),(iA 95 (.build [(.str []),zI,zI,zI,zB,.aB,.aB] [(0,1,(Tm 88)),(1,1,(Tm 89)),(2,1,(Tm 90)),(3,1,(Tm 93)),(4,3,(Tm 94))]),false),(iA 11 (.alloc [(.str []),zI,zI,zI,zB,.aB,.aB]),true),(iS 7 11 95,true)]
def A7:Rg:=[iM 96 0,iA 97 (.call 4 [(Tm 96),(Ci 3)]),iC 98 .eql 97 0]
def A8:Rg:=[iM 100 0,iA 101 (.call 4 [(Tm 100),(Ci 6)]),iA 102 (.bin .add (Ci 2) (Tm 101)),iA 103 (.call 50 [(Ci 1),(Tm 102)]),iM 99 103,iE 104 99 0,iE 105 99 1,iF 106 4 11,iS 3 106 104]
def QN:Rd:=[(iM 107 1,true),(iM 108 1,false),(iA 109 (.a6I (Tm 108)),false),(iF 110 3 109,false),(iL 111 110,false),(iO 112 7 11,false),(iA 113 (.a6B true 7 1 [(.str []),zI,zI,zI,zB,.aB,.aB] [(0,(Tm 112))]),false),(iA 114 (.append 7 96 (Tm 111) (Tm 113)),true),(iA 115 (.a6I (Tm 107)),false),(iF 116 3 115,false),(iS 1 116 114,true)]
def QO:Rg:=[iM 117 0,iM 118 1,iM 119 1,iA 120 (.a6I (Tm 119)),iF 121 3 120,iL 122 121,iN 123 122,iC 124 .sub 123 1,iM 125 3,iA 126 (.call 7 [(Tm 117),(Tm 118),(Tm 124),(Tm 125)])]
def vW:Rg:=[iM 29 10,iC 30 .add 29 1,iM 10 30]
def vT:aC:=(.seq (sq bg (.cond (Tm 28) .skip (.exit 0))) (.seq (.block 1 (.seq (sq bi (.cond (Tm 32) (.seq (sq Oz (.cond (Tm 39) (dq O0 (.draw O1)) .skip)) (.exit 1)) .skip)) (.seq (sq A5 (.cond (Tm 78) .ret .skip)) (dq A6 (.seq (sq A7 (.cond (Tm 98) (.region A8) .skip)) (dq QN (.region QO))))))) (.region vW)))
def xE:aC:=(sq Ov (sq Ow (.seq (sq Ox (.cond (Tm 25) (.region Oy) .skip)) (sq JJ (.block 0 (.loop vT))))))
def aGW:List Nat:=[60,81,113]
def lj:aS:=⟨4,127,xE,[]⟩
def Aw:Rg:=[iA 6 (.alloc [zI,.aB,.aB,.aB,.aB,.aB,.aB])]
def Ax:Rg:=[iM 20 0,iA 21 (.call 4 [(Tm 20),(Ci 2)]),iA 22 (.bin .add (Ci 1) (Tm 21)),iA 23 (.build [zI,.aB,.aB,.aB,.aB,.aB,.aB] [(0,1,(Tm 22))]),iA 7 (.alloc [zI,.aB,.aB,.aB,.aB,.aB,.aB]),iS 7 7 23]
def Ay:Rg:=[iM 24 0,iA 25 (.call 4 [(Tm 24),(Ci 2)]),iA 26 (.bin .add (Ci 1) (Tm 25)),iM 8 26]
def Az:Rg:=[iI 9 0]
def A0:Rg:=[iM 27 9,iM 28 8,iB 29 .lss 27 28]
def A1:Rg:=[iM 32 0,iA 33 (.call 2 [(Tm 32),(Ci 2)]),iA 10 (.alloc [(.str []),.aB,.aB,.aB]),iS 4 10 33]
def A2:Rg:=[iM 34 9,iA 35 (.call 29 [(.const (.str [108,97,119])),(Tm 34)]),iF 36 0 10,iS 1 36 35]
def A3:Rg:=[iF 37 1 7,iL 38 37,iO 39 4 10,iA 40 (.a6B true 4 1 [(.str []),.aB,.aB,.aB] [(0,(Tm 39))]),iA 41 (.append 4 88 (Tm 38) (Tm 40)),iF 42 1 7,iS 1 42 41]
def A4:Rg:=[iM 30 9,iC 31 .add 30 1,iM 9 31]
def QM:aC:=(.seq (sq A0 (.cond (Tm 29) .skip (.exit 0))) (.seq (.block 1 (sq A1 (sq A2 (.region A3)))) (.region A4)))
def kf:Rg:=[iM 43 0,iA 44 (.call 4 [(Tm 43),(Ci 2)]),iA 45 (.bin .add (Ci 1) (Tm 44)),iM 11 45]
def kg:Rg:=[iI 12 0]
def kh:Rg:=[iM 46 12,iM 47 11,iB 48 .lss 46 47]
def ki:Rd:=[(iF 51 2 7,true),(iL 52 51,true),(iM 53 12,false),(iA 54 (.call 29 [(.const (.str [109])),(Tm 53)]),true),(iM 55 0,true),(iA 56 (.call 4 [(Tm 55),(Ci 4)]),true),(iA 57 (.bin .add (Ci 1) (Tm 56)),true),(iM 58 0,true),(iA 59 (.call 4 [(Tm 58),(Ci 8)]),true),(iA 60 (.bin .add (Ci 1) (Tm 59)),true),(iM 61 0,true),(iF 62 1 7,true),(iL 63 62,true),(iN 64 63,true),(iK2 65 4 61 64,true),(iA 66 (.build [(.str []),zI,zI,zI] [(0,1,(Tm 54)),(1,1,(Tm 57)),(2,1,(Tm 60)),(3,1,(Tm 65))]),false),(iA 67 (.a6B true 4 1 [(.str []),zI,zI,zI] [(0,(Tm 66))]),false),(iA 68 (.append 4 40 (Tm 52) (Tm 67)),true),(iF 69 2 7,false)]
def kj:Rd:=[(iS 1 69 68,true)]
def kk:Rg:=[iM 49 12,iC 50 .add 49 1,iM 12 50]
def IY:aC:=(.seq (sq kh (.cond (Tm 48) .skip (.exit 2))) (.seq (.block 3 (dq ki (.draw kj))) (.region kk)))
def kn:Rg:=[iA 70 (.call 47 [(Ci 0)]),iA 71 (.build [(.str []),zI,zI,zI,zB,.aB,.aB] [(2,1,(Ci (-1))),(4,3,(Tm 70))]),iA 72 (.a6B false 7 1 [(.str []),zI,zI,zI,zB,.aB,.aB] [(0,(Tm 71))]),iF 73 3 7,iS 1 73 72]
def ko:Rg:=[iM 74 0,iM 75 1,iA 76 (.call 7 [(Tm 74),(Tm 7),(Ci 0),(Tm 75)])]
def kp:Rg:=[iM 77 0,iA 78 (.call 4 [(Tm 77),(Ci 2)]),iA 79 (.bin .add (Ci 1) (Tm 78)),iM 13 79]
def kr:Rg:=[iI 14 0]
def ku:Rg:=[iM 80 14,iM 81 13,iB 82 .lss 80 81]
def JB:Rg:=[iM 85 14,iA 86 (.call 29 [(.const (.str [112])),(Tm 85)]),iM 87 0,iA 88 (.call 4 [(Tm 87),(Ci 2)]),iA 89 (.bin .add (Ci 1) (Tm 88)),iM 90 0,iA 91 (.call 4 [(Tm 90),(Ci 3)]),iM 92 0,iA 93 (.call 4 [(Tm 92),(Ci 4)]),iA 94 (.bin .add (Ci 1) (Tm 93)),iK 95 47 94,iA 96 (.build [(.str []),zI,zI,zI,zI,zI,zI,zI,zI,.aB,.aB,zB,.aB,.aB,zB,.aB,.aB] [(0,1,(Tm 86)),(1,1,(Tm 89)),(2,1,(Tm 91)),(14,3,(Tm 95))]),iA 15 (.alloc [(.str []),zI,zI,zI,zI,zI,zI,zI,zI,.aB,.aB,zB,.aB,.aB,zB,.aB,.aB]),iS 17 15 96]
def wZ:Rd:=[(iF 97 1 15,true),(iL 98 97,true),(iM 99 0,false),(iF 100 2 15,false),(iL 101 100,false),(iC 102 .add 101 1,false),(iK2 103 4 99 102,true),(iB 104 .add 98 103,false),(iF 105 3 15,false)]
def xA:Rd:=[(iS 1 105 104,true)]
def xB:Rg:=[iM 106 0,iF 107 2 15,iL 108 107,iK2 109 5 106 108,iF 110 10 15,iS 1 110 109]
def xC:Rg:=[iM 112 0,iA 113 (.call 4 [(Tm 112),(Ci 9)]),iA 114 (.call 50 [(Tm 113),(Ci 8)]),iM 111 114,iE 115 111 0,iE 116 111 1,iF 117 11 15,iS 3 117 115]
def JC:Rg:=[iI 16 1]
def kw:Rg:=[iM 118 16,iC 119 .lss 118 5]
def kx:Rg:=[iM 122 0,iA 123 (.call 4 [(Tm 122),(Ci 3)]),iC 124 .eql 123 0]
def ky:Rg:=[iM 125 16,iM 126 0,iA 127 (.call 4 [(Tm 126),(Ci 3)]),iA 128 (.bin .add (Ci 1) (Tm 127)),iF 129 4 15,iA 130 (.idxA 5 1 (Tm 129) (Tm 125)),iS 1 130 128]
def JD:Rg:=[iM 120 16,iC 121 .add 120 1,iM 16 121]
def wY:aC:=(.seq (sq kw (.cond (Tm 119) .skip (.exit 6))) (.seq (.block 7 (sq kx (.cond (Tm 124) (.region ky) .skip))) (.region JD)))
def JE:Rg:=[iM 131 0,iM 132 11,iK2 133 4 131 132,iM 17 133]
def JF:Rg:=[iM 134 17,iA 135 (.a6B false 1 1 [zI] [(0,(Tm 134))]),iF 136 9 15,iS 1 136 135]
def JG:Rg:=[iM 137 11,iC 138 .gtr 137 1,iM 139 138,gM 140 0 139 true,iG 141 (.call 4 [(Tm 140),(Ci 2)]) 139 true,gC 142 .eql 141 0 139 true,iP 143 139 142]
def JH:Rg:=[iF 144 9 15,iL 145 144,iM 146 17,iA 147 (.bin .sub (Ci 1) (Tm 146)),iA 148 (.a6B true 1 1 [zI] [(0,(Tm 147))]),iA 149 (.append 1 8 (Tm 145) (Tm 148)),iF 150 9 15,iS 1 150 149]
def xD:Rg:=[iF 151 5 7,iL 152 151,iO 153 17 15,iA 154 (.a6B true 17 1 [(.str []),zI,zI,zI,zI,zI,zI,zI,zI,.aB,.aB,zB,.aB,.aB,zB,.aB,.aB] [(0,(Tm 153))]),iA 155 (.append 17 240 (Tm 152) (Tm 154)),iF 156 5 7,iS 1 156 155]
def kz:Rg:=[iM 83 14,iC 84 .add 83 1,iM 14 84]
def IZ:aC:=(.seq (sq ku (.cond (Tm 82) .skip (.exit 4))) (.seq (.block 5 (sq JB (.seq (dq wZ (.draw xA)) (sq xB (sq xC (.seq (sq JC (.block 6 (.loop wY))) (sq JE (sq JF (.seq (sq JG (.cond (Tm 143) (.region JH) .skip)) (.region xD)))))))))) (.region kz)))
def k6:Rg:=[iM 157 0,iM 158 2,iC 159 .add 158 1,iK2 160 4 157 159,iM 18 160]
def k7:Rg:=[iI 19 0]
def la:Rg:=[iM 161 19,iM 162 18,iB 163 .lss 161 162]
def lb:Rd:=[(iF 166 6 7,true),(iL 167 166,true),(iM 168 19,false),(iA 169 (.call 29 [(.const (.str [118])),(Tm 168)]),true),(iM 170 0,true),(iF 171 5 7,true),(iL 172 171,true),(iN 173 172,true),(iK2 174 4 170 173,true),(iA 175 (.build [(.str []),zI] [(0,1,(Tm 169)),(1,1,(Tm 174))]),false),(iA 176 (.a6B true 2 1 [(.str []),zI] [(0,(Tm 175))]),false),(iA 177 (.append 2 24 (Tm 167) (Tm 176)),true),(iF 178 6 7,false)]
def lf:Rd:=[(iS 1 178 177,true)]
def lg:Rg:=[iM 164 19,iC 165 .add 164 1,iM 19 165]
def JA:aC:=(.seq (sq la (.cond (Tm 163) .skip (.exit 8))) (.seq (.block 9 (dq lb (.draw lf))) (.region lg)))
def lh:Rg:=[iO 179 7 7,iS 7 6 179]
def CZ:aC:=(sq Aw (sq Ax (sq Ay (.seq (sq Az (.block 0 (.loop QM))) (sq kf (.seq (sq kg (.block 2 (.loop IY))) (sq kn (sq ko (sq kp (.seq (sq kr (.block 4 (.loop IZ))) (sq k6 (.seq (sq k7 (.block 8 (.loop JA))) (sq lh .ret)))))))))))))
def atX:List Nat:=[40,67,148,154,176]
def kd:aS:=⟨3,180,CZ,[.cell 6 (some 7)]⟩
def Aq:Rg:=[iA 6 (.alloc [zI,.aB,.aB,.aB,.aB,.aB,.aB])]
def Ar:Rg:=[iM 7 0,iK 8 28 7,iM 9 1,iM 10 2,iA 11 (.call 0 [(Tm 8),(Tm 9),(Tm 10)]),iS 7 6 11]
def CX:aC:=(sq Aq (sq Ar .ret))
def atW:List Nat:=[]
def j9:aS:=⟨3,12,CX,[.cell 6 (some 7)]⟩
def aHC:Rg:=[iA 3 (.box true (Tm 1)),iZ 4]
def aHD:Rg:=[iM 7 0,iA 8 (.call 4 [(Tm 7),(Ci 4)]),iC 9 .eql 8 0]
def aHE:Rg:=[iZ 4]
def aHF:Rg:=[iZ 5]
def aHG:Rg:=[iI 6 0]
def aHH:Rg:=[iM 10 6,iF 11 4 3,iL 12 11,iN 13 12,iB 14 .lss 10 13]
def aHI:Rg:=[iM 17 5,iM 18 0,iA 19 (.call 4 [(Tm 18),(Ci 7)]),iC 20 .sub 19 1,iA 21 (.a6B true 1 1 [zI] [(0,(Tm 20))]),iA 22 (.append 1 8 (Tm 17) (Tm 21)),iM 5 22]
def aHJ:Rg:=[iM 15 6,iC 16 .add 15 1,iM 6 16]
def aHB:aC:=(.seq (sq aHH (.cond (Tm 14) .skip (.exit 0))) (.seq (.block 1 (.region aHI)) (.region aHJ)))
def aHK:Rg:=[iM 23 5,iM 4 23]
def amE:aC:=(sq aHC (.seq (sq aHD (.cond (Tm 9) (sq aHE .ret) .skip)) (sq aHF (.seq (sq aHG (.block 0 (.loop aHB))) (sq aHK .ret)))))
def a0A:aS:=⟨2,24,amE,[.tmp 4]⟩
def alR:Rg:=[iA 3 (.box true (Tm 1)),iZ 4]
def alS:Rg:=[iZ 5]
def alT:Rg:=[iI 6 0]
def alU:Rg:=[iM 11 6,iF 12 6 3,iL 13 12,iN 14 13,iB 15 .lss 11 14]
def alV:Rg:=[iZ 7]
def alW:Rg:=[iM 18 0,iF 19 4 3,iL 20 19,iN 21 20,iC 22 .add 21 1,iK2 23 4 18 22,iM 8 23]
def alX:Rg:=[iI 9 0]
def alY:Rg:=[iM 24 9,iO 25 7 3,iM 26 6,iK2 27 82 25 26,iB 28 .lss 24 27]
def alZ:Rg:=[iI 10 (-1)]
def amA:Rg:=[iF 31 4 3,iL 32 31,iN 33 32,iC 34 .gtr 33 0]
def Wd:Rg:=[iM 35 8,iM 36 9,iB 37 .add 35 36,iF 38 4 3,iL 39 38,iN 40 39,iB 41 .rem 37 40,iM 10 41]
def We:Rg:=[iM 42 0,iA 43 (.call 4 [(Tm 42),(Ci 6)])]
def Wf:Rg:=[iC 45 .eql 43 0,iM 44 45]
def Wg:Rg:=[iM 46 0,iF 47 4 3,iL 48 47,iN 49 48,iK2 50 4 46 49,iM 10 50]
def Wh:Rg:=[iC 52 .eql 43 1,iM 51 52]
def Wi:Rg:=[iM 53 0,iF 54 4 3,iL 55 54,iN 56 55,iC 57 .add 56 1,iK2 58 4 53 57,iC 59 .sub 58 1,iM 10 59]
def Wj:Rg:=[iM 60 7,iM 61 10,iA 62 (.a6B true 1 1 [zI] [(0,(Tm 61))]),iA 63 (.append 1 8 (Tm 60) (Tm 62)),iM 7 63]
def Wk:Rg:=[iM 29 9,iC 30 .add 29 1,iM 9 30]
def Wb:aC:=(.seq (sq alY (.cond (Tm 28) .skip (.exit 2))) (.seq (.block 3 (sq alZ (.seq (sq amA (.cond (Tm 34) (sq Wd (sq We (.block 4 (sq Wf (.cond (Tm 44) (.region Wg) (sq Wh (.cond (Tm 51) (.region Wi) .skip))))))) .skip)) (.region Wj)))) (.region Wk)))
def Wl:Rg:=[iM 64 5,iM 65 7,iA 66 (.a6B true 1 1 [.aB] [(0,(Tm 65))]),iA 67 (.append 1 24 (Tm 64) (Tm 66)),iM 5 67]
def Wm:Rg:=[iM 16 6,iC 17 .add 16 1,iM 6 17]
def Wc:aC:=(.seq (sq alU (.cond (Tm 15) .skip (.exit 0))) (.seq (.block 1 (sq alV (sq alW (.seq (sq alX (.block 2 (.loop Wb))) (.region Wl))))) (.region Wm)))
def Wn:Rg:=[iM 68 5,iM 4 68]
def O8:aC:=(sq alR (sq alS (.seq (sq alT (.block 0 (.loop Wc))) (sq Wn .ret))))
def aQL:aS:=⟨2,69,O8,[.tmp 4]⟩
def aIV:Rg:=[iA 2 (.box true (Tm 0)),iI 4 0]
def aIW:Rd:=[(iF 6 5 2,false),(iL 7 6,false),(iF 8 6 2,false),(iL 9 8,false),(iM 10 1,false),(iX 11 2 9 10,false),(iF 12 1 11,false),(iL 13 12,false),(iX 14 17 7 13,false),(iO 15 17 14,false),(iA 5 (.alloc [(.str []),zI,zI,zI,zI,zI,zI,zI,zI,.aB,.aB,zB,.aB,.aB,zB,.aB,.aB]),true),(iS 17 5 15,true)]
def aIX:Rg:=[iF 16 1 5,iL 17 16,iF 18 2 5,iL 19 18,iB 20 .add 17 19,iM 4 20]
def anO:aC:=(sq aIV (dq aIW (sq aIX .ret)))
def a0D:aS:=⟨2,21,anO,[.tmp 4]⟩
def T8:Rg:=[iZ 2]
def T9:Rg:=[iM 4 0,iN 5 4,iM 3 5]
def Ua:Rg:=[iM 6 3,iC 7 .gtr 6 0,iM 8 7,gM 9 0 8 true,gM 10 3 8 true,gC 11 .sub 10 1 8 true,iG 12 (.a6M 1 (Tm 9) (Tm 11)) 8 true,gL 13 12 8 true,iG 14 (.bin .eql (Tm 13) (.const (.int .u32 0))) 8 true,iP 15 8 14]
def Ub:Rg:=[iM 16 3,iC 17 .sub 16 1,iM 3 17]
def T6:aC:=(.seq (sq Ua (.cond (Tm 15) .skip (.exit 0))) (.block 1 (.region Ub)))
def dz:Rg:=[iM 18 0,iM 19 3,iA 20 (.slice 1 (Tm 18) none (some (Tm 19)) none),iA 21 (.append 1 4 (.const .aB) (Tm 20)),iM 2 21]
def MD:aC:=(sq T8 (sq T9 (.seq (.block 0 (.loop T6)) (sq dz .ret))))
def aMX:List Nat:=[]
def Hn:aS:=⟨1,22,MD,[.tmp 2]⟩
def Tv:Rg:=[iZ 2]
def Tw:Rg:=[iM 3 0,iA 4 (.conv .u32 (Tm 3)),iM 5 0,iA 6 (.bin .shr (Tm 5) (.const (.int .u64 32))),iA 7 (.conv .u32 (Tm 6)),iA 8 (.a6B true 1 2 [(.int .u32 0)] [(0,(Tm 4)),(1,(Tm 7))]),iK 9 38 8,iM 2 9]
def LS:aC:=(sq Tv (sq Tw .ret))
def aMP:List Nat:=[8]
def Hl:aS:=⟨1,10,LS,[.tmp 2]⟩
def D3:Rg:=[iT 2 false]
def D4:Rg:=[iM 3 0,iK 4 38 3,iN 5 4,iC 6 .gtr 5 512,iM 2 6]
def EL:aC:=(sq D3 (sq D4 .ret))
def aBQ:List Nat:=[]
def pq:aS:=⟨1,7,EL,[.tmp 2]⟩
def aeY:Rg:=[iI 4 0]
def aeZ:Rg:=[iM 6 0,iK 7 38 6,iM 8 1,iK 9 38 8,iM 0 7,iM 1 9]
def afA:Rg:=[iM 10 0,iN 11 10,iM 12 1,iN 13 12,iB 14 .neq 11 13]
def afB:Rg:=[iM 15 0,iN 16 15,iM 17 1,iN 18 17,iB 19 .lss 16 18]
def afC:Rg:=[iI 4 (-1)]
def afD:Rg:=[iI 4 1]
def afE:Rg:=[iM 20 0,iN 21 20,iC 22 .sub 21 1,iM 5 22]
def afF:Rg:=[iM 23 5,iC 24 .geq 23 0]
def afG:Rd:=[(iM 27 0,false),(iM 28 5,false),(iX 29 1 27 28,false),(iL 30 29,false),(iM 31 1,false),(iM 32 5,false),(iX 33 1 31 32,false),(iL 34 33,false),(iB 35 .lss 30 34,false)]
def afH:Rg:=[iI 4 (-1)]
def Te:Rd:=[(iM 36 0,false),(iM 37 5,false),(iX 38 1 36 37,false),(iL 39 38,false),(iM 40 1,false),(iM 41 5,false),(iX 42 1 40 41,false),(iL 43 42,false),(iB 44 .gtr 39 43,false)]
def Tf:Rg:=[iI 4 1]
def Tg:Rg:=[iM 25 5,iC 26 .sub 25 1,iM 5 26]
def Td:aC:=(.seq (sq afF (.cond (Tm 24) .skip (.exit 0))) (.seq (.block 1 (.seq (dq afG (.cond (Tm 35) (sq afH .ret) .skip)) (dq Te (.cond (Tm 44) (sq Tf .ret) .skip)))) (.region Tg)))
def Th:Rg:=[iI 4 0]
def TG:aC:=(sq aeY (sq aeZ (.seq (sq afA (.cond (Tm 14) (.seq (sq afB (.cond (Tm 19) (sq afC .ret) .skip)) (sq afD .ret)) .skip)) (.seq (sq afE (.block 0 (.loop Td))) (sq Th .ret)))))
def aTN:List Nat:=[]
def apR:aS:=⟨2,45,TG,[.tmp 4]⟩
def o9:Rg:=[iZ 4,iZ 5]
def pd:Rg:=[iM 20 0,iM 21 1,iK2 22 32 20 21,iC 23 .lss 22 0]
def pe:Rg:=[iM 24 0,iK 25 38 24,iZ 4,iM 5 25]
def pi:Rg:=[iM 26 1,iN 27 26,iC 28 .eql 27 1]
def LN:Rg:=[iM 29 0,iN 30 29,iA 31 (.a6D 1 4 [(.int .u32 0)] (Tm 30) (Tm 30)),iM 6 31]
def LO:Rg:=[iA 7 (.mv (.const (.int .u64 0)))]
def LP:Rg:=[iM 32 0,iN 33 32,iC 34 .sub 33 1,iM 8 34]
def pj:Rg:=[iM 35 8,iC 36 .geq 35 0]
def pn:Rg:=[iM 39 7,iA 40 (.bin .shl (Tm 39) (.const (.int .u64 32))),iM 41 0,iM 42 8,iX 43 1 41 42,iL 44 43,iA 45 (.conv .u64 (Tm 44)),iB 46 .or 40 45,iM 9 46]
def po:Rg:=[iM 47 6,iM 48 8,iM 49 9,iM 50 1,iA 51 (.a6M 1 (Tm 50) (Ci 0)),iL 52 51,iA 53 (.conv .u64 (Tm 52)),iB 54 .quo 49 53,iA 55 (.conv .u32 (Tm 54)),iX 56 1 47 48,iS 1 56 55]
def YA:Rg:=[iM 57 9,iM 58 1,iA 59 (.a6M 1 (Tm 58) (Ci 0)),iL 60 59,iA 61 (.conv .u64 (Tm 60)),iB 62 .rem 57 61,iM 7 62]
def YB:Rg:=[iM 37 8,iC 38 .sub 37 1,iM 8 38]
def DZ:aC:=(.seq (sq pj (.cond (Tm 36) .skip (.exit 0))) (.seq (.block 1 (sq pn (sq po (.region YA)))) (.region YB)))
def EA:Rg:=[iM 63 6,iK 64 38 63,iM 65 7,iK 66 35 65,iM 4 64,iM 5 66]
def YC:Rg:=[iM 67 1,iN 68 67,iA 69 (.bin .mul (Ci 32) (Tm 68)),iM 70 1,iK 71 31 70,iB 72 .sub 69 71,iM 10 72]
def YD:Rg:=[iM 73 0,iM 74 10,iK2 75 45 73 74,iA 76 (.a6B true 1 2 [(.int .u32 0)] [(0,(.const (.int .u32 0))),(1,(.const (.int .u32 0)))]),iA 77 (.append 1 4 (Tm 75) (Tm 76)),iM 78 1,iM 79 10,iK2 80 45 78 79,iM 11 77,iM 12 80]
def EB:Rg:=[iM 81 11,iM 82 0,iM 83 10,iK2 84 45 82 83,iN 85 84,iC 86 .add 85 1,iA 87 (.slice 1 (Tm 81) none (some (Tm 86)) none),iM 11 87]
def EC:Rg:=[iM 88 12,iM 89 12,iN 90 89,iC 91 .sub 90 1,iX 92 1 88 91,iL 93 92,iA 94 (.conv .u64 (Tm 93)),iM 13 94]
def ED:Rg:=[iM 95 11,iN 96 95,iM 97 12,iN 98 97,iB 99 .sub 96 98,iA 100 (.a6D 1 4 [(.int .u32 0)] (Tm 99) (Tm 99)),iM 14 100]
def EE:Rg:=[iM 101 14,iN 102 101,iC 103 .sub 102 1,iM 15 103]
def YE:Rg:=[iM 104 15,iC 105 .geq 104 0]
def YF:Rd:=[(iM 108 11,false),(iM 109 15,false),(iM 110 12,false),(iN 111 110,false),(iB 112 .add 109 111,false),(iX 113 1 108 112,false),(iL 114 113,false),(iA 115 (.conv .u64 (Tm 114)),false),(iA 116 (.bin .shl (Tm 115) (.const (.int .u64 32))),false),(iM 117 11,false),(iM 118 15,false),(iM 119 12,false),(iN 120 119,false),(iB 121 .add 118 120,false),(iC 122 .sub 121 1,false),(iX 123 1 117 122,false),(iL 124 123,false),(iA 125 (.conv .u64 (Tm 124)),false),(iB 126 .or 116 125,false),(iM 16 126,false)]
def YG:Rg:=[iM 127 16,iM 128 13,iB 129 .quo 127 128,iM 17 129]
def YH:Rg:=[iM 130 17,iA 131 (.bin .gtr (Tm 130) (.const (.int .u64 4294967295)))]
def YI:Rg:=[iA 17 (.mv (.const (.int .u64 4294967295)))]
def YJ:Rd:=[(iM 132 12,true),(iM 133 17,false),(iK 134 35 133,true),(iK2 135 44 132 134,true),(iM 136 11,true),(iM 137 15,true),(iM 138 15,true),(iM 139 12,true),(iN 140 139,true),(iB 141 .add 138 140,true),(iC 142 .add 141 1,true),(iA 143 (.slice 1 (Tm 136) (some (Tm 137)) (some (Tm 142)) none),true),(iA 144 (.append 1 4 (.const .aB) (Tm 143)),true),(iK2 145 32 135 144,true),(iC 146 .gtr 145 0,false)]
def YK:Rg:=[iM 147 17,iA 148 (.bin .sub (Tm 147) (.const (.int .u64 1))),iM 17 148]
def vD:aC:=(.seq (dq YJ (.cond (Tm 146) .skip (.exit 4))) (.block 5 (.region YK)))
def EF:Rg:=[iM 149 11,iM 150 15,iM 151 15,iM 152 12,iN 153 152,iB 154 .add 151 153,iC 155 .add 154 1,iA 156 (.slice 1 (Tm 149) (some (Tm 150)) (some (Tm 155)) none),iA 157 (.append 1 4 (.const .aB) (Tm 156)),iM 158 12,iM 159 17,iK 160 35 159,iK2 161 44 158 160,iK2 162 42 157 161,iM 18 162]
def EG:Rg:=[iI 19 0]
def YL:Rg:=[iM 163 19,iM 164 12,iN 165 164,iB 166 .leq 163 165]
def YM:Rg:=[iM 169 11,iM 170 15,iM 171 19,iB 172 .add 170 171,iX 173 1 169 172,⟨none,.store 1 (Tm 173) (.const (.int .u32 0)),none⟩]
def YN:Rg:=[iM 174 19,iM 175 18,iN 176 175,iB 177 .lss 174 176]
def YO:Rg:=[iM 178 11,iM 179 15,iM 180 19,iB 181 .add 179 180,iM 182 18,iM 183 19,iX 184 1 182 183,iL 185 184,iX 186 1 178 181,iS 1 186 185]
def EH:Rg:=[iM 167 19,iC 168 .add 167 1,iM 19 168]
def vE:aC:=(.seq (sq YL (.cond (Tm 166) .skip (.exit 6))) (.seq (.block 7 (sq YM (sq YN (.cond (Tm 177) (.region YO) .skip)))) (.region EH)))
def EI:Rg:=[iM 187 14,iM 188 15,iM 189 17,iA 190 (.conv .u32 (Tm 189)),iX 191 1 187 188,iS 1 191 190]
def EJ:Rg:=[iM 106 15,iC 107 .sub 106 1,iM 15 107]
def vF:aC:=(.seq (sq YE (.cond (Tm 105) .skip (.exit 2))) (.seq (.block 3 (dq YF (sq YG (.seq (sq YH (.cond (Tm 131) (.region YI) .skip)) (.seq (.block 4 (.loop vD)) (sq EF (.seq (sq EG (.block 6 (.loop vE))) (.region EI)))))))) (.region EJ)))
def EK:Rg:=[iM 192 14,iK 193 38 192,iM 194 11,iK 195 38 194,iM 196 10,iK2 197 40 195 196,iM 4 193,iM 5 197]
def AF:aC:=(sq o9 (.seq (sq pd (.cond (Tm 23) (sq pe .ret) .skip)) (.seq (sq pi (.cond (Tm 28) (sq LN (sq LO (.seq (sq LP (.block 0 (.loop DZ))) (sq EA .ret)))) .skip)) (sq YC (sq YD (sq EB (sq EC (sq ED (.seq (sq EE (.block 2 (.loop vF))) (sq EK .ret))))))))))
def apU:List Nat:=[76]
def VN:aS:=⟨2,198,AF,[.tmp 4,.tmp 5]⟩
def afJ:Rg:=[iZ 4,iZ 5,iI 6 0]
def afK:Rg:=[iM 9 0,iK 10 41 9,iM 11 10,gM 12 1 11 false,gK 13 41 12 11 false,iQ 14 11 13]
def xb:Rg:=[iZ 4,iZ 5,iI 6 2]
def afL:Rg:=[iM 15 1,iK 16 38 15,iN 17 16,iC 18 .eql 17 0]
def afM:Rg:=[iZ 4,iZ 5,iI 6 3]
def afN:Rg:=[iM 20 0,iK 21 38 20,iM 22 1,iK 23 38 22,iK2 24 39 21 23,iM 19 24,iE 25 19 0,iE 26 19 1,iM 7 25,iM 8 26]
def afO:Rg:=[iM 27 7,iM 28 8,iM 4 27,iM 5 28,iI 6 0]
def TH:aC:=(sq afJ (.seq (sq afK (.cond (Tm 14) (sq xb .ret) .skip)) (.seq (sq afL (.cond (Tm 18) (sq afM .ret) .skip)) (sq afN (sq afO .ret)))))
def aTO:List Nat:=[]
def udiv:aS:=⟨2,29,TH,[.tmp 4,.tmp 5,.tmp 6]⟩
def afR:Rg:=[iZ 4,iI 5 0]
def afS:Rg:=[iM 10 0,iK 11 41 10,iM 12 11,gM 13 1 12 false,gK 14 41 13 12 false,iQ 15 12 14]
def xc:Rg:=[iZ 4,iI 5 2]
def afT:Rg:=[iM 16 0,iK 17 38 16,iM 18 1,iK 19 38 18,iM 6 17,iM 7 19]
def afU:Rg:=[iM 20 7,iN 21 20,iC 22 .gtr 21 0]
def afV:Rg:=[iM 24 6,iM 25 7,iK2 26 39 24 25,iM 23 26,iE 27 23 0,iE 28 23 1,iM 8 27,iM 9 28]
def afW:Rg:=[iM 29 7,iM 30 9,iM 6 29,iM 7 30]
def afP:aC:=(.seq (sq afU (.cond (Tm 22) .skip (.exit 0))) (.block 1 (sq afV (.region afW))))
def afX:Rg:=[iM 31 6,iM 4 31,iI 5 0]
def TK:aC:=(sq afR (.seq (sq afS (.cond (Tm 15) (sq xc .ret) .skip)) (sq afT (.seq (.block 0 (.loop afP)) (sq afX .ret)))))
def aTP:List Nat:=[]
def apV:aS:=⟨2,32,TK,[.tmp 4,.tmp 5]⟩
def qe:Rg:=[iA 6 (.alloc [zB,.aB,.aB])]
def qf:Rg:=[iM 9 1,iK 10 38 9,iM 11 2,iK 12 38 11,iM 1 10,iM 2 12]
def qg:Rg:=[iM 13 1,iN 14 13,iC 15 .eql 14 0]
def qh:Rg:=[iA 16 (.a6B true 1 1 [(.int .u32 0)] [(0,(.const (.int .u32 1)))]),iA 17 (.build [zB,.aB,.aB] [(2,1,(Tm 16))]),iS 3 6 17]
def qi:Rg:=[iM 19 1,iM 20 2,iK2 21 34 19 20,iM 18 21,iE 22 18 0,iE 23 18 1,iM 7 22,iM 8 23]
def qj:Rg:=[iM 24 7,iN 25 24,iC 26 .gtr 25 1,iM 27 26,gM 28 7 27 false,iG 29 (.a6M 1 (Tm 28) (Ci 0)) 27 false,gL 30 29 27 false,iG 31 (.bin .gtr (Tm 30) (.const (.int .u32 1))) 27 false,iQ 32 27 31]
def MH:Rg:=[iM 34 1,iM 35 7,iK2 36 33 34 35,iM 33 36,iE 37 33 0,iE 38 33 1,iE 39 33 2,iM 1 37]
def MI:Rg:=[iM 41 2,iM 42 7,iK2 43 33 41 42,iM 40 43,iE 44 40 0,iE 45 40 1,iE 46 40 2,iM 2 44]
def xP:Rg:=[iM 47 0,iM 48 1,iM 49 2,iA 50 (.build [zB,.aB,.aB] [(0,1,(Tm 47)),(1,1,(Tm 48)),(2,1,(Tm 49))]),iS 3 6 50]
def AI:aC:=(sq qe (sq qf (.seq (sq qg (.cond (Tm 15) (sq qh .ret) .skip)) (.seq (sq qi (sq qj (.cond (Tm 32) (sq MH (.region MI)) .skip))) (sq xP .ret)))))
def aqG:List Nat:=[16]
def VR:aS:=⟨3,51,AI,[.cell 6 (some 3)]⟩
def U4:Rg:=[iA 2 (.mv (.const (.int .u64 0)))]
def U5:Rg:=[iM 3 0,iC 4 .lss 3 0]
def U6:Rg:=[iM 5 0,iC 6 .add 5 1,iA 7 (.un .neg (Tm 6)),iA 8 (.conv .u64 (Tm 7)),iA 9 (.bin .add (Tm 8) (.const (.int .u64 1))),iM 2 9]
def U7:Rg:=[iM 10 0,iA 11 (.conv .u64 (Tm 10)),iM 2 11]
def MM:aC:=(sq U4 (.seq (sq U5 (.cond (Tm 4) (sq U6 .ret) .skip)) (sq U7 .ret)))
def aNF:List Nat:=[]
def Hz:aS:=⟨1,12,MM,[.tmp 2]⟩
def Ur:Rg:=[iA 4 (.alloc [zB,.aB,.aB]),iI 5 0]
def Us:Rg:=[iM 6 1,iC 7 .eql 6 0]
def Ut:Rg:=[iA 8 (.build [zB,.aB,.aB] []),iS 3 4 8,iI 5 3]
def Uu:Rg:=[iM 9 0,iC 10 .lss 9 0,iM 11 1,iC 12 .lss 11 0,iA 13 (.eqb true (Tm 10) (Tm 12)),iM 14 0,iK 15 59 14,iK 16 35 15,iM 17 1,iK 18 59 17,iK 19 35 18,iA 20 (.call 58 [(Tm 13),(Tm 16),(Tm 19)]),iS 3 4 20,iI 5 0]
def MJ:aC:=(sq Ur (.seq (sq Us (.cond (Tm 7) (sq Ut .ret) .skip)) (sq Uu .ret)))
def aNC:List Nat:=[]
def qk:aS:=⟨2,21,MJ,[.cell 4 (some 3),.tmp 5]⟩
def agZ:Rg:=[iA 2 (.alloc [zB,.aB,.aB])]
def ahA:Rg:=[iM 6 0,iA 7 (.call 50 [(Tm 6),(Ci 1)]),iM 5 7,iE 8 5 0,iE 9 5 1,iA 3 (.alloc [zB,.aB,.aB]),iS 3 3 8,iM 4 9]
def ahB:Rg:=[iO 10 3 3,iS 3 2 10]
def TV:aC:=(sq agZ (sq ahA (sq ahB .ret)))
def aTV:List Nat:=[]
def aqF:aS:=⟨1,11,TV,[.cell 2 (some 3)]⟩
def utF (xs:List Nat) (n:Nat):PF:=((PF.nil.set 0 (aJ xs)).set 3 (.int .i64 n))
theorem T7 {C:Ctx} (xs:List Nat) (K:Lim xs) (M:xs.length≤35184372087808):MD.wp C (aV Hn.res (oP 1 (aL (aI (val xs))))) (PF.args [aJ xs]) .nil:=by
 simp only[go_sem,MD,T8,T9,Hn,a7G];refine wp_loop (α:=Nat) (fun n=>utF xs n) (fun _=>.nil) (fun n=>n≤xs.length∧∀ j x,n≤j→xs[j]?=some x→x=0) (fun n=>n) xs.length ⟨a7M _,fun j x u d=>?_⟩ ?_ a_ ?_
 ·rw[a8X u] at d; cases d
 ·unfold utF;exact Lq
 rintro n ⟨H,A⟩;have done:(0<n→∀ h:n-1<xs.length,xs[n-1]≠0)→∀ F:PF,(utF xs n).le F→aC.wp C (.seq (.region dz) .ret) (aV [.tmp 2] (oP 1 (aL (aI (val xs))))) F .nil:=by
  intro h F q;have f0:F 0=some (aJ xs):=q 0 _ (by unfold utF; simp only[go_sem]);have B:F 3=some (.int .i64 n):=q 3 _ (by unfold utF; simp only[go_sem]);have w:xs.take n=aI (val xs):=LK K H A fun x l d=>by
   rw[a7U Om] at d;injection d with d
   subst d;exact h l Om
  have E:((n:Nat):Int)≤(xs.length:Nat):=Om;simp only[go_sem,dz,f0,B,a7G,E,or_true,a8R];refine fI (rows:=[]) (src:=aL (aI (val xs))) .nil ?_ ?_ fun v H' J _=>?_
  ·simp only[go_sem];rw[← w,← List.map_take]
  ·unfold roomFor;rw[cA,← w,a8A];simp only[a9W,maxLen];omega
  ·exact nb (.inr rfl) (by simpa using J) rfl
 simp only[aC.wp,go_sem] at done;simp only[go_sem,T6,Ua,utF];by_cases l:0<n
 ·have i:((n:Nat):Int)>0:=Om;have hlt:n-1<xs.length:=Om;have p:=bU xs hlt;have y:IntKind.i64.wrap ((n:Int)-1)=((n-1:Nat):Int):=wC Om l;simp only[go_sem,i,y,p];by_cases c:xs[n-1]=0
  ·simp only[go_sem,bL (Om:((xs[n-1]:Nat):Int)=0),Ub,y];refine aD (n-1) ⟨by omega,fun j x u d=>?_⟩ Om ?_ a_
   ·by_cases e:j=n-1
    ·subst e;rw[a7U hlt] at d;injection d with d
     omega
    ·exact A j x Om d
   ·exact Lq
  ·simp only[go_sem,bF (Om:((xs[n-1]:Nat):Int)≠0)];exact done (fun _ _=>c) _ (by unfold utF; exact Lq)
 ·have i:¬ ((n:Nat):Int)>0:=Om;simp only[go_sem,i];exact done (fun h=>absurd h l) _ (by unfold utF; exact Lq)
structure oQ (C:Ctx):Prop where
 trimM:∀ xs,Lim xs→xs.length≤35184372087808→aH C 38 [aJ xs] .nil (oP 1 (aL (aI (val xs))))
theorem oQ.trim {C:Ctx} (L:oQ C) (xs:List Nat) (d:Lim xs) (c:xs.length≤35184372087808):aH C 38 [aJ xs] .nil (aF (aJ (aI (val xs)))):=(L.trimM xs d c).freeze
theorem Tu {C:Ctx} (L:oQ C) (v:Nat) (y:v<18446744073709551616):LS.wp C (aV Hl.res (bY (aJ (aI v)))) (PF.args [.int .u64 v]) .nil:=by
 have p:IntKind.u32.wrap ((v:Nat):Int)=((v%4294967296:Nat):Int):=cL v;have e:v/4294967296<4294967296:=Om;have q:IntKind.u32.wrap ((v/4294967296:Nat):Int)=((v/4294967296:Nat):Int):=by rw[cL,a8T e]
 have u:Lim [v%4294967296,v/4294967296]:=by
  intro x l;simp only[a7T,List.mem_nil_iff,or_false] at l;rcases l with rfl | rfl
  ·exact a8Z _ (by decide)
  ·exact e
 have c:val [v%4294967296,v/4294967296]=v:=by simp only[val,Nat.mul_zero,a9M]; exact Nat.mod_add_div v 4294967296
 have d:shift .shr .u64 (v:Int) 32=some (.int .u64 ((v/4294967296:Nat):Int)):=xL;have w:(2:Nat)*1≤16777216:=by decide
 simp only[go_sem,LS,Tv,Tw,Hl,p,d,q,w];have i:=L.trim [v%4294967296,v/4294967296] u (by simp);rw[c] at i;refine aA i rfl ?_;simp only[go_sem];exact bA (.inr rfl) .nil rfl a_ ⟨.refl _,rfl⟩
theorem D2 {C:Ctx} (L:oQ C) (xs:List Nat) (d:Lim xs) (c:xs.length≤35184372087808):EL.wp C (aV pq.res (bY (.bool (decide (nl (val xs)>512))))) (PF.args [aJ xs]) .nil:=by
 simp only[go_sem,EL,D3,D4,pq];refine aA (L.trim xs d c) rfl ?_;simp only[go_sem,a7G,bB];refine bD rfl ?_;rw[decide_eq_decide];omega
theorem ajN {a b:Nat} (h:nl a<nl b):dP a b=-1:=by
 have:a<b:=by
  rcases a8D a b with h' | h'
  ·exact h'
  ·have:=fT h'; omega
 simp[dP,this]
theorem ajM {a b:Nat} (h:nl b<nl a):dP a b=1:=by
 have:b<a:=by
  rcases a8D b a with h' | h'
  ·exact h'
  ·have:=fT h'; omega
 have c:¬ a<b:=Om;simp[dP,this,c]
def apS (X Y:List Nat) (i:Int):PF:=(((PF.nil.set 0 (aJ X)).set 1 (aJ Y)).set 5 (.int .i64 i))
theorem aeX {C:Ctx} (L:oQ C) (xs ys:List Nat) (u:Lim xs) (w:Lim ys) (O:xs.length≤35184372087808) (Q:ys.length≤35184372087808) :
  TG.wp C (aV apR.res (aF (.int .i64 (dP (val xs) (val ys))))) (PF.args [aJ xs,aJ ys]) .nil:=by
 simp only[go_sem,TG,aeY,aeZ,apR];refine aA (L.trim xs u O) Ev ?_;simp only[go_sem];refine aA (L.trim ys w Q) Ev ?_;have R:=fM u;have A:=fM w;simp only[go_sem,afA,a7G,bB];by_cases i:nl (val xs)≠nl (val ys)
 ·simp only[go_sem,dN (show ((nl (val xs):Nat):Int)≠(nl (val ys):Nat) by omega),afB];by_cases B:nl (val xs)<nl (val ys)
  ·simp only[go_sem,a7G,bB,show ((nl (val xs):Nat):Int)<(nl (val ys):Nat) by omega,afC];refine aQ (.inr rfl) Ev ?_;rw[ajN B]; rfl
  ·simp only[go_sem,a7G,bB,show ¬ ((nl (val xs):Nat):Int)<(nl (val ys):Nat) by omega,afD];refine aQ (.inr rfl) Ev ?_;rw[ajM Om]; rfl
 replace i:=Decidable.of_not_not i;simp only[go_sem,cC (show ((nl (val xs):Nat):Int)=(nl (val ys):Nat) by omega),afE,a7G,bB];have ex:=aW (val xs);have l:=aW (val ys);have x:=aX (val xs);have y:=aX (val ys);generalize J:aI (val xs)=X at *
 generalize K:aI (val ys)=Y at *
 have M:X.length=nl (val xs):=by rw[← J]; rfl
 have N:Y.length=nl (val xs):=by rw[i,← K]; rfl
 refine wp_loop (α:=Nat) (fun k=>apS X Y ((k:Int)-1)) (fun _=>.nil) (fun k=>k≤nl (val xs)∧X.drop k=Y.drop k) (fun k=>k) (nl (val xs)) ⟨a7M _,?_⟩ ?_ a_ ?_
 ·rw[bbA Om,bbA Om]
 ·unfold apS
  (repeat' (first|exact c_|refine d_ ?_ ?_))<;>first|(simp only[go_sem,wrap_i64 (show -9223372036854775808≤((nl (val xs):Nat):Int)-1 by omega) (show ((nl (val xs):Nat):Int)-1≤9223372036854775807 by omega)]<;>rfl)|rfl
 rintro k ⟨U,c⟩;simp only[go_sem,Td,afF,apS];by_cases S:0<k
 ·obtain⟨m,rfl⟩:∃ m,k=m+1:=⟨k-1,by omega⟩;have q:((m+1:Nat):Int)-1=(m:Int):=Om;have p:(m:Int)≥0:=Om;have d:m<X.length:=Om;have e:m<Y.length:=Om;simp only[go_sem,q,p];refine bW .nil eT a_ ?_;simp only[go_sem,afG,bU X d,bU Y e];by_cases E:X[m]<Y[m]
  ·simp only[go_sem,show ((X[m]:Nat):Int)<(Y[m]:Nat) by omega,afH];refine aQ (.inr rfl) Ev ?_;have:=ia x d e c E;rw[ex,l] at this;simp[bO,dP,this]
  ·simp only[go_sem,show ¬ ((X[m]:Nat):Int)<(Y[m]:Nat) by omega];refine bW .nil eT a_ ?_;simp only[go_sem,Te,bU X d,bU Y e];by_cases F:X[m]>Y[m]
   ·simp only[go_sem,show ((X[m]:Nat):Int)>(Y[m]:Nat) by omega,Tf];refine aQ (.inr rfl) Ev ?_;have:=ia y e d c.symm F;rw[ex,l] at this;have H:¬ val xs<val ys:=Om;simp[bO,dP,this,H]
   ·simp only[go_sem,show ¬ ((X[m]:Nat):Int)>(Y[m]:Nat) by omega,Tg];refine aD m ⟨by omega,zd d e c Om⟩ Om ?_ a_
    (repeat' (first|exact c_|refine d_ ?_ ?_))<;>first|(simp only[go_sem,wrap_i64 (Om:-9223372036854775808≤(m:Int)-1) (Om:(m:Int)-1≤9223372036854775807)]<;>rfl)|rfl
 ·have:k=0:=Om;subst this;have q:¬ ((0:Nat):Int)-1≥0:=by decide
  simp only[go_sem,q,Th];refine aQ (.inr rfl) Ev ?_;rw[a8R,a8R] at c;have:val xs=val ys:=by rw[← ex,← l,c]
  simp[bO,dP,this]
theorem BY (n:Nat):(((n:Nat):Int)==0)=decide (n=0):=by
 by_cases h:n=0
 ·subst h; rfl
 ·rw[bF Om,decide_eq_false h]
structure fw (C:Ctx):Prop extends oQ C where
 make:∀ v:Nat,v<18446744073709551616→aH C 35 [.int .u64 v] .nil (aF (aJ (aI v)))
 large:∀ xs,Lim xs→xs.length≤35184372087808→aH C 41 [aJ xs] .nil (aF (.bool (decide (nl (val xs)>512))))
 cmp:∀ xs ys,Lim xs→Lim ys→xs.length≤35184372087808→ys.length≤35184372087808→aH C 32 [aJ xs,aJ ys] .nil (aF (.int .i64 (dP (val xs) (val ys))))
def apW (a b:Nat):PF:=((PF.nil.set 6 (aJ (aI a))).set 7 (aJ (aI b)))
structure NZ (C:Ctx):Prop extends fw C where
 divide:∀ A B:Nat,B≠0→nl A≤512→nl B≤512→aH C 39 [aJ (aI A),aJ (aI B)] .nil (aF (pG A B))
def akK (a b:Nat):PV:=if dY a b then .tup [aJ [],.int .i64 2] else .tup [aJ (aI (a7I a b)),.int .i64 0]
theorem afQ {C:Ctx} (L:NZ C) (a b:List Nat) (l:Lim a) (p:Lim b) (u:a.length≤35184372087808) (w:b.length≤35184372087808) :
  TK.wp C (aV apV.res (bY (akK (val a) (val b)))) (PF.args [aJ a,aJ b]) .nil:=by
 unfold akK;simp only[go_sem,TK,afR,afS,apV];refine aA (L.large a l u) rfl ?_;by_cases c:nl (val a)>512
 ·simp only[go_sem,c,xc];rw[if_pos (by simp[dY,c])];exact eR rfl
 simp only[go_sem,c];refine aA (L.large b p w) rfl ?_;by_cases d:nl (val b)>512
 ·simp only[go_sem,d,xc];rw[if_pos (by simp[dY,d])];exact eR rfl
 rw[if_neg (by simp[dY,c,d])];simp only[go_sem,d,afT];refine aA (L.trim a l u) rfl ?_;simp only[go_sem];refine aA (L.trim b p w) rfl ?_;simp only[go_sem];refine wp_loop (α:=Nat × Nat) (fun t=>apW t.1 t.2) (fun _=>.nil) (fun t=>a7I t.1 t.2=a7I (val a) (val b)∧nl t.1≤512∧nl t.2≤512) (fun t=>t.2) (val a,val b) ⟨rfl,by simp only; omega,by simp only; omega⟩ ?_ a_ ?_
 ·unfold apW;exact Lq
 rintro⟨x,y⟩ ⟨i,A,q⟩;simp only at i A q;simp only[go_sem,afP,afU,apW,bB];by_cases e:y=0
 ·subst e;have:¬ ((nl 0:Nat):Int)>0:=by rw[yK]; decide
  simp only[go_sem,this,afX];refine bA (vs:=[aJ (aI x),.int .i64 0]) (.inr rfl) .nil rfl a_ ⟨?_,rfl⟩;rw[← i,Nat.gcd_zero_right];exact .refl _
 ·have B:nl y≠0:=fun h=>e (hZ.1 h);have:((nl y:Nat):Int)>0:=Om;simp only[go_sem,this,afV];refine aA (L.divide x y e Om Om) rfl ?_;simp only[go_sem,pG,afW];have hlt:x%y<y:=a8Z _ (a9U e);refine aD (y,x%y) ⟨?_,q,?_⟩ hlt ?_ a_
  ·simp only;rw[← i,Nat.gcd_comm y,← Nat.gcd_rec y x,Nat.gcd_comm]
  ·have:=fT (Nat.le_of_lt hlt);simp only; omega
  ·exact Lq
theorem afI {C:Ctx} (L:NZ C) (a b:List Nat) (p:Lim a) (i:Lim b) (q:a.length≤35184372087808) (l:b.length≤35184372087808) :
  TH.wp C (aV udiv.res (bY (mS (val a) (val b)))) (PF.args [aJ a,aJ b]) .nil:=by
 unfold mS;simp only[go_sem,TH,afJ,afK,udiv];refine aA (L.large a p q) rfl ?_;by_cases d:nl (val a)>512
 ·simp only[go_sem,d,xb];rw[if_pos (by simp[dY,d])];exact rX rfl
 simp only[go_sem,d];refine aA (L.large b i l) rfl ?_;by_cases e:nl (val b)>512
 ·simp only[go_sem,e,xb];rw[if_pos (by simp[dY,e])];exact rX rfl
 rw[if_neg (by simp[dY,d,e])];simp only[go_sem,e,afL];refine aA (L.trim b i l) rfl ?_;simp only[go_sem,a7G,bB,BY,hZ];by_cases c:val b=0
 ·rw[if_pos c];simp only[go_sem,decide_eq_true c,afM];exact rX rfl
 rw[if_neg c];simp only[go_sem,decide_eq_false c,afN];refine aA (L.trim a p q) rfl ?_;simp only[go_sem];refine aA (L.trim b i l) rfl ?_;simp only[go_sem];refine aA (L.divide (val a) (val b) c Om Om) rfl ?_;simp only[go_sem,pG,afO];exact bA (.inr rfl) .nil rfl a_ ⟨.refl _,rfl⟩
def mO (neg:Bool) (a b:Nat):FV:=(neg&&decide (a/a7I a b≠0),a/a7I a b,b/a7I a b)
structure fx (C:Ctx):Prop extends NZ C where
 gcd:∀ a b,Lim a→Lim b→a.length≤35184372087808→b.length≤35184372087808→aH C 34 [aJ a,aJ b] .nil (aF (akK (val a) (val b)))
 div:∀ a b,Lim a→Lim b→a.length≤35184372087808→b.length≤35184372087808→aH C 33 [aJ a,aJ b] .nil (aF (mS (val a) (val b)))
theorem sZ {n:Nat} (h:nl n≤512):(aI n).length≤35184372087808:=by rw[bB]; omega
theorem vS:aI 1=[1]:=oI (by decide) (by decide)
theorem jy {n:Nat} (h:n≠0):aI n=n%4294967296::aI (n/4294967296):=rW h
theorem zK {n:Nat} (h:n≠0):(nl n>1∨n%4294967296>1)↔n≠1:=by
 constructor
 ·rintro h1 rfl;rcases h1 with h1 | h1
  ·rw[nl,vS] at h1; simp at h1
  ·omega
 ·intro h1;by_cases c:nl n>1
  ·exact .inl c
  ·have:n<4294967296 ^ 1:=(jB n 1).1 Om;rw[Nat.pow_one] at this;rw[a8T this];exact .inr Om
theorem qd {C:Ctx} (L:fx C) (neg:Bool) (a b:List Nat) (U:Lim a) (V:Lim b) (Y:a.length≤35184372087808) (Z:b.length≤35184372087808) (u:nl (val a)≤512) (p:nl (val b)≤512) (w:val b≠0) :
  AI.wp C (aV VR.res (bY (.agg (mO neg (val a) (val b)).rf.cells))) (PF.args [.bool neg,aJ a,aJ b]) .nil:=by
 have c:a7I (val a) (val b)≠0:=fun h=>w (Nat.eq_zero_of_gcd_eq_zero_right h);have E:a7I (val a) (val b)≤val b:=Nat.gcd_le_right _ (a9U w);have M:nl (a7I (val a) (val b))≤512:=a8V (fT E) p;have J:dY (val a) (val b)=false:=hC u p;simp only[go_sem,AI,qe,qf,VR];refine aR fun o ho=>?_;simp only[go_sem];refine aA (L.trim a U Y) rfl ?_;simp only[go_sem];refine aA (L.trim b V Z) rfl ?_;simp only[go_sem,qg,a7G,bB,BY,hZ];by_cases q:val a=0
 ·simp only[go_sem,decide_eq_true q,qh];have e:(mO neg (val a) (val b)).rf=⟨false,[],[1]⟩:=by rw[q];unfold mO FV.rf;simp[fO,Nat.div_self (a9U w),vS]
  rw[e];refine bA (vs:=[.agg [.bool false,.aB,aJ [1]]]) (.inr rfl) .nil ?_ a_ ⟨show Co (.agg _) (.agg _) from CoL.agg (CoL.cons (.refl _) (CoL.cons (.nil 1) (CoL.cons (.refl _) .nil))),rfl⟩;simp only[go_sem];rfl
 have d:=L.gcd (aI (val a)) (aI (val b)) (aX _) (aX _) (sZ u) (sZ p);rw[aW,aW,akK,J] at d;simp only[go_sem,decide_eq_false q,qi];refine aA d rfl ?_;have fin:∀ x y:Nat,x=val a/a7I (val a) (val b)→y=val b/a7I (val a) (val b)→∀ (F:PF) (H:PH),F 0=some (.bool neg)→F 1=some (aJ (aI x))→F 2=some (aJ (aI y))→F 6=some (.ptr o 3 0 0)→H o=some (.rows 3 [[.bool false,.aB,.aB]]) →
   aC.wp C (.seq (.region xP) .ret) (aV [.cell 6 (some 3)] (bY (.agg (mO neg (val a) (val b)).rf.cells))) F H:=by
  intro x y K X F H f0 f1 f2 f6 A;subst K; subst X;simp only[go_sem,xP,f0,f1,f2,f6,A];have W:val a/a7I (val a) (val b)≠0:=by have:=Nat.div_pos (Nat.gcd_le_left (val b) (a9U q)) (a9U c);omega
  have e:(mO neg (val a) (val b)).rf=⟨neg,aI (val a/a7I (val a) (val b)),aI (val b/a7I (val a) (val b))⟩:=by unfold mO FV.rf;simp only[W,ne_eq,not_false_eq_true,decide_true,a9N]
  rw[e];refine bA (vs:=[.agg (eH neg (aI (val a/a7I (val a) (val b))) (aI (val b/a7I (val a) (val b))))]) (.inr rfl) .nil ?_ a_ ⟨.refl _,rfl⟩;simp only[go_sem,f6]
 simp only[aC.wp,go_sem] at fin;have B:=fun x (K:nl x≤512)=>L.div (aI x) (aI (a7I (val a) (val b))) (aX _) (aX _) (sZ K) (sZ M);simp only[aW,mS] at B;have tail:a7I (val a) (val b)≠1→∀ (F:PF) (H:PH),F 0=some (.bool neg)→F 1=some (aJ (aI (val a)))→F 2=some (aJ (aI (val b)))→F 6=some (.ptr o 3 0 0)→F 7=some (aJ (aI (a7I (val a) (val b))))→H o=some (.rows 3 [[.bool false,.aB,.aB]]) →
   aC.wp C (.seq (.seq (.region MH) (.region MI)) (.seq (.region xP) .ret)) (aV [.cell 6 (some 3)] (bY (.agg (mO neg (val a) (val b)).rf.cells))) F H:=by
  intro _ F H f0 f1 f2 f6 f7 A;have Q:=B (val a) u;have R:=B (val b) p;rw[hC u M,if_neg c] at Q;rw[hC p M,if_neg c] at R;simp only[go_sem,MH,f1,f7];refine aA Q rfl ?_;simp only[go_sem,baR,MI,f2,f7];refine aA R rfl ?_;simp only[go_sem,baR];exact fin _ _ rfl rfl _ _ (by simp only[go_sem,f0]) rfl rfl (by simp only[go_sem,f6]) A
 simp only[aC.wp,go_sem] at tail;simp only[go_sem,baR,qj,a7G,bB];by_cases N:nl (a7I (val a) (val b))>1
 ·have i:((nl (a7I (val a) (val b)):Nat):Int)>1:=Om;simp only[go_sem,i];exact tail ((zK c).1 (.inl N)) _ _ rfl rfl rfl rfl rfl Sq
 ·have i:¬ ((nl (a7I (val a) (val b)):Nat):Int)>1:=Om;simp only[go_sem,i,jy c];by_cases O:a7I (val a) (val b)%4294967296>1
  ·have l:((a7I (val a) (val b)%4294967296:Nat):Int)>1:=Om;simp only[go_sem,l];exact tail ((zK c).1 (.inr O)) _ _ rfl rfl rfl rfl (by simp only[go_sem,jy c]) Sq
  ·have l:¬ ((a7I (val a) (val b)%4294967296:Nat):Int)>1:=Om;have S:a7I (val a) (val b)=1:=by
    rcases Decidable.em (a7I (val a) (val b)=1) with h | h
    ·exact h
    ·rcases (zK c).2 h with h | h
     ·exact absurd h N
     ·exact absurd h O
   simp only[go_sem,l];exact fin (val a) (val b) (by rw[S,Nat.div_one]) (by rw[S,Nat.div_one]) _ _ rfl rfl rfl rfl Sq
theorem U3 {C:Ctx} (v:Int) (p:-9223372036854775808≤v) (q:v≤9223372036854775807) :
  MM.wp C (aV Hz.res (aF (.int .u64 (v.natAbs:Nat)))) (PF.args [.int .i64 v]) .nil:=by
 simp only[go_sem,MM,U4,U5,Hz];by_cases c:v<0
 ·have d:IntKind.i64.wrap (v+1)=v+1:=wrap_i64 Om Om;have i:IntKind.i64.wrap (0-(v+1))=-(v+1):=by rw[wrap_i64 Om Om]; omega
  have l:IntKind.u64.wrap (IntKind.u64.wrap (-(v+1))+1)=(v.natAbs:Int):=by rw[fU,fU]; omega
  simp only[go_sem,c,U6,d,i,l];refine aQ (.inr rfl) rfl ?_;rfl
 ·have e:IntKind.u64.wrap v=(v.natAbs:Int):=by rw[fU]; omega
  simp only[go_sem,c,U7,e];refine aQ (.inr rfl) rfl ?_;rfl
structure Gz (C:Ctx):Prop extends fx C where
 lowest:∀ neg a b,Lim a→Lim b→a.length≤35184372087808→b.length≤35184372087808→nl (val a)≤512→nl (val b)≤512→val b≠0→aH C 58 [.bool neg,aJ a,aJ b] .nil (aF (.agg (mO neg (val a) (val b)).rf.cells))
 size:∀ v:Int,dB v→aH C 59 [.int .i64 v] .nil (aF (.int .u64 (v.natAbs:Nat)))
def mkT (n d:Int):RF:=(mO (decide (n<0) != decide (d<0)) n.natAbs d.natAbs).rf
def vZ (n d:Int):PV:=if d=0 then BE 3 else .tup [.agg (mkT n d).cells,.int .i64 0]
theorem Uq {C:Ctx} (L:Gz C) (n d:Int) (e:dB n) (i:dB d) :
  MJ.wp C (aV qk.res (bY (vZ n d))) (PF.args [.int .i64 n,.int .i64 d]) .nil:=by
 simp only[go_sem,MJ,Ur,Us];refine aR fun o l=>?_;unfold vZ;by_cases c:d=0
 ·subst c;simp only[go_sem,Ut];refine hL ?_;simp only[go_sem,qk]
 ·rw[if_neg c];simp only[go_sem,bF c,Uu];refine aA (L.size n e) rfl ?_;simp only[go_sem];refine aA (L.make n.natAbs Om) rfl ?_;simp only[go_sem];refine aA (L.size d i) rfl ?_;simp only[go_sem];refine aA (L.make d.natAbs Om) rfl ?_;simp only[go_sem];have p:nl n.natAbs≤2:=nO Om;have q:nl d.natAbs≤2:=nO Om;have low:=L.lowest (decide (n<0) != decide (d<0)) (aI n.natAbs) (aI d.natAbs) (aX _) (aX _) (by rw[bB]; omega) (by rw[bB]; omega);rw[aW,aW] at low;have low:=low Om Om Om;refine aA low rfl ?_;simp only[go_sem];exact bA (.inr rfl) .nil (vs:=[.agg (mkT n d).cells,.int .i64 0]) (by simp only[go_sem,qk]; rfl) a_ ⟨.refl _,rfl⟩
structure OA (C:Ctx):Prop extends Gz C where
 fmk:∀ n d:Int,dB n→dB d→aH C 50 [.int .i64 n,.int .i64 d] .nil (aF (vZ n d))
theorem VQ {C:Ctx} (L:OA C) (n:Int) (i:dB n) :
  TV.wp C (aV aqF.res (bY (.agg (mkT n 1).cells))) (PF.args [.int .i64 n]) .nil:=by
 simp only[go_sem,TV,agZ,ahA,aqF];refine aR fun o l=>?_;simp only[go_sem];refine aA (L.fmk n 1 i (by unfold dB; omega)) rfl ?_;unfold vZ;rw[if_neg (by decide)];simp only[go_sem];refine aR fun p e=>?_;have c:o≠p:=by rintro rfl;simp only[aT,if_true] at e;cases e
 have d:p≠o:=fun h=>c h.symm;simp only[go_sem,c,ahB];refine bA (vs:=[.agg (mkT n 1).cells]) (.inr rfl) .nil ?_ a_ ⟨.refl _,rfl⟩;simp only[go_sem,d]
def aG (l:List Nat) (n a:Nat):Nat × Nat:=if l.length≤a∨n<2 then (0,a) else (l.getD a 0%n,a+1)
theorem cJ (l:List Nat) {n:Nat} (h:0<n) (a:Nat):(aG l n a).1<n:=by
 unfold aG;split
 ·exact h
 ·exact a8Z _ h
theorem bT (l:List Nat) (n:Nat) {a:Nat} (h:a≤l.length):(aG l n a).2≤l.length:=by
 unfold aG;split
 ·exact h
 ·simp only; omega
def fH (l:List Nat) (a:Nat):RF × Nat :=
 let x:=aG l 6 a
 let y:=aG l 8 x.2
 (mkT ((1+x.1:Nat):Int) ((1+y.1:Nat):Int),y.2)
abbrev jQ:RF:=mkT 0 1
def jA (l:List Nat) (i j a:Nat):RF × Nat :=
 if j=i+1 then fH l a
 else if j=i then (jQ,a)
 else let t:=aG l 3 a
  if t.1=0 then fH l t.2 else (jQ,t.2)
def dS (l:List Nat) (i a:Nat):Nat→List RF × Nat
 | 0=>([],a)
 | j+1=>let s:=dS l i a j
  let z:=jA l i j s.2
  (s.1++[z.1],z.2)
structure CG where
 start:List RF
 exit:List RF
 a6A:List (List RF)
 left:Nat
 a:Nat
def dR (l:List Nat) (n i:Nat) (s:CG):Nat × Nat:=if i+1<n then aG l (s.left+1) s.a else (s.left,s.a)
def eY (l:List Nat) (n i a:Nat):RF × Nat :=
 let e:=fH l a
 if i+1<n then (let t:=aG l 3 e.2; (if t.1=0 then jQ else e.1,t.2)) else e
def fS (l:List Nat) (n a:Nat):Nat→CG
 | 0=>⟨[],[],[],8,a⟩
 | i+1=>let s:=fS l n a i
  let k:=dR l n i s
  let e:=eY l n i k.2
  let r:=dS l i e.2 n
  ⟨s.start++[mkT (k.1:Nat) 8],s.exit++[e.1],s.a6A++[r.1],s.left-k.1,r.2⟩
def qQ (l:List Nat) (dZ a:Nat):cE × Nat :=
 let t:=aG l dZ a
 let s:=fS l (1+t.1) t.2 (1+t.1)
 (⟨[],s.start,s.a6A,s.exit⟩,s.a)
def kC (l:List Nat) (a:Nat):Nat→List RF × Nat
 | 0=>([],a)
 | k+1=>let s:=kC l a k
  let z:=fH l s.2
  (s.1++[z.1],z.2)
abbrev bZ (n:Nat):List UInt8:=Lib.decDigits n
def hM (l:List Nat) (a:Nat):Nat→List cE × Nat
 | 0=>([],a)
 | k+1=>let s:=hM l a k
  let z:=qQ l 2 s.2
  (s.1++[{ z.1 with name:=[108,97,119]++bZ k }],z.2)
def eI (l:List Nat) (a6C a:Nat):Nat→List cT × Nat
 | 0=>([],a)
 | k+1=>let s:=eI l a6C a k
  let x:=aG l 4 s.2
  let y:=aG l 8 x.2
  let z:=aG l a6C y.2
  (s.1++[⟨[109]++bZ k,(1+x.1:Nat),(1+y.1:Nat),(z.1:Nat)⟩],z.2)
structure GS where
 a6E:List cD
 a6O:List dH
 a:Nat
def jP (l:List Nat) (mc a5V c:Nat) (s:GS):Nat→GS
 | 0=>s
 | i+1=>let s:=jP l mc a5V c s i
  if s.a6O.length<a5V then
   let t:=aG l mc s.a
   { s with a6O:=s.a6O++[⟨[100]++bZ s.a6O.length,(t.1:Nat),(c:Nat)⟩],a:=t.2 }
  else s
def kY (level:Nat):UInt8:=match level with
 | 0=>45
 | 1=>115
 | 2=>114
 | 3=>107
 | _=>109
def mZ (l:List Nat) (level c:Nat) (s:GS):GS :=
 let u:=aG l 16 s.a
 let t:=aG l 3 u.2
 let k:=aG l 6 t.2
 let sh:RF × Nat:=if t.1=0 then (mkT 1 ((2+k.1:Nat):Int),k.2) else (jQ,t.2)
 { s with a6E:=s.a6E++[⟨[kY level]++bZ s.a6E.length,(level:Nat),(c:Nat),(1+u.1:Nat),sh.1⟩],a:=sh.2 }
def qB (a5V:Nat) (s:GS):Bool:=decide (a5V≤s.a6O.length)||decide (35≤s.a6E.length)
def fZ (l:List Nat) (level a5V c:Nat) (rec:Nat→GS→GS) (s:GS):Nat→GS
 | 0=>s
 | i+1=>let s:=fZ l level a5V c rec s i
  if qB a5V s then s else (let s':=mZ l level c s; rec (s'.a6E.length-1) s')
def eS (l:List Nat) (mc a5V:Nat):Nat→Nat→GS→GS
 | 0,c,s=>let t:=aG l 2 s.a
  jP l mc a5V c { s with a:=t.2 } (1+t.1)
 | k+1,c,s=>let t:=aG l 2 s.a
  fZ l (4-k) a5V c (eS l mc a5V k) { s with a:=t.2 } (if 4-k=2 then 1 else 1+t.1)
def mI:cD:=⟨[],0,-1,0,jQ⟩
def gQ (l:List Nat) (a:Nat):Int × Nat :=
 let t:=aG l 3 a
 let k:=aG l 3 t.2
 if t.1=0 then ((1+k.1:Nat),k.2) else (0,t.2)
def lY (l:List Nat) (a5W i a:Nat):bS × Nat :=
 let k:=aG l 2 a
 let m:=aG l 3 k.2
 let h:=aG l 4 m.2
 let q:=aG l (m.1+1) h.2
 let r:=kC l q.2 (max m.1 1)
 let g:=aG l 9 r.2
 let s1:=gQ l g.2
 let s2:=gQ l s1.2
 let s3:=gQ l s2.2
 let s4:=gQ l s3.2
 let f:=aG l a5W s4.2
 let b:=aG l 2 f.2
 let ms:List Int × Nat:=if 1<a5W then (if b.1=0 then ([(f.1:Int),1-(f.1:Int)],b.2) else ([(f.1:Int)],b.2)) else ([(f.1:Int)],f.2)
 (⟨[112]++bZ i,(1+k.1:Nat),(m.1:Nat),(1+k.1+q.1:Nat),0,s1.1,s2.1,s3.1,s4.1,ms.1,r.1,mkT (g.1:Nat) 8,mkT ((1+h.1:Nat):Int) 1⟩,ms.2)
def dU (l:List Nat) (a5W a:Nat):Nat→List bS × Nat
 | 0=>([],a)
 | k+1=>let s:=dU l a5W a k
  let z:=lY l a5W k s.2
  (s.1++[z.1],z.2)
def eM (l:List Nat) (pols a:Nat):Nat→List eW × Nat
 | 0=>([],a)
 | k+1=>let s:=eM l pols a k
  let z:=aG l pols s.2
  (s.1++[⟨[118]++bZ k,(z.1:Nat)⟩],z.2)
def jG (l:List Nat) (a5V a5X a:Nat):aE × Nat :=
 let e:=aG l 2 a
 let d:=aG l 2 e.2
 let a6C:=hM l d.2 (1+d.1)
 let c:=aG l 2 a6C.2
 let a5W:=eI l (1+d.1) c.2 (1+c.1)
 let g:=eS l (1+c.1) a5V 4 0 ⟨[mI],[],a5W.2⟩
 let pl:=aG l 2 g.a
 let pols:=dU l (1+c.1) pl.2 (1+pl.1)
 let i:=aG l (a5X+1) pols.2
 let vols:=eM l (1+pl.1) i.2 i.1
 (⟨(1+e.1:Nat),a6C.1,a5W.1,g.a6E,g.a6O,pols.1,vols.1⟩,vols.2)
abbrev kF (l:List Nat):List (List PV):=l.map fun (n:Nat)=>[PV.int .u8 (n:Int)]
theorem TQ (l:List Nat):(kF l).length=l.length:=by simp
theorem aMW (l:List Nat) {i:Nat} (h:i<l.length):(kF l)[i]?=some [.int .u8 (l[i]:Nat)]:=by simp[h]
abbrev bN (v:PV) (a:Nat):cG:=.rows 2 [[v,.int .i64 a]]
structure Tp (l:List Nat) (v:PV):Prop where
 seen:Seen 1 v (kF l)
 byte:∀ x∈l,x<256
 len:l.length≤400
def aiO (l:List Nat) (r:PV) (H:PH):Prop:=∃ o v,r=.ptr o 2 0 0∧Tp (l.take 400) v∧H=PH.nil.set o (bN v 0)
theorem Gq {t q s:Nat} {rs:List (List PV)} {F:PF} {H H2:PH} {R:PV→PH→Prop} {v:PV} {e:kM} (w:e=.normal∨e=.ret) (y:F t=some v) (x:H q=some (.rows s rs)) (l:H2.le (H.frz q s rs)) (p:R (PV.frz q s rs v) H2):aV [.tmp t] R e F H:=by
 have c:∃ vs,dV.evs F H [.tmp t]=some vs∧∃ d i H2,jD (PF.nil.set 0 (bO vs)) H d i∧H2.le i∧∃ u,d 0=some u∧R u H2:=by refine⟨[v],by rw[kI,nC,y,oK],_,_,H2,.step q x (.refl _ _),l,PV.frz q s rs v,?_,p⟩;rw[qW,kD,if_pos rfl,a8W];rfl
 rcases w with rfl | rfl<;>exact c
theorem abB {C:Ctx} (l:List Nat) (E:∀ x∈l,x<256) (O:l.length≤9223372036854775807):QU.wp C (aV amB.res (aiO l)) (PF.args [.sl 1 (kF l)]) .nil:=by
 simp only[go_sem,QU,abC,abD,amB,a7G];have fin:∀ F:PF,F 0=some (.sl 1 (kF (l.take 400)))→aC.wp C (.seq (.region vd) .ret) (aV [.tmp 2] (aiO l)) F .nil:=by
  intro F f0;have w:(l.take 400).length≤400:=by rw[a8A]; omega
  have u:∀ x∈l.take 400,x<256:=fun x M=>E x (List.mem_of_mem_take M);have y:∀ o v,Seen 1 v (kF (l.take 400))→aiO l (.ptr o 2 0 0) (PH.nil.set o (bN v 0)):=fun o v K=>⟨o,v,rfl,⟨K,u,w⟩,rfl⟩;generalize N:l.take 400=L at *
  simp only[go_sem,vd,f0];refine tO (src:=kF L) rfl ?_ (fun h=>?_) fun h o H=>?_
  ·unfold roomFor;rw[TQ];simp only[maxLen]; omega
  ·simp only[go_sem,a7T,a8B,or_false,forall_eq];refine aR fun o H=>?_;simp only[go_sem];exact bA (vs:=[.ptr o 2 0 0]) (.inr rfl) (PH.nil.set o (bN .aB 0)) rfl b_ (y o .aB (.inl ⟨h,rfl⟩))
  ·simp only[go_sem,a7T,a8B,or_false,forall_eq];refine aR fun p J=>?_;have d:¬ p=o:=(iU.1 J).1;have e:¬ o=p:=fun h=>d h.symm;simp only[go_sem];refine Gq (v:=.ptr p 2 0 0) (q:=o) (s:=1) (rs:=kF L) (H2:=PH.nil.set p (bN (.sl 1 (kF L)) 0)) (.inr rfl) rfl (by simp only[go_sem,e]) (PH.aK a_ ?_) (y p _ (.inr rfl));have B:(kF L).take L.length=kF L:=a8C (by rw[TQ]; exact a7M _);simp only[go_sem,d,cG.frz,PV.dE,a7G,B];rfl
 simp only[aC.wp,go_sem] at fin;by_cases c:l.length>400
 ·have i:(l.length:Int)>400:=Om;have A:(400:Int)≤(l.length:Int):=Om;simp only[go_sem,i,abE,a7G,A];refine fin _ ?_;rw[kD,if_pos rfl];simp[kF]
 ·have i:¬ (l.length:Int)>400:=Om;simp only[go_sem,i];refine fin _ ?_;rw[a8C Om];simp only[go_sem]
def fv (l:List Nat) (v:PV) (o n a:Nat) (r:PV) (H:PH):Prop:=r=.int .i64 ((aG l n a).1:Nat)∧H=PH.nil.set o (bN v (aG l n a).2)
theorem Pc {C:Ctx} {l:List Nat} {v:PV} (T:Tp l v) (o n a:Nat) (O:n≤1000000) (M:a≤l.length):xF.wp C (aV lk.res (fv l v o n a)) (PF.args [.ptr o 2 0 0,.int .i64 n]) (PH.nil.set o (bN v a)):=by
 obtain⟨J,E,N⟩:=T;have zero:(l.length≤a∨n<2)→∀ F,aC.wp C (.seq (.region ca) .ret) (aV [.tmp 4] (fv l v o n a)) F (PH.nil.set o (bN v a)):=by
  intro h F;have e:aG l n a=(0,a):=by unfold aG; rw[if_pos h]
  simp only[go_sem,ca];exact bA (vs:=[.int .i64 0]) (.inr rfl) _ rfl b_ ⟨by rw[e]; rfl,by rw[e]⟩
 simp only[aC.wp,go_sem] at zero;rcases J with ⟨B,rfl⟩ | rfl
 ·have K:l.length=0:=by rw[← TQ,B]; rfl
  have p:(a:Int)≥0:=Om;simp only[go_sem,xF,b9,lk];refine bW .nil eT a_ ?_;simp only[go_sem,JO,p];exact zero (.inl Om) _
 simp only[go_sem,xF,b9,lk];refine bW .nil eT a_ ?_;by_cases u:l.length≤a
 ·have c:(a:Int)≥(l.length:Nat):=Om;simp only[go_sem,JO,a7G,c];exact zero (.inl u) _
 have c:¬ (a:Int)≥(l.length:Nat):=Om;simp only[go_sem,JO,a7G,c];by_cases w:n<2
 ·have d:(n:Int)<2:=Om;simp only[go_sem,d];exact zero (.inr w) _
 have d:¬ (n:Int)<2:=Om;have i:a<l.length:=Om;have e:aG l n a=(l[a]%n,a+1):=by unfold aG;rw[if_neg Om];simp[a7Z,i]
 have A:IntKind.i64.wrap ((a:Int)+1)=((a+1:Nat):Int):=cZ Om;have y:IntKind.i64.wrap (((a+1:Nat):Int)-1)=((a:Nat):Int):=by rw[wrap_i64 Om Om]; omega
 have H:=aMW l i;have Q:=E _ (a7J i);have x:IntKind.i64.wrap ((l[a]:Nat):Int)=((l[a]:Nat):Int):=d6 Om;have q:¬ ((n:Nat):Int)=0:=Om;have em:Int.tmod ((l[a]:Nat):Int) ((n:Nat):Int)=((l[a]%n:Nat):Int):=rfl;simp only[go_sem,d,Pd,A];refine bW .nil eT a_ ?_;simp only[go_sem,Pe,y,H,x,q,em];exact bA (vs:=[.int .i64 (l[a]%n:Nat)]) (.inr rfl) _ rfl b_ ⟨by rw[e]; rfl,by rw[e]⟩
def PV.oid:PV→Option Nat
 | .osl q _ _ _=>some q
 | _=>none
abbrev LI:=PV × Nat × List (List PV)
abbrev BX:=Nat × cG
def eP (B:List BX):List Nat:=B.map (·.1)
def eF (L:List LI):List Nat:=L.filterMap fun x=>x.1.oid
structure aN (H:PH) (B:List BX) (L:List LI):Prop where
 box:∀ b∈B,H b.1=some b.2
 lst:∀ x∈L,bQ H x.2.1 x.1 x.2.2
 nd:(eP B++eF L).Nodup
section
variable {C:Ctx} {H:PH} {B:List BX} {L:List LI} {K:PV→PH→Prop}
theorem bQ.id {s q:Nat} {v:PV} {rows:List (List PV)} (h:bQ H s v rows) (c:v.oid=some q):∃ rs,H q=some (.rows s rs)∧v=.osl q s 0 rows.length∧rows.length≤rs.length∧rs.take rows.length=rows:=by
 rcases h with ⟨_,rfl⟩ | ⟨p,rs,rfl,h1,h2,h3⟩
 ·cases c
 ·cases c;exact⟨rs,h1,rfl,h2,h3⟩
theorem bQ.same {s:Nat} {v:PV} {rows:List (List PV)} {H':PH} (h:bQ H s v rows) (c:∀ q,v.oid=some q→H' q=H q):bQ H' s v rows:=by
 rcases h with h | ⟨p,rs,rfl,h1,h2,h3⟩
 ·exact .inl h
 ·exact .inr ⟨p,rs,rfl,by rw[c p rfl]; exact h1,h2,h3⟩
theorem lH {x:LI} {q:Nat} (h:x∈L) (c:x.1.oid=some q):q∈eF L:=List.mem_filterMap.2 ⟨x,h,c⟩
theorem uE {b:BX} (h:b∈B):b.1∈eP B:=a8J.2 ⟨b,h,rfl⟩
theorem aN.nil:aN H [] []:=⟨by simp,by simp,by simp[eP,eF]⟩
theorem aN.at (h:aN H B L) (i:Nat) {o:Nat} {x:cG} (hi:B[i]?=some (o,x)):H o=some x:=h.box _ (baC hi)
theorem aN.own (h:aN H B L) (i:Nat) {s:Nat} {v:PV} {rows:List (List PV)} (hi:L[i]?=some (v,s,rows)):bQ H s v rows:=h.lst _ (baC hi)
theorem aN.ndB (h:aN H B L):(eP B).Nodup:=(baA.1 h.nd).1
theorem aN.ndL (h:aN H B L):(eF L).Nodup:=(baA.1 h.nd).2.1
theorem aN.ndX (h:aN H B L) {o q:Nat} (c:o∈eP B) (d:q∈eF L):o≠q:=(baA.1 h.nd).2.2 o c q d
theorem aN.ne (h:aN H B L) (i j:Nat) {o p:Nat} {x y:cG} (hi:B[i]?=some (o,x)) (F:B[j]?=some (p,y)) (c:i≠j):o≠p:=by
 intro e;have A:(eP B)[i]?=some o:=by unfold eP; rw[a8F,hi]; rfl
 have E:(eP B)[j]?=some p:=by unfold eP; rw[a8F,F]; rfl
 obtain⟨u,d⟩:=a8P.1 A;obtain⟨w,l⟩:=a8P.1 E;have q:=List.pairwise_iff_getElem.1 h.ndB;rcases Nat.lt_or_gt_of_ne c with g | g
 ·exact q i j u w g (by rw[d,l,e])
 ·exact q j i w u g (by rw[d,l,e])
theorem aN.neL (h:aN H B L) (i j:Nat) {o q:Nat} {x:cG} {y:LI} (hi:B[i]?=some (o,x)) (c:L[j]?=some y) (d:y.1.oid=some q):o≠q :=
 h.ndX (uE (baC hi)) (lH (baC c) d)
theorem aN.fresh (h:aN H B L) {o:Nat} (c:H o=none):o ∉ eP B∧o ∉ eF L:=by
 refine⟨fun d=>?_,fun d=>?_⟩
 ·obtain⟨b,l,rfl⟩:=a8J.1 d;rw[h.box b l] at c; cases c
 ·obtain⟨x,p,e⟩:=List.mem_filterMap.1 d;obtain⟨rs,i,_⟩:=(h.lst x p).id e;rw[i] at c; cases c
theorem aN.keep (h:aN H B L) {H':PH} (d:∀ q,q∈eP B∨q∈eF L→H' q=H q):aN H' B L :=
 ⟨fun b c=>by rw[d _ (.inl (uE c))]; exact h.box b c,fun x e=>(h.lst x e).same fun q i=>d q (.inr (lH e i)),h.nd⟩
theorem aFU {i:Nat} {o:Nat} {x y:cG} (hi:B[i]?=some (o,x)):eP (B.set i (o,y))=eP B:=by
 unfold eP;rw[List.map_set];refine List.ext_getElem? fun j=>?_;rw[List.getElem?_set];split
 ·rename_i e;subst e;rw[a8F,hi];have:=(a8P.1 hi).1;simp[this]
 ·rfl
theorem aN.set (h:aN H B L) (i:Nat) {o:Nat} {x:cG} (hi:B[i]?=some (o,x)) (y:cG):aN (H.set o y) (B.set i (o,y)) L:=by
 have l:o∈eP B:=uE (baC hi);refine⟨fun b u=>?_,fun z p=>(h.lst z p).same fun q w=>?_,by rw[aFU hi]; exact h.nd⟩
 ·obtain⟨j,c⟩:=List.mem_iff_getElem?.1 u;rw[List.getElem?_set] at c;split at c
  ·split at c
   ·cases c; simp only[aT,if_true]
   ·cases c
  ·rename_i d;have:b.1≠o:=fun e=>h.ne i j hi (show B[j]?=some (b.1,b.2) from c) d e.symm;rw[aT,if_neg this];exact h.box b (baC c)
 ·have:q≠o:=fun e=>h.ndX l (lH p w) e.symm;rw[aT,if_neg this]
theorem aN.new (h:aN H B L) {o:Nat} (u:H o=none) (y:cG):aN (H.set o y) (B++[(o,y)]) L:=by
 obtain⟨f1,f2⟩:=h.fresh u;refine⟨fun b d=>?_,fun z l=>(h.lst z l).same fun q hq=>?_,?_⟩
 ·rw[a9C,a9X] at d;rcases d with d | rfl
  ·have:b.1≠o:=fun e=>f1 (e ▸ uE d);rw[aT,if_neg this]; exact h.box b d
  ·simp only[aT,if_true]
 ·have:q≠o:=fun e=>f2 (e ▸ lH l hq);rw[aT,if_neg this]
 ·have:=h.nd;simp only[eP,a8G,a8U,a9P] at *
  rw[a8Q,baA] at *
  obtain⟨a,b,c⟩:=this;refine⟨a,?_,fun p i q hq=>?_⟩
  ·rw[List.singleton_append,List.nodup_cons]; exact⟨f2,b⟩
  ·rw[List.singleton_append,a7T] at hq;rcases hq with rfl | hq
   ·intro e; subst e; exact f1 i
   ·exact c p i q hq
theorem kV (L1 L2:List LI):eF (L1++L2)=eF L1++eF L2:=List.filterMap_append ..
theorem aN.nB (h:aN H B L) (s:Nat):aN H B (L++[(.aB,s,[])]):=by
 refine⟨h.box,fun z c=>?_,?_⟩
 ·rw[a9C,a9X] at c;rcases c with c | rfl
  ·exact h.lst z c
  ·exact .nil
 ·rw[kV,show eF [((.aB:PV),s,([]:List (List PV)))]=[] from rfl,a9G]; exact h.nd
theorem aN.amO (h:aN H B L) {o s:Nat} {rows:List (List PV)} (i:H o=none):aN (H.set o (.rows s rows)) B (L++[(.osl o s 0 rows.length,s,rows)]):=by
 obtain⟨f1,f2⟩:=h.fresh i;have e:=h.keep (H':=H.set o (.rows s rows)) fun q c=>by
  have:q≠o:=by rintro rfl; exact c.elim f1 f2
  rw[aT,if_neg this]
 refine⟨e.box,fun z d=>?_,?_⟩
 ·rw[a9C,a9X] at d;rcases d with d | rfl
  ·exact e.lst z d
  ·exact .inr ⟨o,rows,rfl,by simp only[aT,if_true],a7M _,a8I⟩
 ·rw[kV,show eF [((.osl o s 0 rows.length:PV),s,rows)]=[o] from rfl,← a8Q,baA];refine⟨h.nd,by simp,fun p hp q c=>?_⟩;rw[a9X] at c;subst c;rintro rfl;rcases a9C.1 hp with hp | hp
  ·exact f1 hp
  ·exact f2 hp
theorem Nr {i:Nat} {v v':PV} {s s':Nat} {rows rows':List (List PV)} (hi:L[i]?=some (v,s,rows)):∃ L1 L2,L=L1++(v,s,rows)::L2∧L.set i (v',s',rows')=L1++(v',s',rows')::L2:=by
 obtain⟨c,d⟩:=a8P.1 hi;refine⟨L.take i,L.drop (i+1),?_,?_⟩
 ·rw[← d,← a9H c,baE]
 ·rw[List.set_eq_take_append_cons_drop,if_pos c]
theorem aN.LL (h:aN H B L) (i:Nat) {s:Nat} {v:PV} {rows:List (List PV)} (hi:L[i]?=some (v,s,rows)) {s':Nat} {v':PV} {rows':List (List PV)} {H':PH} (Q:bQ H' s' v' rows')
  (F:∀ q,v'.oid=some q→v.oid=some q∨H q=none) (O:∀ q,q∈eP B∨q∈eF L→(∀ p,v.oid=some p→q≠p)→H' q=H q):aN H' B (L.set i (v',s',rows')):=by
 obtain⟨L1,L2,M,N⟩:=Nr (v':=v') (s':=s') (rows':=rows') hi;rw[N];subst M;have d:=h.nd;have A:eF (L1++(v,s,rows)::L2)=eF L1++(v.oid.toList++eF L2):=by rw[kV];congr 1;unfold eF;rw[List.filterMap_cons];cases e:v.oid<;>simp
 have E:eF (L1++(v',s',rows')::L2)=eF L1++(v'.oid.toList++eF L2):=by rw[kV];congr 1;unfold eF;rw[List.filterMap_cons];cases e:v'.oid<;>simp
 rw[A] at d;have x:∀ q,q∈eP B∨q∈eF L1∨q∈eF L2→∀ p,v.oid=some p→q≠p:=by
  intro q hq p w e;subst e;rw[w] at d;simp only[Option.toList_some] at d;rw[baA] at d;obtain⟨a,b,c⟩:=d;rw[baA] at b;obtain⟨b1,b2,y⟩:=b;rw[List.singleton_append,List.nodup_cons] at b2;rcases hq with hq | hq | hq
  ·exact c q hq q (by simp) rfl
  ·exact y q hq q (by simp) rfl
  ·exact b2.1 hq
 have l:∀ q,q∈eP B∨q∈eF L1∨q∈eF L2→H' q=H q:=by
  intro q hq;refine O q ?_ (x q hq);rw[A];simp only[a9C];rcases hq with hq | hq | hq
  ·exact .inl hq
  ·exact .inr (.inl hq)
  ·exact .inr (.inr (.inr hq))
 refine⟨fun b J=>by rw[l _ (.inl (uE J))]; exact h.box b J,fun z hz=>?_,?_⟩
 ·rw[a9C,a7T] at hz;rcases hz with hz | rfl | hz
  ·exact (h.lst z (by simp[hz])).same fun q hq=>l q (.inr (.inl (lH hz hq)))
  ·exact Q
  ·exact (h.lst z (by simp[hz])).same fun q hq=>l q (.inr (.inr (lH hz hq)))
 ·rw[E];cases e:v'.oid with
  | none =>simp only[Option.toList_none,List.nil_append];refine List.Nodup.sublist ?_ d;exact a9K.append (a9K.refl _) (a9K.append (a9K.refl _) (List.sublist_append_right _ _))
  | some q =>
   rcases F q e with R | hn
   ·rw[R] at d;exact d
   ·obtain⟨f1,f2⟩:=h.fresh hn;rw[A] at f2;simp only[a9C,not_or] at f2;have u:(eP B++(eF L1++eF L2)).Nodup:=List.Nodup.sublist (a9K.append (a9K.refl _) (a9K.append (a9K.refl _) (List.sublist_append_right _ _))) d;simp only[Option.toList_some];rw[baA] at u ⊢;obtain⟨a,b,c⟩:=u;rw[baA] at b;obtain⟨b1,b2,y⟩:=b;refine⟨a,?_,?_⟩
    ·rw[baA];refine⟨b1,by rw[List.singleton_append,List.nodup_cons]; exact⟨f2.2.2,b2⟩,fun p w r hr=>?_⟩;rw[List.singleton_append,a7T] at hr;rcases hr with rfl | hr
     ·rintro rfl; exact f2.1 w
     ·exact y p w r hr
    ·intro p w r hr;rw[a9C,List.singleton_append,a7T] at hr;rcases hr with hr | rfl | hr
     ·exact c p w r (by simp[hr])
     ·rintro rfl; exact f1 w
     ·exact c p w r (by simp[hr])
theorem aN.append (h:aN H B L) (i:Nat) {s b:Nat} {v y:PV} {rows src:List (List PV)} (hi:L[i]?=some (v,s,rows)) (E:dX H s y=some src) (A:roomFor rows.length src.length b)
  (w:∀ v' H',aN H' B (L.set i (v',s,rows++src))→(src≠[]→∃ q,v'=.osl q s 0 (rows++src).length)→K v' H'):mP H s b v y K:=by
 rcases h.own i hi with ⟨rfl,rfl⟩ | ⟨q,rs,rfl,h1,h2,h3⟩
 ·refine⟨src,E,A,fun e=>?_,fun e o l=>?_⟩
  ·subst e;refine w _ _ ?_ fun h=>absurd rfl h;exact h.LL i hi (.inl ⟨rfl,rfl⟩) (fun q u=>by cases u) fun q _ _=>rfl
  ·refine w _ _ (h.LL i hi (.inr ⟨o,src,rfl,by simp only[aT,if_true],a7M _,a8I⟩) (fun q u=>by cases u; exact .inr l) fun q u _=>?_) fun _=>⟨o,rfl⟩;obtain⟨f1,f2⟩:=h.fresh l;have:q≠o:=by rintro rfl; exact u.elim f1 f2
   rw[aT,if_neg this]
 ·have c:(rows++src).length=rows.length+src.length:=a7O;refine⟨src,E,rfl,rfl,A,rs,h1,h2,?_,fun o l=>?_⟩
  ·rw[h3];refine w _ _ (h.LL i hi (.inr ⟨q,rows++src,by rw[c],by simp only[aT,if_true],a7M _,a8I⟩) (fun p d=>by cases d; exact .inl rfl) fun p _ d=>?_) fun _=>⟨q,by rw[c]⟩;rw[aT,if_neg (d q rfl)]
  ·rw[h3];refine w _ _ (h.LL i hi (.inr ⟨o,rows++src,by rw[c],by simp only[aT,if_true],a7M _,a8I⟩) (fun p d=>by cases d; exact .inr l) fun p x d=>?_) fun _=>⟨o,by rw[c]⟩;obtain⟨f1,f2⟩:=h.fresh l;have F:p≠o:=by rintro rfl; exact x.elim f1 f2
   rw[aT,if_neg F]
theorem aN.sub (h:aN H B L) {B':List BX} {L':List LI} (hB:B'.Sublist B) (c:L'.Sublist L):aN H B' L' :=
 ⟨fun b d=>h.box b (hB.subset d),fun x e=>h.lst x (c.subset e),List.Nodup.sublist (a9K.append (hB.map _) (c.filterMap _)) h.nd⟩
theorem aN.sM (h:aN H B L) (i:Nat):aN H (B.eraseIdx i) L:=h.sub (List.eraseIdx_sublist ..) (a9K.refl _)
theorem aN.ajU (h:aN H B L) (i:Nat):aN H B (L.eraseIdx i):=h.sub (a9K.refl _) (List.eraseIdx_sublist ..)
end
section
variable {C:Ctx} {F:PF} {H:PH} {B:List BX} {L:List LI}
theorem aN.VL (h:aN H B L) {q:Nat} (hq:q∈eP B∨q∈eF L):∃ x,H q=some x:=by
 rcases hq with hq | hq
 ·obtain⟨b,d,rfl⟩:=a8J.1 hq;exact⟨_,h.box b d⟩
 ·obtain⟨x,i,e⟩:=List.mem_filterMap.1 hq;obtain⟨rs,c,_⟩:=(h.lst x i).id e;exact⟨_,c⟩
theorem aN.perm (h:aN H B L) {B':List BX} {L':List LI} (hB:B.Perm B') (c:L.Perm L'):aN H B' L' :=
 ⟨fun b d=>h.box b (hB.mem_iff.2 d),fun x e=>h.lst x (c.mem_iff.2 e),(List.Perm.nodup_iff ((hB.map _).append (c.filterMap _))).1 h.nd⟩
theorem aN.only (h:aN H B L) {B1:List BX} {L1:List LI} (hB:B1.Sublist B) (c:L1.Sublist L):aN (H.only (eP B1++eF L1)) B1 L1:=by
 refine (h.sub hB c).keep fun q d=>?_;rw[rY];rw[if_pos (a9C.2 d)]
theorem aVY {a b c d:List Nat} (i:(a++c).Nodup) (l:(b++d).Nodup) (u:∀ q,q∈a∨q∈c→q∈b∨q∈d→False):((a++b)++(c++d)).Nodup:=by
 have e:List.Perm ((a++b)++(c++d)) ((a++c)++(b++d)):=by rw[a8Q,a8Q];exact List.Perm.append_left a (by rw[← a8Q,← a8Q]; exact List.Perm.append_right d List.perm_append_comm)
 rw[e.nodup_iff,baA];refine⟨i,l,fun p w q x=>?_⟩;rintro rfl;exact u p (a9C.1 w) (a9C.1 x)
theorem aN.frame {H':PH} {B1 B2 B':List BX} {L1 L2 L':List LI} (h:aN H (B1++B2) (L1++L2)) (p:aN H' B' L') (E:lZ H (H.only (eP B1++eF L1)) H'):aN (H.over (H.only (eP B1++eF L1)) H') (B'++B2) (L'++L2):=by
 have w:aN H B2 L2:=h.sub (List.sublist_append_right ..) (List.sublist_append_right ..);have i:∀ q,q∈eP B2∨q∈eF L2→¬ (q∈eP B1++eF L1):=by
  intro q c J;have d:=h.nd;rw[show eP (B1++B2)=eP B1++eP B2 from a8G,kV] at d;have e:List.Perm ((eP B1++eP B2)++(eF L1++eF L2)) ((eP B1++eF L1)++(eP B2++eF L2)):=by rw[a8Q,a8Q];exact List.Perm.append_left _ (by rw[← a8Q,← a8Q]; exact List.Perm.append_right _ List.perm_append_comm)
  rw[e.nodup_iff,baA] at d;exact d.2.2 q J q (a9C.2 c) rfl
 have new:∀ q,q∈eP B'∨q∈eF L'→(H.over (H.only (eP B1++eF L1)) H') q=H' q:=by intro q c;obtain⟨x,hx⟩:=p.VL c;rw[gV,hx]
 have A:∀ q,q∈eP B2∨q∈eF L2→(H.over (H.only (eP B1++eF L1)) H') q=H q:=by
  intro q c;obtain⟨x,hx⟩:=w.VL c;have u:(H.only (eP B1++eF L1)) q=none:=by rw[rY,if_neg (i q c)]
  rw[gV];cases e:H' q with
  | none=>simp only[u]
  | some y =>have:=E q y e u;rw[hx] at this; cases this
 have k1:=p.keep new;have k2:=w.keep A;refine⟨fun b hb=>?_,fun x hx=>?_,?_⟩
 ·rcases a9C.1 hb with hb | hb
  ·exact k1.box b hb
  ·exact k2.box b hb
 ·rcases a9C.1 hx with hx | hx
  ·exact k1.lst x hx
  ·exact k2.lst x hx
 ·rw[show eP (B'++B2)=eP B'++eP B2 from a8G,kV];refine aVY p.nd w.nd fun q c l=>?_;obtain⟨x,hx⟩:=p.VL c;obtain⟨y,K⟩:=w.VL l;have u:(H.only (eP B1++eF L1)) q=none:=by rw[rY,if_neg (i q l)]
  have:=E q x hx u;rw[K] at this; cases this
theorem EU {name:Nat} {vs:List PV} {args:List aP} {d:Option Nat} {K:PF→PH→Prop} {B1 B2:List BX} {L1 L2:List LI} {Q:PV→List BX→List LI→Prop} (h:aN H (B1++B2) (L1++L2))
  (p:∀ e,aN e B1 L1→aH C name vs e (fun r H'=>∃ B' L',Q r B' L'∧aN H' B' L')) (l:aP.evs F args=some vs)
  (q:∀ r B' L' H',Q r B' L'→aN H' (B'++B2) (L'++L2)→K (F.put d r) H'):iV C name args [] d K F H:=by
 refine kU (p (H.only (eP B1++eF L1)) (h.only (List.sublist_append_left ..) (List.sublist_append_left ..))) l (VD H _) ?_;rintro r H' ⟨B',L',u,i⟩ c;exact q r B' L' _ u (h.frame i c)
theorem aN.OF {B:List BX} {o:Nat} {x:cG} (h:aN H (B++[(o,x)]) L):H o=some x:=h.box (o,x) (by simp)
theorem aN.wz {B:List BX} {o:Nat} {x:cG} (h:aN H (B++[(o,x)]) L) (y:cG):aN (H.set o y) (B++[(o,y)]) L:=by
 have:=h.set B.length (o:=o) (x:=x) (by simp) y
 rwa [baD _ _ (a7M _),baG] at this
theorem aN.dropLast {B:List BX} {b:BX} (h:aN H (B++[b]) L):aN H B L:=h.sub (List.sublist_append_left ..) (a9K.refl _)
theorem aN.aSK {B:List BX} {o:Nat} {x:cG} (h:aN H ((o,x)::B) L) (y:cG):aN (H.set o y) ((o,y)::B) L:=h.set 0 rfl y
theorem aN.aUV {B:List BX} {o:Nat} {x:cG} (h:aN H ((o,x)::B) L):H o=some x:=h.at 0 rfl
theorem mQ {name o:Nat} {x y:cG} {r:PV} {vs:List PV} {args:List aP} {d:Option Nat} {K:PF→PH→Prop} (h:aH C name vs (PH.nil.set o x) (fun c H'=>c=r∧H'=PH.nil.set o y)) (l:H o=some x) (e:aP.evs F args=some vs)
  (i:K (F.put d r) (H.set o y)):iV C name args [] d K F H:=by
 refine kU h e (PH.aK a_ l) ?_;rintro c H' ⟨rfl,rfl⟩ -;rw[PH.tC];exact i
theorem aEN {Hs:PH} {S:Spec} {name o:Nat} {x y:cG} {r:PV} {vs:List PV} {R:PH→PV→PH→Prop} {args:List aP} {st:Bool} {d:Option Nat} {K:PF→PH→Prop} (N:S name vs=some ([o],R)) (J:H o=some x)
  (h:aH C name vs (PH.nil.set o x) (fun c H'=>c=r∧H'=PH.nil.set o y)) (i:R (PH.nil.set o x) r (PH.nil.set o y)) (u:∀ c H',R (PH.nil.set o x) c H'→c=r∧H'=PH.nil.set o y) (O:aP.evs F args=some vs)
  (w:Hs.le (H.set o y)) (Q:K (F.put d r) (H.set o y)):dOp C Hs S st (.call name args) d K F H:=by
 have e:=cz J;refine⟨vs,[o],_,O,N,fun q M=>?_,?_,fun G=>⟨r,_,by rw[e]; exact i,fun q z E p=>?_⟩,fun c H' l _=>?_⟩
 ·simp at M; subst M; exact⟨x,J⟩
 ·rw[e];exact h.post fun c H' l=>⟨c,.refl _,by rw[l.1,l.2]; exact i⟩
 ·rw[e] at p;rw[aT] at E p;split at p
  ·cases p
  ·rename_i A;rw[if_neg A] at E; cases E
 ·rw[e] at l;obtain⟨rfl,rfl⟩:=u c H' l;rw[e,PH.tC];exact⟨w,Q⟩
theorem aLB {s:Nat} {q z:Nat} {rs:List (List PV)} {v:PV} {rows:List (List PV)} (h:bQ H s v rows) (d:v.oid≠some q):bQ (H.frz q z rs) s v (rows.map fun r=>r.map (PV.dE q z rs)):=by
 rcases h with ⟨rfl,rfl⟩ | ⟨p,rs',rfl,h1,h2,h3⟩
 ·exact .inl ⟨rfl,rfl⟩
 ·have c:¬ p=q:=fun e=>d (by rw[e]; rfl);refine .inr ⟨p,rs'.map fun r=>r.map (PV.dE q z rs),by rw[a7G],?_,by simpa using h2,?_⟩
  ·rw[yF,if_neg c,h1]; rfl
  ·rw[a7G,← List.map_take,h3]
theorem aN.frz (h:aN H B L) (i:Nat) {q s k:Nat} {rows:List (List PV)} (hi:L[i]?=some (.osl q s 0 k,s,rows)):∃ rs,H q=some (.rows s rs)∧PV.dE q s rs (.osl q s 0 k)=.sl s rows∧PV.frz q s rs (.osl q s 0 k)=.sl s rows∧(∀ j x,j≠i→L[j]?=some x→PV.dE q s rs x.1=x.1) ∧
  aN (H.frz q s rs) (B.map fun b=>(b.1,b.2.frz q s rs)) ((L.eraseIdx i).map fun x=>(x.1,x.2.1,x.2.2.map fun r=>r.map (PV.dE q s rs))):=by
 obtain⟨rs,U,V,W,X⟩:=(h.own i hi).id rfl;injection V with _ _ _ hk
 subst hk;have e:PV.frz q s rs (.osl q s 0 rows.length)=.sl s rows:=by rw[tZ W,X]
 refine⟨rs,U,e,e,?_⟩;refine⟨fun j x K R=>?_,?_⟩
 ·have l:x.1.oid≠some q:=by
   intro l;obtain⟨M,J⟩:=a8P.1 hi;obtain⟨β,Z⟩:=a8P.1 R;have u:x∈L.eraseIdx i:=List.mem_eraseIdx_iff_getElem?.2 ⟨j,K,R⟩;have d:=h.ndL;have O:L=L.take i++(L[i]::L.drop (i+1)):=by rw[← a9H M,baE]
   rw[List.eraseIdx_eq_take_drop_succ] at u;rw[O,kV] at d;have E:eF (L[i]::L.drop (i+1))=q::eF (L.drop (i+1)):=by rw[J]; rfl
   rw[E,baA] at d;obtain⟨a,b,c⟩:=d;rcases a9C.1 u with hx | hx
   ·exact c q (lH hx l) q (by simp) rfl
   ·exact (List.nodup_cons.1 b).1 (lH hx l)
  cases hx:x.1<;>try rfl
  rename_i p z γ len;have:¬ p=q:=fun e=>l (by rw[hx,e]; rfl);simp only[PV.dE,if_neg this]
 obtain⟨L1,L2,e1,e2⟩:=Nr (v':=.aB) (s':=s) (rows':=rows) hi;have α:i=L1.length∨True:=.inr trivial;have w:(L.eraseIdx i).Sublist L:=List.eraseIdx_sublist ..;have N:∀ x∈L.eraseIdx i,x.1.oid≠some q:=by
  intro x hx l;obtain⟨M,J⟩:=a8P.1 hi;have d:=h.ndL;have O:L=L.take i++(L[i]::L.drop (i+1)):=by rw[← a9H M,baE]
  rw[List.eraseIdx_eq_take_drop_succ] at hx;rw[O,kV] at d;have E:eF (L[i]::L.drop (i+1))=q::eF (L.drop (i+1)):=by rw[J]; rfl
  rw[E,baA] at d;obtain⟨a,b,c⟩:=d;rcases a9C.1 hx with hx | hx
  ·exact c q (lH hx l) q (by simp) rfl
  ·exact (List.nodup_cons.1 b).1 (lH hx l)
 refine⟨fun b Y=>?_,fun x hx=>?_,?_⟩
 ·obtain⟨Q,y,rfl⟩:=a8J.1 Y;have:¬ Q.1=q:=h.ndX (uE y) (lH (baC hi) rfl);simp only;rw[yF,if_neg this,h.box Q y]; rfl
 ·obtain⟨S,A,rfl⟩:=a8J.1 hx;exact aLB (h.lst S (w.subset A)) (N S A)
 ·have i1:eP (B.map fun b=>(b.1,b.2.frz q s rs))=eP B:=by unfold eP; rw[List.map_map]; rfl
  have i2:eF ((L.eraseIdx i).map fun x=>(x.1,x.2.1,x.2.2.map fun r=>r.map (PV.dE q s rs)))=eF (L.eraseIdx i):=by unfold eF; rw[List.filterMap_map]; rfl
  rw[i1,i2];exact List.Nodup.sublist (a9K.append (a9K.refl _) (w.filterMap _)) h.nd
def Flat (rows:List (List PV)):Prop:=∀ q s rs,rows.map (fun r=>r.map (PV.dE q s rs))=rows
theorem Flat.nil:Flat []:=fun _ _ _=>rfl
theorem Flat.of {rows:List (List PV)} (h:∀ r∈rows,∀ c∈r,∀ q s rs,PV.dE q s rs c=c):Flat rows:=fun q s rs=>by
 conv=>rhs; rw[← List.map_id rows]
 refine bbB fun r e=>?_
 conv=>rhs; rw[id,← List.map_id r]
 exact bbB fun c d=>h r e c d q s rs
theorem Flat.map {α:Type} {f:α→List PV} (l:List α) (h:∀ x,∀ c∈f x,∀ q s rs,PV.dE q s rs c=c):Flat (l.map f):=Flat.of fun r d=>by
 obtain⟨x,_,rfl⟩:=a8J.1 d;exact h x
theorem Flat.append {r1 r2:List (List PV)} (c:Flat r1) (d:Flat r2):Flat (r1++r2):=fun q s rs=>by rw[a8G,c,d]
theorem aN.flat {φ:PV→List (List PV)} (h:aN H B L):aN H B L:=h
def AR (v:PV) (H:PH) (R:PV→PH→Prop):Prop:=∃ c d H2,jD (PF.nil.set 0 v) H c d∧H2.le d∧∃ u,c 0=some u∧R u H2
theorem AR.done {v:PV} {H2:PH} {R:PV→PH→Prop} (d:R v H2) (c:H2.le H):AR v H R:=⟨_,_,H2,.refl _ _,c,v,by rw[kD,if_pos rfl],d⟩
theorem AR.step {v:PV} {q s:Nat} {rs:List (List PV)} {R:PV→PH→Prop} (w:H q=some (.rows s rs)) (h:AR (PV.frz q s rs v) (H.frz q s rs) R):AR v H R:=by
 obtain⟨c,d,H2,l,p,u⟩:=h;have e:(PF.nil.set 0 v).frz q s rs=PF.nil.set 0 (PV.frz q s rs v):=by funext i;rw[qW,kD,kD];split<;>rfl
 exact⟨c,d,H2,.step q w (by rw[e]; exact l),p,u⟩
theorem yP {res:List dV} {R:PV→PH→Prop} {vs:List PV} {e:kM} (l:e=.normal∨e=.ret) (h:dV.evs F H res=some vs) (p:AR (bO vs) H R):aV res R e F H:=by
 have c:∃ vs,dV.evs F H res=some vs∧∃ d i H2,jD (PF.nil.set 0 (bO vs)) H d i∧H2.le i∧∃ u,d 0=some u∧R u H2:=⟨vs,h,p⟩;rcases l with rfl | rfl<;>exact c
theorem jp {u:PV} (h:u.oid=none) (q s:Nat) (rs:List (List PV)):PV.dE q s rs u=u:=by
 cases u<;>first | rfl | (simp[PV.oid] at h)
theorem Seen.co {s:Nat} {v:PV} {rows:List (List PV)} (h:Seen s v rows):Co v (.sl s rows):=by
 rcases h with ⟨rfl,rfl⟩ | rfl
 ·exact .nil s
 ·exact .refl _
theorem aN.giveUp:∀ (L:List LI) {H:PH} {B:List BX},aN H B L→(∀ x∈L,Flat x.2.2)→(∀ b∈B,∀ q s rs,cG.frz q s rs b.2=b.2) →
  ∃ (φ:PV→PV) (d:PH),(∀ x∈L,Seen x.2.1 (φ x.1) x.2.2)∧(∀ u,u.oid=none→φ u=u)∧aN d B []∧∀ cs R,AR (.agg (cs.map φ)) d R→AR (.agg cs) H R
 | [],H,B,h,_,_=>⟨id,H,by simp,fun _ _=>rfl,h,fun cs R p=>by rwa [List.map_id] at p⟩
 | (w,s,rows)::L,H,B,h,l,hB=>by
  have c:∀ q z rs,(L.map fun x=>(x.1,x.2.1,x.2.2.map fun r=>r.map (PV.dE q z rs)))=L:=fun q z rs=>by
   conv=>rhs; rw[← List.map_id L]
   refine bbB fun x hx=>?_;rw[l x (by simp[hx]) q z rs]; rfl
  rcases h.own 0 rfl with ⟨i,M⟩ | ⟨q,rs,i,_⟩
  ·obtain⟨φ,d,k1,k2,y,A⟩:=aN.giveUp L (h.ajU 0) (fun x hx=>l x (by simp[hx])) hB;refine⟨φ,d,fun x hx=>?_,k2,y,A⟩;rw[a7T] at hx;rcases hx with rfl | hx
   ·exact .inl ⟨i,by simp only; rw[M]; exact k2 _ rfl⟩
   ·exact k1 x hx
  ·subst i;obtain⟨rs,Q,S,W,U,J⟩:=h.frz 0 rfl;have V:aN (H.frz q s rs) B L:=by
    have K:(B.map fun b=>(b.1,b.2.frz q s rs))=B:=by
     conv=>rhs; rw[← List.map_id B]
     refine bbB fun b N=>?_;rw[hB b N q s rs]; rfl
    rw[K] at J;have:=J;simp only[List.eraseIdx_cons_zero] at this
    rwa [c q s rs] at this
   obtain⟨φ,d,k1,k2,y,A⟩:=aN.giveUp L V (fun x hx=>l x (by simp[hx])) hB;refine⟨fun u=>φ (PV.dE q s rs u),d,fun x hx=>?_,fun u E=>?_,y,fun cs R p=>?_⟩
   ·rw[a7T] at hx;rcases hx with rfl | hx
    ·simp only;rw[S];exact .inr (k2 _ rfl)
    ·obtain⟨j,O⟩:=List.mem_iff_getElem?.1 hx;have:=U (j+1) x Om (by simpa using O);simp only;rw[this];exact k1 x hx
   ·simp only;rw[jp E,k2 u E]
   ·refine .step Q ?_;have e:PV.frz q s rs (.agg cs)=.agg (cs.map (PV.dE q s rs)):=rfl;rw[e];refine A _ R ?_;rw[List.map_map];exact p
theorem Ap {K:bR} {α:Type} {c:α→PF} {Hs:α→PH} {d:α→Prop} {m:α→Nat} {n q s:Nat} {rs:List (List PV)} (a:α) (u:H q=some (.rows s rs)) (e:d a) (p:m a<n) (i:(c a).le (F.frz q s rs)) (l:(Hs a).le (H.frz q s rs)):fJ c Hs d m n K .normal F H :=
 ⟨a,_,_,.step q u (.refl _ _),e,p,i,l⟩
end
structure AU (C:Ctx):Prop extends OA C where
 int:∀ n:Int,dB n→aH C 47 [.int .i64 n] .nil (aF (.agg (mkT n 1).cells))
 itoa:∀ n:Nat,n<100→aH C 195 [.int .i64 n] .nil (aF (.str (bZ n)))
 next:∀ (l:List Nat) (v:PV),Tp l v→∀ (o n a:Nat),n≤1000000→a≤l.length→aH C 4 [.ptr o 2 0 0,.int .i64 n] (PH.nil.set o (bN v a)) (fv l v o n a)
section
variable {C:Ctx} {F:PF} {H:PH} {l:List Nat} {v:PV} {o a:Nat}
theorem dM (e:AU C) (T:Tp l v) {n:Nat} {args:List aP} {d:Option Nat} {K:PF→PH→Prop} (q:n≤1000000) (i:a≤l.length) (c:aP.evs F args=some [.ptr o 2 0 0,.int .i64 n]) (u:H o=some (bN v a))
  (p:K (F.put d (.int .i64 ((aG l n a).1:Nat))) (H.set o (bN v (aG l n a).2))):iV C 4 args [] d K F H :=
 mQ (e.next l v T o n a q i) u c p
end
def aNM (l:List Nat) (v:PV) (o a:Nat) (r:PV) (H:PH):Prop:=r=.agg (fH l a).1.cells∧H=PH.nil.set o (bN v (fH l a).2)
theorem tY (l:List Nat) {a:Nat} (h:a≤l.length):(fH l a).2≤l.length:=bT l 8 (bT l 6 h)
theorem On {C:Ctx} (d:AU C) {l:List Nat} {v:PV} (T:Tp l v) (o a:Nat) (u:a≤l.length):JI.wp C (aV Hd.res (aNM l v o a)) (PF.args [.ptr o 2 0 0]) (PH.nil.set o (bN v a)):=by
 simp only[go_sem,JI,Oo,Hd];refine aR fun p K=>?_;have x:¬ p=o:=(iU.1 K).1;have c:¬ o=p:=fun h=>x h.symm;have M:=cJ l (show 0<6 by decide) a;have a1:=bT l 6 u;simp only[go_sem,Oq];refine dM d T (o:=o) (n:=6) (a:=a) (by decide) u rfl (by simp only[go_sem,c]) ?_;have B:IntKind.i64.wrap (1+((aG l 6 a).1:Int))=((1+(aG l 6 a).1:Nat):Int):=by rw[wrap_i64 Om Om]; omega
 simp only[go_sem,B];have N:=cJ l (show 0<8 by decide) (aG l 6 a).2;refine dM d T (o:=o) (n:=8) (a:=(aG l 6 a).2) (by decide) a1 rfl Sq ?_;have E:IntKind.i64.wrap (1+((aG l 8 (aG l 6 a).2).1:Int))=((1+(aG l 8 (aG l 6 a).2).1:Nat):Int):=by rw[wrap_i64 Om Om]; omega
 simp only[go_sem,E];refine aA (d.fmk ((1+(aG l 6 a).1:Nat):Int) ((1+(aG l 8 (aG l 6 a).2).1:Nat):Int) (by unfold dB; omega) (by unfold dB; omega)) rfl ?_;have J:¬ ((1+(aG l 8 (aG l 6 a).2).1:Nat):Int)=0:=Om;unfold vZ;rw[if_neg J];simp only[go_sem];refine aR fun q w=>?_;have y:¬ q=o:=(iU.1 w).1;have A:¬ q=p:=(iU.1 (iU.1 w).2).1;have i:¬ p=q:=fun h=>A h.symm;have e:¬ o=q:=fun h=>y h.symm;simp only[go_sem,Or,x,c,y,A,i];refine bA (vs:=[.agg (fH l a).1.cells]) (.inr rfl) (PH.nil.set o (bN v (fH l a).2)) ?_ (PH.aK a_ ?_) ⟨rfl,rfl⟩
 ·simp only[go_sem];rfl
 ·simp only[go_sem,c,e];rfl
structure fp (C:Ctx):Prop extends AU C where
 frac:∀ (l:List Nat) (v:PV),Tp l v→∀ (o a:Nat),a≤l.length→aH C 1 [.ptr o 2 0 0] (PH.nil.set o (bN v a)) (aNM l v o a)
abbrev fW (l:List RF):List (List PV):=l.map RF.cells
theorem wW (l:List RF) (x:RF):fW l++[x.cells]=fW (l++[x]):=by simp[fW]
theorem HW (l:List RF):Flat (fW l):=Flat.map l fun x c d q s rs=>by
 simp only[RF.cells,eH,a7T,a8B,or_false] at d;rcases d with rfl | rfl | rfl<;>rfl
theorem mF (l:List RF):(fW l).length=l.length:=by simp[fW]
theorem Tp.frz {l:List Nat} {v:PV} (T:Tp l v) (q s:Nat) (rs:List (List PV)):PV.dE q s rs v=v:=by
 rcases T.seen with ⟨_,rfl⟩ | rfl<;>rfl
theorem GF (l:List Nat) {a:Nat} (h:a≤l.length):∀ k,(kC l a k).2≤l.length
 | 0=>h
 | k+1=>tY l (GF l h k)
theorem Rv (l:List Nat) (a:Nat):∀ k,(kC l a k).1.length=k
 | 0=>rfl
 | k+1=>by simp only[kC,a7O,a7S,Rv l a k]
def aUN (l:List Nat) (v:PV) (o a k:Nat) (r:PV) (H:PH):Prop:=r=frs (kC l a k).1∧H=PH.nil.set o (bN v (kC l a k).2)
def amD (o:Nat) (m:Nat) (w:PV) (i:Nat):PF:=((((PF.nil.set 0 (.ptr o 2 0 0)).set 1 (.int .i64 m)).set 5 (w)).set 6 (.int .i64 i))
theorem abG {C:Ctx} (J:fp C) {l:List Nat} {v:PV} (T:Tp l v) (o a m:Nat) (S:m≤1000) (N:a≤l.length):QV.wp C (aV amC.res (aUN l v o a (max m 1))) (PF.args [.ptr o 2 0 0,.int .i64 m]) (PH.nil.set o (bN v a)):=by
 have p:∀ i:Nat,((i:Int)<(if (m:Int)<1 then 1 else (m:Int)))↔i<max m 1:=by intro i;split<;>omega
 simp only[go_sem,QV,abH,abI,abJ,amC];have K:aN (PH.nil.set o (bN v a)) [(o,bN v a)] [(.aB,3,fW [])]:=(aN.nil.new (H:=PH.nil) rfl (bN v a)).nB 3;refine wp_loop (α:=Nat × PV × PH) (fun t=>amD o m t.2.1 t.1) (fun t=>t.2.2) (fun t=>t.1≤max m 1∧aN t.2.2 [(o,bN v (kC l a t.1).2)] [(t.2.1,3,fW (kC l a t.1).1)]) (fun t=>max m 1-t.1) (0,.aB,PH.nil.set o (bN v a)) ⟨a7N _,K⟩ ?_ b_ ?_
 ·unfold amD;exact Lq
 rintro⟨k,w,R⟩ ⟨O,d⟩;simp only at O d ⊢;simp only[go_sem,abF,abK,amD];have A:=GF l N k;have c:=Rv l a k;by_cases hlt:k<max m 1
 ·have y:=(p k).2 hlt;simp only[go_sem,y,abL];refine mQ (J.frac l v T o _ A) (d.at 0 rfl) rfl ?_;have x:=d.set 0 rfl (bN v (fH l (kC l a k).2).2);have u:(1:Nat)*3≤16777216:=by decide
  simp only[go_sem,u];refine x.append 0 (src:=[(fH l (kC l a k).2).1.cells]) rfl rfl (by unfold roomFor; rw[mF,c]; simp only[a7S,maxLen]; omega) fun Q H' E _=>?_;rw[wW] at E;simp only[go_sem,abM,wZz k];refine aD (k+1,Q,H') ⟨hlt,E⟩ (by simp only; omega) ?_ b_;exact Lq
 ·have y:¬ ((k:Int)<(if (m:Int)<1 then 1 else (m:Int))):=fun h=>hlt ((p k).1 h);have e:k=max m 1:=Om;subst e;simp only[go_sem,y,abN];have B:fW (kC l a (max m 1)).1≠[]:=fun h=>by have:=congrArg List.length h;rw[mF,c] at this;simp at this
  rcases d.own 0 rfl with ⟨M,_⟩ | ⟨q,rs,rfl,_⟩
  ·exact absurd M B
  obtain⟨rs,g1,g2,g3,-,g4⟩:=d.frz 0 rfl;refine yP (vs:=[.osl q 3 0 (fW (kC l a (max m 1)).1).length]) (.inr rfl) rfl (.step g1 (.done (H2:=PH.nil.set o (bN v (kC l a (max m 1)).2)) ?_ (PH.aK a_ ?_)))
  ·rw[bO,g3];exact⟨rfl,rfl⟩
  ·have:=g4.at 0 rfl;rw[this];simp only[cG.frz,a8U,a9P,T.frz];rfl
theorem O9 {C:Ctx} (d:AU C) (s:List UInt8) (n:Nat) (p:s.length≤100) (e:n<100):JN.wp C (aV He.res (aF (.str (s++bZ n)))) (PF.args [.str s,.int .i64 n]) .nil:=by
 have i:(bZ n).length≤2:=by
  unfold bZ;rw[Lib.decDigits];split
  ·simp
  ·rw[Lib.decDigits,dif_pos Om]; simp
 have c:¬ (((s.length+(bZ n).length:Nat):Int)>9223372036854775807):=Om;simp only[go_sem,JN,Pa,Pb,He];refine aA (d.itoa n e) rfl ?_;simp only[go_sem,ajA,c];refine aQ (.inr rfl) rfl ?_;rfl
structure qT (C:Ctx):Prop extends fp C where
 rep:∀ (l:List Nat) (v:PV),Tp l v→∀ (o a m:Nat),m≤1000→a≤l.length→aH C 5 [.ptr o 2 0 0,.int .i64 m] (PH.nil.set o (bN v a)) (aUN l v o a (max m 1))
 name:∀ (s:List UInt8) (n:Nat),s.length≤100→n<100→aH C 29 [.str s,.int .i64 n] .nil (aF (.str (s++bZ n)))
theorem aDU (l:List Nat) (i j:Nat) {a:Nat} (h:a≤l.length):(jA l i j a).2≤l.length:=by
 unfold jA;split
 ·exact tY l h
 ·split
  ·exact h
  ·simp only;split
   ·exact tY l (bT l 3 h)
   ·exact bT l 3 h
theorem wx (l:List Nat) (i:Nat) {a:Nat} (h:a≤l.length):∀ j,(dS l i a j).2≤l.length
 | 0=>h
 | j+1=>aDU l i j (wx l i h j)
theorem dg (l:List Nat) (i a:Nat):∀ j,(dS l i a j).1.length=j
 | 0=>rfl
 | j+1=>by simp only[dS,a7O,a7S,dg l i a j]
theorem be (l:List Nat) (n i:Nat) (s:CG) (h:s.a≤l.length):(dR l n i s).2≤l.length∧(dR l n i s).1≤s.left:=by
 unfold dR;split
 ·exact⟨bT l _ h,by have:=cJ l (Om:0<s.left+1) s.a; omega⟩
 ·exact⟨h,a7M _⟩
theorem Kp (l:List Nat) (n i:Nat) {a:Nat} (h:a≤l.length):(eY l n i a).2≤l.length:=by
 unfold eY;simp only;split
 ·exact bT l 3 (tY l h)
 ·exact tY l h
theorem u1 (l:List Nat) (n:Nat) {a:Nat} (h:a≤l.length):∀ i,(fS l n a i).a≤l.length∧(fS l n a i).left≤8∧(fS l n a i).start.length=i∧(fS l n a i).exit.length=i∧(fS l n a i).a6A.length=i
 | 0=>⟨h,a7M _,rfl,rfl,rfl⟩
 | i+1=>by
  obtain⟨c,q,d,e,h5⟩:=u1 l n h i;have p:=be l n i (fS l n a i) c;refine⟨?_,?_,?_,?_,?_⟩
  ·exact wx l i (Kp l n i p.1) n
  ·simp only[fS]; omega
  ·simp only[fS,a7O,a7S,d]
  ·simp only[fS,a7O,a7S,e]
  ·simp only[fS,a7O,a7S,h5]
abbrev uI (l:List (List RF)):List (List PV):=l.map fun r=>[frs r]
theorem Cs (l:List (List RF)):Flat (uI l):=Flat.map l fun x c d q s rs=>by
 simp only[a7T,a8B,or_false] at d;subst d; rfl
abbrev bc (c d e:PV):cG:=.rows 4 [[.str [],c,d,e]]
abbrev Ny:cG:=.rows 4 [[.str [],.aB,.aB,.aB]]
def fK (o o4 o6 n left i:Nat) (w:PV) (j:Nat):PF:=((((((((PF.nil.set 0 (.ptr o 2 0 0)).set 4 (.ptr o4 4 0 0)).set 5 (.int .i64 n)).set 6 (.ptr o6 4 0 0)).set 7 (.int .i64 left)).set 8 (.int .i64 i)).set 13 (w)).set 14 (.int .i64 j))
def cX (o o4 o6 n left i:Nat):PF:=((((((PF.nil.set 0 (.ptr o 2 0 0)).set 4 (.ptr o4 4 0 0)).set 5 (.int .i64 n)).set 6 (.ptr o6 4 0 0)).set 7 (.int .i64 left)).set 8 (.int .i64 i))
theorem bj {l:List RF} (h:l.length≤1000):roomFor (fW l).length 1 56:=by
 unfold roomFor;rw[mF];simp only[maxLen]; omega
theorem aGY {C:Ctx} (V:qT C) {l:List Nat} {v:PV} (T:Tp l v) (o o4 o6 n left i a:Nat) (ha:a≤l.length) (hn:n≤100) (hi:i<n) (B:List BX) (L:List LI) (K:bR) (F:PF) (H:PH)
  (hF:(fK o o4 o6 n left i .aB 0).le F) (O:aN H ((o,bN v a)::B) L)
  (hK:∀ w d H',(fK o o4 o6 n left i w n).le d→aN H' ((o,bN v (dS l i a n).2)::B) (L++[(w,3,fW (dS l i a n).1)])→K (.exit 2) d H') :
  aC.wp C (.loop JL) K F H:=by
 refine wp_loop (α:=Nat × PV × PH) (fun t=>fK o o4 o6 n left i t.2.1 t.1) (fun t=>t.2.2) (fun t=>t.1≤n∧aN t.2.2 ((o,bN v (dS l i a t.1).2)::B) (L++[(t.2.1,3,fW (dS l i a t.1).1)])) (fun t=>n-t.1) (0,.aB,H) ⟨a7N _,O.nB 3⟩ hF b_ ?_;rintro⟨j,w,H0⟩ ⟨hj,O⟩;simp only at hj O ⊢;have N:=wx l i ha j;have δ:=dg l i a j;have e1:IntKind.i64.wrap ((i:Int)+1)=((i+1:Nat):Int):=cZ Om;simp only[go_sem,JL,O3,fK];by_cases hlt:j<n
 ·have A:(j:Int)<(n:Nat):=Om;simp only[go_sem,A,O4];refine aA (V.int 0 (by unfold dB; omega)) rfl ?_;simp only[go_sem];refine aR fun p hp=>?_;have e:=O.new hp (.rows 3 [jQ.cells]);simp only[go_sem,O5,e1];have fin:∀ (d:PF) (H':PH),(fK o o4 o6 n left i w j).le d→d 15=some (.ptr p 3 0 0)→aN H' ((o,bN v (jA l i j (dS l i a j).2).2)::B++[(p,.rows 3 [(jA l i j (dS l i a j).2).1.cells])]) (L++[(w,3,fW (dS l i a j).1)]) →
    aC.wp C (.region bx) (eX 3 (gE C (aC.wp C (.region bz)) (fJ (fun (t:Nat × PV × PH)=>fK o o4 o6 n left i t.2.1 t.1) (fun t=>t.2.2) (fun t=>t.1≤n∧aN t.2.2 ((o,bN v (dS l i a t.1).2)::B) (L++[(t.2.1,3,fW (dS l i a t.1).1)])) (fun t=>n-t.1) (n-j) K))) d H':=by
   intro d H' c E Q;have f0:d 0=some (.ptr o 2 0 0):=c 0 _ (by unfold fK; simp only[go_sem]);have f4:d 4=some (.ptr o4 4 0 0):=c 4 _ (by unfold fK; simp only[go_sem]);have f5:d 5=some (.int .i64 n):=c 5 _ (by unfold fK; simp only[go_sem]);have f6:d 6=some (.ptr o6 4 0 0):=c 6 _ (by unfold fK; simp only[go_sem]);have f7:d 7=some (.int .i64 left):=c 7 _ (by unfold fK; simp only[go_sem]);have f8:d 8=some (.int .i64 i):=c 8 _ (by unfold fK; simp only[go_sem]);have f13:d 13=some w:=c 13 _ (by unfold fK; simp only[go_sem]);have f14:d 14=some (.int .i64 j):=c 14 _ (by unfold fK; simp only[go_sem]);have β:H' p=some (.rows 3 [(jA l i j (dS l i a j).2).1.cells]):=Q.box (p,.rows 3 [(jA l i j (dS l i a j).2).1.cells]) (by simp);have X:(1:Nat)*3≤16777216:=by decide
   simp only[go_sem,bx,f13,E,β,X];refine Q.append (v:=w) (s:=3) (rows:=fW (dS l i a j).1) L.length (src:=[(jA l i j (dS l i a j).2).1.cells]) (by simp) rfl (bj Om) fun w' H2 h2 _=>?_;rw[wW,baD _ _ (a7M _),baG] at h2;simp only[go_sem,bz,f14,wZz j];refine aD (α:=Nat × PV × PH) (j+1,w',H2) ⟨hlt,h2.sub (List.sublist_append_left ..) (a9K.refl _)⟩ (by simp only; omega) ?_ b_;unfold fK;exact Lq
  simp only[aC.wp,go_sem] at fin;have U:∀ x:RF,PH.set (PH.set H0 p (.rows 3 [jQ.cells])) p (.rows 3 [x.cells])=PH.set H0 p (.rows 3 [x.cells]):=fun x=>PH.set_set p _ _;have draw:∀ (d:PF) (R:PH) (a1:Nat),a1≤l.length→(fK o o4 o6 n left i w j).le d→d 15=some (.ptr p 3 0 0)→aN R ((o,bN v a1)::B++[(p,.rows 3 [jQ.cells])]) (L++[(w,3,fW (dS l i a j).1)])→jA l i j (dS l i a j).2=fH l a1→∀ K',(∀ M H2,(fK o o4 o6 n left i w j).le M→M 15=some (.ptr p 3 0 0)→aN H2 ((o,bN v (jA l i j (dS l i a j).2).2)::B++[(p,.rows 3 [(jA l i j (dS l i a j).2).1.cells])]) (L++[(w,3,fW (dS l i a j).1)])→K' M H2) →
    wpOps C bw K' d R:=by
   intro d R a1 Z c E e J K' Y;have f0:d 0=some (.ptr o 2 0 0):=c 0 _ (by unfold fK; simp only[go_sem]);simp only[go_sem,bw,f0];refine mQ (V.frac l v T o a1 Z) (e.at 0 rfl) rfl ?_;have y:aN (R.set o (bN v (fH l a1).2)) ((o,bN v (fH l a1).2)::B++[(p,.rows 3 [jQ.cells])]) (L++[(w,3,fW (dS l i a j).1)]):=e.set 0 rfl _;have γ:=y.OF;simp only[go_sem,E,γ];refine Y _ _ ?_ (by simp only[go_sem,E]) ?_
   ·have g:=fun (q:Nat) u h=>c q u h;unfold fK at g ⊢;refine d_ (d_ (d_ (d_ (d_ (d_ (d_ (d_ c_ ?_) ?_) ?_) ?_) ?_) ?_) ?_) ?_
    ·simp only[go_sem,f0]
    ·simp only[go_sem,g 4 _ rfl]
    ·simp only[go_sem,g 5 _ rfl]
    ·simp only[go_sem,g 6 _ rfl]
    ·simp only[go_sem,g 7 _ rfl]
    ·simp only[go_sem,g 8 _ rfl]
    ·simp only[go_sem,g 13 _ rfl]
    ·simp only[go_sem,g 14 _ rfl]
   ·rw[J];exact y.wz (.rows 3 [(fH l a1).1.cells])
  by_cases S:j=i+1
  ·have J:jA l i j (dS l i a j).2=fH l (dS l i a j).2:=by unfold jA; rw[if_pos S]
   simp only[go_sem,bL (Om:(j:Int)=((i+1:Nat):Int))];refine draw _ _ _ N (by unfold fK; exact Lq) rfl e J _ ?_;intro M H2 k1 k2 k3;exact fin M H2 k1 k2 k3
  ·simp only[go_sem,bF (Om:¬ (j:Int)=((i+1:Nat):Int))];by_cases W:j=i
   ·have J:jA l i j (dS l i a j).2=(jQ,(dS l i a j).2):=by unfold jA; rw[if_neg S,if_pos W]
    simp only[go_sem,cC (Om:(j:Int)=(i:Int))];exact fin _ _ (by unfold fK; exact Lq) rfl (by rw[J]; exact e)
   ·simp only[go_sem,dN (Om:¬ (j:Int)=(i:Int))];refine dM V.toAU T (o:=o) (n:=3) (a:=(dS l i a j).2) (by decide) N rfl (e.at 0 rfl) ?_;have y:aN _ ((o,bN v (aG l 3 (dS l i a j).2).2)::B++[(p,.rows 3 [jQ.cells])]) (L++[(w,3,fW (dS l i a j).1)]):=e.set 0 rfl _;by_cases c3:(aG l 3 (dS l i a j).2).1=0
    ·have J:jA l i j (dS l i a j).2=fH l (aG l 3 (dS l i a j).2).2:=by unfold jA; rw[if_neg S,if_neg W]; simp only[c3,if_true]
     simp only[go_sem,bL (show (((aG l 3 (dS l i a j).2).1:Nat):Int)=0 by omega)];refine draw _ _ _ (bT l 3 N) (by unfold fK; exact Lq) rfl y J _ ?_;intro M H2 k1 k2 k3;exact fin M H2 k1 k2 k3
    ·have J:jA l i j (dS l i a j).2=(jQ,(aG l 3 (dS l i a j).2).2):=by unfold jA; rw[if_neg S,if_neg W]; simp only[c3,if_false]
     simp only[go_sem,bF (show ¬ (((aG l 3 (dS l i a j).2).1:Nat):Int)=0 by omega)];exact fin _ _ (by unfold fK; exact Lq) rfl (by rw[J]; exact y)
 ·have A:¬ (j:Int)<(n:Nat):=Om;have:j=n:=Om;subst this;simp only[go_sem,A];exact hK w _ _ (by unfold fK; exact Lq) O
abbrev rC (o o4 o6:Nat) (v c d e:PV) (a:Nat):List BX:=[(o,bN v a),(o4,Ny),(o6,bc c d e)]
abbrev uU (s:CG) (c d e:PV):List LI:=[(c,3,fW s.start),(d,1,uI s.a6A),(e,3,fW s.exit)]
theorem auA {C:Ctx} (E:qT C) {l:List Nat} {v:PV} (T:Tp l v) (o o4 o6 n i:Nat) (s:CG) (A:s.a≤l.length) (S:s.left≤8) (U:n≤100) (hi:i<n) (B:List BX) (L:List LI) (rest:aC) (K:bR) (F:PF) (H:PH)
  (d:(cX o o4 o6 n s.left i).le F) (w:aN H ((o,bN v s.a)::B) L)
  (p:∀ q H',(cX o o4 o6 n (s.left-(dR l n i s).1) i).le q→q 9=some (.int .i64 ((dR l n i s).1:Nat))→aN H' ((o,bN v (dR l n i s).2)::B) L→aC.wp C rest K q H') :
  aC.wp C (.seq (.region u9) (.seq (.seq (.region va) (.cond (.tmp 29) (.region vb) .skip)) (.seq (.region VA) rest))) K F H:=by
 have f0:F 0=some (.ptr o 2 0 0):=d 0 _ (by unfold cX; simp only[go_sem]);have Q:F 4=some (.ptr o4 4 0 0):=d 4 _ (by unfold cX; simp only[go_sem]);have N:F 5=some (.int .i64 n):=d 5 _ (by unfold cX; simp only[go_sem]);have f6:F 6=some (.ptr o6 4 0 0):=d 6 _ (by unfold cX; simp only[go_sem]);have f7:F 7=some (.int .i64 s.left):=d 7 _ (by unfold cX; simp only[go_sem]);have O:F 8=some (.int .i64 i):=d 8 _ (by unfold cX; simp only[go_sem]);have J:IntKind.i64.wrap ((i:Int)+1)=((i+1:Nat):Int):=cZ Om;have R:=(be l n i s A).2;have e:IntKind.i64.wrap ((s.left:Int)-((dR l n i s).1:Int))=((s.left-(dR l n i s).1:Nat):Int):=by rw[wrap_i64 Om Om]; omega
 simp only[go_sem,u9,f7,va,O,N,J];by_cases c:i+1<n
 ·have u:((i+1:Nat):Int)<(n:Nat):=Om;have y:dR l n i s=aG l (s.left+1) s.a:=by unfold dR; rw[if_pos c]
  have M:IntKind.i64.wrap ((s.left:Int)+1)=((s.left+1:Nat):Int):=cZ Om;rw[y] at p e;simp only[go_sem,u,vb,f0,f7,M];refine dM E.toAU T (o:=o) (n:=s.left+1) (a:=s.a) Om A rfl w.aUV ?_;have x:=w.aSK (bN v (aG l (s.left+1) s.a).2);simp only[go_sem,VA,f7,e];refine p _ _ ?_ rfl x;unfold cX;exact Lq
 ·have u:¬ ((i+1:Nat):Int)<(n:Nat):=Om;have y:dR l n i s=(s.left,s.a):=by unfold dR; rw[if_neg c]
  rw[y] at p e;simp only at p e;simp only[go_sem,u,VA,f7,e];refine p _ _ ?_ rfl w;unfold cX;exact Lq
theorem alQ {C:Ctx} (O:qT C) {l:List Nat} {v:PV} (o o4 o6 n i left k a:Nat) (hk:k≤8) (hi:i<n) (hn:n≤100) (s:CG) (hs:s.start.length=i) (N u w:PV) (B:List BX) (rest:aC) (K:bR) (F:PF) (H:PH)
  (e:(cX o o4 o6 n left i).le F) (Q:F 9=some (.int .i64 k)) (V:aN H (rC o o4 o6 v N u w a++B) (uU s N u w))
  (W:∀ d M H' B',(cX o o4 o6 n left i).le M→aN H' (rC o o4 o6 v d u w a++B') (uU { s with start:=s.start++[mkT (k:Nat) 8] } d u w)→aC.wp C rest K M H') :
  aC.wp C (.seq (.region bk) (.seq (.region bn) rest)) K F H:=by
 have f0:F 0=some (.ptr o 2 0 0):=e 0 _ (by unfold cX; simp only[go_sem]);have Z:F 4=some (.ptr o4 4 0 0):=e 4 _ (by unfold cX; simp only[go_sem]);have f5:F 5=some (.int .i64 n):=e 5 _ (by unfold cX; simp only[go_sem]);have f6:F 6=some (.ptr o6 4 0 0):=e 6 _ (by unfold cX; simp only[go_sem]);have f7:F 7=some (.int .i64 left):=e 7 _ (by unfold cX; simp only[go_sem]);have f8:F 8=some (.int .i64 i):=e 8 _ (by unfold cX; simp only[go_sem]);simp only[go_sem,bk,Q];refine aA (O.fmk (k:Int) 8 (by unfold dB; omega) (by unfold dB; omega)) rfl ?_;unfold vZ;rw[if_neg (by decide)];simp only[go_sem];refine aR fun p X=>?_;have c:=V.new X (.rows 3 [(mkT (k:Nat) 8).cells]);have R:=c.at 2 rfl;have S:=c.OF;have A:(1:Nat)*3≤16777216:=by decide
 have Y:∀ y,PH.set (PH.set H p (.rows 3 [[PV.bool false,PV.aB,PV.aB]])) p y=PH.set H p y:=fun y=>PH.set_set p _ _;simp only[go_sem,bn,f6,R,S,A];refine c.append 0 (src:=[(mkT (k:Nat) 8).cells]) rfl rfl (bj Om) fun d H2 E J=>?_;rw[wW] at E J; rw[mF] at J;obtain⟨q,rfl⟩:=J (by simp);have x:=E.at 2 rfl;simp only[go_sem,x,a7T,a8B,or_false,forall_eq];have U:=E.set 2 rfl (bc (.osl q 3 0 (s.start++[mkT (k:Nat) 8]).length) u w);refine W _ _ _ (B++[(p,.rows 3 [(mkT (k:Nat) 8).cells])]) ?_ U;unfold cX;exact Lq
theorem atZ {C:Ctx} (O:qT C) {l:List Nat} {v:PV} (T:Tp l v) (o o4 o6 n i left a:Nat) (ha:a≤l.length) (hi:i<n) (hn:n≤100) (s:CG) (hs:s.exit.length=i) (u w M:PV) (B:List BX) (rest:aC) (K:bR) (F:PF) (H:PH)
  (J:(cX o o4 o6 n left i).le F) (hH:aN H (rC o o4 o6 v u w M a++B) (uU s u w M))
  (hK:∀ E d H' B',(cX o o4 o6 n left i).le d→aN H' (rC o o4 o6 v u w E (eY l n i a).2++B') (uU { s with exit:=s.exit++[(eY l n i a).1] } u w E)→aC.wp C rest K d H') :
  aC.wp C (.seq (.region bo) (.seq (.seq (.region br) (.cond (.tmp 58) (.region bs) .skip)) (.seq (.region JM) rest))) K F H:=by
 have f0:F 0=some (.ptr o 2 0 0):=J 0 _ (by unfold cX; simp only[go_sem]);have f4:F 4=some (.ptr o4 4 0 0):=J 4 _ (by unfold cX; simp only[go_sem]);have f5:F 5=some (.int .i64 n):=J 5 _ (by unfold cX; simp only[go_sem]);have f6:F 6=some (.ptr o6 4 0 0):=J 6 _ (by unfold cX; simp only[go_sem]);have f7:F 7=some (.int .i64 left):=J 7 _ (by unfold cX; simp only[go_sem]);have f8:F 8=some (.int .i64 i):=J 8 _ (by unfold cX; simp only[go_sem]);have e1:IntKind.i64.wrap ((i:Int)+1)=((i+1:Nat):Int):=cZ Om;simp only[go_sem,bo,f0];refine mQ (O.frac l v T o a ha) (hH.at 0 rfl) rfl ?_;have X:=hH.set 0 rfl (bN v (fH l a).2);simp only[go_sem];refine aR fun p hp=>?_;have y:=X.new hp (.rows 3 [(fH l a).1.cells]);simp only[go_sem,br,f8,f5,e1];have fin:∀ (d:PF) (H':PH),(cX o o4 o6 n left i).le d→d 12=some (.ptr p 3 0 0)→aN H' (rC o o4 o6 v u w M (eY l n i a).2++B++[(p,.rows 3 [(eY l n i a).1.cells])]) (uU s u w M)→wpOps C JM (aC.wp C rest K) d H':=by
  intro d H' e R x;have q0:d 0=some (.ptr o 2 0 0):=e 0 _ (by unfold cX; simp only[go_sem]);have q4:d 4=some (.ptr o4 4 0 0):=e 4 _ (by unfold cX; simp only[go_sem]);have q5:d 5=some (.int .i64 n):=e 5 _ (by unfold cX; simp only[go_sem]);have q6:d 6=some (.ptr o6 4 0 0):=e 6 _ (by unfold cX; simp only[go_sem]);have q7:d 7=some (.int .i64 left):=e 7 _ (by unfold cX; simp only[go_sem]);have q8:d 8=some (.int .i64 i):=e 8 _ (by unfold cX; simp only[go_sem]);have g6:=x.at 2 rfl;have U:=x.OF;have V:(1:Nat)*3≤16777216:=by decide
  simp only[go_sem,JM,q6,g6,R,U,V];refine x.append 2 (src:=[(eY l n i a).1.cells]) rfl rfl (bj Om) fun E H2 W Z=>?_;rw[wW] at W Z; rw[mF] at Z;obtain⟨q,rfl⟩:=Z (by simp);have S:=W.at 2 rfl;simp only[go_sem,S,a7T,a8B,or_false,forall_eq];have h3:=W.set 2 rfl (bc u w (.osl q 3 0 (s.exit++[(eY l n i a).1]).length));refine hK _ _ _ (B++[(p,.rows 3 [(eY l n i a).1.cells])]) ?_ h3;unfold cX;exact Lq
 by_cases c:i+1<n
 ·have Q:((i+1:Nat):Int)<(n:Nat):=Om;have Y:=tY l ha;simp only[go_sem,Q,f0];refine dM O.toAU T (o:=o) (n:=3) (a:=(fH l a).2) (by decide) Y rfl (y.at 0 rfl) ?_;have A:=y.set 0 rfl (bN v (aG l 3 (fH l a).2).2);by_cases c3:(aG l 3 (fH l a).2).1=0
  ·have N:eY l n i a=(jQ,(aG l 3 (fH l a).2).2):=by unfold eY; simp only[if_pos c,c3,if_true]
   have U:=aN.OF (B:=rC o o4 o6 v u w M (aG l 3 (fH l a).2).2++B) A;simp only[go_sem,bL (show (((aG l 3 (fH l a).2).1:Nat):Int)=0 by omega),bs];refine aA (O.int 0 (by unfold dB; omega)) rfl ?_;simp only[go_sem,U];refine fin _ _ ?_ rfl ?_
   ·unfold cX;exact Lq
   ·rw[N];exact aN.wz (B:=rC o o4 o6 v u w M (aG l 3 (fH l a).2).2++B) A (.rows 3 [jQ.cells])
  ·have N:eY l n i a=((fH l a).1,(aG l 3 (fH l a).2).2):=by unfold eY; simp only[if_pos c,c3,if_false]
   simp only[go_sem,bF (show ¬ (((aG l 3 (fH l a).2).1:Nat):Int)=0 by omega)];refine fin _ _ ?_ rfl ?_
   ·unfold cX;exact Lq
   ·rw[N];exact A
 ·have Q:¬ ((i+1:Nat):Int)<(n:Nat):=Om;have N:eY l n i a=fH l a:=by unfold eY; simp only[if_neg c]
  simp only[go_sem,Q];refine fin _ _ ?_ rfl ?_
  ·unfold cX;exact Lq
  ·rw[N];exact y
def aDC (l:List Nat) (v:PV) (o dZ a:Nat) (r:PV) (H:PH):Prop:=r=.agg (qQ l dZ a).1.cells∧H=PH.nil.set o (bN v (qQ l dZ a).2)
theorem avO {l:List (List RF)} (h:l.length≤1000):roomFor (uI l).length 1 24:=by
 unfold roomFor;simp only[a7G,maxLen]; omega
theorem avP (l:List (List RF)) (x:List RF):uI l++[[frs x]]=uI (l++[x]):=by simp[uI]
theorem alP {C:Ctx} (Z:qT C) {l:List Nat} {v:PV} (T:Tp l v) (o o4 o6 n left i a:Nat) (ha:a≤l.length) (hn:n≤100) (hi:i<n) (s:CG) (hs:s.a6A.length=i) (u M A:PV) (B:List BX) (K:bR) (F:PF) (H:PH)
  (E:(cX o o4 o6 n left i).le F) (hH:aN H (rC o o4 o6 v u M A a++B) (uU s u M A))
  (hK:∀ y x U H' B',(cX o o4 o6 n left i).le U→(∃ q,x=.osl q 3 0 n)→aN H' (rC o o4 o6 v u y A (dS l i a n).2++B') [(u,3,fW s.start),(y,1,uI s.a6A++[[x]]),(A,3,fW s.exit),(x,3,fW (dS l i a n).1)]→K .normal U H') :
  aC.wp C (.seq (.region bu) (.seq (.seq (.region bv) (.block 2 (.loop JL))) (.region b8))) K F H:=by
 have f0:F 0=some (.ptr o 2 0 0):=E 0 _ (by unfold cX; simp only[go_sem]);have f4:F 4=some (.ptr o4 4 0 0):=E 4 _ (by unfold cX; simp only[go_sem]);have f5:F 5=some (.int .i64 n):=E 5 _ (by unfold cX; simp only[go_sem]);have f6:F 6=some (.ptr o6 4 0 0):=E 6 _ (by unfold cX; simp only[go_sem]);have f7:F 7=some (.int .i64 left):=E 7 _ (by unfold cX; simp only[go_sem]);have f8:F 8=some (.int .i64 i):=E 8 _ (by unfold cX; simp only[go_sem]);simp only[go_sem,bu,bv];refine aGY (C:=C) Z T o o4 o6 n left i a ha hn hi ([(o4,Ny),(o6,bc u M A)]++B) (uU s u M A) _ _ H ?_ hH ?_
 ·unfold fK
  (repeat' (first|exact c_|refine d_ ?_ ?_))<;>first|(simp only[go_sem,f0,f4,f5,f6,f7,f8]<;>rfl)|rfl
 intro w e H1 c p;have d:=dg l i a n;have hw:∃ q,w=.osl q 3 0 n:=by
  rcases p.own (v:=w) 3 rfl with ⟨J,_⟩ | ⟨q,rs,J,_⟩
  ·have:=congrArg List.length J;rw[mF,d] at this;simp at this; omega
  ·rw[mF,d] at J;exact⟨q,J⟩
 obtain⟨q,rfl⟩:=hw;have g0:e 0=some (.ptr o 2 0 0):=c 0 _ (by unfold fK; simp only[go_sem]);have g4:e 4=some (.ptr o4 4 0 0):=c 4 _ (by unfold fK; simp only[go_sem]);have g5:e 5=some (.int .i64 n):=c 5 _ (by unfold fK; simp only[go_sem]);have V:e 6=some (.ptr o6 4 0 0):=c 6 _ (by unfold fK; simp only[go_sem]);have g7:e 7=some (.int .i64 left):=c 7 _ (by unfold fK; simp only[go_sem]);have g8:e 8=some (.int .i64 i):=c 8 _ (by unfold fK; simp only[go_sem]);have O:e 13=some (.osl q 3 0 n):=c 13 _ (by unfold fK; simp only[go_sem]);have b6:=p.at 2 rfl;have Q:(1:Nat)*1≤16777216:=by decide
 simp only[go_sem,b8,V,b6,O,Q,a7T,a8B,or_false,forall_eq];refine p.append 1 (src:=[[.osl q 3 0 n]]) rfl Sq (avO Om) fun y H2 W S=>?_;obtain⟨Y,rfl⟩:=S (by simp);have N:=W.at 2 rfl;simp only[go_sem,N,a7T,a8B,or_false,forall_eq];have X:=W.set 2 rfl (bc u (.osl Y 1 0 (uI s.a6A++[[PV.osl q 3 0 n]]).length) A);have R:(uI s.a6A++[[(PV.osl q 3 0 n:PV)]]).length=s.a6A.length+1:=by simp
 rw[R] at X ⊢;refine hK (.osl Y 1 0 (s.a6A.length+1)) (.osl q 3 0 n) _ _ B ?_ ⟨q,rfl⟩ X;unfold cX
 (repeat' (first|exact c_|refine d_ ?_ ?_))<;>first|(simp only[go_sem,g0,g4,g5,V,g7,g8]<;>rfl)|rfl
theorem aaU {C:Ctx} (J:qT C) {l:List Nat} {v:PV} (T:Tp l v) (o dZ a:Nat) (hm:0<dZ) (γ:dZ≤50) (ha:a≤l.length):QT.wp C (aV alO.res (aDC l v o dZ a)) (PF.args [.ptr o 2 0 0,.int .i64 dZ]) (PH.nil.set o (bN v a)):=by
 have h0:aN (PH.nil.set o (bN v a)) [(o,bN v a)] []:=aN.nil.new (H:=PH.nil) rfl (bN v a);simp only[go_sem,QT,aaV,alO];refine aR fun o4 Z=>?_;have F:=h0.new Z Ny;simp only[go_sem,aaW];refine dM J.toAU T (o:=o) (n:=dZ) (a:=a) Om ha Sq (F.at 0 rfl) ?_;have h2:=F.set 0 rfl (bN v (aG l dZ a).2);have hN:=cJ l hm a;have X:=bT l dZ ha;have e1:IntKind.i64.wrap (1+((aG l dZ a).1:Int))=((1+(aG l dZ a).1:Nat):Int):=by rw[wrap_i64 Om Om]; omega
 have Y:∀ s:CG,s=fS l (1+(aG l dZ a).1) (aG l dZ a).2 (1+(aG l dZ a).1)→qQ l dZ a=(⟨[],s.start,s.a6A,s.exit⟩,s.a):=fun s hs=>by rw[hs]; rfl
 have W:∀ r H,aDC l v o dZ a r H↔r=.agg (qQ l dZ a).1.cells∧H=PH.nil.set o (bN v (qQ l dZ a).2):=fun _ _=>Iff.rfl;generalize hn:1+(aG l dZ a).1=n at *
 generalize hb:(aG l dZ a).2=b at *
 have δ:0<n:=Om;have c:n≤100:=Om;simp only[go_sem,e1,aaX];refine aR fun o6 β=>?_;have h3:=((h2.new β Ny).nB 3).nB 1;have h4:=h3.nB 3;simp only[go_sem,aaY,aaZ];refine wp_loop (α:=Nat × PV × PV × PV × PH) (fun t=>cX o o4 o6 n (fS l n b t.1).left t.1) (fun t=>t.2.2.2.2)
  (fun t=>t.1≤n∧aN t.2.2.2.2 (rC o o4 o6 v t.2.1 t.2.2.1 t.2.2.2.1 (fS l n b t.1).a) (uU (fS l n b t.1) t.2.1 t.2.2.1 t.2.2.2.1)) (fun t=>n-t.1) (0,.aB,.aB,.aB,_) ⟨a7N _,h4⟩ ?_ b_ ?_
 ·unfold cX
  (repeat' (first|exact c_|refine d_ ?_ ?_))<;>first|(simp only[go_sem,fS]<;>rfl)|rfl
 rintro⟨i,w1,K,M,H0⟩ ⟨hi,B⟩;simp only at hi B ⊢;obtain⟨k1,k2,k3,k4,k5⟩:=u1 l n X i;simp only[go_sem,O2,abA,cX];by_cases hlt:i<n
 ·have y:(i:Int)<(n:Nat):=Om;have A:fS l n b (i+1)=⟨(fS l n b i).start++[mkT ((dR l n i (fS l n b i)).1:Nat) 8],(fS l n b i).exit++[(eY l n i (dR l n i (fS l n b i)).2).1],(fS l n b i).a6A++[(dS l i (eY l n i (dR l n i (fS l n b i)).2).2 n).1],(fS l n b i).left-(dR l n i (fS l n b i)).1,(dS l i (eY l n i (dR l n i (fS l n b i)).2).2 n).2⟩:=rfl;have kl:=be l n i (fS l n b i) k1;have ke:=Kp l n i kl.1;generalize hs:fS l n b i=s at *
  simp only[go_sem,y];refine auA (C:=C) J T o o4 o6 n i s k1 k2 c hlt [(o4,Ny),(o6,bc w1 K M)] (uU s w1 K M) _ _ _ H0 (by unfold cX; exact Lq) B ?_;intro F1 H1 N f9 R;refine alQ (C:=C) (l:=l) J o o4 o6 n i _ (dR l n i s).1 (dR l n i s).2 Om hlt c s k3 w1 K M [] _ _ F1 H1 N f9 R ?_;intro d F2 H2 B2 O S;refine atZ (C:=C) J T o o4 o6 n i _ (dR l n i s).2 kl.1 hlt c { s with start:=s.start++[mkT ((dR l n i s).1:Nat) 8] } k4 d K M B2 _ _ F2 H2 O S ?_;intro e F3 H3 B3 Q U;refine alP (C:=C) J T o o4 o6 n _ i (eY l n i (dR l n i s).2).2 ke c hlt { s with start:=s.start++[mkT ((dR l n i s).1:Nat) 8],exit:=s.exit++[(eY l n i (dR l n i s).2).1] } k5 d K e B3 _ F3 H3 Q U ?_;rintro u ε E H4 B4 p ⟨q,rfl⟩ V;have g0:E 0=some (.ptr o 2 0 0):=p 0 _ (by unfold cX; simp only[go_sem]);have g4:E 4=some (.ptr o4 4 0 0):=p 4 _ (by unfold cX; simp only[go_sem]);have g5:E 5=some (.int .i64 n):=p 5 _ (by unfold cX; simp only[go_sem]);have g6:E 6=some (.ptr o6 4 0 0):=p 6 _ (by unfold cX; simp only[go_sem]);have g7:E 7=some (.int .i64 (s.left-(dR l n i s).1:Nat)):=p 7 _ (by unfold cX; simp only[go_sem]);have g8:E 8=some (.int .i64 i):=p 8 _ (by unfold cX; simp only[go_sem]);obtain⟨rs,z1,z2,z3,z4,z5⟩:=V.frz 3 rfl;have y1:=z4 0 _ (by decide) rfl;have y2:=z4 1 _ (by decide) rfl;have y3:=z4 2 _ (by decide) rfl;simp only at y1 y2 y3;have y4:=T.frz q 3 rs;simp only[go_sem,O6,g8,wZz i];refine Ap (i+1,d,u,e,H4.frz q 3 rs) z1 ⟨hlt,?_⟩ (by simp only; omega) ?_ b_
  ·rw[A];have eB:(rC o o4 o6 v d u e (dS l i (eY l n i (dR l n i s).2).2 n).2).map (fun b=>(b.1,b.2.frz q 3 rs))=rC o o4 o6 v d u e (dS l i (eY l n i (dR l n i s).2).2 n).2:=by simp only[a8U,a9P,cG.frz,y1,y2,y3,y4];rfl
   have eL:([(d,3,fW (s.start++[mkT ((dR l n i s).1:Nat) 8])),(u,1,uI s.a6A++[[.osl q 3 0 n]]),(e,3,fW (s.exit++[(eY l n i (dR l n i s).2).1]))]:List LI).map (fun x=>(x.1,x.2.1,x.2.2.map fun r=>r.map (PV.dE q 3 rs))) =
     uU ⟨s.start++[mkT ((dR l n i s).1:Nat) 8],s.exit++[(eY l n i (dR l n i s).2).1],s.a6A++[(dS l i (eY l n i (dR l n i s).2).2 n).1],s.left-(dR l n i s).1,(dS l i (eY l n i (dR l n i s).2).2 n).2⟩ d u e:=by
    have e2:(uI s.a6A++[[PV.osl q 3 0 n]]).map (fun r=>r.map (PV.dE q 3 rs))=uI (s.a6A++[(dS l i (eY l n i (dR l n i s).2).2 n).1]):=by rw[a8G,Cs,a8U,a9P,a8U,a9P,z2,avP]
    show ([(d,3,(fW (s.start++[mkT ((dR l n i s).1:Nat) 8])).map (fun r=>r.map (PV.dE q 3 rs))),(u,1,(uI s.a6A++[[PV.osl q 3 0 n]]).map (fun r=>r.map (PV.dE q 3 rs))),(e,3,(fW (s.exit++[(eY l n i (dR l n i s).2).1])).map (fun r=>r.map (PV.dE q 3 rs)))]:List LI)=_;rw[HW,e2,HW]
   rw[← eB,← eL];exact z5.sub (by rw[a8G]; exact List.sublist_append_left ..) (a9K.refl _)
  ·rw[A]
   (repeat' (first|exact c_|refine d_ ?_ ?_))<;>first|(simp only[go_sem,g0,g4,g5,g6,g7,g8]<;>rfl)|rfl
 ·have y:¬ (i:Int)<(n:Nat):=Om;have:i=n:=Om;subst this;simp only[go_sem,y,O7];have b4:=B.at 1 rfl;have b6:=B.at 2 rfl;have osl:∀ {w:PV} {z:Nat} {rows:List (List PV)},rows.length=i→bQ H0 z w rows→∃ q,w=.osl q z 0 i:=by
   intro w z rows hr hO;rcases hO with ⟨F,_⟩ | ⟨q,rs,F,_⟩
   ·rw[F] at hr; simp at hr; omega
   ·exact⟨q,by rw[F,hr]⟩
  obtain⟨q1,rfl⟩:=osl (by rw[mF,k3]) (B.own 0 rfl);obtain⟨q2,rfl⟩:=osl (by rw[a7G,k5]) (B.own 1 rfl);obtain⟨q3,rfl⟩:=osl (by rw[mF,k4]) (B.own 2 rfl);have hR:=Y (fS l i b i) rfl;simp only[go_sem,b6,b4,a7T,a8B,or_false,forall_eq,forall_eq_or_imp];have x1:=B.set 1 rfl (bc (.osl q1 3 0 i) (.osl q2 1 0 i) (.osl q3 3 0 i));obtain⟨r1,s1,s2,s3,s4,s5⟩:=x1.frz 0 rfl;have u2:=s4 1 _ (by decide) rfl;have u3:=s4 2 _ (by decide) rfl;simp only at u2 u3;have u4:=T.frz q1 3 r1;obtain⟨r2,t1,t2,t3,t4,t5⟩:=s5.frz 0 rfl;have m3:=t4 1 _ (by decide) rfl;simp only at m3;have m4:=T.frz q2 1 r2;obtain⟨r3,n1,n2,n3,n4,n5⟩:=t5.frz 0 rfl;have n4:=T.frz q3 3 r3;refine yP (vs:=[.agg [.str [],.osl q1 3 0 i,.osl q2 1 0 i,.osl q3 3 0 i]]) (.inr rfl) ?_ (.step s1 (.step t1 (.step n1 (.done (H2:=PH.nil.set o (bN v (fS l i b i).a)) ?_ (PH.aK a_ ?_)))))
  ·simp only[go_sem]
  ·rw[W,hR];refine⟨?_,rfl⟩;simp only[bO,PV.frz,PV.sO,a8U,a9P,s2,u2,u3,t2,m3,n2];simp only[PV.dE,HW _ _ _ _,Cs _ _ _ _]
  ·have:=n5.at 0 rfl;rw[this];simp only[cG.frz,a8U,a9P,u4,m4,n4];rfl
structure mA (C:Ctx):Prop extends qT C where
 law:∀ (l:List Nat) (v:PV),Tp l v→∀ (o dZ a:Nat),0<dZ→dZ≤50→a≤l.length→aH C 2 [.ptr o 2 0 0,.int .i64 dZ] (PH.nil.set o (bN v a)) (aDC l v o dZ a)
structure GOk (l:List Nat) (a5V:Nat) (s:GS):Prop where
 a6E:s.a6E.length≤35
 a6O:s.a6O.length≤a5V
 a:s.a≤l.length
theorem ZW {l:List Nat} {mc a5V dom:Nat} {s:GS} (h:GOk l a5V s):∀ i,GOk l a5V (jP l mc a5V dom s i)∧(jP l mc a5V dom s i).a6E=s.a6E
 | 0=>⟨h,rfl⟩
 | i+1=>by
  obtain⟨⟨c,p,d⟩,e⟩:=ZW (mc:=mc) (dom:=dom) h i;simp only[jP];split
  ·exact⟨⟨c,by simp only[a7O,a7S]; omega,bT l mc d⟩,e⟩
  ·exact⟨⟨c,p,d⟩,e⟩
theorem Yi {l:List Nat} {level dom a5V:Nat} {s:GS} (h:GOk l a5V s) (c:qB a5V s=false):GOk l a5V (mZ l level dom s)∧∃ x:cD,(mZ l level dom s).a6E=s.a6E++[x]∧x.level=(level:Int)∧x.parent=(dom:Int):=by
 obtain⟨i,d,e⟩:=h;unfold qB at c;rw[Bool.or_eq_false_iff] at c;have p:=of_decide_eq_false c.2;refine⟨⟨?_,d,?_⟩,_,rfl,rfl,rfl⟩
 ·simp only[mZ,a7O,a7S]; omega
 ·have a1:=bT l 3 (bT l 16 e);simp only[mZ];split
  ·exact bT l 6 a1
  ·exact a1
theorem ZX {l:List Nat} {level a5V dom:Nat} {rec:Nat→GS→GS} (c:∀ d t,GOk l a5V t→GOk l a5V (rec d t)∧∃ u,(rec d t).a6E=t.a6E++u) {s:GS} (h:GOk l a5V s) :
  ∀ i,GOk l a5V (fZ l level a5V dom rec s i)∧∃ u,(fZ l level a5V dom rec s i).a6E=s.a6E++u
 | 0=>⟨h,[],by simp[fZ]⟩
 | i+1=>by
  obtain⟨e,u,p⟩:=ZX c h i;simp only[fZ];split
  ·exact⟨e,u,p⟩
  ·rename_i q;obtain⟨g1,x,g2,-⟩:=Yi (level:=level) (dom:=dom) e (by simpa using q);obtain⟨k1,w,k2⟩:=c ((mZ l level dom (fZ l level a5V dom rec s i)).a6E.length-1) _ g1;exact⟨k1,u++[x]++w,by rw[k2,g2,p]; simp⟩
theorem ZY {l:List Nat} {mc a5V:Nat}:∀ (k dom:Nat) {s:GS},GOk l a5V s→GOk l a5V (eS l mc a5V k dom s)∧∃ u,(eS l mc a5V k dom s).a6E=s.a6E++u
 | 0,dom,s,h=>by have c:GOk l a5V { s with a:=(aG l 2 s.a).2 }:=⟨h.a6E,h.a6O,bT l 2 h.a⟩;obtain⟨e,i⟩:=ZW (mc:=mc) (dom:=dom) c (1+(aG l 2 s.a).1);exact⟨e,[],by simp only[eS]; rw[i]; simp⟩
 | k+1,dom,s,h=>by have c:GOk l a5V { s with a:=(aG l 2 s.a).2 }:=⟨h.a6E,h.a6O,bT l 2 h.a⟩;exact ZX (level:=4-k) (dom:=dom) (fun d t p=>ZY k d p) c (if 4-k=2 then 1 else 1+(aG l 2 s.a).1)
theorem akQ {l : List Nat} {level a5V dom : Nat} {rec : Nat → GS → GS} {s : GS} {i : Nat} (h : qB a5V (fZ l level a5V dom rec s i) = true) : ∀ n, i ≤ n → fZ l level a5V dom rec s n = fZ l level a5V dom rec s i := by
  intro n hn
  induction n with
  | zero => have : i = 0 := Om
            subst this; rfl
  | succ n ih =>
    rcases a8D n i with h' | h'
    · have : i = n + 1 := Om
      subst this; rfl
    · have e := ih h'
      simp only [fZ];rw [e, if_pos h]
def mkS (l:List Nat) (v:PV):Spec:=fun name vs=>match name,vs with
 | 29,[.str s,.int _ i]=>some ([],fun _=>aF (.str (s++bZ i.toNat)))
 | 47,[.int _ n]=>some ([],fun _=>aF (.agg (mkT n 1).cells))
 | 4,[.ptr o _ _ _,.int _ n]=>some ([o],fun c r H'=>∀ a,c o=some (bN v a)→fv l v o n.toNat a r H')
 | _,_=>none
section
variable {C:Ctx} {F:PF} {H Hs:PH} {l:List Nat} {v:PV} {o a:Nat}
theorem rI (q:AU C) (T:Tp l v) {n:Nat} {st:Bool} {args:List aP} {d:Option Nat} {K:PF→PH→Prop} (A:n≤1000000) (u:a≤l.length) (e:aP.evs F args=some [.ptr o 2 0 0,.int .i64 n]) (B:H o=some (bN v a))
  (i:Hs.le (H.set o (bN v (aG l n a).2))) (w:K (F.put d (.int .i64 ((aG l n a).1:Nat))) (H.set o (bN v (aG l n a).2))):dOp C Hs (mkS l v) st (.call 4 args) d K F H:=by
 refine aEN (x:=bN v a) (y:=bN v (aG l n a).2) (r:=.int .i64 ((aG l n a).1:Nat)) (R:=fun p r H'=>∀ a,p o=some (bN v a)→fv l v o n a r H') rfl B (q.next l v T o n a A u) ?_ ?_ e i w
 ·intro b c;rw[cP] at c;injection c with c
  injection c with _ c
  injection c with c _
  injection c with _ c
  injection c with c _
  injection c with _ c
  have:a=b:=Om;subst this;exact⟨rfl,rfl⟩
 ·intro J H' E;exact E a (by rw[cP])
theorem HJ (i:qT C) {s:List UInt8} {n:Nat} {st:Bool} {args:List aP} {d:Option Nat} {K:PF→PH→Prop} (u:s.length≤100) (q:n<100) (c:aP.evs F args=some [.str s,.int .i64 n]) (e:Hs.le H) (p:K (F.put d (.str (s++bZ n))) H) :
  dOp C Hs (mkS l v) st (.call 29 args) d K F H :=
 bP (v:=.str (s++bZ n)) rfl (i.name s n u q) c e p
theorem aOR (i:AU C) {n:Int} {st:Bool} {args:List aP} {d:Option Nat} {K:PF→PH→Prop} (q:dB n) (c:aP.evs F args=some [.int .i64 n]) (e:Hs.le H) (p:K (F.put d (.agg (mkT n 1).cells)) H) :
  dOp C Hs (mkS l v) st (.call 47 args) d K F H :=
 bP (v:=.agg (mkT n 1).cells) rfl (i.int n q) c e p
end
theorem bQ.sR {H:PH} {s:Nat} {v:PV} {rows:List (List PV)} (h:bQ H s v rows):PV.sR v=some (.int .i64 (rows.length:Nat)):=by
 rcases h with ⟨rfl,rfl⟩ | ⟨q,rs,rfl,_⟩<;>rfl
abbrev jY (l:List cD):List (List PV):=l.map cD.cells
abbrev mE (l:List dH):List (List PV):=l.map dH.cells
abbrev flB (ext wl d c e wp wv:PV):cG:=.rows 7 [[ext,wl,d,c,e,wp,wv]]
structure GE where
 o:Nat
 fo:Nat
 qm:Nat
 ext:PV
 wl:PV
 wp:PV
 wv:PV
abbrev GE.boxes (G:GE) (v:PV) (mc:Nat) (c d:PV) (a:Nat):List BX:=[(G.o,bN v a),(G.fo,flB G.ext G.wl (.osl G.qm 4 0 mc) c d G.wp G.wv)]
abbrev lL (s:GS) (c d:PV):List LI:=[(c,7,jY s.a6E),(d,3,mE s.a6O)]
def eZ (G:GE) (dom a5V level n i:Nat):PF:=(((((((PF.nil.set 0 (.ptr G.o 2 0 0)).set 1 (.ptr G.fo 7 0 0)).set 2 (.int .i64 dom)).set 3 (.int .i64 a5V)).set 8 (.int .i64 level)).set 9 (.int .i64 n)).set 10 (.int .i64 i))
theorem bQ.one {H:PH} {s:Nat} {v:PV} {rows:List (List PV)} (h:bQ H s v rows) (c:0<rows.length):∃ q,v=.osl q s 0 rows.length:=by
 rcases h with ⟨rfl,_⟩ | ⟨q,rs,rfl,_⟩
 ·simp at c
 ·exact⟨q,rfl⟩
theorem Ot {C:Ctx} (Q:mA C) {l:List Nat} {v:PV} (T:Tp l v) (G:GE) (mc a5V dom n:Nat) (γ:0<mc) (W:mc≤1000) (β:a5V≤60) (hn:n≤10) (s:GS) (hs:GOk l a5V s) (p w:PV) (K:bR) (F:PF) (H:PH)
  (Z:(eZ G dom a5V 5 n 0).le F) (u:aN H (G.boxes v mc p w s.a) (lL s p w))
  (hK:∀ E y X H',aN H' (G.boxes v mc E y (jP l mc a5V dom s n).a) (lL (jP l mc a5V dom s n) E y)→K (.exit 0) X H') :
  aC.wp C (.loop vT) K F H:=by
 refine wp_loop (α:=Nat × PV × PV × PH) (fun t=>eZ G dom a5V 5 n t.1) (fun t=>t.2.2.2) (fun t=>t.1≤n∧aN t.2.2.2 (G.boxes v mc t.2.1 t.2.2.1 (jP l mc a5V dom s t.1).a) (lL (jP l mc a5V dom s t.1) t.2.1 t.2.2.1)) (fun t=>n-t.1) (0,p,w,H) ⟨a7N _,u⟩ Z b_ ?_;rintro⟨i,p,w,O⟩ ⟨hi,u⟩;simp only at hi u ⊢;obtain⟨M,-⟩:=ZW (mc:=mc) (dom:=dom) hs i;have c:jP l mc a5V dom s (i+1)=(if (jP l mc a5V dom s i).a6O.length<a5V then { jP l mc a5V dom s i with a6O:=(jP l mc a5V dom s i).a6O++[⟨[100]++bZ (jP l mc a5V dom s i).a6O.length,((aG l mc (jP l mc a5V dom s i).a).1:Nat),(dom:Nat)⟩],a:=(aG l mc (jP l mc a5V dom s i).a).2 } else jP l mc a5V dom s i):=rfl;simp only[go_sem,vT,bg,eZ];by_cases hlt:i<n
 ·have d:(i:Int)<(n:Nat):=Om;generalize hg:jP l mc a5V dom s i=g at *
  have b1:=u.at 1 rfl;have N:=(u.own 1 rfl).sR;rw[a7G] at N;have R:=wZz i;simp only[go_sem,d,bi,show (((5:Nat):Int)==5)=true from rfl,Oz,b1,N];by_cases V:g.a6O.length<a5V
  ·have x:(g.a6O.length:Int)<(a5V:Nat):=Om;rw[if_pos V] at c;simp only[go_sem,x];have B:(PH.nil.set G.fo (flB G.ext G.wl (.osl G.qm 4 0 mc) p w G.wp G.wv)).le O:=PH.aK a_ b1;refine bW (PH.nil.set G.fo (flB G.ext G.wl (.osl G.qm 4 0 mc) p w G.wp G.wv)) (mkS l v) B ?_;simp only[go_sem,O0,b1,N];refine HJ Q.toqT (s:=[100]) (n:=g.a6O.length) (by decide) (by have:=M.a6O; omega) rfl B ?_;simp only[go_sem];have ho:=u.at 0 rfl;have S:=u.set 0 rfl (bN v (aG l mc g.a).2);have J:=S.at 1 rfl;refine rI Q.toAU T (o:=G.o) (n:=mc) (a:=g.a) Om M.a rfl ho (PH.aK a_ J) ?_;have A:(1:Nat)*3≤16777216:=by decide
   simp only[go_sem,A,a7T,a8B,or_false,forall_eq,forall_eq_or_imp];refine S.append 1 (src:=[(⟨[100]++bZ g.a6O.length,((aG l mc g.a).1:Nat),(dom:Nat)⟩:dH).cells]) rfl rfl (by unfold roomFor; rw[a7G]; have:=M.a6O; simp only[a7S,maxLen]; omega) fun y H2 U hw=>?_;obtain⟨q,rfl⟩:=hw (by simp);have b2:=U.at 1 rfl;refine⟨PH.aK a_ b2,?_⟩;refine bW .nil eT a_ ?_;simp only[go_sem,O1,b2,a7T,a8B,or_false,forall_eq];have Y:=U.set 1 rfl (flB G.ext G.wl (.osl G.qm 4 0 mc) p (.osl q 3 0 (mE g.a6O++[(⟨[100]++bZ g.a6O.length,((aG l mc g.a).1:Nat),(dom:Nat)⟩:dH).cells]).length) G.wp G.wv);refine⟨a_,?_⟩;simp only[go_sem,vW,R];refine aD (i+1,p,.osl q 3 0 (mE g.a6O++[(⟨[100]++bZ g.a6O.length,((aG l mc g.a).1:Nat),(dom:Nat)⟩:dH).cells]).length,_) ⟨hlt,?_⟩ (by simp only; omega) ?_ b_
   ·rw[c];have e:mE (g.a6O++[(⟨[100]++bZ g.a6O.length,((aG l mc g.a).1:Nat),(dom:Nat)⟩:dH)])=mE g.a6O++[(⟨[100]++bZ g.a6O.length,((aG l mc g.a).1:Nat),(dom:Nat)⟩:dH).cells]:=by simp[mE]
    unfold lL;simp only;rw[e];exact Y
   ·exact Lq
  ·have x:¬ (g.a6O.length:Int)<(a5V:Nat):=Om;rw[if_neg V] at c;simp only[go_sem,x,vW,R];refine aD (i+1,p,w,O) ⟨hlt,by rw[c]; exact u⟩ (by simp only; omega) ?_ b_;exact Lq
 ·have d:¬ (i:Int)<(n:Nat):=Om;have:i=n:=Om;subst this;simp only[go_sem,d];exact hK p w _ _ u
def aiN (G:GE) (v:PV) (mc:Nat) (s':GS) (r:PV) (B':List BX) (L':List LI):Prop:=r=.tup []∧∃ c d,B'=G.boxes v mc c d s'.a∧L'=lL s' c d
def fm (C:Ctx) (l:List Nat) (v:PV) (mc a5V k:Nat):Prop :=
 ∀ (G:GE) (d e:PV) (s:GS) (dom:Nat) (x:cD),GOk l a5V s→s.a6E[dom]?=some x→x.level=4-(k:Int)→∀ c,aN c (G.boxes v mc d e s.a) (lL s d e) →
  aH C 7 [.ptr G.o 2 0 0,.ptr G.fo 7 0 0,.int .i64 dom,.int .i64 a5V] c (fun r H'=>∃ B' L',aiN G v mc (eS l mc a5V k dom s) r B' L'∧aN H' B' L')
theorem atD {lv:Nat} (h:lv≤4):([45,115,114,107,109]:List UInt8)[lv]?=some (kY lv):=by
 match lv,h with
 | 0,_=>rfl
 | 1,_=>rfl
 | 2,_=>rfl
 | 3,_=>rfl
 | 4,_=>rfl
theorem WK {C:Ctx} {l:List Nat} {v:PV} (G:GE) (mc a5V dom lv n i k p:Nat) (β:lv=4-k) (hk:k<4) (w:fm C l v mc a5V k) (g:GS) (x:cD) (a:Nat) (U:GOk l a5V { g with a6E:=g.a6E++[x],a:=a }) (hx:x.level=(lv:Nat)) (V u:PV) (α:a5V≤60) (K:bR) (F:PF) (H:PH)
  (c:(eZ G dom a5V lv n i).le F) (f11:F 11=some (.ptr p 7 0 0)) (E:aN H (G.boxes v mc V u a++[(p,.rows 7 [x.cells])]) (lL g V u))
  (hK:∀ d y R H',(eZ G dom a5V lv n i).le R→aN H' (G.boxes v mc d y (eS l mc a5V k g.a6E.length { g with a6E:=g.a6E++[x],a:=a }).a) (lL (eS l mc a5V k g.a6E.length { g with a6E:=g.a6E++[x],a:=a }) d y)→K .normal R H') :
  aC.wp C (.draw QN) (gE C (aC.wp C (.region QO)) K) F H:=by
 have f0:F 0=some (.ptr G.o 2 0 0):=c 0 _ (by unfold eZ; simp only[go_sem]);have f1:F 1=some (.ptr G.fo 7 0 0):=c 1 _ (by unfold eZ; simp only[go_sem]);have f2:F 2=some (.int .i64 dom):=c 2 _ (by unfold eZ; simp only[go_sem]);have f3:F 3=some (.int .i64 a5V):=c 3 _ (by unfold eZ; simp only[go_sem]);have f8:F 8=some (.int .i64 lv):=c 8 _ (by unfold eZ; simp only[go_sem]);have f9:F 9=some (.int .i64 n):=c 9 _ (by unfold eZ; simp only[go_sem]);have Z:F 10=some (.int .i64 i):=c 10 _ (by unfold eZ; simp only[go_sem]);have N:=U.a6E;simp only[a7O,a7S] at N;have b1:=E.at 1 rfl;have b2:=E.at 2 rfl;have A:(1:Nat)*7≤16777216:=by decide
 refine bW .nil eT a_ ?_;simp only[go_sem,QN,f1,f11,b1,b2,A,a7T,a8B,or_false,forall_eq,forall_eq_or_imp];refine E.append 0 (src:=[x.cells]) rfl rfl (by unfold roomFor; rw[a7G]; simp only[a7S,maxLen]; omega) fun d H2 B hw=>?_;obtain⟨q,rfl⟩:=hw (by simp);have hl:(jY g.a6E++[x.cells]).length=g.a6E.length+1:=by simp
 rw[hl] at B ⊢;have X:=B.at 1 rfl;refine⟨a_,?_⟩;simp only[go_sem,X,a7T,a8B,or_false,forall_eq];have S:=B.set 1 rfl (flB G.ext G.wl (.osl G.qm 4 0 mc) (.osl q 7 0 (g.a6E.length+1)) u G.wp G.wv);have c2:=S.at 1 rfl;refine⟨a_,?_⟩;have e:jY (g.a6E++[x])=jY g.a6E++[x.cells]:=by simp[jY]
 have Y:IntKind.i64.wrap (((g.a6E.length+1:Nat):Int)-1)=(g.a6E.length:Int):=by rw[wrap_i64 Om Om]; omega
 simp only[go_sem,QO,f0,f1,f3,Y];have h4:aN (H2.set G.fo (flB G.ext G.wl (.osl G.qm 4 0 mc) (.osl q 7 0 (g.a6E.length+1)) u G.wp G.wv)) (G.boxes v mc (.osl q 7 0 (g.a6E.length+1)) u a++[(p,.rows 7 [x.cells])]) (lL { g with a6E:=g.a6E++[x],a:=a } (.osl q 7 0 (g.a6E.length+1)) u++[]):=by unfold lL;simp only;rw[e];exact S
 refine EU h4 (fun W M=>w G _ u { g with a6E:=g.a6E++[x],a:=a } g.a6E.length x U (by simp) (by rw[hx]; omega) W M) rfl ?_;rintro r B' L' H' ⟨rfl,O,Q,rfl,rfl⟩ J;refine hK O Q _ _ ?_ (J.sub (List.sublist_append_left ..) (by rw[a9G]; exact a9K.refl _));unfold eZ;exact Lq
theorem NP {C:Ctx} (S:mA C) {l:List Nat} {v:PV} (T:Tp l v) (G:GE) (mc a5V dom n k:Nat) (hk:k<4) (V:a5V≤60) (hn:n≤10) (O:fm C l v mc a5V k) (s:GS) (hs:GOk l a5V s) (ε:0<s.a6E.length) (M N:PV) (K:bR) (F:PF) (H:PH)
  (hF:(eZ G dom a5V (4-k) n 0).le F) (A:aN H (G.boxes v mc M N s.a) (lL s M N))
  (Y:∀ e x y w H',(e=.exit 0∨e=.ret)→aN H' (G.boxes v mc x y (fZ l (4-k) a5V dom (eS l mc a5V k) s n).a) (lL (fZ l (4-k) a5V dom (eS l mc a5V k) s n) x y)→K e w H') :
  aC.wp C (.loop vT) K F H:=by
 obtain⟨lv,R⟩:∃ lv,lv=4-k:=⟨_,rfl⟩;rw[← R] at hF Y;refine wp_loop (α:=Nat × PV × PV × PH) (fun t=>eZ G dom a5V lv n t.1) (fun t=>t.2.2.2) (fun t=>t.1≤n∧aN t.2.2.2 (G.boxes v mc t.2.1 t.2.2.1 (fZ l lv a5V dom (eS l mc a5V k) s t.1).a) (lL (fZ l lv a5V dom (eS l mc a5V k) s t.1) t.2.1 t.2.2.1)) (fun t=>n-t.1) (0,M,N,H) ⟨a7N _,A⟩ hF b_ ?_;rintro⟨i,M,N,H0⟩ ⟨hi,A⟩;simp only at hi A ⊢;obtain⟨X,u,gu⟩:=ZX (level:=lv) (dom:=dom) (fun d t ht=>ZY (mc:=mc) k d ht) hs i;have E:=fun h=>akQ (l:=l) (level:=lv) (a5V:=a5V) (dom:=dom) (rec:=eS l mc a5V k) (s:=s) (i:=i) h n hi;have q:fZ l lv a5V dom (eS l mc a5V k) s (i+1)=(if qB a5V (fZ l lv a5V dom (eS l mc a5V k) s i) then fZ l lv a5V dom (eS l mc a5V k) s i else eS l mc a5V k ((mZ l lv dom (fZ l lv a5V dom (eS l mc a5V k) s i)).a6E.length-1) (mZ l lv dom (fZ l lv a5V dom (eS l mc a5V k) s i))):=rfl;simp only[go_sem,vT,bg,eZ];by_cases hlt:i<n
 ·have J:(i:Int)<(n:Nat):=Om;generalize hg:fZ l lv a5V dom (eS l mc a5V k) s i=g at *
  have δ:0<g.a6E.length:=by rw[gu,a7O]; omega
  have b1:=A.at 1 rfl;have lr:=(A.own 1 rfl).sR;have ld:=(A.own 0 rfl).sR;rw[a7G] at lr ld;have ei:=wZz i;simp only[go_sem,J,bi,bF (Om:((lv:Nat):Int)≠5),A5,b1,lr];by_cases c1:a5V≤g.a6O.length
  ·have U:qB a5V g=true:=by unfold qB; simp[c1]
   simp only[go_sem,show (g.a6O.length:Int)≥(a5V:Nat) by omega];exact Y _ M N _ _ (.inr rfl) (by rw[E U]; exact A)
  simp only[go_sem,show ¬ (g.a6O.length:Int)≥(a5V:Nat) by omega,b1,ld];by_cases c2:35≤g.a6E.length
  ·have U:qB a5V g=true:=by unfold qB; simp[c2]
   simp only[go_sem,show (g.a6E.length:Int)≥35 by omega];exact Y _ M N _ _ (.inr rfl) (by rw[E U]; exact A)
  have U:qB a5V g=false:=by unfold qB; simp[c1,c2]
  rw[if_neg (by rw[U]; decide)] at q;simp only[go_sem,show ¬ (g.a6E.length:Int)≥35 by omega];have ls:=atD (Om:lv≤4);refine bW .nil (mkS l v) a_ ?_;have β:pF [[PV.int IntKind.u8 (((kY lv).toNat:Nat):Int)]]=some [kY lv]:=by simp[pF]
  obtain⟨W,x0,Z,-⟩:=Yi (level:=lv) (dom:=dom) X U;have γ:(mZ l lv dom g).a6E.length-1=g.a6E.length:=by rw[Z]; simp
  rw[γ] at q;have h1:=A.set 0 rfl (bN v (aG l 16 g.a).2);have a1:=bT l 16 X.a;have n1:=cJ l (show 0<16 by decide) g.a;have e1:IntKind.i64.wrap (1+((aG l 16 g.a).1:Int))=((1+(aG l 16 g.a).1:Nat):Int):=by rw[wrap_i64 Om Om]; omega
  simp only[go_sem,A6,ls,β,b1,ld];refine HJ S.toqT (s:=[kY lv]) (n:=g.a6E.length) (by simp) (by have:=X.a6E; omega) rfl a_ ?_;simp only[go_sem];refine rI S.toAU T (o:=G.o) (n:=16) (a:=g.a) Om X.a rfl (A.at 0 rfl) a_ ?_;simp only[go_sem,e1];refine aOR S.toAU (n:=0) (by unfold dB; omega) rfl a_ ?_;simp only[go_sem,a7T,a8B,or_false,forall_eq,forall_eq_or_imp];refine aR fun p hp=>?_;have h2:=h1.new hp (.rows 7 [(⟨[kY lv]++bZ g.a6E.length,(lv:Nat),(dom:Nat),(1+(aG l 16 g.a).1:Nat),jQ⟩:cD).cells]);simp only[go_sem,a7T,a8B,or_false,forall_eq,forall_eq_or_imp];refine⟨a_,?_⟩;simp only[go_sem,A7];refine dM S.toAU T (o:=G.o) (n:=3) (a:=(aG l 16 g.a).2) (by decide) a1 rfl (h2.at 0 rfl) ?_;have h3:=h2.set 0 rfl (bN v (aG l 3 (aG l 16 g.a).2).2);have a2:=bT l 3 a1;by_cases c3:(aG l 3 (aG l 16 g.a).2).1=0
  ·have hd:mZ l lv dom g={ g with a6E:=g.a6E++[⟨[kY lv]++bZ g.a6E.length,(lv:Nat),(dom:Nat),(1+(aG l 16 g.a).1:Nat),mkT 1 ((2+(aG l 6 (aG l 3 (aG l 16 g.a).2).2).1:Nat):Int)⟩],a:=(aG l 6 (aG l 3 (aG l 16 g.a).2).2).2 }:=by unfold mZ; simp only[c3,if_true]
   rw[hd] at q W;have n2:=cJ l (show 0<6 by decide) (aG l 3 (aG l 16 g.a).2).2;have e2:IntKind.i64.wrap (2+((aG l 6 (aG l 3 (aG l 16 g.a).2).2).1:Int))=((2+(aG l 6 (aG l 3 (aG l 16 g.a).2).2).1:Nat):Int):=by rw[wrap_i64 Om Om]; omega
   simp only[go_sem,bL (show (((aG l 3 (aG l 16 g.a).2).1:Nat):Int)=0 by omega),A8];refine dM S.toAU T (o:=G.o) (n:=6) (a:=(aG l 3 (aG l 16 g.a).2).2) (by decide) a2 rfl (h3.at 0 rfl) ?_;have h4:=h3.set 0 rfl (bN v (aG l 6 (aG l 3 (aG l 16 g.a).2).2).2);rw[PH.set_set] at h4;simp only[go_sem,e2];refine aA (S.fmk 1 ((2+(aG l 6 (aG l 3 (aG l 16 g.a).2).2).1:Nat):Int) (by unfold dB; omega) (by unfold dB; omega)) rfl ?_;unfold vZ;rw[if_neg Om];simp only[go_sem,show ¬ p=G.o from h4.ne 2 0 rfl rfl (by decide)];have h5:=h4.set 2 rfl (.rows 7 [(⟨[kY lv]++bZ g.a6E.length,(lv:Nat),(dom:Nat),(1+(aG l 16 g.a).1:Nat),mkT 1 ((2+(aG l 6 (aG l 3 (aG l 16 g.a).2).2).1:Nat):Int)⟩:cD).cells])
   try simp only[xj]
   refine WK G mc a5V dom lv n i k p R hk O g _ _ W rfl M N V _ _ _ (by unfold eZ; exact Lq) rfl h5 ?_;intro x y w H' c B;rw[← q] at B;have Q:w 10=some (.int .i64 i):=c 10 _ (by unfold eZ; simp only[go_sem]);have g0:w 0=some (.ptr G.o 2 0 0):=c 0 _ (by unfold eZ; simp only[go_sem]);have g1:w 1=some (.ptr G.fo 7 0 0):=c 1 _ (by unfold eZ; simp only[go_sem]);have g2:w 2=some (.int .i64 dom):=c 2 _ (by unfold eZ; simp only[go_sem]);have g3:w 3=some (.int .i64 a5V):=c 3 _ (by unfold eZ; simp only[go_sem]);have g8:w 8=some (.int .i64 lv):=c 8 _ (by unfold eZ; simp only[go_sem]);have g9:w 9=some (.int .i64 n):=c 9 _ (by unfold eZ; simp only[go_sem]);simp only[go_sem,vW,Q,ei];refine aD (i+1,x,y,H') ⟨hlt,B⟩ (by simp only; omega) ?_ b_;exact Lq
  ·have hd:mZ l lv dom g={ g with a6E:=g.a6E++[⟨[kY lv]++bZ g.a6E.length,(lv:Nat),(dom:Nat),(1+(aG l 16 g.a).1:Nat),jQ⟩],a:=(aG l 3 (aG l 16 g.a).2).2 }:=by unfold mZ; simp only[c3,if_false]
   rw[hd] at q W;simp only[go_sem,bF (show ¬ (((aG l 3 (aG l 16 g.a).2).1:Nat):Int)=0 by omega)]
   try simp only[xj]
   refine WK G mc a5V dom lv n i k p R hk O g _ _ W rfl M N V _ _ _ (by unfold eZ; exact Lq) rfl h3 ?_;intro x y w H' c B;rw[← q] at B;have Q:w 10=some (.int .i64 i):=c 10 _ (by unfold eZ; simp only[go_sem]);have g0:w 0=some (.ptr G.o 2 0 0):=c 0 _ (by unfold eZ; simp only[go_sem]);have g1:w 1=some (.ptr G.fo 7 0 0):=c 1 _ (by unfold eZ; simp only[go_sem]);have g2:w 2=some (.int .i64 dom):=c 2 _ (by unfold eZ; simp only[go_sem]);have g3:w 3=some (.int .i64 a5V):=c 3 _ (by unfold eZ; simp only[go_sem]);have g8:w 8=some (.int .i64 lv):=c 8 _ (by unfold eZ; simp only[go_sem]);have g9:w 9=some (.int .i64 n):=c 9 _ (by unfold eZ; simp only[go_sem]);simp only[go_sem,vW,Q,ei];refine aD (i+1,x,y,H') ⟨hlt,B⟩ (by simp only; omega) ?_ b_;exact Lq
 ·have J:¬ (i:Int)<(n:Nat):=Om;have:i=n:=Om;subst this;simp only[go_sem,J];exact Y _ M N _ _ (.inl rfl) A
theorem Ou {C:Ctx} (M:mA C) {l:List Nat} {v:PV} (T:Tp l v) (mc a5V k:Nat) (R:0<mc) (F:mc≤1000) (y:a5V≤60) (hk:k≤4) (J:∀ X,k=X+1→fm C l v mc a5V X) (G:GE) (U K:PV) (s:GS) (dom:Nat) (x:cD)
  (N:GOk l a5V s) (W:s.a6E[dom]?=some x) (hl:x.level=4-(k:Int)) (O:PH) (B:aN O (G.boxes v mc U K s.a) (lL s U K)) :
  xE.wp C (aV lj.res (fun r H'=>∃ B' L',aiN G v mc (eS l mc a5V k dom s) r B' L'∧aN H' B' L')) (PF.args [.ptr G.o 2 0 0,.ptr G.fo 7 0 0,.int .i64 dom,.int .i64 a5V]) O:=by
 have w:dom<s.a6E.length:=(a8P.1 W).1;have b1:=B.at 1 rfl;have fin:∀ (e:kM) (c d:PV) (p:PF) (H':PH),(e=.exit 0∨e=.ret)→aN H' (G.boxes v mc c d (eS l mc a5V k dom s).a) (lL (eS l mc a5V k dom s) c d) →
   eX 0 (aV lj.res (fun r H'=>∃ B' L',aiN G v mc (eS l mc a5V k dom s) r B' L'∧aN H' B' L')) e p H':=by
  intro e c d p H' E i;rcases E with rfl | rfl
  ·rw[CI,if_pos rfl];exact bA (vs:=[]) (.inl rfl) H' rfl b_ ⟨_,_,⟨rfl,c,d,rfl,rfl⟩,i⟩
  ·exact bA (vs:=[]) (.inr rfl) H' rfl b_ ⟨_,_,⟨rfl,c,d,rfl,rfl⟩,i⟩
 obtain⟨q,rs,Z,e2,e3,e4⟩:∃ q rs,U=.osl q 7 0 s.a6E.length∧O q=some (.rows 7 rs)∧s.a6E.length≤rs.length∧rs.take s.a6E.length=jY s.a6E:=by
  rcases B.own 0 rfl with ⟨u,_⟩ | ⟨q,rs,u,h2,h3,h4⟩
  ·have:=congrArg List.length u;rw[a7G] at this;simp at this; rw[this] at w; simp at w
  ·rw[a7G] at u h3 h4;exact⟨q,rs,u,h2,h3,h4⟩
 have S:rs[dom]?=some x.cells:=by
  have:(jY s.a6E)[dom]?=some x.cells:=by simp[jY,W]
  rw[← e4,List.getElem?_take_of_lt w] at this;exact this
 subst Z;have Y:(dom:Int)<(s.a6E.length:Nat):=Om;have ew:IntKind.i64.wrap (x.level+1)=((5-k:Nat):Int):=by rw[hl,wrap_i64 Om Om]; omega
 have β:=cJ l (show 0<2 by decide) s.a;have en:IntKind.i64.wrap (1+((aG l 2 s.a).1:Int))=((1+(aG l 2 s.a).1:Nat):Int):=by rw[wrap_i64 Om Om]; omega
 have u:=B.set 0 rfl (bN v (aG l 2 s.a).2);have A:GOk l a5V { s with a:=(aG l 2 s.a).2 }:=⟨N.a6E,N.a6O,bT l 2 N.a⟩;have α:¬ q=G.o:=fun h=>B.neL 0 0 rfl rfl rfl h.symm;simp only[go_sem,xE,Ov,b1,Y,e2,S,ew,Ow];refine dM M.toAU T (o:=G.o) (n:=2) (a:=s.a) (by decide) N.a (by simp only[go_sem]; rfl) (B.at 0 rfl) ?_;simp only[go_sem,en,Ox];cases k with
 | zero =>
  simp only[go_sem,bF (Om:¬ ((5-0:Nat):Int)=2),JJ];refine Ot (C:=C) M T G mc a5V dom (1+(aG l 2 s.a).1) R F y Om { s with a:=(aG l 2 s.a).2 } A _ K _ _ _ ?_ u ?_
  ·unfold eZ;exact Lq
  ·intro c d p H' i;exact fin _ c d p H' (.inl rfl) i
 | succ k =>
  have H:=J k rfl;by_cases V:4-k=2
  ·have Q:eS l mc a5V (k+1) dom s=fZ l (4-k) a5V dom (eS l mc a5V k) { s with a:=(aG l 2 s.a).2 } 1:=by simp only[eS,if_pos V]
   simp only[go_sem,bL (show ((5-(k+1):Nat):Int)=2 by omega),Oy,JJ];refine NP (C:=C) M T G mc a5V dom 1 k Om y (by decide) H { s with a:=(aG l 2 s.a).2 } A (by simp only; omega) _ K _ _ _ ?_ u ?_
   ·unfold eZ
    (repeat' (first|exact c_|refine d_ ?_ ?_))<;>first|(simp only[go_sem,show 4-k=5-(k+1) by omega]<;>rfl)|rfl
   ·intro e c d p H' E i;rw[← Q] at i;exact fin e c d p H' E i
  ·have Q:eS l mc a5V (k+1) dom s=fZ l (4-k) a5V dom (eS l mc a5V k) { s with a:=(aG l 2 s.a).2 } (1+(aG l 2 s.a).1):=by simp only[eS,if_neg V]
   simp only[go_sem,bF (show ¬ ((5-(k+1):Nat):Int)=2 by omega),JJ];refine NP (C:=C) M T G mc a5V dom (1+(aG l 2 s.a).1) k Om y Om H { s with a:=(aG l 2 s.a).2 } A (by simp only; omega) _ K _ _ _ ?_ u ?_
   ·unfold eZ
    (repeat' (first|exact c_|refine d_ ?_ ?_))<;>first|(simp only[go_sem,show 4-k=5-(k+1) by omega]<;>rfl)|rfl
   ·intro e c d p H' E i;rw[← Q] at i;exact fin e c d p H' E i
theorem ZZ {C:Ctx} (q:mA C) {l:List Nat} {v:PV} (T:Tp l v) (mc a5V:Nat) (i:0<mc) (c:mc≤1000) (d:a5V≤60)
  (u:∀ (args:List PV) (H:PH) (R:PV→PH→Prop),args.length=4→xE.wp C (aV lj.res R) (PF.args args) H→aH C 7 args H R):∀ k,k≤4→fm C l v mc a5V k
 | 0,h=>fun G E F s dom x A B y p w=>u _ _ _ rfl (Ou q T mc a5V 0 i c d h (fun _ e=>by omega) G E F s dom x A B y p w)
 | k+1,h=>fun G E F s dom x A B y p w=>u _ _ _ rfl (Ou q T mc a5V (k+1) i c d h (fun J e=>by have:J=k:=Om;subst this;exact ZZ q T mc a5V i c d u J Om) G E F s dom x A B y p w)
theorem aQA (l:List Nat) (dZ:Nat) {a:Nat} (h:a≤l.length):(qQ l dZ a).2≤l.length:=(u1 l (1+(aG l dZ a).1) (bT l dZ h) (1+(aG l dZ a).1)).1
theorem bd (l:List Nat) {a:Nat} (h:a≤l.length):∀ k,(hM l a k).2≤l.length∧(hM l a k).1.length=k
 | 0=>⟨h,rfl⟩
 | k+1=>by obtain⟨c,d⟩:=bd l h k;exact⟨aQA l 2 c,by simp only[hM,a7O,a7S,d]⟩
theorem JP (l:List Nat) (a6C:Nat) {a:Nat} (h:a≤l.length):∀ k,(eI l a6C a k).2≤l.length∧(eI l a6C a k).1.length=k
 | 0=>⟨h,rfl⟩
 | k+1=>by obtain⟨c,d⟩:=JP l a6C h k;exact⟨bT l a6C (bT l 8 (bT l 4 c)),by simp only[eI,a7O,a7S,d]⟩
structure FE where
 o:Nat
 o6:Nat
 o7:Nat
 a5V:Nat
 a5X:Nat
abbrev flZ:cG:=flB (.int .i64 0) .aB .aB .aB .aB .aB .aB
abbrev FE.boxes (E:FE) (v ext c d e i l p:PV) (a:Nat):List BX:=[(E.o,bN v a),(E.o7,flB ext c d e i l p),(E.o6,flZ)]
def fP (E:FE):PF:=(((((PF.nil.set 0 (.ptr E.o 2 0 0)).set 1 (.int .i64 E.a5V)).set 2 (.int .i64 E.a5X)).set 6 (.ptr E.o6 7 0 0)).set 7 (.ptr E.o7 7 0 0))
abbrev gZ (l:List cE):List (List PV):=l.map cE.cells
abbrev jR (l:List cT):List (List PV):=l.map cT.cells
theorem UZ {E:FE} {F:PF} (c:F 0=some (.ptr E.o 2 0 0)) (d:F 1=some (.int .i64 E.a5V)) (e:F 2=some (.int .i64 E.a5X)) (i:F 6=some (.ptr E.o6 7 0 0)) (h7:F 7=some (.ptr E.o7 7 0 0)):(fP E).le F :=
 d_ (d_ (d_ (d_ (d_ c_ c) d) e) i) h7
theorem aGS {C:Ctx} (N:mA C) {l:List Nat} {v:PV} (T:Tp l v) (E:FE) (n a:Nat) (hn:n≤10) (V:a≤l.length) (ext:PV) (K:bR) (F:PF) (H:PH)
  (S:(((fP E).set 8 (.int .i64 n)).set 9 (.int .i64 0)).le F) (w:aN H (E.boxes v ext .aB .aB .aB .aB .aB .aB a) [])
  (U:∀ A M H',(fP E).le M→aN H' (E.boxes v ext A .aB .aB .aB .aB .aB (hM l a n).2) [(A,4,gZ (hM l a n).1)]→K (.exit 0) M H') :
  aC.wp C (.loop QM) K F H:=by
 refine wp_loop (α:=Nat × PV × PH) (fun t=>((fP E).set 8 (.int .i64 n)).set 9 (.int .i64 t.1)) (fun t=>t.2.2) (fun t=>t.1≤n∧aN t.2.2 (E.boxes v ext t.2.1 .aB .aB .aB .aB .aB (hM l a t.1).2) [(t.2.1,4,gZ (hM l a t.1).1)]) (fun t=>n-t.1) (0,.aB,H) ⟨a7N _,w.nB 4⟩ S b_ ?_;rintro⟨i,A,Y⟩ ⟨hi,w⟩;simp only at hi w ⊢;obtain⟨k1,k2⟩:=bd l V i;have u:hM l a (i+1)=((hM l a i).1++[{ (qQ l 2 (hM l a i).2).1 with name:=[108,97,119]++bZ i }],(qQ l 2 (hM l a i).2).2):=rfl;simp only[go_sem,QM,A0,fP];by_cases hlt:i<n
 ·have c:(i:Int)<(n:Nat):=Om;generalize Z:hM l a i=g at *
  simp only[go_sem,c,A1];refine mQ (N.law l v T E.o 2 g.2 (by decide) (by decide) k1) (w.at 0 rfl) rfl ?_;have Q:=w.set 0 rfl (bN v (qQ l 2 g.2).2);generalize hz:qQ l 2 g.2=z at *
  simp only[go_sem];refine aR fun p W=>?_;have R:=Q.new W (.rows 4 [z.1.cells]);simp only[go_sem,A2,a7T,a8B,or_false,forall_eq,forall_eq_or_imp];refine aA (N.name [108,97,119] i (by decide) Om) rfl ?_;have x:=R.set 3 rfl (.rows 4 [({ z.1 with name:=[108,97,119]++bZ i }:cE).cells]);rw[PH.set_set] at x;have b1:=x.at 1 rfl;have y:¬ E.o7=p:=x.ne 1 3 rfl rfl (by decide);have d:¬ E.o7=E.o:=x.ne 1 0 rfl rfl (by decide);simp only[aT,if_neg y,if_neg d] at b1;have J:(1:Nat)*4≤16777216:=by decide
  simp only[go_sem,A3,y,d,b1,J,a7T,a8B,or_false,forall_eq,forall_eq_or_imp];refine x.append 0 (src:=[({ z.1 with name:=[108,97,119]++bZ i }:cE).cells]) rfl rfl (by unfold roomFor; rw[a7G]; simp only[a7S,maxLen]; omega) fun w' H2 O X=>?_;obtain⟨q,rfl⟩:=X (by simp);have b2:=O.at 1 rfl;simp only[go_sem,b2,a7T,a8B,or_false,forall_eq];have h5:=O.set 1 rfl (flB ext (.osl q 4 0 (gZ g.1++[({ z.1 with name:=[108,97,119]++bZ i }:cE).cells]).length) .aB .aB .aB .aB .aB);simp only[go_sem,A4,wZz i];refine aD (i+1,.osl q 4 0 (gZ g.1++[({ z.1 with name:=[108,97,119]++bZ i }:cE).cells]).length,_) ⟨hlt,?_⟩ (by simp only; omega) ?_ b_
  ·rw[u];have e:gZ (g.1++[{ z.1 with name:=[108,97,119]++bZ i }])=gZ g.1++[({ z.1 with name:=[108,97,119]++bZ i }:cE).cells]:=by simp[gZ]
   simp only;rw[e];exact h5.dropLast (B:=E.boxes v ext _ .aB .aB .aB .aB .aB z.2)
  ·exact Lq
 ·have c:¬ (i:Int)<(n:Nat):=Om;have:i=n:=Om;subst this;simp only[go_sem,c];exact U A _ _ (UZ rfl rfl rfl rfl rfl) w
theorem alM {C:Ctx} (O:mA C) {l:List Nat} {v:PV} (T:Tp l v) (E:FE) (n a nl:Nat) (hn:n≤10) (β:nl≤1000) (ha:a≤l.length) (ext d:PV) (a6C:List cE) (U:a6C.length=nl) (K:bR) (F:PF) (H:PH)
  (hF:(((fP E).set 11 (.int .i64 n)).set 12 (.int .i64 0)).le F) (p:aN H (E.boxes v ext d .aB .aB .aB .aB .aB a) [(d,4,gZ a6C)])
  (hK:∀ A Q H',(fP E).le Q→Q 11=some (.int .i64 n)→aN H' (E.boxes v ext d A .aB .aB .aB .aB (eI l nl a n).2) [(d,4,gZ a6C),(A,4,jR (eI l nl a n).1)]→K (.exit 2) Q H') :
  aC.wp C (.loop IY) K F H:=by
 refine wp_loop (α:=Nat × PV × PH) (fun t=>((fP E).set 11 (.int .i64 n)).set 12 (.int .i64 t.1)) (fun t=>t.2.2) (fun t=>t.1≤n∧aN t.2.2 (E.boxes v ext d t.2.1 .aB .aB .aB .aB (eI l nl a t.1).2) [(d,4,gZ a6C),(t.2.1,4,jR (eI l nl a t.1).1)]) (fun t=>n-t.1) (0,.aB,H) ⟨a7N _,p.nB 4⟩ hF b_ ?_;rintro⟨i,A,Z⟩ ⟨hi,p⟩;simp only at hi p ⊢;obtain⟨k1,k2⟩:=JP l nl ha i;have u:eI l nl a (i+1)=((eI l nl a i).1++[⟨[109]++bZ i,(1+(aG l 4 (eI l nl a i).2).1:Nat),(1+(aG l 8 (aG l 4 (eI l nl a i).2).2).1:Nat),((aG l nl (aG l 8 (aG l 4 (eI l nl a i).2).2).2).1:Nat)⟩],(aG l nl (aG l 8 (aG l 4 (eI l nl a i).2).2).2).2):=rfl;simp only[go_sem,IY,kh,fP];by_cases hlt:i<n
 ·have c:(i:Int)<(n:Nat):=Om;generalize hg:eI l nl a i=g at *
  have hx:=cJ l (show 0<4 by decide) g.2;have V:=bT l 4 k1;have hy:=cJ l (show 0<8 by decide) (aG l 4 g.2).2;have W:=bT l 8 V;have az:=bT l nl W;have R:=p.set 0 rfl (bN v (aG l 4 g.2).2);have w:=R.set 0 rfl (bN v (aG l 8 (aG l 4 g.2).2).2);have h3:=w.set 0 rfl (bN v (aG l nl (aG l 8 (aG l 4 g.2).2).2).2);generalize J:aG l 4 g.2=x at *
  generalize M:aG l 8 x.2=y at *
  generalize N:aG l nl y.2=z at *
  have b1:=p.at 1 rfl;have Y:=(p.own 0 rfl).sR;rw[a7G,U] at Y;have B:(PH.nil.set E.o7 (flB ext d A .aB .aB .aB .aB)).le Z:=PH.aK a_ b1;have ex:IntKind.i64.wrap (1+(x.1:Int))=((1+x.1:Nat):Int):=by rw[wrap_i64 Om Om]; omega
  have ey:IntKind.i64.wrap (1+(y.1:Int))=((1+y.1:Nat):Int):=by rw[wrap_i64 Om Om]; omega
  simp only[go_sem,c];refine bW (PH.nil.set E.o7 (flB ext d A .aB .aB .aB .aB)) (mkS l v) B ?_;simp only[go_sem,ki];refine HJ O.toqT (s:=[109]) (n:=i) (by decide) Om rfl B ?_;simp only[go_sem];refine rI O.toAU T (o:=E.o) (n:=4) (a:=g.2) (by decide) k1 rfl (p.at 0 rfl) ?_ ?_
  ·rw[J]; exact PH.aK a_ (R.at 1 rfl)
  rw[J];simp only[go_sem,ex];refine rI O.toAU T (o:=E.o) (n:=8) (a:=x.2) (by decide) V rfl (R.at 0 rfl) ?_ ?_
  ·rw[M]; exact PH.aK a_ (w.at 1 rfl)
  rw[M];simp only[go_sem,ey,Y];rw[PH.set_set] at w;refine rI O.toAU T (o:=E.o) (n:=nl) (a:=y.2) Om W rfl (w.at 0 rfl) ?_ ?_
  ·rw[N]; exact PH.aK a_ ((w.set 0 rfl (bN v z.2)).at 1 rfl)
  rw[N];have X:=w.set 0 rfl (bN v z.2);have S:(1:Nat)*4≤16777216:=by decide
  simp only[go_sem,S,a7T,a8B,or_false,forall_eq,forall_eq_or_imp];rw[PH.set_set] at X;refine X.append 1 (src:=[(⟨[109]++bZ i,(1+x.1:Nat),(1+y.1:Nat),(z.1:Nat)⟩:cT).cells]) rfl rfl (by unfold roomFor; rw[a7G]; simp only[a7S,maxLen]; omega) fun w' H2 h5 hw=>?_;obtain⟨q,rfl⟩:=hw (by simp);have b2:=h5.at 1 rfl;refine⟨PH.aK a_ b2,?_⟩;refine bW .nil eT a_ ?_;simp only[go_sem,kj,b2,a7T,a8B,or_false,forall_eq];have h6:=h5.set 1 rfl (flB ext d (.osl q 4 0 (jR g.1++[(⟨[109]++bZ i,(1+x.1:Nat),(1+y.1:Nat),(z.1:Nat)⟩:cT).cells]).length) .aB .aB .aB .aB);refine⟨a_,?_⟩;simp only[go_sem,kk,wZz i];refine aD (i+1,.osl q 4 0 (jR g.1++[(⟨[109]++bZ i,(1+x.1:Nat),(1+y.1:Nat),(z.1:Nat)⟩:cT).cells]).length,_) ⟨hlt,?_⟩ (by simp only; omega) ?_ b_
  ·rw[u];have e:jR (g.1++[⟨[109]++bZ i,(1+x.1:Nat),(1+y.1:Nat),(z.1:Nat)⟩])=jR g.1++[(⟨[109]++bZ i,(1+x.1:Nat),(1+y.1:Nat),(z.1:Nat)⟩:cT).cells]:=by simp[jR]
   simp only;rw[e];exact h6
  ·exact Lq
 ·have c:¬ (i:Int)<(n:Nat):=Om;have:i=n:=Om;subst this;simp only[go_sem,c];exact hK A _ _ (UZ rfl rfl rfl rfl rfl) rfl p
abbrev wH (x:bS) (w:PV):List PV:=[.str x.name,.int .i64 x.k,.int .i64 x.m,.int .i64 x.a6T,.int .i64 x.s0,.int .i64 x.s1,.int .i64 x.s2,.int .i64 x.s3,.int .i64 x.s4,w,frs x.repair,
 .bool x.target.neg,aJ x.target.num,aJ x.target.den,.bool x.a6F.neg,aJ x.a6F.num,aJ x.a6F.den]
def u7 (E:FE) (mc n i:Nat):PF:=(((fP E).set 11 (.int .i64 mc)).set 13 (.int .i64 n)).set 14 (.int .i64 i)
structure PAt (E:FE) (mc n i:Nat) (F:PF):Prop where
 f0:F 0=some (.ptr E.o 2 0 0)
 f1:F 1=some (.int .i64 E.a5V)
 f2:F 2=some (.int .i64 E.a5X)
 f6:F 6=some (.ptr E.o6 7 0 0)
 f7:F 7=some (.ptr E.o7 7 0 0)
 f11:F 11=some (.int .i64 mc)
 f13:F 13=some (.int .i64 n)
 f14:F 14=some (.int .i64 i)
def qS (l:List Nat) (a:Nat):Nat→List Int × Nat
 | 0=>([],a)
 | j+1=>let s:=qS l a j
  let t:=gQ l s.2
  (s.1++[t.1],t.2)
theorem tL (l:List Nat) {a:Nat} (h:a≤l.length):(gQ l a).2≤l.length:=by
 unfold gQ;simp only;split
 ·exact bT l 3 (bT l 3 h)
 ·exact bT l 3 h
theorem w9 (l:List Nat) {a:Nat} (h:a≤l.length):∀ j,(qS l a j).2≤l.length∧(qS l a j).1.length=j
 | 0=>⟨h,rfl⟩
 | j+1=>by obtain⟨c,d⟩:=w9 l h j;exact⟨tL l c,by simp only[qS,a7O,a7S,d]⟩
abbrev qR (pre post:List PV) (s:List Int):List PV:=pre++(s.map fun x=>PV.int .i64 x)++a7K (4-s.length) (.int .i64 0)++post
theorem aSN {pre post:List PV} {s:List Int} (c:pre.length=5) (e:s.length<4) (x:Int):(qR pre post s).set (5+s.length) (.int .i64 x)=qR pre post (s++[x]):=by
 obtain⟨k,d⟩:∃ k,4-s.length=k+1:=⟨3-s.length,by omega⟩;unfold qR;rw[a7O,a7S,show 4-(s.length+1)=k by omega,d,List.replicate_succ,a8G,a8U,a9P];rw[List.set_append_left _ _ (by simp[c]),baD _ _ (by simp[c])];have:5+s.length-(pre++s.map fun x=>PV.int .i64 x).length=0:=by simp[c]
 rw[this,bbC];simp
theorem aIY {pre post:List PV} {s:List Int} (d:pre.length=5) (e:s.length<4):qR pre post s=qR pre post (s++[0]):=by
 obtain⟨k,c⟩:∃ k,4-s.length=k+1:=⟨3-s.length,by omega⟩;unfold qR;rw[a7O,a7S,show 4-(s.length+1)=k by omega,c,List.replicate_succ,a8G,a8U,a9P];simp
theorem alN {C:Ctx} (Y:mA C) {l:List Nat} {v:PV} (T:Tp l v) (E:FE) (mc n i a p:Nat) (ha:a≤l.length) (B:List BX) (L:List LI) (pre post:List PV) (d:pre.length=5) (x:post.length=8) (K:bR) (F:PF) (H:PH)
  (q:PAt E mc n i F) (R:F 15=some (.ptr p 17 0 0)) (S:F 16=some (.int .i64 1)) (y:aN H ((E.o,bN v a)::B++[(p,.rows 17 [qR pre post []])]) L)
  (hK:∀ O H',PAt E mc n i O→O 15=some (.ptr p 17 0 0)→aN H' ((E.o,bN v (qS l a 4).2)::B++[(p,.rows 17 [qR pre post (qS l a 4).1])]) L→K (.exit 6) O H') :
  aC.wp C (.loop wY) K F H:=by
 refine wp_loop (α:=Nat × PH) (fun t=>((u7 E mc n i).set 15 (.ptr p 17 0 0)).set 16 (.int .i64 (t.1+1:Nat))) (fun t=>t.2) (fun t=>t.1≤4∧aN t.2 ((E.o,bN v (qS l a t.1).2)::B++[(p,.rows 17 [qR pre post (qS l a t.1).1])]) L) (fun t=>4-t.1) (0,H) ⟨a7N _,y⟩ ?_ b_ ?_
 ·unfold u7 fP
  (repeat' (first|exact c_|refine d_ ?_ ?_))<;>first|(simp only[go_sem,q.f0,q.f1,q.f2,q.f6,q.f7,q.f11,q.f13,q.f14,R,S]<;>rfl)|rfl
 rintro⟨j,H0⟩ ⟨hj,y⟩;simp only at hj y ⊢;obtain⟨k1,k2⟩:=w9 l ha j;have e:qS l a (j+1)=((qS l a j).1++[(gQ l (qS l a j).2).1],(gQ l (qS l a j).2).2):=rfl;simp only[go_sem,wY,kw,u7,fP];by_cases hlt:j<4
 ·generalize hg:qS l a j=g at *
  have Z:=cZ (Om:j+1<9223372036854775807);simp only[go_sem,show ((j+1:Nat):Int)<5 by omega,kx];refine dM Y.toAU T (o:=E.o) (n:=3) (a:=g.2) (by decide) k1 (by simp only[go_sem]; rfl) (y.at 0 rfl) ?_;have M:aN _ ((E.o,bN v (aG l 3 g.2).2)::B++[(p,.rows 17 [qR pre post g.1])]) L:=y.set 0 rfl (bN v (aG l 3 g.2).2);by_cases c:(aG l 3 g.2).1=0
  ·have X:gQ l g.2=(((1+(aG l 3 (aG l 3 g.2).2).1:Nat):Int),(aG l 3 (aG l 3 g.2).2).2):=by unfold gQ; simp only[c,if_true]
   have n2:=cJ l (show 0<3 by decide) (aG l 3 g.2).2;have e2:IntKind.i64.wrap (1+((aG l 3 (aG l 3 g.2).2).1:Int))=((1+(aG l 3 (aG l 3 g.2).2).1:Nat):Int):=by rw[wrap_i64 Om Om]; omega
   simp only[go_sem,bL (show (((aG l 3 g.2).1:Nat):Int)=0 by omega),ky];refine dM Y.toAU T (o:=E.o) (n:=3) (a:=(aG l 3 g.2).2) (by decide) (bT l 3 k1) (by simp only[go_sem]; rfl) (M.at 0 rfl) ?_;have N:aN _ ((E.o,bN v (aG l 3 (aG l 3 g.2).2).2)::B++[(p,.rows 17 [qR pre post g.1])]) L:=M.set 0 rfl (bN v (aG l 3 (aG l 3 g.2).2).2);have Q:=N.OF;rw[PH.set_set] at Q N;have J:¬ p=E.o:=fun h=>by have W:=N.ndB;simp[eP,h] at W
   simp only[aT,if_neg J] at Q;have V:((j+1:Nat):Int)<((5:Nat):Int):=Om;have U:(0:Int)≤((j+1:Nat):Int):=Om;have β:(qR pre post g.1).length=17:=by simp[qR,d,x,k2]; omega
   have u:=aSN (pre:=pre) (post:=post) (s:=g.1) d Om ((1+(aG l 3 (aG l 3 g.2).2).1:Nat):Int);rw[k2] at u;have A:4+(j+1)*1=5+j:=Om;have w:5+j+1≤17:=Om;simp only[go_sem,e2,V,U,A,J,Q,w,a7T,a8B,or_false,forall_eq,u,JD,Z];refine aD (j+1,_) ⟨hlt,?_⟩ (by simp only; omega) ?_ b_
   ·rw[e,X];exact N.wz _
   ·exact Lq
  ·have X:gQ l g.2=(0,(aG l 3 g.2).2):=by unfold gQ; simp only[c,if_false]
   simp only[go_sem,bF (show ¬ (((aG l 3 g.2).1:Nat):Int)=0 by omega),JD,Z];refine aD (j+1,_) ⟨hlt,?_⟩ (by simp only; omega) ?_ b_
   ·rw[aIY (pre:=pre) (post:=post) (s:=g.1) d Om] at M;rw[e,X];exact M
   ·exact Lq
 ·have:j=4:=Om;subst this;simp only[go_sem,show ¬ ((4+1:Nat):Int)<5 by decide];exact hK _ _ ⟨by simp only[go_sem],by simp only[go_sem],by simp only[go_sem],by simp only[go_sem],by simp only[go_sem],by simp only[go_sem],by simp only[go_sem],by simp only[go_sem]⟩ Sq y
theorem aN.pE {E:FE} {v ext c d e i l p:PV} {a:Nat} {H:PH} {B:List BX} {L:List LI} (h:aN H (E.boxes v ext c d e i l p a++B) L) (b:Nat):aN (H.set E.o (bN v b)) (E.boxes v ext c d e i l p b++B) L:=h.set 0 rfl _
abbrev c8 (s:List UInt8) (k m q:Int) (w r c d e:PV) (h:RF):List PV:=[.str s,.int .i64 k,.int .i64 m,.int .i64 q,.int .i64 0,.int .i64 0,.int .i64 0,.int .i64 0,.int .i64 0,w,r,c,d,e,.bool h.neg,aJ h.num,aJ h.den]
theorem aGT {C : Ctx} (Lb : mA C) {l : List Nat} {v : PV} (T : Tp l v) (E : FE) (mc n i a : Nat) (ha : a ≤ l.length) (hi : i < 50) (ext w1 w2 w3 w4 w5 w6 : PV) (L : List LI) (rest : aC) (K : bR) (F : PF) (H : PH)
    (hF : PAt E mc n i F) (hH : aN H (E.boxes v ext w1 w2 w3 w4 w5 w6 a) L)
    (hK : ∀ p F' H', PAt E mc n i F' → F' 15 = some (.ptr p 17 0 0) →
      (let k := aG l 2 a; let m := aG l 3 k.2; let h := aG l 4 m.2; let q := aG l (m.1 + 1) h.2; let r := kC l q.2 (max m.1 1); let g := aG l 9 r.2
       aN H' (E.boxes v ext w1 w2 w3 w4 w5 w6 g.2 ++ [(p, .rows 17 [qR [.str ([112] ++ bZ i), .int .i64 (1 + k.1 : Nat), .int .i64 (m.1 : Nat), .int .i64 (1 + k.1 + q.1 : Nat), .int .i64 0]
        ([.aB, frs r.1] ++ (mkT (g.1 : Nat) 8).cells ++ (mkT ((1 + h.1 : Nat) : Int) 1).cells) []])]) L) → aC.wp C rest K F' H') :
    aC.wp C (.seq (.region JB) (.seq (.seq (.draw wZ) (.draw xA)) (.seq (.region xB) (.seq (.region xC) rest)))) K F H := by
  obtain ⟨f0, f1, f2, f6, f7, f11, f13, f14⟩ := hF;have nk := cJ l (show 0 < 2 by decide) a;have ak := bT l 2 ha;have nm := cJ l (show 0 < 3 by decide) (aG l 2 a).2;have am := bT l 3 ak;simp only at hK;generalize hk : aG l 2 a = k at *
  generalize hm : aG l 3 k.2 = m at *
  have nh := cJ l (show 0 < 4 by decide) m.2;have ah := bT l 4 am;generalize hh : aG l 4 m.2 = h at *
  have nq := cJ l (Om : 0 < m.1 + 1) h.2;have aq := bT l (m.1 + 1) ah;generalize hq : aG l (m.1 + 1) h.2 = q at *
  have ar := GF l aq (max m.1 1);generalize hr : kC l q.2 (max m.1 1) = r at *
  have ng := cJ l (show 0 < 9 by decide) r.2;have ag := bT l 9 ar;generalize hg : aG l 9 r.2 = g at *
  have ek : IntKind.i64.wrap (1 + (k.1 : Int)) = ((1 + k.1 : Nat) : Int) := by rw [wrap_i64 Om Om]; omega
  have eh : IntKind.i64.wrap (1 + (h.1 : Int)) = ((1 + h.1 : Nat) : Int) := by rw [wrap_i64 Om Om]; omega
  have em : IntKind.i64.wrap ((m.1 : Int) + 1) = ((m.1 + 1 : Nat) : Int) := cZ Om;have eq' : IntKind.i64.wrap (((1 + k.1 : Nat) : Int) + (q.1 : Int)) = ((1 + k.1 + q.1 : Nat) : Int) := by rw [wrap_i64 Om Om]; omega
  have h0 : aN H (E.boxes v ext w1 w2 w3 w4 w5 w6 a ++ []) L := by rw [a9G]; exact hH
  simp only[go_sem,JB,f14];refine aA (Lb.name [112] i (by decide) Om) rfl ?_;simp only[go_sem,f0];refine dM Lb.toAU T (o := E.o) (n := 2) (a := a) (by decide) ha rfl (h0.at 0 rfl) ?_;have g1 := h0.pE k.2;rw [hk];simp only[go_sem,ek,f0];refine dM Lb.toAU T (o := E.o) (n := 3) (a := k.2) (by decide) ak rfl (g1.at 0 rfl) ?_;have g2 := g1.pE m.2;rw [hm];rw [PH.set_set] at g2;simp only[go_sem,f0];refine dM Lb.toAU T (o := E.o) (n := 4) (a := m.2) (by decide) am rfl (g2.at 0 rfl) ?_;have g3 := g2.pE h.2;rw [hh];rw [PH.set_set] at g3;simp only[go_sem,eh];refine aA (Lb.int ((1 + h.1 : Nat) : Int) (by unfold dB; omega)) rfl ?_;simp only[go_sem,a7T,a8B,or_false,forall_eq,forall_eq_or_imp];refine aR fun p hp => ?_;have g4 := g3.new hp (.rows 17 [c8 ([112] ++ bZ i) (1 + k.1 : Nat) (m.1 : Nat) 0 .aB .aB (.bool false) .aB .aB (mkT ((1 + h.1 : Nat) : Int) 1)]);have hpo : ¬ p = E.o := g4.ne 3 0 rfl rfl (by decide);have hop : ¬ E.o = p := fun e => hpo e.symm;have q2 : ∀ (F2 : PF) (H2 : PH), PAt E mc n i F2 → F2 15 = some (.ptr p 17 0 0) → aN H2 (E.boxes v ext w1 w2 w3 w4 w5 w6 h.2 ++ [(p, .rows 17 [c8 ([112] ++ bZ i) (1 + k.1 : Nat) (m.1 : Nat) 0 .aB .aB (.bool false) .aB .aB (mkT ((1 + h.1 : Nat) : Int) 1)])]) L →
      aC.wp C (.seq (.seq (.draw wZ) (.draw xA)) (.seq (.region xB) (.seq (.region xC) rest))) K F2 H2 := by
    intro F2 H2 hF2 f15 hH2;obtain ⟨f0, f1, f2, f6, f7, f11, f13, f14⟩ := hF2;have bp := hH2.at 3 rfl;have hHs : (PH.nil.set p (.rows 17 [c8 ([112] ++ bZ i) (1 + k.1 : Nat) (m.1 : Nat) 0 .aB .aB (.bool false) .aB .aB (mkT ((1 + h.1 : Nat) : Int) 1)])).le H2 := PH.aK a_ bp;simp only[go_sem];refine bW _ (mkS l v) hHs ?_;simp only[go_sem,wZ,f15,bp,em,f0];refine rI Lb.toAU T (o := E.o) (n := m.1 + 1) (a := h.2) Om ah rfl (hH2.at 0 rfl) ?_ ?_
    · rw [hq]; exact PH.aK a_ ((hH2.pE q.2).at 3 rfl)
    rw [hq];have g5 := hH2.pE q.2;simp only[go_sem,eq',f15];refine bW .nil eT a_ ?_;simp only[go_sem,xA,hpo,bp];refine ⟨a_, ?_⟩;have g6 : aN _ (E.boxes v ext w1 w2 w3 w4 w5 w6 q.2 ++ [(p, .rows 17 [c8 ([112] ++ bZ i) (1 + k.1 : Nat) (m.1 : Nat) (1 + k.1 + q.1 : Nat) .aB .aB (.bool false) .aB .aB (mkT ((1 + h.1 : Nat) : Int) 1)])]) L := g5.set 3 rfl (.rows 17 [c8 ([112] ++ bZ i) (1 + k.1 : Nat) (m.1 : Nat) (1 + k.1 + q.1 : Nat) .aB .aB (.bool false) .aB .aB (mkT ((1 + h.1 : Nat) : Int) 1)]);have bq := g6.at 3 rfl;simp only[go_sem,xB,f0,f15];refine mQ (Lb.rep l v T E.o q.2 m.1 Om aq) (g6.at 0 rfl) rfl ?_;have g7 := g6.pE r.2;rw [hr];simp only[go_sem,hpo,f15];have g8 : aN _ (E.boxes v ext w1 w2 w3 w4 w5 w6 r.2 ++ [(p, .rows 17 [c8 ([112] ++ bZ i) (1 + k.1 : Nat) (m.1 : Nat) (1 + k.1 + q.1 : Nat) .aB (frs r.1) (.bool false) .aB .aB (mkT ((1 + h.1 : Nat) : Int) 1)])]) L := g7.set 3 rfl (.rows 17 [c8 ([112] ++ bZ i) (1 + k.1 : Nat) (m.1 : Nat) (1 + k.1 + q.1 : Nat) .aB (frs r.1) (.bool false) .aB .aB (mkT ((1 + h.1 : Nat) : Int) 1)]);simp only[go_sem,xC,f0];refine dM Lb.toAU T (o := E.o) (n := 9) (a := r.2) (by decide) ar rfl (g8.at 0 rfl) ?_;have g9 := g8.pE g.2;rw [hg];simp only[go_sem];refine aA (Lb.fmk (g.1 : Int) 8 (by unfold dB; omega) (by unfold dB; omega)) rfl ?_;unfold vZ;rw [if_neg (by decide)];simp only[go_sem,f15,hpo];have g10 := g9.set 3 rfl (.rows 17 [qR [.str ([112] ++ bZ i), .int .i64 (1 + k.1 : Nat), .int .i64 (m.1 : Nat), .int .i64 (1 + k.1 + q.1 : Nat), .int .i64 0]
        ([.aB, frs r.1] ++ (mkT (g.1 : Nat) 8).cells ++ (mkT ((1 + h.1 : Nat) : Int) 1).cells) []])
    refine hK p _ _ ⟨by simp only[go_sem,f0], by simp only[go_sem,f1], by simp only[go_sem,f2], by simp only[go_sem,f6], by simp only[go_sem,f7], by simp only[go_sem,f11], by simp only[go_sem,f13], by simp only[go_sem,f14]⟩ (by simp only[go_sem,f15]) g10
  simp only [aC.wp, go_sem] at q2;simp only[go_sem,a7T,a8B,or_false,forall_eq,forall_eq_or_imp];exact q2 _ _ ⟨by simp only[go_sem,f0], by simp only[go_sem,f1], by simp only[go_sem,f2], by simp only[go_sem,f6], by simp only[go_sem,f7], by simp only[go_sem,f11], by simp only[go_sem,f13], by simp only[go_sem,f14]⟩ rfl g4
abbrev FE.lists (p q u w x:PV) (e:List cE) (i:List cT) (c:List cD) (d:List dH) (l:List (List PV)):List LI:=[(p,4,gZ e),(q,4,jR i),(u,7,jY c),(w,3,mE d),(x,17,l)]
theorem aGU {C:Ctx} (Lb:mA C) {l:List Nat} {v:PV} (T:Tp l v) (E:FE) (mc n i a:Nat) (ha:a≤l.length) (η:0<mc) (μ:mc≤50) (ext y A B J w5:PV) (lw:List cE) (md:List cT) (dm:List cD) (dv:List dH) (pr:List (List PV)) (ρ:pr.length≤50)
  (s:List UInt8) (k m q:Int) (r t h:RF) (N:List RF) (p:Nat) (K:bR) (F:PF) (H:PH)
  (hF:PAt E mc n i F) (u:F 15=some (.ptr p 17 0 0))
  (hH:aN H (E.boxes v ext y A B J w5 .aB a++[(p,.rows 17 [qR [.str s,.int .i64 k,.int .i64 m,.int .i64 q,.int .i64 0] ([.aB,frs N]++t.cells++h.cells) []])]) (FE.lists y A B J w5 lw md dm dv pr))
  (V:(let M:=qS l a 4; let f:=aG l mc M.2; let b:=aG l 2 f.2
   let ms:List Int × Nat:=if 1<mc then (if b.1=0 then ([(f.1:Int),1-(f.1:Int)],b.2) else ([(f.1:Int)],b.2)) else ([(f.1:Int)],f.2)
   ∀ (w d:PV) (W:PF) (H':PH) (B':List BX),PAt E mc n i W→(∃ o,w=.osl o 1 0 ms.1.length)→aN H' (E.boxes v ext y A B J d .aB ms.2++B')
    (FE.lists y A B J d lw md dm dv (pr++[wH ⟨s,k,m,q,0,(M.1.getD 0 0),(M.1.getD 1 0),(M.1.getD 2 0),(M.1.getD 3 0),ms.1,N,t,h⟩ w])++[(w,1,aY ms.1)])→K .normal W H')) :
  aC.wp C (.seq (.seq (.region JC) (.block 6 (.loop wY))) (.seq (.region JE) (.seq (.region JF) (.seq (.seq (.region JG) (.cond (.tmp 143) (.region JH) .skip)) (.region xD))))) K F H:=by
 obtain⟨f0,f1,f2,f6,f7,f11,f13,f14⟩:=hF;simp only[go_sem,JC];refine alN (C:=C) Lb T E mc n i a p ha [(E.o7,flB ext y A B J w5 .aB),(E.o6,flZ)] _ _ _ rfl rfl _ _ H ⟨by simp only[go_sem,f0],by simp only[go_sem,f1],by simp only[go_sem,f2],by simp only[go_sem,f6],by simp only[go_sem,f7],by simp only[go_sem,f11],by simp only[go_sem,f13],by simp only[go_sem,f14]⟩ (by simp only[go_sem,u]) rfl hH ?_;clear f0 f1 f2 f6 f7 f11 f13 f14 u hH;intro F1 H1 ε u x;obtain⟨f0,f1,f2,f6,f7,f11,f13,f14⟩:=ε;obtain⟨α,ls⟩:=w9 l ha 4;have ι:∃ O Q R S,(qS l a 4).1=[O,Q,R,S]:=⟨_,_,_,_,rfl⟩;simp only at V;generalize ν:qS l a 4=M at *
 obtain⟨O,Q,R,S,hx⟩:=ι;rw[hx] at V x;replace x:aN H1 (E.boxes v ext y A B J w5 .aB M.2++[(p,.rows 17 [wH ⟨s,k,m,q,0,O,Q,R,S,[],N,t,h⟩ .aB])]) (FE.lists y A B J w5 lw md dm dv pr):=x;have nf:=cJ l η M.2;have af:=bT l mc α;generalize hf:aG l mc M.2=f at *
 have ab:=bT l 2 af;generalize hb:aG l 2 f.2=b at *
 have Z:¬ p=E.o:=x.ne 3 0 rfl rfl (by decide);have θ:¬ p=E.o7:=x.ne 3 1 rfl rfl (by decide);have ο:¬ E.o7=p:=fun e=>θ e.symm;have ξ:¬ E.o7=E.o:=x.ne 1 0 rfl rfl (by decide);simp only[go_sem,JE,f0,f11];refine dM Lb.toAU T (o:=E.o) (n:=mc) (a:=M.2) Om α rfl (x.at 0 rfl) ?_;have h2:=x.set 0 rfl (bN v f.2);rw[hf];simp only[go_sem,JF];refine aR fun o ho=>?_;have h3:=h2.amO (s:=1) (rows:=aY [(f.1:Int)]) ho;have b3:=h3.at 3 rfl;have ob:¬ p=o:=h3.neL 3 5 rfl rfl rfl;have σ:¬ E.o7=o:=h3.neL 1 5 rfl rfl rfl;have τ:¬ E.o=o:=h3.neL 0 5 rfl rfl rfl;simp only[aT,if_neg ob,if_neg Z] at b3;simp only[go_sem,u,ob,Z,b3,a7T,a8B,or_false,forall_eq];have h4:=h3.set 3 rfl (.rows 17 [wH ⟨s,k,m,q,0,O,Q,R,S,[],N,t,h⟩ (.osl o 1 0 1)]);have fin:∀ (w:PV) (ms:List Int) (a':Nat) (W:PF) (H':PH),PAt E mc n i W→W 15=some (.ptr p 17 0 0)→(∃ o,w=.osl o 1 0 ms.length) →
   aN H' (E.boxes v ext y A B J w5 .aB a'++[(p,.rows 17 [wH ⟨s,k,m,q,0,O,Q,R,S,ms,N,t,h⟩ w])]) (FE.lists y A B J w5 lw md dm dv pr++[(w,1,aY ms)]) →
   (∀ (d:PV) (U:PF) (H2:PH),PAt E mc n i U→aN H2 (E.boxes v ext y A B J d .aB a'++[(p,.rows 17 [wH ⟨s,k,m,q,0,O,Q,R,S,ms,N,t,h⟩ w])]) (FE.lists y A B J d lw md dm dv (pr++[wH ⟨s,k,m,q,0,O,Q,R,S,ms,N,t,h⟩ w])++[(w,1,aY ms)])→K .normal U H2) →
   wpOps C xD (K .normal) W H':=by
  intro w ms a' W H' δ u hw Y ζ;obtain⟨wo,rfl⟩:=hw;obtain⟨f0,f1,f2,f6,f7,f11,f13,f14⟩:=δ;have c1:=Y.at 1 rfl;have c3:=Y.at 3 rfl;have γ:(1:Nat)*17≤16777216:=by decide
  simp only[go_sem,xD,f7,u,c1,c3,γ,a7T,a8B,or_false,forall_eq,forall_eq_or_imp];refine Y.append 4 (src:=[wH ⟨s,k,m,q,0,O,Q,R,S,ms,N,t,h⟩ (.osl wo 1 0 ms.length)]) rfl rfl (by unfold roomFor; simp only[a7S,maxLen]; omega) fun d H2 h5 κ=>?_;obtain⟨q5,rfl⟩:=κ (by simp);have c2:=h5.at 1 rfl;simp only[go_sem,c2,a7T,a8B,or_false,forall_eq];exact ζ _ _ _ ⟨by simp only[go_sem,f0],by simp only[go_sem,f1],by simp only[go_sem,f2],by simp only[go_sem,f6],by simp only[go_sem,f7],by simp only[go_sem,f11],by simp only[go_sem,f13],by simp only[go_sem,f14]⟩ (h5.set 1 rfl (flB ext y A B J _ .aB))
 simp only[go_sem,JG,f11];by_cases c:1<mc
 ·have c':(mc:Int)>1:=Om;simp only[go_sem,c',f0];refine dM Lb.toAU T (o:=E.o) (n:=2) (a:=f.2) (by decide) af rfl (h4.at 0 rfl) ?_;have h5:=h4.set 0 rfl (bN v b.2);rw[hb];by_cases c2:b.1=0
  ·have X:(b.1:Int)=0:=Om;rw[if_pos c,if_pos c2] at V;have e1:IntKind.i64.wrap (1-(f.1:Int))=1-(f.1:Int):=wrap_i64 Om Om;have c3:=h5.at 3 rfl;have β:(1:Nat)*1≤16777216:=by decide
   simp only[go_sem,bL X,JH,u,Z,e1,β];refine h5.append 5 (src:=[[.int .i64 (1-(f.1:Int))]]) rfl rfl (by unfold roomFor; simp only[aY,a7G,a7S,maxLen]; omega) fun w' H2 h6 hw=>?_;obtain⟨q2,rfl⟩:=hw (by simp);have c4:=h6.at 3 rfl;simp only[go_sem,c4,u,a7T,a8B,or_false,forall_eq];have h7:=h6.set 3 rfl (.rows 17 [wH ⟨s,k,m,q,0,O,Q,R,S,[(f.1:Int),1-(f.1:Int)],N,t,h⟩ (.osl q2 1 0 2)]);exact fin (.osl q2 1 0 2) [(f.1:Int),1-(f.1:Int)] b.2 _ _ ⟨by simp only[go_sem,f0],by simp only[go_sem,f1],by simp only[go_sem,f2],by simp only[go_sem,f6],by simp only[go_sem,f7],by simp only[go_sem,f11],by simp only[go_sem,f13],by simp only[go_sem,f14]⟩ (by simp only[go_sem,u]) ⟨q2,rfl⟩ h7 (fun d U H2 g1 g2=>V _ d U H2 _ g1 ⟨q2,rfl⟩ g2)
  ·have X:¬ (b.1:Int)=0:=Om;rw[if_pos c,if_neg c2] at V;simp only[go_sem,bF X];exact fin (.osl o 1 0 1) [(f.1:Int)] b.2 _ _ ⟨by simp only[go_sem,f0],by simp only[go_sem,f1],by simp only[go_sem,f2],by simp only[go_sem,f6],by simp only[go_sem,f7],by simp only[go_sem,f11],by simp only[go_sem,f13],by simp only[go_sem,f14]⟩ (by simp only[go_sem,u]) ⟨o,rfl⟩ h5 (fun d U H2 g1 g2=>V _ d U H2 _ g1 ⟨o,rfl⟩ g2)
 ·have c':¬ (mc:Int)>1:=Om;rw[if_neg c] at V;simp only[go_sem,c'];exact fin (.osl o 1 0 1) [(f.1:Int)] f.2 _ _ ⟨by simp only[go_sem,f0],by simp only[go_sem,f1],by simp only[go_sem,f2],by simp only[go_sem,f6],by simp only[go_sem,f7],by simp only[go_sem,f11],by simp only[go_sem,f13],by simp only[go_sem,f14]⟩ (by simp only[go_sem,u]) ⟨o,rfl⟩ h4 (fun d U H2 g1 g2=>V _ d U H2 _ g1 ⟨o,rfl⟩ g2)
abbrev lN (l:List bS):List (List PV):=l.map bS.cells
abbrev oF (l:List eW):List (List PV):=l.map eW.cells
theorem qI {rows:List (List PV)} (h:∀ r∈rows,∀ c∈r,c.oid=none):Flat rows:=Flat.of fun r e c d q s rs=>jp (h r e c d) q s rs
theorem aaR (l:List cE):Flat (gZ l):=qI fun r e c d=>by
 obtain⟨x,_,rfl⟩:=a8J.1 e;simp only[cE.cells,a7T,a8B,or_false] at d;rcases d with rfl | rfl | rfl | rfl<;>rfl
theorem aaS (l:List cT):Flat (jR l):=qI fun r e c d=>by
 obtain⟨x,_,rfl⟩:=a8J.1 e;simp only[cT.cells,a7T,a8B,or_false] at d;rcases d with rfl | rfl | rfl | rfl<;>rfl
theorem Yh (l:List cD):Flat (jY l):=qI fun r e c d=>by
 obtain⟨x,_,rfl⟩:=a8J.1 e;simp only[cD.cells,a7T,a8B,or_false] at d;rcases d with rfl | rfl | rfl | rfl | rfl | rfl | rfl<;>rfl
theorem Yj (l:List dH):Flat (mE l):=qI fun r e c d=>by
 obtain⟨x,_,rfl⟩:=a8J.1 e;simp only[dH.cells,a7T,a8B,or_false] at d;rcases d with rfl | rfl | rfl<;>rfl
theorem aTW (l:List eW):Flat (oF l):=qI fun r e c d=>by
 obtain⟨x,_,rfl⟩:=a8J.1 e;simp only[eW.cells,a7T,a8B,or_false] at d;rcases d with rfl | rfl<;>rfl
theorem adO (l:List bS):Flat (lN l):=qI fun r e c d=>by
 obtain⟨x,_,rfl⟩:=a8J.1 e;simp only[bS.cells,a7T,a8B,or_false] at d;rcases d with rfl | rfl | rfl | rfl | rfl | rfl | rfl | rfl | rfl | rfl | rfl | rfl | rfl | rfl | rfl | rfl | rfl<;>rfl
theorem anA (l:List Nat) (mc i:Nat) {a:Nat} (h:a≤l.length):(lY l mc i a).2≤l.length:=by
 have d:=bT l 9 (GF l (bT l ((aG l 3 (aG l 2 a).2).1+1) (bT l 4 (bT l 3 (bT l 2 h)))) (max (aG l 3 (aG l 2 a).2).1 1));have c:=bT l mc (tL l (tL l (tL l (tL l d))));unfold lY;simp only;split
 ·split
  ·exact bT l 2 c
  ·exact bT l 2 c
 ·exact c
theorem zV (l:List Nat) (mc:Nat) {a:Nat} (h:a≤l.length):∀ k,(dU l mc a k).2≤l.length∧(dU l mc a k).1.length=k
 | 0=>⟨h,rfl⟩
 | k+1=>by obtain⟨c,d⟩:=zV l mc h k;exact⟨anA l mc k c,by simp only[dU,a7O,a7S,d]⟩
theorem YP (l:List Nat) (pc:Nat) {a:Nat} (h:a≤l.length):∀ k,(eM l pc a k).2≤l.length∧(eM l pc a k).1.length=k
 | 0=>⟨h,rfl⟩
 | k+1=>by obtain⟨c,d⟩:=YP l pc h k;exact⟨bT l pc c,by simp only[eM,a7O,a7S,d]⟩
theorem Ol {C:Ctx} (Lb:mA C) {l:List Nat} {v:PV} (T:Tp l v) (E:FE) (mc n a:Nat) (hn:n≤10) (η:0<mc) (X:mc≤50) (ha:a≤l.length) (M:Int) (d e q u:PV) (Q:List cE) (R:List cT) (N:List cD) (O:List dH) (K:bR) (F:PF) (H:PH)
  (B:PAt E mc n 0 F) (U:aN H (E.boxes v (.int .i64 M) d e q u .aB .aB a) [(d,4,gZ Q),(e,4,jR R),(q,7,jY N),(u,3,mE O)])
  (hK:∀ S F' H',(fP E).le F'→aN H' (E.boxes v (.int .i64 M) d e q u S .aB (dU l mc a n).2) (FE.lists d e q u S Q R N O (lN (dU l mc a n).1))→K (.exit 4) F' H') :
  aC.wp C (.loop IZ) K F H:=by
 refine wp_loop (α:=Nat × PV × PH) (fun t=>u7 E mc n t.1) (fun t=>t.2.2) (fun t=>t.1≤n∧aN t.2.2 (E.boxes v (.int .i64 M) d e q u t.2.1 .aB (dU l mc a t.1).2) (FE.lists d e q u t.2.1 Q R N O (lN (dU l mc a t.1).1))) (fun t=>n-t.1) (0,.aB,H) ⟨a7N _,U.nB 17⟩ ?_ b_ ?_
 ·unfold u7 fP
  (repeat' (first|exact c_|refine d_ ?_ ?_))<;>first|(simp only[go_sem,B.f0,B.f1,B.f2,B.f6,B.f7,B.f11,B.f13,B.f14]<;>rfl)|rfl
 rintro⟨i,S,H0⟩ ⟨hi,U⟩;simp only at hi U ⊢;obtain⟨k1,k2⟩:=zV l mc ha i;have A:dU l mc a (i+1)=((dU l mc a i).1++[(lY l mc i (dU l mc a i).2).1],(lY l mc i (dU l mc a i).2).2):=rfl;simp only[go_sem,IZ,ku,u7,fP];by_cases hlt:i<n
 ·have y:(i:Int)<(n:Nat):=Om;generalize hg:dU l mc a i=g at *
  simp only[go_sem,y];refine aGT (C:=C) Lb T E mc n i g.2 k1 Om (.int .i64 M) d e q u S .aB _ _ _ _ H0 ⟨by simp only[go_sem],by simp only[go_sem],by simp only[go_sem],by simp only[go_sem],by simp only[go_sem],by simp only[go_sem],by simp only[go_sem],by simp only[go_sem]⟩ U ?_;intro p F1 H1 β Z V;simp only at V;have θ:lY l mc i g.2=_:=rfl;have W:=bT l 9 (GF l (bT l ((aG l 3 (aG l 2 g.2).2).1+1) (bT l 4 (bT l 3 (bT l 2 k1)))) (max (aG l 3 (aG l 2 g.2).2).1 1));refine aGU (C:=C) Lb T E mc n i _ W η X (.int .i64 M) d e q u S Q R N O _ (by rw[a7G,k2]; omega) _ _ _ _ (mkT 0 1) _ _ _ p _ F1 H1 β Z V ?_;intro J f b ms w c F2 H2 B' γ hw δ;obtain⟨o,rfl⟩:=hw;have hP:lY l mc i g.2=(⟨[112]++bZ i,(1+(aG l 2 g.2).1:Nat),((aG l 3 (aG l 2 g.2).2).1:Nat),(1+(aG l 2 g.2).1+(aG l ((aG l 3 (aG l 2 g.2).2).1+1) (aG l 4 (aG l 3 (aG l 2 g.2).2).2).2).1:Nat),0,J.1.getD 0 0,J.1.getD 1 0,J.1.getD 2 0,J.1.getD 3 0,ms.1,(kC l (aG l ((aG l 3 (aG l 2 g.2).2).1+1) (aG l 4 (aG l 3 (aG l 2 g.2).2).2).2).2 (max (aG l 3 (aG l 2 g.2).2).1 1)).1,mkT ((aG l 9 (kC l (aG l ((aG l 3 (aG l 2 g.2).2).1+1) (aG l 4 (aG l 3 (aG l 2 g.2).2).2).2).2 (max (aG l 3 (aG l 2 g.2).2).1 1)).2).1:Nat) 8,mkT ((1+(aG l 4 (aG l 3 (aG l 2 g.2).2).2).1:Nat):Int) 1⟩,ms.2):=rfl;rw[hP] at A;generalize ε:(⟨[112]++bZ i,(1+(aG l 2 g.2).1:Nat),((aG l 3 (aG l 2 g.2).2).1:Nat),(1+(aG l 2 g.2).1+(aG l ((aG l 3 (aG l 2 g.2).2).1+1) (aG l 4 (aG l 3 (aG l 2 g.2).2).2).2).1:Nat),0,J.1.getD 0 0,J.1.getD 1 0,J.1.getD 2 0,J.1.getD 3 0,ms.1,(kC l (aG l ((aG l 3 (aG l 2 g.2).2).1+1) (aG l 4 (aG l 3 (aG l 2 g.2).2).2).2).2 (max (aG l 3 (aG l 2 g.2).2).1 1)).1,mkT ((aG l 9 (kC l (aG l ((aG l 3 (aG l 2 g.2).2).1+1) (aG l 4 (aG l 3 (aG l 2 g.2).2).2).2).2 (max (aG l 3 (aG l 2 g.2).2).1 1)).2).1:Nat) 8,mkT ((1+(aG l 4 (aG l 3 (aG l 2 g.2).2).2).1:Nat):Int) 1⟩:bS)=P at *
  have ζ:P.a5W=ms.1:=by rw[← ε]
  obtain⟨rs,z1,z2,z3,Y,z5⟩:=δ.frz 5 rfl;have y1:=Y 0 _ (by decide) rfl;have y2:=Y 1 _ (by decide) rfl;have y3:=Y 2 _ (by decide) rfl;have y4:=Y 3 _ (by decide) rfl;have y5:=Y 4 _ (by decide) rfl;simp only at y1 y2 y3 y4 y5;have y0:=T.frz o 1 rs;obtain⟨f0,f1,f2,f6,f7,f11,f13,f14⟩:=γ;simp only[go_sem,kz,f14,wZz i];refine Ap (i+1,c,H2.frz o 1 rs) z1 ⟨hlt,?_⟩ (by simp only; omega) ?_ b_
  ·rw[A];have eB:(E.boxes v (.int .i64 M) d e q u c .aB ms.2).map (fun b=>(b.1,b.2.frz o 1 rs))=E.boxes v (.int .i64 M) d e q u c .aB ms.2:=by show [(E.o,cG.rows 2 [[PV.dE o 1 rs v,.int .i64 ms.2]]),(E.o7,cG.rows 7 [[.int .i64 M,PV.dE o 1 rs d,PV.dE o 1 rs e,PV.dE o 1 rs q,PV.dE o 1 rs u,PV.dE o 1 rs c,.aB]]),(E.o6,flZ)]=_;rw[y0,y1,y2,y3,y4,y5]
   have e5:(lN g.1++[wH P (.osl o 1 0 ms.1.length)]).map (fun r=>r.map (PV.dE o 1 rs))=lN (g.1++[P]):=by
    rw[a8G,adO];have:([wH P (.osl o 1 0 ms.1.length)]:List (List PV)).map (fun r=>r.map (PV.dE o 1 rs))=[P.cells]:=by show [[PV.str P.name,.int .i64 P.k,.int .i64 P.m,.int .i64 P.a6T,.int .i64 P.s0,.int .i64 P.s1,.int .i64 P.s2,.int .i64 P.s3,.int .i64 P.s4,PV.dE o 1 rs (.osl o 1 0 ms.1.length),frs P.repair,.bool P.target.neg,aJ P.target.num,aJ P.target.den,.bool P.a6F.neg,aJ P.a6F.num,aJ P.a6F.den]]=_;rw[z2,← ζ];rfl
    rw[this];simp[lN]
   have eL:(FE.lists d e q u c Q R N O (lN g.1++[wH P (.osl o 1 0 ms.1.length)])).map (fun x=>(x.1,x.2.1,x.2.2.map fun r=>r.map (PV.dE o 1 rs)))=FE.lists d e q u c Q R N O (lN (g.1++[P])):=by show [(d,4,(gZ Q).map _),(e,4,(jR R).map _),(q,7,(jY N).map _),(u,3,(mE O).map _),(c,17,(lN g.1++[wH P (.osl o 1 0 ms.1.length)]).map _)]=_;rw[aaR,aaS,Yh,Yj,e5]
   rw[← eB,← eL];exact z5.sub (by rw[a8G]; exact List.sublist_append_left ..) (a9K.refl _)
  ·(repeat' (first|exact c_|refine d_ ?_ ?_))<;>first|(simp only[go_sem,f0,f1,f2,f6,f7,f11,f13]<;>rfl)|rfl
 ·have y:¬ (i:Int)<(n:Nat):=Om;have:i=n:=Om;subst this;simp only[go_sem,y];exact hK S _ _ (UZ Sq Sq Sq Sq Sq) U
end Go.PM
