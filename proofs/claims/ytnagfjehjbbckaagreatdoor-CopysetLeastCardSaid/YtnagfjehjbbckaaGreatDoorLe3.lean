/-
  Texts of ours, joined: FlPlain FlW2 FlW3 FlW4 FlW5 FlW6 FlW7 FlW8 FlW9 ToPlain ToCode ToW1 ToW2 Pm34 ToW3 ToW4 ToW5 ToW6 ToW7 ToW8 ToW9 ToW10 MkCode R1Code R1W1 R1W2 R1W3 R1W4 MkPlain MkW1 Pm35 Pm36 MkW2 MkW3 MkW4 MkW5 MkW6. No condition.
-/
import Derived.Test.YtnagfjehjbbckaaGreatDoorLe1
import Derived.Test.YtnagfjehjbbckaaGreatDoorLe2
import Derived.Lib.ItoaNum
set_option linter.unusedSimpArgs false
set_option linter.unusedVariables false
open Nat renaming reduceEqDiff → γ, reduceAdd → δ, reduceSub → ε, reduceMul → ζ, reduceLT → η, reduceLeDiff → θ, reduceBEq → τ
open Int renaming reduceLT → ι, reduceLE → κ, reduceEq → μ, reduceToNat → ν, reduceAdd → ξ, reduceNeg → ο, reduceBEq → ρ, reduceBNe → σ
open List renaming reduceReplicate → υ
open List renaming length_map → a1K, replicate → a1M, getElem_mem → a1N, length_append → a1P, mem_cons → a1R, range → a1S, length_singleton → a1T, getElem?_eq_getElem → a1V, length_take → a2A, not_mem_nil → a2B, take_of_length_le → a2C, all_eq_true → a2F, mem_map → a2G, getElem?_map → a2K, getD_eq_getElem?_getD → a2L, map_append → a2N, take_length → a2O, getElem?_eq_some_iff → a2P, drop_zero → a2S, append_assoc → a2T, map_cons → a2Y, getElem?_eq_none → a2Z, mem_append → a3A, mem_range → a3B, getElem_of_mem → a3D, length_cons → a3E, range' → a3H, take_succ_eq_append_getElem → a3I, append_nil → a3J, drop_eq_getElem_cons → a3K, getElem_map → a3L, length_drop → a3M, Sublist → a3N, mem_singleton → a3O, map_nil → a3Q, mem_of_getElem? → a3R, length_set → a3U, getElem?_append_left → a3Y, length_nil → a3Z, nodup_append → a4C, getElem?_append_right → a4E, take_append_drop → a4H, ext_getElem → a4O, set_append_right → a4P, set_cons_zero → a4R, getElem?_take → a4U, map_congr_left → a4V, drop_of_length_le → a5C, getElem_append_right → a5D
open Nat renaming gcd → a1L, le_refl → a1O, mul_add → a1U, zero_le → a1X, lt_or_ge → a2D, mul_assoc → a2E, zero_add → a2H, mul_comm → a2M, mul_le_mul_right → a2Q, add_mul → a2R, mod_eq_of_lt → a2U, le_trans → a2X, mod_lt → a3C, pow_succ → a3F, add_zero → a3S, add_assoc → a3V, min_eq_left → a3W, mul_le_mul_left → a3X, pos_of_ne_zero → a4A, eq_zero_or_pos → a4D, pow_pos → a4F, div_le_self → a4I, succ_mul → a4J, div_lt_iff_lt_mul → a4L, mul_le_mul → a4S, div_add_mod → a4W, div_eq_of_lt → a4X, pow_le_pow_right → a4Y
open Option renaming map_eq_some_iff → a1Q, map_some → a2V, some → a3T, getD_some → a4G, bind_eq_some_iff → a4Z, bind_some → a5A
open Bool renaming not_true → a1W, false_and → a1Y, and_eq_true → a1Z, not_false → a2I, true_and → a2J, and_false → a2W, and_true → a4B, false_eq_true → a4K, and_self → a4N
open Array renaming replicate → a3G, length_toList → a4M, getElem?_eq_some_iff → a4Q, getElem?_eq_getElem → a4T, getD_eq_getD_getElem? → a5B
open Int renaming toNat_natCast → a3P
namespace Go.PM
open Go Go.Na
abbrev cL (x:Int):Prop:=-9223372036854775808≤x∧x≤9223372036854775807
structure cS where
 name:List UInt8
 start:List RF
 a0E:List (List RF)
 exit:List RF
structure dP where
 name:List UInt8
 a0P:Int
 port:Int
 law:Int
structure cN where
 name:List UInt8
 level:Int
 parent:Int
 a0T:Int
 a0O:RF
structure cZ where
 name:List UInt8
 model:Int
 machine:Int
structure cB where
 name:List UInt8
 k:Int
 m:Int
 a0X:Int
 s0:Int
 s1:Int
 s2:Int
 s3:Int
 s4:Int
 a0A:List Int
 repair:List RF
 target:RF
 a0J:RF
structure iU where
 name:List UInt8
 a0L:Int
structure aJ where
 a1D:Int
 a0G:List cS
 a0A:List dP
 a0C:List cN
 aZZ:List cZ
 a0D:List cB
 a0B:List iU
abbrev I (x:Int):PV:=.int .i64 x
abbrev abC (l:List (List RF)):PV:=.sl 1 (l.map fun r=>[frs r])
abbrev cS.cells (x:cS):List PV:=[.str x.name,frs x.start,abC x.a0E,frs x.exit]
abbrev dP.cells (x:dP):List PV:=[.str x.name,.int .i64 x.a0P,.int .i64 x.port,.int .i64 x.law]
abbrev cN.cells (x:cN):List PV:=[.str x.name,.int .i64 x.level,.int .i64 x.parent,.int .i64 x.a0T,.bool x.a0O.neg,aG x.a0O.num,aG x.a0O.den]
abbrev cZ.cells (x:cZ):List PV:=[.str x.name,.int .i64 x.model,.int .i64 x.machine]
abbrev cB.cells (x:cB):List PV:=[.str x.name,.int .i64 x.k,.int .i64 x.m,.int .i64 x.a0X,.int .i64 x.s0,.int .i64 x.s1,.int .i64 x.s2,.int .i64 x.s3,.int .i64 x.s4,ints x.a0A,frs x.repair,
 .bool x.target.neg,aG x.target.num,aG x.target.den,.bool x.a0J.neg,aG x.a0J.num,aG x.a0J.den]
abbrev iU.cells (x:iU):List PV:=[.str x.name,.int .i64 x.a0L]
abbrev aJ.cells (f:aJ):List PV:=[.int .i64 f.a1D,.sl 4 (f.a0G.map cS.cells),.sl 4 (f.a0A.map dP.cells),.sl 7 (f.a0C.map cN.cells),.sl 3 (f.aZZ.map cZ.cells),.sl 17 (f.a0D.map cB.cells),.sl 2 (f.a0B.map iU.cells)]
def cB.spread (p:cB) (level:Nat):Int:=match level with
 | 0=>p.s0
 | 1=>p.s1
 | 2=>p.s2
 | 3=>p.s3
 | _=>p.s4
abbrev Fits {α:Type} (l:List α):Prop:=l.length≤9223372036854775807
structure nG (l:List RF):Prop where
 fits:Fits l
 all:∀ x∈l,x.Ok
structure cS.Ok (x:cS):Prop where
 start:nG x.start
 exit:nG x.exit
 a0E:Fits x.a0E
 row:∀ r∈x.a0E,nG r
structure cB.Ok (x:cB):Prop where
 k:cL x.k
 m:cL x.m
 a0X:cL x.a0X
 a0A:Fits x.a0A
 each:∀ m∈x.a0A,cL m
 repair:nG x.repair
 target:x.target.Ok
 a0J:x.a0J.Ok
structure aJ.Ok (f:aJ):Prop where
 a0G:Fits f.a0G
 a0A:Fits f.a0A
 a0C:Fits f.a0C
 aZZ:Fits f.aZZ
 a0D:Fits f.a0D
 a0B:Fits f.a0B
 law:∀ x∈f.a0G,x.Ok
 dom:∀ x∈f.a0C,x.a0O.Ok∧cL x.level∧cL x.parent
 drive:∀ x∈f.aZZ,cL x.model∧cL x.machine
 a0L:∀ x∈f.a0D,x.Ok
 volume:∀ x∈f.a0B,cL x.a0L
def mB (x:RF):FR:=if cG (val x.num) (val x.den) then gD x.neg (val x.num) (val x.den) else .error 1
theorem ic (x:RF):QZ x.neg (val x.num) (val x.den)=frV (mB x):=by
 unfold QZ mB;split
 ·exact QQ _ _ _
 ·rfl
def eT (x:RF):Bool:=match mB x with
 | .ok (n,a,b)=>!n&&(decide (cJ a≤32)&&decide (cJ b≤32))
 | .error _=>false
def bS (x:RF):Bool:=decide (val x.num≠0)
def XD (x:RF):Bool:=cG (val x.num) (val x.den)&&decide (pP x.neg (val x.num) (val x.den) false 1 1≤0)
def within (n lo hi:Int):Bool:=decide (lo≤n)&&decide (n≤hi)
def dS (R:List Bool) (i:Nat) (row:List RF):Nat→List Bool
 | 0=>R
 | k+1=>let c:=dS R i row k
  c.set i (c.getD i false||(row.map bS).getD k false&&c.getD k false)
def kX (l:cS) (R:List Bool) (i:Nat):List Bool :=
 dS (R.set i (R.getD i false||(l.exit.map bS).getD i false)) i (l.a0E.getD i []) (l.a0E.getD i []).length
def eU (l:cS) (R:List Bool):Nat→List Bool
 | 0=>R
 | i+1=>kX l (eU l R i) i
def gI (l:cS):Nat→List Bool
 | 0=>a1M l.exit.length false
 | r+1=>eU l (gI l r) l.exit.length
def rU (l:cS):Bool:=(gI l (l.exit.length+1)).all id
def qN (l:cS):Bool :=
 within l.start.length 1 4&&decide (l.exit.length=l.start.length)&&decide (l.a0E.length=l.start.length)&&l.start.all eT&&l.exit.all eT
 && (a1S l.a0E.length).all (fun i=>decide ((l.a0E.getD i []).length=l.start.length)&&(l.a0E.getD i []).all eT&&!((l.a0E.getD i []).map bS).getD i false)
 && (match pS (l.start.map RF.v) with
  | .ok (n,a,b)=>decide (pP n a b false 1 1=0)
  | .error _=>false)&&rU l
def distinct (l:List (List UInt8)):Bool:=(a1S l.length).all fun i=>isName (l.getD i [])&&!(l.take i).contains (l.getD i [])
def UG (f:aJ) (i:Nat) (d:cN):Bool :=
 within d.parent 0 i&&decide ((f.a0C.map cN.level).getD d.parent.toNat 0=IntKind.i64.wrap (d.level-1))&&within d.level 1 4&&within d.a0T 1 64&&eT d.a0O
def QE (f:aJ) (r:cN) (t:List cN):Bool :=
 decide (r.name=[])&&decide (r.level=0)&&decide (r.parent=-1)&&decide (r.a0T=0)&&eT r.a0O&&!bS r.a0O
  && (a1S t.length).all fun i=>match t[i]? with
   | some d=>UG f i d
   | none=>false
def nS (f:aJ):Bool:=match f.a0C with
 | []=>false
 | r::t=>QE f r t
def XB (p:cB):Bool :=
 within p.k 1 6&&within p.m 0 4&&decide (p.k+p.m≤8)&&within p.a0X p.k (p.k+p.m)&&decide (p.s0=0)&&([p.s0,p.s1,p.s2,p.s3,p.s4].all fun n=>within n 0 8)
def QY (p:cB):Bool :=
 decide ((p.repair.length:Int)=max p.m 1)&&(p.repair.all fun x=>eT x&&bS x)&&eT p.target&&XD p.target&&eT p.a0J
def jY (a0A:Nat) (p:cB):Bool :=
 XB p&&decide (p.a0A.length≠0)&&QY p&&(a1S p.a0A.length).all fun j=>within (p.a0A.getD j 0) 0 ((a0A:Int)-1)&&!(p.a0A.take j).contains (p.a0A.getD j 0)
def lW (f:aJ) (m:dP):Bool:=within m.a0P 1 16&&within m.port 1 64&&within m.law 0 ((f.a0G.length:Int)-1)
def kB (f:aJ) (d:cZ):Bool:=within d.model 0 ((f.a0A.length:Int)-1)&&within d.machine 0 ((f.a0C.length:Int)-1)&&decide ((f.a0C.map cN.level).getD d.machine.toNat 0=4)
def oQ (f:aJ) (v:iU):Bool:=within v.a0L 0 ((f.a0D.length:Int)-1)
def qB (f:aJ):Bool:=within f.a1D 1 4&&decide (f.a0G.length≤4)&&decide (f.a0A.length≤4)&&decide (f.a0C.length≤40)&&decide (f.aZZ.length≤24)&&decide (f.a0D.length≤4)&&decide (f.a0B.length≤12)
def jP (f:aJ):Bool :=
 qB f&&nS f&&(f.a0G.all qN&&f.a0A.all (lW f)&&f.aZZ.all (kB f)&&f.a0D.all (jY f.a0A.length)&&f.a0B.all (oQ f))
 && (distinct (f.a0G.map cS.name)&&distinct (f.a0A.map dP.name)&&distinct ((f.a0C.drop 1).map cN.name++f.aZZ.map cZ.name)&&distinct (f.a0D.map cB.name)&&distinct (f.a0B.map iU.name))
theorem bB {t:Nat} {b c:Bool} {F:PF} {H:PH} (h:F t=some (.bool b)) (e:b=c):aX [.tmp t] (cD (.bool c)) .ret F H:=by
 subst e;exact aZ (.inr rfl) .nil (vs:=[.bool b]) (by rw[jZ,mM,h,nK]) a_ ⟨.refl _,rfl⟩
theorem ajH {C:Ctx} (n lo hi:Int):xO.wp C (aX gin.res (cD (.bool (within n lo hi)))) (PF.args [.int .i64 n,.int .i64 lo,.int .i64 hi]) .nil:=by
 by_cases a:lo≤n
 ·by_cases b:n≤hi
  ·simp only[go_sem,xO,cl,cn,gin,show n≥lo from a,b];exact bB Ev (by simp[within,a,b])
  ·simp only[go_sem,xO,cl,cn,gin,show n≥lo from a,b];exact bB Ev (by simp[within,a,b])
 ·have c:¬ n≥lo:=a;simp only[go_sem,xO,cl,cn,gin,c];exact bB Ev (by simp[within,a])
theorem rx {C:Ctx} (L:pU C) (x:RF) (c:x.Ok):AN.wp C (aX cj.res (cD (.bool (bS x)))) (PF.args [.agg x.cells]) .nil:=by
 simp only[go_sem,AN,ry,rz,cj];refine aA (L.bits x.num c.1 c.2.2.1) Ev ?_;simp only[go_sem];refine bB Ev ?_;have:=@jN (val x.num);rw[bS,decide_eq_decide];omega
structure yM (C:Ctx):Prop extends yN C where
 frac:∀ n d:Int,cL n→cL d→aF C 115 [.int .i64 n,.int .i64 d] .nil (aH (GL n d))
 red:∀ x:RF,x.Ok→aF C 116 [.agg x.cells] .nil (aH (frV (mB x)))
 ord:∀ x y:RF,x.Ok→y.Ok→aF C 114 [.agg x.cells,.agg y.cells] .nil (aH (vL x.neg (val x.num) (val x.den) y.neg (val y.num) (val y.den)))
 plus:∀ x y:RF,x.Ok→y.Ok→aF C 113 [.agg x.cells,.agg y.cells] .nil (aH (frV (fU x.v y.v)))
 tot:∀ l:List RF,nG l→aF C 117 [frs l] .nil (aH (frV (pS (l.map RF.v))))
theorem GI {neg:Bool} {a b:Nat} {e:Int} (h:gD neg a b=.error e):e=2:=by
 unfold gD at h;split at h
 ·injection h with h; exact h.symm
 ·cases h
theorem Jl {x:RF} {e:Int} (h:mB x=.error e):e≠0:=by
 unfold mB at h;split at h
 ·rw[GI h]; decide
 ·injection h with h; subst h; decide
theorem Va {x:RF} {r:FV} (h:mB x=.ok r):r.rf.Ok:=by
 unfold mB at h;split at h
 ·exact (rZ h).2
 ·cases h
theorem R1 {C:Ctx} (L:yM C) (x:RF) (p:x.Ok):MK.wp C (aX Y1.res (cD (.bool (eT x)))) (PF.args [.agg x.cells]) .nil:=by
 simp only[go_sem,MK,R2,R3,Y1];refine aA (L.red x p) Ev ?_;unfold eT;cases i:mB x with
 | error e =>have:=bF (Jl i);simp only[go_sem,frV];refine aQ fun o l=>?_;simp only[go_sem,QK,this];exact bB Ev rfl
 | ok r =>
  obtain⟨n,a,b⟩:=r;obtain⟨u,w,y,A⟩:=Va i;simp only[go_sem,frV];refine aQ fun o l=>?_;cases n with
  | true =>simp only[go_sem,QK];exact bB Ev rfl
  | false =>
   simp only[go_sem,QK];refine aA (L.bits _ u y) Ev ?_;rw[show val (FV.rf (false,a,b)).num=a from aT a];by_cases d:cJ a≤32
   ·have c:((cJ a:Nat):Int)≤32:=Om;simp only[go_sem,c];refine aA (L.bits _ w A) Ev ?_;rw[show val (FV.rf (false,a,b)).den=b from aT b];simp only[go_sem];refine bB Ev ?_;rw[decide_eq_true d];simp;omega
   ·have c:¬ ((cJ a:Nat):Int)≤32:=Om;simp only[go_sem,c];refine bB Ev ?_;rw[decide_eq_false d];rfl
theorem Gj:gD false 1 1=.ok (false,1,1):=by
 have:cJ 1=1:=by rw[qH (by decide),kK]
 simp[gD,this]
theorem Gl:GL 1 1=frV (.ok (false,1,1)):=by
 rw[GL,if_neg (by decide),QQ];show frV (gD false 1 1)=_;rw[Gj]
theorem alW:(FV.rf (false,1,1)).Ok:=(rZ Gj).2
theorem xp:cG 1 1=true:=by
 have:cJ 1=1:=by rw[qH (by decide),kK]
 simp[cG,this]
theorem R8 {C:Ctx} (L:yM C) (x:RF) (c:x.Ok):MM.wp C (aX gone.res (cD (.bool (XD x)))) (PF.args [.agg x.cells]) .nil:=by
 simp only[go_sem,MM,R9,Sa,gone];refine aA (L.frac 1 1 (by decide) (by decide)) Ev ?_;rw[Gl];simp only[go_sem,frV];refine aQ fun o d=>?_;simp only[go_sem,Sb];refine aA (L.ord x (FV.rf (false,1,1)) c alW) Ev ?_;rw[show val (FV.rf (false,1,1)).num=1 from aT 1,show val (FV.rf (false,1,1)).den=1 from aT 1,show (FV.rf (false,1,1)).neg=false from rfl];unfold vL XD;rw[xp,a4B];cases e:cG (val x.num) (val x.den) with
 | false =>simp only[go_sem,k0];exact bB Ev rfl
 | true =>simp only[go_sem,k0];exact bB Ev rfl
theorem Dn {C:Ctx} (p:RF→Bool) (fn:Nat) (l:List RF) (u:Fits l) (h:∀ x∈l,aF C fn [.agg x.cells] .nil (aH (.bool (p x)))) :
  FH.wp C (aX za.res (cD (.bool (l.all p)))) (PF.args [frs l,.fn fn []]) .nil:=by
 simp only[go_sem,FH,Do,Dp,za];refine wp_loop (α:=Nat) (fun k=>((((PF.nil.set 1 (.fn fn [])).set 7 (frs l)).set 8 (.int .i64 (l.length:Nat))).set 9 (.int .i64 k))) (fun _=>.nil) (fun k=>k≤l.length∧(l.take k).all p=true) (fun k=>l.length-k) 0 ⟨a1X _,rfl⟩ ?_ a_ ?_
 ·(repeat' (first|exact d_|refine c_ ?_ ?_))<;>first|(simp only[go_sem,a1K]<;>rfl)|rfl
 rintro k ⟨w,d⟩;simp only[go_sem,Dm,Dq];by_cases hlt:k<l.length
 ·have c:(k:Int)<(l.length:Nat):=Om;have i:(l.map RF.cells)[k]?=some (l[k]).cells:=by simp[hlt]
  simp only[go_sem,c,Dr,i];refine aQ fun o y=>?_;simp only[go_sem,Ds];refine aA (h _ (a1N hlt)) Ev ?_;cases e:p l[k] with
  | false =>simp only[go_sem,Dt];exact bB (b:=false) Ev (DQ (p:=p) hlt e).symm
  | true =>simp only[go_sem,Du,wZz k];refine aK (k+1) ⟨hlt,a2F.1 (DP hlt d e)⟩ Om ?_ a_;exact Lq
 ·have c:¬ (k:Int)<(l.length:Nat):=Om;simp only[go_sem,c,Dv];have:k=l.length:=Om;subst this;rw[a2C (a1O _)] at d;exact bB Ev d.symm
theorem Dx {C:Ctx} (p:Int→Bool) (fn:Nat) (l:List Int) (u:Fits l) (h:∀ x∈l,aF C fn [.int .i64 x] .nil (aH (.bool (p x)))) :
  FI.wp C (aX zb.res (cD (.bool (l.all p)))) (PF.args [ints l,.fn fn []]) .nil:=by
 simp only[go_sem,FI,Dy,Dz,zb];refine wp_loop (α:=Nat) (fun k=>((((PF.nil.set 1 (.fn fn [])).set 7 (ints l)).set 8 (.int .i64 (l.length:Nat))).set 9 (.int .i64 k))) (fun _=>.nil) (fun k=>k≤l.length∧(l.take k).all p=true) (fun k=>l.length-k) 0 ⟨a1X _,rfl⟩ ?_ a_ ?_
 ·(repeat' (first|exact d_|refine c_ ?_ ?_))<;>first|(simp only[go_sem,a1K]<;>rfl)|rfl
 rintro k ⟨w,d⟩;simp only[go_sem,Dw,D0];by_cases hlt:k<l.length
 ·have c:(k:Int)<(l.length:Nat):=Om;have i:(l.map fun n=>[PV.int .i64 n])[k]?=some [.int .i64 l[k]]:=by simp[hlt]
  simp only[go_sem,c,D1,i,D2];refine aA (h _ (a1N hlt)) Ev ?_;cases e:p l[k] with
  | false =>simp only[go_sem,D3];exact bB (b:=false) Ev (DQ (p:=p) hlt e).symm
  | true =>simp only[go_sem,D4,wZz k];refine aK (k+1) ⟨hlt,a2F.1 (DP hlt d e)⟩ Om ?_ a_;exact Lq
 ·have c:¬ (k:Int)<(l.length:Nat):=Om;simp only[go_sem,c,D5];have:k=l.length:=Om;subst this;rw[a2C (a1O _)] at d;exact bB Ev d.symm
abbrev Xx (l:List Bool):PV:=.sl 1 (l.map fun b=>[PV.bool b])
theorem Dd {C:Ctx} (p:Bool→Bool) (fn:Nat) (l:List Bool) (u:Fits l) (h:∀ x∈l,aF C fn [.bool x] .nil (aH (.bool (p x)))) :
  FG.wp C (aX y9.res (cD (.bool (l.all p)))) (PF.args [Xx l,.fn fn []]) .nil:=by
 simp only[go_sem,FG,De,Df,y9];refine wp_loop (α:=Nat) (fun k=>((((PF.nil.set 1 (.fn fn [])).set 7 (Xx l)).set 8 (.int .i64 (l.length:Nat))).set 9 (.int .i64 k))) (fun _=>.nil) (fun k=>k≤l.length∧(l.take k).all p=true) (fun k=>l.length-k) 0 ⟨a1X _,rfl⟩ ?_ a_ ?_
 ·(repeat' (first|exact d_|refine c_ ?_ ?_))<;>first|(simp only[go_sem,a1K]<;>rfl)|rfl
 rintro k ⟨w,d⟩;simp only[go_sem,Dc,Dg];by_cases hlt:k<l.length
 ·have c:(k:Int)<(l.length:Nat):=Om;have i:(l.map fun b=>[PV.bool b])[k]?=some [.bool l[k]]:=by simp[hlt]
  simp only[go_sem,c,Dh,i,Di];refine aA (h _ (a1N hlt)) Ev ?_;cases e:p l[k] with
  | false =>simp only[go_sem,Dj];exact bB (b:=false) Ev (DQ (p:=p) hlt e).symm
  | true =>simp only[go_sem,Dk,wZz k];refine aK (k+1) ⟨hlt,a2F.1 (DP hlt d e)⟩ Om ?_ a_;exact Lq
 ·have c:¬ (k:Int)<(l.length:Nat):=Om;simp only[go_sem,c,Dl];have:k=l.length:=Om;subst this;rw[a2C (a1O _)] at d;exact bB Ev d.symm
theorem r8 {C:Ctx} (b:Bool):AO.wp C (aX ck.res (cD (.bool b))) (PF.args [.bool b]) .nil:=by
 simp only[go_sem,AO,r9,sa,ck];exact bB Ev rfl
theorem Ej {C:Ctx} (c:∀ n lo hi:Int,aF C 104 [.int .i64 n,.int .i64 lo,.int .i64 hi] .nil (aH (.bool (within n lo hi)))) (n:Int):FN.wp C (aX zd.res (cD (.bool (within n 0 8)))) (PF.args [.int .i64 n]) .nil:=by
 simp only[go_sem,FN,Ek,El,zd];refine aA (c n 0 8) Ev ?_;simp only[go_sem];exact bB Ev rfl
theorem sg {C:Ctx} (d:∀ x:RF,x.Ok→aF C 105 [.agg x.cells] .nil (aH (.bool (eT x)))) (e:∀ x:RF,x.Ok→aF C 97 [.agg x.cells] .nil (aH (.bool (bS x)))) (x:RF) (c:x.Ok) :
  AP.wp C (aX cp.res (cD (.bool (eT x&&bS x)))) (PF.args [.agg x.cells]) .nil:=by
 simp only[go_sem,AP,sj,sk,cp];refine aA (d x c) Ev ?_;cases i:eT x with
 | false =>simp only[go_sem];exact bB Ev rfl
 | true =>simp only[go_sem];refine aA (e x c) Ev ?_;simp only[go_sem];exact bB Ev rfl
structure qE (C:Ctx):Prop extends yM C where
 inn:∀ n lo hi:Int,aF C 104 [.int .i64 n,.int .i64 lo,.int .i64 hi] .nil (aH (.bool (within n lo hi)))
 nP:∀ x:RF,x.Ok→aF C 97 [.agg x.cells] .nil (aH (.bool (bS x)))
 lim:∀ x:RF,x.Ok→aF C 105 [.agg x.cells] .nil (aH (.bool (eT x)))
 one:∀ x:RF,x.Ok→aF C 101 [.agg x.cells] .nil (aH (.bool (XD x)))
 allf:∀ (p:RF→Bool) (fn:Nat) (l:List RF),Fits l→(∀ x∈l,aF C fn [.agg x.cells] .nil (aH (.bool (p x))))→aF C 99 [frs l,.fn fn []] .nil (aH (.bool (l.all p)))
 alli:∀ (p:Int→Bool) (fn:Nat) (l:List Int),Fits l→(∀ x∈l,aF C fn [.int .i64 x] .nil (aH (.bool (p x))))→aF C 100 [ints l,.fn fn []] .nil (aH (.bool (l.all p)))
 allb:∀ (p:Bool→Bool) (fn:Nat) (l:List Bool),Fits l→(∀ x∈l,aF C fn [.bool x] .nil (aH (.bool (p x))))→aF C 98 [Xx l,.fn fn []] .nil (aH (.bool (l.all p)))
 ends1:∀ b:Bool,aF C 103 [.bool b] .nil (aH (.bool b))
 num1:∀ n:Int,aF C 107 [.int .i64 n] .nil (aH (.bool (within n 0 8)))
 rate1:∀ x:RF,x.Ok→aF C 109 [.agg x.cells] .nil (aH (.bool (eT x&&bS x)))
 name:∀ s:List UInt8,aF C 123 [.str s] .nil (aH (.bool (isName s)))
theorem qE.axQ {C:Ctx} (L:qE C) (l:List RF) (h:nG l):aF C 99 [frs l,.fn 105 []] .nil (aH (.bool (l.all eT))) :=
 L.allf eT 105 l h.fits fun x c=>L.lim x (h.all x c)
theorem within_iff {n lo hi:Int}:within n lo hi=true↔lo≤n∧n≤hi:=by simp[within]
theorem R4 {C:Ctx} (L:qE C) (p:cB) (B:p.Ok) :
  ML.wp C (aX Y2.res (cD (.bool (XB p)))) (PF.args [.int .i64 p.k,.int .i64 p.m,.int .i64 p.a0X,.agg [.int .i64 p.s0,.int .i64 p.s1,.int .i64 p.s2,.int .i64 p.s3,.int .i64 p.s4]]) .nil:=by
 simp only[go_sem,ML,R5,R6,Y2];refine aA (L.inn p.k 1 6) rfl ?_;unfold XB;cases u:within p.k 1 6 with
 | false =>simp only[go_sem,a2I,wS];exact bB rfl (by simp only[a1Y])
 | true =>
  obtain⟨k1,k2⟩:=within_iff.1 u;simp only[go_sem,a1W];refine aA (L.inn p.m 0 4) rfl ?_;cases w:within p.m 0 4 with
  | false =>simp only[go_sem,a2I,wS];exact bB rfl (by simp only[a1Y,a2W])
  | true =>
   obtain⟨E,F⟩:=within_iff.1 w;have l:IntKind.i64.wrap (p.k+p.m)=p.k+p.m:=wrap_i64 Om Om;by_cases i:p.k+p.m≤8
   ·have c:¬ p.k+p.m>8:=Om;simp only[go_sem,a1W,l,c];refine aA (L.inn p.a0X p.k (p.k+p.m)) rfl ?_;cases A:within p.a0X p.k (p.k+p.m) with
    | false =>simp only[go_sem,a2I,wS];exact bB rfl (by simp only[a1Y,a2W])
    | true =>
     have d:(0:Int)<((5:Nat):Int):=by decide
     by_cases h5:p.s0=0
     ·have e:chunks 1 5 [PV.int .i64 p.s0,.int .i64 p.s1,.int .i64 p.s2,.int .i64 p.s3,.int .i64 p.s4]=([p.s0,p.s1,p.s2,p.s3,p.s4].map fun n=>[PV.int .i64 n]):=rfl;have y:5≤maxLen:=by decide
      simp only[go_sem,a1W,d,bR h5,R7,e,y];refine aA (L.alli (fun n=>within n 0 8) 107 [p.s0,p.s1,p.s2,p.s3,p.s4] (show 5≤9223372036854775807 by decide) fun x _=>L.num1 x) rfl ?_;simp only[go_sem];exact bB rfl (by rw[decide_eq_true i,decide_eq_true h5]; simp only[a2J])
     ·simp only[go_sem,a1W,d,dX h5,wS];exact bB rfl (by rw[decide_eq_false h5]; simp only[a1Y,a2W])
   ·have c:p.k+p.m>8:=Om;simp only[go_sem,a1W,l,c,wS];exact bB rfl (by rw[decide_eq_false i]; simp only[a1Y,a2W])
theorem max_eq (a b:Int):(if a<b then b else a)=max a b:=by
 rw[Int.max_def];by_cases h:a<b
 ·rw[if_pos h,if_pos Om]
 ·by_cases c:a≤b
  ·rw[if_neg h,if_pos c]; omega
  ·rw[if_neg h,if_neg c]
theorem Ep {C:Ctx} (L:qE C) (p:cB) (c:p.Ok) :
  FO.wp C (aX ze.res (cD (.bool (QY p)))) (PF.args [.int .i64 p.m,frs p.repair,.agg p.target.cells,.agg p.a0J.cells]) .nil:=by
 simp only[go_sem,FO,Eq,Er,ze,max_eq,a1K];unfold QY;by_cases d:(p.repair.length:Int)=max p.m 1
 ·simp only[go_sem,bN d];refine aA (L.allf (fun x=>eT x&&bS x) 109 p.repair c.repair.fits fun x e=>L.rate1 x (c.repair.all x e)) rfl ?_;rw[decide_eq_true d,a2J];cases i:p.repair.all fun x=>eT x&&bS x with
  | false =>simp only[go_sem];exact bB rfl rfl
  | true =>
   simp only[go_sem];refine aA (L.lim _ c.target) rfl ?_;cases l:eT p.target with
   | false =>simp only[go_sem];exact bB rfl rfl
   | true =>
    simp only[go_sem];refine aA (L.one _ c.target) rfl ?_;cases u:XD p.target with
    | false =>simp only[go_sem];exact bB rfl rfl
    | true =>simp only[go_sem];refine aA (L.lim _ c.a0J) rfl ?_;simp only[go_sem];exact bB rfl rfl
 ·simp only[go_sem,bF d];exact bB rfl (by rw[decide_eq_false d]; rfl)
def pJ (l:List (List UInt8)) (k:List KS):Option PV:=match k with
 | [.str s]=>if l.contains s then some (.bool true) else none
 | _=>none
theorem anJ (l:List (List UInt8)) (s:List UInt8):(fun k=>if k=[KS.str s] then some (PV.bool true) else pJ l k)=pJ (l++[s]):=by
 funext k
 match k with
 | []=>rfl
 | [.int a b]=>simp[pJ]
 | [.bool a]=>simp[pJ]
 | [.str t] =>
  by_cases h:t=s
  ·subst h; simp[pJ]
  ·simp[pJ,h]
 | a::b::c=>simp[pJ]
abbrev texts (l:List (List UInt8)):PV:=.sl 1 (l.map fun s=>[PV.str s])
theorem anI:pJ []=(fun _=>none:jH):=by
 funext k
 match k with
 | []=>rfl
 | [.int a b]=>rfl
 | [.bool a]=>rfl
 | [.str t]=>rfl
 | a::b::c=>cases a<;>rfl
theorem anK (l:List (List UInt8)) (s:List UInt8):jH.upd (pJ l) [KS.str s] (.bool true)=pJ (l++[s]):=anJ l s
theorem Js (l:List (List UInt8)) (s:List UInt8):(pJ l [KS.str s]).getD (.bool false)=.bool (l.contains s):=by
 show (if l.contains s then some (PV.bool true) else none).getD (.bool false)=_;cases l.contains s<;>rfl
theorem mq {p:Nat→Bool} {k:Nat} (h:(a1S k).all p=true) (c:p k=true):(a1S (k+1)).all p=true:=by
 rw[List.range_succ,List.all_append,h]; simp[c]
theorem eQ {p:Nat→Bool} {n k:Nat} (c:k<n) (d:p k=false):(a1S n).all p=false:=by
 rw[List.all_eq_false];exact⟨k,a3B.2 c,by simp[d]⟩
def qD (p:Nat→Bool) (k:Nat):Prop:=(a1S k).all p=true
theorem qD.zero {p:Nat→Bool}:qD p 0:=rfl
theorem qD.step {p:Nat→Bool} {k:Nat} (h:qD p k) (c:p k=true):qD p (k+1):=mq h c
def aeC (l:List (List UInt8)) (o k:Nat):PF:=((((PF.nil.set 3 (.map o)).set 7 (texts l)).set 8 (.int .i64 (l.length:Nat))).set 9 (.int .i64 k))
theorem Ez {C:Ctx} (L:qE C) (l:List (List UInt8)) (E:Fits l):FS.wp C (aX zf.res (cD (.bool (distinct l)))) (PF.args [texts l]) .nil:=by
 simp only[go_sem,FS,E0,E4,zf];refine aQ fun o H=>?_;simp only[go_sem,E5];have y:(PH.nil.set o (.map (false,[.str]) (fun _=>none)))=PH.nil.set o (.map (false,[.str]) (pJ (l.take 0))):=by rw[List.take_zero,anI]
 unfold distinct;generalize A:(fun i=>isName (l.getD i [])&&!(l.take i).contains (l.getD i []))=p;have u:∀ k (h:k<l.length),p k=(isName l[k]&&!(l.take k).contains l[k]):=by intro k h;rw[← A];simp only[a2L,a1V h,a4G]
 refine wp_loop (α:=Nat) (fun k=>aeC l o k) (fun k=>PH.nil.set o (.map (false,[.str]) (pJ (l.take k)))) (fun k=>k≤l.length∧qD p k) (fun k=>l.length-k) 0 ⟨a1X _,.zero⟩ ?_ ?_ ?_
 ·unfold aeC
  (repeat' (first|exact d_|refine c_ ?_ ?_))<;>first|(simp only[go_sem,a1K]<;>rfl)|rfl
 ·rw[y]; exact b_
 rintro k ⟨F,x⟩;simp only[go_sem,Ey,E6,aeC];by_cases hlt:k<l.length
 ·have d:(k:Int)<(l.length:Nat):=Om;have B:(l.map fun s=>[PV.str s])[k]?=some [.str l[k]]:=by simp[hlt]
  simp only[go_sem,d,E7,B,E8];refine aA (L.name l[k]) rfl ?_;have c:=u k hlt;cases w:isName l[k] with
  | false =>rw[w,a1Y] at c;simp only[go_sem,a2I,VC];exact bB (b:=false) rfl (eQ hlt c).symm
  | true =>
   rw[w,a2J] at c;cases e:(l.take k).contains l[k] with
   | true =>rw[e] at c;simp only[go_sem,a1W,Js,e,VC];exact bB (b:=false) rfl (eQ hlt c).symm
   | false =>
    rw[e] at c;simp only[go_sem,a1W,Js,e,E9,anK,Fa,wZz k];refine aK (k+1) ⟨hlt,x.step c⟩ Om ?_ ?_
    ·exact Lq
    ·rw[a3I hlt];exact PH.aL a_ Sq
 ·have d:¬ (k:Int)<(l.length:Nat):=Om;simp only[go_sem,d,sm];have:k=l.length:=Om;subst this;exact bB (b:=true) rfl (show qD p l.length from x).symm
def marks (n:Nat) (l:List Int):List Bool:=(a1S n).map fun (i:Nat)=>l.contains (i:Int)
theorem MV (n:Nat) (l:List Int):(marks n l).length=n:=by simp[marks]
theorem tg (n:Nat):marks n []=a1M n false:=by
 refine a4O (by simp[marks]) fun i c d=>by simp[marks]
theorem xT {n:Nat} {l:List Int} {m:Int} (c:0≤m) (d:m<n):(marks n l)[m.toNat]?=some (l.contains m):=by
 have:m.toNat<n:=Om;simp only[marks,a2K,List.getElem?_range this,a2V];rw[Int.toNat_of_nonneg c]
theorem MW {n:Nat} {l:List Int} {m:Int} (d:0≤m) (e:m<n):(marks n l).set m.toNat true=marks n (l++[m]):=by
 refine a4O (by simp[marks]) fun i p u=>?_;simp only[marks,a3L,List.getElem_range,List.getElem_set,List.contains_append];by_cases h:m.toNat=i
 ·subst h;rw[if_pos rfl,Int.toNat_of_nonneg d]; simp
 ·have c:((i:Nat):Int)≠m:=Om;rw[if_neg h]; simp[c]
abbrev dJ (l:List Bool):List (List PV):=l.map fun b=>[PV.bool b]
theorem qU (l:List Bool) (i:Nat) (b:Bool):(dJ l).set i [.bool b]=dJ (l.set i b):=by unfold dJ; rw[List.map_set]
structure XW (C:Ctx):Prop extends qE C where
 num:∀ p:cB,p.Ok→aF C 106 [.int .i64 p.k,.int .i64 p.m,.int .i64 p.a0X,.agg [.int .i64 p.s0,.int .i64 p.s1,.int .i64 p.s2,.int .i64 p.s3,.int .i64 p.s4]] .nil (aH (.bool (XB p)))
 rate:∀ p:cB,p.Ok→aF C 108 [.int .i64 p.m,frs p.repair,.agg p.target.cells,.agg p.a0J.cells] .nil (aH (.bool (QY p)))
 uniq:∀ l:List (List UInt8),Fits l→aF C 110 [texts l] .nil (aH (.bool (distinct l)))
def azJ (p:cB) (a0A:Nat) (o k:Nat):PF:=(((((PF.nil.set 1 (.int .i64 a0A)).set 5 (.osl o 1 0 a0A)).set 39 (ints p.a0A)).set 40 (.int .i64 (p.a0A.length:Nat))).set 41 (.int .i64 k))
theorem Sd {C:Ctx} (L:XW C) (p:cB) (B:p.Ok) (a0A:Nat) (R:a0A≤4):MN.wp C (aX Y3.res (cD (.bool (jY a0A p)))) (PF.args [.agg p.cells,.int .i64 a0A]) .nil:=by
 simp only[go_sem,MN,Se,Sf,Y3];refine aA (L.num p B) rfl ?_;unfold jY;cases l:XB p with
 | false =>simp only[go_sem,a2I,QL];exact bB rfl (by simp only[a1Y])
 | true =>
  by_cases i:p.a0A.length=0
  ·simp only[go_sem,a1W,a1K,bN (Om:(p.a0A.length:Int)=0),QL];refine bB rfl ?_;have:decide (p.a0A.length≠0)=false:=by simp[i]
   rw[this]; simp only[a1Y,a2W]
  ·have x:decide (p.a0A.length≠0)=true:=by simp[i]
   simp only[go_sem,a1W,a1K,bF (Om:(p.a0A.length:Int)≠0)];refine aA (L.rate p B) rfl ?_;rw[x];cases O:QY p with
   | false =>simp only[go_sem,a2I,QL];exact bB rfl (by simp only[a1Y,a2W])
   | true =>
    have y:((a0A:Nat):Int)*((1:Nat):Int)≤140737488355328:=Om;have A:((a0A:Nat):Int)≤9223372036854775807:=Om;simp only[a2J];simp only[go_sem,a1W,Sg,y,A];refine aQ fun o S=>?_;simp only[go_sem,Sh];have J:a1M a0A [PV.bool false]=dJ (marks a0A (p.a0A.take 0)):=by rw[List.take_zero,tg]; simp[dJ]
    rw[J];generalize K:(fun j=>within (p.a0A.getD j 0) 0 ((a0A:Int)-1)&&!(p.a0A.take j).contains (p.a0A.getD j 0))=q;have E:∀ k (h:k<p.a0A.length),q k=(within p.a0A[k] 0 ((a0A:Int)-1)&&!(p.a0A.take k).contains p.a0A[k]):=by intro k h;rw[← K];simp only[a2L,a1V h,a4G]
    refine wp_loop (α:=Nat) (fun k=>azJ p a0A o k) (fun k=>PH.nil.set o (.rows 1 (dJ (marks a0A (p.a0A.take k))))) (fun k=>k≤p.a0A.length∧qD q k) (fun k=>p.a0A.length-k) 0 ⟨a1X _,.zero⟩ ?_ (b_) ?_
    ·unfold azJ
     (repeat' (first|exact d_|refine c_ ?_ ?_))<;>first|(simp only[go_sem,a1K]<;>rfl)|rfl
    rintro k ⟨Q,F⟩;simp only[go_sem,Em,Si,azJ];have H:=B.a0A;by_cases hlt:k<p.a0A.length
    ·have d:(k:Int)<(p.a0A.length:Nat):=Om;have M:(p.a0A.map fun n=>[PV.int .i64 n])[k]?=some [.int .i64 p.a0A[k]]:=by simp[hlt]
     have N:IntKind.i64.wrap ((a0A:Int)-1)=(a0A:Int)-1:=wrap_i64 Om Om;simp only[go_sem,d,Sj,M,Sk,N];refine aA (L.inn p.a0A[k] 0 ((a0A:Int)-1)) rfl ?_;have c:=E k hlt;cases l:within p.a0A[k] 0 ((a0A:Int)-1) with
     | false =>rw[l,a1Y] at c;simp only[go_sem,a2I,k6];exact bB (b:=false) rfl (eQ hlt c).symm
     | true =>
      rw[l,a2J] at c;obtain⟨u,U⟩:=within_iff.1 l;have w:p.a0A[k]<(a0A:Nat):=Om;have e:(dJ (marks a0A (p.a0A.take k)))[p.a0A[k].toNat]?=some [.bool ((p.a0A.take k).contains p.a0A[k])]:=by unfold dJ;rw[a2K,xT u w]; rfl
      cases i:(p.a0A.take k).contains p.a0A[k] with
      | true =>rw[i] at c e;simp only[go_sem,a1W,u,w,a2H,e,k6];exact bB (b:=false) rfl (eQ hlt c).symm
      | false =>
       rw[i] at c e;simp only[go_sem,a1W,u,w,a2H,e,Sl,qU,MW u w,En,wZz k];refine aK (k+1) ⟨hlt,F.step c⟩ Om ?_ ?_
       ·exact Lq
       ·rw[a3I hlt];exact PH.aL a_ Sq
    ·have d:¬ (k:Int)<(p.a0A.length:Nat):=Om;simp only[go_sem,d,Eo];have:k=p.a0A.length:=Om;subst this;exact bB (b:=true) rfl (show qD q p.a0A.length from F).symm
def awI:PV→RF
 | .agg [.bool n,a,b]=>⟨n,jX a,jX b⟩
 | _=>⟨false,[],[]⟩
theorem Yg (x:RF):awI (.agg x.cells)=x:=by
 show (⟨x.neg,jX (aG x.num),jX (aG x.den)⟩:RF)=x;rw[eN,eN]
def flS:Spec:=fun name vs=>match name,vs with
 | 104,[.int _ n,.int _ lo,.int _ hi]=>some ([],fun _=>aH (.bool (within n lo hi)))
 | 105,[x]=>some ([],fun _=>aH (.bool (eT (awI x))))
 | 97,[x]=>some ([],fun _=>aH (.bool (bS (awI x))))
 | _,_=>none
theorem Cy (n lo hi:Int):flS 104 [.int .i64 n,.int .i64 lo,.int .i64 hi]=some ([],fun _=>aH (.bool (within n lo hi))):=rfl
theorem aHJ (x:RF):flS 105 [.agg x.cells]=some ([],fun _=>aH (.bool (eT x))):=by
 show some _=_; rw[Yg]
def Yz (f:aJ) (t:List cN) (k:Nat):PF:=((((PF.nil.set 1 (.cT f.cells)).set 45 (.sl 7 (t.map cN.cells))).set 46 (.int .i64 (t.length:Nat))).set 47 (.int .i64 k))
theorem Rl {C:Ctx} (L:qE C) (f:aJ) (Y:f.Ok):zA.wp C (aX D6.res (cD (.bool (nS f)))) (PF.args [.agg f.cells]) .nil:=by
 obtain⟨a1D,a0G,a0A,a0C,aZZ,a0D,a0B⟩:=f;cases a0C with
 | nil =>rw[show nS ⟨a1D,a0G,a0A,[],aZZ,a0D,a0B⟩=false from rfl];simp only[go_sem,zA,ky,kz,D6,a3Q,a3Z];have:(((0:Nat):Int)==0)=true:=rfl;simp only[go_sem,this,Rm];exact bB rfl rfl
 | cons r t =>
  generalize hF:(⟨a1D,a0G,a0A,r::t,aZZ,a0D,a0B⟩:aJ)=f at *
  have A:f.a0C=r::t:=by rw[← hF]
  have hP:nS f=QE f r t:=by unfold nS; rw[A]
  rw[hP];unfold QE;have e:f.a0C.length=t.length+1:=by rw[A]; rfl
  have Z:=Y.a0C;have H:(f.a0C.map cN.cells)[0]?=some r.cells:=by rw[A]; rfl
  have β:(f.a0C.map cN.cells)[Int.toNat 0]?=some r.cells:=H;have E:=Y.dom;have u:=E r (by rw[A]; exact List.mem_cons_self ..);simp only[go_sem,zA,ky,kz,D6,a1K,e,bF (Om:((t.length+1:Nat):Int)≠0),Rn,H];refine aQ fun o ho=>?_;by_cases w:r.name=[]
  ·rw[decide_eq_true w];by_cases y:r.level=0
   ·rw[decide_eq_true y];by_cases B:r.parent=-1
    ·rw[decide_eq_true B];by_cases J:r.a0T=0
     ·rw[decide_eq_true J];simp only[go_sem,wQ,oU w,a1W,bR y,bR B,bR J];refine aA (L.lim r.a0O u.1) rfl ?_;cases c5:eT r.a0O with
      | false =>simp only[go_sem,a2I,sY];exact bB rfl (by simp only[a2W,a1Y])
      | true =>
       simp only[go_sem,a1W];refine aA (L.nP r.a0O u.1) rfl ?_;cases c6:bS r.a0O with
       | true =>simp only[go_sem,sY];exact bB rfl (by simp only[a1W,a2W,a1Y])
       | false =>
        have S:(0:Int)≤1∧(1:Int)≤((t.length+1:Nat):Int):=Om;have x:((f.a0C.map cN.cells).take (t.length+1)).drop (Int.toNat 1)=t.map cN.cells:=by rw[a2C (by simp[e]),A]; rfl
        have p:((f.a0C.map cN.cells).take (t.length+1)).drop 1=t.map cN.cells:=x;simp only[go_sem,Ro,a1K,e,S,p,a3P];generalize hq:(fun i=>match t[i]? with | some d=>UG f i d | none=>false)=q;have Q:∀ k (h:k<t.length),q k=UG f k t[k]:=by intro k h;rw[← hq];simp only[a1V h]
        refine wp_loop (α:=Nat) (fun k=>Yz f t k) (fun k=>.nil) (fun k=>k≤t.length∧qD q k) (fun k=>t.length-k) 0 ⟨a1X _,.zero⟩ ?_ a_ ?_
        ·unfold Yz
         (repeat' (first|exact d_|refine c_ ?_ ?_))<;>first|(simp only[go_sem,a1K]<;>rfl)|rfl
        rintro k ⟨hk,X⟩;simp only[go_sem,D7,Rp,Yz];by_cases hlt:k<t.length
        ·have l:(k:Int)<(t.length:Nat):=Om;have R:(t.map cN.cells)[k]?=some (t[k]).cells:=by simp[hlt]
         have N:=E t[k] (by rw[A]; exact List.mem_cons_of_mem _ (a1N hlt));have c:=Q k hlt;unfold UG at c;simp only[go_sem,l,Rq,R];refine aQ fun o2 γ=>?_;simp only[go_sem];refine bX .nil flS a_ ?_;simp only[go_sem,Rr];refine cK (Cy _ 0 k) (L.inn (t[k]).parent 0 k) rfl a_ ?_;cases M:within (t[k]).parent 0 k with
         | false =>simp only[M,a1Y] at c;simp only[go_sem,a2I,sX];exact bB (b:=false) rfl (eQ hlt c).symm
         | true =>
          obtain⟨i1,i2⟩:=within_iff.1 M;have i3:(t[k]).parent.toNat<f.a0C.length:=Om;have F:(f.a0C.map cN.cells)[(t[k]).parent.toNat]?=some (f.a0C[(t[k]).parent.toNat]).cells:=by simp[i3]
          have O:(f.a0C.map cN.level).getD (t[k]).parent.toNat 0=(f.a0C[(t[k]).parent.toNat]).level:=by simp[i3]
          rw[O,M,a2J] at c;by_cases K:(f.a0C[(t[k]).parent.toNat]).level=IntKind.i64.wrap ((t[k]).level-1)
          ·rw[decide_eq_true K,a2J] at c;simp only[go_sem,a1W,i1,F,bR K];refine cK (Cy _ 1 4) (L.inn (t[k]).level 1 4) rfl a_ ?_;cases U:within (t[k]).level 1 4 with
           | false =>simp only[U,a1Y] at c;simp only[go_sem,a2I,sX];exact bB (b:=false) rfl (eQ hlt c).symm
           | true =>
            rw[U,a2J] at c;simp only[go_sem,a1W];refine cK (Cy _ 1 64) (L.inn (t[k]).a0T 1 64) rfl a_ ?_;cases V:within (t[k]).a0T 1 64 with
            | false =>simp only[V,a1Y] at c;simp only[go_sem,a2I,sX];exact bB (b:=false) rfl (eQ hlt c).symm
            | true =>
             rw[V,a2J] at c;simp only[go_sem,a1W];refine cK (aHJ (t[k]).a0O) (L.lim _ N.1) rfl a_ ?_;cases W:eT (t[k]).a0O with
             | false =>rw[W] at c;simp only[go_sem,a2I,sX];exact bB (b:=false) rfl (eQ hlt c).symm
             | true =>rw[W] at c;simp only[go_sem,a1W,D8,wZz k];refine aK (k+1) ⟨hlt,X.step c⟩ Om ?_ a_;exact Lq
          ·simp only[decide_eq_false K,a1Y] at c;simp only[go_sem,a1W,i1,F,dX K,sX];exact bB (b:=false) rfl (eQ hlt c).symm
        ·have l:¬ (k:Int)<(t.length:Nat):=Om;simp only[go_sem,l,D9];have:k=t.length:=Om;subst this;exact bB (b:=true) rfl (show qD q t.length from X).symm
     ·simp only[go_sem,wQ,oU w,a1W,bR y,bR B,dX J,sY];exact bB rfl (by rw[decide_eq_false J]; simp only[a2W,a1Y])
    ·simp only[go_sem,wQ,oU w,a1W,bR y,dX B,sY];exact bB rfl (by rw[decide_eq_false B]; simp only[a2W,a1Y])
   ·simp only[go_sem,wQ,oU w,a1W,dX y,sY];exact bB rfl (by rw[decide_eq_false y]; simp only[a2W,a1Y])
  ·simp only[go_sem,wQ,YM w,a2I,sY];exact bB rfl (by rw[decide_eq_false w]; simp only[a2W,a1Y])
theorem yA (R:List Bool) (i:Nat) (row:List RF):∀ k,(dS R i row k).length=R.length
 | 0=>rfl
 | k+1=>by simp only[dS,a3U,yA R i row k]
theorem Jk (l:cS) (R:List Bool) (i:Nat):(kX l R i).length=R.length:=by
 unfold kX; rw[yA,a3U]
theorem tH (l:cS) (R:List Bool):∀ i,(eU l R i).length=R.length
 | 0=>rfl
 | i+1=>by simp only[eU,Jk,tH l R i]
theorem ib (l:cS):∀ r,(gI l r).length=l.exit.length
 | 0=>by simp[gI]
 | r+1=>by simp only[gI,tH,ib l r]
theorem TW {R:List Bool} {i:Nat} (h:i<R.length):(dJ R)[i]?=some [.bool (R.getD i false)]:=by
 unfold dJ;rw[a2K,a1V h,a2L,a1V h]; rfl
theorem yQ (R:List Bool):(dJ R).length=R.length:=by simp[dJ]
def QG (l:cS) (o r:Nat):PF:=(((PF.nil.set 1 (.cT l.cells)).set 3 (.osl o 1 0 l.exit.length)).set 4 (.int .i64 r))
def EV (l:cS) (o r i:Nat):PF:=(((((PF.nil.set 1 (.cT l.cells)).set 3 (.osl o 1 0 l.exit.length)).set 4 (.int .i64 r)).set 19 (.int .i64 (l.exit.length:Nat))).set 20 (.int .i64 i))
def rS (l:cS) (o r i:Nat) (row:List RF) (k:Nat):PF:=(((((((((PF.nil.set 1 (.cT l.cells)).set 3 (.osl o 1 0 l.exit.length)).set 4 (.int .i64 r)).set 19 (.int .i64 (l.exit.length:Nat))).set 20 (.int .i64 i)).set 5 (.int .i64 i)).set 42 (frs row)).set 43 (.int .i64 (row.length:Nat))).set 44 (.int .i64 k))
def rT (o:Nat) (R:List Bool):PH:=PH.nil.set o (.rows 1 (dJ R))
theorem M3 {C:Ctx} (L:qE C) (l:cS) (o r i:Nat) (row:List RF) (E:nG row) (W:row.length=l.exit.length) (hi:i<l.exit.length) (hn:l.exit.length≤4) (d:List Bool) (X:d.length=l.exit.length) (K:bV) (F:PF) (H:PH)
  (N:(rS l o r i row 0).le F) (J:(rT o d).le H)
  (U:∀ F H,(rS l o r i row row.length).le F→(rT o (dS d i row row.length)).le H→K .normal F H) :
  aC.wp C (.block 4 (.loop zC)) K F H:=by
 simp only[go_sem];refine wp_loop (α:=Nat) (fun k=>rS l o r i row k) (fun k=>rT o (dS d i row k)) (fun k=>k≤row.length) (fun k=>row.length-k) 0 (a1X _) N J ?_;intro k Z;simp only[go_sem,zC,Eh,rS,rT];have Q:=yA d i row k;by_cases hlt:k<row.length
 ·have e:(k:Int)<(row.length:Nat):=Om;have V:(row.map RF.cells)[k]?=some (row[k]).cells:=by simp[hlt]
  simp only[go_sem,e,sd,V];refine aQ fun o7 B=>?_;have M:o≠o7:=by rintro rfl; simp only[aV,if_true] at B; cases B
  have u:(i:Int)<(l.exit.length:Nat):=Om;have y:(k:Int)<(l.exit.length:Nat):=Om;have p:=TW (R:=dS d i row k) (i:=i) Om;have w:=TW (R:=dS d i row k) (i:=k) Om;have x:dS d i row (k+1)=(dS d i row k).set i ((dS d i row k).getD i false||bS row[k]&&(dS d i row k).getD k false):=by simp only[dS,a2L,a2K,a1V hlt,a2V,a4G]
  have fin:∀ (b:Bool) (F:PF) (H:PH),b=((dS d i row k).getD i false||bS row[k]&&(dS d i row k).getD k false)→(rS l o r i row (k+1)).le F→H o=some (.rows 1 ((dJ (dS d i row k)).set i [.bool b])) →
    jS (fun k=>rS l o r i row k) (fun k=>rT o (dS d i row k)) (fun k=>k≤row.length) (fun k=>row.length-k) (row.length-k) (fQ 4 K) .normal F H:=by
   intro b F H O N J;refine aK (k+1) hlt Om N ?_;rw[qU,O,← x] at J;exact PH.aL a_ J
  unfold rS rT at fin;generalize O:(dS d i row k).getD i false=b at *
  generalize Y:(dS d i row k).getD k false=c at *
  generalize S:bS row[k]=A at *
  cases b with
  | true =>simp only[go_sem,MH,M,u,a2H,p,zE,wZz k];exact fin true _ _ (by simp) Lq Sq
  | false =>
   simp only[go_sem,MH,M,u,a2H,p];refine aA (L.nP _ (E.all _ (a1N hlt))) rfl ?_;rw[S];cases A with
   | false =>simp only[go_sem,u,y,M,a2H,p,w,zE,wZz k];exact fin false _ _ (by simp) Lq Sq
   | true =>simp only[go_sem,u,y,M,a2H,p,w,zE,wZz k];exact fin c _ _ (by simp) Lq Sq
 ·have e:¬ (k:Int)<(row.length:Nat):=Om;simp only[go_sem,e];have:k=row.length:=Om;subst this;exact U _ _ (by unfold rS; exact Lq) (b_)
structure XV (l:cS):Prop where
 n:l.exit.length≤4
 a0E:l.a0E.length=l.exit.length
 row:∀ r∈l.a0E,r.length=l.exit.length
theorem M4 {C:Ctx} (L:qE C) (l:cS) (Q:l.Ok) (N:XV l) (o r:Nat) (R:List Bool) (hR:R.length=l.exit.length) (K:bV) (F:PF) (H:PH)
  (p:(EV l o r 0).le F) (J:(rT o R).le H)
  (hK:∀ F H,(QG l o r).le F→(rT o (eU l R l.exit.length)).le H→K .normal F H) :
  aC.wp C (.block 2 (.loop zD)) K F H:=by
 simp only[go_sem];refine wp_loop (α:=Nat) (fun i=>EV l o r i) (fun i=>rT o (eU l R i)) (fun i=>i≤l.exit.length) (fun i=>l.exit.length-i) 0 (a1X _) p J ?_;intro i hi;have S:=tH l R i;have hn:=N.n;by_cases hlt:i<l.exit.length
 ·have c:(i:Int)<(l.exit.length:Nat):=Om;have e:i<l.a0E.length:=by rw[N.a0E]; exact hlt
  have u:=TW (R:=eU l R i) (i:=i) Om;have hx:(l.exit.map RF.cells)[i]?=some (l.exit[i]).cells:=by simp[hlt]
  have A:(l.a0E.map fun r=>[frs r])[i]?=some [frs l.a0E[i]]:=by simp[e]
  have O:(l.a0E[i]).length=l.exit.length:=N.row _ (a1N e);generalize d:(eU l R i).set i ((eU l R i).getD i false||bS l.exit[i])=B;have y:B.length=l.exit.length:=by rw[← d,a3U]; omega
  have w:eU l R (i+1)=dS B i l.a0E[i] (l.a0E[i]).length:=by
   simp only[eU,kX];have V:(l.exit.map bS).getD i false=bS l.exit[i]:=by simp[a2L,hlt]
   have W:l.a0E.getD i []=l.a0E[i]:=by simp[a2L,e]
   rw[V,W,d]
  have rest:∀ (F:PF) (H:PH),(((((((PF.nil.set 1 (.cT l.cells)).set 3 (.osl o 1 0 l.exit.length)).set 4 (.int .i64 r)).set 19 (.int .i64 (l.exit.length:Nat))).set 20 (.int .i64 i)).set 5 (.int .i64 i)):PF).le F→H o=some (.rows 1 (dJ B)) →
    aC.wp C (.seq (.region UX) (.block 4 (.loop zC))) (fQ 3 (gX C (aC.wp C (.region MI)) (jS (fun i=>EV l o r i) (fun i=>rT o (eU l R i)) (fun i=>i≤l.exit.length) (fun i=>l.exit.length-i) (l.exit.length-i) (fQ 2 K)))) F H:=by
   intro F H p J;have f1:F 1=some (.cT l.cells):=p 1 _ rfl;have f3:F 3=some (.osl o 1 0 l.exit.length):=p 3 _ rfl;have f4:F 4=some (.int .i64 r):=p 4 _ rfl;have X:F 19=some (.int .i64 (l.exit.length:Nat)):=p 19 _ rfl;have Y:F 20=some (.int .i64 i):=p 20 _ rfl;have Z:F 5=some (.int .i64 i):=p 5 _ rfl;rw[nn];simp only[go_sem,UX,f1,Z,A,a1K];have inner:=M3 L l o r i l.a0E[i] (Q.row _ (a1N e)) O hlt hn B y;simp only[aC.wp,go_sem] at inner;refine inner _ _ _ ?_ (PH.aL a_ J) ?_
   ·unfold rS;exact Lq
   ·intro U H' x M;have E:U 20=some (.int .i64 i):=x 20 _ (by unfold rS; simp only[go_sem]);simp only[go_sem,MI,E,wZz i];refine aK (i+1) hlt Om ?_ (by rw[w]; exact M);have g:=fun (q:Nat) v h=>x q v h;unfold EV;unfold rS at g;refine c_ (c_ (c_ (c_ (c_ d_ ?_) ?_) ?_) ?_) ?_
    ·simp only[go_sem]; exact g 1 _ rfl
    ·simp only[go_sem]; exact g 3 _ rfl
    ·simp only[go_sem]; exact g 4 _ rfl
    ·simp only[go_sem]; exact g 19 _ rfl
    ·simp only[go_sem]
  simp only[aC.wp,go_sem] at rest;simp only[go_sem,zD,UV,EV,rT,c,Eg];generalize hb:(eU l R i).getD i false=b at *
  cases b with
  | true =>simp only[go_sem,UW,c,a2H,u];refine rest _ _ Lq ?_;rw[← d];simp only[go_sem,qU,Bool.true_or]
  | false =>simp only[go_sem,UW,c,a2H,u,hx];refine aA (L.nP _ (Q.exit.all _ (a1N hlt))) rfl ?_;simp only[go_sem,c,a2H,u];refine rest _ _ Lq ?_;rw[← d];simp only[go_sem,qU,Bool.false_or]
 ·have c:¬ (i:Int)<(l.exit.length:Nat):=Om;simp only[go_sem,zD,UV,EV,rT,c];have:i=l.exit.length:=Om;subst this;exact hK _ _ (by unfold QG; exact Lq) b_
theorem Ea {C:Ctx} (L:qE C) (l:cS) (E:l.Ok) (y:XV l):FJ.wp C (aX zc.res (cD (.bool (rU l)))) (PF.args [.agg l.cells]) .nil:=by
 have F:=y.n;have u:(l.exit.length:Int)*((1:Nat):Int)≤140737488355328:=Om;have w:(l.exit.length:Int)≤9223372036854775807:=Om;simp only[go_sem,FJ,Eb,Ec,zc,a1K,u,w];refine aQ fun o H=>?_;simp only[go_sem,Ed];refine wp_loop (α:=Nat) (fun r=>QG l o r) (fun r=>rT o (gI l r)) (fun r=>r≤l.exit.length+1) (fun r=>l.exit.length+1-r) 0 (a1X _) ?_ ?_ ?_
 ·unfold QG;exact Lq
 ·refine PH.aL a_ ?_;simp only[go_sem,gI];simp[dJ]
 intro r J;have d:=ib l r;simp only[go_sem,sb,Ee,QG,rT];by_cases hlt:r≤l.exit.length
 ·have c:(r:Int)≤(l.exit.length:Nat):=Om;simp only[go_sem,c,Ef];have inner:=M4 L l E y o r (gI l r) d;simp only[aC.wp,go_sem] at inner;refine inner _ _ _ ?_ b_ ?_
  ·unfold EV;exact Lq
  ·intro A H' i p;have g:=fun (q:Nat) v h=>i q v h;unfold QG at g;have g4:A 4=some (.int .i64 r):=g 4 _ rfl;simp only[go_sem,se,g4,wZz r];refine aK (r+1) Om Om ?_ p;refine c_ (c_ (c_ d_ ?_) ?_) ?_
   ·simp only[go_sem]; exact g 1 _ rfl
   ·simp only[go_sem]; exact g 3 _ rfl
   ·simp only[go_sem]
 ·have c:¬ (r:Int)≤(l.exit.length:Nat):=Om;have:r=l.exit.length+1:=Om;subst this;simp only[go_sem,c,sf];have e:=L.allb id 103 (gI l (l.exit.length+1)) (Om:(gI l (l.exit.length+1)).length≤_) fun x _=>L.ends1 x;have B:(dJ (gI l (l.exit.length+1))).length=l.exit.length:=by rw[yQ,d]
  refine qC e (rs:=dJ (gI l (l.exit.length+1))) (o:=o) (s:=1) Sq ?_ ?_
  ·simp only[go_sem,qY (show l.exit.length≤(dJ (gI l (l.exit.length+1))).length by omega),a2C (show (dJ (gI l (l.exit.length+1))).length≤l.exit.length by omega)]
  ·simp only[go_sem];exact bB rfl rfl
structure JZ (C:Ctx):Prop extends XW C where
 ends:∀ l:cS,l.Ok→XV l→aF C 102 [.agg l.cells] .nil (aH (.bool (rU l)))
def OQ (l:cS) (i:Nat):Bool:=decide ((l.a0E.getD i []).length=l.start.length)&&(l.a0E.getD i []).all eT&&!((l.a0E.getD i []).map bS).getD i false
def XL (l:cS):Bool:=match pS (l.start.map RF.v) with
 | .ok (n,a,b)=>decide (pP n a b false 1 1=0)
 | .error _=>false
theorem aIG (l:cS):qN l=(within l.start.length 1 4&&decide (l.exit.length=l.start.length)&&decide (l.a0E.length=l.start.length)&&l.start.all eT&&l.exit.all eT&&(a1S l.a0E.length).all (OQ l)&&XL l&&rU l):=rfl
theorem aBR {l:List FV} {e:Int} (h:pS l=.error e):e≠0:=by
 have:∀ (l:List FV) (b:FV) (e:Int),l.foldlM fU b=.error e→e≠0:=by
  intro l
  induction l with
  | nil=>intro b e h; cases h
  | cons x t i =>
   intro b e h;rw[List.foldlM_cons] at h;cases c:fU b x with
   | error d =>
    rw[c] at h;have:d=e:=by injection h
    subst this;obtain⟨p,a1,b1⟩:=b;obtain⟨u,a2,b2⟩:=x;simp only[fU] at c;split at c
    ·split at c
     ·rw[GI c]; decide
     ·split at c
      ·rw[GI c]; decide
      ·rw[GI c]; decide
    ·injection c with c; subst c; decide
   | ok y=>rw[c] at h; exact i y e h
 exact this l _ e h
theorem aLK {l:List FV} {r:FV} (h:pS l=.ok r):r.rf.Ok:=by
 have:∀ (l:List FV) (b r:FV),b.rf.Ok→l.foldlM fU b=.ok r→r.rf.Ok:=by
  intro l
  induction l with
  | nil=>intro b r d h; injection h with h; subst h; exact d
  | cons x t e =>
   intro b r d h;rw[List.foldlM_cons] at h;cases c:fU b x with
   | error i=>rw[c] at h; cases h
   | ok y=>rw[c] at h; exact e y r (Pu c) h
 refine this l _ r ⟨aU _,aU _,?_,?_⟩ h
 ·show (aE 0).length≤_;rw[dO]; simp
 ·show (aE 1).length≤_;rw[nI (by decide) (by decide)]; simp
theorem GJ {neg:Bool} {a b:Nat} {r:FV} (c:b≠0) (h:gD neg a b=.ok r):cG r.2.1 r.2.2=true:=by
 unfold gD at h;split at h
 ·cases h
 ·rename_i l;injection h with h
  subst h;have d:a1L a b ∣ b:=Nat.gcd_dvd_right _ _;have e:b/a1L a b≠0:=by have:=Nat.div_pos (Nat.le_of_dvd (a4A c) d) (a4A fun h=>c (Nat.gcd_eq_zero_iff.1 h).2);omega
  have i:=@jN (b/a1L a b);simp only[cG,a1Z,decide_eq_true_eq];omega
theorem Xn {x y r:FV} (h:fU x y=.ok r):cG r.2.1 r.2.2=true:=by
 obtain⟨e,a1,b1⟩:=x;obtain⟨i,a2,b2⟩:=y;simp only[fU] at h;split at h
 ·rename_i d;rw[a1Z] at d;have c:b1*b2≠0:=Nat.mul_ne_zero (dU.1 d.1).1 (dU.1 d.2).1;split at h
  ·exact GJ c h
  ·split at h
   ·exact GJ c h
   ·exact GJ c h
 ·cases h
theorem aeI:cG 0 1=true:=by
 have:cJ 1=1:=by rw[qH (by decide),kK]
 simp[cG,this,kK]
theorem acK {l:List FV} {r:FV} (h:pS l=.ok r):cG r.2.1 r.2.2=true:=by
 have:∀ (l:List FV) (b r:FV),cG b.2.1 b.2.2=true→l.foldlM fU b=.ok r→cG r.2.1 r.2.2=true:=by
  intro l
  induction l with
  | nil=>intro b r d h; injection h with h; subst h; exact d
  | cons x t e =>
   intro b r d h;rw[List.foldlM_cons] at h;cases c:fU b x with
   | error i=>rw[c] at h; cases h
   | ok y=>rw[c] at h; exact e y r (Xn c) h
 exact this l _ r aeI h
theorem awP:(⟨false,[],[]⟩:RF).Ok:=⟨fun _ h=>absurd h (a2B),fun _ h=>absurd h (a2B),show 0≤35184372087808 by decide,show 0≤35184372087808 by decide⟩
def axN (l:cS) (k:Nat):PF:=(((((PF.nil.set 1 (.cT l.cells)).set 3 (.int .i64 (l.start.length:Nat))).set 45 (abC l.a0E)).set 46 (.int .i64 (l.a0E.length:Nat))).set 47 (.int .i64 k))
theorem ajI {C:Ctx} (L:JZ C) (l:cS) (B:l.Ok) (K:XV l) (F:PF) (A:F 1=some (.cT l.cells)) :
  aC.wp C (.seq (.region UY) (.seq (.region FK) (.seq (.region FL) (.seq (.region sZ) .ret)))) (aX [.tmp 2] (cD (.bool (XL l&&rU l)))) F .nil:=by
 simp only[go_sem,UY,A];refine aA (L.tot l.start B.start) rfl ?_;obtain⟨E,x,y,e,R⟩:=sV (pS (l.start.map RF.v));have go:∀ (z:RF) (e:Int),z.Ok→(e=0→(vL z.neg (val z.num) (val z.den) false 1 1=.tup [.int .i64 (pP z.neg (val z.num) (val z.den) false 1 1),.int .i64 0])∧XL l=decide (pP z.neg (val z.num) (val z.den) false 1 1=0))→(e≠0→XL l=false) →
   frV (pS (l.start.map RF.v))=.tup [.agg z.cells,.int .i64 e] →
   wpOps C [⟨(some 69),.mv (.tmp 72),none⟩,⟨(some 73),.extract (.tmp 69) 0,none⟩,⟨(some 74),.extract (.tmp 69) 1,none⟩,⟨(some 6),.alloc [(.bool false),.aB,.aB],none⟩,⟨none,.store 3 (.tmp 6) (.tmp 73),none⟩,⟨(some 7),.mv (.tmp 74),none⟩]
    (aC.wp C (.seq (.region FK) (.seq (.region FL) (.seq (.region sZ) .ret))) (aX [.tmp 2] (cD (.bool (XL l&&rU l))))) ((((F.set 70 (.cT [frs l.start,abC l.a0E,frs l.exit])).set 71 (frs l.start))).set 72 (.tup [.agg z.cells,.int .i64 e])) .nil:=by
  intro z e O H J _;simp only[go_sem];refine aQ fun o6 M=>?_;simp only[go_sem,FK];refine aA (L.frac 1 1 (by decide) (by decide)) rfl ?_;rw[Gl];simp only[go_sem,frV];refine aQ fun o8 p=>?_;have Q:o6≠o8:=by rintro rfl; simp only[aV,if_true] at p; cases p
  simp only[go_sem,FL,Q];refine aA (L.ord z (FV.rf (false,1,1)) O alW) rfl ?_;rw[show val (FV.rf (false,1,1)).num=1 from aT 1,show val (FV.rf (false,1,1)).den=1 from aT 1,show (FV.rf (false,1,1)).neg=false from rfl];by_cases c:e=0
  ·obtain⟨g1,g2⟩:=H c;rw[g1,g2];by_cases d:pP z.neg (val z.num) (val z.den) false 1 1=0
   ·simp only[go_sem,sZ,bN c,bN d,A];refine aA (L.ends l B K) rfl ?_;simp only[go_sem];exact bB rfl (by rw[decide_eq_true d,a2J])
   ·simp only[go_sem,sZ,bN c,bF d];exact bB rfl (by rw[decide_eq_false d,a1Y])
  ·rw[J c];have:∃ v w,vL z.neg (val z.num) (val z.den) false 1 1=.tup [.int .i64 v,.int .i64 w]:=by
    unfold vL;split
    ·exact⟨_,_,rfl⟩
    ·exact⟨_,_,rfl⟩
   obtain⟨v,w,u⟩:=this;rw[u];simp only[go_sem,sZ,bF c];exact bB rfl rfl
 cases i:pS (l.start.map RF.v) with
 | error e =>rw[i] at go;exact go ⟨false,[],[]⟩ e awP (fun h=>absurd h (aBR i)) (fun _=>by rw[XL,i]) rfl
 | ok r =>obtain⟨n,a,b⟩:=r;rw[i] at go;have N:=aLK i;refine go (FV.rf (n,a,b)) 0 N (fun _=>?_) (fun h=>absurd rfl h) rfl;rw[show val (FV.rf (n,a,b)).num=a from aT a,show val (FV.rf (n,a,b)).den=b from aT b,show (FV.rf (n,a,b)).neg=n from rfl];refine⟨?_,by rw[XL,i]⟩;have u:cG a b=true:=acK i;rw[vL,u,xp];rfl
theorem Rs {C:Ctx} (L:JZ C) (l:cS) (x:l.Ok):MJ.wp C (aX Y0.res (cD (.bool (qN l)))) (PF.args [.agg l.cells]) .nil:=by
 rw[aIG];simp only[go_sem,MJ,Rt,Ru,Y0,Rv,a1K];refine aA (L.inn l.start.length 1 4) rfl ?_;cases M:within l.start.length 1 4 with
 | false =>simp only[go_sem,a2I,wR];exact bB rfl (by simp only[a1Y])
 | true =>
  obtain⟨U,V⟩:=within_iff.1 M;by_cases B:l.exit.length=l.start.length
  ·rw[decide_eq_true B];by_cases E:l.a0E.length=l.start.length
   ·rw[decide_eq_true E];simp only[go_sem,a1W,a1K,bR (Om:(l.exit.length:Int)=(l.start.length:Nat)),bR (Om:(l.a0E.length:Int)=(l.start.length:Nat))];refine aA (L.axQ l.start x.start) rfl ?_;cases Q:l.start.all eT with
    | false =>simp only[go_sem,a2I,wR];exact bB rfl (by simp only[a1Y])
    | true =>
     simp only[go_sem,a1W];refine aA (L.axQ l.exit x.exit) rfl ?_;cases R:l.exit.all eT with
     | false =>simp only[go_sem,a2I,wR];exact bB rfl (by simp only[a1Y])
     | true =>
      simp only[go_sem,a1W,Rw,a1K];have w:∀ k (h:k<l.a0E.length),OQ l k=(decide ((l.a0E[k]).length=l.start.length)&&(l.a0E[k]).all eT&&!((l.a0E[k]).map bS).getD k false):=by
       intro k h;have:l.a0E.getD k []=l.a0E[k]:=by simp[a2L,h]
       rw[OQ,this]
      refine wp_loop (α:=Nat) (fun k=>axN l k) (fun _=>.nil) (fun k=>k≤l.a0E.length∧qD (OQ l) k) (fun k=>l.a0E.length-k) 0 ⟨a1X _,.zero⟩ ?_ a_ ?_
      ·unfold axN
       (repeat' (first|exact d_|refine c_ ?_ ?_))<;>first|(simp only[go_sem,a1K]<;>rfl)|rfl
      rintro k ⟨S,K⟩;simp only[go_sem,Ei,Rx,axN];by_cases hlt:k<l.a0E.length
      ·have d:(k:Int)<(l.a0E.length:Nat):=Om;have A:(l.a0E.map fun r=>[frs r])[k]?=some [frs l.a0E[k]]:=by simp[hlt]
       have c:=w k hlt;have p:=x.row l.a0E[k] (a1N hlt);simp only[go_sem,d,Ry,A,Rz,a1K];by_cases F:(l.a0E[k]).length=l.start.length
       ·rw[decide_eq_true F,a2J] at c;simp only[go_sem,bR (show (((l.a0E[k]).length:Nat):Int)=(l.start.length:Nat) by omega)];refine aA (L.axQ _ p) rfl ?_;cases H:(l.a0E[k]).all eT with
        | false =>rw[H,a1Y] at c;simp only[go_sem,a2I,QJ];refine bB (b:=false) rfl ?_;have:(a1S l.a0E.length).all (OQ l)=false:=eQ hlt c;rw[this]; simp only[a1Y,a2W]
        | true =>
         have u:k<(l.a0E[k]).length:=Om;have O:((l.a0E[k]).map RF.cells)[k]?=some ((l.a0E[k])[k]).cells:=by simp[u]
         have y:((l.a0E[k]).map bS).getD k false=bS (l.a0E[k])[k]:=by simp[a2L,u]
         rw[H,a2J,y] at c;simp only[go_sem,a1W,O];refine aA (L.nP _ (p.all _ (a1N u))) rfl ?_;cases J:bS (l.a0E[k])[k] with
         | true =>rw[J] at c;simp only[go_sem,QJ];refine bB (b:=false) rfl ?_;have:(a1S l.a0E.length).all (OQ l)=false:=eQ hlt c;rw[this]; simp only[a1Y,a2W]
         | false =>rw[J] at c;simp only[go_sem,R0,wZz k];refine aK (k+1) ⟨hlt,K.step c⟩ Om ?_ a_;exact Lq
       ·simp only[decide_eq_false F,a1Y] at c;simp only[go_sem,dX (show (((l.a0E[k]).length:Nat):Int)≠(l.start.length:Nat) by omega),QJ];refine bB (b:=false) rfl ?_;have:(a1S l.a0E.length).all (OQ l)=false:=eQ hlt c;rw[this]; simp only[a1Y,a2W]
      ·have d:¬ (k:Int)<(l.a0E.length:Nat):=Om;have:k=l.a0E.length:=Om;subst this;have e:(a1S l.a0E.length).all (OQ l)=true:=K;have N:XV l:=⟨by omega,by omega,fun r A=>by obtain⟨i,hi,rfl⟩:=a3D A;have:=a2F.1 e i (a3B.2 hi);rw[w i hi] at this;simp only[a1Z,decide_eq_true_eq] at this;omega⟩
       have tail:=ajI L l x N;simp only[aC.wp,go_sem] at tail;rw[e];simp only[go_sem,d,a2J,a4B];exact tail _ rfl
   ·simp only[go_sem,a1W,a1K,bR (Om:(l.exit.length:Int)=(l.start.length:Nat)),dX (Om:(l.a0E.length:Int)≠(l.start.length:Nat)),wR];exact bB rfl (by rw[decide_eq_false E]; simp only[a1Y,a2W])
  ·simp only[go_sem,a1W,a1K,dX (Om:(l.exit.length:Int)≠(l.start.length:Nat)),wR];exact bB rfl (by rw[decide_eq_false B]; simp only[a1Y,a2W])
structure jM (C:Ctx):Prop extends JZ C where
 law:∀ l:cS,l.Ok→aF C 95 [.agg l.cells] .nil (aH (.bool (qN l)))
 pol:∀ (p:cB) (n:Nat),p.Ok→n≤4→aF C 112 [.agg p.cells,.int .i64 n] .nil (aH (.bool (jY n p)))
 a0I:∀ f:aJ,f.Ok→aF C 111 [.agg f.cells] .nil (aH (.bool (nS f)))
abbrev eW (l:List (List UInt8)):List (List PV):=l.map fun s=>[PV.str s]
theorem uR (l:List (List UInt8)) {k:Nat} (h:k<l.length):eW (l.take k)++[[.str l[k]]]=eW (l.take (k+1)):=by
 unfold eW;rw[a3I h,a2N]; rfl
theorem rG {l:List (List UInt8)} (h:l.length≤1000):roomFor (eW l).length 1 16:=by
 unfold roomFor eW;simp only[a1K,maxLen]; omega
def hM {α:Type} (l:List α) (p:α→Bool) (k:Nat):Bool:=(l.take k).all p
theorem rM {α:Type} (l:List α) (p:α→Bool):hM l p 0=true:=rfl
theorem rL {α:Type} (l:List α) (p:α→Bool) {k:Nat} (h:k<l.length):hM l p (k+1)=(hM l p k&&p l[k]):=by
 unfold hM;rw[a3I h,List.all_append]; simp
theorem uE {α:Type} (l:List α) (p:α→Bool):hM l p l.length=l.all p:=by unfold hM; rw[a2O]
def iV (f:aJ) (c d e i l:PV) (ok:Bool):PF:=(((((((PF.nil.set 1 (.cT f.cells)).set 3 (c)).set 4 (d)).set 5 (e)).set 6 (i)).set 7 (l)).set 8 (.bool ok))
structure kF (F:PF) (f:aJ) (w3 w4 w5 w6 w7:PV) (ok:Bool):Prop where
 a1:F 1=some (.cT f.cells)
 a3:F 3=some w3
 a4:F 4=some w4
 a5:F 5=some w5
 a6:F 6=some w6
 a7:F 7=some w7
 a8:F 8=some (.bool ok)
theorem Y7 {C:Ctx} (L:jM C) (f:aJ) (Q:f.Ok) (W:f.a0G.length≤4) (A B E J:PV) (K:bV) (F:PF) (H:PH) (i:kF F f .aB A B E J true)
  (w:F 67=some (.sl 4 (f.a0G.map cS.cells))) (x:F 68=some (.int .i64 (f.a0G.length:Nat))) (y:F 69=some (.int .i64 0))
  (O:∀ v M H',kF M f v A B E J (f.a0G.all qN)→bP H' 1 v (eW (f.a0G.map cS.name))→K (.exit 0) M H') :
  aC.wp C (.loop FT) K F H:=by
 refine wp_loop (α:=Nat × PV × PH) (fun t=>(((iV f t.2.1 A B E J (hM f.a0G qN t.1)).set 67 (.sl 4 (f.a0G.map cS.cells))).set 68 (.int .i64 (f.a0G.length:Nat))).set 69 (.int .i64 t.1)) (fun t=>t.2.2)
  (fun t=>t.1≤f.a0G.length∧bP t.2.2 1 t.2.1 (eW ((f.a0G.map cS.name).take t.1))) (fun t=>f.a0G.length-t.1) (0,.aB,.nil) ⟨a1X _,.nil⟩ ?_ a_ ?_
 ·unfold iV
  (repeat' (first|exact d_|refine c_ ?_ ?_))<;>first|(simp only[go_sem,i.a1,i.a3,i.a4,i.a5,i.a6,i.a7,i.a8,w,x,y,rM]<;>rfl)|rfl
 rintro⟨k,v,V⟩ ⟨R,u⟩;simp only at R u ⊢;simp only[go_sem,FT,Ss,iV];by_cases hlt:k<f.a0G.length
 ·have d:(k:Int)<(f.a0G.length:Nat):=Om;have U:(f.a0G.map cS.cells)[k]?=some (f.a0G[k]).cells:=by simp[hlt]
  have p:=uR (f.a0G.map cS.name) (k:=k) (by simpa using hlt);rw[a3L] at p;simp only[go_sem,d,St,U];refine aQ fun o S=>?_;simp only[go_sem,Su];refine mJ u S (rG (by simp; omega)) fun v' H' e l=>?_;rw[p] at e;have c:=rL f.a0G qN hlt;cases N:hM f.a0G qN k with
  | false =>rw[N,a1Y] at c;simp only[go_sem,la,l,VD,wZz k];refine aK (k+1,v',H') ⟨hlt,e⟩ (by simp only; omega) ?_ b_;simp only[c];exact Lq
  | true =>rw[N,a2J] at c;simp only[go_sem,la,l];refine aA (L.law _ (Q.law _ (a1N hlt))) Ev ?_;simp only[go_sem,VD,wZz k];refine aK (k+1,v',H') ⟨hlt,e⟩ (by simp only; omega) ?_ b_;simp only[c];exact Lq
 ·have d:¬ (k:Int)<(f.a0G.length:Nat):=Om;have:k=f.a0G.length:=Om;subst this;rw[a2C (by simp)] at u;rw[uE];simp only[go_sem,d];exact O v _ _ ⟨by simp only[go_sem],by simp only[go_sem],by simp only[go_sem],by simp only[go_sem],by simp only[go_sem],by simp only[go_sem],by simp only[go_sem]⟩ u
theorem zY {n:Nat} (h:n≤1000):IntKind.i64.wrap ((n:Int)-1)=(n:Int)-1:=wrap_i64 Om Om
theorem Y8 {C:Ctx} (L:jM C) (f:aJ) (hs:f.a0A.length≤4) (hl:f.a0G.length≤4) (u:Bool) (A B E J:PV) (K:bV) (F:PF) (H:PH) (l:kF F f A .aB B E J u)
  (O:F 85=some (.sl 4 (f.a0A.map dP.cells))) (Q:F 86=some (.int .i64 (f.a0A.length:Nat))) (R:F 87=some (.int .i64 0))
  (W:∀ v p H',kF p f A v B E J (u&&f.a0A.all (lW f))→bP H' 1 v (eW (f.a0A.map dP.name))→K (.exit 2) p H') :
  aC.wp C (.loop FU) K F H:=by
 refine wp_loop (α:=Nat × PV × PH) (fun t=>(((iV f A t.2.1 B E J (u&&hM f.a0A (lW f) t.1)).set 85 (.sl 4 (f.a0A.map dP.cells))).set 86 (.int .i64 (f.a0A.length:Nat))).set 87 (.int .i64 t.1)) (fun t=>t.2.2)
  (fun t=>t.1≤f.a0A.length∧bP t.2.2 1 t.2.1 (eW ((f.a0A.map dP.name).take t.1))) (fun t=>f.a0A.length-t.1) (0,.aB,.nil) ⟨a1X _,.nil⟩ ?_ a_ ?_
 ·unfold iV
  (repeat' (first|exact d_|refine c_ ?_ ?_))<;>first|(simp only[go_sem,l.a1,l.a3,l.a4,l.a5,l.a6,l.a7,l.a8,O,Q,R,rM,a4B]<;>rfl)|rfl
 rintro⟨k,v,H0⟩ ⟨Y,M⟩;simp only at Y M ⊢;simp only[go_sem,FU,Fb,iV];by_cases hlt:k<f.a0A.length
 ·have d:(k:Int)<(f.a0A.length:Nat):=Om;have hr:(f.a0A.map dP.cells)[k]?=some (f.a0A[k]).cells:=by simp[hlt]
  have y:=uR (f.a0A.map dP.name) (k:=k) (by simpa using hlt);rw[a3L] at y;simp only[go_sem,d,Fc,hr];refine aQ fun o Z=>?_;simp only[go_sem,Fd];refine mJ M Z (rG (by simp; omega)) fun v' H' w e=>?_;rw[y] at w;have i:=rL f.a0A (lW f) hlt;have fin:∀ (c:Bool) (p:PF),c=(u&&hM f.a0A (lW f) (k+1))→((((iV f A v' B E J c).set 85 (.sl 4 (f.a0A.map dP.cells))).set 86 (.int .i64 (f.a0A.length:Nat))).set 87 (.int .i64 (k+1:Nat))).le p →
    jS (fun (t:Nat × PV × PH)=>(((iV f A t.2.1 B E J (u&&hM f.a0A (lW f) t.1)).set 85 (.sl 4 (f.a0A.map dP.cells))).set 86 (.int .i64 (f.a0A.length:Nat))).set 87 (.int .i64 t.1)) (fun (t:Nat × PV × PH)=>t.2.2)  (fun (t:Nat × PV × PH)=>t.1≤f.a0A.length∧bP t.2.2 1 t.2.1 (eW ((f.a0A.map dP.name).take t.1))) (fun (t:Nat × PV × PH)=>f.a0A.length-t.1) (f.a0A.length-k) K .normal p H':=by
   intro c p X x;refine aK (α:=Nat × PV × PH) (k+1,v',H') ⟨hlt,w⟩ (by simp only; omega) ?_ b_;rw[X] at x;exact x
  unfold iV at fin;rw[i,← Bool.and_assoc] at fin;have S:lW f f.a0A[k]=(within (f.a0A[k]).a0P 1 16&&within (f.a0A[k]).port 1 64&&within (f.a0A[k]).law 0 ((f.a0G.length:Int)-1)):=rfl;cases V:(u&&hM f.a0A (lW f) k) with
  | false =>rw[V,a1Y] at fin;simp only[go_sem,VG,e,xR,wZz k];refine fin false _ rfl ?_;exact Lq
  | true =>
   rw[V,a2J] at fin;simp only[go_sem,VG,e];refine aA (L.inn _ 1 16) Ev ?_;cases N:within (f.a0A[k]).a0P 1 16 with
   | false =>simp only[go_sem,xR,wZz k];refine fin false _ (by rw[S,N]; simp only[a1Y]) ?_;exact Lq
   | true =>
    simp only[go_sem,e];refine aA (L.inn _ 1 64) Ev ?_;cases U:within (f.a0A[k]).port 1 64 with
    | false =>simp only[go_sem,xR,wZz k];refine fin false _ (by rw[S,N,U]; simp only[a1Y,a2W]) ?_;exact Lq
    | true =>simp only[go_sem,e,a1K,zY (Om:f.a0G.length≤1000)];refine aA (L.inn _ 0 _) Ev ?_;simp only[go_sem,xR,wZz k];refine fin (within (f.a0A[k]).law 0 ((f.a0G.length:Int)-1)) _ (by rw[S,N,U]; simp only[a2J]) ?_;exact Lq
 ·have d:¬ (k:Int)<(f.a0A.length:Nat):=Om;have:k=f.a0A.length:=Om;subst this;rw[a2C (by simp)] at M;rw[uE];simp only[go_sem,d];exact W v _ _ ⟨by simp only[go_sem],by simp only[go_sem],by simp only[go_sem],by simp only[go_sem],by simp only[go_sem],by simp only[go_sem],by simp only[go_sem]⟩ M
theorem Y9 {C:Ctx} (L:jM C) (f:aJ) (t:List cN) (U:t.length≤40) (p:Bool) (y A B E:PV) (K:bV) (F:PF) (H:PH) (d:kF F f y A .aB B E p)
  (u:F 119=some (.sl 7 (t.map cN.cells))) (w:F 120=some (.int .i64 (t.length:Nat))) (x:F 121=some (.int .i64 0))
  (M:∀ v J H',kF J f y A v B E p→bP H' 1 v (eW (t.map cN.name))→K (.exit 4) J H') :
  aC.wp C (.loop FW) K F H:=by
 refine wp_loop (α:=Nat × PV × PH) (fun a=>(((iV f y A a.2.1 B E p).set 119 (.sl 7 (t.map cN.cells))).set 120 (.int .i64 (t.length:Nat))).set 121 (.int .i64 a.1)) (fun a=>a.2.2)
  (fun a=>a.1≤t.length∧bP a.2.2 1 a.2.1 (eW ((t.map cN.name).take a.1))) (fun a=>t.length-a.1) (0,.aB,.nil) ⟨a1X _,.nil⟩ ?_ a_ ?_
 ·unfold iV
  (repeat' (first|exact d_|refine c_ ?_ ?_))<;>first|(simp only[go_sem,d.a1,d.a3,d.a4,d.a5,d.a6,d.a7,d.a8,u,w,x]<;>rfl)|rfl
 rintro⟨k,v,S⟩ ⟨N,l⟩;simp only at N l ⊢;simp only[go_sem,FW,Fe,iV];by_cases hlt:k<t.length
 ·have c:(k:Int)<(t.length:Nat):=Om;have R:(t.map cN.cells)[k]?=some (t[k]).cells:=by simp[hlt]
  have i:=uR (t.map cN.name) (k:=k) (by simpa using hlt);rw[a3L] at i;simp only[go_sem,c,Ff,R];refine aQ fun o O=>?_;simp only[go_sem,Fg];refine mJ l O (rG (by simp; omega)) fun v' H' e Q=>?_;rw[i] at e;simp only[go_sem,Fh,wZz k];refine aK (k+1,v',H') ⟨hlt,e⟩ (by simp only; omega) ?_ b_;exact Lq
 ·have c:¬ (k:Int)<(t.length:Nat):=Om;have:k=t.length:=Om;subst this;rw[a2C (by simp)] at l;simp only[go_sem,c];exact M v _ _ ⟨by simp only[go_sem],by simp only[go_sem],by simp only[go_sem],by simp only[go_sem],by simp only[go_sem],by simp only[go_sem],by simp only[go_sem]⟩ l
theorem Za {C:Ctx} (L:jM C) (f:aJ) (d:List (List UInt8)) (hn:d.length≤40) (hs:f.aZZ.length≤24) (hm:f.a0A.length≤4) (hd:f.a0C.length≤40) (x:Bool) (E J Z M N:PV) (K:bV) (F:PF) (H:PH) (u:kF F f E J Z M N x)
  (h0:bP H 1 Z (eW d))
  (U:F 132=some (.sl 3 (f.aZZ.map cZ.cells))) (V:F 133=some (.int .i64 (f.aZZ.length:Nat))) (W:F 134=some (.int .i64 0))
  (hK:∀ v w H',kF w f E J v M N (x&&f.aZZ.all (kB f))→bP H' 1 v (eW (d++f.aZZ.map cZ.name))→K (.exit 6) w H') :
  aC.wp C (.loop FX) K F H:=by
 refine wp_loop (α:=Nat × PV × PH) (fun t=>(((iV f E J t.2.1 M N (x&&hM f.aZZ (kB f) t.1)).set 132 (.sl 3 (f.aZZ.map cZ.cells))).set 133 (.int .i64 (f.aZZ.length:Nat))).set 134 (.int .i64 t.1)) (fun t=>t.2.2)
  (fun t=>t.1≤f.aZZ.length∧bP t.2.2 1 t.2.1 (eW (d++(f.aZZ.map cZ.name).take t.1))) (fun t=>f.aZZ.length-t.1) (0,Z,H) ⟨a1X _,by rw[List.take_zero,a3J]; exact h0⟩ ?_ b_ ?_
 ·unfold iV
  (repeat' (first|exact d_|refine c_ ?_ ?_))<;>first|(simp only[go_sem,u.a1,u.a3,u.a4,u.a5,u.a6,u.a7,u.a8,U,V,W,rM,a4B]<;>rfl)|rfl
 rintro⟨k,v,H0⟩ ⟨hk,S⟩;simp only at hk S ⊢;simp only[go_sem,FX,Fi,iV];by_cases hlt:k<f.aZZ.length
 ·have e:(k:Int)<(f.aZZ.length:Nat):=Om;have hr:(f.aZZ.map cZ.cells)[k]?=some (f.aZZ[k]).cells:=by simp[hlt]
  have Y:eW (d++(f.aZZ.map cZ.name).take k)++[[.str (f.aZZ[k]).name]]=eW (d++(f.aZZ.map cZ.name).take (k+1)):=by rw[a3I (by simpa using hlt),← a2T,a3L];unfold eW;simp only[a2N,a2Y,a3Q]
  simp only[go_sem,e,Fj,hr];refine aQ fun o ho=>?_;simp only[go_sem,Fk];refine mJ S ho (rG (by simp; omega)) fun v' H' y l=>?_;rw[Y] at y;have p:=rL f.aZZ (kB f) hlt;have fin:∀ (c:Bool) (w:PF),c=(x&&hM f.aZZ (kB f) (k+1))→((((iV f E J v' M N c).set 132 (.sl 3 (f.aZZ.map cZ.cells))).set 133 (.int .i64 (f.aZZ.length:Nat))).set 134 (.int .i64 (k+1:Nat))).le w →
    jS (fun (t:Nat × PV × PH)=>(((iV f E J t.2.1 M N (x&&hM f.aZZ (kB f) t.1)).set 132 (.sl 3 (f.aZZ.map cZ.cells))).set 133 (.int .i64 (f.aZZ.length:Nat))).set 134 (.int .i64 t.1)) (fun (t:Nat × PV × PH)=>t.2.2)  (fun (t:Nat × PV × PH)=>t.1≤f.aZZ.length∧bP t.2.2 1 t.2.1 (eW (d++(f.aZZ.map cZ.name).take t.1))) (fun (t:Nat × PV × PH)=>f.aZZ.length-t.1) (f.aZZ.length-k) K .normal w H':=by
   intro c w hc A;refine aK (α:=Nat × PV × PH) (k+1,v',H') ⟨hlt,y⟩ (by simp only; omega) ?_ b_;rw[hc] at A;exact A
  unfold iV at fin;rw[p,← Bool.and_assoc] at fin;have i:kB f f.aZZ[k]=(within (f.aZZ[k]).model 0 ((f.a0A.length:Int)-1)&&within (f.aZZ[k]).machine 0 ((f.a0C.length:Int)-1)&&decide ((f.a0C.map cN.level).getD (f.aZZ[k]).machine.toNat 0=4)):=rfl;cases hb:(x&&hM f.aZZ (kB f) k) with
  | false =>rw[hb,a1Y] at fin;simp only[go_sem,VJ,l,tA,wZz k];refine fin false _ rfl ?_;exact Lq
  | true =>
   rw[hb,a2J] at fin;simp only[go_sem,VJ,l,a1K,zY (Om:f.a0A.length≤1000)];refine aA (L.inn _ 0 _) Ev ?_;cases O:within (f.aZZ[k]).model 0 ((f.a0A.length:Int)-1) with
   | false =>simp only[go_sem,tA,wZz k];refine fin false _ (by rw[i,O]; simp only[a1Y]) ?_;exact Lq
   | true =>
    simp only[go_sem,l,a1K,zY (Om:f.a0C.length≤1000)];refine aA (L.inn _ 0 _) Ev ?_;cases Q:within (f.aZZ[k]).machine 0 ((f.a0C.length:Int)-1) with
    | false =>simp only[go_sem,tA,wZz k];refine fin false _ (by rw[i,O,Q]; simp only[a1Y,a2W]) ?_;exact Lq
    | true =>
     obtain⟨i1,i2⟩:=within_iff.1 Q;have i3:(f.aZZ[k]).machine.toNat<f.a0C.length:=Om;have B:(f.a0C.map cN.cells)[(f.aZZ[k]).machine.toNat]?=some (f.a0C[(f.aZZ[k]).machine.toNat]).cells:=by simp[i3]
     have X:(f.a0C.map cN.level).getD (f.aZZ[k]).machine.toNat 0=(f.a0C[(f.aZZ[k]).machine.toNat]).level:=by simp[i3]
     rw[X] at i;by_cases R:(f.a0C[(f.aZZ[k]).machine.toNat]).level=4
     ·simp only[go_sem,l,i1,B,bN R,tA,wZz k];refine fin true _ (by rw[i,O,Q,decide_eq_true R]; rfl) ?_;exact Lq
     ·simp only[go_sem,l,i1,B,bF R,tA,wZz k];refine fin false _ (by rw[i,O,Q,decide_eq_false R]; rfl) ?_;exact Lq
 ·have e:¬ (k:Int)<(f.aZZ.length:Nat):=Om;have:k=f.aZZ.length:=Om;subst this;rw[a2C (by simp)] at S;rw[uE];simp only[go_sem,e];exact hK v _ _ ⟨by simp only[go_sem],by simp only[go_sem],by simp only[go_sem],by simp only[go_sem],by simp only[go_sem],by simp only[go_sem],by simp only[go_sem]⟩ S
theorem Zb {C:Ctx} (L:jM C) (f:aJ) (V:f.Ok) (hs:f.a0D.length≤4) (X:f.a0A.length≤4) (p:Bool) (A B E J:PV) (K:bV) (F:PF) (H:PH) (i:kF F f A B E .aB J p)
  (N:F 174=some (.sl 17 (f.a0D.map cB.cells))) (O:F 175=some (.int .i64 (f.a0D.length:Nat))) (Q:F 176=some (.int .i64 0))
  (S:∀ v l H',kF l f A B E v J (p&&f.a0D.all (jY f.a0A.length))→bP H' 1 v (eW (f.a0D.map cB.name))→K (.exit 8) l H') :
  aC.wp C (.loop FY) K F H:=by
 refine wp_loop (α:=Nat × PV × PH) (fun t=>(((iV f A B E t.2.1 J (p&&hM f.a0D (jY f.a0A.length) t.1)).set 174 (.sl 17 (f.a0D.map cB.cells))).set 175 (.int .i64 (f.a0D.length:Nat))).set 176 (.int .i64 t.1)) (fun t=>t.2.2)
  (fun t=>t.1≤f.a0D.length∧bP t.2.2 1 t.2.1 (eW ((f.a0D.map cB.name).take t.1))) (fun t=>f.a0D.length-t.1) (0,.aB,.nil) ⟨a1X _,.nil⟩ ?_ a_ ?_
 ·unfold iV
  (repeat' (first|exact d_|refine c_ ?_ ?_))<;>first|(simp only[go_sem,i.a1,i.a3,i.a4,i.a5,i.a6,i.a7,i.a8,N,O,Q,rM,a4B]<;>rfl)|rfl
 rintro⟨k,v,H0⟩ ⟨W,M⟩;simp only at W M ⊢;simp only[go_sem,FY,Fl,iV];by_cases hlt:k<f.a0D.length
 ·have d:(k:Int)<(f.a0D.length:Nat):=Om;have Z:(f.a0D.map cB.cells)[k]?=some (f.a0D[k]).cells:=by simp[hlt]
  have y:=uR (f.a0D.map cB.name) (k:=k) (by simpa using hlt);rw[a3L] at y;simp only[go_sem,d,Fm,Z];refine aQ fun o Y=>?_;simp only[go_sem,Fn];refine mJ M Y (rG (by simp; omega)) fun v' H' u x=>?_;rw[y] at u;have e:=rL f.a0D (jY f.a0A.length) hlt;have fin:∀ (c:Bool) (l:PF),c=(p&&hM f.a0D (jY f.a0A.length) (k+1))→((((iV f A B E v' J c).set 174 (.sl 17 (f.a0D.map cB.cells))).set 175 (.int .i64 (f.a0D.length:Nat))).set 176 (.int .i64 (k+1:Nat))).le l →
    jS (fun (t:Nat × PV × PH)=>(((iV f A B E t.2.1 J (p&&hM f.a0D (jY f.a0A.length) t.1)).set 174 (.sl 17 (f.a0D.map cB.cells))).set 175 (.int .i64 (f.a0D.length:Nat))).set 176 (.int .i64 t.1)) (fun (t:Nat × PV × PH)=>t.2.2)  (fun (t:Nat × PV × PH)=>t.1≤f.a0D.length∧bP t.2.2 1 t.2.1 (eW ((f.a0D.map cB.name).take t.1))) (fun (t:Nat × PV × PH)=>f.a0D.length-t.1) (f.a0D.length-k) K .normal l H':=by
   intro c l U w;refine aK (α:=Nat × PV × PH) (k+1,v',H') ⟨hlt,u⟩ (by simp only; omega) ?_ b_;rw[U] at w;exact w
  unfold iV at fin;rw[e,← Bool.and_assoc] at fin;cases R:(p&&hM f.a0D (jY f.a0A.length) k) with
  | false =>rw[R,a1Y] at fin;simp only[go_sem,VL,x,VM,wZz k];refine fin false _ rfl ?_;exact Lq
  | true =>rw[R,a2J] at fin;simp only[go_sem,VL,x,a1K];refine aA (L.pol _ _ (V.a0L _ (a1N hlt)) X) Ev ?_;simp only[go_sem,VM,wZz k];refine fin _ _ rfl ?_;exact Lq
 ·have d:¬ (k:Int)<(f.a0D.length:Nat):=Om;have:k=f.a0D.length:=Om;subst this;rw[a2C (by simp)] at M;rw[uE];simp only[go_sem,d];exact S v _ _ ⟨by simp only[go_sem],by simp only[go_sem],by simp only[go_sem],by simp only[go_sem],by simp only[go_sem],by simp only[go_sem],by simp only[go_sem]⟩ M
theorem Zc {C:Ctx} (L:jM C) (f:aJ) (hs:f.a0B.length≤12) (hl:f.a0D.length≤4) (p:Bool) (A B E J:PV) (K:bV) (F:PF) (H:PH) (i:kF F f A B E J .aB p)
  (N:F 195=some (.sl 2 (f.a0B.map iU.cells))) (O:F 196=some (.int .i64 (f.a0B.length:Nat))) (Q:F 197=some (.int .i64 0))
  (S:∀ v l H',kF l f A B E J v (p&&f.a0B.all (oQ f))→bP H' 1 v (eW (f.a0B.map iU.name))→K (.exit 10) l H') :
  aC.wp C (.loop FZ) K F H:=by
 refine wp_loop (α:=Nat × PV × PH) (fun t=>(((iV f A B E J t.2.1 (p&&hM f.a0B (oQ f) t.1)).set 195 (.sl 2 (f.a0B.map iU.cells))).set 196 (.int .i64 (f.a0B.length:Nat))).set 197 (.int .i64 t.1)) (fun t=>t.2.2)
  (fun t=>t.1≤f.a0B.length∧bP t.2.2 1 t.2.1 (eW ((f.a0B.map iU.name).take t.1))) (fun t=>f.a0B.length-t.1) (0,.aB,.nil) ⟨a1X _,.nil⟩ ?_ a_ ?_
 ·unfold iV
  (repeat' (first|exact d_|refine c_ ?_ ?_))<;>first|(simp only[go_sem,i.a1,i.a3,i.a4,i.a5,i.a6,i.a7,i.a8,N,O,Q,rM,a4B]<;>rfl)|rfl
 rintro⟨k,v,Z⟩ ⟨V,M⟩;simp only at V M ⊢;simp only[go_sem,FZ,Fo,iV];by_cases hlt:k<f.a0B.length
 ·have d:(k:Int)<(f.a0B.length:Nat):=Om;have Y:(f.a0B.map iU.cells)[k]?=some (f.a0B[k]).cells:=by simp[hlt]
  have y:=uR (f.a0B.map iU.name) (k:=k) (by simpa using hlt);rw[a3L] at y;simp only[go_sem,d,Fp,Y];refine aQ fun o X=>?_;simp only[go_sem,Fq];refine mJ M X (rG (by simp; omega)) fun v' H' u x=>?_;rw[y] at u;have e:=rL f.a0B (oQ f) hlt;have fin:∀ (c:Bool) (l:PF),c=(p&&hM f.a0B (oQ f) (k+1))→((((iV f A B E J v' c).set 195 (.sl 2 (f.a0B.map iU.cells))).set 196 (.int .i64 (f.a0B.length:Nat))).set 197 (.int .i64 (k+1:Nat))).le l →
    jS (fun (t:Nat × PV × PH)=>(((iV f A B E J t.2.1 (p&&hM f.a0B (oQ f) t.1)).set 195 (.sl 2 (f.a0B.map iU.cells))).set 196 (.int .i64 (f.a0B.length:Nat))).set 197 (.int .i64 t.1)) (fun (t:Nat × PV × PH)=>t.2.2)  (fun (t:Nat × PV × PH)=>t.1≤f.a0B.length∧bP t.2.2 1 t.2.1 (eW ((f.a0B.map iU.name).take t.1))) (fun (t:Nat × PV × PH)=>f.a0B.length-t.1) (f.a0B.length-k) K .normal l H':=by
   intro c l U w;refine aK (α:=Nat × PV × PH) (k+1,v',H') ⟨hlt,u⟩ (by simp only; omega) ?_ b_;rw[U] at w;exact w
  unfold iV at fin;rw[e,← Bool.and_assoc] at fin;have W:oQ f f.a0B[k]=within (f.a0B[k]).a0L 0 ((f.a0D.length:Int)-1):=rfl;cases R:(p&&hM f.a0B (oQ f) k) with
  | false =>rw[R,a1Y] at fin;simp only[go_sem,VO,x,VP,wZz k];refine fin false _ rfl ?_;exact Lq
  | true =>rw[R,a2J,W] at fin;simp only[go_sem,VO,x,a1K,zY (Om:f.a0D.length≤1000)];refine aA (L.inn _ 0 _) Ev ?_;simp only[go_sem,VP,wZz k];refine fin _ _ rfl ?_;exact Lq
 ·have d:¬ (k:Int)<(f.a0B.length:Nat):=Om;have:k=f.a0B.length:=Om;subst this;rw[a2C (by simp)] at M;rw[uE];simp only[go_sem,d];exact S v _ _ ⟨by simp only[go_sem],by simp only[go_sem],by simp only[go_sem],by simp only[go_sem],by simp only[go_sem],by simp only[go_sem],by simp only[go_sem]⟩ M
theorem mN {f:aJ} (h:¬ (f.a0G.length≤4∧f.a0A.length≤4∧f.a0C.length≤40∧f.aZZ.length≤24∧f.a0D.length≤4∧f.a0B.length≤12)):qB f=false:=by
 rw[← Bool.not_eq_true];intro c;simp only[qB,a1Z,decide_eq_true_eq] at c;omega
theorem Oj {f:aJ} (h:f.a0G.length≤4∧f.a0A.length≤4∧f.a0C.length≤40∧f.aZZ.length≤24∧f.a0D.length≤4∧f.a0B.length≤12):qB f=within f.a1D 1 4:=by
 obtain⟨c,d,e,i,h5,l⟩:=h;simp[qB,c,d,e,i,h5,l]
theorem oO {t:Nat} {n m:Int} {F:PF} {H:PH} (h:F t=some (.int .i64 n)) (e:n=m):aX [.tmp t] (cD (.int .i64 m)) .ret F H:=by
 subst e;exact aZ (.inr rfl) .nil (vs:=[.int .i64 n]) (by rw[jZ,mM,h,nK]) a_ ⟨.refl _,rfl⟩
def vD (f:aJ):Int:=if jP f then 0 else 1
theorem aeH {f:aJ} (h:jP f=false):vD f=1:=by rw[vD,h]; rfl
theorem sQ {C:Ctx} {F:PF} {H:PH} {name t s:Nat} {v r:PV} {rows:List (List PV)} {d:Option Nat} {K:PF→PH→Prop} (h:aF C name [.sl s rows] .nil (aH r)) (w:bP H s v rows) (l:F t=some v)
  (e:∀ (c:PF) (p:PH),(∀ i u,F i=some u→Pure u→c i=some u)→K (c.put d r) p):hL C name [.tmp t] [] d K F H:=by
 rcases w with ⟨rfl,rfl⟩ | ⟨q,rs,rfl,h1,h2,h3⟩
 ·refine aA (h.abP (.inl ⟨rfl,rfl⟩)) (by rw[qJ,CR,l,CS]) ?_;exact e F H fun i u hi _=>hi
 ·rw[← h3] at h;refine pK (k:=rows.length) h l h1 h2 (e _ _ fun i u hi x=>?_);rw[mK,hi,a2V,x q s rs]
theorem Seen.pure {s:Nat} {v:PV} {rows:List (List PV)} (h:Seen s v rows):Pure v:=by
 rcases h with ⟨_,rfl⟩ | rfl
 ·exact fun _ _ _=>rfl
 ·exact fun _ _ _=>rfl
def bI (b:Bool):Int:=if b then 0 else 1
abbrev QU (f:aJ):List (List UInt8):=(f.a0C.drop 1).map cN.name++f.aZZ.map cZ.name
def uB (f:aJ):Bool:=distinct (f.a0G.map cS.name)&&distinct (f.a0A.map dP.name)&&distinct (QU f)&&distinct (f.a0D.map cB.name)&&distinct (f.a0B.map iU.name)
structure Small (f:aJ):Prop where
 a0G:f.a0G.length≤4
 a0A:f.a0A.length≤4
 a0C:f.a0C.length≤40
 aZZ:f.aZZ.length≤24
 a0D:f.a0D.length≤4
 a0B:f.a0B.length≤12
theorem zR {C:Ctx} (L:jM C) {v:PV} {l:List (List UInt8)} (h:Seen 1 v (eW l)) (c:l.length≤1000):aF C 110 [v] .nil (aH (.bool (distinct l))) :=
 (L.uniq l (Om:l.length≤9223372036854775807)).abP h
theorem axJ {C:Ctx} (L:jM C) (f:aJ) (B:Small f) (d e i l p:PV) (ok:Bool) (F:PF) (H:PH) (c:kF F f d e i l p ok)
  (w:Seen 1 d (eW (f.a0G.map cS.name))) (x:Seen 1 e (eW (f.a0A.map dP.name))) (h5:Seen 1 i (eW (QU f))) (y:Seen 1 l (eW (f.a0D.map cB.name))) (h7:bP H 1 p (eW (f.a0B.map iU.name))) :
  aC.wp C (.seq (.seq (.region xS) (.cond (.tmp 243) (.seq (.region mY) .ret) .skip)) (.seq (.region GA) .ret)) (aX [.tmp 2] (cD (.int .i64 (bI (ok&&uB f))))) F H:=by
 obtain⟨s1,s2,s3,s4,W,X⟩:=B;have E:(f.a0G.map cS.name).length≤1000:=by simp; omega
 have J:(f.a0A.map dP.name).length≤1000:=by simp; omega
 have K:(QU f).length≤1000:=by simp; omega
 have M:(f.a0D.map cB.name).length≤1000:=by simp; omega
 have N:(f.a0B.map iU.name).length≤9223372036854775807:=by simp; omega
 cases ok with
 | false =>simp only[go_sem,xS,c.a8,mY];exact oO rfl rfl
 | true =>
  simp only[go_sem,xS,c.a8,c.a3];refine aA (zR L w E) rfl ?_;unfold uB;cases Q:distinct (f.a0G.map cS.name) with
  | false =>simp only[go_sem,mY,a2I];exact oO rfl rfl
  | true =>
   simp only[go_sem,c.a4,a1W];refine aA (zR L x J) rfl ?_;cases R:distinct (f.a0A.map dP.name) with
   | false =>simp only[go_sem,mY,a2I];exact oO rfl rfl
   | true =>
    simp only[go_sem,c.a5,a1W];refine aA (zR L h5 K) rfl ?_;cases S:distinct (QU f) with
    | false =>simp only[go_sem,mY,a2I];exact oO rfl rfl
    | true =>
     simp only[go_sem,c.a6,a1W];refine aA (zR L y M) rfl ?_;cases U:distinct (f.a0D.map cB.name) with
     | false =>simp only[go_sem,mY,a2I];exact oO rfl rfl
     | true =>
      simp only[go_sem,c.a7,a1W];refine sQ (L.uniq _ N) h7 rfl fun u O A=>?_;have g:u 239=some (.bool false):=A 239 _ rfl fun _ _ _=>rfl;cases V:distinct (f.a0B.map iU.name) with
      | false =>simp only[go_sem,mY,a2I,g];exact oO rfl rfl
      | true =>simp only[go_sem,GA,a1W,g];exact oO rfl rfl
abbrev ni (b:Bool):bV:=aX [.tmp 2] (cD (.int .i64 (bI b)))
def zx:aC:=.seq (.seq (.region VN) (.block 10 (.loop FZ))) (.seq (.seq (.region xS) (.cond (.tmp 243) (.seq (.region mY) .ret) .skip)) (.seq (.region GA) .ret))
def zw:aC:=.seq (.seq (.region VK) (.block 8 (.loop FY))) zx
def zu:aC:=.seq (.seq (.region VI) (.block 6 (.loop FX))) zw
def zt:aC:=.seq (.seq (.region VH) (.block 4 (.loop FW))) zu
def zr:aC:=.seq (.seq (.region VE) (.block 2 (.loop FU))) zt
def aeG:aC:=.seq (.seq (.region k7) (.block 0 (.loop FT))) zr
theorem aIC {C:Ctx} (L:jM C) (f:aJ) (u:Small f) (i l p E:PV) (ok:Bool) (F:PF) (H:PH) (d:kF F f i l p E .aB ok)
  (y:Seen 1 i (eW (f.a0G.map cS.name))) (A:Seen 1 l (eW (f.a0A.map dP.name))) (h5:Seen 1 p (eW (QU f))) (N:bP H 1 E (eW (f.a0D.map cB.name))) :
  aC.wp C zx (ni (ok&&f.a0B.all (oQ f)&&uB f)) F H:=by
 unfold zx;simp only[go_sem,VN,d.a1,a1K];refine pL N fun B x K M Q c=>?_;refine Zc L f u.a0B u.a0D ok i l p B _ K M ⟨c 1 _ (by simp only[go_sem,d.a1]) fun _ _ _=>rfl,c 3 _ (by simp only[go_sem,d.a3]) y.pure,c 4 _ (by simp only[go_sem,d.a4]) A.pure,c 5 _ (by simp only[go_sem,d.a5]) h5.pure,Q 6 (by simp only[go_sem,d.a6]),c 7 _ (by simp only[go_sem,d.a7]) fun _ _ _=>rfl,c 8 _ (by simp only[go_sem,d.a8]) fun _ _ _=>rfl⟩
  (c 195 _ rfl fun _ _ _=>rfl) (c 196 _ rfl fun _ _ _=>rfl) (c 197 _ rfl fun _ _ _=>rfl) fun v J H' w O=>?_
 have e:=axJ L f u i l p B v _ J H' w y A h5 x O;simp only[aC.wp,go_sem] at e;simp only[go_sem];exact e
theorem aIB {C:Ctx} (L:jM C) (f:aJ) (M:f.Ok) (l:Small f) (e i A:PV) (ok:Bool) (F:PF) (H:PH) (d:kF F f e i A .aB .aB ok)
  (w:Seen 1 e (eW (f.a0G.map cS.name))) (x:Seen 1 i (eW (f.a0A.map dP.name))) (h5:bP H 1 A (eW (QU f))) :
  aC.wp C zw (ni (ok&&f.a0D.all (jY f.a0A.length)&&f.a0B.all (oQ f)&&uB f)) F H:=by
 unfold zw;simp only[go_sem,VK,d.a1,a1K];refine pL h5 fun y u E J N c=>?_;refine Zb L f M l.a0D l.a0A ok e i y .aB _ E J ⟨c 1 _ (by simp only[go_sem,d.a1]) fun _ _ _=>rfl,c 3 _ (by simp only[go_sem,d.a3]) w.pure,c 4 _ (by simp only[go_sem,d.a4]) x.pure,N 5 (by simp only[go_sem,d.a5]),c 6 _ (by simp only[go_sem,d.a6]) fun _ _ _=>rfl,c 7 _ (by simp only[go_sem,d.a7]) fun _ _ _=>rfl,c 8 _ (by simp only[go_sem,d.a8]) fun _ _ _=>rfl⟩
  (c 174 _ rfl fun _ _ _=>rfl) (c 175 _ rfl fun _ _ _=>rfl) (c 176 _ rfl fun _ _ _=>rfl) fun v B H' p K=>?_
 simp only[go_sem];exact aIC L f l e i y v _ B H' p w x u K
theorem aIA {C:Ctx} (L:jM C) (f:aJ) (A:f.Ok) (d:Small f) (e i p:PV) (ok:Bool) (F:PF) (H:PH) (c:kF F f e i p .aB .aB ok)
  (w:Seen 1 e (eW (f.a0G.map cS.name))) (x:Seen 1 i (eW (f.a0A.map dP.name))) (h5:bP H 1 p (eW ((f.a0C.drop 1).map cN.name))) :
  aC.wp C zu (ni (ok&&f.aZZ.all (kB f)&&f.a0D.all (jY f.a0A.length)&&f.a0B.all (oQ f)&&uB f)) F H:=by
 unfold zu;simp only[go_sem,VI,c.a1,a1K];refine Za L f ((f.a0C.drop 1).map cN.name) (by have:=d.a0C; simp; omega) d.aZZ d.a0A d.a0C ok e i p .aB .aB _ _ H ⟨by simp only[go_sem,c.a1],by simp only[go_sem,c.a3],by simp only[go_sem,c.a4],by simp only[go_sem,c.a5],by simp only[go_sem,c.a6],by simp only[go_sem,c.a7],by simp only[go_sem,c.a8]⟩ h5
  rfl rfl rfl fun v u H' l y=>?_
 simp only[go_sem];exact aIB L f A d e i v _ u H' l w x y
theorem aHZ {C:Ctx} (L:jM C) (f:aJ) (N:f.Ok) (x:Small f) (R:0<f.a0C.length) (i A:PV) (ok:Bool) (F:PF) (H:PH) (d:kF F f i A .aB .aB .aB ok)
  (w:Seen 1 i (eW (f.a0G.map cS.name))) (K:bP H 1 A (eW (f.a0A.map dP.name))) :
  aC.wp C zt (ni (ok&&f.aZZ.all (kB f)&&f.a0D.all (jY f.a0A.length)&&f.a0B.all (oQ f)&&uB f)) F H:=by
 unfold zt;have l:(1:Int)≤(f.a0C.length:Nat):=Om;have O:=x.a0C;have e:((f.a0C.map cN.cells).take f.a0C.length).drop 1=(f.a0C.drop 1).map cN.cells:=by rw[a2C (by simp),List.map_drop]
 simp only[go_sem,VH,d.a1,a1K,l,a3P,e];refine pL K fun y u E J Q c=>?_;refine Y9 L f (f.a0C.drop 1) (by simp; omega) ok i y .aB .aB _ E J ⟨c 1 _ (by simp only[go_sem,d.a1]) fun _ _ _=>rfl,c 3 _ (by simp only[go_sem,d.a3]) w.pure,Q 4 (by simp only[go_sem,d.a4]),c 5 _ (by simp only[go_sem,d.a5]) fun _ _ _=>rfl,c 6 _ (by simp only[go_sem,d.a6]) fun _ _ _=>rfl,c 7 _ (by simp only[go_sem,d.a7]) fun _ _ _=>rfl,c 8 _ (by simp only[go_sem,d.a8]) fun _ _ _=>rfl⟩
  (c 119 _ rfl fun _ _ _=>rfl) (c 120 _ rfl fun _ _ _=>rfl) (c 121 _ rfl fun _ _ _=>rfl) fun v B H' p M=>?_
 simp only[go_sem];exact aIA L f N x i y v _ B H' p w u M
theorem aHY {C:Ctx} (L:jM C) (f:aJ) (J:f.Ok) (e:Small f) (E:0<f.a0C.length) (u:PV) (ok:Bool) (F:PF) (H:PH) (d:kF F f u .aB .aB .aB .aB ok)
  (A:bP H 1 u (eW (f.a0G.map cS.name))) :
  aC.wp C zr (ni (ok&&f.a0A.all (lW f)&&f.aZZ.all (kB f)&&f.a0D.all (jY f.a0A.length)&&f.a0B.all (oQ f)&&uB f)) F H:=by
 unfold zr;simp only[go_sem,VE,d.a1,a1K];refine pL A fun p l x y K c=>?_;refine Y8 L f e.a0A e.a0G ok p .aB .aB .aB _ x y ⟨c 1 _ (by simp only[go_sem,d.a1]) fun _ _ _=>rfl,K 3 (by simp only[go_sem,d.a3]),c 4 _ (by simp only[go_sem,d.a4]) fun _ _ _=>rfl,c 5 _ (by simp only[go_sem,d.a5]) fun _ _ _=>rfl,c 6 _ (by simp only[go_sem,d.a6]) fun _ _ _=>rfl,c 7 _ (by simp only[go_sem,d.a7]) fun _ _ _=>rfl,c 8 _ (by simp only[go_sem,d.a8]) fun _ _ _=>rfl⟩
  (c 85 _ rfl fun _ _ _=>rfl) (c 86 _ rfl fun _ _ _=>rfl) (c 87 _ rfl fun _ _ _=>rfl) fun v w H' i B=>?_
 simp only[go_sem];exact aHZ L f J e E p v _ w H' i l B
theorem aHX {C:Ctx} (L:jM C) (f:aJ) (e:f.Ok) (i:Small f) (u:0<f.a0C.length) (F:PF) (H:PH) (c:kF F f .aB .aB .aB .aB .aB true) :
  aC.wp C aeG (ni (f.a0G.all qN&&f.a0A.all (lW f)&&f.aZZ.all (kB f)&&f.a0D.all (jY f.a0A.length)&&f.a0B.all (oQ f)&&uB f)) F H:=by
 unfold aeG;simp only[go_sem,k7,c.a1,a1K];refine Y7 L f e i.a0G .aB .aB .aB .aB _ _ H ⟨by simp only[go_sem,c.a1],by simp only[go_sem,c.a3],by simp only[go_sem,c.a4],by simp only[go_sem,c.a5],by simp only[go_sem,c.a6],by simp only[go_sem,c.a7],by simp only[go_sem,c.a8]⟩ rfl rfl rfl fun v l H' d p=>?_;simp only[go_sem];exact aHY L f e i u v _ l H' d p
theorem Sm {C:Ctx} (L:jM C) (f:aJ) (E:f.Ok):MO.wp C (aX Y6.res (cD (.int .i64 (vD f)))) (PF.args [.agg f.cells]) .nil:=by
 have u:jP f=(qB f&&nS f&&(f.a0G.all qN&&f.a0A.all (lW f)&&f.aZZ.all (kB f)&&f.a0D.all (jY f.a0A.length)&&f.a0B.all (oQ f))&&uB f):=rfl;simp only[go_sem,MO,Sn,So,Y6];refine aA (L.inn f.a1D 1 4) rfl ?_;have c:∀ (F:PF) (H:PH),jP f=false→F 2=some (.int .i64 1)→aX [.tmp 2] (cD (.int .i64 (vD f))) .ret F H:=fun F H M N=>oO N (aeH M).symm;cases B:within f.a1D 1 4 with
 | false =>
  have:qB f=false:=by simp[qB,B]
  simp only[go_sem,a2I,pD];exact c _ _ (by rw[u,this]; simp only[a1Y]) rfl
 | true =>
  by_cases s1:f.a0G.length≤4
  ·have d:¬ (f.a0G.length:Int)>4:=Om;by_cases s2:f.a0A.length≤4
   ·have i:¬ (f.a0A.length:Int)>4:=Om;by_cases s3:f.a0C.length≤40
    ·have l:¬ (f.a0C.length:Int)>40:=Om;by_cases s4:f.aZZ.length≤24
     ·have p:¬ (f.aZZ.length:Int)>24:=Om;by_cases J:f.a0D.length≤4
      ·have w:¬ (f.a0D.length:Int)>4:=Om;by_cases K:f.a0B.length≤12
       ·have x:¬ (f.a0B.length:Int)>12:=Om;have y:=Oj ⟨s1,s2,s3,s4,J,K⟩;rw[B] at y;simp only[go_sem,a1W,a1K,d,i,l,p,w,x];refine aA (L.a0I f E) rfl ?_;cases A:nS f with
        | false =>simp only[go_sem,a2I,pD];exact c _ _ (by rw[u,A]; simp only[a2W,a1Y]) rfl
        | true =>
         have O:0<f.a0C.length:=by
          rcases a4D f.a0C.length with h | h
          ·have:f.a0C=[]:=List.eq_nil_of_length_eq_zero h;rw[nS,this] at A;cases A
          ·exact h
         have R:vD f=bI (f.a0G.all qN&&f.a0A.all (lW f)&&f.aZZ.all (kB f)&&f.a0D.all (jY f.a0A.length)&&f.a0B.all (oQ f)&&uB f):=by rw[vD,u,y,A]; rfl
         rw[R];simp only[go_sem,a1W,Sp,Sr];have e:=fun F H Q=>aHX L f E ⟨s1,s2,s3,s4,J,K⟩ O F H Q;simp only[aeG,zr,zt,zu,zw,zx,aC.wp,go_sem] at e;exact e _ _ ⟨by simp only[go_sem],by simp only[go_sem],by simp only[go_sem],by simp only[go_sem],by simp only[go_sem],by simp only[go_sem],by simp only[go_sem]⟩
       ·have x:(f.a0B.length:Int)>12:=Om;simp only[go_sem,a1W,a1K,d,i,l,p,w,x,pD];exact c _ _ (by rw[u,mN Om]; simp only[a1Y]) rfl
      ·have w:(f.a0D.length:Int)>4:=Om;simp only[go_sem,a1W,a1K,d,i,l,p,w,pD];exact c _ _ (by rw[u,mN Om]; simp only[a1Y]) rfl
     ·have p:(f.aZZ.length:Int)>24:=Om;simp only[go_sem,a1W,a1K,d,i,l,p,pD];exact c _ _ (by rw[u,mN Om]; simp only[a1Y]) rfl
    ·have l:(f.a0C.length:Int)>40:=Om;simp only[go_sem,a1W,a1K,d,i,l,pD];exact c _ _ (by rw[u,mN Om]; simp only[a1Y]) rfl
   ·have i:(f.a0A.length:Int)>4:=Om;simp only[go_sem,a1W,a1K,d,i,pD];exact c _ _ (by rw[u,mN Om]; simp only[a1Y]) rfl
  ·have d:(f.a0G.length:Int)>4:=Om;simp only[go_sem,a1W,a1K,d,pD];exact c _ _ (by rw[u,mN Om]; simp only[a1Y]) rfl
def lvl (f:aJ) (i:Nat):Int:=(f.a0C.map cN.level).getD i 0
def par (f:aJ) (i:Nat):Int:=(f.a0C.map cN.parent).getD i 0
def HZ (f:aJ) (i:Nat):Nat:=(par f i).toNat
def dD (f:aJ) (d:Nat):Nat:=((f.aZZ.map cZ.machine).getD d 0).toNat
def mdl (f:aJ) (d:Nat):Nat:=((f.aZZ.map cZ.model).getD d 0).toNat
def ext (f:aJ) (d:Nat):Int:=(f.a0A.map dP.a0P).getD (mdl f d) 0
def BM (f:aJ) (v:Nat):Nat:=((f.a0B.map iU.a0L).getD v 0).toNat
def aFT:cB:=⟨[],0,0,0,0,0,0,0,0,[],[],⟨false,[],[]⟩,⟨false,[],[]⟩⟩
def IB (f:aJ) (v:Nat):cB:=f.a0D.getD (BM f v) aFT
def upN (f:aJ):Nat→Nat→Nat
 | 0,i=>i
 | k+1,i=>HZ f (upN f k i)
theorem getD_at {α β:Type} {l:List α} {g:α→β} {i:Nat} {b:β} (h:i<l.length):(l.map g).getD i b=g l[i]:=by
 simp[a2L,h]
structure VF (f:aJ):Prop where
 small:Small f
 root:0<f.a0C.length∧lvl f 0=0∧par f 0=-1
 dom:∀ i,0<i→i<f.a0C.length→0≤par f i∧HZ f i<i∧lvl f (HZ f i)=lvl f i-1∧1≤lvl f i∧lvl f i≤4
 drive:∀ d (h:d<f.aZZ.length),0≤(f.aZZ[d]).model∧mdl f d<f.a0A.length∧0≤(f.aZZ[d]).machine∧dD f d<f.a0C.length∧lvl f (dD f d)=4
 a0L:∀ p∈f.a0D,1≤p.k∧p.k≤6∧0≤p.m∧p.m≤4∧p.k+p.m≤8∧p.s0=0∧(∀ l,0≤p.spread l∧p.spread l≤8)∧∀ m∈p.a0A,0≤m∧m<f.a0A.length
 volume:∀ v (h:v<f.a0B.length),0≤(f.a0B[v]).a0L∧BM f v<f.a0D.length
 model:∀ m∈f.a0A,1≤m.a0P∧m.a0P≤16
theorem aJM {p:cB} {n:Nat} (h:jY n p=true):∀ m∈p.a0A,0≤m∧m<n:=by
 intro m d;simp only[jY,a1Z] at h;obtain⟨i,hi,rfl⟩:=a3D d;have:=a2F.1 h.2 i (a3B.2 hi);rw[a1Z] at this;have c:=within_iff.1 this.1;simp only[a2L,a1V hi,a4G] at c;omega
theorem j6 {x:Int} (c:1≤x) (d:x≤4):IntKind.i64.wrap (x-1)=x-1:=wrap_i64 Om Om
theorem VF.of {f:aJ} (h:jP f=true):VF f:=by
 simp only[jP,a1Z] at h;obtain⟨⟨⟨Q,e⟩,⟨⟨⟨N,A⟩,y⟩,B⟩,E⟩,-⟩:=h;simp only[qB,a1Z,decide_eq_true_eq] at Q;obtain⟨⟨⟨⟨⟨⟨s0,s1⟩,s2⟩,s3⟩,s4⟩,s5⟩,s6⟩:=Q;cases c:f.a0C with
 | nil=>rw[nS,c] at e; cases e
 | cons r t =>
  rw[nS,c] at e;simp only[QE,a1Z,decide_eq_true_eq] at e;obtain⟨⟨⟨⟨⟨⟨r1,r2⟩,r3⟩,r4⟩,r5⟩,r6⟩,x⟩:=e;have O:f.a0C.length=t.length+1:=by rw[c]; rfl
  refine⟨⟨s1,s2,s3,s4,s5,s6⟩,⟨by omega,by rw[lvl,c]; exact r2,by rw[par,c]; exact r3⟩,?_,?_,?_,?_,?_⟩
  ·intro i h0 hi;obtain⟨k,rfl⟩:∃ k,i=k+1:=⟨i-1,by omega⟩;have H:k<t.length:=Om;have:=a2F.1 x k (a3B.2 H);rw[a1V H] at this;simp only[UG,a1Z,decide_eq_true_eq] at this;obtain⟨⟨⟨⟨J,F⟩,K⟩,d4⟩,d5⟩:=this;obtain⟨p0,p1⟩:=within_iff.1 J;obtain⟨S,U⟩:=within_iff.1 K;have u:par f (k+1)=(t[k]).parent:=by rw[par,c]; simp[a2L,H]
   have w:lvl f (k+1)=(t[k]).level:=by rw[lvl,c]; simp[a2L,H]
   rw[j6 S U] at F;have V:lvl f (t[k]).parent.toNat=(t[k]).level-1:=F;refine⟨by rw[u]; exact p0,?_,?_,by rw[w]; exact S,by rw[w]; exact U⟩
   ·rw[HZ,u]; omega
   ·rw[HZ,u,w]; exact V
  ·intro d e;have:=a2F.1 y _ (a1N e);simp only[kB,a1Z,decide_eq_true_eq] at this;obtain⟨⟨J,F⟩,K⟩:=this;have a1:=within_iff.1 J;have a2:=within_iff.1 F;have u:mdl f d=(f.aZZ[d]).model.toNat:=by rw[mdl,getD_at e]
   have w:dD f d=(f.aZZ[d]).machine.toNat:=by rw[dD,getD_at e]
   refine⟨a1.1,by rw[u]; omega,a2.1,by rw[w]; omega,by rw[w]; exact K⟩
  ·intro p Y;have M:=a2F.1 B p Y;have W:=aJM M;simp only[jY,XB,a1Z,decide_eq_true_eq,List.all_cons,List.all_nil,a4B] at M;obtain⟨⟨⟨⟨⟨⟨⟨⟨k1,Z⟩,km⟩,q1⟩,z0⟩,sp⟩,-⟩,-⟩,-⟩:=M;obtain⟨g0,g1,g2,g3,g4⟩:=sp;have b1:=within_iff.1 k1;have b2:=within_iff.1 Z;have b3:=within_iff.1 g0;have b4:=within_iff.1 g1;have b5:=within_iff.1 g2;have b6:=within_iff.1 g3;have b7:=within_iff.1 g4;refine⟨b1.1,b1.2,b2.1,b2.2,km,z0,fun l=>?_,W⟩;unfold cB.spread;split<;>omega
  ·intro v R;have:=a2F.1 E _ (a1N R);have a1:=within_iff.1 this;have u:BM f v=(f.a0B[v]).a0L.toNat:=by rw[BM,getD_at R]
   exact⟨a1.1,by rw[u]; omega⟩
  ·intro m X;have:=a2F.1 A m X;simp only[lW,a1Z] at this;exact within_iff.1 this.1.1
theorem PJ {f:aJ} (h:VF f) {d:Nat} (c:d<f.aZZ.length):∀ {k:Nat},k≤4→upN f k (dD f d)<f.a0C.length∧lvl f (upN f k (dD f d))=4-(k:Int)
 | 0,_=>⟨(h.drive d c).2.2.2.1,by rw[upN,(h.drive d c).2.2.2.2]; rfl⟩
 | k+1,w=>by
  obtain⟨p,l⟩:=PJ h c (k:=k) Om;have i:0<upN f k (dD f d):=by
   rcases a4D (upN f k (dD f d)) with e | e
   ·rw[e,h.root.2.1] at l; omega
   ·exact e
  obtain⟨g1,g2,g3,g4,u⟩:=h.dom _ i p;refine⟨by rw[upN]; omega,?_⟩;rw[upN,g3,l]; omega
def dA (f:aJ) (d:Nat) (level:Int):Nat:=upN f (4-level.toNat) (dD f d)
def aFR (f:aJ) (v:Nat):Int:=(IB f v).k+(IB f v).m
def aqL:Rg:=[iA 1 (.box true (Tm 0)),iT 2 false]
def aqM:Rg:=[iO 3 7 1,iK 4 96 3,iC 5 .eql 4 0,iM 2 5]
def O2:aC:=(sq aqL (sq aqM .ret))
def aRA:aR:=⟨1,6,O2,[.tmp 2]⟩
def aCF:Rg:=[iA 2 (.box true (Tm 0)),iI 4 0]
def aCG:Rd:=[(iF 6 5 2,false),(iL 7 6,false),(iF 8 6 2,false),(iL 9 8,false),(iM 10 1,false),(iX 11 2 9 10,false),(iF 12 1 11,false),(iL 13 12,false),(iX 14 17 7 13,false),(iO 15 17 14,false),(iA 5 (.alloc [(.str []),zI,zI,zI,zI,zI,zI,zI,zI,.aB,.aB,zB,.aB,.aB,zB,.aB,.aB]),true),(iS 17 5 15,true)]
def aCH:Rg:=[iF 16 1 5,iL 17 16,iF 18 2 5,iL 19 18,iB 20 .add 17 19,iM 4 20]
def adK:aC:=(sq aCF (dq aCG (sq aCH .ret)))
def aUH:aR:=⟨2,21,adK,[.tmp 4]⟩
def aoV:Rg:=[iA 3 (.box true (Tm 0)),iI 6 0]
def aoW:Rg:=[iF 8 4 3,iL 9 8,iM 10 1,iX 11 3 9 10,iF 12 2 11,iL 13 12,iM 7 13]
def aoX:Rg:=[iF 14 3 3,iL 15 14,iM 16 7,iX 17 7 15 16,iF 18 1 17,iL 19 18,iM 20 2,iB 21 .gtr 19 20]
def aoY:Rg:=[iF 22 3 3,iL 23 22,iM 24 7,iX 25 7 23 24,iF 26 2 25,iL 27 26,iM 7 27]
def aoU:aC:=(.seq (sq aoX (.cond (Tm 21) .skip (.exit 0))) (.block 1 (.region aoY)))
def aoZ:Rg:=[iM 28 7,iM 6 28]
def Ov:aC:=(sq aoV (sq aoW (.seq (.block 0 (.loop aoU)) (sq aoZ .ret))))
def aQR:aR:=⟨3,29,Ov,[.tmp 6]⟩
def aCJ:Rg:=[iA 2 (.box true (Tm 0)),iZ 4]
def aCK:Rg:=[iO 7 7 2,iK 8 161 7,iA 9 (.un .not (Tm 8))]
def aCL:Rg:=[iZ 4]
def aCM:Rg:=[iF 10 4 2,iL 11 10,iN 12 11,iA 13 (.a0H 1 8 [zI] (Tm 12) (Tm 12)),iM 5 13]
def aCN:Rg:=[iM 14 5,iN 15 14,iI 16 0]
def aCO:Rg:=[iB 17 .lss 16 15]
def aCP:Rg:=[iM 18 16,iM 6 18]
def aCQ:Rd:=[(iM 19 5,false),(iM 20 6,false),(iF 21 2 2,false),(iL 22 21,false),(iF 23 4 2,false),(iL 24 23,false),(iM 25 6,false),(iX 26 3 24 25,false),(iF 27 1 26,false),(iL 28 27,false),(iX 29 4 22 28,false),(iF 30 1 29,false),(iL 31 30,false),(iX 32 1 19 20,false),(iS 1 32 31,true)]
def aCR:Rg:=[iM 33 1,iN 34 33,iM 35 5,iN 36 35,iB 37 .eql 34 36]
def aCS:Rd:=[(iM 38 5,false),(iM 39 6,false),(iM 40 1,false),(iM 41 6,false),(iX 42 1 40 41,false),(iL 43 42,false),(iA 44 (.a0U true (Tm 43) (Ci 0)),false),(iM 45 5,false),(iM 46 6,false),(iX 47 1 45 46,false),(iL 48 47,false),(iA 49 (.a0U false (Tm 44) (Tm 48)),false),(iX 50 1 38 39,false),(iS 1 50 49,true)]
def apZ:Rg:=[iC 51 .add 16 1,iM 16 51]
def apY:aC:=(sq aCO (.seq (.cond (Tm 17) .skip (.exit 0)) (.seq (.block 1 (sq aCP (dq aCQ (sq aCR (.cond (Tm 37) (.draw aCS) .skip))))) (.region apZ))))
def aqA:Rg:=[iM 52 5,iM 4 52]
def adQ:aC:=(sq aCJ (.seq (sq aCK (.cond (Tm 9) (sq aCL .ret) .skip)) (sq aCM (.seq (sq aCN (.block 0 (.loop apY))) (sq aqA .ret)))))
def aUI:aR:=⟨2,53,adQ,[.tmp 4]⟩
def aQS:Rg:=[iA 3 (.box true (Tm 0)),iI 6 0]
def aQT:Rg:=[iO 7 7 3,iK 8 161 7,iA 9 (.un .not (Tm 8)),iM 10 9,gM 11 1 10 false,gC 12 .lss 11 0 10 false,iQ 13 10 12,iM 14 13,gM 15 1 14 false,gF 16 4 3 14 false,gL 17 16 14 false,gN 18 17 14 false,gB 19 .geq 15 18 14 false,iQ 20 14 19,iM 21 20,gM 22 2 21 false,gC 23 .lss 22 0 21 false,iQ 24 21 23,iM 25 24,gM 26 2 25 false,gC 27 .geq 26 5 25 false,iQ 28 25 27]
def aQU:Rg:=[iI 6 (-1)]
def aQV:Rg:=[iO 29 7 3,iM 30 1,iM 31 2,iA 32 (.call 155 [(Tm 29),(Tm 30),(Tm 31)]),iM 6 32]
def aCE:aC:=(sq aQS (.seq (sq aQT (.cond (Tm 28) (sq aQU .ret) .skip)) (sq aQV .ret)))
def tat:aR:=⟨3,33,aCE,[.tmp 6]⟩
def adA:Rg:=[iA 2 (.box true (Tm 0)),iZ 4]
def adB:Rg:=[iZ 5]
def adC:Rg:=[iO 7 7 2,iK 8 161 7,iA 9 (.un .not (Tm 8)),iM 10 9,gM 11 1 10 false,gC 12 .lss 11 0 10 false,iQ 13 10 12,iM 14 13,gM 15 1 14 false,gF 16 3 2 14 false,gL 17 16 14 false,gN 18 17 14 false,gB 19 .geq 15 18 14 false,iQ 20 14 19]
def adD:Rg:=[iM 21 5,iM 4 21]
def adE:Rg:=[iF 22 4 2,iL 23 22,iN 24 23,iI 25 0]
def adF:Rg:=[iB 26 .lss 25 24]
def adG:Rg:=[iM 27 25,iM 6 27]
def adH:Rd:=[(iO 28 7 2,false),(iM 29 6,false),(iF 30 3 2,false),(iL 31 30,false),(iM 32 1,false),(iX 33 7 31 32,false),(iF 34 1 33,false),(iL 35 34,false),(iA 36 (.call 155 [(Tm 28),(Tm 29),(Tm 35)]),true),(iM 37 1,true),(iB 38 .eql 36 37,false)]
def adI:Rg:=[iM 39 5,iM 40 6,iA 41 (.a0F true 1 1 [zI] [(0,(Tm 40))]),iA 42 (.append 1 8 (Tm 39) (Tm 41)),iM 5 42]
def adJ:Rg:=[iC 43 .add 25 1,iM 25 43]
def Ox:aC:=(sq adF (.seq (.cond (Tm 26) .skip (.exit 0)) (.seq (.block 1 (sq adG (dq adH (.cond (Tm 38) (.region adI) .skip)))) (.region adJ))))
def Oy:Rg:=[iM 44 5,iM 4 44]
def J5:aC:=(sq adA (sq adB (.seq (sq adC (.cond (Tm 20) (sq adD .ret) .skip)) (.seq (sq adE (.block 0 (.loop Ox))) (sq Oy .ret)))))
def aLN:aR:=⟨2,45,J5,[.tmp 4]⟩
def apA:Rg:=[iA 2 (.box true (Tm 0)),iZ 4]
def apB:Rg:=[iZ 5]
def apC:Rg:=[iO 8 7 2,iK 9 161 8,iA 10 (.un .not (Tm 9)),iM 11 10,gM 12 1 11 false,gC 13 .lss 12 0 11 false,iQ 14 11 13]
def apD:Rg:=[iM 15 5,iM 4 15]
def apE:Rg:=[iF 16 3 2,iL 17 16,iN 18 17,iI 19 0]
def apF:Rg:=[iB 20 .lss 19 18]
def apG:Rg:=[iM 21 19,iX 22 7 17 19,iO 23 7 22,iA 7 (.alloc [(.str []),zI,zI,zI,zB,.aB,.aB]),iM 6 21,iS 7 7 23]
def apH:Rg:=[iF 24 2 7,iL 25 24,iM 26 1,iB 27 .eql 25 26]
def apI:Rg:=[iM 28 5,iM 29 6,iA 30 (.a0F true 1 1 [zI] [(0,(Tm 29))]),iA 31 (.append 1 8 (Tm 28) (Tm 30)),iM 5 31]
def apJ:Rg:=[iC 32 .add 19 1,iM 19 32]
def acY:aC:=(sq apF (.seq (.cond (Tm 20) .skip (.exit 0)) (.seq (.block 1 (sq apG (sq apH (.cond (Tm 27) (.region apI) .skip)))) (.region apJ))))
def acZ:Rg:=[iM 33 5,iM 4 33]
def Ow:aC:=(sq apA (sq apB (.seq (sq apC (.cond (Tm 14) (sq apD .ret) .skip)) (.seq (sq apE (.block 0 (.loop acY))) (sq acZ .ret)))))
def aQW:aR:=⟨2,34,Ow,[.tmp 4]⟩
def apN:Rg:=[iA 2 (.box true (Tm 0)),iZ 4]
def apO:Rg:=[iF 10 4 2,iL 11 10,iN 12 11,iA 13 (.a0H 1 8 [zI] (Tm 12) (Tm 12)),iM 5 13]
def apP:Rg:=[iM 14 1,iN 15 14,iI 16 0]
def apQ:Rg:=[iB 17 .lss 16 15]
def apR:Rg:=[iX 18 1 14 16,iL 19 18,iM 7 19]
def apS:Rg:=[iM 20 7,iN 21 20,iI 22 0]
def apT:Rg:=[iB 23 .lss 22 21]
def apU:Rg:=[iX 24 1 20 22,iL 25 24,iM 9 25]
def apV:Rg:=[iM 26 9,iC 27 .geq 26 0,iM 28 27,gM 29 9 28 true,gM 30 5 28 true,gN 31 30 28 true,gB 32 .lss 29 31 28 true,iP 33 28 32]
def apW:Rg:=[iM 34 5,iM 35 9,iX 36 1 34 35,iL 37 36,iC 38 .add 37 1,iX 39 1 34 35,iS 1 39 38]
def adN:Rg:=[iC 40 .add 22 1,iM 22 40]
def adL:aC:=(sq apT (.seq (.cond (Tm 23) .skip (.exit 2)) (.seq (.block 3 (sq apU (sq apV (.cond (Tm 33) (.region apW) .skip)))) (.region adN))))
def adO:Rg:=[iC 41 .add 16 1,iM 16 41]
def adM:aC:=(sq apQ (.seq (.cond (Tm 17) .skip (.exit 0)) (.seq (.block 1 (sq apR (sq apS (.block 2 (.loop adL))))) (.region adO))))
def adP:Rg:=[iM 42 5,iM 4 42]
def O0:aC:=(sq apN (sq apO (.seq (sq apP (.block 0 (.loop adM))) (sq adP .ret))))
def aQY:aR:=⟨2,43,O0,[.tmp 4]⟩
def aoQ:Rg:=[iA 2 (.box true (Tm 0)),iZ 4]
def aoR:Rg:=[iO 5 7 2,iK 6 161 5,iA 7 (.un .not (Tm 6))]
def aoS:Rg:=[iZ 4]
def aoT:Rg:=[iO 8 7 2,iM 9 1,iK2 10 157 8 9,iM 4 10]
def Or:aC:=(sq aoQ (.seq (sq aoR (.cond (Tm 7) (sq aoS .ret) .skip)) (sq aoT .ret)))
def aQQ:aR:=⟨2,11,Or,[.tmp 4]⟩
def aqC:Rg:=[iA 3 (.box true (Tm 0)),iA 6 (.alloc [zI,zI,zI]),iT 7 false]
def aqD:Rd:=[(iM 10 1,true),(iM 11 2,true),(iX 12 1 10 11,true),(iL 13 12,true),(iN 14 13,true),(iO 15 7 3,false),(iM 16 2,false),(iK2 17 156 15 16,true),(iB 18 .neq 14 17,false)]
def aqE:Rg:=[iM 19 2,iM 20 1,iM 21 2,iX 22 1 20 21,iL 23 22,iN 24 23,iA 25 (.build [zI,zI,zI] [(0,1,(Ci 1)),(1,1,(Tm 19)),(2,1,(Tm 24))]),iS 3 6 25,iT 7 true]
def aqF:Rg:=[iM 26 1,iM 27 2,iX 28 1 26 27,iL 29 28,iN 30 29,iI 31 0]
def aqG:Rg:=[iB 32 .lss 31 30]
def aqH:Rg:=[iM 33 31,iX 34 1 29 31,iL 35 34,iM 8 33,iM 9 35]
def aqI:Rg:=[iM 36 9,iC 37 .lss 36 (-1),iM 38 37,gM 39 9 38 false,gF 40 4 3 38 false,gL 41 40 38 false,gN 42 41 38 false,gB 43 .geq 39 42 38 false,iQ 44 38 43]
def aqJ:Rg:=[iM 45 2,iM 46 8,iA 47 (.build [zI,zI,zI] [(0,1,(Ci 1)),(1,1,(Tm 45)),(2,1,(Tm 46))]),iS 3 6 47,iT 7 true]
def aqK:Rg:=[iC 48 .add 31 1,iM 31 48]
def aqB:aC:=(sq aqG (.seq (.cond (Tm 32) .skip (.exit 0)) (.seq (.block 1 (sq aqH (sq aqI (.cond (Tm 44) (sq aqJ .ret) .skip)))) (.region aqK))))
def adR:Rg:=[iA 49 (.build [zI,zI,zI] []),iS 3 6 49,iT 7 false]
def O1:aC:=(sq aqC (.seq (dq aqD (.cond (Tm 18) (sq aqE .ret) .skip)) (.seq (sq aqF (.block 0 (.loop aqB))) (sq adR .ret))))
def aQZ:aR:=⟨3,50,O1,[.cell 6 (some 3),.tmp 7]⟩
def acN:Rg:=[iA 2 (.box true (Tm 0)),iT 4 false]
def acO:Rg:=[iO 8 7 2,iK 9 161 8,iA 10 (.un .not (Tm 9)),iM 11 10,gM 12 1 11 false,gN 13 12 11 false,gF 14 6 2 11 false,gL 15 14 11 false,gN 16 15 11 false,gB 17 .neq 13 16 11 false,iQ 18 11 17]
def acP:Rg:=[iT 4 false]
def acQ:Rg:=[iM 19 1,iN 20 19,iI 21 0]
def acR:Rg:=[iB 22 .lss 21 20]
def acS:Rg:=[iM 23 21,iM 5 23]
def acT:Rg:=[iO 25 7 2,iM 26 1,iM 27 5,iA 28 (.call 160 [(Tm 25),(Tm 26),(Tm 27)]),iM 24 28,iE 29 24 0,iE 30 24 1,iA 6 (.alloc [zI,zI,zI]),iS 3 6 29,iM 7 30]
def acU:Rg:=[iM 31 7]
def acV:Rg:=[iT 4 false]
def acW:Rg:=[iC 32 .add 21 1,iM 21 32]
def Ot:aC:=(sq acR (.seq (.cond (Tm 22) .skip (.exit 0)) (.seq (.block 1 (sq acS (sq acT (sq acU (.cond (Tm 31) (sq acV .ret) .skip))))) (.region acW))))
def Ou:Rg:=[iT 4 true]
def J4:aC:=(sq acN (.seq (sq acO (.cond (Tm 18) (sq acP .ret) .skip)) (.seq (sq acQ (.block 0 (.loop Ot))) (sq Ou .ret))))
def aLM:aR:=⟨2,33,J4,[.tmp 4]⟩
def arB:Rg:=[iA 5 (.alloc [zI,zI,zI])]
def arC:Rg:=[iM 6 0,iL 7 2,iM 8 1,iA 9 (.build [zI,zI,zI] [(0,1,(Tm 6)),(1,1,(Tm 7)),(2,1,(Tm 8))]),iS 3 5 9]
def O3:aC:=(sq arB (sq arC .ret))
def aRB:aR:=⟨2,10,O3,[.cell 5 (some 3)]⟩
def aDE:Rg:=[iA 3 (.box true (Tm 0)),iA 5 (.box false (Tm 2)),iZ 6]
def aDF:Rd:=[(iF 25 5 3,false),(iL 26 25,false),(iF 27 6 3,false),(iL 28 27,false),(iL 29 5,false),(iX 30 2 28 29,false),(iF 31 1 30,false),(iL 32 31,false),(iX 33 17 26 32,false),(iO 34 17 33,false),(iA 7 (.alloc [(.str []),zI,zI,zI,zI,zI,zI,zI,zI,.aB,.aB,zB,.aB,.aB,zB,.aB,.aB]),true),(iS 17 7 34,true)]
def aDG:Rg:=[iF 35 2 3,iL 36 35,iN 37 36,iA 38 (.a0H 1 1 [zB] (Tm 37) (Tm 37)),iM 8 38]
def aDH:Rg:=[iF 39 9 7,iL 40 39,iN 41 40,iI 42 0]
def aDI:Rg:=[iB 43 .lss 42 41]
def aDJ:Rg:=[iX 44 1 40 42,iL 45 44,iM 10 45]
def aDK:Rg:=[iM 46 8,iM 47 10,iX 48 1 46 47,⟨none,.store 1 (Tm 48) (.const (.bool true)),none⟩]
def aDL:Rg:=[iC 49 .add 42 1,iM 42 49]
def aDD:aC:=(sq aDI (.seq (.cond (Tm 43) .skip (.exit 0)) (.seq (.block 1 (sq aDJ (.region aDK))) (.region aDL))))
def aDM:Rg:=[iA 50 (.mkfn 159 [(Tm 5)]),iM 11 50]
def arH:Rg:=[iZ 12,iZ 13]
def arI:Rd:=[(iF 51 4 3,false),(iL 52 51,false),(iN 53 52,false),(iA 54 (.a0H 1 8 [zI] (Tm 53) (Tm 53)),true),(iF 55 3 3,false),(iL 56 55,false),(iN 57 56,false),(iA 58 (.a0H 1 8 [zI] (Tm 57) (Tm 57)),true),(iM 14 54,false),(iM 15 58,false)]
def arJ:Rg:=[iM 59 1,iL 60 5,iX 61 1 59 60,iL 62 61,iN 63 62,iI 64 0]
def arK:Rg:=[iB 65 .lss 64 63]
def arL:Rg:=[iM 66 64,iX 67 1 62 64,iL 68 67,iM 16 66,iM 17 68]
def arM:Rg:=[iM 69 17,iC 70 .lss 69 0]
def arN:Rg:=[iM 71 12,iM 72 11,iM 73 16,iA 74 (.a1B (Tm 72) [(Ci 2),(Tm 73)]),iA 75 (.a0F true 3 1 [zI,zI,zI] [(0,(Tm 74))]),iA 76 (.append 3 24 (Tm 71) (Tm 75)),iM 12 76]
def arO:Rg:=[iM 77 8,iF 78 4 3,iL 79 78,iM 80 17,iX 81 3 79 80,iF 82 1 81,iL 83 82,iX 84 1 77 83,iL 85 84,iA 86 (.un .not (Tm 85))]
def arP:Rg:=[iM 87 13,iM 88 11,iM 89 16,iA 90 (.a1B (Tm 88) [(Ci 4),(Tm 89)]),iA 91 (.a0F true 3 1 [zI,zI,zI] [(0,(Tm 90))]),iA 92 (.append 3 24 (Tm 87) (Tm 91)),iM 13 92]
def arQ:Rg:=[iM 93 14,iM 94 17,iX 95 1 93 94,iL 96 95,iC 97 .add 96 1,iX 98 1 93 94,iS 1 98 97]
def arR:Rg:=[iF 99 4 3,iL 100 99,iM 101 17,iX 102 3 100 101,iF 103 2 102,iL 104 103,iM 18 104]
def arS:Rg:=[iM 105 18,iC 106 .gtr 105 0]
def arT:Rg:=[iM 113 15,iM 114 18,iX 115 1 113 114,iL 116 115,iC 117 .add 116 1,iX 118 1 113 114,iS 1 118 117]
def arU:Rg:=[iF 107 3 3,iL 108 107,iM 109 18,iX 110 7 108 109,iF 111 2 110,iL 112 111,iM 18 112]
def arD:aC:=(.seq (sq arS (.cond (Tm 106) .skip (.exit 4))) (.seq (.block 5 (.region arT)) (.region arU)))
def arV:Rg:=[iC 119 .add 64 1,iM 64 119]
def arE:aC:=(sq arK (.seq (.cond (Tm 65) .skip (.exit 2)) (.seq (.block 3 (sq arL (.seq (sq arM (.cond (Tm 70) (sq arN (.exit 3)) .skip)) (.seq (sq arO (.cond (Tm 86) (.region arP) .skip)) (sq arQ (sq arR (.block 4 (.loop arD)))))))) (.region arV))))
def arW:Rg:=[iM 120 12,iM 19 120]
def arX:Rg:=[iM 121 14,iN 122 121,iI 123 0]
def arY:Rg:=[iB 124 .lss 123 122]
def arZ:Rg:=[iM 125 123,iX 126 1 121 123,iL 127 126,iM 20 125,iM 21 127]
def asA:Rg:=[iM 128 21,iC 129 .gtr 128 1]
def asB:Rg:=[iM 130 19,iM 131 11,iM 132 20,iA 133 (.a1B (Tm 131) [(Ci 3),(Tm 132)]),iA 134 (.a0F true 3 1 [zI,zI,zI] [(0,(Tm 133))]),iA 135 (.append 3 24 (Tm 130) (Tm 134)),iM 19 135]
def asC:Rg:=[iC 136 .add 123 1,iM 123 136]
def arF:aC:=(sq arY (.seq (.cond (Tm 124) .skip (.exit 6)) (.seq (.block 7 (sq arZ (sq asA (.cond (Tm 129) (.region asB) .skip)))) (.region asC))))
def asD:Rg:=[iM 137 19,iM 138 13,iA 139 (.append 3 24 (Tm 137) (Tm 138)),iM 19 139]
def asE:Rg:=[iM 140 15,iN 141 140,iI 142 0]
def asF:Rg:=[iB 143 .lss 142 141]
def asG:Rg:=[iM 144 142,iX 145 1 140 142,iL 146 145,iM 22 144,iM 23 146]
def asH:Rg:=[iF 147 3 3,iL 148 147,iM 149 22,iX 150 7 148 149,iF 151 1 150,iL 152 151,iF 153 4 7,iA 154 (.idxA 5 1 (Tm 153) (Tm 152)),iL 155 154,iM 24 155]
def asI:Rg:=[iM 156 24,iC 157 .gtr 156 0,iM 158 157,gM 159 23 158 true,gM 160 24 158 true,gB 161 .gtr 159 160 158 true,iP 162 158 161]
def asJ:Rg:=[iM 163 19,iM 164 11,iM 165 22,iA 166 (.a1B (Tm 164) [(Ci 5),(Tm 165)]),iA 167 (.a0F true 3 1 [zI,zI,zI] [(0,(Tm 166))]),iA 168 (.append 3 24 (Tm 163) (Tm 167)),iM 19 168]
def asK:Rg:=[iC 169 .add 142 1,iM 142 169]
def arG:aC:=(sq asF (.seq (.cond (Tm 143) .skip (.exit 8)) (.seq (.block 9 (sq asG (sq asH (sq asI (.cond (Tm 162) (.region asJ) .skip))))) (.region asK))))
def asL:Rg:=[iM 170 19,iM 6 170]
def adT:aC:=(sq aDE (dq aDF (sq aDG (.seq (sq aDH (.block 0 (.loop aDD))) (sq aDM (sq arH (dq arI (.seq (sq arJ (.block 2 (.loop arE))) (sq arW (.seq (sq arX (.block 6 (.loop arF))) (sq asD (.seq (sq asE (.block 8 (.loop arG))) (sq asL .ret)))))))))))))
def aUK:aR:=⟨3,171,adT,[.tmp 6]⟩
def aCT:Rg:=[iA 3 (.box true (Tm 0)),iZ 6]
def aCU:Rg:=[iO 15 7 3,iK 16 161 15,iA 17 (.un .not (Tm 16)),iM 14 17]
def aCV:Rg:=[iZ 6]
def aCW:Rg:=[iM 19 1,iN 20 19,iF 21 6 3,iL 22 21,iN 23 22,iB 24 .neq 20 23,iM 18 24]
def aCX:Rg:=[iM 25 1,iN 26 25,iA 27 (.build [zI,zI,zI] [(0,1,(Ci 1)),(1,1,(Ci (-1))),(2,1,(Tm 26))]),iA 28 (.a0F true 3 1 [zI,zI,zI] [(0,(Tm 27))]),iM 6 28]
def aCY:Rg:=[iZ 7]
def aCZ:Rg:=[iM 29 1,iN 30 29,iI 31 0]
def aDA:Rg:=[iB 32 .lss 31 30]
def aDB:Rg:=[iM 33 31,iM 8 33]
def aDC:Rg:=[iO 35 7 3,iM 36 1,iM 37 8,iA 38 (.call 160 [(Tm 35),(Tm 36),(Tm 37)]),iM 34 38,iE 39 34 0,iE 40 34 1,iA 9 (.alloc [zI,zI,zI]),iS 3 9 39,iM 10 40]
def aqP:Rg:=[iM 41 10]
def aqQ:Rg:=[iM 42 7,iO 43 3 9,iA 44 (.a0F true 3 1 [zI,zI,zI] [(0,(Tm 43))]),iA 45 (.append 3 24 (Tm 42) (Tm 44)),iM 7 45]
def aqR:Rg:=[iM 46 7,iO 47 7 3,iM 48 1,iM 49 8,iA 50 (.call 158 [(Tm 47),(Tm 48),(Tm 49)]),iA 51 (.append 3 24 (Tm 46) (Tm 50)),iM 7 51]
def aqS:Rg:=[iC 52 .add 31 1,iM 31 52]
def aqN:aC:=(sq aDA (.seq (.cond (Tm 32) .skip (.exit 1)) (.seq (.block 2 (sq aDB (.seq (sq aDC (sq aqP (.cond (Tm 41) (sq aqQ (.exit 2)) .skip))) (.region aqR)))) (.region aqS))))
def aqT:Rg:=[iO 53 7 3,iM 54 2,iK2 55 152 53 54,iM 11 55]
def aqU:Rg:=[iO 56 7 3,iM 57 1,iK2 58 157 56 57,iN 59 58,iI 60 0]
def aqV:Rg:=[iB 61 .lss 60 59]
def aqW:Rg:=[iM 62 60,iX 63 1 58 60,iL 64 63,iM 12 62,iM 13 64]
def aqX:Rg:=[iM 65 13,iM 66 11,iM 67 12,iX 68 1 66 67,iL 69 68,iB 70 .gtr 65 69]
def aqY:Rg:=[iM 71 7,iM 72 12,iA 73 (.build [zI,zI,zI] [(0,1,(Ci 6)),(1,1,(Ci (-1))),(2,1,(Tm 72))]),iA 74 (.a0F true 3 1 [zI,zI,zI] [(0,(Tm 73))]),iA 75 (.append 3 24 (Tm 71) (Tm 74)),iM 7 75]
def aqZ:Rg:=[iC 76 .add 60 1,iM 60 76]
def aqO:aC:=(sq aqV (.seq (.cond (Tm 61) .skip (.exit 3)) (.seq (.block 4 (sq aqW (sq aqX (.cond (Tm 70) (.region aqY) .skip)))) (.region aqZ))))
def arA:Rg:=[iM 77 7,iM 6 77]
def adS:aC:=(sq aCT (.seq (.block 0 (sq aCU (.cond (Tm 14) (sq aCV .ret) (sq aCW (.cond (Tm 18) (sq aCX .ret) .skip))))) (sq aCY (.seq (sq aCZ (.block 1 (.loop aqN))) (sq aqT (.seq (sq aqU (.block 3 (.loop aqO))) (sq arA .ret)))))))
def aUJ:aR:=⟨3,78,adS,[.tmp 6]⟩
def apL:Rg:=[iA 3 (.box true (Tm 0)),iT 6 false]
def apM:Rg:=[iO 7 7 3,iK 8 161 7,iM 9 8,gO 10 7 3 9 true,gM 11 1 9 true,gM 12 2 9 true,iG 13 (.call 154 [(Tm 10),(Tm 11),(Tm 12)]) 9 true,gN 14 13 9 true,gC 15 .eql 14 0 9 true,iP 16 9 15,iM 6 16]
def Oz:aC:=(sq apL (sq apM .ret))
def aQX:aR:=⟨3,17,Oz,[.tmp 6]⟩
theorem LS {f:aJ} {d:Nat} (h:d<f.aZZ.length):(f.aZZ.map cZ.cells)[d]?=some (f.aZZ[d]).cells:=by simp[h]
theorem oW {f:aJ} {d:Nat} (h:d<f.a0C.length):(f.a0C.map cN.cells)[d]?=some (f.a0C[d]).cells:=by simp[h]
theorem da {f:aJ} {d:Nat} (h:d<f.a0C.length):(f.a0C[d]).level=lvl f d:=by rw[lvl,getD_at h]
theorem Jd {f:aJ} {d:Nat} (h:d<f.a0C.length):(f.a0C[d]).parent=par f d:=by rw[par,getD_at h]
theorem VF.Sy {f:aJ} (h:VF f) {d:Nat} (c:d<f.aZZ.length):(f.aZZ[d]).machine=((dD f d:Nat):Int):=by
 have:=(h.drive d c).2.2.1;rw[dD,getD_at c]; omega
theorem VF.akP {f:aJ} (h:VF f) {d:Nat} (c:d<f.aZZ.length):(f.aZZ[d]).model=((mdl f d:Nat):Int):=by
 have:=(h.drive d c).1;rw[mdl,getD_at c]; omega
theorem VF.U8 {f:aJ} (h:VF f) {i:Nat} (c:0<i) (hi:i<f.a0C.length):par f i=((HZ f i:Nat):Int):=by
 have:=(h.dom i c hi).1;rw[HZ]; omega
theorem azK {f:aJ} (h:VF f) {v:Nat} (d:v<f.a0B.length):∃ c:BM f v<f.a0D.length,f.a0D[BM f v]=IB f v:=by
 have c:=(h.volume v d).2;exact⟨c,by simp[IB,a2L,c]⟩
def pick (n:Nat) (p:Nat→Bool):List Int:=((a1S n).filter p).map fun (i:Nat)=>(i:Int)
theorem dR (l:List Int):(bC l).length=l.length:=by unfold bC; rw[a1K]
section
variable (o s:Nat) (rs:List (List PV))
@[go_sem] theorem aWX (k:IntKind) (n:Int):PV.frz o s rs (.int k n)=.int k n:=(rfl)
@[go_sem] theorem aVG (b:Bool):PV.frz o s rs (.bool b)=.bool b:=(rfl)
@[go_sem] theorem aXB (l:List UInt8):PV.frz o s rs (.str l)=.str l:=(rfl)
@[go_sem] theorem aVH:PV.frz o s rs .aB=.aB:=(rfl)
@[go_sem] theorem aYJ (n:Nat) (r:List (List PV)):PV.frz o s rs (.sl n r)=.sl n r:=(rfl)
@[go_sem] theorem aVI (c:List PV):PV.frz o s rs (.cT c)=.cT c:=(rfl)
@[go_sem] theorem aXA (q z i c:Nat):PV.frz o s rs (.ptr q z i c)=.ptr q z i c:=(rfl)
@[go_sem] theorem aYI (n:Nat) (c:List PV):PV.frz o s rs (.fn n c)=.fn n c:=(rfl)
@[go_sem] theorem aWY (q:Nat):PV.frz o s rs (.map q)=.map q:=(rfl)
@[go_sem] theorem aWZ (q z c len:Nat):PV.frz o s rs (.osl q z c len)=if q=o then (if z=s∧c+len≤rs.length then .sl s ((rs.drop c).take len) else .junk) else .osl q z c len:=(rfl)
end
def nO (s:Nat) (rows:List (List PV)) (r:PV) (H:PH):Prop :=
 (rows=[]∧r=.aB∧H=PH.nil)∨∃ q rs,r=.osl q s 0 rows.length∧H=PH.nil.set q (.rows s rs)∧rows.length≤rs.length∧rs.take rows.length=rows
theorem Q5 (q s:Nat) (rs:List (List PV)):(PH.nil.set q (.rows s rs)).frz q s rs=PH.nil:=PH.ext fun o=>by
 rw[tB];by_cases e:o=q
 ·rw[if_pos e]; rfl
 ·rw[if_neg e,aV,if_neg e]; rfl
section
variable {C:Ctx} {K:bV} {F:PF} {H:PH} {s:Nat} {v:PV} {rows:List (List PV)}
theorem nO.over {r:PV} {H':PH} (h:nO s rows r H') (i:lJ H .nil H'):bP (H.over .nil H') s r rows∧∀ o x,H o=some x→(H.over .nil H') o=some x:=by
 rcases h with ⟨c,e,rfl⟩ | ⟨q,rs,c,rfl,h3,h4⟩
 ·rw[PH.tG]; exact⟨.inl ⟨c,e⟩,fun o x h=>h⟩
 ·rw[PH.oM];have l:H q=none:=i q (.rows s rs) (by simp only[aV,if_true]) rfl;refine⟨.inr ⟨q,rs,c,by simp only[aV,if_true],h3,h4⟩,fun o x d=>?_⟩;have:o≠q:=by rintro rfl; rw[l] at d; cases d
  simp only[aV,if_neg this,d]
theorem ig {t:Nat} {e:kY} (c:e=.normal∨e=.ret) (h:bP H s v rows) (d:F t=some v):aX [.tmp t] (nO s rows) e F H:=by
 rcases h with ⟨rfl,rfl⟩ | ⟨q,rs,rfl,h1,h2,h3⟩
 ·exact aZ (vs:=[.aB]) c .nil (by rw[jZ,mM,d,nK]) a_ (.inl ⟨rfl,rfl,rfl⟩)
 ·exact aZ (vs:=[.osl q s 0 rows.length]) c (PH.nil.set q (.rows s rs)) (by rw[jZ,mM,d,nK]) (PH.aL a_ h1) (.inr ⟨q,rs,rfl,rfl,h2,h3⟩)
theorem mu {t:Nat} {e:kY} (c:e=.normal∨e=.ret) (d:F t=some .aB):aX [.tmp t] (nO s []) e F H:=ig c .nil d
theorem amC {t:Nat} {e:kY} {r:PV} {H':PH} (c:e=.normal∨e=.ret) (h:nO s rows r H') (i:F t=some r):aX [.tmp t] (nO s rows) e F (H.over .nil H'):=by
 refine aZ (vs:=[r]) c H' (by rw[jZ,mM,i,nK]) (fun o x d=>?_) h;rw[gS,d]
theorem aF.freeze {name:Nat} {args:List PV} (h:aF C name args H (nO s rows)):aF C name args H (aH (.sl s rows)) :=
 ⟨h.1,fun E w vs J hW l=>(h.2 E w vs J hW l).mono fun e R M=>by
  obtain⟨u,pv,A,H',rfl,c,y,x,N⟩:=M;rcases N with ⟨rfl,rfl,rfl⟩ | ⟨q,rs,rfl,rfl,h3,h4⟩
  ·exact⟨u,_,A,_,rfl,c,(Co.nil s).sound y,x,rfl,rfl⟩
  ·have O:iW (PF.nil.set 0 (.osl q s 0 rows.length)) (PH.nil.set q (.rows s rs)) _ _:=.step q (s:=s) (rs:=rs) (by simp only[aV,if_true]) (.refl _ _);obtain⟨B,k1,k2,Q⟩:=O.sound c;have d:=Q (fun _=>u) (fun i p hi=>by
    rw[kC] at hi;split at hi
    ·cases hi; exact y
    ·cases hi) 0 (.sl s rows) (by rw[mK,kC,if_pos rfl,a2V,qY h3,h4])
   rw[Q5] at k1 k2;exact⟨u,_,B,_,rfl,k1,d,x.trans k2,rfl,rfl⟩⟩
theorem eI.of:∀ {E:Env} (ps:List PV) (vs:List Value),vs.length=ps.length→(∀ (i:Nat) p v,ps[i]?=some p→vs[i]?=some v→aY E p v)→eI E ps vs
 | _,[],[],_,_=>.nil
 | _,[],_::_,h,_=>by simp at h
 | _,_::_,[],h,_=>by simp at h
 | _,p::ps,v::vs,h,k=>.cons (k 0 p v rfl rfl) (eI.of ps vs (by simpa using h) fun i q u a b=>k (i+1) q u (by simpa using a) (by simpa using b))
theorem bH.same {E:Env} {w l:World} (hW:bH E H w) (A:w.heap.size≤l.heap.size) (y:∀ b,b<w.heap.size→H b=none→l.heap[b]?=w.heap[b]?) (u:∀ o x,H o=some x→l.heap[o]?=w.heap[o]?):bH E H l:=by
 have d:∀ b,b<w.heap.size→l.heap[b]?=w.heap[b]?:=fun b hlt=>by
  cases e:H b with
  | none=>exact y b hlt e
  | some x=>exact u b x e
 refine⟨fun b cs h=>?_,fun o x h=>?_,fun o n h=>?_⟩
 ·obtain⟨c,ty,fr,i⟩:=hW.g b cs h;exact⟨c,ty,fr,(d b (a4Q.1 i).1).trans i⟩
 ·obtain⟨c,i⟩:=hW.h o x h;exact⟨Nat.lt_of_lt_of_le c A,i.mono (.refl E) (d o c)⟩
 ·obtain⟨p,ty,fr,c,i⟩:=hW.s o n h;exact⟨p,ty,fr,(d o (a4Q.1 c).1).trans c,i⟩
inductive Plain:PV→Prop
 | int (k:IntKind) (n:Int):Plain (.int k n)
 | bool (b:Bool):Plain (.bool b)
 | str (l:List UInt8):Plain (.str l)
theorem Plain.rep {v:PV} (h:Plain v) {E c:Env} {u:Value} (r:aY E v u):aY c v u:=by
 cases h<;>cases r
 ·exact .int _ _
 ·exact .bool _
 ·exact .str _
theorem aF.aPG {name o:Nat} {rs:List (List PV)} {args:List PV} (Y:Plain v) (h:aF C name (args.map (PV.frz o s rs)) .nil (aH v)) :
  aF C name args (PH.nil.set o (.rows s rs)) (fun r H'=>r=v∧H'=PH.nil.set o (.rows s rs)):=by
 refine⟨h.1,fun E w vs Q hW B=>?_⟩;have Z:iW (PF.args args) (PH.nil.set o (.rows s rs)) _ _:=.step o (s:=s) (rs:=rs) (by simp only[aV,if_true]) (.refl _ _);obtain⟨N,k1,k2,k3⟩:=Z.sound hW;rw[Q5] at k1 k2;have A:=B.len;have J:eI N (args.map (PV.frz o s rs)) vs.toList:=by
  refine eI.of _ _ (by rw[a1K]; exact A) fun i p u V X=>?_;have:=k3 (fun i=>(vs.toList[i]?).getD undef) (fun j q O=>by have U:=(a2P.1 O).1;have y:j<vs.toList.length:=Om;simp only[a1V y,a4G];exact B.at_ j q _ O (a1V y)) i p (by rw[mK,args_at,← a2K]; exact V)
  simp only[X,a4G] at this;exact this
 refine (h.2 N w vs (k2.env.num.trans Q) k1 J).mono fun e w' S=>?_;obtain⟨u,pv,E2,H2,rfl,R,W,l,rfl,rfl⟩:=S;have c:∀ b,b<w.heap.size→w'.heap[b]?=w.heap[b]?:=fun b d=>l.block b d rfl;refine⟨u,pv,E,_,rfl,hW.same l.size (fun b d _=>c b d) (fun q x M=>c q (hW.h q x M).1),Y.rep W,⟨.refl E,l.os,l.tape,l.output,l.size,fun b d _=>c b d,fun q x M=>.inl ⟨x,M⟩,fun b cs d=>.inl d⟩,rfl,rfl⟩
theorem awG {Hs:PH} {S:Spec} {name o:Nat} {rs:List (List PV)} {vs:List PV} {R:PH→PV→PH→Prop} {args:List aN} {st:Bool} {d:Option Nat} {K:PF→PH→Prop} (l:S name vs=some ([o],R)) (x:Plain v) (w:H o=some (.rows s rs))
  (h:aF C name (vs.map (PV.frz o s rs)) .nil (aH v)) (c:R (PH.nil.set o (.rows s rs)) v (PH.nil.set o (.rows s rs))) (e:∀ r H',R (PH.nil.set o (.rows s rs)) r H'→r=v∧H'=PH.nil.set o (.rows s rs)) (p:aN.evs F args=some vs) (i:Hs.le H) (u:K (F.put d v) H) :
  dOp C Hs S st (.call name args) d K F H:=UE l w (h.aPG x) c e p i u
theorem yv {name t:Nat} {R:PV→PH→Prop} {d:Option Nat} {K:PF→PH→Prop} (h:aF C name [.sl s rows] .nil R) (w:bP H s v rows) (p:F t=some v)
  (l:∀ (c:PF) (e:PH),(∀ i u,F i=some u→Pure u→c i=some u)→∀ r H',R r H'→lJ e .nil H'→K (c.put d r) (e.over .nil H')):hL C name [.tmp t] [] d K F H:=by
 rcases w with ⟨rfl,rfl⟩ | ⟨q,rs,rfl,h1,h2,h3⟩
 ·exact .inl ⟨[.aB],.nil,R,by rw[qJ,CR,p,CS]; rfl,a_,h.abP (.inl ⟨rfl,rfl⟩),l F H fun i u hi _=>hi⟩
 ·refine .inr ⟨_,_,.step q h1 (.refl _ _),[.sl s rows],.nil,R,?_,a_,h,l _ _ fun i u hi x=>?_⟩
  ·simp only[qJ,CS,CR,mK,p,a2V,qY h2,h3,a3J]
  ·rw[mK,hi,a2V,x q s rs]
end
theorem so (l:List Int) (i:Nat) (x:Int):(bC l).set i [.int .i64 x]=bC (l.set i x):=by unfold bC; rw[List.map_set]
theorem RV (n:Nat):a1M n [PV.int .i64 0]=bC (a1M n 0):=by simp[bC]
def aPX (f:aJ) (c:List Int) (d:Nat):Int:=if c.length=f.aZZ.length then min (max (c.getD d 0) 0) (ext f d) else ext f d
def aUB (f:aJ) (c:List Int):List Int:=(a1S f.aZZ.length).map (aPX f c)
abbrev lay (l:List (List Int)):PV:=.sl 1 (l.map fun r=>[ints r])
def aWL (n:Nat) (xs:List Int):List Int:=(a1S n).map fun (d:Nat)=>((xs.count (d:Int):Nat):Int)
def aPI (f:aJ) (l:List (List Int)):List Int:=aWL f.aZZ.length l.flatten
structure aSO (l:List (List Int)):Prop where
 rows:l.length≤16777216
 all:l.flatten.length≤16777216
theorem aiY (l:List (List Int)) {i:Nat} (h:i<l.length):(l.take (i+1)).flatten=(l.take i).flatten++l[i]:=by
 rw[a3I h,List.flatten_append];simp only[List.flatten_cons,List.flatten_nil,a3J]
structure aOD where
 kind:Int
 vol:Int
 wher:Int
abbrev aOD.cells (x:aOD):List PV:=[.int .i64 x.kind,.int .i64 x.vol,.int .i64 x.wher]
section
variable {C:Ctx} {F:PF} {H:PH}
theorem afA {name:Nat} {vs cs:List PV} {r:PV} {e:PH} {args:List aN} {d:Option Nat} {K:PF→PH→Prop} (h:aF C name (vs++cs) e (fun i H'=>i=r∧H'=e)) (l:aN.evs F args=some vs) (c:e.le H)
  (p:K (F.put d r) H):hL C name args cs d K F H:=by
 refine .inl ⟨vs++cs,e,_,by rw[l]; rfl,c,h,?_⟩;rintro i H' ⟨rfl,rfl⟩ -;rw[PH.over_self _ c];exact p
theorem bP.ne {s s':Nat} {v:PV} {rows:List (List PV)} {o:Nat} {y:List (List PV)} (h:bP H s v rows) (i:H o=some (.rows s' y)) (p:s≠s'):∀ l,v≠.osl o s 0 l:=by
 intro l e;rcases h with ⟨_,c⟩ | ⟨q,rs,h1,c,_⟩
 ·rw[c] at e; cases e
 ·rw[h1] at e;injection e with d
  subst d;rw[i] at c;injection c with c
  injection c with c
  exact p c.symm
theorem bP.set {s s':Nat} {v:PV} {rows:List (List PV)} {o:Nat} {y:List (List PV)} {x:bY} (h:bP H s v rows) (i:H o=some (.rows s' y)) (l:s≠s'):bP (H.set o x) s v rows:=by
 have e:=h.ne i l;rcases h with ⟨c,d⟩ | ⟨q,rs,c,d,h3,h4⟩
 ·exact .inl ⟨c,d⟩
 ·refine .inr ⟨q,rs,c,?_,h3,h4⟩;have:q≠o:=by rintro rfl; exact e _ c
  simp only[aV,if_neg this,d]
def Dis (s:Nat) (v u:PV):Prop:=∀ q l c d,v=.osl q s 0 l→u=.osl c s 0 d→q≠c
theorem Dis.nil {s:Nat}:Dis s .aB .aB:=fun _ _ _ _ h=>by cases h
theorem Dis.symm {s:Nat} {v u:PV} (h:Dis s v u):Dis s u v:=fun q l i e c d=>(h i e q l d c).symm
end
def QN (f:aJ) (i:Nat) (d:Int):Bool:=decide (0≤d)&&decide (dA f d.toNat (lvl f i)=i)
def fI (f:aJ) (xs:List Int) (i:Nat):Int:=if i=0 then 0 else ((xs.countP (QN f i):Nat):Int)
def lM (f:aJ) (xs:List Int):List Int:=(a1S f.a0C.length).map (fI f xs)
def mA (f:aJ) (xs:List Int) (d:Nat) (k:Nat):List Int:=(a1S f.a0C.length).map fun i=>if 4-(k:Int)<lvl f i then fI f (xs++[(d:Int)]) i else fI f xs i
theorem awK (f:aJ) (xs:List Int) (d k:Nat):(mA f xs d k).length=f.a0C.length:=by simp[mA]
theorem VF.lS {f:aJ} (h:VF f) {i:Nat} (hi:i<f.a0C.length):0≤lvl f i∧lvl f i≤4∧(lvl f i=0↔i=0):=by
 rcases a4D i with e | e
 ·subst e; rw[h.root.2.1]; simp
 ·have:=h.dom i e hi;omega
theorem aiN {f:aJ} (h:VF f) (xs:List Int) (d:Nat):mA f xs d 0=lM f xs:=by
 refine a4O (by simp[mA,lM]) fun i e c=>?_;simp only[mA,lM,a3L,List.getElem_range];have hi:i<f.a0C.length:=by simpa [lM] using c
 have:=h.lS hi;rw[if_neg Om]
theorem aiM {f:aJ} (h:VF f) (xs:List Int) (d:Nat):mA f xs d 4=lM f (xs++[(d:Int)]):=by
 refine a4O (by simp[mA,lM]) fun i l c=>?_;simp only[mA,lM,a3L,List.getElem_range];have hi:i<f.a0C.length:=by simpa [lM] using c
 have:=h.lS hi;by_cases e:i=0
 ·subst e;rw[if_neg Om];simp[fI]
 ·rw[if_pos Om]
theorem yV (f:aJ) (xs:List Int) (d:Nat) {i:Nat} (hi:i≠0):fI f (xs++[(d:Int)]) i=fI f xs i+if dA f d (lvl f i)=i then 1 else 0:=by
 unfold fI;rw[if_neg hi,if_neg hi,List.countP_append];by_cases h:dA f d (lvl f i)=i
 ·rw[if_pos h]; simp[QN,h]
 ·rw[if_neg h]; simp[QN,h]
theorem aHA {f:aJ} (h:VF f) (xs:List Int) {d:Nat} (y:d<f.aZZ.length) {k:Nat} (E:k<4) :
  (mA f xs d k)[upN f k (dD f d)]?=some (fI f xs (upN f k (dD f d))) ∧
  (mA f xs d k).set (upN f k (dD f d)) (fI f xs (upN f k (dD f d))+1)=mA f xs d (k+1):=by
 obtain⟨A,w⟩:=PJ h y (k:=k) Om;constructor
 ·simp only[mA,a2K,List.getElem?_range A,a2V];rw[if_neg Om]
 ·refine a4O (by simp[mA]) fun i B x=>?_;have hi:i<f.a0C.length:=by simpa [mA] using x
  simp only[mA,List.getElem_set,a3L,List.getElem_range];have J:=h.lS hi;by_cases e:upN f k (dD f d)=i
  ·rw[if_pos e];subst e;rw[if_pos Om];have l:upN f k (dD f d)≠0:=by intro e; rw[e,h.root.2.1] at w; omega
   rw[yV f xs d l,dA,w];have:4-(4-(k:Int)).toNat=k:=Om;rw[this,if_pos rfl]
  ·rw[if_neg e];by_cases c:4-(k:Int)<lvl f i
   ·rw[if_pos c,if_pos Om]
   ·rw[if_neg c];by_cases p:4-((k+1:Nat):Int)<lvl f i
    ·rw[if_pos p];have u:lvl f i=4-(k:Int):=Om;have l:i≠0:=by intro e; subst e; rw[h.root.2.1] at u; omega
     rw[yV f xs d l,dA,u];have:4-(4-(k:Int)).toNat=k:=Om;rw[this,if_neg e]; simp
    ·rw[if_neg p]
theorem aGZ (f:aJ) (xs:List Int) (i:Nat):0≤fI f xs i∧fI f xs i≤xs.length:=by
 unfold fI;have:=List.countP_le_length (p:=QN f i) (l:=xs);split<;>omega
structure Obs where
 o5:Nat
 o7:Nat
 o8:Nat
 oD:Nat
 oB:Nat
structure Obs.Ne (o:Obs):Prop where
 a1:o.o5≠o.oD
 a2:o.o5≠o.oB
 a3:o.o7≠o.oD
 a4:o.o7≠o.oB
 a5:o.o8≠o.oD
 a6:o.o8≠o.oB
 a7:o.oD≠o.oB
structure auZ (H:PH) (o:Obs) (v:Nat) (p:cB) (A:List Bool) (D B:List Int):Prop where
 h5:H o.o5=some (.rows 1 [[.int .i64 v]])
 h7:H o.o7=some (.rows 17 [p.cells])
 h8:H o.o8=some (.rows 1 (dJ A))
 hD:H o.oD=some (.rows 1 (bC D))
 hB:H o.oB=some (.rows 1 (bC B))
theorem auZ.keep {H H':PH} {o:Obs} {v:Nat} {p:cB} {A:List Bool} {D B:List Int} (h:auZ H o v p A D B) (c:∀ q s' z,3≠s'→H q=some (.rows s' z)→H' q=some (.rows s' z)):auZ H' o v p A D B :=
 ⟨c _ _ _ (by decide) h.h5,c _ _ _ (by decide) h.h7,c _ _ _ (by decide) h.h8,c _ _ _ (by decide) h.hD,c _ _ _ (by decide) h.hB⟩
def home (row:List Int) (i:Nat):Bool:=decide (row.getD i 0<0)
def dY (f:aJ) (p:cB) (i:Nat):Int:=p.spread (lvl f i).toNat
theorem KO (n:Nat):a1M n [PV.bool false]=dJ (marks n []):=by rw[tg]; simp[dJ]
theorem atU (f:aJ):a1M f.a0C.length [PV.int .i64 0]=bC (lM f []):=by
 have:lM f []=a1M f.a0C.length 0:=by refine a4O (by simp[lM]) fun i c d=>?_;simp[lM,fI]
 rw[this,RV]
def over (f:aJ) (l:List (List Int)) (c:List Int) (d:Nat):Bool:=decide ((aPI f l).getD d 0>(aUB f c).getD d 0)
def Tb:Rg:=[iA 2 (.mv (.const (.lit (.pointer none))))]
def Tc:Rg:=[iM 3 0,iN 4 3,iC 5 .gtr 4 400]
def Td:Rg:=[iM 6 0,iA 7 (.slice 1 (Tm 6) none (some (Ci 400)) none),iM 0 7]
def l2:Rg:=[iM 8 0,iA 9 (.append 1 1 (.const .aB) (Tm 8)),iA 10 (.build [.aB,zI] [(0,1,(Tm 9))]),iA 11 (.box false (Tm 10)),iM 2 11]
def NG:aC:=(sq Tb (.seq (sq Tc (.cond (Tm 5) (.region Td) .skip)) (sq l2 .ret)))
def aIV:List Nat:=[]
def Z3:aR:=⟨1,12,NG,[.tmp 2]⟩
def WH:Rg:=[iI 4 0]
def HE:Rd:=[(iM 5 0,false),(iA 6 (.a0M (Tm 5)),false),(iF 7 1 6,false),(iL 8 7,false),(iM 9 0,false),(iA 10 (.a0M (Tm 9)),false),(iF 11 0 10,false),(iL 12 11,false),(iN 13 12,false),(iB 14 .geq 8 13,false),(iM 15 14,false),(gM 16 1 15 false,false),(gC 17 .lss 16 2 15 false,false),(iQ 18 15 17,false)]
def WI:Rg:=[iI 4 0]
def Hi:Rg:=[iM 19 0,iA 20 (.a0M (Tm 19)),iF 21 1 20,iL 22 21,iC 23 .add 22 1,iA 24 (.a0M (Tm 19)),iF 25 1 24,iS 1 25 23]
def Hj:Rd:=[(iM 26 0,false),(iA 27 (.a0M (Tm 26)),false),(iF 28 0 27,false),(iL 29 28,false),(iM 30 0,false),(iA 31 (.a0M (Tm 30)),false),(iF 32 1 31,false),(iL 33 32,false),(iC 34 .sub 33 1,false),(iX 35 1 29 34,false),(iL 36 35,false),(iA 37 (.conv .i64 (Tm 36)),false),(iM 38 1,false),(iB 39 .rem 37 38,false),(iM 4 39,false)]
def wA:aC:=(sq WH (.seq (dq HE (.cond (Tm 18) (sq WI .ret) .skip)) (sq Hi (dq Hj .ret))))
def ayN:List Nat:=[]
def fb:aR:=⟨2,40,wA,[.tmp 4]⟩
def Gt:Rg:=[iA 2 (.alloc [zB,.aB,.aB])]
def Gu:Rg:=[iM 6 0,iA 7 (.call 4 [(Tm 6),(Ci 6)]),iA 8 (.bin .add (Ci 1) (Tm 7)),iM 9 0,iA 10 (.call 4 [(Tm 9),(Ci 8)]),iA 11 (.bin .add (Ci 1) (Tm 10)),iK2 12 50 8 11,iM 5 12,iE 13 5 0,iE 14 5 1,iA 3 (.alloc [zB,.aB,.aB]),iS 3 3 13,iM 4 14]
def Gv:Rg:=[iO 15 3 3,iS 3 2 15]
def GY:aC:=(sq Gt (sq Gu (sq Gv .ret)))
def ayI:List Nat:=[]
def zg:aR:=⟨1,16,GY,[.cell 2 (some 3)]⟩
def S4:Rg:=[iA 4 (.alloc [(.str []),.aB,.aB,.aB])]
def S5:Rg:=[iM 16 0,iM 17 1,iK2 18 4 16 17,iA 19 (.bin .add (Ci 1) (Tm 18)),iM 5 19]
def S6:Rg:=[iA 6 (.alloc [(.str []),.aB,.aB,.aB])]
def S7:Rg:=[iI 7 8]
def S8:Rg:=[iI 8 0]
def S9:Rg:=[iM 20 8,iM 21 5,iB 22 .lss 20 21]
def ln:Rg:=[iM 25 7,iM 9 25]
def lx:Rg:=[iM 26 8,iC 27 .add 26 1,iM 28 5,iB 29 .lss 27 28]
def lz:Rg:=[iM 30 0,iM 31 7,iC 32 .add 31 1,iK2 33 4 30 32,iM 9 33]
def QT:Rg:=[iM 34 7,iM 35 9,iB 36 .sub 34 35,iM 7 36]
def VW:Rg:=[iM 38 9,iA 39 (.call 50 [(Tm 38),(Ci 8)]),iM 37 39,iE 40 37 0,iE 41 37 1,iA 10 (.alloc [zB,.aB,.aB]),iS 3 10 40,iM 11 41]
def VX:Rg:=[iF 42 1 6,iL 43 42,iO 44 3 10,iA 45 (.a0F true 3 1 [zB,.aB,.aB] [(0,(Tm 44))]),iA 46 (.append 3 56 (Tm 43) (Tm 45)),iF 47 1 6,iS 1 47 46]
def VY:Rg:=[iM 48 0,iK 49 1 48,iA 12 (.alloc [zB,.aB,.aB]),iS 3 12 49]
def VZ:Rg:=[iM 50 8,iC 51 .add 50 1,iM 52 5,iB 53 .lss 51 52,iM 54 53,gM 55 0 54 true,iG 56 (.call 4 [(Tm 55),(Ci 3)]) 54 true,gC 57 .eql 56 0 54 true,iP 58 54 57]
def WA:Rg:=[iA 59 (.call 47 [(Ci 0)]),iS 3 12 59]
def HC:Rg:=[iF 60 3 6,iL 61 60,iO 62 3 12,iA 63 (.a0F true 3 1 [zB,.aB,.aB] [(0,(Tm 62))]),iA 64 (.append 3 56 (Tm 61) (Tm 63)),iF 65 3 6,iS 1 65 64]
def WB:Rg:=[iZ 13]
def WC:Rg:=[iI 14 0]
def G8:Rg:=[iM 66 14,iM 67 5,iB 68 .lss 66 67]
def G9:Rg:=[iA 71 (.call 47 [(Ci 0)]),iA 15 (.alloc [zB,.aB,.aB]),iS 3 15 71]
def Ha:Rg:=[iM 72 14,iM 73 8,iC 74 .add 73 1,iB 75 .eql 72 74,iM 76 75,gM 77 14 76 false,gM 78 8 76 false,gB 79 .neq 77 78 76 false,gM 80 79 76 false,gM 81 0 80 true,iG 82 (.call 4 [(Tm 81),(Ci 3)]) 80 true,gC 83 .eql 82 0 80 true,iG 84 (.pick (Tm 80) (Tm 83) (.const zB)) 76 false,iQ 85 76 84]
def WD:Rg:=[iM 86 0,iK 87 1 86,iS 3 15 87]
def WE:Rg:=[iM 88 13,iO 89 3 15,iA 90 (.a0F true 3 1 [zB,.aB,.aB] [(0,(Tm 89))]),iA 91 (.append 3 56 (Tm 88) (Tm 90)),iM 13 91]
def WF:Rg:=[iM 69 14,iC 70 .add 69 1,iM 14 70]
def HB:aC:=(.seq (sq G8 (.cond (Tm 68) .skip (.exit 2))) (.seq (.block 3 (sq G9 (.seq (sq Ha (.cond (Tm 85) (.region WD) .skip)) (.region WE)))) (.region WF)))
def WG:Rg:=[iF 92 2 6,iL 93 92,iM 94 13,iA 95 (.a0F true 1 1 [.aB] [(0,(Tm 94))]),iA 96 (.append 1 24 (Tm 93) (Tm 95)),iF 97 2 6,iS 1 97 96]
def Hb:Rg:=[iM 23 8,iC 24 .add 23 1,iM 8 24]
def G7:aC:=(.seq (sq S9 (.cond (Tm 22) .skip (.exit 0))) (.seq (.block 1 (sq ln (.seq (sq lx (.cond (Tm 29) (.region lz) .skip)) (sq QT (sq VW (sq VX (sq VY (.seq (sq VZ (.cond (Tm 58) (.region WA) .skip)) (sq HC (sq WB (.seq (sq WC (.block 2 (.loop HB))) (.region WG)))))))))))) (.region Hb)))
def Hc:Rg:=[iO 98 4 6,iS 4 4 98]
def NF:aC:=(sq S4 (sq S5 (sq S6 (sq S7 (.seq (sq S8 (.block 0 (.loop G7))) (sq Hc .ret))))))
def aIT:List Nat:=[45,63,90,95]
def Zp:aR:=⟨2,99,NF,[.cell 4 (some 4)]⟩
def Tg:Rg:=[iZ 4]
def Th:Rg:=[iZ 5]
def Ti:Rg:=[iI 6 0]
def Tj:Rg:=[iM 7 6,iM 8 1,iA 9 (.a0U true (Tm 8) (Ci 1)),iB 10 .lss 7 9]
def Tk:Rg:=[iM 13 5,iM 14 0,iK 15 1 14,iA 16 (.a0F true 3 1 [zB,.aB,.aB] [(0,(Tm 15))]),iA 17 (.append 3 56 (Tm 13) (Tm 16)),iM 5 17]
def Tl:Rg:=[iM 11 6,iC 12 .add 11 1,iM 6 12]
def Te:aC:=(.seq (sq Tj (.cond (Tm 10) .skip (.exit 0))) (.seq (.block 1 (.region Tk)) (.region Tl)))
def Tn:Rg:=[iM 18 5,iM 4 18]
def NI:aC:=(sq Tg (sq Th (.seq (sq Ti (.block 0 (.loop Te))) (sq Tn .ret))))
def aIX:List Nat:=[16]
def Z4:aR:=⟨2,19,NI,[.tmp 4]⟩
def Hf:Rg:=[iA 4 (.mv (.const (.str [])))]
def Hg:Rg:=[iM 5 0,iM 6 1,iK 7 195 6,iB 8 .add 5 7,iM 4 8]
def HD:aC:=(sq Hf (sq Hg .ret))
def ayM:List Nat:=[]
def zh:aR:=⟨2,9,HD,[.tmp 4]⟩
def Gy:Rg:=[iM 12 1,iA 13 (.a0M (Tm 12)),iF 14 3 13,iL 15 14,iM 16 2,iX 17 7 15 16,iF 18 1 17,iL 19 18,iC 20 .add 19 1,iM 8 20]
def Gz:Rg:=[iM 21 0,iA 22 (.call 4 [(Tm 21),(Ci 2)]),iA 23 (.bin .add (Ci 1) (Tm 22)),iM 9 23]
def G1:Rg:=[iM 24 8,iC 25 .eql 24 2]
def G2:Rg:=[iI 9 1]
def GZ:Rg:=[iI 10 0]
def VT:Rg:=[iM 26 10,iM 27 9,iB 28 .lss 26 27]
def VU:Rg:=[iM 31 8,iC 32 .eql 31 5]
def G3:Rg:=[iM 33 1,iA 34 (.a0M (Tm 33)),iF 35 4 34,iL 36 35,iN 37 36,iM 38 3,iB 39 .lss 37 38]
def G4:Rd:=[(iM 40 1,true),(iM 41 1,true),(iA 42 (.a0M (Tm 41)),true),(iF 43 4 42,true),(iL 44 43,true),(iM 45 1,false),(iA 46 (.a0M (Tm 45)),false),(iF 47 4 46,false),(iL 48 47,false),(iN 49 48,false),(iA 50 (.call 29 [(.const (.str [100])),(Tm 49)]),true),(iM 51 0,true),(iM 52 1,true),(iA 53 (.a0M (Tm 52)),true),(iF 54 2 53,true),(iL 55 54,true),(iN 56 55,true),(iK2 57 4 51 56,true),(iM 58 2,true),(iA 59 (.build [(.str []),zI,zI] [(0,1,(Tm 50)),(1,1,(Tm 57)),(2,1,(Tm 58))]),false),(iA 60 (.a0F true 3 1 [(.str []),zI,zI] [(0,(Tm 59))]),false),(iA 61 (.append 3 32 (Tm 44) (Tm 60)),true),(iA 62 (.a0M (Tm 40)),false),(iF 63 4 62,false)]
def G5:Rd:=[(iS 1 63 61,true)]
def tw:Rg:=[iM 64 1,iA 65 (.a0M (Tm 64)),iF 66 4 65,iL 67 66,iN 68 67,iM 69 3,iB 70 .geq 68 69,iM 71 70,gM 72 1 71 false,iG 73 (.a0M (Tm 72)) 71 false,gF 74 3 73 71 false,gL 75 74 71 false,gN 76 75 71 false,gC 77 .geq 76 35 71 false,iQ 78 71 77]
def tx:Rd:=[(iM 79 8,false),(iA 80 (.a1A (.const (.str [45,115,114,107,109])) (Tm 79)),false),(iA 81 (.a0F true 1 1 [(.int .u8 0)] [(0,(Tm 80))]),false),(iA 82 (.a0N (Tm 81)),false),(iM 83 1,false),(iA 84 (.a0M (Tm 83)),false),(iF 85 3 84,false),(iL 86 85,false),(iN 87 86,false),(iK2 88 29 82 87,true),(iM 89 8,true),(iM 90 2,true),(iM 91 0,true),(iA 92 (.call 4 [(Tm 91),(Ci 16)]),true),(iA 93 (.bin .add (Ci 1) (Tm 92)),true),(iA 94 (.call 47 [(Ci 0)]),true),(iA 95 (.build [(.str []),zI,zI,zI,zB,.aB,.aB] [(0,1,(Tm 88)),(1,1,(Tm 89)),(2,1,(Tm 90)),(3,1,(Tm 93)),(4,3,(Tm 94))]),false),(iA 11 (.alloc [(.str []),zI,zI,zI,zB,.aB,.aB]),true),(iS 7 11 95,true)]
def tz:Rg:=[iM 96 0,iA 97 (.call 4 [(Tm 96),(Ci 3)]),iC 98 .eql 97 0]
def t6:Rg:=[iM 100 0,iA 101 (.call 4 [(Tm 100),(Ci 6)]),iA 102 (.bin .add (Ci 2) (Tm 101)),iA 103 (.call 50 [(Ci 1),(Tm 102)]),iM 99 103,iE 104 99 0,iE 105 99 1,iF 106 4 11,iS 3 106 104]
def MZ:Rd:=[(iM 107 1,true),(iM 108 1,false),(iA 109 (.a0M (Tm 108)),false),(iF 110 3 109,false),(iL 111 110,false),(iO 112 7 11,false),(iA 113 (.a0F true 7 1 [(.str []),zI,zI,zI,zB,.aB,.aB] [(0,(Tm 112))]),false),(iA 114 (.append 7 96 (Tm 111) (Tm 113)),true),(iA 115 (.a0M (Tm 107)),false),(iF 116 3 115,false),(iS 1 116 114,true)]
def NA:Rg:=[iM 117 0,iM 118 1,iM 119 1,iA 120 (.a0M (Tm 119)),iF 121 3 120,iL 122 121,iN 123 122,iC 124 .sub 123 1,iM 125 3,iA 126 (.call 7 [(Tm 117),(Tm 118),(Tm 124),(Tm 125)])]
def uO:Rg:=[iM 29 10,iC 30 .add 29 1,iM 10 30]
def uN:aC:=(.seq (sq VT (.cond (Tm 28) .skip (.exit 0))) (.seq (.block 1 (.seq (sq VU (.cond (Tm 32) (.seq (sq G3 (.cond (Tm 39) (dq G4 (.draw G5)) .skip)) (.exit 1)) .skip)) (.seq (sq tw (.cond (Tm 78) .ret .skip)) (dq tx (.seq (sq tz (.cond (Tm 98) (.region t6) .skip)) (dq MZ (.region NA))))))) (.region uO)))
def vZ:aC:=(sq Gy (sq Gz (.seq (sq G1 (.cond (Tm 25) (.region G2) .skip)) (sq GZ (.block 0 (.loop uN))))))
def ayJ:List Nat:=[60,81,113]
def fa:aR:=⟨4,127,vZ,[]⟩
def ti:Rg:=[iA 6 (.alloc [zI,.aB,.aB,.aB,.aB,.aB,.aB])]
def tj:Rg:=[iM 20 0,iA 21 (.call 4 [(Tm 20),(Ci 2)]),iA 22 (.bin .add (Ci 1) (Tm 21)),iA 23 (.build [zI,.aB,.aB,.aB,.aB,.aB,.aB] [(0,1,(Tm 22))]),iA 7 (.alloc [zI,.aB,.aB,.aB,.aB,.aB,.aB]),iS 7 7 23]
def tk:Rg:=[iM 24 0,iA 25 (.call 4 [(Tm 24),(Ci 2)]),iA 26 (.bin .add (Ci 1) (Tm 25)),iM 8 26]
def tp:Rg:=[iI 9 0]
def tq:Rg:=[iM 27 9,iM 28 8,iB 29 .lss 27 28]
def tr:Rg:=[iM 32 0,iA 33 (.call 2 [(Tm 32),(Ci 2)]),iA 10 (.alloc [(.str []),.aB,.aB,.aB]),iS 4 10 33]
def tt:Rg:=[iM 34 9,iA 35 (.call 29 [(.const (.str [108,97,119])),(Tm 34)]),iF 36 0 10,iS 1 36 35]
def tu:Rg:=[iF 37 1 7,iL 38 37,iO 39 4 10,iA 40 (.a0F true 4 1 [(.str []),.aB,.aB,.aB] [(0,(Tm 39))]),iA 41 (.append 4 88 (Tm 38) (Tm 40)),iF 42 1 7,iS 1 42 41]
def tv:Rg:=[iM 30 9,iC 31 .add 30 1,iM 9 31]
def MY:aC:=(.seq (sq tq (.cond (Tm 29) .skip (.exit 0))) (.seq (.block 1 (sq tr (sq tt (.region tu)))) (.region tv)))
def df:Rg:=[iM 43 0,iA 44 (.call 4 [(Tm 43),(Ci 2)]),iA 45 (.bin .add (Ci 1) (Tm 44)),iM 11 45]
def dg:Rg:=[iI 12 0]
def dh:Rg:=[iM 46 12,iM 47 11,iB 48 .lss 46 47]
def di:Rd:=[(iF 51 2 7,true),(iL 52 51,true),(iM 53 12,false),(iA 54 (.call 29 [(.const (.str [109])),(Tm 53)]),true),(iM 55 0,true),(iA 56 (.call 4 [(Tm 55),(Ci 4)]),true),(iA 57 (.bin .add (Ci 1) (Tm 56)),true),(iM 58 0,true),(iA 59 (.call 4 [(Tm 58),(Ci 8)]),true),(iA 60 (.bin .add (Ci 1) (Tm 59)),true),(iM 61 0,true),(iF 62 1 7,true),(iL 63 62,true),(iN 64 63,true),(iK2 65 4 61 64,true),(iA 66 (.build [(.str []),zI,zI,zI] [(0,1,(Tm 54)),(1,1,(Tm 57)),(2,1,(Tm 60)),(3,1,(Tm 65))]),false),(iA 67 (.a0F true 4 1 [(.str []),zI,zI,zI] [(0,(Tm 66))]),false),(iA 68 (.append 4 40 (Tm 52) (Tm 67)),true),(iF 69 2 7,false)]
def dj:Rd:=[(iS 1 69 68,true)]
def dk:Rg:=[iM 49 12,iC 50 .add 49 1,iM 12 50]
def GM:aC:=(.seq (sq dh (.cond (Tm 48) .skip (.exit 2))) (.seq (.block 3 (dq di (.draw dj))) (.region dk)))
def dl:Rg:=[iA 70 (.call 47 [(Ci 0)]),iA 71 (.build [(.str []),zI,zI,zI,zB,.aB,.aB] [(2,1,(Ci (-1))),(4,3,(Tm 70))]),iA 72 (.a0F false 7 1 [(.str []),zI,zI,zI,zB,.aB,.aB] [(0,(Tm 71))]),iF 73 3 7,iS 1 73 72]
def dp:Rg:=[iM 74 0,iM 75 1,iA 76 (.call 7 [(Tm 74),(Tm 7),(Ci 0),(Tm 75)])]
def dt:Rg:=[iM 77 0,iA 78 (.call 4 [(Tm 77),(Ci 2)]),iA 79 (.bin .add (Ci 1) (Tm 78)),iM 13 79]
def du:Rg:=[iI 14 0]
def dw:Rg:=[iM 80 14,iM 81 13,iB 82 .lss 80 81]
def GP:Rg:=[iM 85 14,iA 86 (.call 29 [(.const (.str [112])),(Tm 85)]),iM 87 0,iA 88 (.call 4 [(Tm 87),(Ci 2)]),iA 89 (.bin .add (Ci 1) (Tm 88)),iM 90 0,iA 91 (.call 4 [(Tm 90),(Ci 3)]),iM 92 0,iA 93 (.call 4 [(Tm 92),(Ci 4)]),iA 94 (.bin .add (Ci 1) (Tm 93)),iK 95 47 94,iA 96 (.build [(.str []),zI,zI,zI,zI,zI,zI,zI,zI,.aB,.aB,zB,.aB,.aB,zB,.aB,.aB] [(0,1,(Tm 86)),(1,1,(Tm 89)),(2,1,(Tm 91)),(14,3,(Tm 95))]),iA 15 (.alloc [(.str []),zI,zI,zI,zI,zI,zI,zI,zI,.aB,.aB,zB,.aB,.aB,zB,.aB,.aB]),iS 17 15 96]
def vS:Rd:=[(iF 97 1 15,true),(iL 98 97,true),(iM 99 0,false),(iF 100 2 15,false),(iL 101 100,false),(iC 102 .add 101 1,false),(iK2 103 4 99 102,true),(iB 104 .add 98 103,false),(iF 105 3 15,false)]
def vT:Rd:=[(iS 1 105 104,true)]
def vW:Rg:=[iM 106 0,iF 107 2 15,iL 108 107,iK2 109 5 106 108,iF 110 10 15,iS 1 110 109]
def vX:Rg:=[iM 112 0,iA 113 (.call 4 [(Tm 112),(Ci 9)]),iA 114 (.call 50 [(Tm 113),(Ci 8)]),iM 111 114,iE 115 111 0,iE 116 111 1,iF 117 11 15,iS 3 117 115]
def GQ:Rg:=[iI 16 1]
def dx:Rg:=[iM 118 16,iC 119 .lss 118 5]
def dy:Rg:=[iM 122 0,iA 123 (.call 4 [(Tm 122),(Ci 3)]),iC 124 .eql 123 0]
def dz:Rg:=[iM 125 16,iM 126 0,iA 127 (.call 4 [(Tm 126),(Ci 3)]),iA 128 (.bin .add (Ci 1) (Tm 127)),iF 129 4 15,iA 130 (.idxA 5 1 (Tm 129) (Tm 125)),iS 1 130 128]
def GR:Rg:=[iM 120 16,iC 121 .add 120 1,iM 16 121]
def vQ:aC:=(.seq (sq dx (.cond (Tm 119) .skip (.exit 6))) (.seq (.block 7 (sq dy (.cond (Tm 124) (.region dz) .skip))) (.region GR)))
def GT:Rg:=[iM 131 0,iM 132 11,iK2 133 4 131 132,iM 17 133]
def GU:Rg:=[iM 134 17,iA 135 (.a0F false 1 1 [zI] [(0,(Tm 134))]),iF 136 9 15,iS 1 136 135]
def GW:Rg:=[iM 137 11,iC 138 .gtr 137 1,iM 139 138,gM 140 0 139 true,iG 141 (.call 4 [(Tm 140),(Ci 2)]) 139 true,gC 142 .eql 141 0 139 true,iP 143 139 142]
def GX:Rg:=[iF 144 9 15,iL 145 144,iM 146 17,iA 147 (.bin .sub (Ci 1) (Tm 146)),iA 148 (.a0F true 1 1 [zI] [(0,(Tm 147))]),iA 149 (.append 1 8 (Tm 145) (Tm 148)),iF 150 9 15,iS 1 150 149]
def vY:Rg:=[iF 151 5 7,iL 152 151,iO 153 17 15,iA 154 (.a0F true 17 1 [(.str []),zI,zI,zI,zI,zI,zI,zI,zI,.aB,.aB,zB,.aB,.aB,zB,.aB,.aB] [(0,(Tm 153))]),iA 155 (.append 17 240 (Tm 152) (Tm 154)),iF 156 5 7,iS 1 156 155]
def d3:Rg:=[iM 83 14,iC 84 .add 83 1,iM 14 84]
def GN:aC:=(.seq (sq dw (.cond (Tm 82) .skip (.exit 4))) (.seq (.block 5 (sq GP (.seq (dq vS (.draw vT)) (sq vW (sq vX (.seq (sq GQ (.block 6 (.loop vQ))) (sq GT (sq GU (.seq (sq GW (.cond (Tm 143) (.region GX) .skip)) (.region vY)))))))))) (.region d3)))
def d6:Rg:=[iM 157 0,iM 158 2,iC 159 .add 158 1,iK2 160 4 157 159,iM 18 160]
def d7:Rg:=[iI 19 0]
def d8:Rg:=[iM 161 19,iM 162 18,iB 163 .lss 161 162]
def d9:Rd:=[(iF 166 6 7,true),(iL 167 166,true),(iM 168 19,false),(iA 169 (.call 29 [(.const (.str [118])),(Tm 168)]),true),(iM 170 0,true),(iF 171 5 7,true),(iL 172 171,true),(iN 173 172,true),(iK2 174 4 170 173,true),(iA 175 (.build [(.str []),zI] [(0,1,(Tm 169)),(1,1,(Tm 174))]),false),(iA 176 (.a0F true 2 1 [(.str []),zI] [(0,(Tm 175))]),false),(iA 177 (.append 2 24 (Tm 167) (Tm 176)),true),(iF 178 6 7,false)]
def ef:Rd:=[(iS 1 178 177,true)]
def el:Rg:=[iM 164 19,iC 165 .add 164 1,iM 19 165]
def GO:aC:=(.seq (sq d8 (.cond (Tm 163) .skip (.exit 8))) (.seq (.block 9 (dq d9 (.draw ef))) (.region el)))
def ep:Rg:=[iO 179 7 7,iS 7 6 179]
def AS:aC:=(sq ti (sq tj (sq tk (.seq (sq tp (.block 0 (.loop MY))) (sq df (.seq (sq dg (.block 2 (.loop GM))) (sq dl (sq dp (sq dt (.seq (sq du (.block 4 (.loop GN))) (sq d6 (.seq (sq d7 (.block 8 (.loop GO))) (sq ep .ret)))))))))))))
def akQ:List Nat:=[40,67,148,154,176]
def de:aR:=⟨3,180,AS,[.cell 6 (some 7)]⟩
def td:Rg:=[iA 6 (.alloc [zI,.aB,.aB,.aB,.aB,.aB,.aB])]
def te:Rg:=[iM 7 0,iK 8 28 7,iM 9 1,iM 10 2,iA 11 (.call 0 [(Tm 8),(Tm 9),(Tm 10)]),iS 7 6 11]
def AR:aC:=(sq td (sq te .ret))
def akN:List Nat:=[]
def db:aR:=⟨3,12,AR,[.cell 6 (some 7)]⟩
def ayP:Rg:=[iA 3 (.box true (Tm 1)),iZ 4]
def ayQ:Rg:=[iM 7 0,iA 8 (.call 4 [(Tm 7),(Ci 4)]),iC 9 .eql 8 0]
def ayR:Rg:=[iZ 4]
def ayS:Rg:=[iZ 5]
def ayT:Rg:=[iI 6 0]
def ayU:Rg:=[iM 10 6,iF 11 4 3,iL 12 11,iN 13 12,iB 14 .lss 10 13]
def ayV:Rg:=[iM 17 5,iM 18 0,iA 19 (.call 4 [(Tm 18),(Ci 7)]),iC 20 .sub 19 1,iA 21 (.a0F true 1 1 [zI] [(0,(Tm 20))]),iA 22 (.append 1 8 (Tm 17) (Tm 21)),iM 5 22]
def ayW:Rg:=[iM 15 6,iC 16 .add 15 1,iM 6 16]
def ayO:aC:=(.seq (sq ayU (.cond (Tm 14) .skip (.exit 0))) (.seq (.block 1 (.region ayV)) (.region ayW)))
def ayX:Rg:=[iM 23 5,iM 4 23]
def Z6:aC:=(sq ayP (.seq (sq ayQ (.cond (Tm 9) (sq ayR .ret) .skip)) (sq ayS (.seq (sq ayT (.block 0 (.loop ayO))) (sq ayX .ret)))))
def aTY:aR:=⟨2,24,Z6,[.tmp 4]⟩
def Zs:Rg:=[iA 3 (.box true (Tm 1)),iZ 4]
def Zt:Rg:=[iZ 5]
def Zu:Rg:=[iI 6 0]
def Zv:Rg:=[iM 11 6,iF 12 6 3,iL 13 12,iN 14 13,iB 15 .lss 11 14]
def Zw:Rg:=[iZ 7]
def Zx:Rg:=[iM 18 0,iF 19 4 3,iL 20 19,iN 21 20,iC 22 .add 21 1,iK2 23 4 18 22,iM 8 23]
def Zy:Rg:=[iI 9 0]
def Zz:Rg:=[iM 24 9,iO 25 7 3,iM 26 6,iK2 27 82 25 26,iB 28 .lss 24 27]
def Z1:Rg:=[iI 10 (-1)]
def Z2:Rg:=[iF 31 4 3,iL 32 31,iN 33 32,iC 34 .gtr 33 0]
def Nj:Rg:=[iM 35 8,iM 36 9,iB 37 .add 35 36,iF 38 4 3,iL 39 38,iN 40 39,iB 41 .rem 37 40,iM 10 41]
def Nk:Rg:=[iM 42 0,iA 43 (.call 4 [(Tm 42),(Ci 6)])]
def Nl:Rg:=[iC 45 .eql 43 0,iM 44 45]
def Nm:Rg:=[iM 46 0,iF 47 4 3,iL 48 47,iN 49 48,iK2 50 4 46 49,iM 10 50]
def Nn:Rg:=[iC 52 .eql 43 1,iM 51 52]
def No:Rg:=[iM 53 0,iF 54 4 3,iL 55 54,iN 56 55,iC 57 .add 56 1,iK2 58 4 53 57,iC 59 .sub 58 1,iM 10 59]
def Np:Rg:=[iM 60 7,iM 61 10,iA 62 (.a0F true 1 1 [zI] [(0,(Tm 61))]),iA 63 (.append 1 8 (Tm 60) (Tm 62)),iM 7 63]
def Nq:Rg:=[iM 29 9,iC 30 .add 29 1,iM 9 30]
def Nh:aC:=(.seq (sq Zz (.cond (Tm 28) .skip (.exit 2))) (.seq (.block 3 (sq Z1 (.seq (sq Z2 (.cond (Tm 34) (sq Nj (sq Nk (.block 4 (sq Nl (.cond (Tm 44) (.region Nm) (sq Nn (.cond (Tm 51) (.region No) .skip))))))) .skip)) (.region Np)))) (.region Nq)))
def Nr:Rg:=[iM 64 5,iM 65 7,iA 66 (.a0F true 1 1 [.aB] [(0,(Tm 65))]),iA 67 (.append 1 24 (Tm 64) (Tm 66)),iM 5 67]
def Ns:Rg:=[iM 16 6,iC 17 .add 16 1,iM 6 17]
def Ni:aC:=(.seq (sq Zv (.cond (Tm 15) .skip (.exit 0))) (.seq (.block 1 (sq Zw (sq Zx (.seq (sq Zy (.block 2 (.loop Nh))) (.region Nr))))) (.region Ns)))
def Nt:Rg:=[iM 68 5,iM 4 68]
def Hd:aC:=(sq Zs (sq Zt (.seq (sq Zu (.block 0 (.loop Ni))) (sq Nt .ret))))
def aIU:aR:=⟨2,69,Hd,[.tmp 4]⟩
def azW:Rg:=[iA 2 (.box true (Tm 0)),iI 4 0]
def azX:Rd:=[(iF 6 5 2,false),(iL 7 6,false),(iF 8 6 2,false),(iL 9 8,false),(iM 10 1,false),(iX 11 2 9 10,false),(iF 12 1 11,false),(iL 13 12,false),(iX 14 17 7 13,false),(iO 15 17 14,false),(iA 5 (.alloc [(.str []),zI,zI,zI,zI,zI,zI,zI,zI,.aB,.aB,zB,.aB,.aB,zB,.aB,.aB]),true),(iS 17 5 15,true)]
def azY:Rg:=[iF 16 1 5,iL 17 16,iF 18 2 5,iL 19 18,iB 20 .add 17 19,iM 4 20]
def abQ:aC:=(sq azW (dq azX (sq azY .ret)))
def aUD:aR:=⟨2,21,abQ,[.tmp 4]⟩
def Li:Rg:=[iZ 2]
def Lj:Rg:=[iM 4 0,iN 5 4,iM 3 5]
def Lk:Rg:=[iM 6 3,iC 7 .gtr 6 0,iM 8 7,gM 9 0 8 true,gM 10 3 8 true,gC 11 .sub 10 1 8 true,iG 12 (.a0Q 1 (Tm 9) (Tm 11)) 8 true,gL 13 12 8 true,iG 14 (.bin .eql (Tm 13) (.const (.int .u32 0))) 8 true,iP 15 8 14]
def Ll:Rg:=[iM 16 3,iC 17 .sub 16 1,iM 3 17]
def Lg:aC:=(.seq (sq Lk (.cond (Tm 15) .skip (.exit 0))) (.block 1 (.region Ll)))
def XR:Rg:=[iM 18 0,iM 19 3,iA 20 (.slice 1 (Tm 18) none (some (Tm 19)) none),iA 21 (.append 1 4 (.const .aB) (Tm 20)),iM 2 21]
def JB:aC:=(sq Li (sq Lj (.seq (.block 0 (.loop Lg)) (sq XR .ret))))
def aDZ:List Nat:=[]
def zq:aR:=⟨1,22,JB,[.tmp 2]⟩
def K4:Rg:=[iZ 2]
def K5:Rg:=[iM 3 0,iA 4 (.conv .u32 (Tm 3)),iM 5 0,iA 6 (.bin .shr (Tm 5) (.const (.int .u64 32))),iA 7 (.conv .u32 (Tm 6)),iA 8 (.a0F true 1 2 [(.int .u32 0)] [(0,(Tm 4)),(1,(Tm 7))]),iK 9 38 8,iM 2 9]
def IS:aC:=(sq K4 (sq K5 .ret))
def aDR:List Nat:=[8]
def zo:aR:=⟨1,10,IS,[.tmp 2]⟩
def wt:Rg:=[iT 2 false]
def wu:Rg:=[iM 3 0,iK 4 38 3,iN 5 4,iC 6 .gtr 5 512,iM 2 6]
def CB:aC:=(sq wt (sq wu .ret))
def asO:List Nat:=[]
def i7:aR:=⟨1,7,CB,[.tmp 2]⟩
def Vo:Rg:=[iI 4 0]
def Vp:Rg:=[iM 6 0,iK 7 38 6,iM 8 1,iK 9 38 8,iM 0 7,iM 1 9]
def Vq:Rg:=[iM 10 0,iN 11 10,iM 12 1,iN 13 12,iB 14 .neq 11 13]
def Vs:Rg:=[iM 15 0,iN 16 15,iM 17 1,iN 18 17,iB 19 .lss 16 18]
def Vt:Rg:=[iI 4 (-1)]
def Vu:Rg:=[iI 4 1]
def Vv:Rg:=[iM 20 0,iN 21 20,iC 22 .sub 21 1,iM 5 22]
def Vw:Rg:=[iM 23 5,iC 24 .geq 23 0]
def Vx:Rd:=[(iM 27 0,false),(iM 28 5,false),(iX 29 1 27 28,false),(iL 30 29,false),(iM 31 1,false),(iM 32 5,false),(iX 33 1 31 32,false),(iL 34 33,false),(iB 35 .lss 30 34,false)]
def Vy:Rg:=[iI 4 (-1)]
def Km:Rd:=[(iM 36 0,false),(iM 37 5,false),(iX 38 1 36 37,false),(iL 39 38,false),(iM 40 1,false),(iM 41 5,false),(iX 42 1 40 41,false),(iL 43 42,false),(iB 44 .gtr 39 43,false)]
def Ko:Rg:=[iI 4 1]
def Kp:Rg:=[iM 25 5,iC 26 .sub 25 1,iM 5 26]
def Kl:aC:=(.seq (sq Vw (.cond (Tm 24) .skip (.exit 0))) (.seq (.block 1 (.seq (dq Vx (.cond (Tm 35) (sq Vy .ret) .skip)) (dq Km (.cond (Tm 44) (sq Ko .ret) .skip)))) (.region Kp)))
def Kq:Rg:=[iI 4 0]
def OZ:aC:=(sq Vo (sq Vp (.seq (sq Vq (.cond (Tm 14) (.seq (sq Vs (.cond (Tm 19) (sq Vt .ret) .skip)) (sq Vu .ret)) .skip)) (.seq (sq Vv (.block 0 (.loop Kl))) (sq Kq .ret)))))
def aLP:List Nat:=[]
def adV:aR:=⟨2,45,OZ,[.tmp 4]⟩
def iw:Rg:=[iZ 4,iZ 5]
def ix:Rg:=[iM 20 0,iM 21 1,iK2 22 32 20 21,iC 23 .lss 22 0]
def iy:Rg:=[iM 24 0,iK 25 38 24,iZ 4,iM 5 25]
def iz:Rg:=[iM 26 1,iN 27 26,iC 28 .eql 27 1]
def IN:Rg:=[iM 29 0,iN 30 29,iA 31 (.a0H 1 4 [(.int .u32 0)] (Tm 30) (Tm 30)),iM 6 31]
def IP:Rg:=[iA 7 (.mv (.const (.int .u64 0)))]
def IQ:Rg:=[iM 32 0,iN 33 32,iC 34 .sub 33 1,iM 8 34]
def i4:Rg:=[iM 35 8,iC 36 .geq 35 0]
def i5:Rg:=[iM 39 7,iA 40 (.bin .shl (Tm 39) (.const (.int .u64 32))),iM 41 0,iM 42 8,iX 43 1 41 42,iL 44 43,iA 45 (.conv .u64 (Tm 44)),iB 46 .or 40 45,iM 9 46]
def i6:Rg:=[iM 47 6,iM 48 8,iM 49 9,iM 50 1,iA 51 (.a0Q 1 (Tm 50) (Ci 0)),iL 52 51,iA 53 (.conv .u64 (Tm 52)),iB 54 .quo 49 53,iA 55 (.conv .u32 (Tm 54)),iX 56 1 47 48,iS 1 56 55]
def TC:Rg:=[iM 57 9,iM 58 1,iA 59 (.a0Q 1 (Tm 58) (Ci 0)),iL 60 59,iA 61 (.conv .u64 (Tm 60)),iB 62 .rem 57 61,iM 7 62]
def TD:Rg:=[iM 37 8,iC 38 .sub 37 1,iM 8 38]
def BO:aC:=(.seq (sq i4 (.cond (Tm 36) .skip (.exit 0))) (.seq (.block 1 (sq i5 (sq i6 (.region TC)))) (.region TD)))
def BP:Rg:=[iM 63 6,iK 64 38 63,iM 65 7,iK 66 35 65,iM 4 64,iM 5 66]
def TE:Rg:=[iM 67 1,iN 68 67,iA 69 (.bin .mul (Ci 32) (Tm 68)),iM 70 1,iK 71 31 70,iB 72 .sub 69 71,iM 10 72]
def TF:Rg:=[iM 73 0,iM 74 10,iK2 75 45 73 74,iA 76 (.a0F true 1 2 [(.int .u32 0)] [(0,(.const (.int .u32 0))),(1,(.const (.int .u32 0)))]),iA 77 (.append 1 4 (Tm 75) (Tm 76)),iM 78 1,iM 79 10,iK2 80 45 78 79,iM 11 77,iM 12 80]
def BQ:Rg:=[iM 81 11,iM 82 0,iM 83 10,iK2 84 45 82 83,iN 85 84,iC 86 .add 85 1,iA 87 (.slice 1 (Tm 81) none (some (Tm 86)) none),iM 11 87]
def BR:Rg:=[iM 88 12,iM 89 12,iN 90 89,iC 91 .sub 90 1,iX 92 1 88 91,iL 93 92,iA 94 (.conv .u64 (Tm 93)),iM 13 94]
def BS:Rg:=[iM 95 11,iN 96 95,iM 97 12,iN 98 97,iB 99 .sub 96 98,iA 100 (.a0H 1 4 [(.int .u32 0)] (Tm 99) (Tm 99)),iM 14 100]
def BT:Rg:=[iM 101 14,iN 102 101,iC 103 .sub 102 1,iM 15 103]
def TG:Rg:=[iM 104 15,iC 105 .geq 104 0]
def TH:Rd:=[(iM 108 11,false),(iM 109 15,false),(iM 110 12,false),(iN 111 110,false),(iB 112 .add 109 111,false),(iX 113 1 108 112,false),(iL 114 113,false),(iA 115 (.conv .u64 (Tm 114)),false),(iA 116 (.bin .shl (Tm 115) (.const (.int .u64 32))),false),(iM 117 11,false),(iM 118 15,false),(iM 119 12,false),(iN 120 119,false),(iB 121 .add 118 120,false),(iC 122 .sub 121 1,false),(iX 123 1 117 122,false),(iL 124 123,false),(iA 125 (.conv .u64 (Tm 124)),false),(iB 126 .or 116 125,false),(iM 16 126,false)]
def TI:Rg:=[iM 127 16,iM 128 13,iB 129 .quo 127 128,iM 17 129]
def TJ:Rg:=[iM 130 17,iA 131 (.bin .gtr (Tm 130) (.const (.int .u64 4294967295)))]
def TK:Rg:=[iA 17 (.mv (.const (.int .u64 4294967295)))]
def TL:Rd:=[(iM 132 12,true),(iM 133 17,false),(iK 134 35 133,true),(iK2 135 44 132 134,true),(iM 136 11,true),(iM 137 15,true),(iM 138 15,true),(iM 139 12,true),(iN 140 139,true),(iB 141 .add 138 140,true),(iC 142 .add 141 1,true),(iA 143 (.slice 1 (Tm 136) (some (Tm 137)) (some (Tm 142)) none),true),(iA 144 (.append 1 4 (.const .aB) (Tm 143)),true),(iK2 145 32 135 144,true),(iC 146 .gtr 145 0,false)]
def TM:Rg:=[iM 147 17,iA 148 (.bin .sub (Tm 147) (.const (.int .u64 1))),iM 17 148]
def tY:aC:=(.seq (dq TL (.cond (Tm 146) .skip (.exit 4))) (.block 5 (.region TM)))
def BU:Rg:=[iM 149 11,iM 150 15,iM 151 15,iM 152 12,iN 153 152,iB 154 .add 151 153,iC 155 .add 154 1,iA 156 (.slice 1 (Tm 149) (some (Tm 150)) (some (Tm 155)) none),iA 157 (.append 1 4 (.const .aB) (Tm 156)),iM 158 12,iM 159 17,iK 160 35 159,iK2 161 44 158 160,iK2 162 42 157 161,iM 18 162]
def BV:Rg:=[iI 19 0]
def TN:Rg:=[iM 163 19,iM 164 12,iN 165 164,iB 166 .leq 163 165]
def TO:Rg:=[iM 169 11,iM 170 15,iM 171 19,iB 172 .add 170 171,iX 173 1 169 172,⟨none,.store 1 (Tm 173) (.const (.int .u32 0)),none⟩]
def TP:Rg:=[iM 174 19,iM 175 18,iN 176 175,iB 177 .lss 174 176]
def TQ:Rg:=[iM 178 11,iM 179 15,iM 180 19,iB 181 .add 179 180,iM 182 18,iM 183 19,iX 184 1 182 183,iL 185 184,iX 186 1 178 181,iS 1 186 185]
def BW:Rg:=[iM 167 19,iC 168 .add 167 1,iM 19 168]
def tZ:aC:=(.seq (sq TN (.cond (Tm 166) .skip (.exit 6))) (.seq (.block 7 (sq TO (sq TP (.cond (Tm 177) (.region TQ) .skip)))) (.region BW)))
def BY:Rg:=[iM 187 14,iM 188 15,iM 189 17,iA 190 (.conv .u32 (Tm 189)),iX 191 1 187 188,iS 1 191 190]
def BZ:Rg:=[iM 106 15,iC 107 .sub 106 1,iM 15 107]
def uA:aC:=(.seq (sq TG (.cond (Tm 105) .skip (.exit 2))) (.seq (.block 3 (dq TH (sq TI (.seq (sq TJ (.cond (Tm 131) (.region TK) .skip)) (.seq (.block 4 (.loop tY)) (sq BU (.seq (sq BV (.block 6 (.loop tZ))) (.region BY)))))))) (.region BZ)))
def CA:Rg:=[iM 192 14,iK 193 38 192,iM 194 11,iK 195 38 194,iM 196 10,iK2 197 40 195 196,iM 4 193,iM 5 197]
def yH:aC:=(sq iw (.seq (sq ix (.cond (Tm 23) (sq iy .ret) .skip)) (.seq (sq iz (.cond (Tm 28) (sq IN (sq IP (.seq (sq IQ (.block 0 (.loop BO))) (sq BP .ret)))) .skip)) (sq TE (sq TF (sq BQ (sq BR (sq BS (.seq (sq BT (.block 2 (.loop uA))) (sq CA .ret))))))))))
def adY:List Nat:=[76]
def RD:aR:=⟨2,198,yH,[.tmp 4,.tmp 5]⟩
def V0:Rg:=[iZ 4,iZ 5,iI 6 0]
def V1:Rg:=[iM 9 0,iK 10 41 9,iM 11 10,gM 12 1 11 false,gK 13 41 12 11 false,iQ 14 11 13]
def m8:Rg:=[iZ 4,iZ 5,iI 6 2]
def V2:Rg:=[iM 15 1,iK 16 38 15,iN 17 16,iC 18 .eql 17 0]
def V3:Rg:=[iZ 4,iZ 5,iI 6 3]
def V4:Rg:=[iM 20 0,iK 21 38 20,iM 22 1,iK 23 38 22,iK2 24 39 21 23,iM 19 24,iE 25 19 0,iE 26 19 1,iM 7 25,iM 8 26]
def V5:Rg:=[iM 27 7,iM 28 8,iM 4 27,iM 5 28,iI 6 0]
def PA:aC:=(sq V0 (.seq (sq V1 (.cond (Tm 14) (sq m8 .ret) .skip)) (.seq (sq V2 (.cond (Tm 18) (sq V3 .ret) .skip)) (sq V4 (sq V5 .ret)))))
def aLQ:List Nat:=[]
def udiv:aR:=⟨2,29,PA,[.tmp 4,.tmp 5,.tmp 6]⟩
def V8:Rg:=[iZ 4,iI 5 0]
def V9:Rg:=[iM 10 0,iK 11 41 10,iM 12 11,gM 13 1 12 false,gK 14 41 13 12 false,iQ 15 12 14]
def m9:Rg:=[iZ 4,iI 5 2]
def Wa:Rg:=[iM 16 0,iK 17 38 16,iM 18 1,iK 19 38 18,iM 6 17,iM 7 19]
def Wb:Rg:=[iM 20 7,iN 21 20,iC 22 .gtr 21 0]
def Wc:Rg:=[iM 24 6,iM 25 7,iK2 26 39 24 25,iM 23 26,iE 27 23 0,iE 28 23 1,iM 8 27,iM 9 28]
def Wd:Rg:=[iM 29 7,iM 30 9,iM 6 29,iM 7 30]
def V6:aC:=(.seq (sq Wb (.cond (Tm 22) .skip (.exit 0))) (.block 1 (sq Wc (.region Wd))))
def We:Rg:=[iM 31 6,iM 4 31,iI 5 0]
def PD:aC:=(sq V8 (.seq (sq V9 (.cond (Tm 15) (sq m9 .ret) .skip)) (sq Wa (.seq (.block 0 (.loop V6)) (sq We .ret)))))
def aLR:List Nat:=[]
def adZ:aR:=⟨2,32,PD,[.tmp 4,.tmp 5]⟩
def jm:Rg:=[iA 6 (.alloc [zB,.aB,.aB])]
def jn:Rg:=[iM 9 1,iK 10 38 9,iM 11 2,iK 12 38 11,iM 1 10,iM 2 12]
def jo:Rg:=[iM 13 1,iN 14 13,iC 15 .eql 14 0]
def jp:Rg:=[iA 16 (.a0F true 1 1 [(.int .u32 0)] [(0,(.const (.int .u32 1)))]),iA 17 (.build [zB,.aB,.aB] [(2,1,(Tm 16))]),iS 3 6 17]
def jr:Rg:=[iM 19 1,iM 20 2,iK2 21 34 19 20,iM 18 21,iE 22 18 0,iE 23 18 1,iM 7 22,iM 8 23]
def js:Rg:=[iM 24 7,iN 25 24,iC 26 .gtr 25 1,iM 27 26,gM 28 7 27 false,iG 29 (.a0Q 1 (Tm 28) (Ci 0)) 27 false,gL 30 29 27 false,iG 31 (.bin .gtr (Tm 30) (.const (.int .u32 1))) 27 false,iQ 32 27 31]
def JF:Rg:=[iM 34 1,iM 35 7,iK2 36 33 34 35,iM 33 36,iE 37 33 0,iE 38 33 1,iE 39 33 2,iM 1 37]
def JG:Rg:=[iM 41 2,iM 42 7,iK2 43 33 41 42,iM 40 43,iE 44 40 0,iE 45 40 1,iE 46 40 2,iM 2 44]
def wL:Rg:=[iM 47 0,iM 48 1,iM 49 2,iA 50 (.build [zB,.aB,.aB] [(0,1,(Tm 47)),(1,1,(Tm 48)),(2,1,(Tm 49))]),iS 3 6 50]
def yJ:aC:=(sq jm (sq jn (.seq (sq jo (.cond (Tm 15) (sq jp .ret) .skip)) (.seq (sq jr (sq js (.cond (Tm 32) (sq JF (.region JG)) .skip))) (sq wL .ret)))))
def aeK:List Nat:=[16]
def RH:aR:=⟨3,51,yJ,[.cell 6 (some 3)]⟩
def Mf:Rg:=[iA 2 (.mv (.const (.int .u64 0)))]
def Mg:Rg:=[iM 3 0,iC 4 .lss 3 0]
def Mh:Rg:=[iM 5 0,iC 6 .add 5 1,iA 7 (.un .neg (Tm 6)),iA 8 (.conv .u64 (Tm 7)),iA 9 (.bin .add (Tm 8) (.const (.int .u64 1))),iM 2 9]
def Mi:Rg:=[iM 10 0,iA 11 (.conv .u64 (Tm 10)),iM 2 11]
def JK:aC:=(sq Mf (.seq (sq Mg (.cond (Tm 4) (sq Mh .ret) .skip)) (sq Mi .ret)))
def aEI:List Nat:=[]
def Ab:aR:=⟨1,12,JK,[.tmp 2]⟩
def L4:Rg:=[iA 4 (.alloc [zB,.aB,.aB]),iI 5 0]
def L5:Rg:=[iM 6 1,iC 7 .eql 6 0]
def L6:Rg:=[iA 8 (.build [zB,.aB,.aB] []),iS 3 4 8,iI 5 3]
def L7:Rg:=[iM 9 0,iC 10 .lss 9 0,iM 11 1,iC 12 .lss 11 0,iA 13 (.eqb true (Tm 10) (Tm 12)),iM 14 0,iK 15 59 14,iK 16 35 15,iM 17 1,iK 18 59 17,iK 19 35 18,iA 20 (.call 58 [(Tm 13),(Tm 16),(Tm 19)]),iS 3 4 20,iI 5 0]
def JH:aC:=(sq L4 (.seq (sq L5 (.cond (Tm 7) (sq L6 .ret) .skip)) (sq L7 .ret)))
def aEE:List Nat:=[]
def jt:aR:=⟨2,21,JH,[.cell 4 (some 3),.tmp 5]⟩
def W7:Rg:=[iA 2 (.alloc [zB,.aB,.aB])]
def W8:Rg:=[iM 6 0,iA 7 (.call 50 [(Tm 6),(Ci 1)]),iM 5 7,iE 8 5 0,iE 9 5 1,iA 3 (.alloc [zB,.aB,.aB]),iS 3 3 8,iM 4 9]
def W9:Rg:=[iO 10 3 3,iS 3 2 10]
def PS:aC:=(sq W7 (sq W8 (sq W9 .ret)))
def aLX:List Nat:=[]
def aeJ:aR:=⟨1,11,PS,[.cell 2 (some 3)]⟩
def utF (xs:List Nat) (n:Nat):PF:=((PF.nil.set 0 (aG xs)).set 3 (.int .i64 n))
theorem Lh {C:Ctx} (xs:List Nat) (M:Lim xs) (N:xs.length≤35184372087808):JB.wp C (aX zq.res (nO 1 (aI (aE (val xs))))) (PF.args [aG xs]) .nil:=by
 simp only[go_sem,JB,Li,Lj,zq,a1K];refine wp_loop (α:=Nat) (fun n=>utF xs n) (fun _=>.nil) (fun n=>n≤xs.length∧∀ j x,n≤j→xs[j]?=some x→x=0) (fun n=>n) xs.length ⟨a1O _,fun j x w d=>?_⟩ ?_ a_ ?_
 ·rw[a2Z w] at d; cases d
 ·unfold utF;exact Lq
 rintro n ⟨J,B⟩;have done:(0<n→∀ h:n-1<xs.length,xs[n-1]≠0)→∀ F:PF,(utF xs n).le F→aC.wp C (.seq (.region XR) .ret) (aX [.tmp 2] (nO 1 (aI (aE (val xs))))) F .nil:=by
  intro h F u;have f0:F 0=some (aG xs):=u 0 _ (by unfold utF; simp only[go_sem]);have E:F 3=some (.int .i64 n):=u 3 _ (by unfold utF; simp only[go_sem]);have y:xs.take n=aE (val xs):=IL M J B fun x l d=>by
   rw[a1V Om] at d;injection d with d
   subst d;exact h l Om
  have H:((n:Nat):Int)≤(xs.length:Nat):=Om;simp only[go_sem,XR,f0,E,a1K,H,or_true,a2S];refine gT (rows:=[]) (src:=aI (aE (val xs))) .nil ?_ ?_ fun v H' K _=>?_
  ·simp only[go_sem];rw[← y,← List.map_take]
  ·unfold roomFor;rw[bU,← y,a2A];simp only[a3Z,maxLen];omega
  ·exact ig (.inr rfl) (by simpa using K) rfl
 simp only[aC.wp,go_sem] at done;simp only[go_sem,Lg,Lk,utF];by_cases l:0<n
 ·have i:((n:Nat):Int)>0:=Om;have hlt:n-1<xs.length:=Om;have p:=bL xs hlt;have A:IntKind.i64.wrap ((n:Int)-1)=((n-1:Nat):Int):=uV Om l;simp only[go_sem,i,A,p];by_cases c:xs[n-1]=0
  ·simp only[go_sem,bN (Om:((xs[n-1]:Nat):Int)=0),Ll,A];refine aK (n-1) ⟨by omega,fun j x w d=>?_⟩ Om ?_ a_
   ·by_cases e:j=n-1
    ·subst e;rw[a1V hlt] at d;injection d with d
     omega
    ·exact B j x Om d
   ·exact Lq
  ·simp only[go_sem,bF (Om:((xs[n-1]:Nat):Int)≠0)];exact done (fun _ _=>c) _ (by unfold utF; exact Lq)
 ·have i:¬ ((n:Nat):Int)>0:=Om;simp only[go_sem,i];exact done (fun h=>absurd h l) _ (by unfold utF; exact Lq)
structure mS (C:Ctx):Prop where
 trimM:∀ xs,Lim xs→xs.length≤35184372087808→aF C 38 [aG xs] .nil (nO 1 (aI (aE (val xs))))
theorem mS.trim {C:Ctx} (L:mS C) (xs:List Nat) (d:Lim xs) (c:xs.length≤35184372087808):aF C 38 [aG xs] .nil (aH (aG (aE (val xs)))):=(L.trimM xs d c).freeze
theorem K3 {C:Ctx} (L:mS C) (v:Nat) (A:v<18446744073709551616):IS.wp C (aX zo.res (cD (aG (aE v)))) (PF.args [.int .u64 v]) .nil:=by
 have p:IntKind.u32.wrap ((v:Nat):Int)=((v%4294967296:Nat):Int):=cF v;have e:v/4294967296<4294967296:=Om;have u:IntKind.u32.wrap ((v/4294967296:Nat):Int)=((v/4294967296:Nat):Int):=by rw[cF,a2U e]
 have w:Lim [v%4294967296,v/4294967296]:=by
  intro x l;simp only[a1R,List.mem_nil_iff,or_false] at l;rcases l with rfl | rfl
  ·exact a3C _ (by decide)
  ·exact e
 have c:val [v%4294967296,v/4294967296]=v:=by simp only[val,Nat.mul_zero,a3S]; exact Nat.mod_add_div v 4294967296
 have d:shift .shr .u64 (v:Int) 32=some (.int .u64 ((v/4294967296:Nat):Int)):=wH;have y:(2:Nat)*1≤16777216:=by decide
 simp only[go_sem,IS,K4,K5,zo,p,d,u,y];have i:=L.trim [v%4294967296,v/4294967296] w (by simp);rw[c] at i;refine aA i rfl ?_;simp only[go_sem];exact aZ (.inr rfl) .nil rfl a_ ⟨.refl _,rfl⟩
theorem wr {C:Ctx} (L:mS C) (xs:List Nat) (d:Lim xs) (c:xs.length≤35184372087808):CB.wp C (aX i7.res (cD (.bool (decide (nl (val xs)>512))))) (PF.args [aG xs]) .nil:=by
 simp only[go_sem,CB,wt,wu,i7];refine aA (L.trim xs d c) rfl ?_;simp only[go_sem,a1K,aW];refine bB rfl ?_;rw[decide_eq_decide];omega
theorem X9 {a b:Nat} (h:nl a<nl b):cU a b=-1:=by
 have:a<b:=by
  rcases a2D a b with h' | h'
  ·exact h'
  ·have:=fE h'; omega
 simp[cU,this]
theorem X8 {a b:Nat} (h:nl b<nl a):cU a b=1:=by
 have:b<a:=by
  rcases a2D b a with h' | h'
  ·exact h'
  ·have:=fE h'; omega
 have c:¬ a<b:=Om;simp[cU,this,c]
def adW (X Y:List Nat) (i:Int):PF:=(((PF.nil.set 0 (aG X)).set 1 (aG Y)).set 5 (.int .i64 i))
theorem Vn {C:Ctx} (L:mS C) (xs ys:List Nat) (w:Lim xs) (x:Lim ys) (Q:xs.length≤35184372087808) (R:ys.length≤35184372087808) :
  OZ.wp C (aX adV.res (aH (.int .i64 (cU (val xs) (val ys))))) (PF.args [aG xs,aG ys]) .nil:=by
 simp only[go_sem,OZ,Vo,Vp,adV];refine aA (L.trim xs w Q) Ev ?_;simp only[go_sem];refine aA (L.trim ys x R) Ev ?_;have S:=fG w;have B:=fG x;simp only[go_sem,Vq,a1K,aW];by_cases i:nl (val xs)≠nl (val ys)
 ·simp only[go_sem,dX (show ((nl (val xs):Nat):Int)≠(nl (val ys):Nat) by omega),Vs];by_cases E:nl (val xs)<nl (val ys)
  ·simp only[go_sem,a1K,aW,show ((nl (val xs):Nat):Int)<(nl (val ys):Nat) by omega,Vt];refine bE (.inr rfl) Ev ?_;rw[X9 E]; rfl
  ·simp only[go_sem,a1K,aW,show ¬ ((nl (val xs):Nat):Int)<(nl (val ys):Nat) by omega,Vu];refine bE (.inr rfl) Ev ?_;rw[X8 Om]; rfl
 replace i:=Decidable.of_not_not i;simp only[go_sem,bR (show ((nl (val xs):Nat):Int)=(nl (val ys):Nat) by omega),Vv,a1K,aW];have ex:=aT (val xs);have l:=aT (val ys);have y:=aU (val xs);have A:=aU (val ys);generalize K:aE (val xs)=X at *
 generalize M:aE (val ys)=Y at *
 have N:X.length=nl (val xs):=by rw[← K]; rfl
 have O:Y.length=nl (val xs):=by rw[i,← M]; rfl
 refine wp_loop (α:=Nat) (fun k=>adW X Y ((k:Int)-1)) (fun _=>.nil) (fun k=>k≤nl (val xs)∧X.drop k=Y.drop k) (fun k=>k) (nl (val xs)) ⟨a1O _,?_⟩ ?_ a_ ?_
 ·rw[a5C Om,a5C Om]
 ·unfold adW
  (repeat' (first|exact d_|refine c_ ?_ ?_))<;>first|(simp only[go_sem,wrap_i64 (show -9223372036854775808≤((nl (val xs):Nat):Int)-1 by omega) (show ((nl (val xs):Nat):Int)-1≤9223372036854775807 by omega)]<;>rfl)|rfl
 rintro k ⟨V,c⟩;simp only[go_sem,Kl,Vw,adW];by_cases U:0<k
 ·obtain⟨m,rfl⟩:∃ m,k=m+1:=⟨k-1,by omega⟩;have u:((m+1:Nat):Int)-1=(m:Int):=Om;have p:(m:Int)≥0:=Om;have d:m<X.length:=Om;have e:m<Y.length:=Om;simp only[go_sem,u,p];refine bX .nil eH a_ ?_;simp only[go_sem,Vx,bL X d,bL Y e];by_cases F:X[m]<Y[m]
  ·simp only[go_sem,show ((X[m]:Nat):Int)<(Y[m]:Nat) by omega,Vy];refine bE (.inr rfl) Ev ?_;have:=ZG y d e c F;rw[ex,l] at this;simp[cO,cU,this]
  ·simp only[go_sem,show ¬ ((X[m]:Nat):Int)<(Y[m]:Nat) by omega];refine bX .nil eH a_ ?_;simp only[go_sem,Km,bL X d,bL Y e];by_cases H:X[m]>Y[m]
   ·simp only[go_sem,show ((X[m]:Nat):Int)>(Y[m]:Nat) by omega,Ko];refine bE (.inr rfl) Ev ?_;have:=ZG A e d c.symm H;rw[ex,l] at this;have J:¬ val xs<val ys:=Om;simp[cO,cU,this,J]
   ·simp only[go_sem,show ¬ ((X[m]:Nat):Int)>(Y[m]:Nat) by omega,Kp];refine aK m ⟨by omega,qx d e c Om⟩ Om ?_ a_
    (repeat' (first|exact d_|refine c_ ?_ ?_))<;>first|(simp only[go_sem,wrap_i64 (Om:-9223372036854775808≤(m:Int)-1) (Om:(m:Int)-1≤9223372036854775807)]<;>rfl)|rfl
 ·have:k=0:=Om;subst this;have u:¬ ((0:Nat):Int)-1≥0:=by decide
  simp only[go_sem,u,Kq];refine bE (.inr rfl) Ev ?_;rw[a2S,a2S] at c;have:val xs=val ys:=by rw[← ex,← l,c]
  simp[cO,cU,this]
theorem zT (n:Nat):(((n:Nat):Int)==0)=decide (n=0):=by
 by_cases h:n=0
 ·subst h; rfl
 ·rw[bF Om,decide_eq_false h]
structure YD (C:Ctx):Prop extends mS C where
 make:∀ v:Nat,v<18446744073709551616→aF C 35 [.int .u64 v] .nil (aH (aG (aE v)))
 large:∀ xs,Lim xs→xs.length≤35184372087808→aF C 41 [aG xs] .nil (aH (.bool (decide (nl (val xs)>512))))
 cmp:∀ xs ys,Lim xs→Lim ys→xs.length≤35184372087808→ys.length≤35184372087808→aF C 32 [aG xs,aG ys] .nil (aH (.int .i64 (cU (val xs) (val ys))))
def aeA (a b:Nat):PF:=((PF.nil.set 6 (aG (aE a))).set 7 (aG (aE b)))
structure KC (C:Ctx):Prop extends YD C where
 divide:∀ A B:Nat,B≠0→nl A≤512→nl B≤512→aF C 39 [aG (aE A),aG (aE B)] .nil (aH (oJ A B))
def Yy (a b:Nat):PV:=if dT a b then .tup [aG [],.int .i64 2] else .tup [aG (aE (a1L a b)),.int .i64 0]
theorem V7 {C:Ctx} (L:KC C) (a b:List Nat) (l:Lim a) (p:Lim b) (w:a.length≤35184372087808) (A:b.length≤35184372087808) :
  PD.wp C (aX adZ.res (cD (Yy (val a) (val b)))) (PF.args [aG a,aG b]) .nil:=by
 unfold Yy;simp only[go_sem,PD,V8,V9,adZ];refine aA (L.large a l w) rfl ?_;by_cases c:nl (val a)>512
 ·simp only[go_sem,c,m9];rw[if_pos (by simp[dT,c])];exact eO rfl
 simp only[go_sem,c];refine aA (L.large b p A) rfl ?_;by_cases d:nl (val b)>512
 ·simp only[go_sem,d,m9];rw[if_pos (by simp[dT,d])];exact eO rfl
 rw[if_neg (by simp[dT,c,d])];simp only[go_sem,d,Wa];refine aA (L.trim a l w) rfl ?_;simp only[go_sem];refine aA (L.trim b p A) rfl ?_;simp only[go_sem];refine wp_loop (α:=Nat × Nat) (fun t=>aeA t.1 t.2) (fun _=>.nil) (fun t=>a1L t.1 t.2=a1L (val a) (val b)∧nl t.1≤512∧nl t.2≤512) (fun t=>t.2) (val a,val b) ⟨rfl,by simp only; omega,by simp only; omega⟩ ?_ a_ ?_
 ·unfold aeA;exact Lq
 rintro⟨x,y⟩ ⟨i,B,u⟩;simp only at i B u;simp only[go_sem,V6,Wb,aeA,aW];by_cases e:y=0
 ·subst e;have:¬ ((nl 0:Nat):Int)>0:=by rw[wW]; decide
  simp only[go_sem,this,We];refine aZ (vs:=[aG (aE x),.int .i64 0]) (.inr rfl) .nil rfl a_ ⟨?_,rfl⟩;rw[← i,Nat.gcd_zero_right];exact .refl _
 ·have E:nl y≠0:=fun h=>e (gE.1 h);have:((nl y:Nat):Int)>0:=Om;simp only[go_sem,this,Wc];refine aA (L.divide x y e Om Om) rfl ?_;simp only[go_sem,oJ,Wd];have hlt:x%y<y:=a3C _ (a4A e);refine aK (y,x%y) ⟨?_,u,?_⟩ hlt ?_ a_
  ·simp only;rw[← i,Nat.gcd_comm y,← Nat.gcd_rec y x,Nat.gcd_comm]
  ·have:=fE (Nat.le_of_lt hlt);simp only; omega
  ·exact Lq
theorem Vz {C:Ctx} (L:KC C) (a b:List Nat) (p:Lim a) (i:Lim b) (u:a.length≤35184372087808) (l:b.length≤35184372087808) :
  PA.wp C (aX udiv.res (cD (mD (val a) (val b)))) (PF.args [aG a,aG b]) .nil:=by
 unfold mD;simp only[go_sem,PA,V0,V1,udiv];refine aA (L.large a p u) rfl ?_;by_cases d:nl (val a)>512
 ·simp only[go_sem,d,m8];rw[if_pos (by simp[dT,d])];exact rA rfl
 simp only[go_sem,d];refine aA (L.large b i l) rfl ?_;by_cases e:nl (val b)>512
 ·simp only[go_sem,e,m8];rw[if_pos (by simp[dT,e])];exact rA rfl
 rw[if_neg (by simp[dT,d,e])];simp only[go_sem,e,V2];refine aA (L.trim b i l) rfl ?_;simp only[go_sem,a1K,aW,zT,gE];by_cases c:val b=0
 ·rw[if_pos c];simp only[go_sem,decide_eq_true c,V3];exact rA rfl
 rw[if_neg c];simp only[go_sem,decide_eq_false c,V4];refine aA (L.trim a p u) rfl ?_;simp only[go_sem];refine aA (L.trim b i l) rfl ?_;simp only[go_sem];refine aA (L.divide (val a) (val b) c Om Om) rfl ?_;simp only[go_sem,oJ,V5];exact aZ (.inr rfl) .nil rfl a_ ⟨.refl _,rfl⟩
def lF (neg:Bool) (a b:Nat):FV:=(neg&&decide (a/a1L a b≠0),a/a1L a b,b/a1L a b)
structure YE (C:Ctx):Prop extends KC C where
 gcd:∀ a b,Lim a→Lim b→a.length≤35184372087808→b.length≤35184372087808→aF C 34 [aG a,aG b] .nil (aH (Yy (val a) (val b)))
 div:∀ a b,Lim a→Lim b→a.length≤35184372087808→b.length≤35184372087808→aF C 33 [aG a,aG b] .nil (aH (mD (val a) (val b)))
theorem sD {n:Nat} (h:nl n≤512):(aE n).length≤35184372087808:=by rw[aW]; omega
theorem mQ:aE 1=[1]:=nI (by decide) (by decide)
theorem cq {n:Nat} (h:n≠0):aE n=n%4294967296::aE (n/4294967296):=qZ h
theorem xP {n:Nat} (h:n≠0):(nl n>1∨n%4294967296>1)↔n≠1:=by
 constructor
 ·rintro h1 rfl;rcases h1 with h1 | h1
  ·rw[nl,mQ] at h1; simp at h1
  ·omega
 ·intro h1;by_cases c:nl n>1
  ·exact .inl c
  ·have:n<4294967296 ^ 1:=(iJ n 1).1 Om;rw[Nat.pow_one] at this;rw[a2U this];exact .inr Om
theorem jl {C:Ctx} (L:YE C) (neg:Bool) (a b:List Nat) (V:Lim a) (W:Lim b) (Z:a.length≤35184372087808) (lb:b.length≤35184372087808) (w:nl (val a)≤512) (p:nl (val b)≤512) (A:val b≠0) :
  yJ.wp C (aX RH.res (cD (.agg (lF neg (val a) (val b)).rf.cells))) (PF.args [.bool neg,aG a,aG b]) .nil:=by
 have c:a1L (val a) (val b)≠0:=fun h=>A (Nat.eq_zero_of_gcd_eq_zero_right h);have J:a1L (val a) (val b)≤val b:=Nat.gcd_le_right _ (a4A A);have N:nl (a1L (val a) (val b))≤512:=a2X (fE J) p;have K:dT (val a) (val b)=false:=gV w p;simp only[go_sem,yJ,jm,jn,RH];refine aQ fun o ho=>?_;simp only[go_sem];refine aA (L.trim a V Z) rfl ?_;simp only[go_sem];refine aA (L.trim b W lb) rfl ?_;simp only[go_sem,jo,a1K,aW,zT,gE];by_cases u:val a=0
 ·simp only[go_sem,decide_eq_true u,jp];have e:(lF neg (val a) (val b)).rf=⟨false,[],[1]⟩:=by rw[u];unfold lF FV.rf;simp[dO,Nat.div_self (a4A A),mQ]
  rw[e];refine aZ (vs:=[.agg [.bool false,.aB,aG [1]]]) (.inr rfl) .nil ?_ a_ ⟨show Co (.agg _) (.agg _) from CoL.agg (CoL.cons (.refl _) (CoL.cons (.nil 1) (CoL.cons (.refl _) .nil))),rfl⟩;simp only[go_sem];rfl
 have d:=L.gcd (aE (val a)) (aE (val b)) (aU _) (aU _) (sD w) (sD p);rw[aT,aT,Yy,K] at d;simp only[go_sem,decide_eq_false u,jr];refine aA d rfl ?_;have fin:∀ x y:Nat,x=val a/a1L (val a) (val b)→y=val b/a1L (val a) (val b)→∀ (F:PF) (H:PH),F 0=some (.bool neg)→F 1=some (aG (aE x))→F 2=some (aG (aE y))→F 6=some (.ptr o 3 0 0)→H o=some (.rows 3 [[.bool false,.aB,.aB]]) →
   aC.wp C (.seq (.region wL) .ret) (aX [.cell 6 (some 3)] (cD (.agg (lF neg (val a) (val b)).rf.cells))) F H:=by
  intro x y M Y F H f0 f1 f2 f6 B;subst M; subst Y;simp only[go_sem,wL,f0,f1,f2,f6,B];have X:val a/a1L (val a) (val b)≠0:=by have:=Nat.div_pos (Nat.gcd_le_left (val b) (a4A u)) (a4A c);omega
  have e:(lF neg (val a) (val b)).rf=⟨neg,aE (val a/a1L (val a) (val b)),aE (val b/a1L (val a) (val b))⟩:=by unfold lF FV.rf;simp only[X,ne_eq,not_false_eq_true,decide_true,a4B]
  rw[e];refine aZ (vs:=[.agg (dN neg (aE (val a/a1L (val a) (val b))) (aE (val b/a1L (val a) (val b))))]) (.inr rfl) .nil ?_ a_ ⟨.refl _,rfl⟩;simp only[go_sem,f6]
 simp only[aC.wp,go_sem] at fin;have E:=fun x (M:nl x≤512)=>L.div (aE x) (aE (a1L (val a) (val b))) (aU _) (aU _) (sD M) (sD N);simp only[aT,mD] at E;have tail:a1L (val a) (val b)≠1→∀ (F:PF) (H:PH),F 0=some (.bool neg)→F 1=some (aG (aE (val a)))→F 2=some (aG (aE (val b)))→F 6=some (.ptr o 3 0 0)→F 7=some (aG (aE (a1L (val a) (val b))))→H o=some (.rows 3 [[.bool false,.aB,.aB]]) →
   aC.wp C (.seq (.seq (.region JF) (.region JG)) (.seq (.region wL) .ret)) (aX [.cell 6 (some 3)] (cD (.agg (lF neg (val a) (val b)).rf.cells))) F H:=by
  intro _ F H f0 f1 f2 f6 f7 B;have R:=E (val a) w;have S:=E (val b) p;rw[gV w N,if_neg c] at R;rw[gV p N,if_neg c] at S;simp only[go_sem,JF,f1,f7];refine aA R rfl ?_;simp only[go_sem,a4K,JG,f2,f7];refine aA S rfl ?_;simp only[go_sem,a4K];exact fin _ _ rfl rfl _ _ (by simp only[go_sem,f0]) rfl rfl (by simp only[go_sem,f6]) B
 simp only[aC.wp,go_sem] at tail;simp only[go_sem,a4K,js,a1K,aW];by_cases O:nl (a1L (val a) (val b))>1
 ·have i:((nl (a1L (val a) (val b)):Nat):Int)>1:=Om;simp only[go_sem,i];exact tail ((xP c).1 (.inl O)) _ _ rfl rfl rfl rfl rfl Sq
 ·have i:¬ ((nl (a1L (val a) (val b)):Nat):Int)>1:=Om;simp only[go_sem,i,cq c];by_cases Q:a1L (val a) (val b)%4294967296>1
  ·have l:((a1L (val a) (val b)%4294967296:Nat):Int)>1:=Om;simp only[go_sem,l];exact tail ((xP c).1 (.inr Q)) _ _ rfl rfl rfl rfl (by simp only[go_sem,cq c]) Sq
  ·have l:¬ ((a1L (val a) (val b)%4294967296:Nat):Int)>1:=Om;have U:a1L (val a) (val b)=1:=by
    rcases Decidable.em (a1L (val a) (val b)=1) with h | h
    ·exact h
    ·rcases (xP c).2 h with h | h
     ·exact absurd h O
     ·exact absurd h Q
   simp only[go_sem,l];exact fin (val a) (val b) (by rw[U,Nat.div_one]) (by rw[U,Nat.div_one]) _ _ rfl rfl rfl rfl Sq
theorem Me {C:Ctx} (v:Int) (p:-9223372036854775808≤v) (u:v≤9223372036854775807) :
  JK.wp C (aX Ab.res (aH (.int .u64 (v.natAbs:Nat)))) (PF.args [.int .i64 v]) .nil:=by
 simp only[go_sem,JK,Mf,Mg,Ab];by_cases c:v<0
 ·have d:IntKind.i64.wrap (v+1)=v+1:=wrap_i64 Om Om;have i:IntKind.i64.wrap (0-(v+1))=-(v+1):=by rw[wrap_i64 Om Om]; omega
  have l:IntKind.u64.wrap (IntKind.u64.wrap (-(v+1))+1)=(v.natAbs:Int):=by rw[fO,fO]; omega
  simp only[go_sem,c,Mh,d,i,l];refine bE (.inr rfl) rfl ?_;rfl
 ·have e:IntKind.u64.wrap v=(v.natAbs:Int):=by rw[fO]; omega
  simp only[go_sem,c,Mi,e];refine bE (.inr rfl) rfl ?_;rfl
structure yy (C:Ctx):Prop extends YE C where
 lowest:∀ neg a b,Lim a→Lim b→a.length≤35184372087808→b.length≤35184372087808→nl (val a)≤512→nl (val b)≤512→val b≠0→aF C 58 [.bool neg,aG a,aG b] .nil (aH (.agg (lF neg (val a) (val b)).rf.cells))
 size:∀ v:Int,cL v→aF C 59 [.int .i64 v] .nil (aH (.int .u64 (v.natAbs:Nat)))
def mkT (n d:Int):RF:=(lF (decide (n<0) != decide (d<0)) n.natAbs d.natAbs).rf
def uS (n d:Int):PV:=if d=0 then yY 3 else .tup [.agg (mkT n d).cells,.int .i64 0]
theorem L3 {C:Ctx} (L:yy C) (n d:Int) (e:cL n) (i:cL d) :
  JH.wp C (aX jt.res (cD (uS n d))) (PF.args [.int .i64 n,.int .i64 d]) .nil:=by
 simp only[go_sem,JH,L4,L5];refine aQ fun o l=>?_;unfold uS;by_cases c:d=0
 ·subst c;simp only[go_sem,L6];refine iY ?_;simp only[go_sem,jt]
 ·rw[if_neg c];simp only[go_sem,bF c,L7];refine aA (L.size n e) rfl ?_;simp only[go_sem];refine aA (L.make n.natAbs Om) rfl ?_;simp only[go_sem];refine aA (L.size d i) rfl ?_;simp only[go_sem];refine aA (L.make d.natAbs Om) rfl ?_;simp only[go_sem];have p:nl n.natAbs≤2:=jB Om;have u:nl d.natAbs≤2:=jB Om;have low:=L.lowest (decide (n<0) != decide (d<0)) (aE n.natAbs) (aE d.natAbs) (aU _) (aU _) (by rw[aW]; omega) (by rw[aW]; omega);rw[aT,aT] at low;have low:=low Om Om Om;refine aA low rfl ?_;simp only[go_sem];exact aZ (.inr rfl) .nil (vs:=[.agg (mkT n d).cells,.int .i64 0]) (by simp only[go_sem,jt]; rfl) a_ ⟨.refl _,rfl⟩
structure KD (C:Ctx):Prop extends yy C where
 fmk:∀ n d:Int,cL n→cL d→aF C 50 [.int .i64 n,.int .i64 d] .nil (aH (uS n d))
theorem DK {C:Ctx} (L:KD C) (n:Int) (i:cL n) :
  PS.wp C (aX aeJ.res (cD (.agg (mkT n 1).cells))) (PF.args [.int .i64 n]) .nil:=by
 simp only[go_sem,PS,W7,W8,aeJ];refine aQ fun o l=>?_;simp only[go_sem];refine aA (L.fmk n 1 i (by unfold cL; omega)) rfl ?_;unfold uS;rw[if_neg (by decide)];simp only[go_sem];refine aQ fun p e=>?_;have c:o≠p:=by rintro rfl;simp only[aV,if_true] at e;cases e
 have d:p≠o:=fun h=>c h.symm;simp only[go_sem,c,W9];refine aZ (vs:=[.agg (mkT n 1).cells]) (.inr rfl) .nil ?_ a_ ⟨.refl _,rfl⟩;simp only[go_sem,d]
def aD (l:List Nat) (n a:Nat):Nat × Nat:=if l.length≤a∨n<2 then (0,a) else (l.getD a 0%n,a+1)
theorem cE (l:List Nat) {n:Nat} (h:0<n) (a:Nat):(aD l n a).1<n:=by
 unfold aD;split
 ·exact h
 ·exact a3C _ h
theorem bK (l:List Nat) (n:Nat) {a:Nat} (h:a≤l.length):(aD l n a).2≤l.length:=by
 unfold aD;split
 ·exact h
 ·simp only; omega
def fB (l:List Nat) (a:Nat):RF × Nat :=
 let x:=aD l 6 a
 let y:=aD l 8 x.2
 (mkT ((1+x.1:Nat):Int) ((1+y.1:Nat):Int),y.2)
abbrev jJ:RF:=mkT 0 1
def hZ (l:List Nat) (i j a:Nat):RF × Nat :=
 if j=i+1 then fB l a
 else if j=i then (jJ,a)
 else let t:=aD l 3 a
  if t.1=0 then fB l t.2 else (jJ,t.2)
def dL (l:List Nat) (i a:Nat):Nat→List RF × Nat
 | 0=>([],a)
 | j+1=>let s:=dL l i a j
  let z:=hZ l i j s.2
  (s.1++[z.1],z.2)
structure zZ where
 start:List RF
 exit:List RF
 a0E:List (List RF)
 left:Nat
 a:Nat
def dK (l:List Nat) (n i:Nat) (s:zZ):Nat × Nat:=if i+1<n then aD l (s.left+1) s.a else (s.left,s.a)
def eR (l:List Nat) (n i a:Nat):RF × Nat :=
 let e:=fB l a
 if i+1<n then (let t:=aD l 3 e.2; (if t.1=0 then jJ else e.1,t.2)) else e
def fM (l:List Nat) (n a:Nat):Nat→zZ
 | 0=>⟨[],[],[],8,a⟩
 | i+1=>let s:=fM l n a i
  let k:=dK l n i s
  let e:=eR l n i k.2
  let r:=dL l i e.2 n
  ⟨s.start++[mkT (k.1:Nat) 8],s.exit++[e.1],s.a0E++[r.1],s.left-k.1,r.2⟩
def pN (l:List Nat) (dY a:Nat):cS × Nat :=
 let t:=aD l dY a
 let s:=fM l (1+t.1) t.2 (1+t.1)
 (⟨[],s.start,s.a0E,s.exit⟩,s.a)
def jQ (l:List Nat) (a:Nat):Nat→List RF × Nat
 | 0=>([],a)
 | k+1=>let s:=jQ l a k
  let z:=fB l s.2
  (s.1++[z.1],z.2)
abbrev bT (n:Nat):List UInt8:=Lib.decDigits n
def fZ (l:List Nat) (a:Nat):Nat→List cS × Nat
 | 0=>([],a)
 | k+1=>let s:=fZ l a k
  let z:=pN l 2 s.2
  (s.1++[{ z.1 with name:=[108,97,119]++bT k }],z.2)
def eG (l:List Nat) (a0G a:Nat):Nat→List dP × Nat
 | 0=>([],a)
 | k+1=>let s:=eG l a0G a k
  let x:=aD l 4 s.2
  let y:=aD l 8 x.2
  let z:=aD l a0G y.2
  (s.1++[⟨[109]++bT k,(1+x.1:Nat),(1+y.1:Nat),(z.1:Nat)⟩],z.2)
structure GS where
 a0I:List cN
 a0S:List cZ
 a:Nat
def iH (l:List Nat) (mc aZZ domain:Nat) (s:GS):Nat→GS
 | 0=>s
 | i+1=>let s:=iH l mc aZZ domain s i
  if s.a0S.length<aZZ then
   let t:=aD l mc s.a
   { s with a0S:=s.a0S++[⟨[100]++bT s.a0S.length,(t.1:Nat),(domain:Nat)⟩],a:=t.2 }
  else s
def kN (level:Nat):UInt8:=match level with
 | 0=>45
 | 1=>115
 | 2=>114
 | 3=>107
 | _=>109
def kG (l:List Nat) (level domain:Nat) (s:GS):GS :=
 let u:=aD l 16 s.a
 let t:=aD l 3 u.2
 let k:=aD l 6 t.2
 let sh:RF × Nat:=if t.1=0 then (mkT 1 ((2+k.1:Nat):Int),k.2) else (jJ,t.2)
 { s with a0I:=s.a0I++[⟨[kN level]++bT s.a0I.length,(level:Nat),(domain:Nat),(1+u.1:Nat),sh.1⟩],a:=sh.2 }
def pC (aZZ:Nat) (s:GS):Bool:=decide (aZZ≤s.a0S.length)||decide (35≤s.a0I.length)
def fC (l:List Nat) (level aZZ domain:Nat) (rec:Nat→GS→GS) (s:GS):Nat→GS
 | 0=>s
 | i+1=>let s:=fC l level aZZ domain rec s i
  if pC aZZ s then s else (let s':=kG l level domain s; rec (s'.a0I.length-1) s')
def eF (l:List Nat) (mc aZZ:Nat):Nat→Nat→GS→GS
 | 0,domain,s=>let t:=aD l 2 s.a
  iH l mc aZZ domain { s with a:=t.2 } (1+t.1)
 | k+1,domain,s=>let t:=aD l 2 s.a
  fC l (4-k) aZZ domain (eF l mc aZZ k) { s with a:=t.2 } (if 4-k=2 then 1 else 1+t.1)
def jU:cN:=⟨[],0,-1,0,jJ⟩
def gG (l:List Nat) (a:Nat):Int × Nat :=
 let t:=aD l 3 a
 let k:=aD l 3 t.2
 if t.1=0 then ((1+k.1:Nat),k.2) else (0,t.2)
def lI (l:List Nat) (a0A i a:Nat):cB × Nat :=
 let k:=aD l 2 a
 let m:=aD l 3 k.2
 let h:=aD l 4 m.2
 let q:=aD l (m.1+1) h.2
 let r:=jQ l q.2 (max m.1 1)
 let g:=aD l 9 r.2
 let s1:=gG l g.2
 let s2:=gG l s1.2
 let s3:=gG l s2.2
 let s4:=gG l s3.2
 let f:=aD l a0A s4.2
 let b:=aD l 2 f.2
 let ms:List Int × Nat:=if 1<a0A then (if b.1=0 then ([(f.1:Int),1-(f.1:Int)],b.2) else ([(f.1:Int)],b.2)) else ([(f.1:Int)],f.2)
 (⟨[112]++bT i,(1+k.1:Nat),(m.1:Nat),(1+k.1+q.1:Nat),0,s1.1,s2.1,s3.1,s4.1,ms.1,r.1,mkT (g.1:Nat) 8,mkT ((1+h.1:Nat):Int) 1⟩,ms.2)
def dB (l:List Nat) (a0A a:Nat):Nat→List cB × Nat
 | 0=>([],a)
 | k+1=>let s:=dB l a0A a k
  let z:=lI l a0A k s.2
  (s.1++[z.1],z.2)
def eJ (l:List Nat) (pols a:Nat):Nat→List iU × Nat
 | 0=>([],a)
 | k+1=>let s:=eJ l pols a k
  let z:=aD l pols s.2
  (s.1++[⟨[118]++bT k,(z.1:Nat)⟩],z.2)
def fL (l:List Nat) (aZZ a0B a:Nat):aJ × Nat :=
 let e:=aD l 2 a
 let d:=aD l 2 e.2
 let a0G:=fZ l d.2 (1+d.1)
 let c:=aD l 2 a0G.2
 let a0A:=eG l (1+d.1) c.2 (1+c.1)
 let g:=eF l (1+c.1) aZZ 4 0 ⟨[jU],[],a0A.2⟩
 let pl:=aD l 2 g.a
 let pols:=dB l (1+c.1) pl.2 (1+pl.1)
 let i:=aD l (a0B+1) pols.2
 let vols:=eJ l (1+pl.1) i.2 i.1
 (⟨(1+e.1:Nat),a0G.1,a0A.1,g.a0I,g.a0S,pols.1,vols.1⟩,vols.2)
abbrev jW (l:List Nat):List (List PV):=l.map fun (n:Nat)=>[PV.int .u8 (n:Int)]
theorem PN (l:List Nat):(jW l).length=l.length:=by simp
theorem aDY (l:List Nat) {i:Nat} (h:i<l.length):(jW l)[i]?=some [.int .u8 (l[i]:Nat)]:=by simp[h]
abbrev bJ (v:PV) (a:Nat):bY:=.rows 2 [[v,.int .i64 a]]
structure Tp (l:List Nat) (v:PV):Prop where
 seen:Seen 1 v (jW l)
 byte:∀ x∈l,x<256
 len:l.length≤400
def Xl (l:List Nat) (r:PV) (H:PH):Prop:=∃ o v,r=.ptr o 2 0 0∧Tp (l.take 400) v∧H=PH.nil.set o (bJ v 0)
theorem yl {t q s:Nat} {rs:List (List PV)} {F:PF} {H H2:PH} {R:PV→PH→Prop} {v:PV} {e:kY} (w:e=.normal∨e=.ret) (y:F t=some v) (x:H q=some (.rows s rs)) (l:H2.le (H.frz q s rs)) (p:R (PV.frz q s rs v) H2):aX [.tmp t] R e F H:=by
 have c:∃ vs,dH.evs F H [.tmp t]=some vs∧∃ d i H2,iW (PF.nil.set 0 (cO vs)) H d i∧H2.le i∧∃ u,d 0=some u∧R u H2:=by refine⟨[v],by rw[jZ,mM,y,nK],_,_,H2,.step q x (.refl _ _),l,PV.frz q s rs v,?_,p⟩;rw[mK,kC,if_pos rfl,a2V];rfl
 rcases w with rfl | rfl<;>exact c
theorem Ta {C:Ctx} (l:List Nat) (E:∀ x∈l,x<256) (O:l.length≤9223372036854775807):NG.wp C (aX Z3.res (Xl l)) (PF.args [.sl 1 (jW l)]) .nil:=by
 simp only[go_sem,NG,Tb,Tc,Z3,a1K];have fin:∀ F:PF,F 0=some (.sl 1 (jW (l.take 400)))→aC.wp C (.seq (.region l2) .ret) (aX [.tmp 2] (Xl l)) F .nil:=by
  intro F f0;have w:(l.take 400).length≤400:=by rw[a2A]; omega
  have u:∀ x∈l.take 400,x<256:=fun x M=>E x (List.mem_of_mem_take M);have y:∀ o v,Seen 1 v (jW (l.take 400))→Xl l (.ptr o 2 0 0) (PH.nil.set o (bJ v 0)):=fun o v K=>⟨o,v,rfl,⟨K,u,w⟩,rfl⟩;generalize N:l.take 400=L at *
  simp only[go_sem,l2,f0];refine sP (src:=jW L) rfl ?_ (fun h=>?_) fun h o H=>?_
  ·unfold roomFor;rw[PN];simp only[maxLen]; omega
  ·simp only[go_sem,a1R,a2B,or_false,forall_eq];refine aQ fun o H=>?_;simp only[go_sem];exact aZ (vs:=[.ptr o 2 0 0]) (.inr rfl) (PH.nil.set o (bJ .aB 0)) rfl b_ (y o .aB (.inl ⟨h,rfl⟩))
  ·simp only[go_sem,a1R,a2B,or_false,forall_eq];refine aQ fun p J=>?_;have d:¬ p=o:=(gZ.1 J).1;have e:¬ o=p:=fun h=>d h.symm;simp only[go_sem];refine yl (v:=.ptr p 2 0 0) (q:=o) (s:=1) (rs:=jW L) (H2:=PH.nil.set p (bJ (.sl 1 (jW L)) 0)) (.inr rfl) rfl (by simp only[go_sem,e]) (PH.aL a_ ?_) (y p _ (.inr rfl));have B:(jW L).take L.length=jW L:=a2C (by rw[PN]; exact a1O _);simp only[go_sem,d,bY.frz,PV.cV,a1K,B];rfl
 simp only[aC.wp,go_sem] at fin;by_cases c:l.length>400
 ·have i:(l.length:Int)>400:=Om;have A:(400:Int)≤(l.length:Int):=Om;simp only[go_sem,i,Td,a1K,A];refine fin _ ?_;rw[kC,if_pos rfl];simp[jW]
 ·have i:¬ (l.length:Int)>400:=Om;simp only[go_sem,i];refine fin _ ?_;rw[a2C Om];simp only[go_sem]
def YC (l:List Nat) (v:PV) (o n a:Nat) (r:PV) (H:PH):Prop:=r=.int .i64 ((aD l n a).1:Nat)∧H=PH.nil.set o (bJ v (aD l n a).2)
theorem Hh {C:Ctx} {l:List Nat} {v:PV} (T:Tp l v) (o n a:Nat) (Q:n≤1000000) (N:a≤l.length):wA.wp C (aX fb.res (YC l v o n a)) (PF.args [.ptr o 2 0 0,.int .i64 n]) (PH.nil.set o (bJ v a)):=by
 obtain⟨K,H,O⟩:=T;have zero:(l.length≤a∨n<2)→∀ F,aC.wp C (.seq (.region WI) .ret) (aX [.tmp 4] (YC l v o n a)) F (PH.nil.set o (bJ v a)):=by
  intro h F;have e:aD l n a=(0,a):=by unfold aD; rw[if_pos h]
  simp only[go_sem,WI];exact aZ (vs:=[.int .i64 0]) (.inr rfl) _ rfl b_ ⟨by rw[e]; rfl,by rw[e]⟩
 simp only[aC.wp,go_sem] at zero;rcases K with ⟨E,rfl⟩ | rfl
 ·have M:l.length=0:=by rw[← PN,E]; rfl
  have p:(a:Int)≥0:=Om;simp only[go_sem,wA,WH,fb];refine bX .nil eH a_ ?_;simp only[go_sem,HE,p];exact zero (.inl Om) _
 simp only[go_sem,wA,WH,fb];refine bX .nil eH a_ ?_;by_cases w:l.length≤a
 ·have c:(a:Int)≥(l.length:Nat):=Om;simp only[go_sem,HE,a1K,c];exact zero (.inl w) _
 have c:¬ (a:Int)≥(l.length:Nat):=Om;simp only[go_sem,HE,a1K,c];by_cases x:n<2
 ·have d:(n:Int)<2:=Om;simp only[go_sem,d];exact zero (.inr x) _
 have d:¬ (n:Int)<2:=Om;have i:a<l.length:=Om;have e:aD l n a=(l[a]%n,a+1):=by unfold aD;rw[if_neg Om];simp[a2L,i]
 have B:IntKind.i64.wrap ((a:Int)+1)=((a+1:Nat):Int):=dC Om;have A:IntKind.i64.wrap (((a+1:Nat):Int)-1)=((a:Nat):Int):=by rw[wrap_i64 Om Om]; omega
 have J:=aDY l i;have R:=H _ (a1N i);have y:IntKind.i64.wrap ((l[a]:Nat):Int)=((l[a]:Nat):Int):=XT Om;have u:¬ ((n:Nat):Int)=0:=Om;have em:Int.tmod ((l[a]:Nat):Int) ((n:Nat):Int)=((l[a]%n:Nat):Int):=rfl;simp only[go_sem,d,Hi,B];refine bX .nil eH a_ ?_;simp only[go_sem,Hj,A,J,y,u,em];exact aZ (vs:=[.int .i64 (l[a]%n:Nat)]) (.inr rfl) _ rfl b_ ⟨by rw[e]; rfl,by rw[e]⟩
def PV.oid:PV→Option Nat
 | .osl q _ _ _=>some q
 | _=>none
abbrev LI:=PV × Nat × List (List PV)
abbrev BX:=Nat × bY
def eM (B:List BX):List Nat:=B.map (·.1)
def eC (L:List LI):List Nat:=L.filterMap fun x=>x.1.oid
structure aP (H:PH) (B:List BX) (L:List LI):Prop where
 box:∀ b∈B,H b.1=some b.2
 lst:∀ x∈L,bP H x.2.1 x.1 x.2.2
 nd:(eM B++eC L).Nodup
section
variable {C:Ctx} {H:PH} {B:List BX} {L:List LI} {K:PV→PH→Prop}
theorem bP.id {s q:Nat} {v:PV} {rows:List (List PV)} (h:bP H s v rows) (c:v.oid=some q):∃ rs,H q=some (.rows s rs)∧v=.osl q s 0 rows.length∧rows.length≤rs.length∧rs.take rows.length=rows:=by
 rcases h with ⟨_,rfl⟩ | ⟨p,rs,rfl,h1,h2,h3⟩
 ·cases c
 ·cases c;exact⟨rs,h1,rfl,h2,h3⟩
theorem bP.same {s:Nat} {v:PV} {rows:List (List PV)} {H':PH} (h:bP H s v rows) (c:∀ q,v.oid=some q→H' q=H q):bP H' s v rows:=by
 rcases h with h | ⟨p,rs,rfl,h1,h2,h3⟩
 ·exact .inl h
 ·exact .inr ⟨p,rs,rfl,by rw[c p rfl]; exact h1,h2,h3⟩
theorem kV {x:LI} {q:Nat} (h:x∈L) (c:x.1.oid=some q):q∈eC L:=List.mem_filterMap.2 ⟨x,h,c⟩
theorem tC {b:BX} (h:b∈B):b.1∈eM B:=a2G.2 ⟨b,h,rfl⟩
theorem aP.nil:aP H [] []:=⟨by simp,by simp,by simp[eM,eC]⟩
theorem aP.at (h:aP H B L) (i:Nat) {o:Nat} {x:bY} (hi:B[i]?=some (o,x)):H o=some x:=h.box _ (a3R hi)
theorem aP.own (h:aP H B L) (i:Nat) {s:Nat} {v:PV} {rows:List (List PV)} (hi:L[i]?=some (v,s,rows)):bP H s v rows:=h.lst _ (a3R hi)
theorem aP.ndB (h:aP H B L):(eM B).Nodup:=(a4C.1 h.nd).1
theorem aP.ndL (h:aP H B L):(eC L).Nodup:=(a4C.1 h.nd).2.1
theorem aP.ndX (h:aP H B L) {o q:Nat} (c:o∈eM B) (d:q∈eC L):o≠q:=(a4C.1 h.nd).2.2 o c q d
theorem aP.ne (h:aP H B L) (i j:Nat) {o p:Nat} {x y:bY} (hi:B[i]?=some (o,x)) (J:B[j]?=some (p,y)) (c:i≠j):o≠p:=by
 intro e;have E:(eM B)[i]?=some o:=by unfold eM; rw[a2K,hi]; rfl
 have F:(eM B)[j]?=some p:=by unfold eM; rw[a2K,J]; rfl
 obtain⟨w,d⟩:=a2P.1 E;obtain⟨A,l⟩:=a2P.1 F;have u:=List.pairwise_iff_getElem.1 h.ndB;rcases Nat.lt_or_gt_of_ne c with g | g
 ·exact u i j w A g (by rw[d,l,e])
 ·exact u j i A w g (by rw[d,l,e])
theorem aP.neL (h:aP H B L) (i j:Nat) {o q:Nat} {x:bY} {y:LI} (hi:B[i]?=some (o,x)) (c:L[j]?=some y) (d:y.1.oid=some q):o≠q :=
 h.ndX (tC (a3R hi)) (kV (a3R c) d)
theorem aP.fresh (h:aP H B L) {o:Nat} (c:H o=none):o ∉ eM B∧o ∉ eC L:=by
 refine⟨fun d=>?_,fun d=>?_⟩
 ·obtain⟨b,l,rfl⟩:=a2G.1 d;rw[h.box b l] at c; cases c
 ·obtain⟨x,p,e⟩:=List.mem_filterMap.1 d;obtain⟨rs,i,_⟩:=(h.lst x p).id e;rw[i] at c; cases c
theorem aP.keep (h:aP H B L) {H':PH} (d:∀ q,q∈eM B∨q∈eC L→H' q=H q):aP H' B L :=
 ⟨fun b c=>by rw[d _ (.inl (tC c))]; exact h.box b c,fun x e=>(h.lst x e).same fun q i=>d q (.inr (kV e i)),h.nd⟩
theorem axK {i:Nat} {o:Nat} {x y:bY} (hi:B[i]?=some (o,x)):eM (B.set i (o,y))=eM B:=by
 unfold eM;rw[List.map_set];refine List.ext_getElem? fun j=>?_;rw[List.getElem?_set];split
 ·rename_i e;subst e;rw[a2K,hi];have:=(a2P.1 hi).1;simp[this]
 ·rfl
theorem aP.set (h:aP H B L) (i:Nat) {o:Nat} {x:bY} (hi:B[i]?=some (o,x)) (y:bY):aP (H.set o y) (B.set i (o,y)) L:=by
 have l:o∈eM B:=tC (a3R hi);refine⟨fun b u=>?_,fun z p=>(h.lst z p).same fun q w=>?_,by rw[axK hi]; exact h.nd⟩
 ·obtain⟨j,c⟩:=List.mem_iff_getElem?.1 u;rw[List.getElem?_set] at c;split at c
  ·split at c
   ·cases c; simp only[aV,if_true]
   ·cases c
  ·rename_i d;have:b.1≠o:=fun e=>h.ne i j hi (show B[j]?=some (b.1,b.2) from c) d e.symm;rw[aV,if_neg this];exact h.box b (a3R c)
 ·have:q≠o:=fun e=>h.ndX l (kV p w) e.symm;rw[aV,if_neg this]
theorem aP.new (h:aP H B L) {o:Nat} (u:H o=none) (y:bY):aP (H.set o y) (B++[(o,y)]) L:=by
 obtain⟨f1,f2⟩:=h.fresh u;refine⟨fun b d=>?_,fun z l=>(h.lst z l).same fun q hq=>?_,?_⟩
 ·rw[a3A,a3O] at d;rcases d with d | rfl
  ·have:b.1≠o:=fun e=>f1 (e ▸ tC d);rw[aV,if_neg this]; exact h.box b d
  ·simp only[aV,if_true]
 ·have:q≠o:=fun e=>f2 (e ▸ kV l hq);rw[aV,if_neg this]
 ·have:=h.nd;simp only[eM,a2N,a2Y,a3Q] at *
  rw[a2T,a4C] at *
  obtain⟨a,b,c⟩:=this;refine⟨a,?_,fun p i q hq=>?_⟩
  ·rw[List.singleton_append,List.nodup_cons]; exact⟨f2,b⟩
  ·rw[List.singleton_append,a1R] at hq;rcases hq with rfl | hq
   ·intro e; subst e; exact f1 i
   ·exact c p i q hq
theorem kL (L1 L2:List LI):eC (L1++L2)=eC L1++eC L2:=List.filterMap_append ..
theorem aP.sC (h:aP H B L) (s:Nat):aP H B (L++[(.aB,s,[])]):=by
 refine⟨h.box,fun z c=>?_,?_⟩
 ·rw[a3A,a3O] at c;rcases c with c | rfl
  ·exact h.lst z c
  ·exact .nil
 ·rw[kL,show eC [((.aB:PV),s,([]:List (List PV)))]=[] from rfl,a3J]; exact h.nd
theorem aP.azA (h:aP H B L) {o s:Nat} {rows:List (List PV)} (i:H o=none):aP (H.set o (.rows s rows)) B (L++[(.osl o s 0 rows.length,s,rows)]):=by
 obtain⟨f1,f2⟩:=h.fresh i;have e:=h.keep (H':=H.set o (.rows s rows)) fun q c=>by
  have:q≠o:=by rintro rfl; exact c.elim f1 f2
  rw[aV,if_neg this]
 refine⟨e.box,fun z d=>?_,?_⟩
 ·rw[a3A,a3O] at d;rcases d with d | rfl
  ·exact e.lst z d
  ·exact .inr ⟨o,rows,rfl,by simp only[aV,if_true],a1O _,a2O⟩
 ·rw[kL,show eC [((.osl o s 0 rows.length:PV),s,rows)]=[o] from rfl,← a2T,a4C];refine⟨h.nd,by simp,fun p hp q c=>?_⟩;rw[a3O] at c;subst c;rintro rfl;rcases a3A.1 hp with hp | hp
  ·exact f1 hp
  ·exact f2 hp
theorem Fr {i:Nat} {v v':PV} {s s':Nat} {rows rows':List (List PV)} (hi:L[i]?=some (v,s,rows)):∃ L1 L2,L=L1++(v,s,rows)::L2∧L.set i (v',s',rows')=L1++(v',s',rows')::L2:=by
 obtain⟨c,d⟩:=a2P.1 hi;refine⟨L.take i,L.drop (i+1),?_,?_⟩
 ·rw[← d,← a3K c,a4H]
 ·rw[List.set_eq_take_append_cons_drop,if_pos c]
theorem aP.iu (h:aP H B L) (i:Nat) {s:Nat} {v:PV} {rows:List (List PV)} (hi:L[i]?=some (v,s,rows)) {s':Nat} {v':PV} {rows':List (List PV)} {H':PH} (Q:bP H' s' v' rows')
  (F:∀ q,v'.oid=some q→v.oid=some q∨H q=none) (O:∀ q,q∈eM B∨q∈eC L→(∀ p,v.oid=some p→q≠p)→H' q=H q):aP H' B (L.set i (v',s',rows')):=by
 obtain⟨L1,L2,M,N⟩:=Fr (v':=v') (s':=s') (rows':=rows') hi;rw[N];subst M;have d:=h.nd;have A:eC (L1++(v,s,rows)::L2)=eC L1++(v.oid.toList++eC L2):=by rw[kL];congr 1;unfold eC;rw[List.filterMap_cons];cases e:v.oid<;>simp
 have E:eC (L1++(v',s',rows')::L2)=eC L1++(v'.oid.toList++eC L2):=by rw[kL];congr 1;unfold eC;rw[List.filterMap_cons];cases e:v'.oid<;>simp
 rw[A] at d;have x:∀ q,q∈eM B∨q∈eC L1∨q∈eC L2→∀ p,v.oid=some p→q≠p:=by
  intro q hq p w e;subst e;rw[w] at d;simp only[Option.toList_some] at d;rw[a4C] at d;obtain⟨a,b,c⟩:=d;rw[a4C] at b;obtain⟨b1,b2,y⟩:=b;rw[List.singleton_append,List.nodup_cons] at b2;rcases hq with hq | hq | hq
  ·exact c q hq q (by simp) rfl
  ·exact y q hq q (by simp) rfl
  ·exact b2.1 hq
 have l:∀ q,q∈eM B∨q∈eC L1∨q∈eC L2→H' q=H q:=by
  intro q hq;refine O q ?_ (x q hq);rw[A];simp only[a3A];rcases hq with hq | hq | hq
  ·exact .inl hq
  ·exact .inr (.inl hq)
  ·exact .inr (.inr (.inr hq))
 refine⟨fun b J=>by rw[l _ (.inl (tC J))]; exact h.box b J,fun z hz=>?_,?_⟩
 ·rw[a3A,a1R] at hz;rcases hz with hz | rfl | hz
  ·exact (h.lst z (by simp[hz])).same fun q hq=>l q (.inr (.inl (kV hz hq)))
  ·exact Q
  ·exact (h.lst z (by simp[hz])).same fun q hq=>l q (.inr (.inr (kV hz hq)))
 ·rw[E];cases e:v'.oid with
  | none =>simp only[Option.toList_none,List.nil_append];refine List.Nodup.sublist ?_ d;exact a3N.append (a3N.refl _) (a3N.append (a3N.refl _) (List.sublist_append_right _ _))
  | some q =>
   rcases F q e with R | hn
   ·rw[R] at d;exact d
   ·obtain⟨f1,f2⟩:=h.fresh hn;rw[A] at f2;simp only[a3A,not_or] at f2;have u:(eM B++(eC L1++eC L2)).Nodup:=List.Nodup.sublist (a3N.append (a3N.refl _) (a3N.append (a3N.refl _) (List.sublist_append_right _ _))) d;simp only[Option.toList_some];rw[a4C] at u ⊢;obtain⟨a,b,c⟩:=u;rw[a4C] at b;obtain⟨b1,b2,y⟩:=b;refine⟨a,?_,?_⟩
    ·rw[a4C];refine⟨b1,by rw[List.singleton_append,List.nodup_cons]; exact⟨f2.2.2,b2⟩,fun p w r hr=>?_⟩;rw[List.singleton_append,a1R] at hr;rcases hr with rfl | hr
     ·rintro rfl; exact f2.1 w
     ·exact y p w r hr
    ·intro p w r hr;rw[a3A,List.singleton_append,a1R] at hr;rcases hr with hr | rfl | hr
     ·exact c p w r (by simp[hr])
     ·rintro rfl; exact f1 w
     ·exact c p w r (by simp[hr])
theorem aP.append (h:aP H B L) (i:Nat) {s b:Nat} {v y:PV} {rows src:List (List PV)} (hi:L[i]?=some (v,s,rows)) (E:dZ H s y=some src) (A:roomFor rows.length src.length b)
  (w:∀ v' H',aP H' B (L.set i (v',s,rows++src))→(src≠[]→∃ q,v'=.osl q s 0 (rows++src).length)→K v' H'):nA H s b v y K:=by
 rcases h.own i hi with ⟨rfl,rfl⟩ | ⟨q,rs,rfl,h1,h2,h3⟩
 ·refine⟨src,E,A,fun e=>?_,fun e o l=>?_⟩
  ·subst e;refine w _ _ ?_ fun h=>absurd rfl h;exact h.iu i hi (.inl ⟨rfl,rfl⟩) (fun q u=>by cases u) fun q _ _=>rfl
  ·refine w _ _ (h.iu i hi (.inr ⟨o,src,rfl,by simp only[aV,if_true],a1O _,a2O⟩) (fun q u=>by cases u; exact .inr l) fun q u _=>?_) fun _=>⟨o,rfl⟩;obtain⟨f1,f2⟩:=h.fresh l;have:q≠o:=by rintro rfl; exact u.elim f1 f2
   rw[aV,if_neg this]
 ·have c:(rows++src).length=rows.length+src.length:=a1P;refine⟨src,E,rfl,rfl,A,rs,h1,h2,?_,fun o l=>?_⟩
  ·rw[h3];refine w _ _ (h.iu i hi (.inr ⟨q,rows++src,by rw[c],by simp only[aV,if_true],a1O _,a2O⟩) (fun p d=>by cases d; exact .inl rfl) fun p _ d=>?_) fun _=>⟨q,by rw[c]⟩;rw[aV,if_neg (d q rfl)]
  ·rw[h3];refine w _ _ (h.iu i hi (.inr ⟨o,rows++src,by rw[c],by simp only[aV,if_true],a1O _,a2O⟩) (fun p d=>by cases d; exact .inr l) fun p x d=>?_) fun _=>⟨o,by rw[c]⟩;obtain⟨f1,f2⟩:=h.fresh l;have F:p≠o:=by rintro rfl; exact x.elim f1 f2
   rw[aV,if_neg F]
theorem aP.sub (h:aP H B L) {B':List BX} {L':List LI} (hB:B'.Sublist B) (c:L'.Sublist L):aP H B' L' :=
 ⟨fun b d=>h.box b (hB.subset d),fun x e=>h.lst x (c.subset e),List.Nodup.sublist (a3N.append (hB.map _) (c.filterMap _)) h.nd⟩
theorem aP.mW (h:aP H B L) (i:Nat):aP H (B.eraseIdx i) L:=h.sub (List.eraseIdx_sublist ..) (a3N.refl _)
theorem aP.Yi (h:aP H B L) (i:Nat):aP H B (L.eraseIdx i):=h.sub (a3N.refl _) (List.eraseIdx_sublist ..)
end
section
variable {C:Ctx} {F:PF} {H:PH} {B:List BX} {L:List LI}
theorem aP.RB (h:aP H B L) {q:Nat} (hq:q∈eM B∨q∈eC L):∃ x,H q=some x:=by
 rcases hq with hq | hq
 ·obtain⟨b,d,rfl⟩:=a2G.1 hq;exact⟨_,h.box b d⟩
 ·obtain⟨x,i,e⟩:=List.mem_filterMap.1 hq;obtain⟨rs,c,_⟩:=(h.lst x i).id e;exact⟨_,c⟩
theorem aP.perm (h:aP H B L) {B':List BX} {L':List LI} (hB:B.Perm B') (c:L.Perm L'):aP H B' L' :=
 ⟨fun b d=>h.box b (hB.mem_iff.2 d),fun x e=>h.lst x (c.mem_iff.2 e),(List.Perm.nodup_iff ((hB.map _).append (c.filterMap _))).1 h.nd⟩
theorem aP.only (h:aP H B L) {B1:List BX} {L1:List LI} (hB:B1.Sublist B) (c:L1.Sublist L):aP (H.only (eM B1++eC L1)) B1 L1:=by
 refine (h.sub hB c).keep fun q d=>?_;rw[rB];rw[if_pos (a3A.2 d)]
theorem aPN {a b c d:List Nat} (i:(a++c).Nodup) (l:(b++d).Nodup) (u:∀ q,q∈a∨q∈c→q∈b∨q∈d→False):((a++b)++(c++d)).Nodup:=by
 have e:List.Perm ((a++b)++(c++d)) ((a++c)++(b++d)):=by rw[a2T,a2T];exact List.Perm.append_left a (by rw[← a2T,← a2T]; exact List.Perm.append_right d List.perm_append_comm)
 rw[e.nodup_iff,a4C];refine⟨i,l,fun p w q x=>?_⟩;rintro rfl;exact u p (a3A.1 w) (a3A.1 x)
theorem aP.frame {H':PH} {B1 B2 B':List BX} {L1 L2 L':List LI} (h:aP H (B1++B2) (L1++L2)) (p:aP H' B' L') (E:lJ H (H.only (eM B1++eC L1)) H'):aP (H.over (H.only (eM B1++eC L1)) H') (B'++B2) (L'++L2):=by
 have w:aP H B2 L2:=h.sub (List.sublist_append_right ..) (List.sublist_append_right ..);have i:∀ q,q∈eM B2∨q∈eC L2→¬ (q∈eM B1++eC L1):=by
  intro q c J;have d:=h.nd;rw[show eM (B1++B2)=eM B1++eM B2 from a2N,kL] at d;have e:List.Perm ((eM B1++eM B2)++(eC L1++eC L2)) ((eM B1++eC L1)++(eM B2++eC L2)):=by rw[a2T,a2T];exact List.Perm.append_left _ (by rw[← a2T,← a2T]; exact List.Perm.append_right _ List.perm_append_comm)
  rw[e.nodup_iff,a4C] at d;exact d.2.2 q J q (a3A.2 c) rfl
 have new:∀ q,q∈eM B'∨q∈eC L'→(H.over (H.only (eM B1++eC L1)) H') q=H' q:=by intro q c;obtain⟨x,hx⟩:=p.RB c;rw[gS,hx]
 have A:∀ q,q∈eM B2∨q∈eC L2→(H.over (H.only (eM B1++eC L1)) H') q=H q:=by
  intro q c;obtain⟨x,hx⟩:=w.RB c;have u:(H.only (eM B1++eC L1)) q=none:=by rw[rB,if_neg (i q c)]
  rw[gS];cases e:H' q with
  | none=>simp only[u]
  | some y =>have:=E q y e u;rw[hx] at this; cases this
 have k1:=p.keep new;have k2:=w.keep A;refine⟨fun b hb=>?_,fun x hx=>?_,?_⟩
 ·rcases a3A.1 hb with hb | hb
  ·exact k1.box b hb
  ·exact k2.box b hb
 ·rcases a3A.1 hx with hx | hx
  ·exact k1.lst x hx
  ·exact k2.lst x hx
 ·rw[show eM (B'++B2)=eM B'++eM B2 from a2N,kL];refine aPN p.nd w.nd fun q c l=>?_;obtain⟨x,hx⟩:=p.RB c;obtain⟨y,K⟩:=w.RB l;have u:(H.only (eM B1++eC L1)) q=none:=by rw[rB,if_neg (i q l)]
  have:=E q x hx u;rw[K] at this; cases this
theorem CJ {name:Nat} {vs:List PV} {args:List aN} {d:Option Nat} {K:PF→PH→Prop} {B1 B2:List BX} {L1 L2:List LI} {Q:PV→List BX→List LI→Prop} (h:aP H (B1++B2) (L1++L2))
  (p:∀ e,aP e B1 L1→aF C name vs e (fun r H'=>∃ B' L',Q r B' L'∧aP H' B' L')) (l:aN.evs F args=some vs)
  (u:∀ r B' L' H',Q r B' L'→aP H' (B'++B2) (L'++L2)→K (F.put d r) H'):hL C name args [] d K F H:=by
 refine lY (p (H.only (eM B1++eC L1)) (h.only (List.sublist_append_left ..) (List.sublist_append_left ..))) l (QX H _) ?_;rintro r H' ⟨B',L',w,i⟩ c;exact u r B' L' _ w (h.frame i c)
theorem aP.xF {B:List BX} {o:Nat} {x:bY} (h:aP H (B++[(o,x)]) L):H o=some x:=h.box (o,x) (by simp)
theorem aP.DH {B:List BX} {o:Nat} {x:bY} (h:aP H (B++[(o,x)]) L) (y:bY):aP (H.set o y) (B++[(o,y)]) L:=by
 have:=h.set B.length (o:=o) (x:=x) (by simp) y
 rwa [a4P _ _ (a1O _),Nat.sub_self] at this
theorem aP.dropLast {B:List BX} {b:BX} (h:aP H (B++[b]) L):aP H B L:=h.sub (List.sublist_append_left ..) (a3N.refl _)
theorem aP.aKJ {B:List BX} {o:Nat} {x:bY} (h:aP H ((o,x)::B) L) (y:bY):aP (H.set o y) ((o,y)::B) L:=h.set 0 rfl y
theorem aP.aOI {B:List BX} {o:Nat} {x:bY} (h:aP H ((o,x)::B) L):H o=some x:=h.at 0 rfl
theorem mC {name o:Nat} {x y:bY} {r:PV} {vs:List PV} {args:List aN} {d:Option Nat} {K:PF→PH→Prop} (h:aF C name vs (PH.nil.set o x) (fun c H'=>c=r∧H'=PH.nil.set o y)) (l:H o=some x) (e:aN.evs F args=some vs)
  (i:K (F.put d r) (H.set o y)):hL C name args [] d K F H:=by
 refine lY h e (PH.aL a_ l) ?_;rintro c H' ⟨rfl,rfl⟩ -;rw[PH.sG];exact i
theorem awH {Hs:PH} {S:Spec} {name o:Nat} {x y:bY} {r:PV} {vs:List PV} {R:PH→PV→PH→Prop} {args:List aN} {st:Bool} {d:Option Nat} {K:PF→PH→Prop} (N:S name vs=some ([o],R)) (J:H o=some x)
  (h:aF C name vs (PH.nil.set o x) (fun c H'=>c=r∧H'=PH.nil.set o y)) (i:R (PH.nil.set o x) r (PH.nil.set o y)) (u:∀ c H',R (PH.nil.set o x) c H'→c=r∧H'=PH.nil.set o y) (O:aN.evs F args=some vs)
  (w:Hs.le (H.set o y)) (Q:K (F.put d r) (H.set o y)):dOp C Hs S st (.call name args) d K F H:=by
 have e:=XE J;refine⟨vs,[o],_,O,N,fun q M=>?_,?_,fun G=>⟨r,_,by rw[e]; exact i,fun q z E p=>?_⟩,fun c H' l _=>?_⟩
 ·simp at M; subst M; exact⟨x,J⟩
 ·rw[e];exact h.post fun c H' l=>⟨c,.refl _,by rw[l.1,l.2]; exact i⟩
 ·rw[e] at p;rw[aV] at E p;split at p
  ·cases p
  ·rename_i A;rw[if_neg A] at E; cases E
 ·rw[e] at l;obtain⟨rfl,rfl⟩:=u c H' l;rw[e,PH.sG];exact⟨w,Q⟩
theorem aCD {s:Nat} {q z:Nat} {rs:List (List PV)} {v:PV} {rows:List (List PV)} (h:bP H s v rows) (d:v.oid≠some q):bP (H.frz q z rs) s v (rows.map fun r=>r.map (PV.cV q z rs)):=by
 rcases h with ⟨rfl,rfl⟩ | ⟨p,rs',rfl,h1,h2,h3⟩
 ·exact .inl ⟨rfl,rfl⟩
 ·have c:¬ p=q:=fun e=>d (by rw[e]; rfl);refine .inr ⟨p,rs'.map fun r=>r.map (PV.cV q z rs),by rw[a1K],?_,by simpa using h2,?_⟩
  ·rw[tB,if_neg c,h1]; rfl
  ·rw[a1K,← List.map_take,h3]
theorem aP.frz (h:aP H B L) (i:Nat) {q s k:Nat} {rows:List (List PV)} (hi:L[i]?=some (.osl q s 0 k,s,rows)):∃ rs,H q=some (.rows s rs)∧PV.cV q s rs (.osl q s 0 k)=.sl s rows∧PV.frz q s rs (.osl q s 0 k)=.sl s rows∧(∀ j x,j≠i→L[j]?=some x→PV.cV q s rs x.1=x.1) ∧
  aP (H.frz q s rs) (B.map fun b=>(b.1,b.2.frz q s rs)) ((L.eraseIdx i).map fun x=>(x.1,x.2.1,x.2.2.map fun r=>r.map (PV.cV q s rs))):=by
 obtain⟨rs,U,V,W,X⟩:=(h.own i hi).id rfl;injection V with _ _ _ hk
 subst hk;have e:PV.frz q s rs (.osl q s 0 rows.length)=.sl s rows:=by rw[qY W,X]
 refine⟨rs,U,e,e,?_⟩;refine⟨fun j x K R=>?_,?_⟩
 ·have l:x.1.oid≠some q:=by
   intro l;obtain⟨M,J⟩:=a2P.1 hi;obtain⟨β,Z⟩:=a2P.1 R;have u:x∈L.eraseIdx i:=List.mem_eraseIdx_iff_getElem?.2 ⟨j,K,R⟩;have d:=h.ndL;have O:L=L.take i++(L[i]::L.drop (i+1)):=by rw[← a3K M,a4H]
   rw[List.eraseIdx_eq_take_drop_succ] at u;rw[O,kL] at d;have E:eC (L[i]::L.drop (i+1))=q::eC (L.drop (i+1)):=by rw[J]; rfl
   rw[E,a4C] at d;obtain⟨a,b,c⟩:=d;rcases a3A.1 u with hx | hx
   ·exact c q (kV hx l) q (by simp) rfl
   ·exact (List.nodup_cons.1 b).1 (kV hx l)
  cases hx:x.1<;>try rfl
  rename_i p z γ len;have:¬ p=q:=fun e=>l (by rw[hx,e]; rfl);simp only[PV.cV,if_neg this]
 obtain⟨L1,L2,e1,e2⟩:=Fr (v':=.aB) (s':=s) (rows':=rows) hi;have α:i=L1.length∨True:=.inr trivial;have w:(L.eraseIdx i).Sublist L:=List.eraseIdx_sublist ..;have N:∀ x∈L.eraseIdx i,x.1.oid≠some q:=by
  intro x hx l;obtain⟨M,J⟩:=a2P.1 hi;have d:=h.ndL;have O:L=L.take i++(L[i]::L.drop (i+1)):=by rw[← a3K M,a4H]
  rw[List.eraseIdx_eq_take_drop_succ] at hx;rw[O,kL] at d;have E:eC (L[i]::L.drop (i+1))=q::eC (L.drop (i+1)):=by rw[J]; rfl
  rw[E,a4C] at d;obtain⟨a,b,c⟩:=d;rcases a3A.1 hx with hx | hx
  ·exact c q (kV hx l) q (by simp) rfl
  ·exact (List.nodup_cons.1 b).1 (kV hx l)
 refine⟨fun b Y=>?_,fun x hx=>?_,?_⟩
 ·obtain⟨Q,y,rfl⟩:=a2G.1 Y;have:¬ Q.1=q:=h.ndX (tC y) (kV (a3R hi) rfl);simp only;rw[tB,if_neg this,h.box Q y]; rfl
 ·obtain⟨S,A,rfl⟩:=a2G.1 hx;exact aCD (h.lst S (w.subset A)) (N S A)
 ·have i1:eM (B.map fun b=>(b.1,b.2.frz q s rs))=eM B:=by unfold eM; rw[List.map_map]; rfl
  have i2:eC ((L.eraseIdx i).map fun x=>(x.1,x.2.1,x.2.2.map fun r=>r.map (PV.cV q s rs)))=eC (L.eraseIdx i):=by unfold eC; rw[List.filterMap_map]; rfl
  rw[i1,i2];exact List.Nodup.sublist (a3N.append (a3N.refl _) (w.filterMap _)) h.nd
def Flat (rows:List (List PV)):Prop:=∀ q s rs,rows.map (fun r=>r.map (PV.cV q s rs))=rows
theorem Flat.nil:Flat []:=fun _ _ _=>rfl
theorem Flat.of {rows:List (List PV)} (h:∀ r∈rows,∀ c∈r,∀ q s rs,PV.cV q s rs c=c):Flat rows:=fun q s rs=>by
 conv=>rhs; rw[← List.map_id rows]
 refine a4V fun r e=>?_
 conv=>rhs; rw[id,← List.map_id r]
 exact a4V fun c d=>h r e c d q s rs
theorem Flat.map {α:Type} {f:α→List PV} (l:List α) (h:∀ x,∀ c∈f x,∀ q s rs,PV.cV q s rs c=c):Flat (l.map f):=Flat.of fun r d=>by
 obtain⟨x,_,rfl⟩:=a2G.1 d;exact h x
theorem Flat.append {r1 r2:List (List PV)} (c:Flat r1) (d:Flat r2):Flat (r1++r2):=fun q s rs=>by rw[a2N,c,d]
theorem aP.flat {φ:PV→List (List PV)} (h:aP H B L):aP H B L:=h
def yO (v:PV) (H:PH) (R:PV→PH→Prop):Prop:=∃ c d H2,iW (PF.nil.set 0 v) H c d∧H2.le d∧∃ u,c 0=some u∧R u H2
theorem yO.done {v:PV} {H2:PH} {R:PV→PH→Prop} (d:R v H2) (c:H2.le H):yO v H R:=⟨_,_,H2,.refl _ _,c,v,by rw[kC,if_pos rfl],d⟩
theorem yO.step {v:PV} {q s:Nat} {rs:List (List PV)} {R:PV→PH→Prop} (w:H q=some (.rows s rs)) (h:yO (PV.frz q s rs v) (H.frz q s rs) R):yO v H R:=by
 obtain⟨c,d,H2,l,p,u⟩:=h;have e:(PF.nil.set 0 v).frz q s rs=PF.nil.set 0 (PV.frz q s rs v):=by funext i;rw[mK,kC,kC];split<;>rfl
 exact⟨c,d,H2,.step q w (by rw[e]; exact l),p,u⟩
theorem DD {res:List dH} {R:PV→PH→Prop} {vs:List PV} {e:kY} (l:e=.normal∨e=.ret) (h:dH.evs F H res=some vs) (p:yO (cO vs) H R):aX res R e F H:=by
 have c:∃ vs,dH.evs F H res=some vs∧∃ d i H2,iW (PF.nil.set 0 (cO vs)) H d i∧H2.le i∧∃ u,d 0=some u∧R u H2:=⟨vs,h,p⟩;rcases l with rfl | rfl<;>exact c
theorem cg {u:PV} (h:u.oid=none) (q s:Nat) (rs:List (List PV)):PV.cV q s rs u=u:=by
 cases u<;>first | rfl | (simp[PV.oid] at h)
theorem Seen.co {s:Nat} {v:PV} {rows:List (List PV)} (h:Seen s v rows):Co v (.sl s rows):=by
 rcases h with ⟨rfl,rfl⟩ | rfl
 ·exact .nil s
 ·exact .refl _
theorem aP.giveUp:∀ (L:List LI) {H:PH} {B:List BX},aP H B L→(∀ x∈L,Flat x.2.2)→(∀ b∈B,∀ q s rs,bY.frz q s rs b.2=b.2) →
  ∃ (φ:PV→PV) (d:PH),(∀ x∈L,Seen x.2.1 (φ x.1) x.2.2)∧(∀ u,u.oid=none→φ u=u)∧aP d B []∧∀ cs R,yO (.agg (cs.map φ)) d R→yO (.agg cs) H R
 | [],H,B,h,_,_=>⟨id,H,by simp,fun _ _=>rfl,h,fun cs R p=>by rwa [List.map_id] at p⟩
 | (w,s,rows)::L,H,B,h,l,hB=>by
  have c:∀ q z rs,(L.map fun x=>(x.1,x.2.1,x.2.2.map fun r=>r.map (PV.cV q z rs)))=L:=fun q z rs=>by
   conv=>rhs; rw[← List.map_id L]
   refine a4V fun x hx=>?_;rw[l x (by simp[hx]) q z rs]; rfl
  rcases h.own 0 rfl with ⟨i,M⟩ | ⟨q,rs,i,_⟩
  ·obtain⟨φ,d,k1,k2,y,A⟩:=aP.giveUp L (h.Yi 0) (fun x hx=>l x (by simp[hx])) hB;refine⟨φ,d,fun x hx=>?_,k2,y,A⟩;rw[a1R] at hx;rcases hx with rfl | hx
   ·exact .inl ⟨i,by simp only; rw[M]; exact k2 _ rfl⟩
   ·exact k1 x hx
  ·subst i;obtain⟨rs,Q,S,W,U,J⟩:=h.frz 0 rfl;have V:aP (H.frz q s rs) B L:=by
    have K:(B.map fun b=>(b.1,b.2.frz q s rs))=B:=by
     conv=>rhs; rw[← List.map_id B]
     refine a4V fun b N=>?_;rw[hB b N q s rs]; rfl
    rw[K] at J;have:=J;simp only[List.eraseIdx_cons_zero] at this
    rwa [c q s rs] at this
   obtain⟨φ,d,k1,k2,y,A⟩:=aP.giveUp L V (fun x hx=>l x (by simp[hx])) hB;refine⟨fun u=>φ (PV.cV q s rs u),d,fun x hx=>?_,fun u E=>?_,y,fun cs R p=>?_⟩
   ·rw[a1R] at hx;rcases hx with rfl | hx
    ·simp only;rw[S];exact .inr (k2 _ rfl)
    ·obtain⟨j,O⟩:=List.mem_iff_getElem?.1 hx;have:=U (j+1) x Om (by simpa using O);simp only;rw[this];exact k1 x hx
   ·simp only;rw[cg E,k2 u E]
   ·refine .step Q ?_;have e:PV.frz q s rs (.agg cs)=.agg (cs.map (PV.cV q s rs)):=rfl;rw[e];refine A _ R ?_;rw[List.map_map];exact p
theorem tc {K:bV} {α:Type} {c:α→PF} {Hs:α→PH} {d:α→Prop} {m:α→Nat} {n q s:Nat} {rs:List (List PV)} (a:α) (u:H q=some (.rows s rs)) (e:d a) (p:m a<n) (i:(c a).le (F.frz q s rs)) (l:(Hs a).le (H.frz q s rs)):jS c Hs d m n K .normal F H :=
 ⟨a,_,_,.step q u (.refl _ _),e,p,i,l⟩
end
structure yP (C:Ctx):Prop extends KD C where
 int:∀ n:Int,cL n→aF C 47 [.int .i64 n] .nil (aH (.agg (mkT n 1).cells))
 itoa:∀ n:Nat,n<100→aF C 195 [.int .i64 n] .nil (aH (.str (bT n)))
 next:∀ (l:List Nat) (v:PV),Tp l v→∀ (o n a:Nat),n≤1000000→a≤l.length→aF C 4 [.ptr o 2 0 0,.int .i64 n] (PH.nil.set o (bJ v a)) (YC l v o n a)
section
variable {C:Ctx} {F:PF} {H:PH} {l:List Nat} {v:PV} {o a:Nat}
theorem cY (e:yP C) (T:Tp l v) {n:Nat} {args:List aN} {d:Option Nat} {K:PF→PH→Prop} (u:n≤1000000) (i:a≤l.length) (c:aN.evs F args=some [.ptr o 2 0 0,.int .i64 n]) (w:H o=some (bJ v a))
  (p:K (F.put d (.int .i64 ((aD l n a).1:Nat))) (H.set o (bJ v (aD l n a).2))):hL C 4 args [] d K F H :=
 mC (e.next l v T o n a u i) w c p
end
def aFM (l:List Nat) (v:PV) (o a:Nat) (r:PV) (H:PH):Prop:=r=.agg (fB l a).1.cells∧H=PH.nil.set o (bJ v (fB l a).2)
theorem sW (l:List Nat) {a:Nat} (h:a≤l.length):(fB l a).2≤l.length:=bK l 8 (bK l 6 h)
theorem Gs {C:Ctx} (d:yP C) {l:List Nat} {v:PV} (T:Tp l v) (o a:Nat) (u:a≤l.length):GY.wp C (aX zg.res (aFM l v o a)) (PF.args [.ptr o 2 0 0]) (PH.nil.set o (bJ v a)):=by
 simp only[go_sem,GY,Gt,zg];refine aQ fun p K=>?_;have x:¬ p=o:=(gZ.1 K).1;have c:¬ o=p:=fun h=>x h.symm;have M:=cE l (show 0<6 by decide) a;have a1:=bK l 6 u;simp only[go_sem,Gu];refine cY d T (o:=o) (n:=6) (a:=a) (by decide) u rfl (by simp only[go_sem,c]) ?_;have B:IntKind.i64.wrap (1+((aD l 6 a).1:Int))=((1+(aD l 6 a).1:Nat):Int):=by rw[wrap_i64 Om Om]; omega
 simp only[go_sem,B];have N:=cE l (show 0<8 by decide) (aD l 6 a).2;refine cY d T (o:=o) (n:=8) (a:=(aD l 6 a).2) (by decide) a1 rfl Sq ?_;have E:IntKind.i64.wrap (1+((aD l 8 (aD l 6 a).2).1:Int))=((1+(aD l 8 (aD l 6 a).2).1:Nat):Int):=by rw[wrap_i64 Om Om]; omega
 simp only[go_sem,E];refine aA (d.fmk ((1+(aD l 6 a).1:Nat):Int) ((1+(aD l 8 (aD l 6 a).2).1:Nat):Int) (by unfold cL; omega) (by unfold cL; omega)) rfl ?_;have J:¬ ((1+(aD l 8 (aD l 6 a).2).1:Nat):Int)=0:=Om;unfold uS;rw[if_neg J];simp only[go_sem];refine aQ fun q w=>?_;have y:¬ q=o:=(gZ.1 w).1;have A:¬ q=p:=(gZ.1 (gZ.1 w).2).1;have i:¬ p=q:=fun h=>A h.symm;have e:¬ o=q:=fun h=>y h.symm;simp only[go_sem,Gv,x,c,y,A,i];refine aZ (vs:=[.agg (fB l a).1.cells]) (.inr rfl) (PH.nil.set o (bJ v (fB l a).2)) ?_ (PH.aL a_ ?_) ⟨rfl,rfl⟩
 ·simp only[go_sem];rfl
 ·simp only[go_sem,c,e];rfl
structure XZ (C:Ctx):Prop extends yP C where
 frac:∀ (l:List Nat) (v:PV),Tp l v→∀ (o a:Nat),a≤l.length→aF C 1 [.ptr o 2 0 0] (PH.nil.set o (bJ v a)) (aFM l v o a)
abbrev fR (l:List RF):List (List PV):=l.map RF.cells
theorem vN (l:List RF) (x:RF):fR l++[x.cells]=fR (l++[x]):=by simp[fR]
theorem FD (l:List RF):Flat (fR l):=Flat.map l fun x c d q s rs=>by
 simp only[RF.cells,dN,a1R,a2B,or_false] at d;rcases d with rfl | rfl | rfl<;>rfl
theorem lO (l:List RF):(fR l).length=l.length:=by simp[fR]
theorem Tp.frz {l:List Nat} {v:PV} (T:Tp l v) (q s:Nat) (rs:List (List PV)):PV.cV q s rs v=v:=by
 rcases T.seen with ⟨_,rfl⟩ | rfl<;>rfl
theorem DC (l:List Nat) {a:Nat} (h:a≤l.length):∀ k,(jQ l a k).2≤l.length
 | 0=>h
 | k+1=>sW l (DC l h k)
theorem Jm (l:List Nat) (a:Nat):∀ k,(jQ l a k).1.length=k
 | 0=>rfl
 | k+1=>by simp only[jQ,a1P,a1T,Jm l a k]
def aOA (l:List Nat) (v:PV) (o a k:Nat) (r:PV) (H:PH):Prop:=r=frs (jQ l a k).1∧H=PH.nil.set o (bJ v (jQ l a k).2)
def Z5 (o:Nat) (m:Nat) (w:PV) (i:Nat):PF:=((((PF.nil.set 0 (.ptr o 2 0 0)).set 1 (.int .i64 m)).set 5 (w)).set 6 (.int .i64 i))
theorem Tf {C:Ctx} (J:XZ C) {l:List Nat} {v:PV} (T:Tp l v) (o a m:Nat) (S:m≤1000) (N:a≤l.length):NI.wp C (aX Z4.res (aOA l v o a (max m 1))) (PF.args [.ptr o 2 0 0,.int .i64 m]) (PH.nil.set o (bJ v a)):=by
 have p:∀ i:Nat,((i:Int)<(if (m:Int)<1 then 1 else (m:Int)))↔i<max m 1:=by intro i;split<;>omega
 simp only[go_sem,NI,Tg,Th,Ti,Z4];have K:aP (PH.nil.set o (bJ v a)) [(o,bJ v a)] [(.aB,3,fR [])]:=(aP.nil.new (H:=PH.nil) rfl (bJ v a)).sC 3;refine wp_loop (α:=Nat × PV × PH) (fun t=>Z5 o m t.2.1 t.1) (fun t=>t.2.2) (fun t=>t.1≤max m 1∧aP t.2.2 [(o,bJ v (jQ l a t.1).2)] [(t.2.1,3,fR (jQ l a t.1).1)]) (fun t=>max m 1-t.1) (0,.aB,PH.nil.set o (bJ v a)) ⟨a1X _,K⟩ ?_ b_ ?_
 ·unfold Z5;exact Lq
 rintro⟨k,w,R⟩ ⟨O,d⟩;simp only at O d ⊢;simp only[go_sem,Te,Tj,Z5];have A:=DC l N k;have c:=Jm l a k;by_cases hlt:k<max m 1
 ·have y:=(p k).2 hlt;simp only[go_sem,y,Tk];refine mC (J.frac l v T o _ A) (d.at 0 rfl) rfl ?_;have x:=d.set 0 rfl (bJ v (fB l (jQ l a k).2).2);have u:(1:Nat)*3≤16777216:=by decide
  simp only[go_sem,u];refine x.append 0 (src:=[(fB l (jQ l a k).2).1.cells]) rfl rfl (by unfold roomFor; rw[lO,c]; simp only[a1T,maxLen]; omega) fun Q H' E _=>?_;rw[vN] at E;simp only[go_sem,Tl,wZz k];refine aK (k+1,Q,H') ⟨hlt,E⟩ (by simp only; omega) ?_ b_;exact Lq
 ·have y:¬ ((k:Int)<(if (m:Int)<1 then 1 else (m:Int))):=fun h=>hlt ((p k).1 h);have e:k=max m 1:=Om;subst e;simp only[go_sem,y,Tn];have B:fR (jQ l a (max m 1)).1≠[]:=fun h=>by have:=congrArg List.length h;rw[lO,c] at this;simp at this
  rcases d.own 0 rfl with ⟨M,_⟩ | ⟨q,rs,rfl,_⟩
  ·exact absurd M B
  obtain⟨rs,g1,g2,g3,-,g4⟩:=d.frz 0 rfl;refine DD (vs:=[.osl q 3 0 (fR (jQ l a (max m 1)).1).length]) (.inr rfl) rfl (.step g1 (.done (H2:=PH.nil.set o (bJ v (jQ l a (max m 1)).2)) ?_ (PH.aL a_ ?_)))
  ·rw[cO,g3];exact⟨rfl,rfl⟩
  ·have:=g4.at 0 rfl;rw[this];simp only[bY.frz,a2Y,a3Q,T.frz];rfl
theorem He {C:Ctx} (d:yP C) (s:List UInt8) (n:Nat) (p:s.length≤100) (e:n<100):HD.wp C (aX zh.res (aH (.str (s++bT n)))) (PF.args [.str s,.int .i64 n]) .nil:=by
 have i:(bT n).length≤2:=by
  unfold bT;rw[Lib.decDigits];split
  ·simp
  ·rw[Lib.decDigits,dif_pos Om]; simp
 have c:¬ (((s.length+(bT n).length:Nat):Int)>9223372036854775807):=Om;simp only[go_sem,HD,Hf,Hg,zh];refine aA (d.itoa n e) rfl ?_;simp only[go_sem,Xw,c];refine bE (.inr rfl) rfl ?_;rfl
structure pT (C:Ctx):Prop extends XZ C where
 rep:∀ (l:List Nat) (v:PV),Tp l v→∀ (o a m:Nat),m≤1000→a≤l.length→aF C 5 [.ptr o 2 0 0,.int .i64 m] (PH.nil.set o (bJ v a)) (aOA l v o a (max m 1))
 name:∀ (s:List UInt8) (n:Nat),s.length≤100→n<100→aF C 29 [.str s,.int .i64 n] .nil (aH (.str (s++bT n)))
theorem avQ (l:List Nat) (i j:Nat) {a:Nat} (h:a≤l.length):(hZ l i j a).2≤l.length:=by
 unfold hZ;split
 ·exact sW l h
 ·split
  ·exact h
  ·simp only;split
   ·exact sW l (bK l 3 h)
   ·exact bK l 3 h
theorem my (l:List Nat) (i:Nat) {a:Nat} (h:a≤l.length):∀ j,(dL l i a j).2≤l.length
 | 0=>h
 | j+1=>avQ l i j (my l i h j)
theorem XH (l:List Nat) (i a:Nat):∀ j,(dL l i a j).1.length=j
 | 0=>rfl
 | j+1=>by simp only[dL,a1P,a1T,XH l i a j]
theorem VR (l:List Nat) (n i:Nat) (s:zZ) (h:s.a≤l.length):(dK l n i s).2≤l.length∧(dK l n i s).1≤s.left:=by
 unfold dK;split
 ·exact⟨bK l _ h,by have:=cE l (Om:0<s.left+1) s.a; omega⟩
 ·exact⟨h,a1O _⟩
theorem Cs (l:List Nat) (n i:Nat) {a:Nat} (h:a≤l.length):(eR l n i a).2≤l.length:=by
 unfold eR;simp only;split
 ·exact bK l 3 (sW l h)
 ·exact sW l h
theorem ll (l:List Nat) (n:Nat) {a:Nat} (h:a≤l.length):∀ i,(fM l n a i).a≤l.length∧(fM l n a i).left≤8∧(fM l n a i).start.length=i∧(fM l n a i).exit.length=i∧(fM l n a i).a0E.length=i
 | 0=>⟨h,a1O _,rfl,rfl,rfl⟩
 | i+1=>by
  obtain⟨c,u,d,e,h5⟩:=ll l n h i;have p:=VR l n i (fM l n a i) c;refine⟨?_,?_,?_,?_,?_⟩
  ·exact my l i (Cs l n i p.1) n
  ·simp only[fM]; omega
  ·simp only[fM,a1P,a1T,d]
  ·simp only[fM,a1P,a1T,e]
  ·simp only[fM,a1P,a1T,h5]
abbrev tJ (l:List (List RF)):List (List PV):=l.map fun r=>[frs r]
theorem wg (l:List (List RF)):Flat (tJ l):=Flat.map l fun x c d q s rs=>by
 simp only[a1R,a2B,or_false] at d;subst d; rfl
abbrev VQ (c d e:PV):bY:=.rows 4 [[.str [],c,d,e]]
abbrev F6:bY:=.rows 4 [[.str [],.aB,.aB,.aB]]
def fF (o o4 o6 n left i:Nat) (w:PV) (j:Nat):PF:=((((((((PF.nil.set 0 (.ptr o 2 0 0)).set 4 (.ptr o4 4 0 0)).set 5 (.int .i64 n)).set 6 (.ptr o6 4 0 0)).set 7 (.int .i64 left)).set 8 (.int .i64 i)).set 13 (w)).set 14 (.int .i64 j))
def cQ (o o4 o6 n left i:Nat):PF:=((((((PF.nil.set 0 (.ptr o 2 0 0)).set 4 (.ptr o4 4 0 0)).set 5 (.int .i64 n)).set 6 (.ptr o6 4 0 0)).set 7 (.int .i64 left)).set 8 (.int .i64 i))
theorem VV {l:List RF} (h:l.length≤1000):roomFor (fR l).length 1 56:=by
 unfold roomFor;rw[lO];simp only[maxLen]; omega
theorem ayL {C:Ctx} (V:pT C) {l:List Nat} {v:PV} (T:Tp l v) (o o4 o6 n left i a:Nat) (ha:a≤l.length) (hn:n≤100) (hi:i<n) (B:List BX) (L:List LI) (K:bV) (F:PF) (H:PH)
  (hF:(fF o o4 o6 n left i .aB 0).le F) (O:aP H ((o,bJ v a)::B) L)
  (hK:∀ w d H',(fF o o4 o6 n left i w n).le d→aP H' ((o,bJ v (dL l i a n).2)::B) (L++[(w,3,fR (dL l i a n).1)])→K (.exit 2) d H') :
  aC.wp C (.loop HB) K F H:=by
 refine wp_loop (α:=Nat × PV × PH) (fun t=>fF o o4 o6 n left i t.2.1 t.1) (fun t=>t.2.2) (fun t=>t.1≤n∧aP t.2.2 ((o,bJ v (dL l i a t.1).2)::B) (L++[(t.2.1,3,fR (dL l i a t.1).1)])) (fun t=>n-t.1) (0,.aB,H) ⟨a1X _,O.sC 3⟩ hF b_ ?_;rintro⟨j,w,H0⟩ ⟨hj,O⟩;simp only at hj O ⊢;have N:=my l i ha j;have δ:=XH l i a j;have e1:IntKind.i64.wrap ((i:Int)+1)=((i+1:Nat):Int):=dC Om;simp only[go_sem,HB,G8,fF];by_cases hlt:j<n
 ·have A:(j:Int)<(n:Nat):=Om;simp only[go_sem,A,G9];refine aA (V.int 0 (by unfold cL; omega)) rfl ?_;simp only[go_sem];refine aQ fun p hp=>?_;have e:=O.new hp (.rows 3 [jJ.cells]);simp only[go_sem,Ha,e1];have fin:∀ (d:PF) (H':PH),(fF o o4 o6 n left i w j).le d→d 15=some (.ptr p 3 0 0)→aP H' ((o,bJ v (hZ l i j (dL l i a j).2).2)::B++[(p,.rows 3 [(hZ l i j (dL l i a j).2).1.cells])]) (L++[(w,3,fR (dL l i a j).1)]) →
    aC.wp C (.region WE) (fQ 3 (gX C (aC.wp C (.region WF)) (jS (fun (t:Nat × PV × PH)=>fF o o4 o6 n left i t.2.1 t.1) (fun t=>t.2.2) (fun t=>t.1≤n∧aP t.2.2 ((o,bJ v (dL l i a t.1).2)::B) (L++[(t.2.1,3,fR (dL l i a t.1).1)])) (fun t=>n-t.1) (n-j) K))) d H':=by
   intro d H' c E Q;have f0:d 0=some (.ptr o 2 0 0):=c 0 _ (by unfold fF; simp only[go_sem]);have f4:d 4=some (.ptr o4 4 0 0):=c 4 _ (by unfold fF; simp only[go_sem]);have f5:d 5=some (.int .i64 n):=c 5 _ (by unfold fF; simp only[go_sem]);have f6:d 6=some (.ptr o6 4 0 0):=c 6 _ (by unfold fF; simp only[go_sem]);have f7:d 7=some (.int .i64 left):=c 7 _ (by unfold fF; simp only[go_sem]);have f8:d 8=some (.int .i64 i):=c 8 _ (by unfold fF; simp only[go_sem]);have f13:d 13=some w:=c 13 _ (by unfold fF; simp only[go_sem]);have f14:d 14=some (.int .i64 j):=c 14 _ (by unfold fF; simp only[go_sem]);have β:H' p=some (.rows 3 [(hZ l i j (dL l i a j).2).1.cells]):=Q.box (p,.rows 3 [(hZ l i j (dL l i a j).2).1.cells]) (by simp);have X:(1:Nat)*3≤16777216:=by decide
   simp only[go_sem,WE,f13,E,β,X];refine Q.append (v:=w) (s:=3) (rows:=fR (dL l i a j).1) L.length (src:=[(hZ l i j (dL l i a j).2).1.cells]) (by simp) rfl (VV Om) fun w' H2 h2 _=>?_;rw[vN,a4P _ _ (a1O _),Nat.sub_self] at h2;simp only[go_sem,WF,f14,wZz j];refine aK (α:=Nat × PV × PH) (j+1,w',H2) ⟨hlt,h2.sub (List.sublist_append_left ..) (a3N.refl _)⟩ (by simp only; omega) ?_ b_;unfold fF;exact Lq
  simp only[aC.wp,go_sem] at fin;have U:∀ x:RF,PH.set (PH.set H0 p (.rows 3 [jJ.cells])) p (.rows 3 [x.cells])=PH.set H0 p (.rows 3 [x.cells]):=fun x=>PH.set_set p _ _;have draw:∀ (d:PF) (R:PH) (a1:Nat),a1≤l.length→(fF o o4 o6 n left i w j).le d→d 15=some (.ptr p 3 0 0)→aP R ((o,bJ v a1)::B++[(p,.rows 3 [jJ.cells])]) (L++[(w,3,fR (dL l i a j).1)])→hZ l i j (dL l i a j).2=fB l a1→∀ K',(∀ M H2,(fF o o4 o6 n left i w j).le M→M 15=some (.ptr p 3 0 0)→aP H2 ((o,bJ v (hZ l i j (dL l i a j).2).2)::B++[(p,.rows 3 [(hZ l i j (dL l i a j).2).1.cells])]) (L++[(w,3,fR (dL l i a j).1)])→K' M H2) →
    wpOps C WD K' d R:=by
   intro d R a1 Z c E e J K' Y;have f0:d 0=some (.ptr o 2 0 0):=c 0 _ (by unfold fF; simp only[go_sem]);simp only[go_sem,WD,f0];refine mC (V.frac l v T o a1 Z) (e.at 0 rfl) rfl ?_;have y:aP (R.set o (bJ v (fB l a1).2)) ((o,bJ v (fB l a1).2)::B++[(p,.rows 3 [jJ.cells])]) (L++[(w,3,fR (dL l i a j).1)]):=e.set 0 rfl _;have γ:=y.xF;simp only[go_sem,E,γ];refine Y _ _ ?_ (by simp only[go_sem,E]) ?_
   ·have g:=fun (q:Nat) u h=>c q u h;unfold fF at g ⊢;refine c_ (c_ (c_ (c_ (c_ (c_ (c_ (c_ d_ ?_) ?_) ?_) ?_) ?_) ?_) ?_) ?_
    ·simp only[go_sem,f0]
    ·simp only[go_sem,g 4 _ rfl]
    ·simp only[go_sem,g 5 _ rfl]
    ·simp only[go_sem,g 6 _ rfl]
    ·simp only[go_sem,g 7 _ rfl]
    ·simp only[go_sem,g 8 _ rfl]
    ·simp only[go_sem,g 13 _ rfl]
    ·simp only[go_sem,g 14 _ rfl]
   ·rw[J];exact y.DH (.rows 3 [(fB l a1).1.cells])
  by_cases S:j=i+1
  ·have J:hZ l i j (dL l i a j).2=fB l (dL l i a j).2:=by unfold hZ; rw[if_pos S]
   simp only[go_sem,bN (Om:(j:Int)=((i+1:Nat):Int))];refine draw _ _ _ N (by unfold fF; exact Lq) rfl e J _ ?_;intro M H2 k1 k2 k3;exact fin M H2 k1 k2 k3
  ·simp only[go_sem,bF (Om:¬ (j:Int)=((i+1:Nat):Int))];by_cases W:j=i
   ·have J:hZ l i j (dL l i a j).2=(jJ,(dL l i a j).2):=by unfold hZ; rw[if_neg S,if_pos W]
    simp only[go_sem,bR (Om:(j:Int)=(i:Int))];exact fin _ _ (by unfold fF; exact Lq) rfl (by rw[J]; exact e)
   ·simp only[go_sem,dX (Om:¬ (j:Int)=(i:Int))];refine cY V.toyP T (o:=o) (n:=3) (a:=(dL l i a j).2) (by decide) N rfl (e.at 0 rfl) ?_;have y:aP _ ((o,bJ v (aD l 3 (dL l i a j).2).2)::B++[(p,.rows 3 [jJ.cells])]) (L++[(w,3,fR (dL l i a j).1)]):=e.set 0 rfl _;by_cases c3:(aD l 3 (dL l i a j).2).1=0
    ·have J:hZ l i j (dL l i a j).2=fB l (aD l 3 (dL l i a j).2).2:=by unfold hZ; rw[if_neg S,if_neg W]; simp only[c3,if_true]
     simp only[go_sem,bN (show (((aD l 3 (dL l i a j).2).1:Nat):Int)=0 by omega)];refine draw _ _ _ (bK l 3 N) (by unfold fF; exact Lq) rfl y J _ ?_;intro M H2 k1 k2 k3;exact fin M H2 k1 k2 k3
    ·have J:hZ l i j (dL l i a j).2=(jJ,(aD l 3 (dL l i a j).2).2):=by unfold hZ; rw[if_neg S,if_neg W]; simp only[c3,if_false]
     simp only[go_sem,bF (show ¬ (((aD l 3 (dL l i a j).2).1:Nat):Int)=0 by omega)];exact fin _ _ (by unfold fF; exact Lq) rfl (by rw[J]; exact y)
 ·have A:¬ (j:Int)<(n:Nat):=Om;have:j=n:=Om;subst this;simp only[go_sem,A];exact hK w _ _ (by unfold fF; exact Lq) O
abbrev qF (o o4 o6:Nat) (v c d e:PV) (a:Nat):List BX:=[(o,bJ v a),(o4,F6),(o6,VQ c d e)]
abbrev tR (s:zZ) (c d e:PV):List LI:=[(c,3,fR s.start),(d,1,tJ s.a0E),(e,3,fR s.exit)]
theorem akT {C:Ctx} (J:pT C) {l:List Nat} {v:PV} (T:Tp l v) (o o4 o6 n i:Nat) (s:zZ) (E:s.a≤l.length) (U:s.left≤8) (V:n≤100) (hi:i<n) (B:List BX) (L:List LI) (rest:aC) (K:bV) (F:PF) (H:PH)
  (d:(cQ o o4 o6 n s.left i).le F) (x:aP H ((o,bJ v s.a)::B) L)
  (p:∀ u H',(cQ o o4 o6 n (s.left-(dK l n i s).1) i).le u→u 9=some (.int .i64 ((dK l n i s).1:Nat))→aP H' ((o,bJ v (dK l n i s).2)::B) L→aC.wp C rest K u H') :
  aC.wp C (.seq (.region ln) (.seq (.seq (.region lx) (.cond (.tmp 29) (.region lz) .skip)) (.seq (.region QT) rest))) K F H:=by
 have f0:F 0=some (.ptr o 2 0 0):=d 0 _ (by unfold cQ; simp only[go_sem]);have R:F 4=some (.ptr o4 4 0 0):=d 4 _ (by unfold cQ; simp only[go_sem]);have O:F 5=some (.int .i64 n):=d 5 _ (by unfold cQ; simp only[go_sem]);have f6:F 6=some (.ptr o6 4 0 0):=d 6 _ (by unfold cQ; simp only[go_sem]);have f7:F 7=some (.int .i64 s.left):=d 7 _ (by unfold cQ; simp only[go_sem]);have Q:F 8=some (.int .i64 i):=d 8 _ (by unfold cQ; simp only[go_sem]);have M:IntKind.i64.wrap ((i:Int)+1)=((i+1:Nat):Int):=dC Om;have S:=(VR l n i s E).2;have e:IntKind.i64.wrap ((s.left:Int)-((dK l n i s).1:Int))=((s.left-(dK l n i s).1:Nat):Int):=by rw[wrap_i64 Om Om]; omega
 simp only[go_sem,ln,f7,lx,Q,O,M];by_cases c:i+1<n
 ·have w:((i+1:Nat):Int)<(n:Nat):=Om;have A:dK l n i s=aD l (s.left+1) s.a:=by unfold dK; rw[if_pos c]
  have N:IntKind.i64.wrap ((s.left:Int)+1)=((s.left+1:Nat):Int):=dC Om;rw[A] at p e;simp only[go_sem,w,lz,f0,f7,N];refine cY J.toyP T (o:=o) (n:=s.left+1) (a:=s.a) Om E rfl x.aOI ?_;have y:=x.aKJ (bJ v (aD l (s.left+1) s.a).2);simp only[go_sem,QT,f7,e];refine p _ _ ?_ rfl y;unfold cQ;exact Lq
 ·have w:¬ ((i+1:Nat):Int)<(n:Nat):=Om;have A:dK l n i s=(s.left,s.a):=by unfold dK; rw[if_neg c]
  rw[A] at p e;simp only at p e;simp only[go_sem,w,QT,f7,e];refine p _ _ ?_ rfl x;unfold cQ;exact Lq
theorem Zr {C:Ctx} (O:pT C) {l:List Nat} {v:PV} (o o4 o6 n i left k a:Nat) (hk:k≤8) (hi:i<n) (hn:n≤100) (s:zZ) (hs:s.start.length=i) (N u w:PV) (B:List BX) (rest:aC) (K:bV) (F:PF) (H:PH)
  (e:(cQ o o4 o6 n left i).le F) (Q:F 9=some (.int .i64 k)) (V:aP H (qF o o4 o6 v N u w a++B) (tR s N u w))
  (W:∀ d M H' B',(cQ o o4 o6 n left i).le M→aP H' (qF o o4 o6 v d u w a++B') (tR { s with start:=s.start++[mkT (k:Nat) 8] } d u w)→aC.wp C rest K M H') :
  aC.wp C (.seq (.region VW) (.seq (.region VX) rest)) K F H:=by
 have f0:F 0=some (.ptr o 2 0 0):=e 0 _ (by unfold cQ; simp only[go_sem]);have Z:F 4=some (.ptr o4 4 0 0):=e 4 _ (by unfold cQ; simp only[go_sem]);have f5:F 5=some (.int .i64 n):=e 5 _ (by unfold cQ; simp only[go_sem]);have f6:F 6=some (.ptr o6 4 0 0):=e 6 _ (by unfold cQ; simp only[go_sem]);have f7:F 7=some (.int .i64 left):=e 7 _ (by unfold cQ; simp only[go_sem]);have f8:F 8=some (.int .i64 i):=e 8 _ (by unfold cQ; simp only[go_sem]);simp only[go_sem,VW,Q];refine aA (O.fmk (k:Int) 8 (by unfold cL; omega) (by unfold cL; omega)) rfl ?_;unfold uS;rw[if_neg (by decide)];simp only[go_sem];refine aQ fun p X=>?_;have c:=V.new X (.rows 3 [(mkT (k:Nat) 8).cells]);have R:=c.at 2 rfl;have S:=c.xF;have A:(1:Nat)*3≤16777216:=by decide
 have Y:∀ y,PH.set (PH.set H p (.rows 3 [[PV.bool false,PV.aB,PV.aB]])) p y=PH.set H p y:=fun y=>PH.set_set p _ _;simp only[go_sem,VX,f6,R,S,A];refine c.append 0 (src:=[(mkT (k:Nat) 8).cells]) rfl rfl (VV Om) fun d H2 E J=>?_;rw[vN] at E J; rw[lO] at J;obtain⟨q,rfl⟩:=J (by simp);have x:=E.at 2 rfl;simp only[go_sem,x,a1R,a2B,or_false,forall_eq];have U:=E.set 2 rfl (VQ (.osl q 3 0 (s.start++[mkT (k:Nat) 8]).length) u w);refine W _ _ _ (B++[(p,.rows 3 [(mkT (k:Nat) 8).cells])]) ?_ U;unfold cQ;exact Lq
theorem akS {C:Ctx} (O:pT C) {l:List Nat} {v:PV} (T:Tp l v) (o o4 o6 n i left a:Nat) (ha:a≤l.length) (hi:i<n) (hn:n≤100) (s:zZ) (hs:s.exit.length=i) (u w M:PV) (B:List BX) (rest:aC) (K:bV) (F:PF) (H:PH)
  (J:(cQ o o4 o6 n left i).le F) (hH:aP H (qF o o4 o6 v u w M a++B) (tR s u w M))
  (hK:∀ E d H' B',(cQ o o4 o6 n left i).le d→aP H' (qF o o4 o6 v u w E (eR l n i a).2++B') (tR { s with exit:=s.exit++[(eR l n i a).1] } u w E)→aC.wp C rest K d H') :
  aC.wp C (.seq (.region VY) (.seq (.seq (.region VZ) (.cond (.tmp 58) (.region WA) .skip)) (.seq (.region HC) rest))) K F H:=by
 have f0:F 0=some (.ptr o 2 0 0):=J 0 _ (by unfold cQ; simp only[go_sem]);have f4:F 4=some (.ptr o4 4 0 0):=J 4 _ (by unfold cQ; simp only[go_sem]);have f5:F 5=some (.int .i64 n):=J 5 _ (by unfold cQ; simp only[go_sem]);have f6:F 6=some (.ptr o6 4 0 0):=J 6 _ (by unfold cQ; simp only[go_sem]);have f7:F 7=some (.int .i64 left):=J 7 _ (by unfold cQ; simp only[go_sem]);have f8:F 8=some (.int .i64 i):=J 8 _ (by unfold cQ; simp only[go_sem]);have e1:IntKind.i64.wrap ((i:Int)+1)=((i+1:Nat):Int):=dC Om;simp only[go_sem,VY,f0];refine mC (O.frac l v T o a ha) (hH.at 0 rfl) rfl ?_;have X:=hH.set 0 rfl (bJ v (fB l a).2);simp only[go_sem];refine aQ fun p hp=>?_;have y:=X.new hp (.rows 3 [(fB l a).1.cells]);simp only[go_sem,VZ,f8,f5,e1];have fin:∀ (d:PF) (H':PH),(cQ o o4 o6 n left i).le d→d 12=some (.ptr p 3 0 0)→aP H' (qF o o4 o6 v u w M (eR l n i a).2++B++[(p,.rows 3 [(eR l n i a).1.cells])]) (tR s u w M)→wpOps C HC (aC.wp C rest K) d H':=by
  intro d H' e R x;have q0:d 0=some (.ptr o 2 0 0):=e 0 _ (by unfold cQ; simp only[go_sem]);have q4:d 4=some (.ptr o4 4 0 0):=e 4 _ (by unfold cQ; simp only[go_sem]);have q5:d 5=some (.int .i64 n):=e 5 _ (by unfold cQ; simp only[go_sem]);have q6:d 6=some (.ptr o6 4 0 0):=e 6 _ (by unfold cQ; simp only[go_sem]);have q7:d 7=some (.int .i64 left):=e 7 _ (by unfold cQ; simp only[go_sem]);have q8:d 8=some (.int .i64 i):=e 8 _ (by unfold cQ; simp only[go_sem]);have g6:=x.at 2 rfl;have U:=x.xF;have V:(1:Nat)*3≤16777216:=by decide
  simp only[go_sem,HC,q6,g6,R,U,V];refine x.append 2 (src:=[(eR l n i a).1.cells]) rfl rfl (VV Om) fun E H2 W Z=>?_;rw[vN] at W Z; rw[lO] at Z;obtain⟨q,rfl⟩:=Z (by simp);have S:=W.at 2 rfl;simp only[go_sem,S,a1R,a2B,or_false,forall_eq];have h3:=W.set 2 rfl (VQ u w (.osl q 3 0 (s.exit++[(eR l n i a).1]).length));refine hK _ _ _ (B++[(p,.rows 3 [(eR l n i a).1.cells])]) ?_ h3;unfold cQ;exact Lq
 by_cases c:i+1<n
 ·have Q:((i+1:Nat):Int)<(n:Nat):=Om;have Y:=sW l ha;simp only[go_sem,Q,f0];refine cY O.toyP T (o:=o) (n:=3) (a:=(fB l a).2) (by decide) Y rfl (y.at 0 rfl) ?_;have A:=y.set 0 rfl (bJ v (aD l 3 (fB l a).2).2);by_cases c3:(aD l 3 (fB l a).2).1=0
  ·have N:eR l n i a=(jJ,(aD l 3 (fB l a).2).2):=by unfold eR; simp only[if_pos c,c3,if_true]
   have U:=aP.xF (B:=qF o o4 o6 v u w M (aD l 3 (fB l a).2).2++B) A;simp only[go_sem,bN (show (((aD l 3 (fB l a).2).1:Nat):Int)=0 by omega),WA];refine aA (O.int 0 (by unfold cL; omega)) rfl ?_;simp only[go_sem,U];refine fin _ _ ?_ rfl ?_
   ·unfold cQ;exact Lq
   ·rw[N];exact aP.DH (B:=qF o o4 o6 v u w M (aD l 3 (fB l a).2).2++B) A (.rows 3 [jJ.cells])
  ·have N:eR l n i a=((fB l a).1,(aD l 3 (fB l a).2).2):=by unfold eR; simp only[if_pos c,c3,if_false]
   simp only[go_sem,bF (show ¬ (((aD l 3 (fB l a).2).1:Nat):Int)=0 by omega)];refine fin _ _ ?_ rfl ?_
   ·unfold cQ;exact Lq
   ·rw[N];exact A
 ·have Q:¬ ((i+1:Nat):Int)<(n:Nat):=Om;have N:eR l n i a=fB l a:=by unfold eR; simp only[if_neg c]
  simp only[go_sem,Q];refine fin _ _ ?_ rfl ?_
  ·unfold cQ;exact Lq
  ·rw[N];exact y
def auY (l:List Nat) (v:PV) (o dY a:Nat) (r:PV) (H:PH):Prop:=r=.agg (pN l dY a).1.cells∧H=PH.nil.set o (bJ v (pN l dY a).2)
theorem amE {l:List (List RF)} (h:l.length≤1000):roomFor (tJ l).length 1 24:=by
 unfold roomFor;simp only[a1K,maxLen]; omega
theorem amF (l:List (List RF)) (x:List RF):tJ l++[[frs x]]=tJ (l++[x]):=by simp[tJ]
theorem Zq {C:Ctx} (Z:pT C) {l:List Nat} {v:PV} (T:Tp l v) (o o4 o6 n left i a:Nat) (ha:a≤l.length) (hn:n≤100) (hi:i<n) (s:zZ) (hs:s.a0E.length=i) (u M A:PV) (B:List BX) (K:bV) (F:PF) (H:PH)
  (E:(cQ o o4 o6 n left i).le F) (hH:aP H (qF o o4 o6 v u M A a++B) (tR s u M A))
  (hK:∀ y x U H' B',(cQ o o4 o6 n left i).le U→(∃ q,x=.osl q 3 0 n)→aP H' (qF o o4 o6 v u y A (dL l i a n).2++B') [(u,3,fR s.start),(y,1,tJ s.a0E++[[x]]),(A,3,fR s.exit),(x,3,fR (dL l i a n).1)]→K .normal U H') :
  aC.wp C (.seq (.region WB) (.seq (.seq (.region WC) (.block 2 (.loop HB))) (.region WG))) K F H:=by
 have f0:F 0=some (.ptr o 2 0 0):=E 0 _ (by unfold cQ; simp only[go_sem]);have f4:F 4=some (.ptr o4 4 0 0):=E 4 _ (by unfold cQ; simp only[go_sem]);have f5:F 5=some (.int .i64 n):=E 5 _ (by unfold cQ; simp only[go_sem]);have f6:F 6=some (.ptr o6 4 0 0):=E 6 _ (by unfold cQ; simp only[go_sem]);have f7:F 7=some (.int .i64 left):=E 7 _ (by unfold cQ; simp only[go_sem]);have f8:F 8=some (.int .i64 i):=E 8 _ (by unfold cQ; simp only[go_sem]);simp only[go_sem,WB,WC];refine ayL (C:=C) Z T o o4 o6 n left i a ha hn hi ([(o4,F6),(o6,VQ u M A)]++B) (tR s u M A) _ _ H ?_ hH ?_
 ·unfold fF
  (repeat' (first|exact d_|refine c_ ?_ ?_))<;>first|(simp only[go_sem,f0,f4,f5,f6,f7,f8]<;>rfl)|rfl
 intro w e H1 c p;have d:=XH l i a n;have hw:∃ q,w=.osl q 3 0 n:=by
  rcases p.own (v:=w) 3 rfl with ⟨J,_⟩ | ⟨q,rs,J,_⟩
  ·have:=congrArg List.length J;rw[lO,d] at this;simp at this; omega
  ·rw[lO,d] at J;exact⟨q,J⟩
 obtain⟨q,rfl⟩:=hw;have g0:e 0=some (.ptr o 2 0 0):=c 0 _ (by unfold fF; simp only[go_sem]);have g4:e 4=some (.ptr o4 4 0 0):=c 4 _ (by unfold fF; simp only[go_sem]);have g5:e 5=some (.int .i64 n):=c 5 _ (by unfold fF; simp only[go_sem]);have V:e 6=some (.ptr o6 4 0 0):=c 6 _ (by unfold fF; simp only[go_sem]);have g7:e 7=some (.int .i64 left):=c 7 _ (by unfold fF; simp only[go_sem]);have g8:e 8=some (.int .i64 i):=c 8 _ (by unfold fF; simp only[go_sem]);have O:e 13=some (.osl q 3 0 n):=c 13 _ (by unfold fF; simp only[go_sem]);have b6:=p.at 2 rfl;have Q:(1:Nat)*1≤16777216:=by decide
 simp only[go_sem,WG,V,b6,O,Q,a1R,a2B,or_false,forall_eq];refine p.append 1 (src:=[[.osl q 3 0 n]]) rfl Sq (amE Om) fun y H2 W S=>?_;obtain⟨Y,rfl⟩:=S (by simp);have N:=W.at 2 rfl;simp only[go_sem,N,a1R,a2B,or_false,forall_eq];have X:=W.set 2 rfl (VQ u (.osl Y 1 0 (tJ s.a0E++[[PV.osl q 3 0 n]]).length) A);have R:(tJ s.a0E++[[(PV.osl q 3 0 n:PV)]]).length=s.a0E.length+1:=by simp
 rw[R] at X ⊢;refine hK (.osl Y 1 0 (s.a0E.length+1)) (.osl q 3 0 n) _ _ B ?_ ⟨q,rfl⟩ X;unfold cQ
 (repeat' (first|exact d_|refine c_ ?_ ?_))<;>first|(simp only[go_sem,g0,g4,g5,V,g7,g8]<;>rfl)|rfl
theorem S3 {C:Ctx} (J:pT C) {l:List Nat} {v:PV} (T:Tp l v) (o dY a:Nat) (hm:0<dY) (γ:dY≤50) (ha:a≤l.length):NF.wp C (aX Zp.res (auY l v o dY a)) (PF.args [.ptr o 2 0 0,.int .i64 dY]) (PH.nil.set o (bJ v a)):=by
 have h0:aP (PH.nil.set o (bJ v a)) [(o,bJ v a)] []:=aP.nil.new (H:=PH.nil) rfl (bJ v a);simp only[go_sem,NF,S4,Zp];refine aQ fun o4 Z=>?_;have F:=h0.new Z F6;simp only[go_sem,S5];refine cY J.toyP T (o:=o) (n:=dY) (a:=a) Om ha Sq (F.at 0 rfl) ?_;have h2:=F.set 0 rfl (bJ v (aD l dY a).2);have hN:=cE l hm a;have X:=bK l dY ha;have e1:IntKind.i64.wrap (1+((aD l dY a).1:Int))=((1+(aD l dY a).1:Nat):Int):=by rw[wrap_i64 Om Om]; omega
 have Y:∀ s:zZ,s=fM l (1+(aD l dY a).1) (aD l dY a).2 (1+(aD l dY a).1)→pN l dY a=(⟨[],s.start,s.a0E,s.exit⟩,s.a):=fun s hs=>by rw[hs]; rfl
 have W:∀ r H,auY l v o dY a r H↔r=.agg (pN l dY a).1.cells∧H=PH.nil.set o (bJ v (pN l dY a).2):=fun _ _=>Iff.rfl;generalize hn:1+(aD l dY a).1=n at *
 generalize hb:(aD l dY a).2=b at *
 have δ:0<n:=Om;have c:n≤100:=Om;simp only[go_sem,e1,S6];refine aQ fun o6 β=>?_;have h3:=((h2.new β F6).sC 3).sC 1;have h4:=h3.sC 3;simp only[go_sem,S7,S8];refine wp_loop (α:=Nat × PV × PV × PV × PH) (fun t=>cQ o o4 o6 n (fM l n b t.1).left t.1) (fun t=>t.2.2.2.2)
  (fun t=>t.1≤n∧aP t.2.2.2.2 (qF o o4 o6 v t.2.1 t.2.2.1 t.2.2.2.1 (fM l n b t.1).a) (tR (fM l n b t.1) t.2.1 t.2.2.1 t.2.2.2.1)) (fun t=>n-t.1) (0,.aB,.aB,.aB,_) ⟨a1X _,h4⟩ ?_ b_ ?_
 ·unfold cQ
  (repeat' (first|exact d_|refine c_ ?_ ?_))<;>first|(simp only[go_sem,fM]<;>rfl)|rfl
 rintro⟨i,w1,K,M,H0⟩ ⟨hi,B⟩;simp only at hi B ⊢;obtain⟨k1,k2,k3,k4,k5⟩:=ll l n X i;simp only[go_sem,G7,S9,cQ];by_cases hlt:i<n
 ·have y:(i:Int)<(n:Nat):=Om;have A:fM l n b (i+1)=⟨(fM l n b i).start++[mkT ((dK l n i (fM l n b i)).1:Nat) 8],(fM l n b i).exit++[(eR l n i (dK l n i (fM l n b i)).2).1],(fM l n b i).a0E++[(dL l i (eR l n i (dK l n i (fM l n b i)).2).2 n).1],(fM l n b i).left-(dK l n i (fM l n b i)).1,(dL l i (eR l n i (dK l n i (fM l n b i)).2).2 n).2⟩:=rfl;have kl:=VR l n i (fM l n b i) k1;have ke:=Cs l n i kl.1;generalize hs:fM l n b i=s at *
  simp only[go_sem,y];refine akT (C:=C) J T o o4 o6 n i s k1 k2 c hlt [(o4,F6),(o6,VQ w1 K M)] (tR s w1 K M) _ _ _ H0 (by unfold cQ; exact Lq) B ?_;intro F1 H1 N f9 R;refine Zr (C:=C) (l:=l) J o o4 o6 n i _ (dK l n i s).1 (dK l n i s).2 Om hlt c s k3 w1 K M [] _ _ F1 H1 N f9 R ?_;intro d F2 H2 B2 O S;refine akS (C:=C) J T o o4 o6 n i _ (dK l n i s).2 kl.1 hlt c { s with start:=s.start++[mkT ((dK l n i s).1:Nat) 8] } k4 d K M B2 _ _ F2 H2 O S ?_;intro e F3 H3 B3 Q U;refine Zq (C:=C) J T o o4 o6 n _ i (eR l n i (dK l n i s).2).2 ke c hlt { s with start:=s.start++[mkT ((dK l n i s).1:Nat) 8],exit:=s.exit++[(eR l n i (dK l n i s).2).1] } k5 d K e B3 _ F3 H3 Q U ?_;rintro u ε E H4 B4 p ⟨q,rfl⟩ V;have g0:E 0=some (.ptr o 2 0 0):=p 0 _ (by unfold cQ; simp only[go_sem]);have g4:E 4=some (.ptr o4 4 0 0):=p 4 _ (by unfold cQ; simp only[go_sem]);have g5:E 5=some (.int .i64 n):=p 5 _ (by unfold cQ; simp only[go_sem]);have g6:E 6=some (.ptr o6 4 0 0):=p 6 _ (by unfold cQ; simp only[go_sem]);have g7:E 7=some (.int .i64 (s.left-(dK l n i s).1:Nat)):=p 7 _ (by unfold cQ; simp only[go_sem]);have g8:E 8=some (.int .i64 i):=p 8 _ (by unfold cQ; simp only[go_sem]);obtain⟨rs,z1,z2,z3,z4,z5⟩:=V.frz 3 rfl;have y1:=z4 0 _ (by decide) rfl;have y2:=z4 1 _ (by decide) rfl;have y3:=z4 2 _ (by decide) rfl;simp only at y1 y2 y3;have y4:=T.frz q 3 rs;simp only[go_sem,Hb,g8,wZz i];refine tc (i+1,d,u,e,H4.frz q 3 rs) z1 ⟨hlt,?_⟩ (by simp only; omega) ?_ b_
  ·rw[A];have eB:(qF o o4 o6 v d u e (dL l i (eR l n i (dK l n i s).2).2 n).2).map (fun b=>(b.1,b.2.frz q 3 rs))=qF o o4 o6 v d u e (dL l i (eR l n i (dK l n i s).2).2 n).2:=by simp only[a2Y,a3Q,bY.frz,y1,y2,y3,y4];rfl
   have eL:([(d,3,fR (s.start++[mkT ((dK l n i s).1:Nat) 8])),(u,1,tJ s.a0E++[[.osl q 3 0 n]]),(e,3,fR (s.exit++[(eR l n i (dK l n i s).2).1]))]:List LI).map (fun x=>(x.1,x.2.1,x.2.2.map fun r=>r.map (PV.cV q 3 rs))) =
     tR ⟨s.start++[mkT ((dK l n i s).1:Nat) 8],s.exit++[(eR l n i (dK l n i s).2).1],s.a0E++[(dL l i (eR l n i (dK l n i s).2).2 n).1],s.left-(dK l n i s).1,(dL l i (eR l n i (dK l n i s).2).2 n).2⟩ d u e:=by
    have e2:(tJ s.a0E++[[PV.osl q 3 0 n]]).map (fun r=>r.map (PV.cV q 3 rs))=tJ (s.a0E++[(dL l i (eR l n i (dK l n i s).2).2 n).1]):=by rw[a2N,wg,a2Y,a3Q,a2Y,a3Q,z2,amF]
    show ([(d,3,(fR (s.start++[mkT ((dK l n i s).1:Nat) 8])).map (fun r=>r.map (PV.cV q 3 rs))),(u,1,(tJ s.a0E++[[PV.osl q 3 0 n]]).map (fun r=>r.map (PV.cV q 3 rs))),(e,3,(fR (s.exit++[(eR l n i (dK l n i s).2).1])).map (fun r=>r.map (PV.cV q 3 rs)))]:List LI)=_;rw[FD,e2,FD]
   rw[← eB,← eL];exact z5.sub (by rw[a2N]; exact List.sublist_append_left ..) (a3N.refl _)
  ·rw[A]
   (repeat' (first|exact d_|refine c_ ?_ ?_))<;>first|(simp only[go_sem,g0,g4,g5,g6,g7,g8]<;>rfl)|rfl
 ·have y:¬ (i:Int)<(n:Nat):=Om;have:i=n:=Om;subst this;simp only[go_sem,y,Hc];have b4:=B.at 1 rfl;have b6:=B.at 2 rfl;have osl:∀ {w:PV} {z:Nat} {rows:List (List PV)},rows.length=i→bP H0 z w rows→∃ q,w=.osl q z 0 i:=by
   intro w z rows hr hO;rcases hO with ⟨F,_⟩ | ⟨q,rs,F,_⟩
   ·rw[F] at hr; simp at hr; omega
   ·exact⟨q,by rw[F,hr]⟩
  obtain⟨q1,rfl⟩:=osl (by rw[lO,k3]) (B.own 0 rfl);obtain⟨q2,rfl⟩:=osl (by rw[a1K,k5]) (B.own 1 rfl);obtain⟨q3,rfl⟩:=osl (by rw[lO,k4]) (B.own 2 rfl);have hR:=Y (fM l i b i) rfl;simp only[go_sem,b6,b4,a1R,a2B,or_false,forall_eq,forall_eq_or_imp];have x1:=B.set 1 rfl (VQ (.osl q1 3 0 i) (.osl q2 1 0 i) (.osl q3 3 0 i));obtain⟨r1,s1,s2,s3,s4,s5⟩:=x1.frz 0 rfl;have u2:=s4 1 _ (by decide) rfl;have u3:=s4 2 _ (by decide) rfl;simp only at u2 u3;have u4:=T.frz q1 3 r1;obtain⟨r2,t1,t2,t3,t4,t5⟩:=s5.frz 0 rfl;have m3:=t4 1 _ (by decide) rfl;simp only at m3;have m4:=T.frz q2 1 r2;obtain⟨r3,n1,n2,n3,n4,n5⟩:=t5.frz 0 rfl;have n4:=T.frz q3 3 r3;refine DD (vs:=[.agg [.str [],.osl q1 3 0 i,.osl q2 1 0 i,.osl q3 3 0 i]]) (.inr rfl) ?_ (.step s1 (.step t1 (.step n1 (.done (H2:=PH.nil.set o (bJ v (fM l i b i).a)) ?_ (PH.aL a_ ?_)))))
  ·simp only[go_sem]
  ·rw[W,hR];refine⟨?_,rfl⟩;simp only[cO,PV.frz,PV.rV,a2Y,a3Q,s2,u2,u3,t2,m3,n2];simp only[PV.cV,FD _ _ _ _,wg _ _ _ _]
  ·have:=n5.at 0 rfl;rw[this];simp only[bY.frz,a2Y,a3Q,u4,m4,n4];rfl
structure lK (C:Ctx):Prop extends pT C where
 law:∀ (l:List Nat) (v:PV),Tp l v→∀ (o dY a:Nat),0<dY→dY≤50→a≤l.length→aF C 2 [.ptr o 2 0 0,.int .i64 dY] (PH.nil.set o (bJ v a)) (auY l v o dY a)
structure GOk (l:List Nat) (aZZ:Nat) (s:GS):Prop where
 a0I:s.a0I.length≤35
 a0S:s.a0S.length≤aZZ
 a:s.a≤l.length
theorem UZ {l:List Nat} {mc aZZ dom:Nat} {s:GS} (h:GOk l aZZ s):∀ i,GOk l aZZ (iH l mc aZZ dom s i)∧(iH l mc aZZ dom s i).a0I=s.a0I
 | 0=>⟨h,rfl⟩
 | i+1=>by
  obtain⟨⟨c,p,d⟩,e⟩:=UZ (mc:=mc) (dom:=dom) h i;simp only[iH];split
  ·exact⟨⟨c,by simp only[a1P,a1T]; omega,bK l mc d⟩,e⟩
  ·exact⟨⟨c,p,d⟩,e⟩
theorem Qg {l:List Nat} {level dom aZZ:Nat} {s:GS} (h:GOk l aZZ s) (c:pC aZZ s=false):GOk l aZZ (kG l level dom s)∧∃ x:cN,(kG l level dom s).a0I=s.a0I++[x]∧x.level=(level:Int)∧x.parent=(dom:Int):=by
 obtain⟨i,d,e⟩:=h;unfold pC at c;rw[Bool.or_eq_false_iff] at c;have p:=of_decide_eq_false c.2;refine⟨⟨?_,d,?_⟩,_,rfl,rfl,rfl⟩
 ·simp only[kG,a1P,a1T]; omega
 ·have a1:=bK l 3 (bK l 16 e);simp only[kG];split
  ·exact bK l 6 a1
  ·exact a1
theorem VA {l:List Nat} {level aZZ dom:Nat} {rec:Nat→GS→GS} (c:∀ d t,GOk l aZZ t→GOk l aZZ (rec d t)∧∃ u,(rec d t).a0I=t.a0I++u) {s:GS} (h:GOk l aZZ s) :
  ∀ i,GOk l aZZ (fC l level aZZ dom rec s i)∧∃ u,(fC l level aZZ dom rec s i).a0I=s.a0I++u
 | 0=>⟨h,[],by simp[fC]⟩
 | i+1=>by
  obtain⟨e,u,p⟩:=VA c h i;simp only[fC];split
  ·exact⟨e,u,p⟩
  ·rename_i w;obtain⟨g1,x,g2,-⟩:=Qg (level:=level) (dom:=dom) e (by simpa using w);obtain⟨k1,y,k2⟩:=c ((kG l level dom (fC l level aZZ dom rec s i)).a0I.length-1) _ g1;exact⟨k1,u++[x]++y,by rw[k2,g2,p]; simp⟩
theorem FQ {l:List Nat} {mc aZZ:Nat}:∀ (k dom:Nat) {s:GS},GOk l aZZ s→GOk l aZZ (eF l mc aZZ k dom s)∧∃ u,(eF l mc aZZ k dom s).a0I=s.a0I++u
 | 0,dom,s,h=>by have c:GOk l aZZ { s with a:=(aD l 2 s.a).2 }:=⟨h.a0I,h.a0S,bK l 2 h.a⟩;obtain⟨e,i⟩:=UZ (mc:=mc) (dom:=dom) c (1+(aD l 2 s.a).1);exact⟨e,[],by simp only[eF]; rw[i]; simp⟩
 | k+1,dom,s,h=>by have c:GOk l aZZ { s with a:=(aD l 2 s.a).2 }:=⟨h.a0I,h.a0S,bK l 2 h.a⟩;exact VA (level:=4-k) (dom:=dom) (fun d t p=>FQ k d p) c (if 4-k=2 then 1 else 1+(aD l 2 s.a).1)
theorem Y4 {l : List Nat} {level aZZ dom : Nat} {rec : Nat → GS → GS} {s : GS} {i : Nat} (h : pC aZZ (fC l level aZZ dom rec s i) = true) : ∀ n, i ≤ n → fC l level aZZ dom rec s n = fC l level aZZ dom rec s i := by
  intro n hn
  induction n with
  | zero => have : i = 0 := Om
            subst this; rfl
  | succ n ih =>
    rcases a2D n i with h' | h'
    · have : i = n + 1 := Om
      subst this; rfl
    · have e := ih h'
      simp only [fC];rw [e, if_pos h]
def mkS (l:List Nat) (v:PV):Spec:=fun name vs=>match name,vs with
 | 29,[.str s,.int _ i]=>some ([],fun _=>aH (.str (s++bT i.toNat)))
 | 47,[.int _ n]=>some ([],fun _=>aH (.agg (mkT n 1).cells))
 | 4,[.ptr o _ _ _,.int _ n]=>some ([o],fun c r H'=>∀ a,c o=some (bJ v a)→YC l v o n.toNat a r H')
 | _,_=>none
section
variable {C:Ctx} {F:PF} {H Hs:PH} {l:List Nat} {v:PV} {o a:Nat}
theorem qI (u:yP C) (T:Tp l v) {n:Nat} {st:Bool} {args:List aN} {d:Option Nat} {K:PF→PH→Prop} (B:n≤1000000) (w:a≤l.length) (e:aN.evs F args=some [.ptr o 2 0 0,.int .i64 n]) (E:H o=some (bJ v a))
  (i:Hs.le (H.set o (bJ v (aD l n a).2))) (A:K (F.put d (.int .i64 ((aD l n a).1:Nat))) (H.set o (bJ v (aD l n a).2))):dOp C Hs (mkS l v) st (.call 4 args) d K F H:=by
 refine awH (x:=bJ v a) (y:=bJ v (aD l n a).2) (r:=.int .i64 ((aD l n a).1:Nat)) (R:=fun p r H'=>∀ a,p o=some (bJ v a)→YC l v o n a r H') rfl E (u.next l v T o n a B w) ?_ ?_ e i A
 ·intro b c;rw[cP] at c;injection c with c
  injection c with _ c
  injection c with c _
  injection c with _ c
  injection c with c _
  injection c with _ c
  have:a=b:=Om;subst this;exact⟨rfl,rfl⟩
 ·intro M H' J;exact J a (by rw[cP])
theorem ET (i:pT C) {s:List UInt8} {n:Nat} {st:Bool} {args:List aN} {d:Option Nat} {K:PF→PH→Prop} (w:s.length≤100) (u:n<100) (c:aN.evs F args=some [.str s,.int .i64 n]) (e:Hs.le H) (p:K (F.put d (.str (s++bT n))) H) :
  dOp C Hs (mkS l v) st (.call 29 args) d K F H :=
 cK (v:=.str (s++bT n)) rfl (i.name s n w u) c e p
theorem aGX (i:yP C) {n:Int} {st:Bool} {args:List aN} {d:Option Nat} {K:PF→PH→Prop} (u:cL n) (c:aN.evs F args=some [.int .i64 n]) (e:Hs.le H) (p:K (F.put d (.agg (mkT n 1).cells)) H) :
  dOp C Hs (mkS l v) st (.call 47 args) d K F H :=
 cK (v:=.agg (mkT n 1).cells) rfl (i.int n u) c e p
end
theorem bP.rX {H:PH} {s:Nat} {v:PV} {rows:List (List PV)} (h:bP H s v rows):PV.rX v=some (.int .i64 (rows.length:Nat)):=by
 rcases h with ⟨rfl,rfl⟩ | ⟨q,rs,rfl,_⟩<;>rfl
abbrev jO (l:List cN):List (List PV):=l.map cN.cells
abbrev lN (l:List cZ):List (List PV):=l.map cZ.cells
abbrev flB (ext wl d c e wp wv:PV):bY:=.rows 7 [[ext,wl,d,c,e,wp,wv]]
structure GE where
 o:Nat
 fo:Nat
 qm:Nat
 ext:PV
 wl:PV
 wp:PV
 wv:PV
abbrev GE.boxes (G:GE) (v:PV) (mc:Nat) (c d:PV) (a:Nat):List BX:=[(G.o,bJ v a),(G.fo,flB G.ext G.wl (.osl G.qm 4 0 mc) c d G.wp G.wv)]
abbrev lC (s:GS) (c d:PV):List LI:=[(c,7,jO s.a0I),(d,3,lN s.a0S)]
def eS (G:GE) (dom aZZ level n i:Nat):PF:=(((((((PF.nil.set 0 (.ptr G.o 2 0 0)).set 1 (.ptr G.fo 7 0 0)).set 2 (.int .i64 dom)).set 3 (.int .i64 aZZ)).set 8 (.int .i64 level)).set 9 (.int .i64 n)).set 10 (.int .i64 i))
theorem bP.one {H:PH} {s:Nat} {v:PV} {rows:List (List PV)} (h:bP H s v rows) (c:0<rows.length):∃ q,v=.osl q s 0 rows.length:=by
 rcases h with ⟨rfl,_⟩ | ⟨q,rs,rfl,_⟩
 ·simp at c
 ·exact⟨q,rfl⟩
theorem Gw {C:Ctx} (Q:lK C) {l:List Nat} {v:PV} (T:Tp l v) (G:GE) (mc aZZ dom n:Nat) (γ:0<mc) (W:mc≤1000) (β:aZZ≤60) (hn:n≤10) (s:GS) (hs:GOk l aZZ s) (p w:PV) (K:bV) (F:PF) (H:PH)
  (Z:(eS G dom aZZ 5 n 0).le F) (u:aP H (G.boxes v mc p w s.a) (lC s p w))
  (hK:∀ E y X H',aP H' (G.boxes v mc E y (iH l mc aZZ dom s n).a) (lC (iH l mc aZZ dom s n) E y)→K (.exit 0) X H') :
  aC.wp C (.loop uN) K F H:=by
 refine wp_loop (α:=Nat × PV × PV × PH) (fun t=>eS G dom aZZ 5 n t.1) (fun t=>t.2.2.2) (fun t=>t.1≤n∧aP t.2.2.2 (G.boxes v mc t.2.1 t.2.2.1 (iH l mc aZZ dom s t.1).a) (lC (iH l mc aZZ dom s t.1) t.2.1 t.2.2.1)) (fun t=>n-t.1) (0,p,w,H) ⟨a1X _,u⟩ Z b_ ?_;rintro⟨i,p,w,O⟩ ⟨hi,u⟩;simp only at hi u ⊢;obtain⟨M,-⟩:=UZ (mc:=mc) (dom:=dom) hs i;have c:iH l mc aZZ dom s (i+1)=(if (iH l mc aZZ dom s i).a0S.length<aZZ then { iH l mc aZZ dom s i with a0S:=(iH l mc aZZ dom s i).a0S++[⟨[100]++bT (iH l mc aZZ dom s i).a0S.length,((aD l mc (iH l mc aZZ dom s i).a).1:Nat),(dom:Nat)⟩],a:=(aD l mc (iH l mc aZZ dom s i).a).2 } else iH l mc aZZ dom s i):=rfl;simp only[go_sem,uN,VT,eS];by_cases hlt:i<n
 ·have d:(i:Int)<(n:Nat):=Om;generalize hg:iH l mc aZZ dom s i=g at *
  have b1:=u.at 1 rfl;have N:=(u.own 1 rfl).rX;rw[a1K] at N;have R:=wZz i;simp only[go_sem,d,VU,show (((5:Nat):Int)==5)=true from rfl,G3,b1,N];by_cases V:g.a0S.length<aZZ
  ·have x:(g.a0S.length:Int)<(aZZ:Nat):=Om;rw[if_pos V] at c;simp only[go_sem,x];have B:(PH.nil.set G.fo (flB G.ext G.wl (.osl G.qm 4 0 mc) p w G.wp G.wv)).le O:=PH.aL a_ b1;refine bX (PH.nil.set G.fo (flB G.ext G.wl (.osl G.qm 4 0 mc) p w G.wp G.wv)) (mkS l v) B ?_;simp only[go_sem,G4,b1,N];refine ET Q.topT (s:=[100]) (n:=g.a0S.length) (by decide) (by have:=M.a0S; omega) rfl B ?_;simp only[go_sem];have ho:=u.at 0 rfl;have S:=u.set 0 rfl (bJ v (aD l mc g.a).2);have J:=S.at 1 rfl;refine qI Q.toyP T (o:=G.o) (n:=mc) (a:=g.a) Om M.a rfl ho (PH.aL a_ J) ?_;have A:(1:Nat)*3≤16777216:=by decide
   simp only[go_sem,A,a1R,a2B,or_false,forall_eq,forall_eq_or_imp];refine S.append 1 (src:=[(⟨[100]++bT g.a0S.length,((aD l mc g.a).1:Nat),(dom:Nat)⟩:cZ).cells]) rfl rfl (by unfold roomFor; rw[a1K]; have:=M.a0S; simp only[a1T,maxLen]; omega) fun y H2 U hw=>?_;obtain⟨q,rfl⟩:=hw (by simp);have b2:=U.at 1 rfl;refine⟨PH.aL a_ b2,?_⟩;refine bX .nil eH a_ ?_;simp only[go_sem,G5,b2,a1R,a2B,or_false,forall_eq];have Y:=U.set 1 rfl (flB G.ext G.wl (.osl G.qm 4 0 mc) p (.osl q 3 0 (lN g.a0S++[(⟨[100]++bT g.a0S.length,((aD l mc g.a).1:Nat),(dom:Nat)⟩:cZ).cells]).length) G.wp G.wv);refine⟨a_,?_⟩;simp only[go_sem,uO,R];refine aK (i+1,p,.osl q 3 0 (lN g.a0S++[(⟨[100]++bT g.a0S.length,((aD l mc g.a).1:Nat),(dom:Nat)⟩:cZ).cells]).length,_) ⟨hlt,?_⟩ (by simp only; omega) ?_ b_
   ·rw[c];have e:lN (g.a0S++[(⟨[100]++bT g.a0S.length,((aD l mc g.a).1:Nat),(dom:Nat)⟩:cZ)])=lN g.a0S++[(⟨[100]++bT g.a0S.length,((aD l mc g.a).1:Nat),(dom:Nat)⟩:cZ).cells]:=by simp[lN]
    unfold lC;simp only;rw[e];exact Y
   ·exact Lq
  ·have x:¬ (g.a0S.length:Int)<(aZZ:Nat):=Om;rw[if_neg V] at c;simp only[go_sem,x,uO,R];refine aK (i+1,p,w,O) ⟨hlt,by rw[c]; exact u⟩ (by simp only; omega) ?_ b_;exact Lq
 ·have d:¬ (i:Int)<(n:Nat):=Om;have:i=n:=Om;subst this;simp only[go_sem,d];exact hK p w _ _ u
def Xk (G:GE) (v:PV) (mc:Nat) (s':GS) (r:PV) (B':List BX) (L':List LI):Prop:=r=.tup []∧∃ c d,B'=G.boxes v mc c d s'.a∧L'=lC s' c d
def XY (C:Ctx) (l:List Nat) (v:PV) (mc aZZ k:Nat):Prop :=
 ∀ (G:GE) (d e:PV) (s:GS) (dom:Nat) (x:cN),GOk l aZZ s→s.a0I[dom]?=some x→x.level=4-(k:Int)→∀ c,aP c (G.boxes v mc d e s.a) (lC s d e) →
  aF C 7 [.ptr G.o 2 0 0,.ptr G.fo 7 0 0,.int .i64 dom,.int .i64 aZZ] c (fun r H'=>∃ B' L',Xk G v mc (eF l mc aZZ k dom s) r B' L'∧aP H' B' L')
theorem ajW {lv:Nat} (h:lv≤4):([45,115,114,107,109]:List UInt8)[lv]?=some (kN lv):=by
 match lv,h with
 | 0,_=>rfl
 | 1,_=>rfl
 | 2,_=>rfl
 | 3,_=>rfl
 | 4,_=>rfl
theorem RZ {C:Ctx} {l:List Nat} {v:PV} (G:GE) (mc aZZ dom lv n i k p:Nat) (β:lv=4-k) (hk:k<4) (w:XY C l v mc aZZ k) (g:GS) (x:cN) (a:Nat) (U:GOk l aZZ { g with a0I:=g.a0I++[x],a:=a }) (hx:x.level=(lv:Nat)) (V u:PV) (α:aZZ≤60) (K:bV) (F:PF) (H:PH)
  (c:(eS G dom aZZ lv n i).le F) (f11:F 11=some (.ptr p 7 0 0)) (E:aP H (G.boxes v mc V u a++[(p,.rows 7 [x.cells])]) (lC g V u))
  (hK:∀ d y R H',(eS G dom aZZ lv n i).le R→aP H' (G.boxes v mc d y (eF l mc aZZ k g.a0I.length { g with a0I:=g.a0I++[x],a:=a }).a) (lC (eF l mc aZZ k g.a0I.length { g with a0I:=g.a0I++[x],a:=a }) d y)→K .normal R H') :
  aC.wp C (.draw MZ) (gX C (aC.wp C (.region NA)) K) F H:=by
 have f0:F 0=some (.ptr G.o 2 0 0):=c 0 _ (by unfold eS; simp only[go_sem]);have f1:F 1=some (.ptr G.fo 7 0 0):=c 1 _ (by unfold eS; simp only[go_sem]);have f2:F 2=some (.int .i64 dom):=c 2 _ (by unfold eS; simp only[go_sem]);have f3:F 3=some (.int .i64 aZZ):=c 3 _ (by unfold eS; simp only[go_sem]);have f8:F 8=some (.int .i64 lv):=c 8 _ (by unfold eS; simp only[go_sem]);have f9:F 9=some (.int .i64 n):=c 9 _ (by unfold eS; simp only[go_sem]);have Z:F 10=some (.int .i64 i):=c 10 _ (by unfold eS; simp only[go_sem]);have N:=U.a0I;simp only[a1P,a1T] at N;have b1:=E.at 1 rfl;have b2:=E.at 2 rfl;have A:(1:Nat)*7≤16777216:=by decide
 refine bX .nil eH a_ ?_;simp only[go_sem,MZ,f1,f11,b1,b2,A,a1R,a2B,or_false,forall_eq,forall_eq_or_imp];refine E.append 0 (src:=[x.cells]) rfl rfl (by unfold roomFor; rw[a1K]; simp only[a1T,maxLen]; omega) fun d H2 B hw=>?_;obtain⟨q,rfl⟩:=hw (by simp);have hl:(jO g.a0I++[x.cells]).length=g.a0I.length+1:=by simp
 rw[hl] at B ⊢;have X:=B.at 1 rfl;refine⟨a_,?_⟩;simp only[go_sem,X,a1R,a2B,or_false,forall_eq];have S:=B.set 1 rfl (flB G.ext G.wl (.osl G.qm 4 0 mc) (.osl q 7 0 (g.a0I.length+1)) u G.wp G.wv);have c2:=S.at 1 rfl;refine⟨a_,?_⟩;have e:jO (g.a0I++[x])=jO g.a0I++[x.cells]:=by simp[jO]
 have Y:IntKind.i64.wrap (((g.a0I.length+1:Nat):Int)-1)=(g.a0I.length:Int):=by rw[wrap_i64 Om Om]; omega
 simp only[go_sem,NA,f0,f1,f3,Y];have h4:aP (H2.set G.fo (flB G.ext G.wl (.osl G.qm 4 0 mc) (.osl q 7 0 (g.a0I.length+1)) u G.wp G.wv)) (G.boxes v mc (.osl q 7 0 (g.a0I.length+1)) u a++[(p,.rows 7 [x.cells])]) (lC { g with a0I:=g.a0I++[x],a:=a } (.osl q 7 0 (g.a0I.length+1)) u++[]):=by unfold lC;simp only;rw[e];exact S
 refine CJ h4 (fun W M=>w G _ u { g with a0I:=g.a0I++[x],a:=a } g.a0I.length x U (by simp) (by rw[hx]; omega) W M) rfl ?_;rintro r B' L' H' ⟨rfl,O,Q,rfl,rfl⟩ J;refine hK O Q _ _ ?_ (J.sub (List.sublist_append_left ..) (by rw[a3J]; exact a3N.refl _));unfold eS;exact Lq
theorem JQ {C:Ctx} (U:lK C) {l:List Nat} {v:PV} (T:Tp l v) (G:GE) (mc aZZ dom n k:Nat) (hk:k<4) (W:aZZ≤60) (hn:n≤10) (Q:XY C l v mc aZZ k) (s:GS) (hs:GOk l aZZ s) (ζ:0<s.a0I.length) (N O:PV) (K:bV) (F:PF) (H:PH)
  (hF:(eS G dom aZZ (4-k) n 0).le F) (B:aP H (G.boxes v mc N O s.a) (lC s N O))
  (Z:∀ e y A x H',(e=.exit 0∨e=.ret)→aP H' (G.boxes v mc y A (fC l (4-k) aZZ dom (eF l mc aZZ k) s n).a) (lC (fC l (4-k) aZZ dom (eF l mc aZZ k) s n) y A)→K e x H') :
  aC.wp C (.loop uN) K F H:=by
 obtain⟨lv,S⟩:∃ lv,lv=4-k:=⟨_,rfl⟩;rw[← S] at hF Z;refine wp_loop (α:=Nat × PV × PV × PH) (fun t=>eS G dom aZZ lv n t.1) (fun t=>t.2.2.2) (fun t=>t.1≤n∧aP t.2.2.2 (G.boxes v mc t.2.1 t.2.2.1 (fC l lv aZZ dom (eF l mc aZZ k) s t.1).a) (lC (fC l lv aZZ dom (eF l mc aZZ k) s t.1) t.2.1 t.2.2.1)) (fun t=>n-t.1) (0,N,O,H) ⟨a1X _,B⟩ hF b_ ?_;rintro⟨i,N,O,H0⟩ ⟨hi,B⟩;simp only at hi B ⊢;obtain⟨Y,u,gu⟩:=VA (level:=lv) (dom:=dom) (fun d t ht=>FQ (mc:=mc) k d ht) hs i;have J:=fun h=>Y4 (l:=l) (level:=lv) (aZZ:=aZZ) (dom:=dom) (rec:=eF l mc aZZ k) (s:=s) (i:=i) h n hi;have w:fC l lv aZZ dom (eF l mc aZZ k) s (i+1)=(if pC aZZ (fC l lv aZZ dom (eF l mc aZZ k) s i) then fC l lv aZZ dom (eF l mc aZZ k) s i else eF l mc aZZ k ((kG l lv dom (fC l lv aZZ dom (eF l mc aZZ k) s i)).a0I.length-1) (kG l lv dom (fC l lv aZZ dom (eF l mc aZZ k) s i))):=rfl;simp only[go_sem,uN,VT,eS];by_cases hlt:i<n
 ·have M:(i:Int)<(n:Nat):=Om;generalize hg:fC l lv aZZ dom (eF l mc aZZ k) s i=g at *
  have ε:0<g.a0I.length:=by rw[gu,a1P]; omega
  have b1:=B.at 1 rfl;have lr:=(B.own 1 rfl).rX;have ld:=(B.own 0 rfl).rX;rw[a1K] at lr ld;have ei:=wZz i;simp only[go_sem,M,VU,bF (Om:((lv:Nat):Int)≠5),tw,b1,lr];by_cases c1:aZZ≤g.a0S.length
  ·have V:pC aZZ g=true:=by unfold pC; simp[c1]
   simp only[go_sem,show (g.a0S.length:Int)≥(aZZ:Nat) by omega];exact Z _ N O _ _ (.inr rfl) (by rw[J V]; exact B)
  simp only[go_sem,show ¬ (g.a0S.length:Int)≥(aZZ:Nat) by omega,b1,ld];by_cases c2:35≤g.a0I.length
  ·have V:pC aZZ g=true:=by unfold pC; simp[c2]
   simp only[go_sem,show (g.a0I.length:Int)≥35 by omega];exact Z _ N O _ _ (.inr rfl) (by rw[J V]; exact B)
  have V:pC aZZ g=false:=by unfold pC; simp[c1,c2]
  rw[if_neg (by rw[V]; decide)] at w;simp only[go_sem,show ¬ (g.a0I.length:Int)≥35 by omega];have ls:=ajW (Om:lv≤4);refine bX .nil (mkS l v) a_ ?_;have γ:oI [[PV.int IntKind.u8 (((kN lv).toNat:Nat):Int)]]=some [kN lv]:=by simp[oI]
  obtain⟨X,x0,β,-⟩:=Qg (level:=lv) (dom:=dom) Y V;have δ:(kG l lv dom g).a0I.length-1=g.a0I.length:=by rw[β]; simp
  rw[δ] at w;have h1:=B.set 0 rfl (bJ v (aD l 16 g.a).2);have a1:=bK l 16 Y.a;have n1:=cE l (show 0<16 by decide) g.a;have e1:IntKind.i64.wrap (1+((aD l 16 g.a).1:Int))=((1+(aD l 16 g.a).1:Nat):Int):=by rw[wrap_i64 Om Om]; omega
  simp only[go_sem,tx,ls,γ,b1,ld];refine ET U.topT (s:=[kN lv]) (n:=g.a0I.length) (by simp) (by have:=Y.a0I; omega) rfl a_ ?_;simp only[go_sem];refine qI U.toyP T (o:=G.o) (n:=16) (a:=g.a) Om Y.a rfl (B.at 0 rfl) a_ ?_;simp only[go_sem,e1];refine aGX U.toyP (n:=0) (by unfold cL; omega) rfl a_ ?_;simp only[go_sem,a1R,a2B,or_false,forall_eq,forall_eq_or_imp];refine aQ fun p hp=>?_;have h2:=h1.new hp (.rows 7 [(⟨[kN lv]++bT g.a0I.length,(lv:Nat),(dom:Nat),(1+(aD l 16 g.a).1:Nat),jJ⟩:cN).cells]);simp only[go_sem,a1R,a2B,or_false,forall_eq,forall_eq_or_imp];refine⟨a_,?_⟩;simp only[go_sem,tz];refine cY U.toyP T (o:=G.o) (n:=3) (a:=(aD l 16 g.a).2) (by decide) a1 rfl (h2.at 0 rfl) ?_;have h3:=h2.set 0 rfl (bJ v (aD l 3 (aD l 16 g.a).2).2);have a2:=bK l 3 a1;by_cases c3:(aD l 3 (aD l 16 g.a).2).1=0
  ·have hd:kG l lv dom g={ g with a0I:=g.a0I++[⟨[kN lv]++bT g.a0I.length,(lv:Nat),(dom:Nat),(1+(aD l 16 g.a).1:Nat),mkT 1 ((2+(aD l 6 (aD l 3 (aD l 16 g.a).2).2).1:Nat):Int)⟩],a:=(aD l 6 (aD l 3 (aD l 16 g.a).2).2).2 }:=by unfold kG; simp only[c3,if_true]
   rw[hd] at w X;have n2:=cE l (show 0<6 by decide) (aD l 3 (aD l 16 g.a).2).2;have e2:IntKind.i64.wrap (2+((aD l 6 (aD l 3 (aD l 16 g.a).2).2).1:Int))=((2+(aD l 6 (aD l 3 (aD l 16 g.a).2).2).1:Nat):Int):=by rw[wrap_i64 Om Om]; omega
   simp only[go_sem,bN (show (((aD l 3 (aD l 16 g.a).2).1:Nat):Int)=0 by omega),t6];refine cY U.toyP T (o:=G.o) (n:=6) (a:=(aD l 3 (aD l 16 g.a).2).2) (by decide) a2 rfl (h3.at 0 rfl) ?_;have h4:=h3.set 0 rfl (bJ v (aD l 6 (aD l 3 (aD l 16 g.a).2).2).2);rw[PH.set_set] at h4;simp only[go_sem,e2];refine aA (U.fmk 1 ((2+(aD l 6 (aD l 3 (aD l 16 g.a).2).2).1:Nat):Int) (by unfold cL; omega) (by unfold cL; omega)) rfl ?_;unfold uS;rw[if_neg Om];simp only[go_sem,show ¬ p=G.o from h4.ne 2 0 rfl rfl (by decide)];have h5:=h4.set 2 rfl (.rows 7 [(⟨[kN lv]++bT g.a0I.length,(lv:Nat),(dom:Nat),(1+(aD l 16 g.a).1:Nat),mkT 1 ((2+(aD l 6 (aD l 3 (aD l 16 g.a).2).2).1:Nat):Int)⟩:cN).cells])
   try simp only[nn]
   refine RZ G mc aZZ dom lv n i k p S hk Q g _ _ X rfl N O W _ _ _ (by unfold eS; exact Lq) rfl h5 ?_;intro y A x H' c E;rw[← w] at E;have R:x 10=some (.int .i64 i):=c 10 _ (by unfold eS; simp only[go_sem]);have g0:x 0=some (.ptr G.o 2 0 0):=c 0 _ (by unfold eS; simp only[go_sem]);have g1:x 1=some (.ptr G.fo 7 0 0):=c 1 _ (by unfold eS; simp only[go_sem]);have g2:x 2=some (.int .i64 dom):=c 2 _ (by unfold eS; simp only[go_sem]);have g3:x 3=some (.int .i64 aZZ):=c 3 _ (by unfold eS; simp only[go_sem]);have g8:x 8=some (.int .i64 lv):=c 8 _ (by unfold eS; simp only[go_sem]);have g9:x 9=some (.int .i64 n):=c 9 _ (by unfold eS; simp only[go_sem]);simp only[go_sem,uO,R,ei];refine aK (i+1,y,A,H') ⟨hlt,E⟩ (by simp only; omega) ?_ b_;exact Lq
  ·have hd:kG l lv dom g={ g with a0I:=g.a0I++[⟨[kN lv]++bT g.a0I.length,(lv:Nat),(dom:Nat),(1+(aD l 16 g.a).1:Nat),jJ⟩],a:=(aD l 3 (aD l 16 g.a).2).2 }:=by unfold kG; simp only[c3,if_false]
   rw[hd] at w X;simp only[go_sem,bF (show ¬ (((aD l 3 (aD l 16 g.a).2).1:Nat):Int)=0 by omega)]
   try simp only[nn]
   refine RZ G mc aZZ dom lv n i k p S hk Q g _ _ X rfl N O W _ _ _ (by unfold eS; exact Lq) rfl h3 ?_;intro y A x H' c E;rw[← w] at E;have R:x 10=some (.int .i64 i):=c 10 _ (by unfold eS; simp only[go_sem]);have g0:x 0=some (.ptr G.o 2 0 0):=c 0 _ (by unfold eS; simp only[go_sem]);have g1:x 1=some (.ptr G.fo 7 0 0):=c 1 _ (by unfold eS; simp only[go_sem]);have g2:x 2=some (.int .i64 dom):=c 2 _ (by unfold eS; simp only[go_sem]);have g3:x 3=some (.int .i64 aZZ):=c 3 _ (by unfold eS; simp only[go_sem]);have g8:x 8=some (.int .i64 lv):=c 8 _ (by unfold eS; simp only[go_sem]);have g9:x 9=some (.int .i64 n):=c 9 _ (by unfold eS; simp only[go_sem]);simp only[go_sem,uO,R,ei];refine aK (i+1,y,A,H') ⟨hlt,E⟩ (by simp only; omega) ?_ b_;exact Lq
 ·have M:¬ (i:Int)<(n:Nat):=Om;have:i=n:=Om;subst this;simp only[go_sem,M];exact Z _ N O _ _ (.inl rfl) B
theorem Gx {C:Ctx} (M:lK C) {l:List Nat} {v:PV} (T:Tp l v) (mc aZZ k:Nat) (R:0<mc) (F:mc≤1000) (y:aZZ≤60) (hk:k≤4) (J:∀ X,k=X+1→XY C l v mc aZZ X) (G:GE) (U K:PV) (s:GS) (dom:Nat) (x:cN)
  (N:GOk l aZZ s) (W:s.a0I[dom]?=some x) (hl:x.level=4-(k:Int)) (O:PH) (B:aP O (G.boxes v mc U K s.a) (lC s U K)) :
  vZ.wp C (aX fa.res (fun r H'=>∃ B' L',Xk G v mc (eF l mc aZZ k dom s) r B' L'∧aP H' B' L')) (PF.args [.ptr G.o 2 0 0,.ptr G.fo 7 0 0,.int .i64 dom,.int .i64 aZZ]) O:=by
 have w:dom<s.a0I.length:=(a2P.1 W).1;have b1:=B.at 1 rfl;have fin:∀ (e:kY) (c d:PV) (p:PF) (H':PH),(e=.exit 0∨e=.ret)→aP H' (G.boxes v mc c d (eF l mc aZZ k dom s).a) (lC (eF l mc aZZ k dom s) c d) →
   fQ 0 (aX fa.res (fun r H'=>∃ B' L',Xk G v mc (eF l mc aZZ k dom s) r B' L'∧aP H' B' L')) e p H':=by
  intro e c d p H' E i;rcases E with rfl | rfl
  ·rw[AB,if_pos rfl];exact aZ (vs:=[]) (.inl rfl) H' rfl b_ ⟨_,_,⟨rfl,c,d,rfl,rfl⟩,i⟩
  ·exact aZ (vs:=[]) (.inr rfl) H' rfl b_ ⟨_,_,⟨rfl,c,d,rfl,rfl⟩,i⟩
 obtain⟨q,rs,Z,e2,e3,e4⟩:∃ q rs,U=.osl q 7 0 s.a0I.length∧O q=some (.rows 7 rs)∧s.a0I.length≤rs.length∧rs.take s.a0I.length=jO s.a0I:=by
  rcases B.own 0 rfl with ⟨u,_⟩ | ⟨q,rs,u,h2,h3,h4⟩
  ·have:=congrArg List.length u;rw[a1K] at this;simp at this; rw[this] at w; simp at w
  ·rw[a1K] at u h3 h4;exact⟨q,rs,u,h2,h3,h4⟩
 have S:rs[dom]?=some x.cells:=by
  have:(jO s.a0I)[dom]?=some x.cells:=by simp[jO,W]
  rw[← e4,List.getElem?_take_of_lt w] at this;exact this
 subst Z;have Y:(dom:Int)<(s.a0I.length:Nat):=Om;have ew:IntKind.i64.wrap (x.level+1)=((5-k:Nat):Int):=by rw[hl,wrap_i64 Om Om]; omega
 have β:=cE l (show 0<2 by decide) s.a;have en:IntKind.i64.wrap (1+((aD l 2 s.a).1:Int))=((1+(aD l 2 s.a).1:Nat):Int):=by rw[wrap_i64 Om Om]; omega
 have u:=B.set 0 rfl (bJ v (aD l 2 s.a).2);have A:GOk l aZZ { s with a:=(aD l 2 s.a).2 }:=⟨N.a0I,N.a0S,bK l 2 N.a⟩;have α:¬ q=G.o:=fun h=>B.neL 0 0 rfl rfl rfl h.symm;simp only[go_sem,vZ,Gy,b1,Y,e2,S,ew,Gz];refine cY M.toyP T (o:=G.o) (n:=2) (a:=s.a) (by decide) N.a (by simp only[go_sem]; rfl) (B.at 0 rfl) ?_;simp only[go_sem,en,G1];cases k with
 | zero =>
  simp only[go_sem,bF (Om:¬ ((5-0:Nat):Int)=2),GZ];refine Gw (C:=C) M T G mc aZZ dom (1+(aD l 2 s.a).1) R F y Om { s with a:=(aD l 2 s.a).2 } A _ K _ _ _ ?_ u ?_
  ·unfold eS;exact Lq
  ·intro c d p H' i;exact fin _ c d p H' (.inl rfl) i
 | succ k =>
  have H:=J k rfl;by_cases V:4-k=2
  ·have Q:eF l mc aZZ (k+1) dom s=fC l (4-k) aZZ dom (eF l mc aZZ k) { s with a:=(aD l 2 s.a).2 } 1:=by simp only[eF,if_pos V]
   simp only[go_sem,bN (show ((5-(k+1):Nat):Int)=2 by omega),G2,GZ];refine JQ (C:=C) M T G mc aZZ dom 1 k Om y (by decide) H { s with a:=(aD l 2 s.a).2 } A (by simp only; omega) _ K _ _ _ ?_ u ?_
   ·unfold eS
    (repeat' (first|exact d_|refine c_ ?_ ?_))<;>first|(simp only[go_sem,show 4-k=5-(k+1) by omega]<;>rfl)|rfl
   ·intro e c d p H' E i;rw[← Q] at i;exact fin e c d p H' E i
  ·have Q:eF l mc aZZ (k+1) dom s=fC l (4-k) aZZ dom (eF l mc aZZ k) { s with a:=(aD l 2 s.a).2 } (1+(aD l 2 s.a).1):=by simp only[eF,if_neg V]
   simp only[go_sem,bF (show ¬ ((5-(k+1):Nat):Int)=2 by omega),GZ];refine JQ (C:=C) M T G mc aZZ dom (1+(aD l 2 s.a).1) k Om y Om H { s with a:=(aD l 2 s.a).2 } A (by simp only; omega) _ K _ _ _ ?_ u ?_
   ·unfold eS
    (repeat' (first|exact d_|refine c_ ?_ ?_))<;>first|(simp only[go_sem,show 4-k=5-(k+1) by omega]<;>rfl)|rfl
   ·intro e c d p H' E i;rw[← Q] at i;exact fin e c d p H' E i
theorem VB {C:Ctx} (u:lK C) {l:List Nat} {v:PV} (T:Tp l v) (mc aZZ:Nat) (i:0<mc) (c:mc≤1000) (d:aZZ≤60)
  (w:∀ (args:List PV) (H:PH) (R:PV→PH→Prop),args.length=4→vZ.wp C (aX fa.res R) (PF.args args) H→aF C 7 args H R):∀ k,k≤4→XY C l v mc aZZ k
 | 0,h=>fun G F J s dom x B E A p y=>w _ _ _ rfl (Gx u T mc aZZ 0 i c d h (fun _ e=>by omega) G F J s dom x B E A p y)
 | k+1,h=>fun G F J s dom x B E A p y=>w _ _ _ rfl (Gx u T mc aZZ (k+1) i c d h (fun K e=>by have:K=k:=Om;subst this;exact VB u T mc aZZ i c d w K Om) G F J s dom x B E A p y)
theorem aIH (l:List Nat) (dY:Nat) {a:Nat} (h:a≤l.length):(pN l dY a).2≤l.length:=(ll l (1+(aD l dY a).1) (bK l dY h) (1+(aD l dY a).1)).1
theorem GD (l:List Nat) {a:Nat} (h:a≤l.length):∀ k,(fZ l a k).2≤l.length∧(fZ l a k).1.length=k
 | 0=>⟨h,rfl⟩
 | k+1=>by obtain⟨c,d⟩:=GD l h k;exact⟨aIH l 2 c,by simp only[fZ,a1P,a1T,d]⟩
theorem wB (l:List Nat) (a0G:Nat) {a:Nat} (h:a≤l.length):∀ k,(eG l a0G a k).2≤l.length∧(eG l a0G a k).1.length=k
 | 0=>⟨h,rfl⟩
 | k+1=>by obtain⟨c,d⟩:=wB l a0G h k;exact⟨bK l a0G (bK l 8 (bK l 4 c)),by simp only[eG,a1P,a1T,d]⟩
structure FE where
 o:Nat
 o6:Nat
 o7:Nat
 aZZ:Nat
 a0B:Nat
abbrev flZ:bY:=flB (.int .i64 0) .aB .aB .aB .aB .aB .aB
abbrev FE.boxes (E:FE) (v ext c d e i l p:PV) (a:Nat):List BX:=[(E.o,bJ v a),(E.o7,flB ext c d e i l p),(E.o6,flZ)]
def fJ (E:FE):PF:=(((((PF.nil.set 0 (.ptr E.o 2 0 0)).set 1 (.int .i64 E.aZZ)).set 2 (.int .i64 E.a0B)).set 6 (.ptr E.o6 7 0 0)).set 7 (.ptr E.o7 7 0 0))
abbrev gU (l:List cS):List (List PV):=l.map cS.cells
abbrev jK (l:List dP):List (List PV):=l.map dP.cells
theorem QR {E:FE} {F:PF} (c:F 0=some (.ptr E.o 2 0 0)) (d:F 1=some (.int .i64 E.aZZ)) (e:F 2=some (.int .i64 E.a0B)) (i:F 6=some (.ptr E.o6 7 0 0)) (h7:F 7=some (.ptr E.o7 7 0 0)):(fJ E).le F :=
 c_ (c_ (c_ (c_ (c_ d_ c) d) e) i) h7
theorem ayF {C:Ctx} (N:lK C) {l:List Nat} {v:PV} (T:Tp l v) (E:FE) (n a:Nat) (hn:n≤10) (V:a≤l.length) (ext:PV) (K:bV) (F:PF) (H:PH)
  (S:(((fJ E).set 8 (.int .i64 n)).set 9 (.int .i64 0)).le F) (w:aP H (E.boxes v ext .aB .aB .aB .aB .aB .aB a) [])
  (U:∀ A M H',(fJ E).le M→aP H' (E.boxes v ext A .aB .aB .aB .aB .aB (fZ l a n).2) [(A,4,gU (fZ l a n).1)]→K (.exit 0) M H') :
  aC.wp C (.loop MY) K F H:=by
 refine wp_loop (α:=Nat × PV × PH) (fun t=>((fJ E).set 8 (.int .i64 n)).set 9 (.int .i64 t.1)) (fun t=>t.2.2) (fun t=>t.1≤n∧aP t.2.2 (E.boxes v ext t.2.1 .aB .aB .aB .aB .aB (fZ l a t.1).2) [(t.2.1,4,gU (fZ l a t.1).1)]) (fun t=>n-t.1) (0,.aB,H) ⟨a1X _,w.sC 4⟩ S b_ ?_;rintro⟨i,A,Y⟩ ⟨hi,w⟩;simp only at hi w ⊢;obtain⟨k1,k2⟩:=GD l V i;have u:fZ l a (i+1)=((fZ l a i).1++[{ (pN l 2 (fZ l a i).2).1 with name:=[108,97,119]++bT i }],(pN l 2 (fZ l a i).2).2):=rfl;simp only[go_sem,MY,tq,fJ];by_cases hlt:i<n
 ·have c:(i:Int)<(n:Nat):=Om;generalize Z:fZ l a i=g at *
  simp only[go_sem,c,tr];refine mC (N.law l v T E.o 2 g.2 (by decide) (by decide) k1) (w.at 0 rfl) rfl ?_;have Q:=w.set 0 rfl (bJ v (pN l 2 g.2).2);generalize hz:pN l 2 g.2=z at *
  simp only[go_sem];refine aQ fun p W=>?_;have R:=Q.new W (.rows 4 [z.1.cells]);simp only[go_sem,tt,a1R,a2B,or_false,forall_eq,forall_eq_or_imp];refine aA (N.name [108,97,119] i (by decide) Om) rfl ?_;have x:=R.set 3 rfl (.rows 4 [({ z.1 with name:=[108,97,119]++bT i }:cS).cells]);rw[PH.set_set] at x;have b1:=x.at 1 rfl;have y:¬ E.o7=p:=x.ne 1 3 rfl rfl (by decide);have d:¬ E.o7=E.o:=x.ne 1 0 rfl rfl (by decide);simp only[aV,if_neg y,if_neg d] at b1;have J:(1:Nat)*4≤16777216:=by decide
  simp only[go_sem,tu,y,d,b1,J,a1R,a2B,or_false,forall_eq,forall_eq_or_imp];refine x.append 0 (src:=[({ z.1 with name:=[108,97,119]++bT i }:cS).cells]) rfl rfl (by unfold roomFor; rw[a1K]; simp only[a1T,maxLen]; omega) fun w' H2 O X=>?_;obtain⟨q,rfl⟩:=X (by simp);have b2:=O.at 1 rfl;simp only[go_sem,b2,a1R,a2B,or_false,forall_eq];have h5:=O.set 1 rfl (flB ext (.osl q 4 0 (gU g.1++[({ z.1 with name:=[108,97,119]++bT i }:cS).cells]).length) .aB .aB .aB .aB .aB);simp only[go_sem,tv,wZz i];refine aK (i+1,.osl q 4 0 (gU g.1++[({ z.1 with name:=[108,97,119]++bT i }:cS).cells]).length,_) ⟨hlt,?_⟩ (by simp only; omega) ?_ b_
  ·rw[u];have e:gU (g.1++[{ z.1 with name:=[108,97,119]++bT i }])=gU g.1++[({ z.1 with name:=[108,97,119]++bT i }:cS).cells]:=by simp[gU]
   simp only;rw[e];exact h5.dropLast (B:=E.boxes v ext _ .aB .aB .aB .aB .aB z.2)
  ·exact Lq
 ·have c:¬ (i:Int)<(n:Nat):=Om;have:i=n:=Om;subst this;simp only[go_sem,c];exact U A _ _ (QR rfl rfl rfl rfl rfl) w
theorem Zn {C:Ctx} (O:lK C) {l:List Nat} {v:PV} (T:Tp l v) (E:FE) (n a nl:Nat) (hn:n≤10) (β:nl≤1000) (ha:a≤l.length) (ext d:PV) (a0G:List cS) (U:a0G.length=nl) (K:bV) (F:PF) (H:PH)
  (hF:(((fJ E).set 11 (.int .i64 n)).set 12 (.int .i64 0)).le F) (p:aP H (E.boxes v ext d .aB .aB .aB .aB .aB a) [(d,4,gU a0G)])
  (hK:∀ A Q H',(fJ E).le Q→Q 11=some (.int .i64 n)→aP H' (E.boxes v ext d A .aB .aB .aB .aB (eG l nl a n).2) [(d,4,gU a0G),(A,4,jK (eG l nl a n).1)]→K (.exit 2) Q H') :
  aC.wp C (.loop GM) K F H:=by
 refine wp_loop (α:=Nat × PV × PH) (fun t=>((fJ E).set 11 (.int .i64 n)).set 12 (.int .i64 t.1)) (fun t=>t.2.2) (fun t=>t.1≤n∧aP t.2.2 (E.boxes v ext d t.2.1 .aB .aB .aB .aB (eG l nl a t.1).2) [(d,4,gU a0G),(t.2.1,4,jK (eG l nl a t.1).1)]) (fun t=>n-t.1) (0,.aB,H) ⟨a1X _,p.sC 4⟩ hF b_ ?_;rintro⟨i,A,Z⟩ ⟨hi,p⟩;simp only at hi p ⊢;obtain⟨k1,k2⟩:=wB l nl ha i;have u:eG l nl a (i+1)=((eG l nl a i).1++[⟨[109]++bT i,(1+(aD l 4 (eG l nl a i).2).1:Nat),(1+(aD l 8 (aD l 4 (eG l nl a i).2).2).1:Nat),((aD l nl (aD l 8 (aD l 4 (eG l nl a i).2).2).2).1:Nat)⟩],(aD l nl (aD l 8 (aD l 4 (eG l nl a i).2).2).2).2):=rfl;simp only[go_sem,GM,dh,fJ];by_cases hlt:i<n
 ·have c:(i:Int)<(n:Nat):=Om;generalize hg:eG l nl a i=g at *
  have hx:=cE l (show 0<4 by decide) g.2;have V:=bK l 4 k1;have hy:=cE l (show 0<8 by decide) (aD l 4 g.2).2;have W:=bK l 8 V;have az:=bK l nl W;have R:=p.set 0 rfl (bJ v (aD l 4 g.2).2);have w:=R.set 0 rfl (bJ v (aD l 8 (aD l 4 g.2).2).2);have h3:=w.set 0 rfl (bJ v (aD l nl (aD l 8 (aD l 4 g.2).2).2).2);generalize J:aD l 4 g.2=x at *
  generalize M:aD l 8 x.2=y at *
  generalize N:aD l nl y.2=z at *
  have b1:=p.at 1 rfl;have Y:=(p.own 0 rfl).rX;rw[a1K,U] at Y;have B:(PH.nil.set E.o7 (flB ext d A .aB .aB .aB .aB)).le Z:=PH.aL a_ b1;have ex:IntKind.i64.wrap (1+(x.1:Int))=((1+x.1:Nat):Int):=by rw[wrap_i64 Om Om]; omega
  have ey:IntKind.i64.wrap (1+(y.1:Int))=((1+y.1:Nat):Int):=by rw[wrap_i64 Om Om]; omega
  simp only[go_sem,c];refine bX (PH.nil.set E.o7 (flB ext d A .aB .aB .aB .aB)) (mkS l v) B ?_;simp only[go_sem,di];refine ET O.topT (s:=[109]) (n:=i) (by decide) Om rfl B ?_;simp only[go_sem];refine qI O.toyP T (o:=E.o) (n:=4) (a:=g.2) (by decide) k1 rfl (p.at 0 rfl) ?_ ?_
  ·rw[J]; exact PH.aL a_ (R.at 1 rfl)
  rw[J];simp only[go_sem,ex];refine qI O.toyP T (o:=E.o) (n:=8) (a:=x.2) (by decide) V rfl (R.at 0 rfl) ?_ ?_
  ·rw[M]; exact PH.aL a_ (w.at 1 rfl)
  rw[M];simp only[go_sem,ey,Y];rw[PH.set_set] at w;refine qI O.toyP T (o:=E.o) (n:=nl) (a:=y.2) Om W rfl (w.at 0 rfl) ?_ ?_
  ·rw[N]; exact PH.aL a_ ((w.set 0 rfl (bJ v z.2)).at 1 rfl)
  rw[N];have X:=w.set 0 rfl (bJ v z.2);have S:(1:Nat)*4≤16777216:=by decide
  simp only[go_sem,S,a1R,a2B,or_false,forall_eq,forall_eq_or_imp];rw[PH.set_set] at X;refine X.append 1 (src:=[(⟨[109]++bT i,(1+x.1:Nat),(1+y.1:Nat),(z.1:Nat)⟩:dP).cells]) rfl rfl (by unfold roomFor; rw[a1K]; simp only[a1T,maxLen]; omega) fun w' H2 h5 hw=>?_;obtain⟨q,rfl⟩:=hw (by simp);have b2:=h5.at 1 rfl;refine⟨PH.aL a_ b2,?_⟩;refine bX .nil eH a_ ?_;simp only[go_sem,dj,b2,a1R,a2B,or_false,forall_eq];have h6:=h5.set 1 rfl (flB ext d (.osl q 4 0 (jK g.1++[(⟨[109]++bT i,(1+x.1:Nat),(1+y.1:Nat),(z.1:Nat)⟩:dP).cells]).length) .aB .aB .aB .aB);refine⟨a_,?_⟩;simp only[go_sem,dk,wZz i];refine aK (i+1,.osl q 4 0 (jK g.1++[(⟨[109]++bT i,(1+x.1:Nat),(1+y.1:Nat),(z.1:Nat)⟩:dP).cells]).length,_) ⟨hlt,?_⟩ (by simp only; omega) ?_ b_
  ·rw[u];have e:jK (g.1++[⟨[109]++bT i,(1+x.1:Nat),(1+y.1:Nat),(z.1:Nat)⟩])=jK g.1++[(⟨[109]++bT i,(1+x.1:Nat),(1+y.1:Nat),(z.1:Nat)⟩:dP).cells]:=by simp[jK]
   simp only;rw[e];exact h6
  ·exact Lq
 ·have c:¬ (i:Int)<(n:Nat):=Om;have:i=n:=Om;subst this;simp only[go_sem,c];exact hK A _ _ (QR rfl rfl rfl rfl rfl) rfl p
abbrev uZ (x:cB) (w:PV):List PV:=[.str x.name,.int .i64 x.k,.int .i64 x.m,.int .i64 x.a0X,.int .i64 x.s0,.int .i64 x.s1,.int .i64 x.s2,.int .i64 x.s3,.int .i64 x.s4,w,frs x.repair,
 .bool x.target.neg,aG x.target.num,aG x.target.den,.bool x.a0J.neg,aG x.a0J.num,aG x.a0J.den]
def lm (E:FE) (mc n i:Nat):PF:=(((fJ E).set 11 (.int .i64 mc)).set 13 (.int .i64 n)).set 14 (.int .i64 i)
structure PAt (E:FE) (mc n i:Nat) (F:PF):Prop where
 f0:F 0=some (.ptr E.o 2 0 0)
 f1:F 1=some (.int .i64 E.aZZ)
 f2:F 2=some (.int .i64 E.a0B)
 f6:F 6=some (.ptr E.o6 7 0 0)
 f7:F 7=some (.ptr E.o7 7 0 0)
 f11:F 11=some (.int .i64 mc)
 f13:F 13=some (.int .i64 n)
 f14:F 14=some (.int .i64 i)
def pR (l:List Nat) (a:Nat):Nat→List Int × Nat
 | 0=>([],a)
 | j+1=>let s:=pR l a j
  let t:=gG l s.2
  (s.1++[t.1],t.2)
theorem sM (l:List Nat) {a:Nat} (h:a≤l.length):(gG l a).2≤l.length:=by
 unfold gG;simp only;split
 ·exact bK l 3 (bK l 3 h)
 ·exact bK l 3 h
theorem m6 (l:List Nat) {a:Nat} (h:a≤l.length):∀ j,(pR l a j).2≤l.length∧(pR l a j).1.length=j
 | 0=>⟨h,rfl⟩
 | j+1=>by obtain⟨c,d⟩:=m6 l h j;exact⟨sM l c,by simp only[pR,a1P,a1T,d]⟩
abbrev pQ (pre post:List PV) (s:List Int):List PV:=pre++(s.map fun x=>PV.int .i64 x)++a1M (4-s.length) (.int .i64 0)++post
theorem aKM {pre post:List PV} {s:List Int} (c:pre.length=5) (e:s.length<4) (x:Int):(pQ pre post s).set (5+s.length) (.int .i64 x)=pQ pre post (s++[x]):=by
 obtain⟨k,d⟩:∃ k,4-s.length=k+1:=⟨3-s.length,by omega⟩;unfold pQ;rw[a1P,a1T,show 4-(s.length+1)=k by omega,d,List.replicate_succ,a2N,a2Y,a3Q];rw[List.set_append_left _ _ (by simp[c]),a4P _ _ (by simp[c])];have:5+s.length-(pre++s.map fun x=>PV.int .i64 x).length=0:=by simp[c]
 rw[this,a4R];simp
theorem azZ {pre post:List PV} {s:List Int} (d:pre.length=5) (e:s.length<4):pQ pre post s=pQ pre post (s++[0]):=by
 obtain⟨k,c⟩:∃ k,4-s.length=k+1:=⟨3-s.length,by omega⟩;unfold pQ;rw[a1P,a1T,show 4-(s.length+1)=k by omega,c,List.replicate_succ,a2N,a2Y,a3Q];simp
theorem Zo {C:Ctx} (Z:lK C) {l:List Nat} {v:PV} (T:Tp l v) (E:FE) (mc n i a p:Nat) (ha:a≤l.length) (B:List BX) (L:List LI) (pre post:List PV) (d:pre.length=5) (y:post.length=8) (K:bV) (F:PF) (H:PH)
  (u:PAt E mc n i F) (S:F 15=some (.ptr p 17 0 0)) (U:F 16=some (.int .i64 1)) (A:aP H ((E.o,bJ v a)::B++[(p,.rows 17 [pQ pre post []])]) L)
  (hK:∀ Q H',PAt E mc n i Q→Q 15=some (.ptr p 17 0 0)→aP H' ((E.o,bJ v (pR l a 4).2)::B++[(p,.rows 17 [pQ pre post (pR l a 4).1])]) L→K (.exit 6) Q H') :
  aC.wp C (.loop vQ) K F H:=by
 refine wp_loop (α:=Nat × PH) (fun t=>((lm E mc n i).set 15 (.ptr p 17 0 0)).set 16 (.int .i64 (t.1+1:Nat))) (fun t=>t.2) (fun t=>t.1≤4∧aP t.2 ((E.o,bJ v (pR l a t.1).2)::B++[(p,.rows 17 [pQ pre post (pR l a t.1).1])]) L) (fun t=>4-t.1) (0,H) ⟨a1X _,A⟩ ?_ b_ ?_
 ·unfold lm fJ
  (repeat' (first|exact d_|refine c_ ?_ ?_))<;>first|(simp only[go_sem,u.f0,u.f1,u.f2,u.f6,u.f7,u.f11,u.f13,u.f14,S,U]<;>rfl)|rfl
 rintro⟨j,H0⟩ ⟨hj,A⟩;simp only at hj A ⊢;obtain⟨k1,k2⟩:=m6 l ha j;have e:pR l a (j+1)=((pR l a j).1++[(gG l (pR l a j).2).1],(gG l (pR l a j).2).2):=rfl;simp only[go_sem,vQ,dx,lm,fJ];by_cases hlt:j<4
 ·generalize hg:pR l a j=g at *
  have ei:=dC (Om:j+1<9223372036854775807);simp only[go_sem,show ((j+1:Nat):Int)<5 by omega,dy];refine cY Z.toyP T (o:=E.o) (n:=3) (a:=g.2) (by decide) k1 (by simp only[go_sem]; rfl) (A.at 0 rfl) ?_;have N:aP _ ((E.o,bJ v (aD l 3 g.2).2)::B++[(p,.rows 17 [pQ pre post g.1])]) L:=A.set 0 rfl (bJ v (aD l 3 g.2).2);by_cases c:(aD l 3 g.2).1=0
  ·have Y:gG l g.2=(((1+(aD l 3 (aD l 3 g.2).2).1:Nat):Int),(aD l 3 (aD l 3 g.2).2).2):=by unfold gG; simp only[c,if_true]
   have n2:=cE l (show 0<3 by decide) (aD l 3 g.2).2;have e2:IntKind.i64.wrap (1+((aD l 3 (aD l 3 g.2).2).1:Int))=((1+(aD l 3 (aD l 3 g.2).2).1:Nat):Int):=by rw[wrap_i64 Om Om]; omega
   simp only[go_sem,bN (show (((aD l 3 g.2).1:Nat):Int)=0 by omega),dz];refine cY Z.toyP T (o:=E.o) (n:=3) (a:=(aD l 3 g.2).2) (by decide) (bK l 3 k1) (by simp only[go_sem]; rfl) (N.at 0 rfl) ?_;have O:aP _ ((E.o,bJ v (aD l 3 (aD l 3 g.2).2).2)::B++[(p,.rows 17 [pQ pre post g.1])]) L:=N.set 0 rfl (bJ v (aD l 3 (aD l 3 g.2).2).2);have R:=O.xF;rw[PH.set_set] at R O;have M:¬ p=E.o:=fun h=>by have X:=O.ndB;simp[eM,h] at X
   simp only[aV,if_neg M] at R;have W:((j+1:Nat):Int)<((5:Nat):Int):=Om;have V:(0:Int)≤((j+1:Nat):Int):=Om;have β:(pQ pre post g.1).length=17:=by simp[pQ,d,y,k2]; omega
   have w:=aKM (pre:=pre) (post:=post) (s:=g.1) d Om ((1+(aD l 3 (aD l 3 g.2).2).1:Nat):Int);rw[k2] at w;have J:4+(j+1)*1=5+j:=Om;have x:5+j+1≤17:=Om;simp only[go_sem,e2,W,V,J,M,R,x,a1R,a2B,or_false,forall_eq,w,GR,ei];refine aK (j+1,_) ⟨hlt,?_⟩ (by simp only; omega) ?_ b_
   ·rw[e,Y];exact O.DH _
   ·exact Lq
  ·have Y:gG l g.2=(0,(aD l 3 g.2).2):=by unfold gG; simp only[c,if_false]
   simp only[go_sem,bF (show ¬ (((aD l 3 g.2).1:Nat):Int)=0 by omega),GR,ei];refine aK (j+1,_) ⟨hlt,?_⟩ (by simp only; omega) ?_ b_
   ·rw[azZ (pre:=pre) (post:=post) (s:=g.1) d Om] at N;rw[e,Y];exact N
   ·exact Lq
 ·have:j=4:=Om;subst this;simp only[go_sem,show ¬ ((4+1:Nat):Int)<5 by decide];exact hK _ _ ⟨by simp only[go_sem],by simp only[go_sem],by simp only[go_sem],by simp only[go_sem],by simp only[go_sem],by simp only[go_sem],by simp only[go_sem],by simp only[go_sem]⟩ Sq A
theorem aP.oH {E:FE} {v ext c d e i l p:PV} {a:Nat} {H:PH} {B:List BX} {L:List LI} (h:aP H (E.boxes v ext c d e i l p a++B) L) (b:Nat):aP (H.set E.o (bJ v b)) (E.boxes v ext c d e i l p b++B) L:=h.set 0 rfl _
abbrev XG (s:List UInt8) (k m q:Int) (w r c d e:PV) (h:RF):List PV:=[.str s,.int .i64 k,.int .i64 m,.int .i64 q,.int .i64 0,.int .i64 0,.int .i64 0,.int .i64 0,.int .i64 0,w,r,c,d,e,.bool h.neg,aG h.num,aG h.den]
theorem ayG {C : Ctx} (Lb : lK C) {l : List Nat} {v : PV} (T : Tp l v) (E : FE) (mc n i a : Nat) (ha : a ≤ l.length) (hi : i < 50) (ext w1 w2 w3 w4 w5 w6 : PV) (L : List LI) (rest : aC) (K : bV) (F : PF) (H : PH)
    (hF : PAt E mc n i F) (hH : aP H (E.boxes v ext w1 w2 w3 w4 w5 w6 a) L)
    (hK : ∀ p F' H', PAt E mc n i F' → F' 15 = some (.ptr p 17 0 0) →
      (let k := aD l 2 a; let m := aD l 3 k.2; let h := aD l 4 m.2; let q := aD l (m.1 + 1) h.2; let r := jQ l q.2 (max m.1 1); let g := aD l 9 r.2
       aP H' (E.boxes v ext w1 w2 w3 w4 w5 w6 g.2 ++ [(p, .rows 17 [pQ [.str ([112] ++ bT i), .int .i64 (1 + k.1 : Nat), .int .i64 (m.1 : Nat), .int .i64 (1 + k.1 + q.1 : Nat), .int .i64 0]
        ([.aB, frs r.1] ++ (mkT (g.1 : Nat) 8).cells ++ (mkT ((1 + h.1 : Nat) : Int) 1).cells) []])]) L) → aC.wp C rest K F' H') :
    aC.wp C (.seq (.region GP) (.seq (.seq (.draw vS) (.draw vT)) (.seq (.region vW) (.seq (.region vX) rest)))) K F H := by
  obtain ⟨f0, f1, f2, f6, f7, f11, f13, f14⟩ := hF;have nk := cE l (show 0 < 2 by decide) a;have ak := bK l 2 ha;have nm := cE l (show 0 < 3 by decide) (aD l 2 a).2;have am := bK l 3 ak;simp only at hK;generalize hk : aD l 2 a = k at *
  generalize hm : aD l 3 k.2 = m at *
  have nh := cE l (show 0 < 4 by decide) m.2;have ah := bK l 4 am;generalize hh : aD l 4 m.2 = h at *
  have nq := cE l (Om : 0 < m.1 + 1) h.2;have aq := bK l (m.1 + 1) ah;generalize hq : aD l (m.1 + 1) h.2 = q at *
  have ar := DC l aq (max m.1 1);generalize hr : jQ l q.2 (max m.1 1) = r at *
  have ng := cE l (show 0 < 9 by decide) r.2;have ag := bK l 9 ar;generalize hg : aD l 9 r.2 = g at *
  have ek : IntKind.i64.wrap (1 + (k.1 : Int)) = ((1 + k.1 : Nat) : Int) := by rw [wrap_i64 Om Om]; omega
  have eh : IntKind.i64.wrap (1 + (h.1 : Int)) = ((1 + h.1 : Nat) : Int) := by rw [wrap_i64 Om Om]; omega
  have em : IntKind.i64.wrap ((m.1 : Int) + 1) = ((m.1 + 1 : Nat) : Int) := dC Om;have eq' : IntKind.i64.wrap (((1 + k.1 : Nat) : Int) + (q.1 : Int)) = ((1 + k.1 + q.1 : Nat) : Int) := by rw [wrap_i64 Om Om]; omega
  have h0 : aP H (E.boxes v ext w1 w2 w3 w4 w5 w6 a ++ []) L := by rw [a3J]; exact hH
  simp only[go_sem,GP,f14];refine aA (Lb.name [112] i (by decide) Om) rfl ?_;simp only[go_sem,f0];refine cY Lb.toyP T (o := E.o) (n := 2) (a := a) (by decide) ha rfl (h0.at 0 rfl) ?_;have g1 := h0.oH k.2;rw [hk];simp only[go_sem,ek,f0];refine cY Lb.toyP T (o := E.o) (n := 3) (a := k.2) (by decide) ak rfl (g1.at 0 rfl) ?_;have g2 := g1.oH m.2;rw [hm];rw [PH.set_set] at g2;simp only[go_sem,f0];refine cY Lb.toyP T (o := E.o) (n := 4) (a := m.2) (by decide) am rfl (g2.at 0 rfl) ?_;have g3 := g2.oH h.2;rw [hh];rw [PH.set_set] at g3;simp only[go_sem,eh];refine aA (Lb.int ((1 + h.1 : Nat) : Int) (by unfold cL; omega)) rfl ?_;simp only[go_sem,a1R,a2B,or_false,forall_eq,forall_eq_or_imp];refine aQ fun p hp => ?_;have g4 := g3.new hp (.rows 17 [XG ([112] ++ bT i) (1 + k.1 : Nat) (m.1 : Nat) 0 .aB .aB (.bool false) .aB .aB (mkT ((1 + h.1 : Nat) : Int) 1)]);have hpo : ¬ p = E.o := g4.ne 3 0 rfl rfl (by decide);have hop : ¬ E.o = p := fun e => hpo e.symm;have q2 : ∀ (F2 : PF) (H2 : PH), PAt E mc n i F2 → F2 15 = some (.ptr p 17 0 0) → aP H2 (E.boxes v ext w1 w2 w3 w4 w5 w6 h.2 ++ [(p, .rows 17 [XG ([112] ++ bT i) (1 + k.1 : Nat) (m.1 : Nat) 0 .aB .aB (.bool false) .aB .aB (mkT ((1 + h.1 : Nat) : Int) 1)])]) L →
      aC.wp C (.seq (.seq (.draw vS) (.draw vT)) (.seq (.region vW) (.seq (.region vX) rest))) K F2 H2 := by
    intro F2 H2 hF2 f15 hH2;obtain ⟨f0, f1, f2, f6, f7, f11, f13, f14⟩ := hF2;have bp := hH2.at 3 rfl;have hHs : (PH.nil.set p (.rows 17 [XG ([112] ++ bT i) (1 + k.1 : Nat) (m.1 : Nat) 0 .aB .aB (.bool false) .aB .aB (mkT ((1 + h.1 : Nat) : Int) 1)])).le H2 := PH.aL a_ bp;simp only[go_sem];refine bX _ (mkS l v) hHs ?_;simp only[go_sem,vS,f15,bp,em,f0];refine qI Lb.toyP T (o := E.o) (n := m.1 + 1) (a := h.2) Om ah rfl (hH2.at 0 rfl) ?_ ?_
    · rw [hq]; exact PH.aL a_ ((hH2.oH q.2).at 3 rfl)
    rw [hq];have g5 := hH2.oH q.2;simp only[go_sem,eq',f15];refine bX .nil eH a_ ?_;simp only[go_sem,vT,hpo,bp];refine ⟨a_, ?_⟩;have g6 : aP _ (E.boxes v ext w1 w2 w3 w4 w5 w6 q.2 ++ [(p, .rows 17 [XG ([112] ++ bT i) (1 + k.1 : Nat) (m.1 : Nat) (1 + k.1 + q.1 : Nat) .aB .aB (.bool false) .aB .aB (mkT ((1 + h.1 : Nat) : Int) 1)])]) L := g5.set 3 rfl (.rows 17 [XG ([112] ++ bT i) (1 + k.1 : Nat) (m.1 : Nat) (1 + k.1 + q.1 : Nat) .aB .aB (.bool false) .aB .aB (mkT ((1 + h.1 : Nat) : Int) 1)]);have bq := g6.at 3 rfl;simp only[go_sem,vW,f0,f15];refine mC (Lb.rep l v T E.o q.2 m.1 Om aq) (g6.at 0 rfl) rfl ?_;have g7 := g6.oH r.2;rw [hr];simp only[go_sem,hpo,f15];have g8 : aP _ (E.boxes v ext w1 w2 w3 w4 w5 w6 r.2 ++ [(p, .rows 17 [XG ([112] ++ bT i) (1 + k.1 : Nat) (m.1 : Nat) (1 + k.1 + q.1 : Nat) .aB (frs r.1) (.bool false) .aB .aB (mkT ((1 + h.1 : Nat) : Int) 1)])]) L := g7.set 3 rfl (.rows 17 [XG ([112] ++ bT i) (1 + k.1 : Nat) (m.1 : Nat) (1 + k.1 + q.1 : Nat) .aB (frs r.1) (.bool false) .aB .aB (mkT ((1 + h.1 : Nat) : Int) 1)]);simp only[go_sem,vX,f0];refine cY Lb.toyP T (o := E.o) (n := 9) (a := r.2) (by decide) ar rfl (g8.at 0 rfl) ?_;have g9 := g8.oH g.2;rw [hg];simp only[go_sem];refine aA (Lb.fmk (g.1 : Int) 8 (by unfold cL; omega) (by unfold cL; omega)) rfl ?_;unfold uS;rw [if_neg (by decide)];simp only[go_sem,f15,hpo];have g10 := g9.set 3 rfl (.rows 17 [pQ [.str ([112] ++ bT i), .int .i64 (1 + k.1 : Nat), .int .i64 (m.1 : Nat), .int .i64 (1 + k.1 + q.1 : Nat), .int .i64 0]
        ([.aB, frs r.1] ++ (mkT (g.1 : Nat) 8).cells ++ (mkT ((1 + h.1 : Nat) : Int) 1).cells) []])
    refine hK p _ _ ⟨by simp only[go_sem,f0], by simp only[go_sem,f1], by simp only[go_sem,f2], by simp only[go_sem,f6], by simp only[go_sem,f7], by simp only[go_sem,f11], by simp only[go_sem,f13], by simp only[go_sem,f14]⟩ (by simp only[go_sem,f15]) g10
  simp only [aC.wp, go_sem] at q2;simp only[go_sem,a1R,a2B,or_false,forall_eq,forall_eq_or_imp];exact q2 _ _ ⟨by simp only[go_sem,f0], by simp only[go_sem,f1], by simp only[go_sem,f2], by simp only[go_sem,f6], by simp only[go_sem,f7], by simp only[go_sem,f11], by simp only[go_sem,f13], by simp only[go_sem,f14]⟩ rfl g4
abbrev FE.lists (p u w x y:PV) (e:List cS) (i:List dP) (c:List cN) (d:List cZ) (l:List (List PV)):List LI:=[(p,4,gU e),(u,4,jK i),(w,7,jO c),(x,3,lN d),(y,17,l)]
theorem ayH {C:Ctx} (Lb:lK C) {l:List Nat} {v:PV} (T:Tp l v) (E:FE) (mc n i a:Nat) (ha:a≤l.length) (η:0<mc) (μ:mc≤50) (ext y A B J w5:PV) (lw:List cS) (md:List dP) (dm:List cN) (dv:List cZ) (pr:List (List PV)) (ρ:pr.length≤50)
  (s:List UInt8) (k m q:Int) (r t h:RF) (N:List RF) (p:Nat) (K:bV) (F:PF) (H:PH)
  (hF:PAt E mc n i F) (u:F 15=some (.ptr p 17 0 0))
  (hH:aP H (E.boxes v ext y A B J w5 .aB a++[(p,.rows 17 [pQ [.str s,.int .i64 k,.int .i64 m,.int .i64 q,.int .i64 0] ([.aB,frs N]++t.cells++h.cells) []])]) (FE.lists y A B J w5 lw md dm dv pr))
  (V:(let M:=pR l a 4; let f:=aD l mc M.2; let b:=aD l 2 f.2
   let ms:List Int × Nat:=if 1<mc then (if b.1=0 then ([(f.1:Int),1-(f.1:Int)],b.2) else ([(f.1:Int)],b.2)) else ([(f.1:Int)],f.2)
   ∀ (w d:PV) (W:PF) (H':PH) (B':List BX),PAt E mc n i W→(∃ o,w=.osl o 1 0 ms.1.length)→aP H' (E.boxes v ext y A B J d .aB ms.2++B')
    (FE.lists y A B J d lw md dm dv (pr++[uZ ⟨s,k,m,q,0,(M.1.getD 0 0),(M.1.getD 1 0),(M.1.getD 2 0),(M.1.getD 3 0),ms.1,N,t,h⟩ w])++[(w,1,bC ms.1)])→K .normal W H')) :
  aC.wp C (.seq (.seq (.region GQ) (.block 6 (.loop vQ))) (.seq (.region GT) (.seq (.region GU) (.seq (.seq (.region GW) (.cond (.tmp 143) (.region GX) .skip)) (.region vY))))) K F H:=by
 obtain⟨f0,f1,f2,f6,f7,f11,f13,f14⟩:=hF;simp only[go_sem,GQ];refine Zo (C:=C) Lb T E mc n i a p ha [(E.o7,flB ext y A B J w5 .aB),(E.o6,flZ)] _ _ _ rfl rfl _ _ H ⟨by simp only[go_sem,f0],by simp only[go_sem,f1],by simp only[go_sem,f2],by simp only[go_sem,f6],by simp only[go_sem,f7],by simp only[go_sem,f11],by simp only[go_sem,f13],by simp only[go_sem,f14]⟩ (by simp only[go_sem,u]) rfl hH ?_;clear f0 f1 f2 f6 f7 f11 f13 f14 u hH;intro F1 H1 ε u x;obtain⟨f0,f1,f2,f6,f7,f11,f13,f14⟩:=ε;obtain⟨α,ls⟩:=m6 l ha 4;have ι:∃ O Q R S,(pR l a 4).1=[O,Q,R,S]:=⟨_,_,_,_,rfl⟩;simp only at V;generalize ν:pR l a 4=M at *
 obtain⟨O,Q,R,S,hx⟩:=ι;rw[hx] at V x;replace x:aP H1 (E.boxes v ext y A B J w5 .aB M.2++[(p,.rows 17 [uZ ⟨s,k,m,q,0,O,Q,R,S,[],N,t,h⟩ .aB])]) (FE.lists y A B J w5 lw md dm dv pr):=x;have nf:=cE l η M.2;have af:=bK l mc α;generalize hf:aD l mc M.2=f at *
 have ab:=bK l 2 af;generalize hb:aD l 2 f.2=b at *
 have Z:¬ p=E.o:=x.ne 3 0 rfl rfl (by decide);have θ:¬ p=E.o7:=x.ne 3 1 rfl rfl (by decide);have ο:¬ E.o7=p:=fun e=>θ e.symm;have ξ:¬ E.o7=E.o:=x.ne 1 0 rfl rfl (by decide);simp only[go_sem,GT,f0,f11];refine cY Lb.toyP T (o:=E.o) (n:=mc) (a:=M.2) Om α rfl (x.at 0 rfl) ?_;have h2:=x.set 0 rfl (bJ v f.2);rw[hf];simp only[go_sem,GU];refine aQ fun o ho=>?_;have h3:=h2.azA (s:=1) (rows:=bC [(f.1:Int)]) ho;have b3:=h3.at 3 rfl;have ob:¬ p=o:=h3.neL 3 5 rfl rfl rfl;have σ:¬ E.o7=o:=h3.neL 1 5 rfl rfl rfl;have τ:¬ E.o=o:=h3.neL 0 5 rfl rfl rfl;simp only[aV,if_neg ob,if_neg Z] at b3;simp only[go_sem,u,ob,Z,b3,a1R,a2B,or_false,forall_eq];have h4:=h3.set 3 rfl (.rows 17 [uZ ⟨s,k,m,q,0,O,Q,R,S,[],N,t,h⟩ (.osl o 1 0 1)]);have fin:∀ (w:PV) (ms:List Int) (a':Nat) (W:PF) (H':PH),PAt E mc n i W→W 15=some (.ptr p 17 0 0)→(∃ o,w=.osl o 1 0 ms.length) →
   aP H' (E.boxes v ext y A B J w5 .aB a'++[(p,.rows 17 [uZ ⟨s,k,m,q,0,O,Q,R,S,ms,N,t,h⟩ w])]) (FE.lists y A B J w5 lw md dm dv pr++[(w,1,bC ms)]) →
   (∀ (d:PV) (U:PF) (H2:PH),PAt E mc n i U→aP H2 (E.boxes v ext y A B J d .aB a'++[(p,.rows 17 [uZ ⟨s,k,m,q,0,O,Q,R,S,ms,N,t,h⟩ w])]) (FE.lists y A B J d lw md dm dv (pr++[uZ ⟨s,k,m,q,0,O,Q,R,S,ms,N,t,h⟩ w])++[(w,1,bC ms)])→K .normal U H2) →
   wpOps C vY (K .normal) W H':=by
  intro w ms a' W H' δ u hw Y ζ;obtain⟨wo,rfl⟩:=hw;obtain⟨f0,f1,f2,f6,f7,f11,f13,f14⟩:=δ;have c1:=Y.at 1 rfl;have c3:=Y.at 3 rfl;have γ:(1:Nat)*17≤16777216:=by decide
  simp only[go_sem,vY,f7,u,c1,c3,γ,a1R,a2B,or_false,forall_eq,forall_eq_or_imp];refine Y.append 4 (src:=[uZ ⟨s,k,m,q,0,O,Q,R,S,ms,N,t,h⟩ (.osl wo 1 0 ms.length)]) rfl rfl (by unfold roomFor; simp only[a1T,maxLen]; omega) fun d H2 h5 κ=>?_;obtain⟨q5,rfl⟩:=κ (by simp);have c2:=h5.at 1 rfl;simp only[go_sem,c2,a1R,a2B,or_false,forall_eq];exact ζ _ _ _ ⟨by simp only[go_sem,f0],by simp only[go_sem,f1],by simp only[go_sem,f2],by simp only[go_sem,f6],by simp only[go_sem,f7],by simp only[go_sem,f11],by simp only[go_sem,f13],by simp only[go_sem,f14]⟩ (h5.set 1 rfl (flB ext y A B J _ .aB))
 simp only[go_sem,GW,f11];by_cases c:1<mc
 ·have c':(mc:Int)>1:=Om;simp only[go_sem,c',f0];refine cY Lb.toyP T (o:=E.o) (n:=2) (a:=f.2) (by decide) af rfl (h4.at 0 rfl) ?_;have h5:=h4.set 0 rfl (bJ v b.2);rw[hb];by_cases c2:b.1=0
  ·have X:(b.1:Int)=0:=Om;rw[if_pos c,if_pos c2] at V;have e1:IntKind.i64.wrap (1-(f.1:Int))=1-(f.1:Int):=wrap_i64 Om Om;have c3:=h5.at 3 rfl;have β:(1:Nat)*1≤16777216:=by decide
   simp only[go_sem,bN X,GX,u,Z,e1,β];refine h5.append 5 (src:=[[.int .i64 (1-(f.1:Int))]]) rfl rfl (by unfold roomFor; simp only[bC,a1K,a1T,maxLen]; omega) fun w' H2 h6 hw=>?_;obtain⟨q2,rfl⟩:=hw (by simp);have c4:=h6.at 3 rfl;simp only[go_sem,c4,u,a1R,a2B,or_false,forall_eq];have h7:=h6.set 3 rfl (.rows 17 [uZ ⟨s,k,m,q,0,O,Q,R,S,[(f.1:Int),1-(f.1:Int)],N,t,h⟩ (.osl q2 1 0 2)]);exact fin (.osl q2 1 0 2) [(f.1:Int),1-(f.1:Int)] b.2 _ _ ⟨by simp only[go_sem,f0],by simp only[go_sem,f1],by simp only[go_sem,f2],by simp only[go_sem,f6],by simp only[go_sem,f7],by simp only[go_sem,f11],by simp only[go_sem,f13],by simp only[go_sem,f14]⟩ (by simp only[go_sem,u]) ⟨q2,rfl⟩ h7 (fun d U H2 g1 g2=>V _ d U H2 _ g1 ⟨q2,rfl⟩ g2)
  ·have X:¬ (b.1:Int)=0:=Om;rw[if_pos c,if_neg c2] at V;simp only[go_sem,bF X];exact fin (.osl o 1 0 1) [(f.1:Int)] b.2 _ _ ⟨by simp only[go_sem,f0],by simp only[go_sem,f1],by simp only[go_sem,f2],by simp only[go_sem,f6],by simp only[go_sem,f7],by simp only[go_sem,f11],by simp only[go_sem,f13],by simp only[go_sem,f14]⟩ (by simp only[go_sem,u]) ⟨o,rfl⟩ h5 (fun d U H2 g1 g2=>V _ d U H2 _ g1 ⟨o,rfl⟩ g2)
 ·have c':¬ (mc:Int)>1:=Om;rw[if_neg c] at V;simp only[go_sem,c'];exact fin (.osl o 1 0 1) [(f.1:Int)] f.2 _ _ ⟨by simp only[go_sem,f0],by simp only[go_sem,f1],by simp only[go_sem,f2],by simp only[go_sem,f6],by simp only[go_sem,f7],by simp only[go_sem,f11],by simp only[go_sem,f13],by simp only[go_sem,f14]⟩ (by simp only[go_sem,u]) ⟨o,rfl⟩ h4 (fun d U H2 g1 g2=>V _ d U H2 _ g1 ⟨o,rfl⟩ g2)
abbrev lD (l:List cB):List (List PV):=l.map cB.cells
abbrev nF (l:List iU):List (List PV):=l.map iU.cells
theorem pI {rows:List (List PV)} (h:∀ r∈rows,∀ c∈r,c.oid=none):Flat rows:=Flat.of fun r e c d q s rs=>cg (h r e c d) q s rs
theorem Sx (l:List cS):Flat (gU l):=pI fun r e c d=>by
 obtain⟨x,_,rfl⟩:=a2G.1 e;simp only[cS.cells,a1R,a2B,or_false] at d;rcases d with rfl | rfl | rfl | rfl<;>rfl
theorem Sz (l:List dP):Flat (jK l):=pI fun r e c d=>by
 obtain⟨x,_,rfl⟩:=a2G.1 e;simp only[dP.cells,a1R,a2B,or_false] at d;rcases d with rfl | rfl | rfl | rfl<;>rfl
theorem Qf (l:List cN):Flat (jO l):=pI fun r e c d=>by
 obtain⟨x,_,rfl⟩:=a2G.1 e;simp only[cN.cells,a1R,a2B,or_false] at d;rcases d with rfl | rfl | rfl | rfl | rfl | rfl | rfl<;>rfl
theorem Qh (l:List cZ):Flat (lN l):=pI fun r e c d=>by
 obtain⟨x,_,rfl⟩:=a2G.1 e;simp only[cZ.cells,a1R,a2B,or_false] at d;rcases d with rfl | rfl | rfl<;>rfl
theorem aLY (l:List iU):Flat (nF l):=pI fun r e c d=>by
 obtain⟨x,_,rfl⟩:=a2G.1 e;simp only[iU.cells,a1R,a2B,or_false] at d;rcases d with rfl | rfl<;>rfl
theorem U9 (l:List cB):Flat (lD l):=pI fun r e c d=>by
 obtain⟨x,_,rfl⟩:=a2G.1 e;simp only[cB.cells,a1R,a2B,or_false] at d;rcases d with rfl | rfl | rfl | rfl | rfl | rfl | rfl | rfl | rfl | rfl | rfl | rfl | rfl | rfl | rfl | rfl | rfl<;>rfl
theorem aaW (l:List Nat) (mc i:Nat) {a:Nat} (h:a≤l.length):(lI l mc i a).2≤l.length:=by
 have d:=bK l 9 (DC l (bK l ((aD l 3 (aD l 2 a).2).1+1) (bK l 4 (bK l 3 (bK l 2 h)))) (max (aD l 3 (aD l 2 a).2).1 1));have c:=bK l mc (sM l (sM l (sM l (sM l d))));unfold lI;simp only;split
 ·split
  ·exact bK l 2 c
  ·exact bK l 2 c
 ·exact c
theorem xW (l:List Nat) (mc:Nat) {a:Nat} (h:a≤l.length):∀ k,(dB l mc a k).2≤l.length∧(dB l mc a k).1.length=k
 | 0=>⟨h,rfl⟩
 | k+1=>by obtain⟨c,d⟩:=xW l mc h k;exact⟨aaW l mc k c,by simp only[dB,a1P,a1T,d]⟩
theorem TR (l:List Nat) (pc:Nat) {a:Nat} (h:a≤l.length):∀ k,(eJ l pc a k).2≤l.length∧(eJ l pc a k).1.length=k
 | 0=>⟨h,rfl⟩
 | k+1=>by obtain⟨c,d⟩:=TR l pc h k;exact⟨bK l pc c,by simp only[eJ,a1P,a1T,d]⟩
theorem Gr {C:Ctx} (Lb:lK C) {l:List Nat} {v:PV} (T:Tp l v) (E:FE) (mc n a:Nat) (hn:n≤10) (θ:0<mc) (Y:mc≤50) (ha:a≤l.length) (N:Int) (d e u y:PV) (R:List cS) (S:List dP) (O:List cN) (Q:List cZ) (K:bV) (F:PF) (H:PH)
  (J:PAt E mc n 0 F) (V:aP H (E.boxes v (.int .i64 N) d e u y .aB .aB a) [(d,4,gU R),(e,4,jK S),(u,7,jO O),(y,3,lN Q)])
  (hK:∀ U F' H',(fJ E).le F'→aP H' (E.boxes v (.int .i64 N) d e u y U .aB (dB l mc a n).2) (FE.lists d e u y U R S O Q (lD (dB l mc a n).1))→K (.exit 4) F' H') :
  aC.wp C (.loop GN) K F H:=by
 refine wp_loop (α:=Nat × PV × PH) (fun t=>lm E mc n t.1) (fun t=>t.2.2) (fun t=>t.1≤n∧aP t.2.2 (E.boxes v (.int .i64 N) d e u y t.2.1 .aB (dB l mc a t.1).2) (FE.lists d e u y t.2.1 R S O Q (lD (dB l mc a t.1).1))) (fun t=>n-t.1) (0,.aB,H) ⟨a1X _,V.sC 17⟩ ?_ b_ ?_
 ·unfold lm fJ
  (repeat' (first|exact d_|refine c_ ?_ ?_))<;>first|(simp only[go_sem,J.f0,J.f1,J.f2,J.f6,J.f7,J.f11,J.f13,J.f14]<;>rfl)|rfl
 rintro⟨i,U,H0⟩ ⟨hi,V⟩;simp only at hi V ⊢;obtain⟨k1,k2⟩:=xW l mc ha i;have B:dB l mc a (i+1)=((dB l mc a i).1++[(lI l mc i (dB l mc a i).2).1],(lI l mc i (dB l mc a i).2).2):=rfl;simp only[go_sem,GN,dw,lm,fJ];by_cases hlt:i<n
 ·have A:(i:Int)<(n:Nat):=Om;generalize hg:dB l mc a i=g at *
  simp only[go_sem,A];refine ayG (C:=C) Lb T E mc n i g.2 k1 Om (.int .i64 N) d e u y U .aB _ _ _ _ H0 ⟨by simp only[go_sem],by simp only[go_sem],by simp only[go_sem],by simp only[go_sem],by simp only[go_sem],by simp only[go_sem],by simp only[go_sem],by simp only[go_sem]⟩ V ?_;intro p F1 H1 γ β W;simp only at W;have ι:lI l mc i g.2=_:=rfl;have X:=bK l 9 (DC l (bK l ((aD l 3 (aD l 2 g.2).2).1+1) (bK l 4 (bK l 3 (bK l 2 k1)))) (max (aD l 3 (aD l 2 g.2).2).1 1));refine ayH (C:=C) Lb T E mc n i _ X θ Y (.int .i64 N) d e u y U R S O Q _ (by rw[a1K,k2]; omega) _ _ _ _ (mkT 0 1) _ _ _ p _ F1 H1 γ β W ?_;intro M f b ms w c F2 H2 B' δ hw ε;obtain⟨o,rfl⟩:=hw;have hP:lI l mc i g.2=(⟨[112]++bT i,(1+(aD l 2 g.2).1:Nat),((aD l 3 (aD l 2 g.2).2).1:Nat),(1+(aD l 2 g.2).1+(aD l ((aD l 3 (aD l 2 g.2).2).1+1) (aD l 4 (aD l 3 (aD l 2 g.2).2).2).2).1:Nat),0,M.1.getD 0 0,M.1.getD 1 0,M.1.getD 2 0,M.1.getD 3 0,ms.1,(jQ l (aD l ((aD l 3 (aD l 2 g.2).2).1+1) (aD l 4 (aD l 3 (aD l 2 g.2).2).2).2).2 (max (aD l 3 (aD l 2 g.2).2).1 1)).1,mkT ((aD l 9 (jQ l (aD l ((aD l 3 (aD l 2 g.2).2).1+1) (aD l 4 (aD l 3 (aD l 2 g.2).2).2).2).2 (max (aD l 3 (aD l 2 g.2).2).1 1)).2).1:Nat) 8,mkT ((1+(aD l 4 (aD l 3 (aD l 2 g.2).2).2).1:Nat):Int) 1⟩,ms.2):=rfl;rw[hP] at B;generalize ζ:(⟨[112]++bT i,(1+(aD l 2 g.2).1:Nat),((aD l 3 (aD l 2 g.2).2).1:Nat),(1+(aD l 2 g.2).1+(aD l ((aD l 3 (aD l 2 g.2).2).1+1) (aD l 4 (aD l 3 (aD l 2 g.2).2).2).2).1:Nat),0,M.1.getD 0 0,M.1.getD 1 0,M.1.getD 2 0,M.1.getD 3 0,ms.1,(jQ l (aD l ((aD l 3 (aD l 2 g.2).2).1+1) (aD l 4 (aD l 3 (aD l 2 g.2).2).2).2).2 (max (aD l 3 (aD l 2 g.2).2).1 1)).1,mkT ((aD l 9 (jQ l (aD l ((aD l 3 (aD l 2 g.2).2).1+1) (aD l 4 (aD l 3 (aD l 2 g.2).2).2).2).2 (max (aD l 3 (aD l 2 g.2).2).1 1)).2).1:Nat) 8,mkT ((1+(aD l 4 (aD l 3 (aD l 2 g.2).2).2).1:Nat):Int) 1⟩:cB)=P at *
  have η:P.a0A=ms.1:=by rw[← ζ]
  obtain⟨rs,z1,z2,z3,Z,z5⟩:=ε.frz 5 rfl;have y1:=Z 0 _ (by decide) rfl;have y2:=Z 1 _ (by decide) rfl;have y3:=Z 2 _ (by decide) rfl;have y4:=Z 3 _ (by decide) rfl;have y5:=Z 4 _ (by decide) rfl;simp only at y1 y2 y3 y4 y5;have y0:=T.frz o 1 rs;obtain⟨f0,f1,f2,f6,f7,f11,f13,f14⟩:=δ;simp only[go_sem,d3,f14,wZz i];refine tc (i+1,c,H2.frz o 1 rs) z1 ⟨hlt,?_⟩ (by simp only; omega) ?_ b_
  ·rw[B];have eB:(E.boxes v (.int .i64 N) d e u y c .aB ms.2).map (fun b=>(b.1,b.2.frz o 1 rs))=E.boxes v (.int .i64 N) d e u y c .aB ms.2:=by show [(E.o,bY.rows 2 [[PV.cV o 1 rs v,.int .i64 ms.2]]),(E.o7,bY.rows 7 [[.int .i64 N,PV.cV o 1 rs d,PV.cV o 1 rs e,PV.cV o 1 rs u,PV.cV o 1 rs y,PV.cV o 1 rs c,.aB]]),(E.o6,flZ)]=_;rw[y0,y1,y2,y3,y4,y5]
   have e5:(lD g.1++[uZ P (.osl o 1 0 ms.1.length)]).map (fun r=>r.map (PV.cV o 1 rs))=lD (g.1++[P]):=by
    rw[a2N,U9];have:([uZ P (.osl o 1 0 ms.1.length)]:List (List PV)).map (fun r=>r.map (PV.cV o 1 rs))=[P.cells]:=by show [[PV.str P.name,.int .i64 P.k,.int .i64 P.m,.int .i64 P.a0X,.int .i64 P.s0,.int .i64 P.s1,.int .i64 P.s2,.int .i64 P.s3,.int .i64 P.s4,PV.cV o 1 rs (.osl o 1 0 ms.1.length),frs P.repair,.bool P.target.neg,aG P.target.num,aG P.target.den,.bool P.a0J.neg,aG P.a0J.num,aG P.a0J.den]]=_;rw[z2,← η];rfl
    rw[this];simp[lD]
   have eL:(FE.lists d e u y c R S O Q (lD g.1++[uZ P (.osl o 1 0 ms.1.length)])).map (fun x=>(x.1,x.2.1,x.2.2.map fun r=>r.map (PV.cV o 1 rs)))=FE.lists d e u y c R S O Q (lD (g.1++[P])):=by show [(d,4,(gU R).map _),(e,4,(jK S).map _),(u,7,(jO O).map _),(y,3,(lN Q).map _),(c,17,(lD g.1++[uZ P (.osl o 1 0 ms.1.length)]).map _)]=_;rw[Sx,Sz,Qf,Qh,e5]
   rw[← eB,← eL];exact z5.sub (by rw[a2N]; exact List.sublist_append_left ..) (a3N.refl _)
  ·(repeat' (first|exact d_|refine c_ ?_ ?_))<;>first|(simp only[go_sem,f0,f1,f2,f6,f7,f11,f13]<;>rfl)|rfl
 ·have A:¬ (i:Int)<(n:Nat):=Om;have:i=n:=Om;subst this;simp only[go_sem,A];exact hK U _ _ (QR Sq Sq Sq Sq Sq) V
end Go.PM
