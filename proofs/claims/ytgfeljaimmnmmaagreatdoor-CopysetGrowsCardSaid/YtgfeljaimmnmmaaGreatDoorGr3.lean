/-
  Texts of ours, joined: FlPlain FlW2 FlW3 FlW4 FlW5 FlW6 FlW7 FlW8 FlW9 ToPlain ToCode ToW1 ToW2 Pm34 ToW3 ToW4 ToW5 ToW6 ToW7 ToW8 ToW9 ToW10 MkCode R1Code R1W1 R1W2 R1W3 R1W4 MkPlain MkW1 Pm35 Pm36 MkW2 MkW3 MkW4 MkW5 MkW6. No condition.
-/
import Derived.Test.YtgfeljaimmnmmaaGreatDoorGr1
import Derived.Test.YtgfeljaimmnmmaaGreatDoorGr2
import Derived.Lib.ItoaNum
set_option linter.unusedSimpArgs false
set_option linter.unusedVariables false
open Nat renaming reduceEqDiff → γ, reduceAdd → δ, reduceSub → ε, reduceMul → ζ, reduceLT → η, reduceLeDiff → θ, reduceBEq → τ
open Int renaming reduceLT → ι, reduceLE → κ, reduceEq → μ, reduceToNat → ν, reduceAdd → ξ, reduceNeg → ο, reduceBEq → ρ, reduceBNe → σ
open List renaming reduceReplicate → υ
open List renaming length_map → aXI, replicate → aXK, getElem_mem → aXM, length_append → aXN, mem_cons → aXP, range → aXQ, length_singleton → aXR, getElem?_eq_getElem → aXT, not_mem_nil → aXX, take_of_length_le → aXY, length_take → aYA, all_eq_true → aYF, getElem?_map → aYG, mem_map → aYH, getD_eq_getElem?_getD → aYK, map_append → aYN, drop_zero → aYO, getElem?_eq_some_iff → aYP, append_assoc → aYQ, take_length → aYS, getElem?_eq_none → aYT, map_cons → aYU, mem_range → aYV, getElem_of_mem → aYZ, length_cons → aZA, mem_append → aZC, range' → aZF, drop_eq_getElem_cons → aZG, getElem_map → aZH, length_drop → aZI, Sublist → aZJ, append_nil → aZK, length_set → aZM, map_nil → aZN, take_succ_eq_append_getElem → aZT, length_nil → aZV, mem_singleton → aZW, getElem?_append_right → aZY, nodup_append → aZZ, getElem?_append_left → a0C, mem_of_getElem? → a0D, take_append_drop → a0E, ext_getElem → a0K, set_append_right → a0L, getElem?_take → a0Q, drop_of_length_le → a0W, map_congr_left → a0X, set_cons_zero → a0Y, getElem_append_right → a1A
open Nat renaming gcd → aXJ, le_refl → aXL, mul_add → aXS, zero_le → aXU, lt_or_ge → aXZ, mul_assoc → aYC, zero_add → aYD, mul_comm → aYI, mul_le_mul_right → aYL, add_mul → aYM, mod_eq_of_lt → aYR, mod_lt → aYW, pow_succ → aZB, le_trans → aZD, add_assoc → aZO, add_zero → aZP, min_eq_left → aZQ, mul_le_mul_left → aZR, pos_of_ne_zero → aZU, eq_zero_or_pos → aZX, pow_pos → a0A, div_le_self → a0F, succ_mul → a0G, div_lt_iff_lt_mul → a0H, mul_le_mul → a0O, div_add_mod → a0R, div_eq_of_lt → a0S, pow_le_pow_right → a0Z
open Option renaming map_eq_some_iff → aXO, map_some → aYX, some → aZS, getD_some → a0I, bind_eq_some_iff → a0T, bind_some → a0U
open Bool renaming false_and → aXV, not_true → aXW, and_eq_true → aYB, true_and → aYE, not_false → aYJ, and_false → aYY, and_true → a0B, false_eq_true → a0N
open Array renaming replicate → aZE, length_toList → a0J, getElem?_eq_some_iff → a0M, getElem?_eq_getElem → a0P, getD_eq_getD_getElem? → a0V
open Int renaming toNat_natCast → aZL
namespace Go.PM
open Go Go.Na
abbrev dC (x:Int):Prop:=-9223372036854775808≤x∧x≤9223372036854775807
structure cM where
 name:List UInt8
 start:List RF
 aWE:List (List RF)
 exit:List RF
structure dK where
 name:List UInt8
 aWO:Int
 port:Int
 law:Int
structure cI where
 name:List UInt8
 level:Int
 parent:Int
 aWS:Int
 aWN:RF
structure cS where
 name:List UInt8
 model:Int
 machine:Int
structure cB where
 name:List UInt8
 k:Int
 m:Int
 aWW:Int
 s0:Int
 s1:Int
 s2:Int
 s3:Int
 s4:Int
 aWA:List Int
 repair:List RF
 target:RF
 aWJ:RF
structure gR where
 name:List UInt8
 aWK:Int
structure aK where
 aXC:Int
 aWG:List cM
 aWA:List dK
 aWC:List cI
 aVZ:List cS
 aWD:List cB
 aWB:List gR
abbrev I (x:Int):PV:=.int .i64 x
abbrev Vv (l:List (List RF)):PV:=.sl 1 (l.map fun r=>[frs r])
abbrev cM.cells (x:cM):List PV:=[.str x.name,frs x.start,Vv x.aWE,frs x.exit]
abbrev dK.cells (x:dK):List PV:=[.str x.name,.int .i64 x.aWO,.int .i64 x.port,.int .i64 x.law]
abbrev cI.cells (x:cI):List PV:=[.str x.name,.int .i64 x.level,.int .i64 x.parent,.int .i64 x.aWS,.bool x.aWN.neg,aG x.aWN.num,aG x.aWN.den]
abbrev cS.cells (x:cS):List PV:=[.str x.name,.int .i64 x.model,.int .i64 x.machine]
abbrev cB.cells (x:cB):List PV:=[.str x.name,.int .i64 x.k,.int .i64 x.m,.int .i64 x.aWW,.int .i64 x.s0,.int .i64 x.s1,.int .i64 x.s2,.int .i64 x.s3,.int .i64 x.s4,ints x.aWA,frs x.repair,
 .bool x.target.neg,aG x.target.num,aG x.target.den,.bool x.aWJ.neg,aG x.aWJ.num,aG x.aWJ.den]
abbrev gR.cells (x:gR):List PV:=[.str x.name,.int .i64 x.aWK]
abbrev aK.cells (f:aK):List PV:=[.int .i64 f.aXC,.sl 4 (f.aWG.map cM.cells),.sl 4 (f.aWA.map dK.cells),.sl 7 (f.aWC.map cI.cells),.sl 3 (f.aVZ.map cS.cells),.sl 17 (f.aWD.map cB.cells),.sl 2 (f.aWB.map gR.cells)]
def cB.spread (p:cB) (level:Nat):Int:=match level with
 | 0=>p.s0
 | 1=>p.s1
 | 2=>p.s2
 | 3=>p.s3
 | _=>p.s4
abbrev Fits {α:Type} (l:List α):Prop:=l.length≤9223372036854775807
structure mJ (l:List RF):Prop where
 fits:Fits l
 all:∀ x∈l,x.Ok
structure cM.Ok (x:cM):Prop where
 start:mJ x.start
 exit:mJ x.exit
 aWE:Fits x.aWE
 row:∀ r∈x.aWE,mJ r
structure cB.Ok (x:cB):Prop where
 k:dC x.k
 m:dC x.m
 aWW:dC x.aWW
 aWA:Fits x.aWA
 each:∀ m∈x.aWA,dC m
 repair:mJ x.repair
 target:x.target.Ok
 aWJ:x.aWJ.Ok
structure aK.Ok (f:aK):Prop where
 aWG:Fits f.aWG
 aWA:Fits f.aWA
 aWC:Fits f.aWC
 aVZ:Fits f.aVZ
 aWD:Fits f.aWD
 aWB:Fits f.aWB
 law:∀ x∈f.aWG,x.Ok
 dom:∀ x∈f.aWC,x.aWN.Ok∧dC x.level∧dC x.parent
 drive:∀ x∈f.aVZ,dC x.model∧dC x.machine
 aWK:∀ x∈f.aWD,x.Ok
 volume:∀ x∈f.aWB,dC x.aWK
def sD (x:RF):FR:=if dJ (val x.num) (val x.den) then jS x.neg (val x.num) (val x.den) else .error 1
theorem cu (x:RF):PB x.neg (val x.num) (val x.den)=frV (sD x):=by
 unfold PB sD;split
 ·exact ic _ _ _
 ·rfl
def eH (x:RF):Bool:=match sD x with
 | .ok (n,a,b)=>!n&&(decide (cF a≤32)&&decide (cF b≤32))
 | .error _=>false
def bP (x:RF):Bool:=decide (val x.num≠0)
def UW (x:RF):Bool:=dJ (val x.num) (val x.den)&&decide (tQ x.neg (val x.num) (val x.den) false 1 1≤0)
def within (n lo hi:Int):Bool:=decide (lo≤n)&&decide (n≤hi)
def dO (R:List Bool) (i:Nat) (row:List RF):Nat→List Bool
 | 0=>R
 | k+1=>let l:=dO R i row k
  l.set i (l.getD i false||(row.map bP).getD k false&&l.getD k false)
def kK (l:cM) (R:List Bool) (i:Nat):List Bool :=
 dO (R.set i (R.getD i false||(l.exit.map bP).getD i false)) i (l.aWE.getD i []) (l.aWE.getD i []).length
def eI (l:cM) (R:List Bool):Nat→List Bool
 | 0=>R
 | i+1=>kK l (eI l R i) i
def fR (l:cM):Nat→List Bool
 | 0=>aXK l.exit.length false
 | r+1=>eI l (fR l r) l.exit.length
def qU (l:cM):Bool:=(fR l (l.exit.length+1)).all id
def pS (l:cM):Bool :=
 within l.start.length 1 4&&decide (l.exit.length=l.start.length)&&decide (l.aWE.length=l.start.length)&&l.start.all eH&&l.exit.all eH
 && (aXQ l.aWE.length).all (fun i=>decide ((l.aWE.getD i []).length=l.start.length)&&(l.aWE.getD i []).all eH&&!((l.aWE.getD i []).map bP).getD i false)
 && (match oW (l.start.map RF.v) with
  | .ok (n,a,b)=>decide (tQ n a b false 1 1=0)
  | .error _=>false)&&qU l
def distinct (l:List (List UInt8)):Bool:=(aXQ l.length).all fun i=>isName (l.getD i [])&&!(l.take i).contains (l.getD i [])
def SJ (f:aK) (i:Nat) (d:cI):Bool :=
 within d.parent 0 i&&decide ((f.aWC.map cI.level).getD d.parent.toNat 0=IntKind.i64.wrap (d.level-1))&&within d.level 1 4&&within d.aWS 1 64&&eH d.aWN
def OF (f:aK) (r:cI) (t:List cI):Bool :=
 decide (r.name=[])&&decide (r.level=0)&&decide (r.parent=-1)&&decide (r.aWS=0)&&eH r.aWN&&!bP r.aWN
  && (aXQ t.length).all fun i=>match t[i]? with
   | some d=>SJ f i d
   | none=>false
def mT (f:aK):Bool:=match f.aWC with
 | []=>false
 | r::t=>OF f r t
def UU (p:cB):Bool :=
 within p.k 1 6&&within p.m 0 4&&decide (p.k+p.m≤8)&&within p.aWW p.k (p.k+p.m)&&decide (p.s0=0)&&([p.s0,p.s1,p.s2,p.s3,p.s4].all fun n=>within n 0 8)
def PA (p:cB):Bool :=
 decide ((p.repair.length:Int)=max p.m 1)&&(p.repair.all fun x=>eH x&&bP x)&&eH p.target&&UW p.target&&eH p.aWJ
def jH (aWA:Nat) (p:cB):Bool :=
 UU p&&decide (p.aWA.length≠0)&&PA p&&(aXQ p.aWA.length).all fun j=>within (p.aWA.getD j 0) 0 ((aWA:Int)-1)&&!(p.aWA.take j).contains (p.aWA.getD j 0)
def lD (f:aK) (m:dK):Bool:=within m.aWO 1 16&&within m.port 1 64&&within m.law 0 ((f.aWG.length:Int)-1)
def jK (f:aK) (d:cS):Bool:=within d.model 0 ((f.aWA.length:Int)-1)&&within d.machine 0 ((f.aWC.length:Int)-1)&&decide ((f.aWC.map cI.level).getD d.machine.toNat 0=4)
def nM (f:aK) (v:gR):Bool:=within v.aWK 0 ((f.aWD.length:Int)-1)
def pF (f:aK):Bool:=within f.aXC 1 4&&decide (f.aWG.length≤4)&&decide (f.aWA.length≤4)&&decide (f.aWC.length≤40)&&decide (f.aVZ.length≤24)&&decide (f.aWD.length≤4)&&decide (f.aWB.length≤12)
def jL (f:aK):Bool :=
 pF f&&mT f&&(f.aWG.all pS&&f.aWA.all (lD f)&&f.aVZ.all (jK f)&&f.aWD.all (jH f.aWA.length)&&f.aWB.all (nM f))
 && (distinct (f.aWG.map cM.name)&&distinct (f.aWA.map dK.name)&&distinct ((f.aWC.drop 1).map cI.name++f.aVZ.map cS.name)&&distinct (f.aWD.map cB.name)&&distinct (f.aWB.map gR.name))
theorem aX {t:Nat} {b i:Bool} {F:PF} {H:PH} (h:F t=some (.bool b)) (e:b=i):aW [.tmp t] (cG (.bool i)) .ret F H:=by
 subst e;exact bB (.inr rfl) .nil (vs:=[.bool b]) (by rw[jI,lP,h,mN]) PH.nil_le ⟨.refl _,rfl⟩
theorem abU {C:Ctx} (n lo hi:Int):wG.wp C (aW gin.res (cG (.bool (within n lo hi)))) (PF.args [.int .i64 n,.int .i64 lo,.int .i64 hi]) .nil:=by
 by_cases a:lo≤n
 ·by_cases b:n≤hi
  ·simp only[go_sem,wG,YW,YX,gin,show n≥lo from a,b];exact aX Ev (by simp[within,a,b])
  ·simp only[go_sem,wG,YW,YX,gin,show n≥lo from a,b];exact aX Ev (by simp[within,a,b])
 ·have i:¬ n≥lo:=a;simp only[go_sem,wG,YW,YX,gin,i];exact aX Ev (by simp[within,a])
theorem m5 {C:Ctx} (L:oY C) (x:RF) (i:x.Ok):yW.wp C (aW JR.res (cG (.bool (bP x)))) (PF.args [.agg x.cells]) .nil:=by
 simp only[go_sem,yW,m6,m7,JR];refine aC (L.bits x.num i.1 i.2.2.1) Ev ?_;simp only[go_sem];refine aX Ev ?_;have:=@iY (val x.num);rw[bP,decide_eq_decide];omega
structure VT (C:Ctx):Prop extends xA C where
 frac:∀ n d:Int,dC n→dC d→aH C 115 [.int .i64 n,.int .i64 d] .nil (aL (ZK n d))
 red:∀ x:RF,x.Ok→aH C 116 [.agg x.cells] .nil (aL (frV (sD x)))
 ord:∀ x y:RF,x.Ok→y.Ok→aH C 114 [.agg x.cells,.agg y.cells] .nil (aL (xK x.neg (val x.num) (val x.den) y.neg (val y.num) (val y.den)))
 plus:∀ x y:RF,x.Ok→y.Ok→aH C 113 [.agg x.cells,.agg y.cells] .nil (aL (frV (iW x.v y.v)))
 tot:∀ l:List RF,mJ l→aH C 117 [frs l] .nil (aL (frV (oW (l.map RF.v))))
theorem EC {neg:Bool} {a b:Nat} {e:Int} (h:jS neg a b=.error e):e=2:=by
 unfold jS at h;split at h
 ·injection h with h; exact h.symm
 ·cases h
theorem atF {x:RF} {e:Int} (h:sD x=.error e):e≠0:=by
 unfold sD at h;split at h
 ·rw[EC h]; decide
 ·injection h with h; subst h; decide
theorem aDG {x:RF} {r:FV} (h:sD x=.ok r):r.rf.Ok:=by
 unfold sD at h;split at h
 ·exact (rA h).2
 ·cases h
theorem N4 {C:Ctx} (L:VT C) (x:RF) (R:x.Ok):JW.wp C (aW A8.res (cG (.bool (eH x)))) (PF.args [.agg x.cells]) .nil:=by
 simp only[go_sem,JW,N5,N6,A8];refine aC (L.red x R) Ev ?_;unfold eH;cases p:sD x with
 | error e =>have:=bF (atF p);simp only[go_sem,frV];refine aT fun o J=>?_;simp only[go_sem,OM,this];exact aX Ev rfl
 | ok r =>
  obtain⟨n,a,b⟩:=r;obtain⟨U,l2,l3,l4⟩:=aDG p;simp only[go_sem,frV];refine aT fun o J=>?_;cases n with
  | true =>simp only[go_sem,OM];exact aX Ev rfl
  | false =>
   simp only[go_sem,OM];refine aC (L.bits _ U l3) Ev ?_;rw[show val (FV.rf (false,a,b)).num=a from aY a];by_cases l:cF a≤32
   ·have i:((cF a:Nat):Int)≤32:=Om;simp only[go_sem,i];refine aC (L.bits _ l2 l4) Ev ?_;rw[show val (FV.rf (false,a,b)).den=b from aY b];simp only[go_sem];refine aX Ev ?_;rw[decide_eq_true l];simp;omega
   ·have i:¬ ((cF a:Nat):Int)≤32:=Om;simp only[go_sem,i];refine aX Ev ?_;rw[decide_eq_false l];rfl
theorem C4:jS false 1 1=.ok (false,1,1):=by
 have:cF 1=1:=by rw[pN (by decide),jW]
 simp[jS,this]
theorem C6:ZK 1 1=frV (.ok (false,1,1)):=by
 rw[ZK,if_neg (by decide),ic];show frV (jS false 1 1)=_;rw[C4]
theorem adX:(FV.rf (false,1,1)).Ok:=(rA C4).2
theorem uc:dJ 1 1=true:=by
 have:cF 1=1:=by rw[pN (by decide),jW]
 simp[dJ,this]
theorem Ob {C:Ctx} (L:VT C) (x:RF) (i:x.Ok):JY.wp C (aW gone.res (cG (.bool (UW x)))) (PF.args [.agg x.cells]) .nil:=by
 simp only[go_sem,JY,Oc,Od,gone];refine aC (L.frac 1 1 (by decide) (by decide)) Ev ?_;rw[C6];simp only[go_sem,frV];refine aT fun o l=>?_;simp only[go_sem,Oe];refine aC (L.ord x (FV.rf (false,1,1)) i adX) Ev ?_;rw[show val (FV.rf (false,1,1)).num=1 from aY 1,show val (FV.rf (false,1,1)).den=1 from aY 1,show (FV.rf (false,1,1)).neg=false from rfl];unfold xK UW;rw[uc,a0B];cases p:dJ (val x.num) (val x.den) with
 | false =>simp only[go_sem,gn];exact aX Ev rfl
 | true =>simp only[go_sem,gn];exact aX Ev rfl
theorem Ac {C:Ctx} (p:RF→Bool) (fn:Nat) (l:List RF) (hf:Fits l) (h:∀ x∈l,aH C fn [.agg x.cells] .nil (aL (.bool (p x)))) :
  DE.wp C (aW YT.res (cG (.bool (l.all p)))) (PF.args [frs l,.fn fn []]) .nil:=by
 simp only[go_sem,DE,Ad,Ae,YT];refine wp_loop (α:=Nat) (fun k=>((((PF.nil.set 1 (.fn fn [])).set 7 (frs l)).set 8 (.int .i64 (l.length:Nat))).set 9 (.int .i64 k))) (fun _=>.nil) (fun k=>k≤l.length∧(l.take k).all p=true) (fun k=>l.length-k) 0 ⟨aXU _,rfl⟩ ?_ PH.nil_le ?_
 ·(repeat' (first|exact PF.nil_le|refine PF.aJ ?_ ?_))<;>first|(simp only[go_sem,aXI]<;>rfl)|rfl
 rintro k ⟨hk,J⟩;simp only[go_sem,Ab,Af];by_cases hlt:k<l.length
 ·have i:(k:Int)<(l.length:Nat):=Om;have U:(l.map RF.cells)[k]?=some (l[k]).cells:=by simp[hlt]
  simp only[go_sem,i,Ag,U];refine aT fun o ho=>?_;simp only[go_sem,Ah];refine aC (h _ (aXM hlt)) Ev ?_;cases R:p l[k] with
  | false =>simp only[go_sem,Ai];exact aX (b:=false) Ev (BT (p:=p) hlt R).symm
  | true =>simp only[go_sem,Aj,wZz k];refine aM (k+1) ⟨hlt,aYF.1 (BS hlt J R)⟩ Om ?_ PH.nil_le;exact Lq
 ·have i:¬ (k:Int)<(l.length:Nat):=Om;simp only[go_sem,i,Ak];have:k=l.length:=Om;subst this;rw[aXY (aXL _)] at J;exact aX Ev J.symm
theorem Am {C:Ctx} (p:Int→Bool) (fn:Nat) (l:List Int) (hf:Fits l) (h:∀ x∈l,aH C fn [.int .i64 x] .nil (aL (.bool (p x)))) :
  DF.wp C (aW YU.res (cG (.bool (l.all p)))) (PF.args [ints l,.fn fn []]) .nil:=by
 simp only[go_sem,DF,An,Ao,YU];refine wp_loop (α:=Nat) (fun k=>((((PF.nil.set 1 (.fn fn [])).set 7 (ints l)).set 8 (.int .i64 (l.length:Nat))).set 9 (.int .i64 k))) (fun _=>.nil) (fun k=>k≤l.length∧(l.take k).all p=true) (fun k=>l.length-k) 0 ⟨aXU _,rfl⟩ ?_ PH.nil_le ?_
 ·(repeat' (first|exact PF.nil_le|refine PF.aJ ?_ ?_))<;>first|(simp only[go_sem,aXI]<;>rfl)|rfl
 rintro k ⟨hk,J⟩;simp only[go_sem,Al,Ap];by_cases hlt:k<l.length
 ·have i:(k:Int)<(l.length:Nat):=Om;have U:(l.map fun n=>[PV.int .i64 n])[k]?=some [.int .i64 l[k]]:=by simp[hlt]
  simp only[go_sem,i,Aq,U,Ar];refine aC (h _ (aXM hlt)) Ev ?_;cases R:p l[k] with
  | false =>simp only[go_sem,As];exact aX (b:=false) Ev (BT (p:=p) hlt R).symm
  | true =>simp only[go_sem,At,wZz k];refine aM (k+1) ⟨hlt,aYF.1 (BS hlt J R)⟩ Om ?_ PH.nil_le;exact Lq
 ·have i:¬ (k:Int)<(l.length:Nat):=Om;simp only[go_sem,i,Au];have:k=l.length:=Om;subst this;rw[aXY (aXL _)] at J;exact aX Ev J.symm
abbrev S7 (l:List Bool):PV:=.sl 1 (l.map fun b=>[PV.bool b])
theorem zr {C:Ctx} (p:Bool→Bool) (fn:Nat) (l:List Bool) (hf:Fits l) (h:∀ x∈l,aH C fn [.bool x] .nil (aL (.bool (p x)))) :
  DD.wp C (aW YS.res (cG (.bool (l.all p)))) (PF.args [S7 l,.fn fn []]) .nil:=by
 simp only[go_sem,DD,zt,zu,YS];refine wp_loop (α:=Nat) (fun k=>((((PF.nil.set 1 (.fn fn [])).set 7 (S7 l)).set 8 (.int .i64 (l.length:Nat))).set 9 (.int .i64 k))) (fun _=>.nil) (fun k=>k≤l.length∧(l.take k).all p=true) (fun k=>l.length-k) 0 ⟨aXU _,rfl⟩ ?_ PH.nil_le ?_
 ·(repeat' (first|exact PF.nil_le|refine PF.aJ ?_ ?_))<;>first|(simp only[go_sem,aXI]<;>rfl)|rfl
 rintro k ⟨hk,J⟩;simp only[go_sem,zq,zw];by_cases hlt:k<l.length
 ·have i:(k:Int)<(l.length:Nat):=Om;have U:(l.map fun b=>[PV.bool b])[k]?=some [.bool l[k]]:=by simp[hlt]
  simp only[go_sem,i,zx,U,zy];refine aC (h _ (aXM hlt)) Ev ?_;cases R:p l[k] with
  | false =>simp only[go_sem,zz];exact aX (b:=false) Ev (BT (p:=p) hlt R).symm
  | true =>simp only[go_sem,z8,wZz k];refine aM (k+1) ⟨hlt,aYF.1 (BS hlt J R)⟩ Om ?_ PH.nil_le;exact Lq
 ·have i:¬ (k:Int)<(l.length:Nat):=Om;simp only[go_sem,i,Aa];have:k=l.length:=Om;subst this;rw[aXY (aXL _)] at J;exact aX Ev J.symm
theorem m8 {C:Ctx} (b:Bool):yX.wp C (aW JS.res (cG (.bool b))) (PF.args [.bool b]) .nil:=by
 simp only[go_sem,yX,m9,nc,JS];exact aX Ev rfl
theorem Ba {C:Ctx} (i:∀ n lo hi:Int,aH C 104 [.int .i64 n,.int .i64 lo,.int .i64 hi] .nil (aL (.bool (within n lo hi)))) (n:Int):DJ.wp C (aW YY.res (cG (.bool (within n 0 8)))) (PF.args [.int .i64 n]) .nil:=by
 simp only[go_sem,DJ,Bb,Bc,YY];refine aC (i n 0 8) Ev ?_;simp only[go_sem];exact aX Ev rfl
theorem nr {C:Ctx} (l:∀ x:RF,x.Ok→aH C 105 [.agg x.cells] .nil (aL (.bool (eH x)))) (p:∀ x:RF,x.Ok→aH C 97 [.agg x.cells] .nil (aL (.bool (bP x)))) (x:RF) (i:x.Ok) :
  yY.wp C (aW KB.res (cG (.bool (eH x&&bP x)))) (PF.args [.agg x.cells]) .nil:=by
 simp only[go_sem,yY,nt,nu,KB];refine aC (l x i) Ev ?_;cases J:eH x with
 | false =>simp only[go_sem];exact aX Ev rfl
 | true =>simp only[go_sem];refine aC (p x i) Ev ?_;simp only[go_sem];exact aX Ev rfl
structure pI (C:Ctx):Prop extends VT C where
 inn:∀ n lo hi:Int,aH C 104 [.int .i64 n,.int .i64 lo,.int .i64 hi] .nil (aL (.bool (within n lo hi)))
 mS:∀ x:RF,x.Ok→aH C 97 [.agg x.cells] .nil (aL (.bool (bP x)))
 lim:∀ x:RF,x.Ok→aH C 105 [.agg x.cells] .nil (aL (.bool (eH x)))
 one:∀ x:RF,x.Ok→aH C 101 [.agg x.cells] .nil (aL (.bool (UW x)))
 allf:∀ (p:RF→Bool) (fn:Nat) (l:List RF),Fits l→(∀ x∈l,aH C fn [.agg x.cells] .nil (aL (.bool (p x))))→aH C 99 [frs l,.fn fn []] .nil (aL (.bool (l.all p)))
 alli:∀ (p:Int→Bool) (fn:Nat) (l:List Int),Fits l→(∀ x∈l,aH C fn [.int .i64 x] .nil (aL (.bool (p x))))→aH C 100 [ints l,.fn fn []] .nil (aL (.bool (l.all p)))
 allb:∀ (p:Bool→Bool) (fn:Nat) (l:List Bool),Fits l→(∀ x∈l,aH C fn [.bool x] .nil (aL (.bool (p x))))→aH C 98 [S7 l,.fn fn []] .nil (aL (.bool (l.all p)))
 ends1:∀ b:Bool,aH C 103 [.bool b] .nil (aL (.bool b))
 num1:∀ n:Int,aH C 107 [.int .i64 n] .nil (aL (.bool (within n 0 8)))
 rate1:∀ x:RF,x.Ok→aH C 109 [.agg x.cells] .nil (aL (.bool (eH x&&bP x)))
 name:∀ s:List UInt8,aH C 123 [.str s] .nil (aL (.bool (isName s)))
theorem pI.arN {C:Ctx} (L:pI C) (l:List RF) (h:mJ l):aH C 99 [frs l,.fn 105 []] .nil (aL (.bool (l.all eH))) :=
 L.allf eH 105 l h.fits fun x i=>L.lim x (h.all x i)
theorem within_iff {n lo hi:Int}:within n lo hi=true↔lo≤n∧n≤hi:=by simp[within]
theorem N7 {C:Ctx} (L:pI C) (p:cB) (hp:p.Ok) :
  JX.wp C (aW A9.res (cG (.bool (UU p)))) (PF.args [.int .i64 p.k,.int .i64 p.m,.int .i64 p.aWW,.agg [.int .i64 p.s0,.int .i64 p.s1,.int .i64 p.s2,.int .i64 p.s3,.int .i64 p.s4]]) .nil:=by
 simp only[go_sem,JX,N8,N9,A9];refine aC (L.inn p.k 1 6) rfl ?_;unfold UU;cases h1:within p.k 1 6 with
 | false =>simp only[go_sem,aYJ,vI];exact aX rfl (by simp only[aXV])
 | true =>
  obtain⟨k1,k2⟩:=within_iff.1 h1;simp only[go_sem,aXW];refine aC (L.inn p.m 0 4) rfl ?_;cases h2:within p.m 0 4 with
  | false =>simp only[go_sem,aYJ,vI];exact aX rfl (by simp only[aXV,aYY])
  | true =>
   obtain⟨m1,m2⟩:=within_iff.1 h2;have U:IntKind.i64.wrap (p.k+p.m)=p.k+p.m:=wrap_i64 Om Om;by_cases R:p.k+p.m≤8
   ·have i:¬ p.k+p.m>8:=Om;simp only[go_sem,aXW,U,i];refine aC (L.inn p.aWW p.k (p.k+p.m)) rfl ?_;cases h4:within p.aWW p.k (p.k+p.m) with
    | false =>simp only[go_sem,aYJ,vI];exact aX rfl (by simp only[aXV,aYY])
    | true =>
     have l:(0:Int)<((5:Nat):Int):=by decide
     by_cases h5:p.s0=0
     ·have J:chunks 1 5 [PV.int .i64 p.s0,.int .i64 p.s1,.int .i64 p.s2,.int .i64 p.s3,.int .i64 p.s4]=([p.s0,p.s1,p.s2,p.s3,p.s4].map fun n=>[PV.int .i64 n]):=rfl;have hm:5≤maxLen:=by decide
      simp only[go_sem,aXW,l,cE h5,Oa,J,hm];refine aC (L.alli (fun n=>within n 0 8) 107 [p.s0,p.s1,p.s2,p.s3,p.s4] (show 5≤9223372036854775807 by decide) fun x _=>L.num1 x) rfl ?_;simp only[go_sem];exact aX rfl (by rw[decide_eq_true R,decide_eq_true h5]; simp only[aYE])
     ·simp only[go_sem,aXW,l,eT h5,vI];exact aX rfl (by rw[decide_eq_false h5]; simp only[aXV,aYY])
   ·have i:p.k+p.m>8:=Om;simp only[go_sem,aXW,U,i,vI];exact aX rfl (by rw[decide_eq_false R]; simp only[aXV,aYY])
theorem max_eq (a b:Int):(if a<b then b else a)=max a b:=by
 rw[Int.max_def];by_cases h:a<b
 ·rw[if_pos h,if_pos Om]
 ·by_cases i:a≤b
  ·rw[if_neg h,if_pos i]; omega
  ·rw[if_neg h,if_neg i]
theorem Bh {C:Ctx} (L:pI C) (p:cB) (i:p.Ok) :
  DK.wp C (aW YZ.res (cG (.bool (PA p)))) (PF.args [.int .i64 p.m,frs p.repair,.agg p.target.cells,.agg p.aWJ.cells]) .nil:=by
 simp only[go_sem,DK,Bi,Bj,YZ,max_eq,aXI];unfold PA;by_cases l:(p.repair.length:Int)=max p.m 1
 ·simp only[go_sem,bM l];refine aC (L.allf (fun x=>eH x&&bP x) 109 p.repair i.repair.fits fun x J=>L.rate1 x (i.repair.all x J)) rfl ?_;rw[decide_eq_true l,aYE];cases R:p.repair.all fun x=>eH x&&bP x with
  | false =>simp only[go_sem];exact aX rfl rfl
  | true =>
   simp only[go_sem];refine aC (L.lim _ i.target) rfl ?_;cases U:eH p.target with
   | false =>simp only[go_sem];exact aX rfl rfl
   | true =>
    simp only[go_sem];refine aC (L.one _ i.target) rfl ?_;cases h4:UW p.target with
    | false =>simp only[go_sem];exact aX rfl rfl
    | true =>simp only[go_sem];refine aC (L.lim _ i.aWJ) rfl ?_;simp only[go_sem];exact aX rfl rfl
 ·simp only[go_sem,bF l];exact aX rfl (by rw[decide_eq_false l]; rfl)
def oM (l:List (List UInt8)) (k:List KS):Option PV:=match k with
 | [.str s]=>if l.contains s then some (.bool true) else none
 | _=>none
theorem ahB (l:List (List UInt8)) (s:List UInt8):(fun k=>if k=[KS.str s] then some (PV.bool true) else oM l k)=oM (l++[s]):=by
 funext k
 match k with
 | []=>rfl
 | [.int a b]=>simp[oM]
 | [.bool a]=>simp[oM]
 | [.str t] =>
  by_cases h:t=s
  ·subst h; simp[oM]
  ·simp[oM,h]
 | a::b::c=>simp[oM]
abbrev texts (l:List (List UInt8)):PV:=.sl 1 (l.map fun s=>[PV.str s])
theorem ahA:oM []=(fun _=>none:iD):=by
 funext k
 match k with
 | []=>rfl
 | [.int a b]=>rfl
 | [.bool a]=>rfl
 | [.str t]=>rfl
 | a::b::c=>cases a<;>rfl
theorem ahC (l:List (List UInt8)) (s:List UInt8):iD.upd (oM l) [KS.str s] (.bool true)=oM (l++[s]):=ahB l s
theorem Gn (l:List (List UInt8)) (s:List UInt8):(oM l [KS.str s]).getD (.bool false)=.bool (l.contains s):=by
 show (if l.contains s then some (PV.bool true) else none).getD (.bool false)=_;cases l.contains s<;>rfl
theorem jc {p:Nat→Bool} {k:Nat} (h:(aXQ k).all p=true) (i:p k=true):(aXQ (k+1)).all p=true:=by
 rw[List.range_succ,List.all_append,h]; simp[i]
theorem eE {p:Nat→Bool} {n k:Nat} (i:k<n) (l:p k=false):(aXQ n).all p=false:=by
 rw[List.all_eq_false];exact⟨k,aYV.2 i,by simp[l]⟩
def pH (p:Nat→Bool) (k:Nat):Prop:=(aXQ k).all p=true
theorem pH.zero {p:Nat→Bool}:pH p 0:=rfl
theorem pH.step {p:Nat→Bool} {k:Nat} (h:pH p k) (i:p k=true):pH p (k+1):=jc h i
def Xp (l:List (List UInt8)) (o k:Nat):PF:=((((PF.nil.set 3 (.map o)).set 7 (texts l)).set 8 (.int .i64 (l.length:Nat))).set 9 (.int .i64 k))
theorem Bq {C:Ctx} (L:pI C) (l:List (List UInt8)) (hf:Fits l):DN.wp C (aW ZA.res (cG (.bool (distinct l)))) (PF.args [texts l]) .nil:=by
 simp only[go_sem,DN,Br,Bs,ZA];refine aT fun o ho=>?_;simp only[go_sem,Bt];have e0:(PH.nil.set o (.map (false,[.str]) (fun _=>none)))=PH.nil.set o (.map (false,[.str]) (oM (l.take 0))):=by rw[List.take_zero,ahA]
 unfold distinct;generalize hp:(fun i=>isName (l.getD i [])&&!(l.take i).contains (l.getD i []))=p;have β:∀ k (h:k<l.length),p k=(isName l[k]&&!(l.take k).contains l[k]):=by intro k h;rw[← hp];simp only[aYK,aXT h,a0I]
 refine wp_loop (α:=Nat) (fun k=>Xp l o k) (fun k=>PH.nil.set o (.map (false,[.str]) (oM (l.take k)))) (fun k=>k≤l.length∧pH p k) (fun k=>l.length-k) 0 ⟨aXU _,.zero⟩ ?_ ?_ ?_
 ·unfold Xp
  (repeat' (first|exact PF.nil_le|refine PF.aJ ?_ ?_))<;>first|(simp only[go_sem,aXI]<;>rfl)|rfl
 ·rw[e0]; exact PH.le_refl
 rintro k ⟨hk,ha⟩;simp only[go_sem,Bp,Bu,Xp];by_cases hlt:k<l.length
 ·have R:(k:Int)<(l.length:Nat):=Om;have hr:(l.map fun s=>[PV.str s])[k]?=some [.str l[k]]:=by simp[hlt]
  simp only[go_sem,R,Bv,hr,Bw];refine aC (L.name l[k]) rfl ?_;have J:=β k hlt;cases h1:isName l[k] with
  | false =>rw[h1,aXV] at J;simp only[go_sem,aYJ,SX];exact aX (b:=false) rfl (eE hlt J).symm
  | true =>
   rw[h1,aYE] at J;cases U:(l.take k).contains l[k] with
   | true =>rw[U] at J;simp only[go_sem,aXW,Gn,U,SX];exact aX (b:=false) rfl (eE hlt J).symm
   | false =>
    rw[U] at J;simp only[go_sem,aXW,Gn,U,Bx,ahC,By,wZz k];refine aM (k+1) ⟨hlt,ha.step J⟩ Om ?_ ?_
    ·exact Lq
    ·rw[aZT hlt];exact PH.aJ PH.nil_le Sq
 ·have R:¬ (k:Int)<(l.length:Nat):=Om;simp only[go_sem,R,nv];have:k=l.length:=Om;subst this;exact aX (b:=true) rfl (show pH p l.length from ha).symm
def marks (n:Nat) (l:List Int):List Bool:=(aXQ n).map fun (i:Nat)=>l.contains (i:Int)
theorem KK (n:Nat) (l:List Int):(marks n l).length=n:=by simp[marks]
theorem oz (n:Nat):marks n []=aXK n false:=by
 refine a0K (by simp[marks]) fun i l p=>by simp[marks]
theorem wM {n:Nat} {l:List Int} {m:Int} (i:0≤m) (p:m<n):(marks n l)[m.toNat]?=some (l.contains m):=by
 have:m.toNat<n:=Om;simp only[marks,aYG,List.getElem?_range this,aYX];rw[Int.toNat_of_nonneg i]
theorem KL {n:Nat} {l:List Int} {m:Int} (J:0≤m) (R:m<n):(marks n l).set m.toNat true=marks n (l++[m]):=by
 refine a0K (by simp[marks]) fun i U h3=>?_;simp only[marks,aZH,List.getElem_range,List.getElem_set,List.contains_append];by_cases h:m.toNat=i
 ·subst h;rw[if_pos rfl,Int.toNat_of_nonneg J]; simp
 ·have p:((i:Nat):Int)≠m:=Om;rw[if_neg h]; simp[p]
abbrev cY (l:List Bool):List (List PV):=l.map fun b=>[PV.bool b]
theorem pY (l:List Bool) (i:Nat) (b:Bool):(cY l).set i [.bool b]=cY (l.set i b):=by unfold cY; rw[List.map_set]
structure VS (C:Ctx):Prop extends pI C where
 num:∀ p:cB,p.Ok→aH C 106 [.int .i64 p.k,.int .i64 p.m,.int .i64 p.aWW,.agg [.int .i64 p.s0,.int .i64 p.s1,.int .i64 p.s2,.int .i64 p.s3,.int .i64 p.s4]] .nil (aL (.bool (UU p)))
 rate:∀ p:cB,p.Ok→aH C 108 [.int .i64 p.m,frs p.repair,.agg p.target.cells,.agg p.aWJ.cells] .nil (aL (.bool (PA p)))
 uniq:∀ l:List (List UInt8),Fits l→aH C 110 [texts l] .nil (aL (.bool (distinct l)))
def asP (p:cB) (aWA:Nat) (o k:Nat):PF:=(((((PF.nil.set 1 (.int .i64 aWA)).set 5 (.osl o 1 0 aWA)).set 39 (ints p.aWA)).set 40 (.int .i64 (p.aWA.length:Nat))).set 41 (.int .i64 k))
theorem Of {C:Ctx} (L:VS C) (p:cB) (hp:p.Ok) (aWA:Nat) (hm:aWA≤4):JZ.wp C (aW Bd.res (cG (.bool (jH aWA p)))) (PF.args [.agg p.cells,.int .i64 aWA]) .nil:=by
 simp only[go_sem,JZ,Og,Oh,Bd];refine aC (L.num p hp) rfl ?_;unfold jH;cases U:UU p with
 | false =>simp only[go_sem,aYJ,ON];exact aX rfl (by simp only[aXV])
 | true =>
  by_cases R:p.aWA.length=0
  ·simp only[go_sem,aXW,aXI,bM (Om:(p.aWA.length:Int)=0),ON];refine aX rfl ?_;have:decide (p.aWA.length≠0)=false:=by simp[R]
   rw[this]; simp only[aXV,aYY]
  ·have β:decide (p.aWA.length≠0)=true:=by simp[R]
   simp only[go_sem,aXW,aXI,bF (Om:(p.aWA.length:Int)≠0)];refine aC (L.rate p hp) rfl ?_;rw[β];cases h3:PA p with
   | false =>simp only[go_sem,aYJ,ON];exact aX rfl (by simp only[aXV,aYY])
   | true =>
    have γ:((aWA:Nat):Int)*((1:Nat):Int)≤140737488355328:=Om;have δ:((aWA:Nat):Int)≤9223372036854775807:=Om;simp only[aYE];simp only[go_sem,aXW,Oi,γ,δ];refine aT fun o ho=>?_;simp only[go_sem,Oj];have e0:aXK aWA [PV.bool false]=cY (marks aWA (p.aWA.take 0)):=by rw[List.take_zero,oz]; simp[cY]
    rw[e0];generalize hq:(fun j=>within (p.aWA.getD j 0) 0 ((aWA:Int)-1)&&!(p.aWA.take j).contains (p.aWA.getD j 0))=q;have ε:∀ k (h:k<p.aWA.length),q k=(within p.aWA[k] 0 ((aWA:Int)-1)&&!(p.aWA.take k).contains p.aWA[k]):=by intro k h;rw[← hq];simp only[aYK,aXT h,a0I]
    refine wp_loop (α:=Nat) (fun k=>asP p aWA o k) (fun k=>PH.nil.set o (.rows 1 (cY (marks aWA (p.aWA.take k))))) (fun k=>k≤p.aWA.length∧pH q k) (fun k=>p.aWA.length-k) 0 ⟨aXU _,.zero⟩ ?_ (PH.le_refl) ?_
    ·unfold asP
     (repeat' (first|exact PF.nil_le|refine PF.aJ ?_ ?_))<;>first|(simp only[go_sem,aXI]<;>rfl)|rfl
    rintro k ⟨hk,ha⟩;simp only[go_sem,Be,Ol,asP];have ζ:=hp.aWA;by_cases hlt:k<p.aWA.length
    ·have l:(k:Int)<(p.aWA.length:Nat):=Om;have hr:(p.aWA.map fun n=>[PV.int .i64 n])[k]?=some [.int .i64 p.aWA[k]]:=by simp[hlt]
     have hw:IntKind.i64.wrap ((aWA:Int)-1)=(aWA:Int)-1:=wrap_i64 Om Om;simp only[go_sem,l,On,hr,Oo,hw];refine aC (L.inn p.aWA[k] 0 ((aWA:Int)-1)) rfl ?_;have i:=ε k hlt;cases U:within p.aWA[k] 0 ((aWA:Int)-1) with
     | false =>rw[U,aXV] at i;simp only[go_sem,aYJ,gr];exact aX (b:=false) rfl (eE hlt i).symm
     | true =>
      rw[U,aYE] at i;obtain⟨i1,i2⟩:=within_iff.1 U;have i3:p.aWA[k]<(aWA:Nat):=Om;have J:(cY (marks aWA (p.aWA.take k)))[p.aWA[k].toNat]?=some [.bool ((p.aWA.take k).contains p.aWA[k])]:=by unfold cY;rw[aYG,wM i1 i3]; rfl
      cases R:(p.aWA.take k).contains p.aWA[k] with
      | true =>rw[R] at i J;simp only[go_sem,aXW,i1,i3,aYD,J,gr];exact aX (b:=false) rfl (eE hlt i).symm
      | false =>
       rw[R] at i J;simp only[go_sem,aXW,i1,i3,aYD,J,Oq,pY,KL i1 i3,Bf,wZz k];refine aM (k+1) ⟨hlt,ha.step i⟩ Om ?_ ?_
       ·exact Lq
       ·rw[aZT hlt];exact PH.aJ PH.nil_le Sq
    ·have l:¬ (k:Int)<(p.aWA.length:Nat):=Om;simp only[go_sem,l,Bg];have:k=p.aWA.length:=Om;subst this;exact aX (b:=true) rfl (show pH q p.aWA.length from ha).symm
def aqD:PV→RF
 | .agg [.bool n,a,b]=>⟨n,kC a,kC b⟩
 | _=>⟨false,[],[]⟩
theorem Tn (x:RF):aqD (.agg x.cells)=x:=by
 show (⟨x.neg,kC (aG x.num),kC (aG x.den)⟩:RF)=x;rw[eP,eP]
def flS:Spec:=fun name vs=>match name,vs with
 | 104,[.int _ n,.int _ lo,.int _ hi]=>some ([],fun _=>aL (.bool (within n lo hi)))
 | 105,[x]=>some ([],fun _=>aL (.bool (eH (aqD x))))
 | 97,[x]=>some ([],fun _=>aL (.bool (bP (aqD x))))
 | _,_=>none
theorem zd (n lo hi:Int):flS 104 [.int .i64 n,.int .i64 lo,.int .i64 hi]=some ([],fun _=>aL (.bool (within n lo hi))):=rfl
theorem aAN (x:RF):flS 105 [.agg x.cells]=some ([],fun _=>aL (.bool (eH x))):=by
 show some _=_; rw[Tn]
def T3 (f:aK) (t:List cI) (k:Nat):PF:=((((PF.nil.set 1 (.cO f.cells)).set 45 (.sl 7 (t.map cI.cells))).set 46 (.int .i64 (t.length:Nat))).set 47 (.int .i64 k))
theorem No {C:Ctx} (L:pI C) (f:aK) (hf:f.Ok):xN.wp C (aW gk.res (cG (.bool (mT f)))) (PF.args [.agg f.cells]) .nil:=by
 obtain⟨aXC,aWG,aWA,aWC,aVZ,aWD,aWB⟩:=f;cases aWC with
 | nil =>rw[show mT ⟨aXC,aWG,aWA,[],aVZ,aWD,aWB⟩=false from rfl];simp only[go_sem,xN,gl,gm,gk,aZN,aZV];have:(((0:Nat):Int)==0)=true:=rfl;simp only[go_sem,this,Np];exact aX rfl rfl
 | cons r t =>
  generalize hF:(⟨aXC,aWG,aWA,r::t,aVZ,aWD,aWB⟩:aK)=f at *
  have hd:f.aWC=r::t:=by rw[← hF]
  have hP:mT f=OF f r t:=by unfold mT; rw[hd]
  rw[hP];unfold OF;have p:f.aWC.length=t.length+1:=by rw[hd]; rfl
  have μ:=hf.aWC;have ε:(f.aWC.map cI.cells)[0]?=some r.cells:=by rw[hd]; rfl
  have ν:(f.aWC.map cI.cells)[Int.toNat 0]?=some r.cells:=ε;have γ:=hf.dom;have U:=γ r (by rw[hd]; exact List.mem_cons_self ..);simp only[go_sem,xN,gl,gm,gk,aXI,p,bF (Om:((t.length+1:Nat):Int)≠0),Nq,ε];refine aT fun o ho=>?_;by_cases c1:r.name=[]
  ·rw[decide_eq_true c1];by_cases c2:r.level=0
   ·rw[decide_eq_true c2];by_cases c3:r.parent=-1
    ·rw[decide_eq_true c3];by_cases c4:r.aWS=0
     ·rw[decide_eq_true c4];simp only[go_sem,vG,nS c1,aXW,cE c2,cE c3,cE c4];refine aC (L.lim r.aWN U.1) rfl ?_;cases c5:eH r.aWN with
      | false =>simp only[go_sem,aYJ,rU];exact aX rfl (by simp only[aYY,aXV])
      | true =>
       simp only[go_sem,aXW];refine aC (L.mS r.aWN U.1) rfl ?_;cases c6:bP r.aWN with
       | true =>simp only[go_sem,rU];exact aX rfl (by simp only[aXW,aYY,aXV])
       | false =>
        have κ:(0:Int)≤1∧(1:Int)≤((t.length+1:Nat):Int):=Om;have β:((f.aWC.map cI.cells).take (t.length+1)).drop (Int.toNat 1)=t.map cI.cells:=by rw[aXY (by simp[p]),hd]; rfl
        have R:((f.aWC.map cI.cells).take (t.length+1)).drop 1=t.map cI.cells:=β;simp only[go_sem,Nr,aXI,p,κ,R,aZL];generalize hq:(fun i=>match t[i]? with | some d=>SJ f i d | none=>false)=q;have θ:∀ k (h:k<t.length),q k=SJ f k t[k]:=by intro k h;rw[← hq];simp only[aXT h]
        refine wp_loop (α:=Nat) (fun k=>T3 f t k) (fun k=>.nil) (fun k=>k≤t.length∧pH q k) (fun k=>t.length-k) 0 ⟨aXU _,.zero⟩ ?_ PH.nil_le ?_
        ·unfold T3
         (repeat' (first|exact PF.nil_le|refine PF.aJ ?_ ?_))<;>first|(simp only[go_sem,aXI]<;>rfl)|rfl
        rintro k ⟨hk,ha⟩;simp only[go_sem,Av,Ns,T3];by_cases hlt:k<t.length
        ·have J:(k:Int)<(t.length:Nat):=Om;have ι:(t.map cI.cells)[k]?=some (t[k]).cells:=by simp[hlt]
         have ζ:=γ t[k] (by rw[hd]; exact List.mem_cons_of_mem _ (aXM hlt));have l:=θ k hlt;unfold SJ at l;simp only[go_sem,J,Nt,ι];refine aT fun o2 ξ=>?_;simp only[go_sem];refine cJ .nil flS PH.nil_le ?_;simp only[go_sem,Nu];refine cW (zd _ 0 k) (L.inn (t[k]).parent 0 k) rfl PH.nil_le ?_;cases e1:within (t[k]).parent 0 k with
         | false =>simp only[e1,aXV] at l;simp only[go_sem,aYJ,rT];exact aX (b:=false) rfl (eE hlt l).symm
         | true =>
          obtain⟨i1,i2⟩:=within_iff.1 e1;have i3:(t[k]).parent.toNat<f.aWC.length:=Om;have δ:(f.aWC.map cI.cells)[(t[k]).parent.toNat]?=some (f.aWC[(t[k]).parent.toNat]).cells:=by simp[i3]
          have η:(f.aWC.map cI.level).getD (t[k]).parent.toNat 0=(f.aWC[(t[k]).parent.toNat]).level:=by simp[i3]
          rw[η,e1,aYE] at l;by_cases e2:(f.aWC[(t[k]).parent.toNat]).level=IntKind.i64.wrap ((t[k]).level-1)
          ·rw[decide_eq_true e2,aYE] at l;simp only[go_sem,aXW,i1,δ,cE e2];refine cW (zd _ 1 4) (L.inn (t[k]).level 1 4) rfl PH.nil_le ?_;cases e3:within (t[k]).level 1 4 with
           | false =>simp only[e3,aXV] at l;simp only[go_sem,aYJ,rT];exact aX (b:=false) rfl (eE hlt l).symm
           | true =>
            rw[e3,aYE] at l;simp only[go_sem,aXW];refine cW (zd _ 1 64) (L.inn (t[k]).aWS 1 64) rfl PH.nil_le ?_;cases e4:within (t[k]).aWS 1 64 with
            | false =>simp only[e4,aXV] at l;simp only[go_sem,aYJ,rT];exact aX (b:=false) rfl (eE hlt l).symm
            | true =>
             rw[e4,aYE] at l;simp only[go_sem,aXW];refine cW (aAN (t[k]).aWN) (L.lim _ ζ.1) rfl PH.nil_le ?_;cases e5:eH (t[k]).aWN with
             | false =>rw[e5] at l;simp only[go_sem,aYJ,rT];exact aX (b:=false) rfl (eE hlt l).symm
             | true =>rw[e5] at l;simp only[go_sem,aXW,Aw,wZz k];refine aM (k+1) ⟨hlt,ha.step l⟩ Om ?_ PH.nil_le;exact Lq
          ·simp only[decide_eq_false e2,aXV] at l;simp only[go_sem,aXW,i1,δ,eT e2,rT];exact aX (b:=false) rfl (eE hlt l).symm
        ·have J:¬ (k:Int)<(t.length:Nat):=Om;simp only[go_sem,J,Ax];have:k=t.length:=Om;subst this;exact aX (b:=true) rfl (show pH q t.length from ha).symm
     ·simp only[go_sem,vG,nS c1,aXW,cE c2,cE c3,eT c4,rU];exact aX rfl (by rw[decide_eq_false c4]; simp only[aYY,aXV])
    ·simp only[go_sem,vG,nS c1,aXW,cE c2,eT c3,rU];exact aX rfl (by rw[decide_eq_false c3]; simp only[aYY,aXV])
   ·simp only[go_sem,vG,nS c1,aXW,eT c2,rU];exact aX rfl (by rw[decide_eq_false c2]; simp only[aYY,aXV])
  ·simp only[go_sem,vG,WC c1,aYJ,rU];exact aX rfl (by rw[decide_eq_false c1]; simp only[aYY,aXV])
theorem wT (R:List Bool) (i:Nat) (row:List RF):∀ k,(dO R i row k).length=R.length
 | 0=>rfl
 | k+1=>by simp only[dO,aZM,wT R i row k]
theorem Ge (l:cM) (R:List Bool) (i:Nat):(kK l R i).length=R.length:=by
 unfold kK; rw[wT,aZM]
theorem sC (l:cM) (R:List Bool):∀ i,(eI l R i).length=R.length
 | 0=>rfl
 | i+1=>by simp only[eI,Ge,sC l R i]
theorem cr (l:cM):∀ r,(fR l r).length=l.exit.length
 | 0=>by simp[fR]
 | r+1=>by simp only[fR,sC,cr l r]
theorem RZ {R:List Bool} {i:Nat} (h:i<R.length):(cY R)[i]?=some [.bool (R.getD i false)]:=by
 unfold cY;rw[aYG,aXT h,aYK,aXT h]; rfl
theorem xD (R:List Bool):(cY R).length=R.length:=by simp[cY]
def OG (l:cM) (o r:Nat):PF:=(((PF.nil.set 1 (.cO l.cells)).set 3 (.osl o 1 0 l.exit.length)).set 4 (.int .i64 r))
def CR (l:cM) (o r i:Nat):PF:=(((((PF.nil.set 1 (.cO l.cells)).set 3 (.osl o 1 0 l.exit.length)).set 4 (.int .i64 r)).set 19 (.int .i64 (l.exit.length:Nat))).set 20 (.int .i64 i))
def qS (l:cM) (o r i:Nat) (row:List RF) (k:Nat):PF:=(((((((((PF.nil.set 1 (.cO l.cells)).set 3 (.osl o 1 0 l.exit.length)).set 4 (.int .i64 r)).set 19 (.int .i64 (l.exit.length:Nat))).set 20 (.int .i64 i)).set 5 (.int .i64 i)).set 42 (frs row)).set 43 (.int .i64 (row.length:Nat))).set 44 (.int .i64 k))
def qT (o:Nat) (R:List Bool):PH:=PH.nil.set o (.rows 1 (cY R))
theorem Jk {C:Ctx} (L:pI C) (l:cM) (o r i:Nat) (row:List RF) (η:mJ row) (ι:row.length=l.exit.length) (hi:i<l.exit.length) (hn:l.exit.length≤4) (p:List Bool) (hR:p.length=l.exit.length) (K:bT) (F:PF) (H:PH)
  (hF:(qS l o r i row 0).le F) (hH:(qT o p).le H)
  (hK:∀ F H,(qS l o r i row row.length).le F→(qT o (dO p i row row.length)).le H→K .normal F H) :
  aA.wp C (.block 4 (.loop xO)) K F H:=by
 simp only[go_sem];refine wp_loop (α:=Nat) (fun k=>qS l o r i row k) (fun k=>qT o (dO p i row k)) (fun k=>k≤row.length) (fun k=>row.length-k) 0 (aXU _) hF hH ?_;intro k hk;simp only[go_sem,xO,A5,qS,qT];have θ:=wT p i row k;by_cases hlt:k<row.length
 ·have J:(k:Int)<(row.length:Nat):=Om;have hr:(row.map RF.cells)[k]?=some (row[k]).cells:=by simp[hlt]
  simp only[go_sem,J,nj,hr];refine aT fun o7 ζ=>?_;have n7:o≠o7:=by rintro rfl; simp only[aQ,if_true] at ζ; cases ζ
  have β:(i:Int)<(l.exit.length:Nat):=Om;have ε:(k:Int)<(l.exit.length:Nat):=Om;have U:=RZ (R:=dO p i row k) (i:=i) Om;have γ:=RZ (R:=dO p i row k) (i:=k) Om;have δ:dO p i row (k+1)=(dO p i row k).set i ((dO p i row k).getD i false||bP row[k]&&(dO p i row k).getD k false):=by simp only[dO,aYK,aYG,aXT hlt,aYX,a0I]
  have fin:∀ (b:Bool) (F:PF) (H:PH),b=((dO p i row k).getD i false||bP row[k]&&(dO p i row k).getD k false)→(qS l o r i row (k+1)).le F→H o=some (.rows 1 ((cY (dO p i row k)).set i [.bool b])) →
    jD (fun k=>qS l o r i row k) (fun k=>qT o (dO p i row k)) (fun k=>k≤row.length) (fun k=>row.length-k) (row.length-k) (fG 4 K) .normal F H:=by
   intro b F H hb hF hH;refine aM (k+1) hlt Om hF ?_;rw[pY,hb,← δ] at hH;exact PH.aJ PH.nil_le hH
  unfold qS qT at fin;generalize hb:(dO p i row k).getD i false=b at *
  generalize hc:(dO p i row k).getD k false=c at *
  generalize hA:bP row[k]=A at *
  cases b with
  | true =>simp only[go_sem,JT,n7,β,aYD,U,xQ,wZz k];exact fin true _ _ (by simp) Lq Sq
  | false =>
   simp only[go_sem,JT,n7,β,aYD,U];refine aC (L.mS _ (η.all _ (aXM hlt))) rfl ?_;rw[hA];cases A with
   | false =>simp only[go_sem,β,ε,n7,aYD,U,γ,xQ,wZz k];exact fin false _ _ (by simp) Lq Sq
   | true =>simp only[go_sem,β,ε,n7,aYD,U,γ,xQ,wZz k];exact fin c _ _ (by simp) Lq Sq
 ·have J:¬ (k:Int)<(row.length:Nat):=Om;simp only[go_sem,J];have:k=row.length:=Om;subst this;exact hK _ _ (by unfold qS; exact Lq) (PH.le_refl)
structure VR (l:cM):Prop where
 n:l.exit.length≤4
 aWE:l.aWE.length=l.exit.length
 row:∀ r∈l.aWE,r.length=l.exit.length
theorem Jl {C:Ctx} (L:pI C) (l:cM) (hl:l.Ok) (he:VR l) (o r:Nat) (R:List Bool) (hR:R.length=l.exit.length) (K:bT) (F:PF) (H:PH)
  (hF:(CR l o r 0).le F) (hH:(qT o R).le H)
  (hK:∀ F H,(OG l o r).le F→(qT o (eI l R l.exit.length)).le H→K .normal F H) :
  aA.wp C (.block 2 (.loop xP)) K F H:=by
 simp only[go_sem];refine wp_loop (α:=Nat) (fun i=>CR l o r i) (fun i=>qT o (eI l R i)) (fun i=>i≤l.exit.length) (fun i=>l.exit.length-i) 0 (aXU _) hF hH ?_;intro i hi;have κ:=sC l R i;have hn:=he.n;by_cases hlt:i<l.exit.length
 ·have p:(i:Int)<(l.exit.length:Nat):=Om;have U:i<l.aWE.length:=by rw[he.aWE]; exact hlt
  have β:=RZ (R:=eI l R i) (i:=i) Om;have hx:(l.exit.map RF.cells)[i]?=some (l.exit[i]).cells:=by simp[hlt]
  have ζ:(l.aWE.map fun r=>[frs r])[i]?=some [frs l.aWE[i]]:=by simp[U]
  have ι:(l.aWE[i]).length=l.exit.length:=he.row _ (aXM U);generalize J:(eI l R i).set i ((eI l R i).getD i false||bP l.exit[i])=R1;have ε:R1.length=l.exit.length:=by rw[← J,aZM]; omega
  have γ:eI l R (i+1)=dO R1 i l.aWE[i] (l.aWE[i]).length:=by
   simp only[eI,kK];have e1:(l.exit.map bP).getD i false=bP l.exit[i]:=by simp[aYK,hlt]
   have e2:l.aWE.getD i []=l.aWE[i]:=by simp[aYK,U]
   rw[e1,e2,J]
  have rest:∀ (F:PF) (H:PH),(((((((PF.nil.set 1 (.cO l.cells)).set 3 (.osl o 1 0 l.exit.length)).set 4 (.int .i64 r)).set 19 (.int .i64 (l.exit.length:Nat))).set 20 (.int .i64 i)).set 5 (.int .i64 i)):PF).le F→H o=some (.rows 1 (cY R1)) →
    aA.wp C (.seq (.region SS) (.block 4 (.loop xO))) (fG 3 (fZ C (aA.wp C (.region JU)) (jD (fun i=>CR l o r i) (fun i=>qT o (eI l R i)) (fun i=>i≤l.exit.length) (fun i=>l.exit.length-i) (l.exit.length-i) (fG 2 K)))) F H:=by
   intro F H hF hH;have f1:F 1=some (.cO l.cells):=hF 1 _ rfl;have f3:F 3=some (.osl o 1 0 l.exit.length):=hF 3 _ rfl;have f4:F 4=some (.int .i64 r):=hF 4 _ rfl;have μ:F 19=some (.int .i64 (l.exit.length:Nat)):=hF 19 _ rfl;have ν:F 20=some (.int .i64 i):=hF 20 _ rfl;have f5:F 5=some (.int .i64 i):=hF 5 _ rfl;rw[jo];simp only[go_sem,SS,f1,f5,ζ,aXI];have inner:=Jk L l o r i l.aWE[i] (hl.row _ (aXM U)) ι hlt hn R1 ε;simp only[aA.wp,go_sem] at inner;refine inner _ _ _ ?_ (PH.aJ PH.nil_le hH) ?_
   ·unfold qS;exact Lq
   ·intro F' H' δ θ;have η:F' 20=some (.int .i64 i):=δ 20 _ (by unfold qS; simp only[go_sem]);simp only[go_sem,JU,η,wZz i];refine aM (i+1) hlt Om ?_ (by rw[γ]; exact θ);have g:=fun (q:Nat) v h=>δ q v h;unfold CR;unfold qS at g;refine PF.aJ (PF.aJ (PF.aJ (PF.aJ (PF.aJ PF.nil_le ?_) ?_) ?_) ?_) ?_
    ·simp only[go_sem]; exact g 1 _ rfl
    ·simp only[go_sem]; exact g 3 _ rfl
    ·simp only[go_sem]; exact g 4 _ rfl
    ·simp only[go_sem]; exact g 19 _ rfl
    ·simp only[go_sem]
  simp only[aA.wp,go_sem] at rest;simp only[go_sem,xP,SQ,CR,qT,p,A4];generalize hb:(eI l R i).getD i false=b at *
  cases b with
  | true =>simp only[go_sem,SR,p,aYD,β];refine rest _ _ Lq ?_;rw[← J];simp only[go_sem,pY,Bool.true_or]
  | false =>simp only[go_sem,SR,p,aYD,β,hx];refine aC (L.mS _ (hl.exit.all _ (aXM hlt))) rfl ?_;simp only[go_sem,p,aYD,β];refine rest _ _ Lq ?_;rw[← J];simp only[go_sem,pY,Bool.false_or]
 ·have p:¬ (i:Int)<(l.exit.length:Nat):=Om;simp only[go_sem,xP,SQ,CR,qT,p];have:i=l.exit.length:=Om;subst this;exact hK _ _ (by unfold OG; exact Lq) PH.le_refl
theorem Ay {C:Ctx} (L:pI C) (l:cM) (hl:l.Ok) (he:VR l):DG.wp C (aW YV.res (cG (.bool (qU l)))) (PF.args [.agg l.cells]) .nil:=by
 have hn:=he.n;have β:(l.exit.length:Int)*((1:Nat):Int)≤140737488355328:=Om;have γ:(l.exit.length:Int)≤9223372036854775807:=Om;simp only[go_sem,DG,Az,A0,YV,aXI,β,γ];refine aT fun o ho=>?_;simp only[go_sem,A1];refine wp_loop (α:=Nat) (fun r=>OG l o r) (fun r=>qT o (fR l r)) (fun r=>r≤l.exit.length+1) (fun r=>l.exit.length+1-r) 0 (aXU _) ?_ ?_ ?_
 ·unfold OG;exact Lq
 ·refine PH.aJ PH.nil_le ?_;simp only[go_sem,fR];simp[cY]
 intro r hr;have p:=cr l r;simp only[go_sem,ni,A2,OG,qT];by_cases hlt:r≤l.exit.length
 ·have i:(r:Int)≤(l.exit.length:Nat):=Om;simp only[go_sem,i,A3];have inner:=Jl L l hl he o r (fR l r) p;simp only[aA.wp,go_sem] at inner;refine inner _ _ _ ?_ PH.le_refl ?_
  ·unfold CR;exact Lq
  ·intro F' H' R U;have g:=fun (q:Nat) v h=>R q v h;unfold OG at g;have g4:F' 4=some (.int .i64 r):=g 4 _ rfl;simp only[go_sem,nn,g4,wZz r];refine aM (r+1) Om Om ?_ U;refine PF.aJ (PF.aJ (PF.aJ PF.nil_le ?_) ?_) ?_
   ·simp only[go_sem]; exact g 1 _ rfl
   ·simp only[go_sem]; exact g 3 _ rfl
   ·simp only[go_sem]
 ·have i:¬ (r:Int)≤(l.exit.length:Nat):=Om;have:r=l.exit.length+1:=Om;subst this;simp only[go_sem,i,np];have J:=L.allb id 103 (fR l (l.exit.length+1)) (Om:(fR l (l.exit.length+1)).length≤_) fun x _=>L.ends1 x;have δ:(cY (fR l (l.exit.length+1))).length=l.exit.length:=by rw[xD,p]
  refine pG J (rs:=cY (fR l (l.exit.length+1))) (o:=o) (s:=1) Sq ?_ ?_
  ·simp only[go_sem,vF (show l.exit.length≤(cY (fR l (l.exit.length+1))).length by omega),aXY (show (cY (fR l (l.exit.length+1))).length≤l.exit.length by omega)]
  ·simp only[go_sem];exact aX rfl rfl
structure HU (C:Ctx):Prop extends VS C where
 ends:∀ l:cM,l.Ok→VR l→aH C 102 [.agg l.cells] .nil (aL (.bool (qU l)))
def MW (l:cM) (i:Nat):Bool:=decide ((l.aWE.getD i []).length=l.start.length)&&(l.aWE.getD i []).all eH&&!((l.aWE.getD i []).map bP).getD i false
def VE (l:cM):Bool:=match oW (l.start.map RF.v) with
 | .ok (n,a,b)=>decide (tQ n a b false 1 1=0)
 | .error _=>false
theorem aBH (l:cM):pS l=(within l.start.length 1 4&&decide (l.exit.length=l.start.length)&&decide (l.aWE.length=l.start.length)&&l.start.all eH&&l.exit.all eH&&(aXQ l.aWE.length).all (MW l)&&VE l&&qU l):=rfl
theorem auP {l:List FV} {e:Int} (h:oW l=.error e):e≠0:=by
 have:∀ (l:List FV) (b:FV) (e:Int),l.foldlM iW b=.error e→e≠0:=by
  intro l
  induction l with
  | nil=>intro b e h; cases h
  | cons x t J =>
   intro b e h;rw[List.foldlM_cons] at h;cases i:iW b x with
   | error p =>
    rw[i] at h;have:p=e:=by injection h
    subst this;obtain⟨R,a1,b1⟩:=b;obtain⟨U,a2,b2⟩:=x;simp only[iW] at i;split at i
    ·split at i
     ·rw[EC i]; decide
     ·split at i
      ·rw[EC i]; decide
      ·rw[EC i]; decide
    ·injection i with i; subst i; decide
   | ok y=>rw[i] at h; exact J y e h
 exact this l _ e h
theorem aER {l:List FV} {r:FV} (h:oW l=.ok r):r.rf.Ok:=by
 have:∀ (l:List FV) (b r:FV),b.rf.Ok→l.foldlM iW b=.ok r→r.rf.Ok:=by
  intro l
  induction l with
  | nil=>intro b r p h; injection h with h; subst h; exact p
  | cons x t J =>
   intro b r p h;rw[List.foldlM_cons] at h;cases i:iW b x with
   | error R=>rw[i] at h; cases h
   | ok y=>rw[i] at h; exact J y r (L0 i) h
 refine this l _ r ⟨bC _,bC _,?_,?_⟩ h
 ·show (aI 0).length≤_;rw[fJ]; simp
 ·show (aI 1).length≤_;rw[mL (by decide) (by decide)]; simp
theorem ED {neg:Bool} {a b:Nat} {r:FV} (i:b≠0) (h:jS neg a b=.ok r):dJ r.2.1 r.2.2=true:=by
 unfold jS at h;split at h
 ·cases h
 ·rename_i R;injection h with h
  subst h;have l:aXJ a b ∣ b:=Nat.gcd_dvd_right _ _;have p:b/aXJ a b≠0:=by have:=Nat.div_pos (Nat.le_of_dvd (aZU i) l) (aZU fun h=>i (Nat.gcd_eq_zero_iff.1 h).2);omega
  have J:=@iY (b/aXJ a b);simp only[dJ,aYB,decide_eq_true_eq];omega
theorem Sx {x y r:FV} (h:iW x y=.ok r):dJ r.2.1 r.2.2=true:=by
 obtain⟨p,a1,b1⟩:=x;obtain⟨J,a2,b2⟩:=y;simp only[iW] at h;split at h
 ·rename_i l;rw[aYB] at l;have i:b1*b2≠0:=Nat.mul_ne_zero (lE.1 l.1).1 (lE.1 l.2).1;split at h
  ·exact ED i h
  ·split at h
   ·exact ED i h
   ·exact ED i h
 ·cases h
theorem Xt:dJ 0 1=true:=by
 have:cF 1=1:=by rw[pN (by decide),jW]
 simp[dJ,this,jW]
theorem Wk {l:List FV} {r:FV} (h:oW l=.ok r):dJ r.2.1 r.2.2=true:=by
 have:∀ (l:List FV) (b r:FV),dJ b.2.1 b.2.2=true→l.foldlM iW b=.ok r→dJ r.2.1 r.2.2=true:=by
  intro l
  induction l with
  | nil=>intro b r p h; injection h with h; subst h; exact p
  | cons x t J =>
   intro b r p h;rw[List.foldlM_cons] at h;cases i:iW b x with
   | error R=>rw[i] at h; cases h
   | ok y=>rw[i] at h; exact J y r (Sx i) h
 exact this l _ r Xt h
theorem aqM:(⟨false,[],[]⟩:RF).Ok:=⟨fun _ h=>absurd h (aXX),fun _ h=>absurd h (aXX),show 0≤35184372087808 by decide,show 0≤35184372087808 by decide⟩
def arK (l:cM) (k:Nat):PF:=(((((PF.nil.set 1 (.cO l.cells)).set 3 (.int .i64 (l.start.length:Nat))).set 45 (Vv l.aWE)).set 46 (.int .i64 (l.aWE.length:Nat))).set 47 (.int .i64 k))
theorem abV {C:Ctx} (L:HU C) (l:cM) (U:l.Ok) (he:VR l) (F:PF) (R:F 1=some (.cO l.cells)) :
  aA.wp C (.seq (.region ST) (.seq (.region DH) (.seq (.region DI) (.seq (.region rV) .ret)))) (aW [.tmp 2] (cG (.bool (VE l&&qU l)))) F .nil:=by
 simp only[go_sem,ST,R];refine aC (L.tot l.start U.start) rfl ?_;obtain⟨α,x,y,e,hs⟩:=OK (oW (l.start.map RF.v));have go:∀ (z:RF) (e:Int),z.Ok→(e=0→(xK z.neg (val z.num) (val z.den) false 1 1=.tup [.int .i64 (tQ z.neg (val z.num) (val z.den) false 1 1),.int .i64 0])∧VE l=decide (tQ z.neg (val z.num) (val z.den) false 1 1=0))→(e≠0→VE l=false) →
   frV (oW (l.start.map RF.v))=.tup [.agg z.cells,.int .i64 e] →
   wpOps C [⟨(some 69),.mv (.tmp 72),none⟩,⟨(some 73),.extract (.tmp 69) 0,none⟩,⟨(some 74),.extract (.tmp 69) 1,none⟩,⟨(some 6),.alloc [(.bool false),.aB,.aB],none⟩,⟨none,.store 3 (.tmp 6) (.tmp 73),none⟩,⟨(some 7),.mv (.tmp 74),none⟩]
    (aA.wp C (.seq (.region DH) (.seq (.region DI) (.seq (.region rV) .ret))) (aW [.tmp 2] (cG (.bool (VE l&&qU l))))) ((((F.set 70 (.cO [frs l.start,Vv l.aWE,frs l.exit])).set 71 (frs l.start))).set 72 (.tup [.agg z.cells,.int .i64 e])) .nil:=by
  intro z e hz h0 h1 _;simp only[go_sem];refine aT fun o6 β=>?_;simp only[go_sem,DH];refine aC (L.frac 1 1 (by decide) (by decide)) rfl ?_;rw[C6];simp only[go_sem,frV];refine aT fun o8 p=>?_;have n8:o6≠o8:=by rintro rfl; simp only[aQ,if_true] at p; cases p
  simp only[go_sem,DI,n8];refine aC (L.ord z (FV.rf (false,1,1)) hz adX) rfl ?_;rw[show val (FV.rf (false,1,1)).num=1 from aY 1,show val (FV.rf (false,1,1)).den=1 from aY 1,show (FV.rf (false,1,1)).neg=false from rfl];by_cases c:e=0
  ·obtain⟨g1,g2⟩:=h0 c;rw[g1,g2];by_cases d:tQ z.neg (val z.num) (val z.den) false 1 1=0
   ·simp only[go_sem,rV,bM c,bM d,R];refine aC (L.ends l U he) rfl ?_;simp only[go_sem];exact aX rfl (by rw[decide_eq_true d,aYE])
   ·simp only[go_sem,rV,bM c,bF d];exact aX rfl (by rw[decide_eq_false d,aXV])
  ·rw[h1 c];have:∃ v w,xK z.neg (val z.num) (val z.den) false 1 1=.tup [.int .i64 v,.int .i64 w]:=by
    unfold xK;split
    ·exact⟨_,_,rfl⟩
    ·exact⟨_,_,rfl⟩
   obtain⟨v,w,J⟩:=this;rw[J];simp only[go_sem,rV,bF c];exact aX rfl rfl
 cases i:oW (l.start.map RF.v) with
 | error e =>rw[i] at go;exact go ⟨false,[],[]⟩ e aqM (fun h=>absurd h (auP i)) (fun _=>by rw[VE,i]) rfl
 | ok r =>obtain⟨n,a,b⟩:=r;rw[i] at go;have hr:=aER i;refine go (FV.rf (n,a,b)) 0 hr (fun _=>?_) (fun h=>absurd rfl h) rfl;rw[show val (FV.rf (n,a,b)).num=a from aY a,show val (FV.rf (n,a,b)).den=b from aY b,show (FV.rf (n,a,b)).neg=n from rfl];refine⟨?_,by rw[VE,i]⟩;have J:dJ a b=true:=Wk i;rw[xK,J,uc];rfl
theorem Nv {C:Ctx} (L:HU C) (l:cM) (hl:l.Ok):JV.wp C (aW A6.res (cG (.bool (pS l)))) (PF.args [.agg l.cells]) .nil:=by
 rw[aBH];simp only[go_sem,JV,Nw,Nx,A6,Ny,aXI];refine aC (L.inn l.start.length 1 4) rfl ?_;cases c1:within l.start.length 1 4 with
 | false =>simp only[go_sem,aYJ,vH];exact aX rfl (by simp only[aXV])
 | true =>
  obtain⟨n1,n2⟩:=within_iff.1 c1;by_cases c2:l.exit.length=l.start.length
  ·rw[decide_eq_true c2];by_cases c3:l.aWE.length=l.start.length
   ·rw[decide_eq_true c3];simp only[go_sem,aXW,aXI,cE (Om:(l.exit.length:Int)=(l.start.length:Nat)),cE (Om:(l.aWE.length:Int)=(l.start.length:Nat))];refine aC (L.arN l.start hl.start) rfl ?_;cases c4:l.start.all eH with
    | false =>simp only[go_sem,aYJ,vH];exact aX rfl (by simp only[aXV])
    | true =>
     simp only[go_sem,aXW];refine aC (L.arN l.exit hl.exit) rfl ?_;cases c5:l.exit.all eH with
     | false =>simp only[go_sem,aYJ,vH];exact aX rfl (by simp only[aXV])
     | true =>
      simp only[go_sem,aXW,Nz,aXI];have γ:∀ k (h:k<l.aWE.length),MW l k=(decide ((l.aWE[k]).length=l.start.length)&&(l.aWE[k]).all eH&&!((l.aWE[k]).map bP).getD k false):=by
       intro k h;have:l.aWE.getD k []=l.aWE[k]:=by simp[aYK,h]
       rw[MW,this]
      refine wp_loop (α:=Nat) (fun k=>arK l k) (fun _=>.nil) (fun k=>k≤l.aWE.length∧pH (MW l) k) (fun k=>l.aWE.length-k) 0 ⟨aXU _,.zero⟩ ?_ PH.nil_le ?_
      ·unfold arK
       (repeat' (first|exact PF.nil_le|refine PF.aJ ?_ ?_))<;>first|(simp only[go_sem,aXI]<;>rfl)|rfl
      rintro k ⟨hk,ha⟩;simp only[go_sem,A7,N0,arK];by_cases hlt:k<l.aWE.length
      ·have J:(k:Int)<(l.aWE.length:Nat):=Om;have hr:(l.aWE.map fun r=>[frs r])[k]?=some [frs l.aWE[k]]:=by simp[hlt]
       have p:=γ k hlt;have U:=hl.row l.aWE[k] (aXM hlt);simp only[go_sem,J,N1,hr,N2,aXI];by_cases d1:(l.aWE[k]).length=l.start.length
       ·rw[decide_eq_true d1,aYE] at p;simp only[go_sem,cE (show (((l.aWE[k]).length:Nat):Int)=(l.start.length:Nat) by omega)];refine aC (L.arN _ U) rfl ?_;cases d2:(l.aWE[k]).all eH with
        | false =>rw[d2,aXV] at p;simp only[go_sem,aYJ,OL];refine aX (b:=false) rfl ?_;have:(aXQ l.aWE.length).all (MW l)=false:=eE hlt p;rw[this]; simp only[aXV,aYY]
        | true =>
         have β:k<(l.aWE[k]).length:=Om;have hx:((l.aWE[k]).map RF.cells)[k]?=some ((l.aWE[k])[k]).cells:=by simp[β]
         have δ:((l.aWE[k]).map bP).getD k false=bP (l.aWE[k])[k]:=by simp[aYK,β]
         rw[d2,aYE,δ] at p;simp only[go_sem,aXW,hx];refine aC (L.mS _ (U.all _ (aXM β))) rfl ?_;cases d3:bP (l.aWE[k])[k] with
         | true =>rw[d3] at p;simp only[go_sem,OL];refine aX (b:=false) rfl ?_;have:(aXQ l.aWE.length).all (MW l)=false:=eE hlt p;rw[this]; simp only[aXV,aYY]
         | false =>rw[d3] at p;simp only[go_sem,N3,wZz k];refine aM (k+1) ⟨hlt,ha.step p⟩ Om ?_ PH.nil_le;exact Lq
       ·simp only[decide_eq_false d1,aXV] at p;simp only[go_sem,eT (show (((l.aWE[k]).length:Nat):Int)≠(l.start.length:Nat) by omega),OL];refine aX (b:=false) rfl ?_;have:(aXQ l.aWE.length).all (MW l)=false:=eE hlt p;rw[this]; simp only[aXV,aYY]
      ·have J:¬ (k:Int)<(l.aWE.length:Nat):=Om;have:k=l.aWE.length:=Om;subst this;have R:(aXQ l.aWE.length).all (MW l)=true:=ha;have he:VR l:=⟨by omega,by omega,fun r hr=>by obtain⟨i,hi,rfl⟩:=aYZ hr;have:=aYF.1 R i (aYV.2 hi);rw[γ i hi] at this;simp only[aYB,decide_eq_true_eq] at this;omega⟩
       have tail:=abV L l hl he;simp only[aA.wp,go_sem] at tail;rw[R];simp only[go_sem,J,aYE,a0B];exact tail _ rfl
   ·simp only[go_sem,aXW,aXI,cE (Om:(l.exit.length:Int)=(l.start.length:Nat)),eT (Om:(l.aWE.length:Int)≠(l.start.length:Nat)),vH];exact aX rfl (by rw[decide_eq_false c3]; simp only[aXV,aYY])
  ·simp only[go_sem,aXW,aXI,eT (Om:(l.exit.length:Int)≠(l.start.length:Nat)),vH];exact aX rfl (by rw[decide_eq_false c2]; simp only[aXV,aYY])
structure iV (C:Ctx):Prop extends HU C where
 law:∀ l:cM,l.Ok→aH C 95 [.agg l.cells] .nil (aL (.bool (pS l)))
 pol:∀ (p:cB) (n:Nat),p.Ok→n≤4→aH C 112 [.agg p.cells,.int .i64 n] .nil (aL (.bool (jH n p)))
 aWI:∀ f:aK,f.Ok→aH C 111 [.agg f.cells] .nil (aL (.bool (mT f)))
abbrev eJ (l:List (List UInt8)):List (List PV):=l.map fun s=>[PV.str s]
theorem tJ (l:List (List UInt8)) {k:Nat} (h:k<l.length):eJ (l.take k)++[[.str l[k]]]=eJ (l.take (k+1)):=by
 unfold eJ;rw[aZT h,aYN]; rfl
theorem qH {l:List (List UInt8)} (h:l.length≤1000):roomFor (eJ l).length 1 16:=by
 unfold roomFor eJ;simp only[aXI,maxLen]; omega
def gI {α:Type} (l:List α) (p:α→Bool) (k:Nat):Bool:=(l.take k).all p
theorem qO {α:Type} (l:List α) (p:α→Bool):gI l p 0=true:=rfl
theorem qN {α:Type} (l:List α) (p:α→Bool) {k:Nat} (h:k<l.length):gI l p (k+1)=(gI l p k&&p l[k]):=by
 unfold gI;rw[aZT h,List.all_append]; simp
theorem sV {α:Type} (l:List α) (p:α→Bool):gI l p l.length=l.all p:=by unfold gI; rw[aYS]
def gS (f:aK) (i l p J R:PV) (ok:Bool):PF:=(((((((PF.nil.set 1 (.cO f.cells)).set 3 (i)).set 4 (l)).set 5 (p)).set 6 (J)).set 7 (R)).set 8 (.bool ok))
structure jP (F:PF) (f:aK) (w3 w4 w5 w6 w7:PV) (ok:Bool):Prop where
 a1:F 1=some (.cO f.cells)
 a3:F 3=some w3
 a4:F 4=some w4
 a5:F 5=some w5
 a6:F 6=some w6
 a7:F 7=some w7
 a8:F 8=some (.bool ok)
theorem T6 {C:Ctx} (L:iV C) (f:aK) (hf:f.Ok) (hs:f.aWG.length≤4) (w4 w5 w6 w7:PV) (K:bT) (F:PF) (H:PH) (J:jP F f .aB w4 w5 w6 w7 true)
  (β:F 67=some (.sl 4 (f.aWG.map cM.cells))) (γ:F 68=some (.int .i64 (f.aWG.length:Nat))) (δ:F 69=some (.int .i64 0))
  (hK:∀ v F' H',jP F' f v w4 w5 w6 w7 (f.aWG.all pS)→bO H' 1 v (eJ (f.aWG.map cM.name))→K (.exit 0) F' H') :
  aA.wp C (.loop DO) K F H:=by
 refine wp_loop (α:=Nat × PV × PH) (fun t=>(((gS f t.2.1 w4 w5 w6 w7 (gI f.aWG pS t.1)).set 67 (.sl 4 (f.aWG.map cM.cells))).set 68 (.int .i64 (f.aWG.length:Nat))).set 69 (.int .i64 t.1)) (fun t=>t.2.2)
  (fun t=>t.1≤f.aWG.length∧bO t.2.2 1 t.2.1 (eJ ((f.aWG.map cM.name).take t.1))) (fun t=>f.aWG.length-t.1) (0,.aB,.nil) ⟨aXU _,.nil⟩ ?_ PH.nil_le ?_
 ·unfold gS
  (repeat' (first|exact PF.nil_le|refine PF.aJ ?_ ?_))<;>first|(simp only[go_sem,J.a1,J.a3,J.a4,J.a5,J.a6,J.a7,J.a8,β,γ,δ,qO]<;>rfl)|rfl
 rintro⟨k,v,H0⟩ ⟨hk,hO⟩;simp only at hk hO ⊢;simp only[go_sem,DO,Ox,gS];by_cases hlt:k<f.aWG.length
 ·have l:(k:Int)<(f.aWG.length:Nat):=Om;have hr:(f.aWG.map cM.cells)[k]?=some (f.aWG[k]).cells:=by simp[hlt]
  have U:=tJ (f.aWG.map cM.name) (k:=k) (by simpa using hlt);rw[aZH] at U;simp only[go_sem,l,Oy,hr];refine aT fun o ho=>?_;simp only[go_sem,Oz];refine lO hO ho (qH (by simp; omega)) fun v' H' p R=>?_;rw[U] at p;have i:=qN f.aWG pS hlt;cases hb:gI f.aWG pS k with
  | false =>rw[hb,aXV] at i;simp only[go_sem,gv,R,SY,wZz k];refine aM (k+1,v',H') ⟨hlt,p⟩ (by simp only; omega) ?_ PH.le_refl;simp only[i];exact Lq
  | true =>rw[hb,aYE] at i;simp only[go_sem,gv,R];refine aC (L.law _ (hf.law _ (aXM hlt))) Ev ?_;simp only[go_sem,SY,wZz k];refine aM (k+1,v',H') ⟨hlt,p⟩ (by simp only; omega) ?_ PH.le_refl;simp only[i];exact Lq
 ·have l:¬ (k:Int)<(f.aWG.length:Nat):=Om;have:k=f.aWG.length:=Om;subst this;rw[aXY (by simp)] at hO;rw[sV];simp only[go_sem,l];exact hK v _ _ ⟨by simp only[go_sem],by simp only[go_sem],by simp only[go_sem],by simp only[go_sem],by simp only[go_sem],by simp only[go_sem],by simp only[go_sem]⟩ hO
theorem yJ {n:Nat} (h:n≤1000):IntKind.i64.wrap ((n:Int)-1)=(n:Int)-1:=wrap_i64 Om Om
theorem T7 {C:Ctx} (L:iV C) (f:aK) (hs:f.aWA.length≤4) (hl:f.aWG.length≤4) (U:Bool) (w3 w5 w6 w7:PV) (K:bT) (F:PF) (H:PH) (J:jP F f w3 .aB w5 w6 w7 U)
  (ε:F 85=some (.sl 4 (f.aWA.map dK.cells))) (ζ:F 86=some (.int .i64 (f.aWA.length:Nat))) (η:F 87=some (.int .i64 0))
  (hK:∀ v R H',jP R f w3 v w5 w6 w7 (U&&f.aWA.all (lD f))→bO H' 1 v (eJ (f.aWA.map dK.name))→K (.exit 2) R H') :
  aA.wp C (.loop DP) K F H:=by
 refine wp_loop (α:=Nat × PV × PH) (fun t=>(((gS f w3 t.2.1 w5 w6 w7 (U&&gI f.aWA (lD f) t.1)).set 85 (.sl 4 (f.aWA.map dK.cells))).set 86 (.int .i64 (f.aWA.length:Nat))).set 87 (.int .i64 t.1)) (fun t=>t.2.2)
  (fun t=>t.1≤f.aWA.length∧bO t.2.2 1 t.2.1 (eJ ((f.aWA.map dK.name).take t.1))) (fun t=>f.aWA.length-t.1) (0,.aB,.nil) ⟨aXU _,.nil⟩ ?_ PH.nil_le ?_
 ·unfold gS
  (repeat' (first|exact PF.nil_le|refine PF.aJ ?_ ?_))<;>first|(simp only[go_sem,J.a1,J.a3,J.a4,J.a5,J.a6,J.a7,J.a8,ε,ζ,η,qO,a0B]<;>rfl)|rfl
 rintro⟨k,v,H0⟩ ⟨hk,hO⟩;simp only at hk hO ⊢;simp only[go_sem,DP,B0,gS];by_cases hlt:k<f.aWA.length
 ·have i:(k:Int)<(f.aWA.length:Nat):=Om;have hr:(f.aWA.map dK.cells)[k]?=some (f.aWA[k]).cells:=by simp[hlt]
  have δ:=tJ (f.aWA.map dK.name) (k:=k) (by simpa using hlt);rw[aZH] at δ;simp only[go_sem,i,B5,hr];refine aT fun o ho=>?_;simp only[go_sem,B6];refine lO hO ho (qH (by simp; omega)) fun v' H' β l=>?_;rw[δ] at β;have p:=qN f.aWA (lD f) hlt;have fin:∀ (c:Bool) (R:PF),c=(U&&gI f.aWA (lD f) (k+1))→((((gS f w3 v' w5 w6 w7 c).set 85 (.sl 4 (f.aWA.map dK.cells))).set 86 (.int .i64 (f.aWA.length:Nat))).set 87 (.int .i64 (k+1:Nat))).le R →
    jD (fun (t:Nat × PV × PH)=>(((gS f w3 t.2.1 w5 w6 w7 (U&&gI f.aWA (lD f) t.1)).set 85 (.sl 4 (f.aWA.map dK.cells))).set 86 (.int .i64 (f.aWA.length:Nat))).set 87 (.int .i64 t.1)) (fun (t:Nat × PV × PH)=>t.2.2)  (fun (t:Nat × PV × PH)=>t.1≤f.aWA.length∧bO t.2.2 1 t.2.1 (eJ ((f.aWA.map dK.name).take t.1))) (fun (t:Nat × PV × PH)=>f.aWA.length-t.1) (f.aWA.length-k) K .normal R H':=by
   intro c R hc γ;refine aM (α:=Nat × PV × PH) (k+1,v',H') ⟨hlt,β⟩ (by simp only; omega) ?_ PH.le_refl;rw[hc] at γ;exact γ
  unfold gS at fin;rw[p,← Bool.and_assoc] at fin;have hm:lD f f.aWA[k]=(within (f.aWA[k]).aWO 1 16&&within (f.aWA[k]).port 1 64&&within (f.aWA[k]).law 0 ((f.aWG.length:Int)-1)):=rfl;cases hb:(U&&gI f.aWA (lD f) k) with
  | false =>rw[hb,aXV] at fin;simp only[go_sem,TA,l,wJ,wZz k];refine fin false _ rfl ?_;exact Lq
  | true =>
   rw[hb,aYE] at fin;simp only[go_sem,TA,l];refine aC (L.inn _ 1 16) Ev ?_;cases e1:within (f.aWA[k]).aWO 1 16 with
   | false =>simp only[go_sem,wJ,wZz k];refine fin false _ (by rw[hm,e1]; simp only[aXV]) ?_;exact Lq
   | true =>
    simp only[go_sem,l];refine aC (L.inn _ 1 64) Ev ?_;cases e2:within (f.aWA[k]).port 1 64 with
    | false =>simp only[go_sem,wJ,wZz k];refine fin false _ (by rw[hm,e1,e2]; simp only[aXV,aYY]) ?_;exact Lq
    | true =>simp only[go_sem,l,aXI,yJ (Om:f.aWG.length≤1000)];refine aC (L.inn _ 0 _) Ev ?_;simp only[go_sem,wJ,wZz k];refine fin (within (f.aWA[k]).law 0 ((f.aWG.length:Int)-1)) _ (by rw[hm,e1,e2]; simp only[aYE]) ?_;exact Lq
 ·have i:¬ (k:Int)<(f.aWA.length:Nat):=Om;have:k=f.aWA.length:=Om;subst this;rw[aXY (by simp)] at hO;rw[sV];simp only[go_sem,i];exact hK v _ _ ⟨by simp only[go_sem],by simp only[go_sem],by simp only[go_sem],by simp only[go_sem],by simp only[go_sem],by simp only[go_sem],by simp only[go_sem]⟩ hO
theorem T8 {C:Ctx} (L:iV C) (f:aK) (t:List cI) (hs:t.length≤40) (U:Bool) (w3 w4 w6 w7:PV) (K:bT) (F:PF) (H:PH) (l:jP F f w3 w4 .aB w6 w7 U)
  (β:F 119=some (.sl 7 (t.map cI.cells))) (γ:F 120=some (.int .i64 (t.length:Nat))) (δ:F 121=some (.int .i64 0))
  (hK:∀ v F' H',jP F' f w3 w4 v w6 w7 U→bO H' 1 v (eJ (t.map cI.name))→K (.exit 4) F' H') :
  aA.wp C (.loop DQ) K F H:=by
 refine wp_loop (α:=Nat × PV × PH) (fun a=>(((gS f w3 w4 a.2.1 w6 w7 U).set 119 (.sl 7 (t.map cI.cells))).set 120 (.int .i64 (t.length:Nat))).set 121 (.int .i64 a.1)) (fun a=>a.2.2)
  (fun a=>a.1≤t.length∧bO a.2.2 1 a.2.1 (eJ ((t.map cI.name).take a.1))) (fun a=>t.length-a.1) (0,.aB,.nil) ⟨aXU _,.nil⟩ ?_ PH.nil_le ?_
 ·unfold gS
  (repeat' (first|exact PF.nil_le|refine PF.aJ ?_ ?_))<;>first|(simp only[go_sem,l.a1,l.a3,l.a4,l.a5,l.a6,l.a7,l.a8,β,γ,δ]<;>rfl)|rfl
 rintro⟨k,v,H0⟩ ⟨hk,R⟩;simp only at hk R ⊢;simp only[go_sem,DQ,B7,gS];by_cases hlt:k<t.length
 ·have i:(k:Int)<(t.length:Nat):=Om;have hr:(t.map cI.cells)[k]?=some (t[k]).cells:=by simp[hlt]
  have J:=tJ (t.map cI.name) (k:=k) (by simpa using hlt);rw[aZH] at J;simp only[go_sem,i,B8,hr];refine aT fun o ho=>?_;simp only[go_sem,B9];refine lO R ho (qH (by simp; omega)) fun v' H' p ε=>?_;rw[J] at p;simp only[go_sem,Ca,wZz k];refine aM (k+1,v',H') ⟨hlt,p⟩ (by simp only; omega) ?_ PH.le_refl;exact Lq
 ·have i:¬ (k:Int)<(t.length:Nat):=Om;have:k=t.length:=Om;subst this;rw[aXY (by simp)] at R;simp only[go_sem,i];exact hK v _ _ ⟨by simp only[go_sem],by simp only[go_sem],by simp only[go_sem],by simp only[go_sem],by simp only[go_sem],by simp only[go_sem],by simp only[go_sem]⟩ R
theorem T9 {C:Ctx} (L:iV C) (f:aK) (i:List (List UInt8)) (hn:i.length≤40) (hs:f.aVZ.length≤24) (hm:f.aWA.length≤4) (hd:f.aWC.length≤40) (b0:Bool) (w3 w4 v0 w6 w7:PV) (K:bT) (F:PF) (H:PH) (U:jP F f w3 w4 v0 w6 w7 b0)
  (h0:bO H 1 v0 (eJ i))
  (ε:F 132=some (.sl 3 (f.aVZ.map cS.cells))) (ζ:F 133=some (.int .i64 (f.aVZ.length:Nat))) (η:F 134=some (.int .i64 0))
  (hK:∀ v F' H',jP F' f w3 w4 v w6 w7 (b0&&f.aVZ.all (jK f))→bO H' 1 v (eJ (i++f.aVZ.map cS.name))→K (.exit 6) F' H') :
  aA.wp C (.loop DR) K F H:=by
 refine wp_loop (α:=Nat × PV × PH) (fun t=>(((gS f w3 w4 t.2.1 w6 w7 (b0&&gI f.aVZ (jK f) t.1)).set 132 (.sl 3 (f.aVZ.map cS.cells))).set 133 (.int .i64 (f.aVZ.length:Nat))).set 134 (.int .i64 t.1)) (fun t=>t.2.2)
  (fun t=>t.1≤f.aVZ.length∧bO t.2.2 1 t.2.1 (eJ (i++(f.aVZ.map cS.name).take t.1))) (fun t=>f.aVZ.length-t.1) (0,v0,H) ⟨aXU _,by rw[List.take_zero,aZK]; exact h0⟩ ?_ PH.le_refl ?_
 ·unfold gS
  (repeat' (first|exact PF.nil_le|refine PF.aJ ?_ ?_))<;>first|(simp only[go_sem,U.a1,U.a3,U.a4,U.a5,U.a6,U.a7,U.a8,ε,ζ,η,qO,a0B]<;>rfl)|rfl
 rintro⟨k,v,H0⟩ ⟨hk,hO⟩;simp only at hk hO ⊢;simp only[go_sem,DR,Cb,gS];by_cases hlt:k<f.aVZ.length
 ·have l:(k:Int)<(f.aVZ.length:Nat):=Om;have hr:(f.aVZ.map cS.cells)[k]?=some (f.aVZ[k]).cells:=by simp[hlt]
  have ι:eJ (i++(f.aVZ.map cS.name).take k)++[[.str (f.aVZ[k]).name]]=eJ (i++(f.aVZ.map cS.name).take (k+1)):=by rw[aZT (by simpa using hlt),← aYQ,aZH];unfold eJ;simp only[aYN,aYU,aZN]
  simp only[go_sem,l,Cc,hr];refine aT fun o ho=>?_;simp only[go_sem,Cd];refine lO hO ho (qH (by simp; omega)) fun v' H' β J=>?_;rw[ι] at β;have R:=qN f.aVZ (jK f) hlt;have fin:∀ (c:Bool) (F':PF),c=(b0&&gI f.aVZ (jK f) (k+1))→((((gS f w3 w4 v' w6 w7 c).set 132 (.sl 3 (f.aVZ.map cS.cells))).set 133 (.int .i64 (f.aVZ.length:Nat))).set 134 (.int .i64 (k+1:Nat))).le F' →
    jD (fun (t:Nat × PV × PH)=>(((gS f w3 w4 t.2.1 w6 w7 (b0&&gI f.aVZ (jK f) t.1)).set 132 (.sl 3 (f.aVZ.map cS.cells))).set 133 (.int .i64 (f.aVZ.length:Nat))).set 134 (.int .i64 t.1)) (fun (t:Nat × PV × PH)=>t.2.2)  (fun (t:Nat × PV × PH)=>t.1≤f.aVZ.length∧bO t.2.2 1 t.2.1 (eJ (i++(f.aVZ.map cS.name).take t.1))) (fun (t:Nat × PV × PH)=>f.aVZ.length-t.1) (f.aVZ.length-k) K .normal F' H':=by
   intro c F' hc γ;refine aM (α:=Nat × PV × PH) (k+1,v',H') ⟨hlt,β⟩ (by simp only; omega) ?_ PH.le_refl;rw[hc] at γ;exact γ
  unfold gS at fin;rw[R,← Bool.and_assoc] at fin;have p:jK f f.aVZ[k]=(within (f.aVZ[k]).model 0 ((f.aWA.length:Int)-1)&&within (f.aVZ[k]).machine 0 ((f.aWC.length:Int)-1)&&decide ((f.aWC.map cI.level).getD (f.aVZ[k]).machine.toNat 0=4)):=rfl;cases hb:(b0&&gI f.aVZ (jK f) k) with
  | false =>rw[hb,aXV] at fin;simp only[go_sem,TD,J,rW,wZz k];refine fin false _ rfl ?_;exact Lq
  | true =>
   rw[hb,aYE] at fin;simp only[go_sem,TD,J,aXI,yJ (Om:f.aWA.length≤1000)];refine aC (L.inn _ 0 _) Ev ?_;cases e1:within (f.aVZ[k]).model 0 ((f.aWA.length:Int)-1) with
   | false =>simp only[go_sem,rW,wZz k];refine fin false _ (by rw[p,e1]; simp only[aXV]) ?_;exact Lq
   | true =>
    simp only[go_sem,J,aXI,yJ (Om:f.aWC.length≤1000)];refine aC (L.inn _ 0 _) Ev ?_;cases e2:within (f.aVZ[k]).machine 0 ((f.aWC.length:Int)-1) with
    | false =>simp only[go_sem,rW,wZz k];refine fin false _ (by rw[p,e1,e2]; simp only[aXV,aYY]) ?_;exact Lq
    | true =>
     obtain⟨i1,i2⟩:=within_iff.1 e2;have i3:(f.aVZ[k]).machine.toNat<f.aWC.length:=Om;have δ:(f.aWC.map cI.cells)[(f.aVZ[k]).machine.toNat]?=some (f.aWC[(f.aVZ[k]).machine.toNat]).cells:=by simp[i3]
     have θ:(f.aWC.map cI.level).getD (f.aVZ[k]).machine.toNat 0=(f.aWC[(f.aVZ[k]).machine.toNat]).level:=by simp[i3]
     rw[θ] at p;by_cases e3:(f.aWC[(f.aVZ[k]).machine.toNat]).level=4
     ·simp only[go_sem,J,i1,δ,bM e3,rW,wZz k];refine fin true _ (by rw[p,e1,e2,decide_eq_true e3]; rfl) ?_;exact Lq
     ·simp only[go_sem,J,i1,δ,bF e3,rW,wZz k];refine fin false _ (by rw[p,e1,e2,decide_eq_false e3]; rfl) ?_;exact Lq
 ·have l:¬ (k:Int)<(f.aVZ.length:Nat):=Om;have:k=f.aVZ.length:=Om;subst this;rw[aXY (by simp)] at hO;rw[sV];simp only[go_sem,l];exact hK v _ _ ⟨by simp only[go_sem],by simp only[go_sem],by simp only[go_sem],by simp only[go_sem],by simp only[go_sem],by simp only[go_sem],by simp only[go_sem]⟩ hO
theorem Ua {C:Ctx} (L:iV C) (f:aK) (hf:f.Ok) (hs:f.aWD.length≤4) (hm:f.aWA.length≤4) (R:Bool) (w3 w4 w5 w7:PV) (K:bT) (F:PF) (H:PH) (p:jP F f w3 w4 w5 .aB w7 R)
  (ε:F 174=some (.sl 17 (f.aWD.map cB.cells))) (ζ:F 175=some (.int .i64 (f.aWD.length:Nat))) (η:F 176=some (.int .i64 0))
  (hK:∀ v J H',jP J f w3 w4 w5 v w7 (R&&f.aWD.all (jH f.aWA.length))→bO H' 1 v (eJ (f.aWD.map cB.name))→K (.exit 8) J H') :
  aA.wp C (.loop DS) K F H:=by
 refine wp_loop (α:=Nat × PV × PH) (fun t=>(((gS f w3 w4 w5 t.2.1 w7 (R&&gI f.aWD (jH f.aWA.length) t.1)).set 174 (.sl 17 (f.aWD.map cB.cells))).set 175 (.int .i64 (f.aWD.length:Nat))).set 176 (.int .i64 t.1)) (fun t=>t.2.2)
  (fun t=>t.1≤f.aWD.length∧bO t.2.2 1 t.2.1 (eJ ((f.aWD.map cB.name).take t.1))) (fun t=>f.aWD.length-t.1) (0,.aB,.nil) ⟨aXU _,.nil⟩ ?_ PH.nil_le ?_
 ·unfold gS
  (repeat' (first|exact PF.nil_le|refine PF.aJ ?_ ?_))<;>first|(simp only[go_sem,p.a1,p.a3,p.a4,p.a5,p.a6,p.a7,p.a8,ε,ζ,η,qO,a0B]<;>rfl)|rfl
 rintro⟨k,v,H0⟩ ⟨hk,hO⟩;simp only at hk hO ⊢;simp only[go_sem,DS,Ce,gS];by_cases hlt:k<f.aWD.length
 ·have i:(k:Int)<(f.aWD.length:Nat):=Om;have hr:(f.aWD.map cB.cells)[k]?=some (f.aWD[k]).cells:=by simp[hlt]
  have δ:=tJ (f.aWD.map cB.name) (k:=k) (by simpa using hlt);rw[aZH] at δ;simp only[go_sem,i,Cf,hr];refine aT fun o ho=>?_;simp only[go_sem,Cg];refine lO hO ho (qH (by simp; omega)) fun v' H' U γ=>?_;rw[δ] at U;have l:=qN f.aWD (jH f.aWA.length) hlt;have fin:∀ (c:Bool) (J:PF),c=(R&&gI f.aWD (jH f.aWA.length) (k+1))→((((gS f w3 w4 w5 v' w7 c).set 174 (.sl 17 (f.aWD.map cB.cells))).set 175 (.int .i64 (f.aWD.length:Nat))).set 176 (.int .i64 (k+1:Nat))).le J →
    jD (fun (t:Nat × PV × PH)=>(((gS f w3 w4 w5 t.2.1 w7 (R&&gI f.aWD (jH f.aWA.length) t.1)).set 174 (.sl 17 (f.aWD.map cB.cells))).set 175 (.int .i64 (f.aWD.length:Nat))).set 176 (.int .i64 t.1)) (fun (t:Nat × PV × PH)=>t.2.2)  (fun (t:Nat × PV × PH)=>t.1≤f.aWD.length∧bO t.2.2 1 t.2.1 (eJ ((f.aWD.map cB.name).take t.1))) (fun (t:Nat × PV × PH)=>f.aWD.length-t.1) (f.aWD.length-k) K .normal J H':=by
   intro c J hc β;refine aM (α:=Nat × PV × PH) (k+1,v',H') ⟨hlt,U⟩ (by simp only; omega) ?_ PH.le_refl;rw[hc] at β;exact β
  unfold gS at fin;rw[l,← Bool.and_assoc] at fin;cases hb:(R&&gI f.aWD (jH f.aWA.length) k) with
  | false =>rw[hb,aXV] at fin;simp only[go_sem,TF,γ,TG,wZz k];refine fin false _ rfl ?_;exact Lq
  | true =>rw[hb,aYE] at fin;simp only[go_sem,TF,γ,aXI];refine aC (L.pol _ _ (hf.aWK _ (aXM hlt)) hm) Ev ?_;simp only[go_sem,TG,wZz k];refine fin _ _ rfl ?_;exact Lq
 ·have i:¬ (k:Int)<(f.aWD.length:Nat):=Om;have:k=f.aWD.length:=Om;subst this;rw[aXY (by simp)] at hO;rw[sV];simp only[go_sem,i];exact hK v _ _ ⟨by simp only[go_sem],by simp only[go_sem],by simp only[go_sem],by simp only[go_sem],by simp only[go_sem],by simp only[go_sem],by simp only[go_sem]⟩ hO
theorem Ub {C:Ctx} (L:iV C) (f:aK) (hs:f.aWB.length≤12) (hl:f.aWD.length≤4) (R:Bool) (w3 w4 w5 w6:PV) (K:bT) (F:PF) (H:PH) (p:jP F f w3 w4 w5 w6 .aB R)
  (ε:F 195=some (.sl 2 (f.aWB.map gR.cells))) (ζ:F 196=some (.int .i64 (f.aWB.length:Nat))) (η:F 197=some (.int .i64 0))
  (hK:∀ v J H',jP J f w3 w4 w5 w6 v (R&&f.aWB.all (nM f))→bO H' 1 v (eJ (f.aWB.map gR.name))→K (.exit 10) J H') :
  aA.wp C (.loop DT) K F H:=by
 refine wp_loop (α:=Nat × PV × PH) (fun t=>(((gS f w3 w4 w5 w6 t.2.1 (R&&gI f.aWB (nM f) t.1)).set 195 (.sl 2 (f.aWB.map gR.cells))).set 196 (.int .i64 (f.aWB.length:Nat))).set 197 (.int .i64 t.1)) (fun t=>t.2.2)
  (fun t=>t.1≤f.aWB.length∧bO t.2.2 1 t.2.1 (eJ ((f.aWB.map gR.name).take t.1))) (fun t=>f.aWB.length-t.1) (0,.aB,.nil) ⟨aXU _,.nil⟩ ?_ PH.nil_le ?_
 ·unfold gS
  (repeat' (first|exact PF.nil_le|refine PF.aJ ?_ ?_))<;>first|(simp only[go_sem,p.a1,p.a3,p.a4,p.a5,p.a6,p.a7,p.a8,ε,ζ,η,qO,a0B]<;>rfl)|rfl
 rintro⟨k,v,H0⟩ ⟨hk,hO⟩;simp only at hk hO ⊢;simp only[go_sem,DT,Ch,gS];by_cases hlt:k<f.aWB.length
 ·have i:(k:Int)<(f.aWB.length:Nat):=Om;have hr:(f.aWB.map gR.cells)[k]?=some (f.aWB[k]).cells:=by simp[hlt]
  have δ:=tJ (f.aWB.map gR.name) (k:=k) (by simpa using hlt);rw[aZH] at δ;simp only[go_sem,i,Cj,hr];refine aT fun o ho=>?_;simp only[go_sem,Ck];refine lO hO ho (qH (by simp; omega)) fun v' H' U γ=>?_;rw[δ] at U;have l:=qN f.aWB (nM f) hlt;have fin:∀ (c:Bool) (J:PF),c=(R&&gI f.aWB (nM f) (k+1))→((((gS f w3 w4 w5 w6 v' c).set 195 (.sl 2 (f.aWB.map gR.cells))).set 196 (.int .i64 (f.aWB.length:Nat))).set 197 (.int .i64 (k+1:Nat))).le J →
    jD (fun (t:Nat × PV × PH)=>(((gS f w3 w4 w5 w6 t.2.1 (R&&gI f.aWB (nM f) t.1)).set 195 (.sl 2 (f.aWB.map gR.cells))).set 196 (.int .i64 (f.aWB.length:Nat))).set 197 (.int .i64 t.1)) (fun (t:Nat × PV × PH)=>t.2.2)  (fun (t:Nat × PV × PH)=>t.1≤f.aWB.length∧bO t.2.2 1 t.2.1 (eJ ((f.aWB.map gR.name).take t.1))) (fun (t:Nat × PV × PH)=>f.aWB.length-t.1) (f.aWB.length-k) K .normal J H':=by
   intro c J hc β;refine aM (α:=Nat × PV × PH) (k+1,v',H') ⟨hlt,U⟩ (by simp only; omega) ?_ PH.le_refl;rw[hc] at β;exact β
  unfold gS at fin;rw[l,← Bool.and_assoc] at fin;have hm:nM f f.aWB[k]=within (f.aWB[k]).aWK 0 ((f.aWD.length:Int)-1):=rfl;cases hb:(R&&gI f.aWB (nM f) k) with
  | false =>rw[hb,aXV] at fin;simp only[go_sem,TI,γ,TJ,wZz k];refine fin false _ rfl ?_;exact Lq
  | true =>rw[hb,aYE,hm] at fin;simp only[go_sem,TI,γ,aXI,yJ (Om:f.aWD.length≤1000)];refine aC (L.inn _ 0 _) Ev ?_;simp only[go_sem,TJ,wZz k];refine fin _ _ rfl ?_;exact Lq
 ·have i:¬ (k:Int)<(f.aWB.length:Nat):=Om;have:k=f.aWB.length:=Om;subst this;rw[aXY (by simp)] at hO;rw[sV];simp only[go_sem,i];exact hK v _ _ ⟨by simp only[go_sem],by simp only[go_sem],by simp only[go_sem],by simp only[go_sem],by simp only[go_sem],by simp only[go_sem],by simp only[go_sem]⟩ hO
theorem lS {f:aK} (h:¬ (f.aWG.length≤4∧f.aWA.length≤4∧f.aWC.length≤40∧f.aVZ.length≤24∧f.aWD.length≤4∧f.aWB.length≤12)):pF f=false:=by
 rw[← Bool.not_eq_true];intro i;simp only[pF,aYB,decide_eq_true_eq] at i;omega
theorem Km {f:aK} (h:f.aWG.length≤4∧f.aWA.length≤4∧f.aWC.length≤40∧f.aVZ.length≤24∧f.aWD.length≤4∧f.aWB.length≤12):pF f=within f.aXC 1 4:=by
 obtain⟨i,l,p,J,h5,R⟩:=h;simp[pF,i,l,p,J,h5,R]
theorem nL {t:Nat} {n m:Int} {F:PF} {H:PH} (h:F t=some (.int .i64 n)) (e:n=m):aW [.tmp t] (cG (.int .i64 m)) .ret F H:=by
 subst e;exact bB (.inr rfl) .nil (vs:=[.int .i64 n]) (by rw[jI,lP,h,mN]) PH.nil_le ⟨.refl _,rfl⟩
def tU (f:aK):Int:=if jL f then 0 else 1
theorem Xs {f:aK} (h:jL f=false):tU f=1:=by rw[tU,h]; rfl
theorem rP {C:Ctx} {F:PF} {H:PH} {name t s:Nat} {v r:PV} {rows:List (List PV)} {d:Option Nat} {K:PF→PH→Prop} (h:aH C name [.sl s rows] .nil (aL r)) (U:bO H s v rows) (J:F t=some v)
  (p:∀ (l:PF) (R:PH),(∀ i u,F i=some u→Pure u→l i=some u)→K (l.put d r) R):gY C name [.tmp t] [] d K F H:=by
 rcases U with ⟨rfl,rfl⟩ | ⟨q,rs,rfl,h1,h2,h3⟩
 ·refine aC (h.Wf (.inl ⟨rfl,rfl⟩)) (by rw[wD,YB,J,OH]) ?_;exact p F H fun i u hi _=>hi
 ·rw[← h3] at h;refine oO (k:=rows.length) h J h1 h2 (p _ _ fun i u hi hp=>?_);rw[pC,hi,aYX,hp q s rs]
theorem Seen.pure {s:Nat} {v:PV} {rows:List (List PV)} (h:Seen s v rows):Pure v:=by
 rcases h with ⟨_,rfl⟩ | rfl
 ·exact fun _ _ _=>rfl
 ·exact fun _ _ _=>rfl
def bI (b:Bool):Int:=if b then 0 else 1
abbrev OX (f:aK):List (List UInt8):=(f.aWC.drop 1).map cI.name++f.aVZ.map cS.name
def sT (f:aK):Bool:=distinct (f.aWG.map cM.name)&&distinct (f.aWA.map dK.name)&&distinct (OX f)&&distinct (f.aWD.map cB.name)&&distinct (f.aWB.map gR.name)
structure Small (f:aK):Prop where
 aWG:f.aWG.length≤4
 aWA:f.aWA.length≤4
 aWC:f.aWC.length≤40
 aVZ:f.aVZ.length≤24
 aWD:f.aWD.length≤4
 aWB:f.aWB.length≤12
theorem yD {C:Ctx} (L:iV C) {v:PV} {l:List (List UInt8)} (h:Seen 1 v (eJ l)) (i:l.length≤1000):aH C 110 [v] .nil (aL (.bool (distinct l))) :=
 (L.uniq l (Om:l.length≤9223372036854775807)).Wf h
theorem arF {C:Ctx} (L:iV C) (f:aK) (hs:Small f) (l p J R U:PV) (ok:Bool) (F:PF) (H:PH) (i:jP F f l p J R U ok)
  (h3:Seen 1 l (eJ (f.aWG.map cM.name))) (h4:Seen 1 p (eJ (f.aWA.map dK.name))) (h5:Seen 1 J (eJ (OX f))) (h6:Seen 1 R (eJ (f.aWD.map cB.name))) (h7:bO H 1 U (eJ (f.aWB.map gR.name))) :
  aA.wp C (.seq (.seq (.region wK) (.cond (.tmp 243) (.seq (.region mE) .ret) .skip)) (.seq (.region DU) .ret)) (aW [.tmp 2] (cG (.int .i64 (bI (ok&&sT f))))) F H:=by
 obtain⟨s1,s2,s3,s4,s5,s6⟩:=hs;have l3:(f.aWG.map cM.name).length≤1000:=by simp; omega
 have l4:(f.aWA.map dK.name).length≤1000:=by simp; omega
 have l5:(OX f).length≤1000:=by simp; omega
 have l6:(f.aWD.map cB.name).length≤1000:=by simp; omega
 have l7:(f.aWB.map gR.name).length≤9223372036854775807:=by simp; omega
 cases ok with
 | false =>simp only[go_sem,wK,i.a8,mE];exact nL rfl rfl
 | true =>
  simp only[go_sem,wK,i.a8,i.a3];refine aC (yD L h3 l3) rfl ?_;unfold sT;cases c1:distinct (f.aWG.map cM.name) with
  | false =>simp only[go_sem,mE,aYJ];exact nL rfl rfl
  | true =>
   simp only[go_sem,i.a4,aXW];refine aC (yD L h4 l4) rfl ?_;cases c2:distinct (f.aWA.map dK.name) with
   | false =>simp only[go_sem,mE,aYJ];exact nL rfl rfl
   | true =>
    simp only[go_sem,i.a5,aXW];refine aC (yD L h5 l5) rfl ?_;cases c3:distinct (OX f) with
    | false =>simp only[go_sem,mE,aYJ];exact nL rfl rfl
    | true =>
     simp only[go_sem,i.a6,aXW];refine aC (yD L h6 l6) rfl ?_;cases c4:distinct (f.aWD.map cB.name) with
     | false =>simp only[go_sem,mE,aYJ];exact nL rfl rfl
     | true =>
      simp only[go_sem,i.a7,aXW];refine rP (L.uniq _ l7) h7 rfl fun F1 H1 hp=>?_;have g:F1 239=some (.bool false):=hp 239 _ rfl fun _ _ _=>rfl;cases c5:distinct (f.aWB.map gR.name) with
      | false =>simp only[go_sem,mE,aYJ,g];exact nL rfl rfl
      | true =>simp only[go_sem,DU,aXW,g];exact nL rfl rfl
abbrev jn (b:Bool):bT:=aW [.tmp 2] (cG (.int .i64 (bI b)))
def vt:aA:=.seq (.seq (.region TH) (.block 10 (.loop DT))) (.seq (.seq (.region wK) (.cond (.tmp 243) (.seq (.region mE) .ret) .skip)) (.seq (.region DU) .ret))
def vr:aA:=.seq (.seq (.region TE) (.block 8 (.loop DS))) vt
def vq:aA:=.seq (.seq (.region TC) (.block 6 (.loop DR))) vr
def vp:aA:=.seq (.seq (.region TB) (.block 4 (.loop DQ))) vq
def vn:aA:=.seq (.seq (.region SZ) (.block 2 (.loop DP))) vp
def Xr:aA:=.seq (.seq (.region gt) (.block 0 (.loop DO))) vn
theorem aBE {C:Ctx} (L:iV C) (f:aK) (U:Small f) (p J R w6:PV) (ok:Bool) (F:PF) (H:PH) (l:jP F f p J R w6 .aB ok)
  (h3:Seen 1 p (eJ (f.aWG.map cM.name))) (h4:Seen 1 J (eJ (f.aWA.map dK.name))) (h5:Seen 1 R (eJ (OX f))) (h6:bO H 1 w6 (eJ (f.aWD.map cB.name))) :
  aA.wp C vt (jn (ok&&f.aWB.all (nM f)&&sT f)) F H:=by
 unfold vt;simp only[go_sem,TH,l.a1,aXI];refine oQ h6 fun v1 β F1 H1 ht i=>?_;refine Ub L f U.aWB U.aWD ok p J R v1 _ F1 H1 ⟨i 1 _ (by simp only[go_sem,l.a1]) fun _ _ _=>rfl,i 3 _ (by simp only[go_sem,l.a3]) h3.pure,i 4 _ (by simp only[go_sem,l.a4]) h4.pure,i 5 _ (by simp only[go_sem,l.a5]) h5.pure,ht 6 (by simp only[go_sem,l.a6]),i 7 _ (by simp only[go_sem,l.a7]) fun _ _ _=>rfl,i 8 _ (by simp only[go_sem,l.a8]) fun _ _ _=>rfl⟩
  (i 195 _ rfl fun _ _ _=>rfl) (i 196 _ rfl fun _ _ _=>rfl) (i 197 _ rfl fun _ _ _=>rfl) fun v F' H' α hO=>?_
 have e:=arF L f U p J R v1 v _ F' H' α h3 h4 h5 β hO;simp only[aA.wp,go_sem] at e;simp only[go_sem];exact e
theorem aBD {C:Ctx} (L:iV C) (f:aK) (hf:f.Ok) (R:Small f) (p J w5:PV) (ok:Bool) (F:PF) (H:PH) (l:jP F f p J w5 .aB .aB ok)
  (h3:Seen 1 p (eJ (f.aWG.map cM.name))) (h4:Seen 1 J (eJ (f.aWA.map dK.name))) (h5:bO H 1 w5 (eJ (OX f))) :
  aA.wp C vr (jn (ok&&f.aWD.all (jH f.aWA.length)&&f.aWB.all (nM f)&&sT f)) F H:=by
 unfold vr;simp only[go_sem,TE,l.a1,aXI];refine oQ h5 fun v1 α F1 H1 ht i=>?_;refine Ua L f hf R.aWD R.aWA ok p J v1 .aB _ F1 H1 ⟨i 1 _ (by simp only[go_sem,l.a1]) fun _ _ _=>rfl,i 3 _ (by simp only[go_sem,l.a3]) h3.pure,i 4 _ (by simp only[go_sem,l.a4]) h4.pure,ht 5 (by simp only[go_sem,l.a5]),i 6 _ (by simp only[go_sem,l.a6]) fun _ _ _=>rfl,i 7 _ (by simp only[go_sem,l.a7]) fun _ _ _=>rfl,i 8 _ (by simp only[go_sem,l.a8]) fun _ _ _=>rfl⟩
  (i 174 _ rfl fun _ _ _=>rfl) (i 175 _ rfl fun _ _ _=>rfl) (i 176 _ rfl fun _ _ _=>rfl) fun v F' H' U hO=>?_
 simp only[go_sem];exact aBE L f R p J v1 v _ F' H' U h3 h4 α hO
theorem aBC {C:Ctx} (L:iV C) (f:aK) (hf:f.Ok) (l:Small f) (p J U:PV) (ok:Bool) (F:PF) (H:PH) (i:jP F f p J U .aB .aB ok)
  (h3:Seen 1 p (eJ (f.aWG.map cM.name))) (h4:Seen 1 J (eJ (f.aWA.map dK.name))) (h5:bO H 1 U (eJ ((f.aWC.drop 1).map cI.name))) :
  aA.wp C vq (jn (ok&&f.aVZ.all (jK f)&&f.aWD.all (jH f.aWA.length)&&f.aWB.all (nM f)&&sT f)) F H:=by
 unfold vq;simp only[go_sem,TC,i.a1,aXI];refine T9 L f ((f.aWC.drop 1).map cI.name) (by have:=l.aWC; simp; omega) l.aVZ l.aWA l.aWC ok p J U .aB .aB _ _ H ⟨by simp only[go_sem,i.a1],by simp only[go_sem,i.a3],by simp only[go_sem,i.a4],by simp only[go_sem,i.a5],by simp only[go_sem,i.a6],by simp only[go_sem,i.a7],by simp only[go_sem,i.a8]⟩ h5
  rfl rfl rfl fun v F' H' R hO=>?_
 simp only[go_sem];exact aBD L f hf l p J v _ F' H' R h3 h4 hO
theorem aBB {C:Ctx} (L:iV C) (f:aK) (hf:f.Ok) (hs:Small f) (hd:0<f.aWC.length) (J w4:PV) (ok:Bool) (F:PF) (H:PH) (l:jP F f J w4 .aB .aB .aB ok)
  (h3:Seen 1 J (eJ (f.aWG.map cM.name))) (h4:bO H 1 w4 (eJ (f.aWA.map dK.name))) :
  aA.wp C vp (jn (ok&&f.aVZ.all (jK f)&&f.aWD.all (jH f.aWA.length)&&f.aWB.all (nM f)&&sT f)) F H:=by
 unfold vp;have R:(1:Int)≤(f.aWC.length:Nat):=Om;have β:=hs.aWC;have p:((f.aWC.map cI.cells).take f.aWC.length).drop 1=(f.aWC.drop 1).map cI.cells:=by rw[aXY (by simp),List.map_drop]
 simp only[go_sem,TB,l.a1,aXI,R,aZL,p];refine oQ h4 fun v1 α F1 H1 ht i=>?_;refine T8 L f (f.aWC.drop 1) (by simp; omega) ok J v1 .aB .aB _ F1 H1 ⟨i 1 _ (by simp only[go_sem,l.a1]) fun _ _ _=>rfl,i 3 _ (by simp only[go_sem,l.a3]) h3.pure,ht 4 (by simp only[go_sem,l.a4]),i 5 _ (by simp only[go_sem,l.a5]) fun _ _ _=>rfl,i 6 _ (by simp only[go_sem,l.a6]) fun _ _ _=>rfl,i 7 _ (by simp only[go_sem,l.a7]) fun _ _ _=>rfl,i 8 _ (by simp only[go_sem,l.a8]) fun _ _ _=>rfl⟩
  (i 119 _ rfl fun _ _ _=>rfl) (i 120 _ rfl fun _ _ _=>rfl) (i 121 _ rfl fun _ _ _=>rfl) fun v F' H' U hO=>?_
 simp only[go_sem];exact aBC L f hf hs J v1 v _ F' H' U h3 α hO
theorem aBA {C:Ctx} (L:iV C) (f:aK) (hf:f.Ok) (p:Small f) (hd:0<f.aWC.length) (U:PV) (ok:Bool) (F:PF) (H:PH) (l:jP F f U .aB .aB .aB .aB ok)
  (h3:bO H 1 U (eJ (f.aWG.map cM.name))) :
  aA.wp C vn (jn (ok&&f.aWA.all (lD f)&&f.aVZ.all (jK f)&&f.aWD.all (jH f.aWA.length)&&f.aWB.all (nM f)&&sT f)) F H:=by
 unfold vn;simp only[go_sem,SZ,l.a1,aXI];refine oQ h3 fun v1 R F1 H1 ht i=>?_;refine T7 L f p.aWA p.aWG ok v1 .aB .aB .aB _ F1 H1 ⟨i 1 _ (by simp only[go_sem,l.a1]) fun _ _ _=>rfl,ht 3 (by simp only[go_sem,l.a3]),i 4 _ (by simp only[go_sem,l.a4]) fun _ _ _=>rfl,i 5 _ (by simp only[go_sem,l.a5]) fun _ _ _=>rfl,i 6 _ (by simp only[go_sem,l.a6]) fun _ _ _=>rfl,i 7 _ (by simp only[go_sem,l.a7]) fun _ _ _=>rfl,i 8 _ (by simp only[go_sem,l.a8]) fun _ _ _=>rfl⟩
  (i 85 _ rfl fun _ _ _=>rfl) (i 86 _ rfl fun _ _ _=>rfl) (i 87 _ rfl fun _ _ _=>rfl) fun v F' H' J hO=>?_
 simp only[go_sem];exact aBB L f hf p hd v1 v _ F' H' J R hO
theorem aAZ {C:Ctx} (L:iV C) (f:aK) (p:f.Ok) (J:Small f) (hd:0<f.aWC.length) (F:PF) (H:PH) (i:jP F f .aB .aB .aB .aB .aB true) :
  aA.wp C Xr (jn (f.aWG.all pS&&f.aWA.all (lD f)&&f.aVZ.all (jK f)&&f.aWD.all (jH f.aWA.length)&&f.aWB.all (nM f)&&sT f)) F H:=by
 unfold Xr;simp only[go_sem,gt,i.a1,aXI];refine T6 L f p J.aWG .aB .aB .aB .aB _ _ H ⟨by simp only[go_sem,i.a1],by simp only[go_sem,i.a3],by simp only[go_sem,i.a4],by simp only[go_sem,i.a5],by simp only[go_sem,i.a6],by simp only[go_sem,i.a7],by simp only[go_sem,i.a8]⟩ rfl rfl rfl fun v R H' l U=>?_;simp only[go_sem];exact aBA L f p J hd v _ R H' l U
theorem Or {C:Ctx} (L:iV C) (f:aK) (hf:f.Ok):KC.wp C (aW Bz.res (cG (.int .i64 (tU f)))) (PF.args [.agg f.cells]) .nil:=by
 have U:jL f=(pF f&&mT f&&(f.aWG.all pS&&f.aWA.all (lD f)&&f.aVZ.all (jK f)&&f.aWD.all (jH f.aWA.length)&&f.aWB.all (nM f))&&sT f):=rfl;simp only[go_sem,KC,Ot,Ou,Bz];refine aC (L.inn f.aXC 1 4) rfl ?_;have i:∀ (F:PF) (H:PH),jL f=false→F 2=some (.int .i64 1)→aW [.tmp 2] (cG (.int .i64 (tU f))) .ret F H:=fun F H h1 h2=>nL h2 (Xs h1).symm;cases e0:within f.aXC 1 4 with
 | false =>
  have:pF f=false:=by simp[pF,e0]
  simp only[go_sem,aYJ,oG];exact i _ _ (by rw[U,this]; simp only[aXV]) rfl
 | true =>
  by_cases s1:f.aWG.length≤4
  ·have l:¬ (f.aWG.length:Int)>4:=Om;by_cases s2:f.aWA.length≤4
   ·have p:¬ (f.aWA.length:Int)>4:=Om;by_cases s3:f.aWC.length≤40
    ·have J:¬ (f.aWC.length:Int)>40:=Om;by_cases s4:f.aVZ.length≤24
     ·have R:¬ (f.aVZ.length:Int)>24:=Om;by_cases s5:f.aWD.length≤4
      ·have α:¬ (f.aWD.length:Int)>4:=Om;by_cases s6:f.aWB.length≤12
       ·have β:¬ (f.aWB.length:Int)>12:=Om;have γ:=Km ⟨s1,s2,s3,s4,s5,s6⟩;rw[e0] at γ;simp only[go_sem,aXW,aXI,l,p,J,R,α,β];refine aC (L.aWI f hf) rfl ?_;cases e1:mT f with
        | false =>simp only[go_sem,aYJ,oG];exact i _ _ (by rw[U,e1]; simp only[aYY,aXV]) rfl
        | true =>
         have hd:0<f.aWC.length:=by
          rcases aZX f.aWC.length with h | h
          ·have:f.aWC=[]:=List.eq_nil_of_length_eq_zero h;rw[mT,this] at e1;cases e1
          ·exact h
         have hz:tU f=bI (f.aWG.all pS&&f.aWA.all (lD f)&&f.aVZ.all (jK f)&&f.aWD.all (jH f.aWA.length)&&f.aWB.all (nM f)&&sT f):=by rw[tU,U,γ,e1]; rfl
         rw[hz];simp only[go_sem,aXW,Ov,Ow];have e:=fun F H hv=>aAZ L f hf ⟨s1,s2,s3,s4,s5,s6⟩ hd F H hv;simp only[Xr,vn,vp,vq,vr,vt,aA.wp,go_sem] at e;exact e _ _ ⟨by simp only[go_sem],by simp only[go_sem],by simp only[go_sem],by simp only[go_sem],by simp only[go_sem],by simp only[go_sem],by simp only[go_sem]⟩
       ·have β:(f.aWB.length:Int)>12:=Om;simp only[go_sem,aXW,aXI,l,p,J,R,α,β,oG];exact i _ _ (by rw[U,lS Om]; simp only[aXV]) rfl
      ·have α:(f.aWD.length:Int)>4:=Om;simp only[go_sem,aXW,aXI,l,p,J,R,α,oG];exact i _ _ (by rw[U,lS Om]; simp only[aXV]) rfl
     ·have R:(f.aVZ.length:Int)>24:=Om;simp only[go_sem,aXW,aXI,l,p,J,R,oG];exact i _ _ (by rw[U,lS Om]; simp only[aXV]) rfl
    ·have J:(f.aWC.length:Int)>40:=Om;simp only[go_sem,aXW,aXI,l,p,J,oG];exact i _ _ (by rw[U,lS Om]; simp only[aXV]) rfl
   ·have p:(f.aWA.length:Int)>4:=Om;simp only[go_sem,aXW,aXI,l,p,oG];exact i _ _ (by rw[U,lS Om]; simp only[aXV]) rfl
  ·have l:(f.aWG.length:Int)>4:=Om;simp only[go_sem,aXW,aXI,l,oG];exact i _ _ (by rw[U,lS Om]; simp only[aXV]) rfl
def lvl (f:aK) (i:Nat):Int:=(f.aWC.map cI.level).getD i 0
def par (f:aK) (i:Nat):Int:=(f.aWC.map cI.parent).getD i 0
def FU (f:aK) (i:Nat):Nat:=(par f i).toNat
def cX (f:aK) (d:Nat):Nat:=((f.aVZ.map cS.machine).getD d 0).toNat
def mdl (f:aK) (d:Nat):Nat:=((f.aVZ.map cS.model).getD d 0).toNat
def ext (f:aK) (d:Nat):Int:=(f.aWA.map dK.aWO).getD (mdl f d) 0
def zU (f:aK) (v:Nat):Nat:=((f.aWB.map gR.aWK).getD v 0).toNat
def ayU:cB:=⟨[],0,0,0,0,0,0,0,0,[],[],⟨false,[],[]⟩,⟨false,[],[]⟩⟩
def FX (f:aK) (v:Nat):cB:=f.aWD.getD (zU f v) ayU
def upN (f:aK):Nat→Nat→Nat
 | 0,i=>i
 | k+1,i=>FU f (upN f k i)
theorem getD_at {α β:Type} {l:List α} {g:α→β} {i:Nat} {b:β} (h:i<l.length):(l.map g).getD i b=g l[i]:=by
 simp[aYK,h]
structure VF (f:aK):Prop where
 small:Small f
 root:0<f.aWC.length∧lvl f 0=0∧par f 0=-1
 dom:∀ i,0<i→i<f.aWC.length→0≤par f i∧FU f i<i∧lvl f (FU f i)=lvl f i-1∧1≤lvl f i∧lvl f i≤4
 drive:∀ d (h:d<f.aVZ.length),0≤(f.aVZ[d]).model∧mdl f d<f.aWA.length∧0≤(f.aVZ[d]).machine∧cX f d<f.aWC.length∧lvl f (cX f d)=4
 aWK:∀ p∈f.aWD,1≤p.k∧p.k≤6∧0≤p.m∧p.m≤4∧p.k+p.m≤8∧p.s0=0∧(∀ l,0≤p.spread l∧p.spread l≤8)∧∀ m∈p.aWA,0≤m∧m<f.aWA.length
 volume:∀ v (h:v<f.aWB.length),0≤(f.aWB[v]).aWK∧zU f v<f.aWD.length
 model:∀ m∈f.aWA,1≤m.aWO∧m.aWO≤16
theorem aCJ {p:cB} {n:Nat} (h:jH n p=true):∀ m∈p.aWA,0≤m∧m<n:=by
 intro m J;simp only[jH,aYB] at h;obtain⟨i,hi,rfl⟩:=aYZ J;have:=aYF.1 h.2 i (aYV.2 hi);rw[aYB] at this;have l:=within_iff.1 this.1;simp only[aYK,aXT hi,a0I] at l;omega
theorem fp {x:Int} (i:1≤x) (l:x≤4):IntKind.i64.wrap (x-1)=x-1:=wrap_i64 Om Om
theorem VF.of {f:aK} (h:jL f=true):VF f:=by
 simp only[jL,aYB] at h;obtain⟨⟨⟨hs,R⟩,⟨⟨⟨ζ,γ⟩,β⟩,δ⟩,ε⟩,-⟩:=h;simp only[pF,aYB,decide_eq_true_eq] at hs;obtain⟨⟨⟨⟨⟨⟨s0,s1⟩,s2⟩,s3⟩,s4⟩,s5⟩,s6⟩:=hs;cases J:f.aWC with
 | nil=>rw[mT,J] at R; cases R
 | cons r t =>
  rw[mT,J] at R;simp only[OF,aYB,decide_eq_true_eq] at R;obtain⟨⟨⟨⟨⟨⟨r1,r2⟩,r3⟩,r4⟩,r5⟩,r6⟩,α⟩:=R;have η:f.aWC.length=t.length+1:=by rw[J]; rfl
  refine⟨⟨s1,s2,s3,s4,s5,s6⟩,⟨by omega,by rw[lvl,J]; exact r2,by rw[par,J]; exact r3⟩,?_,?_,?_,?_,?_⟩
  ·intro i h0 hi;obtain⟨k,rfl⟩:∃ k,i=k+1:=⟨i-1,by omega⟩;have hk:k<t.length:=Om;have:=aYF.1 α k (aYV.2 hk);rw[aXT hk] at this;simp only[SJ,aYB,decide_eq_true_eq] at this;obtain⟨⟨⟨⟨d1,d2⟩,d3⟩,d4⟩,d5⟩:=this;obtain⟨p0,p1⟩:=within_iff.1 d1;obtain⟨l1,l4⟩:=within_iff.1 d3;have U:par f (k+1)=(t[k]).parent:=by rw[par,J]; simp[aYK,hk]
   have e2:lvl f (k+1)=(t[k]).level:=by rw[lvl,J]; simp[aYK,hk]
   rw[fp l1 l4] at d2;have e3:lvl f (t[k]).parent.toNat=(t[k]).level-1:=d2;refine⟨by rw[U]; exact p0,?_,?_,by rw[e2]; exact l1,by rw[e2]; exact l4⟩
   ·rw[FU,U]; omega
   ·rw[FU,U,e2]; exact e3
  ·intro d R;have:=aYF.1 β _ (aXM R);simp only[jK,aYB,decide_eq_true_eq] at this;obtain⟨⟨d1,d2⟩,d3⟩:=this;have a1:=within_iff.1 d1;have a2:=within_iff.1 d2;have U:mdl f d=(f.aVZ[d]).model.toNat:=by rw[mdl,getD_at R]
   have e2:cX f d=(f.aVZ[d]).machine.toNat:=by rw[cX,getD_at R]
   refine⟨a1.1,by rw[U]; omega,a2.1,by rw[e2]; omega,by rw[e2]; exact d3⟩
  ·intro p hp;have h1:=aYF.1 δ p hp;have h2:=aCJ h1;simp only[jH,UU,aYB,decide_eq_true_eq,List.all_cons,List.all_nil,a0B] at h1;obtain⟨⟨⟨⟨⟨⟨⟨⟨k1,m1⟩,km⟩,q1⟩,z0⟩,sp⟩,-⟩,-⟩,-⟩:=h1;obtain⟨g0,g1,g2,g3,g4⟩:=sp;have b1:=within_iff.1 k1;have b2:=within_iff.1 m1;have b3:=within_iff.1 g0;have b4:=within_iff.1 g1;have b5:=within_iff.1 g2;have b6:=within_iff.1 g3;have b7:=within_iff.1 g4;refine⟨b1.1,b1.2,b2.1,b2.2,km,z0,fun l=>?_,h2⟩;unfold cB.spread;split<;>omega
  ·intro v hv;have:=aYF.1 ε _ (aXM hv);have a1:=within_iff.1 this;have U:zU f v=(f.aWB[v]).aWK.toNat:=by rw[zU,getD_at hv]
   exact⟨a1.1,by rw[U]; omega⟩
  ·intro m hm;have:=aYF.1 γ m hm;simp only[lD,aYB] at this;exact within_iff.1 this.1.1
theorem NN {f:aK} (h:VF f) {d:Nat} (i:d<f.aVZ.length):∀ {k:Nat},k≤4→upN f k (cX f d)<f.aWC.length∧lvl f (upN f k (cX f d))=4-(k:Int)
 | 0,_=>⟨(h.drive d i).2.2.2.1,by rw[upN,(h.drive d i).2.2.2.2]; rfl⟩
 | k+1,U=>by
  obtain⟨J,p⟩:=NN h i (k:=k) Om;have l:0<upN f k (cX f d):=by
   rcases aZX (upN f k (cX f d)) with e | e
   ·rw[e,h.root.2.1] at p; omega
   ·exact e
  obtain⟨g1,g2,g3,g4,R⟩:=h.dom _ l J;refine⟨by rw[upN]; omega,?_⟩;rw[upN,g3,p]; omega
def cT (f:aK) (d:Nat) (level:Int):Nat:=upN f (4-level.toNat) (cX f d)
def ayS (f:aK) (v:Nat):Int:=(FX f v).k+(FX f v).m
def ajE:Rg:=[iA 1 (.box true (Tm 0)),iT 2 false]
def ajF:Rg:=[iO 3 7 1,iK 4 96 3,iC 5 .eql 4 0,iM 2 5]
def K3:aA:=(sq ajE (sq ajF .ret))
def aKW:aS:=⟨1,6,K3,[.tmp 2]⟩
def auT:Rg:=[iA 2 (.box true (Tm 0)),iI 4 0]
def auU:Rd:=[(iF 6 5 2,false),(iL 7 6,false),(iF 8 6 2,false),(iL 9 8,false),(iM 10 1,false),(iX 11 2 9 10,false),(iF 12 1 11,false),(iL 13 12,false),(iX 14 17 7 13,false),(iO 15 17 14,false),(iA 5 (.alloc [(.str []),(.int .i64 0),(.int .i64 0),(.int .i64 0),(.int .i64 0),(.int .i64 0),(.int .i64 0),(.int .i64 0),(.int .i64 0),.aB,.aB,(.bool false),.aB,.aB,(.bool false),.aB,.aB]),true),(iS 17 5 15,true)]
def auV:Rg:=[iF 16 1 5,iL 17 16,iF 18 2 5,iL 19 18,iB 20 .add 17 19,iM 4 20]
def Xb:aA:=(sq auT (dq auU (sq auV .ret)))
def aNV:aS:=⟨2,21,Xb,[.tmp 4]⟩
def ahO:Rg:=[iA 3 (.box true (Tm 0)),iI 6 0]
def ahP:Rg:=[iF 8 4 3,iL 9 8,iM 10 1,iX 11 3 9 10,iF 12 2 11,iL 13 12,iM 7 13]
def ahQ:Rg:=[iF 14 3 3,iL 15 14,iM 16 7,iX 17 7 15 16,iF 18 1 17,iL 19 18,iM 20 2,iB 21 .gtr 19 20]
def ahR:Rg:=[iF 22 3 3,iL 23 22,iM 24 7,iX 25 7 23 24,iF 26 2 25,iL 27 26,iM 7 27]
def ahN:aA:=(.seq (sq ahQ (.cond (Tm 21) .skip (.exit 0))) (.block 1 (.region ahR)))
def ahS:Rg:=[iM 28 7,iM 6 28]
def Ku:aA:=(sq ahO (sq ahP (.seq (.block 0 (.loop ahN)) (sq ahS .ret))))
def aKN:aS:=⟨3,29,Ku,[.tmp 6]⟩
def auX:Rg:=[iA 2 (.box true (Tm 0)),iZ 4]
def auY:Rg:=[iO 7 7 2,iK 8 161 7,iA 9 (.un .not (Tm 8))]
def auZ:Rg:=[iZ 4]
def avA:Rg:=[iF 10 4 2,iL 11 10,iN 12 11,iA 13 (.aWH 1 8 [(.int .i64 0)] (Tm 12) (Tm 12)),iM 5 13]
def avB:Rg:=[iM 14 5,iN 15 14,iI 16 0]
def avC:Rg:=[iB 17 .lss 16 15]
def avD:Rg:=[iM 18 16,iM 6 18]
def avE:Rd:=[(iM 19 5,false),(iM 20 6,false),(iF 21 2 2,false),(iL 22 21,false),(iF 23 4 2,false),(iL 24 23,false),(iM 25 6,false),(iX 26 3 24 25,false),(iF 27 1 26,false),(iL 28 27,false),(iX 29 4 22 28,false),(iF 30 1 29,false),(iL 31 30,false),(iX 32 1 19 20,false),(iS 1 32 31,true)]
def avF:Rg:=[iM 33 1,iN 34 33,iM 35 5,iN 36 35,iB 37 .eql 34 36]
def avG:Rd:=[(iM 38 5,false),(iM 39 6,false),(iM 40 1,false),(iM 41 6,false),(iX 42 1 40 41,false),(iL 43 42,false),(iA 44 (.aWT true (Tm 43) (Ci 0)),false),(iM 45 5,false),(iM 46 6,false),(iX 47 1 45 46,false),(iL 48 47,false),(iA 49 (.aWT false (Tm 44) (Tm 48)),false),(iX 50 1 38 39,false),(iS 1 50 49,true)]
def aiS:Rg:=[iC 51 .add 16 1,iM 16 51]
def aiR:aA:=(sq avC (.seq (.cond (Tm 17) .skip (.exit 0)) (.seq (.block 1 (sq avD (dq avE (sq avF (.cond (Tm 37) (.draw avG) .skip))))) (.region aiS))))
def aiT:Rg:=[iM 52 5,iM 4 52]
def Xh:aA:=(sq auX (.seq (sq auY (.cond (Tm 9) (sq auZ .ret) .skip)) (sq avA (.seq (sq avB (.block 0 (.loop aiR))) (sq aiT .ret)))))
def aNW:aS:=⟨2,53,Xh,[.tmp 4]⟩
def aKO:Rg:=[iA 3 (.box true (Tm 0)),iI 6 0]
def aKP:Rg:=[iO 7 7 3,iK 8 161 7,iA 9 (.un .not (Tm 8)),iM 10 9,gM 11 1 10 false,gC 12 .lss 11 0 10 false,iQ 13 10 12,iM 14 13,gM 15 1 14 false,gF 16 4 3 14 false,gL 17 16 14 false,gN 18 17 14 false,gB 19 .geq 15 18 14 false,iQ 20 14 19,iM 21 20,gM 22 2 21 false,gC 23 .lss 22 0 21 false,iQ 24 21 23,iM 25 24,gM 26 2 25 false,gC 27 .geq 26 5 25 false,iQ 28 25 27]
def aKQ:Rg:=[iI 6 (-1)]
def aKR:Rg:=[iO 29 7 3,iM 30 1,iM 31 2,iA 32 (.call 155 [(Tm 29),(Tm 30),(Tm 31)]),iM 6 32]
def auS:aA:=(sq aKO (.seq (sq aKP (.cond (Tm 28) (sq aKQ .ret) .skip)) (sq aKR .ret)))
def tat:aS:=⟨3,33,auS,[.tmp 6]⟩
def W1:Rg:=[iA 2 (.box true (Tm 0)),iZ 4]
def W2:Rg:=[iZ 5]
def W3:Rg:=[iO 7 7 2,iK 8 161 7,iA 9 (.un .not (Tm 8)),iM 10 9,gM 11 1 10 false,gC 12 .lss 11 0 10 false,iQ 13 10 12,iM 14 13,gM 15 1 14 false,gF 16 3 2 14 false,gL 17 16 14 false,gN 18 17 14 false,gB 19 .geq 15 18 14 false,iQ 20 14 19]
def W4:Rg:=[iM 21 5,iM 4 21]
def W5:Rg:=[iF 22 4 2,iL 23 22,iN 24 23,iI 25 0]
def W6:Rg:=[iB 26 .lss 25 24]
def W7:Rg:=[iM 27 25,iM 6 27]
def W8:Rd:=[(iO 28 7 2,false),(iM 29 6,false),(iF 30 3 2,false),(iL 31 30,false),(iM 32 1,false),(iX 33 7 31 32,false),(iF 34 1 33,false),(iL 35 34,false),(iA 36 (.call 155 [(Tm 28),(Tm 29),(Tm 35)]),true),(iM 37 1,true),(iB 38 .eql 36 37,false)]
def W9:Rg:=[iM 39 5,iM 40 6,iA 41 (.aWF true 1 1 [(.int .i64 0)] [(0,(Tm 40))]),iA 42 (.append 1 8 (Tm 39) (Tm 41)),iM 5 42]
def Xa:Rg:=[iC 43 .add 25 1,iM 25 43]
def Kw:aA:=(sq W6 (.seq (.cond (Tm 26) .skip (.exit 0)) (.seq (.block 1 (sq W7 (dq W8 (.cond (Tm 38) (.region W9) .skip)))) (.region Xa))))
def Kx:Rg:=[iM 44 5,iM 4 44]
def G1:aA:=(sq W1 (sq W2 (.seq (sq W3 (.cond (Tm 20) (sq W4 .ret) .skip)) (.seq (sq W5 (.block 0 (.loop Kw))) (sq Kx .ret)))))
def aEU:aS:=⟨2,45,G1,[.tmp 4]⟩
def ahT:Rg:=[iA 2 (.box true (Tm 0)),iZ 4]
def ahU:Rg:=[iZ 5]
def ahV:Rg:=[iO 8 7 2,iK 9 161 8,iA 10 (.un .not (Tm 9)),iM 11 10,gM 12 1 11 false,gC 13 .lss 12 0 11 false,iQ 14 11 13]
def ahW:Rg:=[iM 15 5,iM 4 15]
def ahX:Rg:=[iF 16 3 2,iL 17 16,iN 18 17,iI 19 0]
def ahY:Rg:=[iB 20 .lss 19 18]
def ahZ:Rg:=[iM 21 19,iX 22 7 17 19,iO 23 7 22,iA 7 (.alloc [(.str []),(.int .i64 0),(.int .i64 0),(.int .i64 0),(.bool false),.aB,.aB]),iM 6 21,iS 7 7 23]
def aiA:Rg:=[iF 24 2 7,iL 25 24,iM 26 1,iB 27 .eql 25 26]
def aiB:Rg:=[iM 28 5,iM 29 6,iA 30 (.aWF true 1 1 [(.int .i64 0)] [(0,(Tm 29))]),iA 31 (.append 1 8 (Tm 28) (Tm 30)),iM 5 31]
def aiC:Rg:=[iC 32 .add 19 1,iM 19 32]
def Wz:aA:=(sq ahY (.seq (.cond (Tm 20) .skip (.exit 0)) (.seq (.block 1 (sq ahZ (sq aiA (.cond (Tm 27) (.region aiB) .skip)))) (.region aiC))))
def W0:Rg:=[iM 33 5,iM 4 33]
def Kv:aA:=(sq ahT (sq ahU (.seq (sq ahV (.cond (Tm 14) (sq ahW .ret) .skip)) (.seq (sq ahX (.block 0 (.loop Wz))) (sq W0 .ret)))))
def aKS:aS:=⟨2,34,Kv,[.tmp 4]⟩
def aiG:Rg:=[iA 2 (.box true (Tm 0)),iZ 4]
def aiH:Rg:=[iF 10 4 2,iL 11 10,iN 12 11,iA 13 (.aWH 1 8 [(.int .i64 0)] (Tm 12) (Tm 12)),iM 5 13]
def aiI:Rg:=[iM 14 1,iN 15 14,iI 16 0]
def aiJ:Rg:=[iB 17 .lss 16 15]
def aiK:Rg:=[iX 18 1 14 16,iL 19 18,iM 7 19]
def aiL:Rg:=[iM 20 7,iN 21 20,iI 22 0]
def aiM:Rg:=[iB 23 .lss 22 21]
def aiN:Rg:=[iX 24 1 20 22,iL 25 24,iM 9 25]
def aiO:Rg:=[iM 26 9,iC 27 .geq 26 0,iM 28 27,gM 29 9 28 true,gM 30 5 28 true,gN 31 30 28 true,gB 32 .lss 29 31 28 true,iP 33 28 32]
def aiP:Rg:=[iM 34 5,iM 35 9,iX 36 1 34 35,iL 37 36,iC 38 .add 37 1,iX 39 1 34 35,iS 1 39 38]
def Xe:Rg:=[iC 40 .add 22 1,iM 22 40]
def Xc:aA:=(sq aiM (.seq (.cond (Tm 23) .skip (.exit 2)) (.seq (.block 3 (sq aiN (sq aiO (.cond (Tm 33) (.region aiP) .skip)))) (.region Xe))))
def Xf:Rg:=[iC 41 .add 16 1,iM 16 41]
def Xd:aA:=(sq aiJ (.seq (.cond (Tm 17) .skip (.exit 0)) (.seq (.block 1 (sq aiK (sq aiL (.block 2 (.loop Xc))))) (.region Xf))))
def Xg:Rg:=[iM 42 5,iM 4 42]
def Kz:aA:=(sq aiG (sq aiH (.seq (sq aiI (.block 0 (.loop Xd))) (sq Xg .ret))))
def aKU:aS:=⟨2,43,Kz,[.tmp 4]⟩
def ahJ:Rg:=[iA 2 (.box true (Tm 0)),iZ 4]
def ahK:Rg:=[iO 5 7 2,iK 6 161 5,iA 7 (.un .not (Tm 6))]
def ahL:Rg:=[iZ 4]
def ahM:Rg:=[iO 8 7 2,iM 9 1,iK2 10 157 8 9,iM 4 10]
def Kr:aA:=(sq ahJ (.seq (sq ahK (.cond (Tm 7) (sq ahL .ret) .skip)) (sq ahM .ret)))
def aKM:aS:=⟨2,11,Kr,[.tmp 4]⟩
def aiV:Rg:=[iA 3 (.box true (Tm 0)),iA 6 (.alloc [(.int .i64 0),(.int .i64 0),(.int .i64 0)]),iT 7 false]
def aiW:Rd:=[(iM 10 1,true),(iM 11 2,true),(iX 12 1 10 11,true),(iL 13 12,true),(iN 14 13,true),(iO 15 7 3,false),(iM 16 2,false),(iK2 17 156 15 16,true),(iB 18 .neq 14 17,false)]
def aiX:Rg:=[iM 19 2,iM 20 1,iM 21 2,iX 22 1 20 21,iL 23 22,iN 24 23,iA 25 (.build [(.int .i64 0),(.int .i64 0),(.int .i64 0)] [(0,1,(Ci 1)),(1,1,(Tm 19)),(2,1,(Tm 24))]),iS 3 6 25,iT 7 true]
def aiY:Rg:=[iM 26 1,iM 27 2,iX 28 1 26 27,iL 29 28,iN 30 29,iI 31 0]
def aiZ:Rg:=[iB 32 .lss 31 30]
def ajA:Rg:=[iM 33 31,iX 34 1 29 31,iL 35 34,iM 8 33,iM 9 35]
def ajB:Rg:=[iM 36 9,iC 37 .lss 36 (-1),iM 38 37,gM 39 9 38 false,gF 40 4 3 38 false,gL 41 40 38 false,gN 42 41 38 false,gB 43 .geq 39 42 38 false,iQ 44 38 43]
def ajC:Rg:=[iM 45 2,iM 46 8,iA 47 (.build [(.int .i64 0),(.int .i64 0),(.int .i64 0)] [(0,1,(Ci 1)),(1,1,(Tm 45)),(2,1,(Tm 46))]),iS 3 6 47,iT 7 true]
def ajD:Rg:=[iC 48 .add 31 1,iM 31 48]
def aiU:aA:=(sq aiZ (.seq (.cond (Tm 32) .skip (.exit 0)) (.seq (.block 1 (sq ajA (sq ajB (.cond (Tm 44) (sq ajC .ret) .skip)))) (.region ajD))))
def Xi:Rg:=[iA 49 (.build [(.int .i64 0),(.int .i64 0),(.int .i64 0)] []),iS 3 6 49,iT 7 false]
def K0:aA:=(sq aiV (.seq (dq aiW (.cond (Tm 18) (sq aiX .ret) .skip)) (.seq (sq aiY (.block 0 (.loop aiU))) (sq Xi .ret))))
def aKV:aS:=⟨3,50,K0,[.cell 6 (some 3),.tmp 7]⟩
def Wm:Rg:=[iA 2 (.box true (Tm 0)),iT 4 false]
def Wn:Rg:=[iO 8 7 2,iK 9 161 8,iA 10 (.un .not (Tm 9)),iM 11 10,gM 12 1 11 false,gN 13 12 11 false,gF 14 6 2 11 false,gL 15 14 11 false,gN 16 15 11 false,gB 17 .neq 13 16 11 false,iQ 18 11 17]
def Wo:Rg:=[iT 4 false]
def Wp:Rg:=[iM 19 1,iN 20 19,iI 21 0]
def Wq:Rg:=[iB 22 .lss 21 20]
def Ws:Rg:=[iM 23 21,iM 5 23]
def Wt:Rg:=[iO 25 7 2,iM 26 1,iM 27 5,iA 28 (.call 160 [(Tm 25),(Tm 26),(Tm 27)]),iM 24 28,iE 29 24 0,iE 30 24 1,iA 6 (.alloc [(.int .i64 0),(.int .i64 0),(.int .i64 0)]),iS 3 6 29,iM 7 30]
def Wu:Rg:=[iM 31 7]
def Ww:Rg:=[iT 4 false]
def Wx:Rg:=[iC 32 .add 21 1,iM 21 32]
def Ks:aA:=(sq Wq (.seq (.cond (Tm 22) .skip (.exit 0)) (.seq (.block 1 (sq Ws (sq Wt (sq Wu (.cond (Tm 31) (sq Ww .ret) .skip))))) (.region Wx))))
def Kt:Rg:=[iT 4 true]
def Gz:aA:=(sq Wm (.seq (sq Wn (.cond (Tm 18) (sq Wo .ret) .skip)) (.seq (sq Wp (.block 0 (.loop Ks))) (sq Kt .ret))))
def aET:aS:=⟨2,33,Gz,[.tmp 4]⟩
def ajU:Rg:=[iA 5 (.alloc [(.int .i64 0),(.int .i64 0),(.int .i64 0)])]
def ajV:Rg:=[iM 6 0,iL 7 2,iM 8 1,iA 9 (.build [(.int .i64 0),(.int .i64 0),(.int .i64 0)] [(0,1,(Tm 6)),(1,1,(Tm 7)),(2,1,(Tm 8))]),iS 3 5 9]
def K4:aA:=(sq ajU (sq ajV .ret))
def aKX:aS:=⟨2,10,K4,[.cell 5 (some 3)]⟩
def avS:Rg:=[iA 3 (.box true (Tm 0)),iA 5 (.box false (Tm 2)),iZ 6]
def avT:Rd:=[(iF 25 5 3,false),(iL 26 25,false),(iF 27 6 3,false),(iL 28 27,false),(iL 29 5,false),(iX 30 2 28 29,false),(iF 31 1 30,false),(iL 32 31,false),(iX 33 17 26 32,false),(iO 34 17 33,false),(iA 7 (.alloc [(.str []),(.int .i64 0),(.int .i64 0),(.int .i64 0),(.int .i64 0),(.int .i64 0),(.int .i64 0),(.int .i64 0),(.int .i64 0),.aB,.aB,(.bool false),.aB,.aB,(.bool false),.aB,.aB]),true),(iS 17 7 34,true)]
def avU:Rg:=[iF 35 2 3,iL 36 35,iN 37 36,iA 38 (.aWH 1 1 [(.bool false)] (Tm 37) (Tm 37)),iM 8 38]
def avV:Rg:=[iF 39 9 7,iL 40 39,iN 41 40,iI 42 0]
def avW:Rg:=[iB 43 .lss 42 41]
def avX:Rg:=[iX 44 1 40 42,iL 45 44,iM 10 45]
def avY:Rg:=[iM 46 8,iM 47 10,iX 48 1 46 47,⟨none,.store 1 (Tm 48) (.const (.bool true)),none⟩]
def avZ:Rg:=[iC 49 .add 42 1,iM 42 49]
def avR:aA:=(sq avW (.seq (.cond (Tm 43) .skip (.exit 0)) (.seq (.block 1 (sq avX (.region avY))) (.region avZ))))
def awA:Rg:=[iA 50 (.mkfn 159 [(Tm 5)]),iM 11 50]
def akA:Rg:=[iZ 12,iZ 13]
def akB:Rd:=[(iF 51 4 3,false),(iL 52 51,false),(iN 53 52,false),(iA 54 (.aWH 1 8 [(.int .i64 0)] (Tm 53) (Tm 53)),true),(iF 55 3 3,false),(iL 56 55,false),(iN 57 56,false),(iA 58 (.aWH 1 8 [(.int .i64 0)] (Tm 57) (Tm 57)),true),(iM 14 54,false),(iM 15 58,false)]
def akC:Rg:=[iM 59 1,iL 60 5,iX 61 1 59 60,iL 62 61,iN 63 62,iI 64 0]
def akD:Rg:=[iB 65 .lss 64 63]
def akE:Rg:=[iM 66 64,iX 67 1 62 64,iL 68 67,iM 16 66,iM 17 68]
def akF:Rg:=[iM 69 17,iC 70 .lss 69 0]
def akG:Rg:=[iM 71 12,iM 72 11,iM 73 16,iA 74 (.aXA (Tm 72) [(Ci 2),(Tm 73)]),iA 75 (.aWF true 3 1 [(.int .i64 0),(.int .i64 0),(.int .i64 0)] [(0,(Tm 74))]),iA 76 (.append 3 24 (Tm 71) (Tm 75)),iM 12 76]
def akH:Rg:=[iM 77 8,iF 78 4 3,iL 79 78,iM 80 17,iX 81 3 79 80,iF 82 1 81,iL 83 82,iX 84 1 77 83,iL 85 84,iA 86 (.un .not (Tm 85))]
def akI:Rg:=[iM 87 13,iM 88 11,iM 89 16,iA 90 (.aXA (Tm 88) [(Ci 4),(Tm 89)]),iA 91 (.aWF true 3 1 [(.int .i64 0),(.int .i64 0),(.int .i64 0)] [(0,(Tm 90))]),iA 92 (.append 3 24 (Tm 87) (Tm 91)),iM 13 92]
def akJ:Rg:=[iM 93 14,iM 94 17,iX 95 1 93 94,iL 96 95,iC 97 .add 96 1,iX 98 1 93 94,iS 1 98 97]
def akK:Rg:=[iF 99 4 3,iL 100 99,iM 101 17,iX 102 3 100 101,iF 103 2 102,iL 104 103,iM 18 104]
def akL:Rg:=[iM 105 18,iC 106 .gtr 105 0]
def akM:Rg:=[iM 113 15,iM 114 18,iX 115 1 113 114,iL 116 115,iC 117 .add 116 1,iX 118 1 113 114,iS 1 118 117]
def akN:Rg:=[iF 107 3 3,iL 108 107,iM 109 18,iX 110 7 108 109,iF 111 2 110,iL 112 111,iM 18 112]
def ajW:aA:=(.seq (sq akL (.cond (Tm 106) .skip (.exit 4))) (.seq (.block 5 (.region akM)) (.region akN)))
def akO:Rg:=[iC 119 .add 64 1,iM 64 119]
def ajX:aA:=(sq akD (.seq (.cond (Tm 65) .skip (.exit 2)) (.seq (.block 3 (sq akE (.seq (sq akF (.cond (Tm 70) (sq akG (.exit 3)) .skip)) (.seq (sq akH (.cond (Tm 86) (.region akI) .skip)) (sq akJ (sq akK (.block 4 (.loop ajW)))))))) (.region akO))))
def akP:Rg:=[iM 120 12,iM 19 120]
def akQ:Rg:=[iM 121 14,iN 122 121,iI 123 0]
def akR:Rg:=[iB 124 .lss 123 122]
def akS:Rg:=[iM 125 123,iX 126 1 121 123,iL 127 126,iM 20 125,iM 21 127]
def akT:Rg:=[iM 128 21,iC 129 .gtr 128 1]
def akU:Rg:=[iM 130 19,iM 131 11,iM 132 20,iA 133 (.aXA (Tm 131) [(Ci 3),(Tm 132)]),iA 134 (.aWF true 3 1 [(.int .i64 0),(.int .i64 0),(.int .i64 0)] [(0,(Tm 133))]),iA 135 (.append 3 24 (Tm 130) (Tm 134)),iM 19 135]
def akV:Rg:=[iC 136 .add 123 1,iM 123 136]
def ajY:aA:=(sq akR (.seq (.cond (Tm 124) .skip (.exit 6)) (.seq (.block 7 (sq akS (sq akT (.cond (Tm 129) (.region akU) .skip)))) (.region akV))))
def akW:Rg:=[iM 137 19,iM 138 13,iA 139 (.append 3 24 (Tm 137) (Tm 138)),iM 19 139]
def akX:Rg:=[iM 140 15,iN 141 140,iI 142 0]
def akY:Rg:=[iB 143 .lss 142 141]
def akZ:Rg:=[iM 144 142,iX 145 1 140 142,iL 146 145,iM 22 144,iM 23 146]
def alA:Rg:=[iF 147 3 3,iL 148 147,iM 149 22,iX 150 7 148 149,iF 151 1 150,iL 152 151,iF 153 4 7,iA 154 (.idxA 5 1 (Tm 153) (Tm 152)),iL 155 154,iM 24 155]
def alB:Rg:=[iM 156 24,iC 157 .gtr 156 0,iM 158 157,gM 159 23 158 true,gM 160 24 158 true,gB 161 .gtr 159 160 158 true,iP 162 158 161]
def alC:Rg:=[iM 163 19,iM 164 11,iM 165 22,iA 166 (.aXA (Tm 164) [(Ci 5),(Tm 165)]),iA 167 (.aWF true 3 1 [(.int .i64 0),(.int .i64 0),(.int .i64 0)] [(0,(Tm 166))]),iA 168 (.append 3 24 (Tm 163) (Tm 167)),iM 19 168]
def alD:Rg:=[iC 169 .add 142 1,iM 142 169]
def ajZ:aA:=(sq akY (.seq (.cond (Tm 143) .skip (.exit 8)) (.seq (.block 9 (sq akZ (sq alA (sq alB (.cond (Tm 162) (.region alC) .skip))))) (.region alD))))
def alE:Rg:=[iM 170 19,iM 6 170]
def Xk:aA:=(sq avS (dq avT (sq avU (.seq (sq avV (.block 0 (.loop avR))) (sq awA (sq akA (dq akB (.seq (sq akC (.block 2 (.loop ajX))) (sq akP (.seq (sq akQ (.block 6 (.loop ajY))) (sq akW (.seq (sq akX (.block 8 (.loop ajZ))) (sq alE .ret)))))))))))))
def aNY:aS:=⟨3,171,Xk,[.tmp 6]⟩
def avH:Rg:=[iA 3 (.box true (Tm 0)),iZ 6]
def avI:Rg:=[iO 15 7 3,iK 16 161 15,iA 17 (.un .not (Tm 16)),iM 14 17]
def avJ:Rg:=[iZ 6]
def avK:Rg:=[iM 19 1,iN 20 19,iF 21 6 3,iL 22 21,iN 23 22,iB 24 .neq 20 23,iM 18 24]
def avL:Rg:=[iM 25 1,iN 26 25,iA 27 (.build [(.int .i64 0),(.int .i64 0),(.int .i64 0)] [(0,1,(Ci 1)),(1,1,(Ci (-1))),(2,1,(Tm 26))]),iA 28 (.aWF true 3 1 [(.int .i64 0),(.int .i64 0),(.int .i64 0)] [(0,(Tm 27))]),iM 6 28]
def avM:Rg:=[iZ 7]
def avN:Rg:=[iM 29 1,iN 30 29,iI 31 0]
def avO:Rg:=[iB 32 .lss 31 30]
def avP:Rg:=[iM 33 31,iM 8 33]
def avQ:Rg:=[iO 35 7 3,iM 36 1,iM 37 8,iA 38 (.call 160 [(Tm 35),(Tm 36),(Tm 37)]),iM 34 38,iE 39 34 0,iE 40 34 1,iA 9 (.alloc [(.int .i64 0),(.int .i64 0),(.int .i64 0)]),iS 3 9 39,iM 10 40]
def ajI:Rg:=[iM 41 10]
def ajJ:Rg:=[iM 42 7,iO 43 3 9,iA 44 (.aWF true 3 1 [(.int .i64 0),(.int .i64 0),(.int .i64 0)] [(0,(Tm 43))]),iA 45 (.append 3 24 (Tm 42) (Tm 44)),iM 7 45]
def ajK:Rg:=[iM 46 7,iO 47 7 3,iM 48 1,iM 49 8,iA 50 (.call 158 [(Tm 47),(Tm 48),(Tm 49)]),iA 51 (.append 3 24 (Tm 46) (Tm 50)),iM 7 51]
def ajL:Rg:=[iC 52 .add 31 1,iM 31 52]
def ajG:aA:=(sq avO (.seq (.cond (Tm 32) .skip (.exit 1)) (.seq (.block 2 (sq avP (.seq (sq avQ (sq ajI (.cond (Tm 41) (sq ajJ (.exit 2)) .skip))) (.region ajK)))) (.region ajL))))
def ajM:Rg:=[iO 53 7 3,iM 54 2,iK2 55 152 53 54,iM 11 55]
def ajN:Rg:=[iO 56 7 3,iM 57 1,iK2 58 157 56 57,iN 59 58,iI 60 0]
def ajO:Rg:=[iB 61 .lss 60 59]
def ajP:Rg:=[iM 62 60,iX 63 1 58 60,iL 64 63,iM 12 62,iM 13 64]
def ajQ:Rg:=[iM 65 13,iM 66 11,iM 67 12,iX 68 1 66 67,iL 69 68,iB 70 .gtr 65 69]
def ajR:Rg:=[iM 71 7,iM 72 12,iA 73 (.build [(.int .i64 0),(.int .i64 0),(.int .i64 0)] [(0,1,(Ci 6)),(1,1,(Ci (-1))),(2,1,(Tm 72))]),iA 74 (.aWF true 3 1 [(.int .i64 0),(.int .i64 0),(.int .i64 0)] [(0,(Tm 73))]),iA 75 (.append 3 24 (Tm 71) (Tm 74)),iM 7 75]
def ajS:Rg:=[iC 76 .add 60 1,iM 60 76]
def ajH:aA:=(sq ajO (.seq (.cond (Tm 61) .skip (.exit 3)) (.seq (.block 4 (sq ajP (sq ajQ (.cond (Tm 70) (.region ajR) .skip)))) (.region ajS))))
def ajT:Rg:=[iM 77 7,iM 6 77]
def Xj:aA:=(sq avH (.seq (.block 0 (sq avI (.cond (Tm 14) (sq avJ .ret) (sq avK (.cond (Tm 18) (sq avL .ret) .skip))))) (sq avM (.seq (sq avN (.block 1 (.loop ajG))) (sq ajM (.seq (sq ajN (.block 3 (.loop ajH))) (sq ajT .ret)))))))
def aNX:aS:=⟨3,78,Xj,[.tmp 6]⟩
def aiE:Rg:=[iA 3 (.box true (Tm 0)),iT 6 false]
def aiF:Rg:=[iO 7 7 3,iK 8 161 7,iM 9 8,gO 10 7 3 9 true,gM 11 1 9 true,gM 12 2 9 true,iG 13 (.call 154 [(Tm 10),(Tm 11),(Tm 12)]) 9 true,gN 14 13 9 true,gC 15 .eql 14 0 9 true,iP 16 9 15,iM 6 16]
def Ky:aA:=(sq aiE (sq aiF .ret))
def aKT:aS:=⟨3,17,Ky,[.tmp 6]⟩
theorem JD {f:aK} {d:Nat} (h:d<f.aVZ.length):(f.aVZ.map cS.cells)[d]?=some (f.aVZ[d]).cells:=by simp[h]
theorem mB {f:aK} {d:Nat} (h:d<f.aWC.length):(f.aWC.map cI.cells)[d]?=some (f.aWC[d]).cells:=by simp[h]
theorem KI {f:aK} {d:Nat} (h:d<f.aWC.length):(f.aWC[d]).level=lvl f d:=by rw[lvl,getD_at h]
theorem Fy {f:aK} {d:Nat} (h:d<f.aWC.length):(f.aWC[d]).parent=par f d:=by rw[par,getD_at h]
theorem VF.O3 {f:aK} (h:VF f) {d:Nat} (i:d<f.aVZ.length):(f.aVZ[d]).machine=((cX f d:Nat):Int):=by
 have:=(h.drive d i).2.2.1;rw[cX,getD_at i]; omega
theorem VF.acP {f:aK} (h:VF f) {d:Nat} (i:d<f.aVZ.length):(f.aVZ[d]).model=((mdl f d:Nat):Int):=by
 have:=(h.drive d i).1;rw[mdl,getD_at i]; omega
theorem VF.Q8 {f:aK} (h:VF f) {i:Nat} (l:0<i) (hi:i<f.aWC.length):par f i=((FU f i:Nat):Int):=by
 have:=(h.dom i l hi).1;rw[FU]; omega
theorem asQ {f:aK} (h:VF f) {v:Nat} (l:v<f.aWB.length):∃ i:zU f v<f.aWD.length,f.aWD[zU f v]=FX f v:=by
 have i:=(h.volume v l).2;exact⟨i,by simp[FX,aYK,i]⟩
def pick (n:Nat) (p:Nat→Bool):List Int:=((aXQ n).filter p).map fun (i:Nat)=>(i:Int)
theorem dM (l:List Int):(aZ l).length=l.length:=by unfold aZ; rw[aXI]
section
variable (o s:Nat) (rs:List (List PV))
@[go_sem] theorem aQO (k:IntKind) (n:Int):PV.frz o s rs (.int k n)=.int k n:=(rfl)
@[go_sem] theorem aOU (b:Bool):PV.frz o s rs (.bool b)=.bool b:=(rfl)
@[go_sem] theorem aQS (l:List UInt8):PV.frz o s rs (.str l)=.str l:=(rfl)
@[go_sem] theorem aOV:PV.frz o s rs .aB=.aB:=(rfl)
@[go_sem] theorem aUL (n:Nat) (r:List (List PV)):PV.frz o s rs (.sl n r)=.sl n r:=(rfl)
@[go_sem] theorem aOW (c:List PV):PV.frz o s rs (.cO c)=.cO c:=(rfl)
@[go_sem] theorem aQR (q z i c:Nat):PV.frz o s rs (.ptr q z i c)=.ptr q z i c:=(rfl)
@[go_sem] theorem aUK (n:Nat) (c:List PV):PV.frz o s rs (.fn n c)=.fn n c:=(rfl)
@[go_sem] theorem aQP (q:Nat):PV.frz o s rs (.map q)=.map q:=(rfl)
@[go_sem] theorem aQQ (q z off len:Nat):PV.frz o s rs (.osl q z off len)=if q=o then (if z=s∧off+len≤rs.length then .sl s ((rs.drop off).take len) else .junk) else .osl q z off len:=(rfl)
end
def mQ (s:Nat) (rows:List (List PV)) (r:PV) (H:PH):Prop :=
 (rows=[]∧r=.aB∧H=PH.nil)∨∃ q rs,r=.osl q s 0 rows.length∧H=PH.nil.set q (.rows s rs)∧rows.length≤rs.length∧rs.take rows.length=rows
theorem Nc (q s:Nat) (rs:List (List PV)):(PH.nil.set q (.rows s rs)).frz q s rs=PH.nil:=PH.ext fun o=>by
 rw[vJ];by_cases e:o=q
 ·rw[if_pos e]; rfl
 ·rw[if_neg e,aQ,if_neg e]; rfl
section
variable {C:Ctx} {K:bT} {F:PF} {H:PH} {s:Nat} {v:PV} {rows:List (List PV)}
theorem mQ.over {r:PV} {H':PH} (h:mQ s rows r H') (J:kS H .nil H'):bO (H.over .nil H') s r rows∧∀ o x,H o=some x→(H.over .nil H') o=some x:=by
 rcases h with ⟨i,p,rfl⟩ | ⟨q,rs,i,rfl,h3,h4⟩
 ·rw[PH.wQ]; exact⟨.inl ⟨i,p⟩,fun o x h=>h⟩
 ·rw[PH.nK];have R:H q=none:=J q (.rows s rs) (by simp only[aQ,if_true]) rfl;refine⟨.inr ⟨q,rs,i,by simp only[aQ,if_true],h3,h4⟩,fun o x l=>?_⟩;have:o≠q:=by rintro rfl; rw[R] at l; cases l
  simp only[aQ,if_neg this,l]
theorem cw {t:Nat} {e:kL} (i:e=.normal∨e=.ret) (h:bO H s v rows) (l:F t=some v):aW [.tmp t] (mQ s rows) e F H:=by
 rcases h with ⟨rfl,rfl⟩ | ⟨q,rs,rfl,h1,h2,h3⟩
 ·exact bB (vs:=[.aB]) i .nil (by rw[jI,lP,l,mN]) PH.nil_le (.inl ⟨rfl,rfl,rfl⟩)
 ·exact bB (vs:=[.osl q s 0 rows.length]) i (PH.nil.set q (.rows s rs)) (by rw[jI,lP,l,mN]) (PH.aJ PH.nil_le h1) (.inr ⟨q,rs,rfl,rfl,h2,h3⟩)
theorem je {t:Nat} {e:kL} (i:e=.normal∨e=.ret) (l:F t=some .aB):aW [.tmp t] (mQ s []) e F H:=cw i .nil l
theorem aeJ {t:Nat} {e:kL} {r:PV} {H':PH} (i:e=.normal∨e=.ret) (h:mQ s rows r H') (p:F t=some r):aW [.tmp t] (mQ s rows) e F (H.over .nil H'):=by
 refine bB (vs:=[r]) i H' (by rw[jI,lP,p,mN]) (fun o x l=>?_) h;rw[fW,l]
theorem aH.freeze {name:Nat} {args:List PV} (h:aH C name args H (mQ s rows)):aH C name args H (aL (.sl s rows)) :=
 ⟨h.1,fun E w vs hN hW R=>(h.2 E w vs hN hW R).mono fun e w' he=>by
  obtain⟨u,pv,E',H',rfl,l,hr,U,hp⟩:=he;rcases hp with ⟨rfl,rfl,rfl⟩ | ⟨q,rs,rfl,rfl,h3,h4⟩
  ·exact⟨u,_,E',_,rfl,l,(Co.nil s).sound hr,U,rfl,rfl⟩
  ·have hz:gT (PF.nil.set 0 (.osl q s 0 rows.length)) (PH.nil.set q (.rows s rs)) _ _:=.step q (s:=s) (rs:=rs) (by simp only[aQ,if_true]) (.refl _ _);obtain⟨E2,k1,k2,k3⟩:=hz.sound l;have J:=k3 (fun _=>u) (fun i p hi=>by
    rw[jM] at hi;split at hi
    ·cases hi; exact hr
    ·cases hi) 0 (.sl s rows) (by rw[pC,jM,if_pos rfl,aYX,vF h3,h4])
   rw[Nc] at k1 k2;exact⟨u,_,E2,_,rfl,k1,J,U.trans k2,rfl,rfl⟩⟩
theorem dY.of:∀ {E:Env} (ps:List PV) (vs:List Value),vs.length=ps.length→(∀ (i:Nat) p v,ps[i]?=some p→vs[i]?=some v→aU E p v)→dY E ps vs
 | _,[],[],_,_=>.nil
 | _,[],_::_,h,_=>by simp at h
 | _,_::_,[],h,_=>by simp at h
 | _,p::ps,v::vs,h,k=>.cons (k 0 p v rfl rfl) (dY.of ps vs (by simpa using h) fun i q u a b=>k (i+1) q u (by simpa using a) (by simpa using b))
theorem bE.same {E:Env} {w p:World} (hW:bE E H w) (hs:w.heap.size≤p.heap.size) (hb:∀ b,b<w.heap.size→H b=none→p.heap[b]?=w.heap[b]?) (U:∀ o x,H o=some x→p.heap[o]?=w.heap[o]?):bE E H p:=by
 have key:∀ b,b<w.heap.size→p.heap[b]?=w.heap[b]?:=fun b hlt=>by
  cases e:H b with
  | none=>exact hb b hlt e
  | some x=>exact U b x e
 refine⟨fun b cs h=>?_,fun o x h=>?_,fun o n h=>?_⟩
 ·obtain⟨i,ty,R,l⟩:=hW.g b cs h;exact⟨i,ty,R,(key b (a0M.1 l).1).trans l⟩
 ·obtain⟨i,l⟩:=hW.h o x h;exact⟨Nat.lt_of_lt_of_le i hs,l.mono (.refl E) (key o i)⟩
 ·obtain⟨J,ty,R,i,l⟩:=hW.s o n h;exact⟨J,ty,R,(key o (a0M.1 i).1).trans i,l⟩
inductive Plain:PV→Prop
 | int (k:IntKind) (n:Int):Plain (.int k n)
 | bool (b:Bool):Plain (.bool b)
 | str (l:List UInt8):Plain (.str l)
theorem Plain.rep {v:PV} (h:Plain v) {E i:Env} {u:Value} (r:aU E v u):aU i v u:=by
 cases h<;>cases r
 ·exact .int _ _
 ·exact .bool _
 ·exact .str _
theorem aH.aJL {name o:Nat} {rs:List (List PV)} {args:List PV} (hv:Plain v) (h:aH C name (args.map (PV.frz o s rs)) .nil (aL v)) :
  aH C name args (PH.nil.set o (.rows s rs)) (fun r H'=>r=v∧H'=PH.nil.set o (.rows s rs)):=by
 refine⟨h.1,fun E w vs hN hW β=>?_⟩;have hz:gT (PF.args args) (PH.nil.set o (.rows s rs)) _ _:=.step o (s:=s) (rs:=rs) (by simp only[aQ,if_true]) (.refl _ _);obtain⟨E1,k1,k2,k3⟩:=hz.sound hW;rw[Nc] at k1 k2;have α:=β.len;have γ:dY E1 (args.map (PV.frz o s rs)) vs.toList:=by
  refine dY.of _ _ (by rw[aXI]; exact α) fun i p u hp hu=>?_;have:=k3 (fun i=>(vs.toList[i]?).getD undef) (fun j q hj=>by have ε:=(aYP.1 hj).1;have U:j<vs.toList.length:=Om;simp only[aXT U,a0I];exact β.at_ j q _ hj (aXT U)) i p (by rw[pC,args_at,← aYG]; exact hp)
  simp only[hu,a0I] at this;exact this
 refine (h.2 E1 w vs (k2.env.num.trans hN) k1 γ).mono fun e w' he=>?_;obtain⟨u,pv,E2,H2,rfl,δ,hr,R,rfl,rfl⟩:=he;have l:∀ b,b<w.heap.size→w'.heap[b]?=w.heap[b]?:=fun b J=>R.block b J rfl;refine⟨u,pv,E,_,rfl,hW.same R.size (fun b J _=>l b J) (fun q x hq=>l q (hW.h q x hq).1),hv.rep hr,⟨.refl E,R.os,R.tape,R.output,R.size,fun b J _=>l b J,fun q x hq=>.inl ⟨x,hq⟩,fun b cs J=>.inl J⟩,rfl,rfl⟩
theorem aqB {Hs:PH} {S:Spec} {name o:Nat} {rs:List (List PV)} {vs:List PV} {R:PH→PV→PH→Prop} {args:List aO} {st:Bool} {d:Option Nat} {K:PF→PH→Prop} (J:S name vs=some ([o],R)) (hv:Plain v) (ho:H o=some (.rows s rs))
  (h:aH C name (vs.map (PV.frz o s rs)) .nil (aL v)) (i:R (PH.nil.set o (.rows s rs)) v (PH.nil.set o (.rows s rs))) (l:∀ r H',R (PH.nil.set o (.rows s rs)) r H'→r=v∧H'=PH.nil.set o (.rows s rs)) (U:aO.evs F args=some vs) (p:Hs.le H) (hk:K (F.put d v) H) :
  dOp C Hs S st (.call name args) d K F H:=SH J ho (h.aJL hv) i l U p hk
theorem uz {name t:Nat} {R:PV→PH→Prop} {d:Option Nat} {K:PF→PH→Prop} (h:aH C name [.sl s rows] .nil R) (hO:bO H s v rows) (U:F t=some v)
  (J:∀ (l:PF) (p:PH),(∀ i u,F i=some u→Pure u→l i=some u)→∀ r H',R r H'→kS p .nil H'→K (l.put d r) (p.over .nil H')):gY C name [.tmp t] [] d K F H:=by
 rcases hO with ⟨rfl,rfl⟩ | ⟨q,rs,rfl,h1,h2,h3⟩
 ·exact .inl ⟨[.aB],.nil,R,by rw[wD,YB,U,OH]; rfl,PH.nil_le,h.Wf (.inl ⟨rfl,rfl⟩),J F H fun i u hi _=>hi⟩
 ·refine .inr ⟨_,_,.step q h1 (.refl _ _),[.sl s rows],.nil,R,?_,PH.nil_le,h,J _ _ fun i u hi hp=>?_⟩
  ·simp only[wD,OH,YB,pC,U,aYX,vF h2,h3,aZK]
  ·rw[pC,hi,aYX,hp q s rs]
end
theorem ny (l:List Int) (i:Nat) (x:Int):(aZ l).set i [.int .i64 x]=aZ (l.set i x):=by unfold aZ; rw[List.map_set]
theorem PW (n:Nat):aXK n [PV.int .i64 0]=aZ (aXK n 0):=by simp[aZ]
def aKC (f:aK) (room:List Int) (d:Nat):Int:=if room.length=f.aVZ.length then min (max (room.getD d 0) 0) (ext f d) else ext f d
def aNT (f:aK) (room:List Int):List Int:=(aXQ f.aVZ.length).map (aKC f room)
abbrev lay (l:List (List Int)):PV:=.sl 1 (l.map fun r=>[ints r])
def aQB (n:Nat) (xs:List Int):List Int:=(aXQ n).map fun (d:Nat)=>((xs.count (d:Int):Nat):Int)
def aJM (f:aK) (l:List (List Int)):List Int:=aQB f.aVZ.length l.flatten
structure aMH (l:List (List Int)):Prop where
 rows:l.length≤16777216
 all:l.flatten.length≤16777216
theorem abN (l:List (List Int)) {i:Nat} (h:i<l.length):(l.take (i+1)).flatten=(l.take i).flatten++l[i]:=by
 rw[aZT h,List.flatten_append];simp only[List.flatten_cons,List.flatten_nil,aZK]
structure aIJ where
 kind:Int
 vol:Int
 wher:Int
abbrev aIJ.cells (x:aIJ):List PV:=[.int .i64 x.kind,.int .i64 x.vol,.int .i64 x.wher]
section
variable {C:Ctx} {F:PF} {H:PH}
theorem Yl {name:Nat} {vs cs:List PV} {r:PV} {l:PH} {args:List aO} {d:Option Nat} {K:PF→PH→Prop} (h:aH C name (vs++cs) l (fun p H'=>p=r∧H'=l)) (J:aO.evs F args=some vs) (i:l.le H)
  (R:K (F.put d r) H):gY C name args cs d K F H:=by
 refine .inl ⟨vs++cs,l,_,by rw[J]; rfl,i,h,?_⟩;rintro p H' ⟨rfl,rfl⟩ -;rw[PH.over_self _ i];exact R
theorem bO.ne {s s':Nat} {v:PV} {rows:List (List PV)} {o:Nat} {y:List (List PV)} (h:bO H s v rows) (J:H o=some (.rows s' y)) (R:s≠s'):∀ l,v≠.osl o s 0 l:=by
 intro l e;rcases h with ⟨_,i⟩ | ⟨q,rs,h1,i,_⟩
 ·rw[i] at e; cases e
 ·rw[h1] at e;injection e with p
  subst p;rw[J] at i;injection i with i
  injection i with i
  exact R i.symm
theorem bO.set {s s':Nat} {v:PV} {rows:List (List PV)} {o:Nat} {y:List (List PV)} {x:bX} (h:bO H s v rows) (J:H o=some (.rows s' y)) (R:s≠s'):bO (H.set o x) s v rows:=by
 have p:=h.ne J R;rcases h with ⟨i,l⟩ | ⟨q,rs,i,l,h3,h4⟩
 ·exact .inl ⟨i,l⟩
 ·refine .inr ⟨q,rs,i,?_,h3,h4⟩;have:q≠o:=by rintro rfl; exact p _ i
  simp only[aQ,if_neg this,l]
def Dis (s:Nat) (v u:PV):Prop:=∀ q l i p,v=.osl q s 0 l→u=.osl i s 0 p→q≠i
theorem Dis.nil {s:Nat}:Dis s .aB .aB:=fun _ _ _ _ h=>by cases h
theorem Dis.symm {s:Nat} {v u:PV} (h:Dis s v u):Dis s u v:=fun q l R J i p=>(h R J q l p i).symm
end
def OP (f:aK) (i:Nat) (d:Int):Bool:=decide (0≤d)&&decide (cT f d.toNat (lvl f i)=i)
def fA (f:aK) (xs:List Int) (i:Nat):Int:=if i=0 then 0 else ((xs.countP (OP f i):Nat):Int)
def kV (f:aK) (xs:List Int):List Int:=(aXQ f.aWC.length).map (fA f xs)
def lH (f:aK) (xs:List Int) (d:Nat) (k:Nat):List Int:=(aXQ f.aWC.length).map fun i=>if 4-(k:Int)<lvl f i then fA f (xs++[(d:Int)]) i else fA f xs i
theorem aqF (f:aK) (xs:List Int) (d k:Nat):(lH f xs d k).length=f.aWC.length:=by simp[lH]
theorem VF.kZ {f:aK} (h:VF f) {i:Nat} (hi:i<f.aWC.length):0≤lvl f i∧lvl f i≤4∧(lvl f i=0↔i=0):=by
 rcases aZX i with e | e
 ·subst e; rw[h.root.2.1]; simp
 ·have:=h.dom i e hi;omega
theorem abD {f:aK} (h:VF f) (xs:List Int) (d:Nat):lH f xs d 0=kV f xs:=by
 refine a0K (by simp[lH,kV]) fun i p l=>?_;simp only[lH,kV,aZH,List.getElem_range];have hi:i<f.aWC.length:=by simpa [kV] using l
 have:=h.kZ hi;rw[if_neg Om]
theorem abC {f:aK} (h:VF f) (xs:List Int) (d:Nat):lH f xs d 4=kV f (xs++[(d:Int)]):=by
 refine a0K (by simp[lH,kV]) fun i p l=>?_;simp only[lH,kV,aZH,List.getElem_range];have hi:i<f.aWC.length:=by simpa [kV] using l
 have:=h.kZ hi;by_cases e:i=0
 ·subst e;rw[if_neg Om];simp[fA]
 ·rw[if_pos Om]
theorem xH (f:aK) (xs:List Int) (d:Nat) {i:Nat} (hi:i≠0):fA f (xs++[(d:Int)]) i=fA f xs i+if cT f d (lvl f i)=i then 1 else 0:=by
 unfold fA;rw[if_neg hi,if_neg hi,List.countP_append];by_cases h:cT f d (lvl f i)=i
 ·rw[if_pos h]; simp[OP,h]
 ·rw[if_neg h]; simp[OP,h]
theorem aAF {f:aK} (h:VF f) (xs:List Int) {d:Nat} (hd:d<f.aVZ.length) {k:Nat} (hk:k<4) :
  (lH f xs d k)[upN f k (cX f d)]?=some (fA f xs (upN f k (cX f d))) ∧
  (lH f xs d k).set (upN f k (cX f d)) (fA f xs (upN f k (cX f d))+1)=lH f xs d (k+1):=by
 obtain⟨u1,R⟩:=NN h hd (k:=k) Om;constructor
 ·simp only[lH,aYG,List.getElem?_range u1,aYX];rw[if_neg Om]
 ·refine a0K (by simp[lH]) fun i h1 U=>?_;have hi:i<f.aWC.length:=by simpa [lH] using U
  simp only[lH,List.getElem_set,aZH,List.getElem_range];have hr:=h.kZ hi;by_cases e:upN f k (cX f d)=i
  ·rw[if_pos e];subst e;rw[if_pos Om];have l:upN f k (cX f d)≠0:=by intro e; rw[e,h.root.2.1] at R; omega
   rw[xH f xs d l,cT,R];have:4-(4-(k:Int)).toNat=k:=Om;rw[this,if_pos rfl]
  ·rw[if_neg e];by_cases c:4-(k:Int)<lvl f i
   ·rw[if_pos c,if_pos Om]
   ·rw[if_neg c];by_cases p:4-((k+1:Nat):Int)<lvl f i
    ·rw[if_pos p];have J:lvl f i=4-(k:Int):=Om;have l:i≠0:=by intro e; subst e; rw[h.root.2.1] at J; omega
     rw[xH f xs d l,cT,J];have:4-(4-(k:Int)).toNat=k:=Om;rw[this,if_neg e]; simp
    ·rw[if_neg p]
theorem aAE (f:aK) (xs:List Int) (i:Nat):0≤fA f xs i∧fA f xs i≤xs.length:=by
 unfold fA;have:=List.countP_le_length (p:=OP f i) (l:=xs);split<;>omega
structure Obs where
 o5:Nat
 o7:Nat
 o8:Nat
 oD:Nat
 oB:Nat
structure Obs.Ne (o:Obs):Prop where
 a1:o.o5≠o.oD
 a2:o.o5≠o.oB
 a3:o.o7≠o.oD
 a4:o.o7≠o.oB
 a5:o.o8≠o.oD
 a6:o.o8≠o.oB
 a7:o.oD≠o.oB
structure aoX (H:PH) (o:Obs) (v:Nat) (p:cB) (A:List Bool) (D B:List Int):Prop where
 h5:H o.o5=some (.rows 1 [[.int .i64 v]])
 h7:H o.o7=some (.rows 17 [p.cells])
 h8:H o.o8=some (.rows 1 (cY A))
 hD:H o.oD=some (.rows 1 (aZ D))
 hB:H o.oB=some (.rows 1 (aZ B))
theorem aoX.keep {H H':PH} {o:Obs} {v:Nat} {p:cB} {A:List Bool} {D B:List Int} (h:aoX H o v p A D B) (i:∀ q s' z,3≠s'→H q=some (.rows s' z)→H' q=some (.rows s' z)):aoX H' o v p A D B :=
 ⟨i _ _ _ (by decide) h.h5,i _ _ _ (by decide) h.h7,i _ _ _ (by decide) h.h8,i _ _ _ (by decide) h.hD,i _ _ _ (by decide) h.hB⟩
def home (row:List Int) (i:Nat):Bool:=decide (row.getD i 0<0)
def dR (f:aK) (p:cB) (i:Nat):Int:=p.spread (lvl f i).toNat
theorem IF (n:Nat):aXK n [PV.bool false]=cY (marks n []):=by rw[oz]; simp[cY]
theorem anJ (f:aK):aXK f.aWC.length [PV.int .i64 0]=aZ (kV f []):=by
 have:kV f []=aXK f.aWC.length 0:=by refine a0K (by simp[kV]) fun i l p=>?_;simp[kV,fA]
 rw[this,PW]
def over (f:aK) (l:List (List Int)) (room:List Int) (d:Nat):Bool:=decide ((aJM f l).getD d 0>(aNT f room).getD d 0)
def Pe:Rg:=[iA 2 (.mv (.const (.lit (.pointer none))))]
def Pf:Rg:=[iM 3 0,iN 4 3,iC 5 .gtr 4 400]
def Pg:Rg:=[iM 6 0,iA 7 (.slice 1 (Tm 6) none (some (Ci 400)) none),iM 0 7]
def im:Rg:=[iM 8 0,iA 9 (.append 1 1 (.const .aB) (Tm 8)),iA 10 (.build [.aB,(.int .i64 0)] [(0,1,(Tm 9))]),iA 11 (.box false (Tm 10)),iM 2 11]
def KX:aA:=(sq Pe (.seq (sq Pf (.cond (Tm 5) (.region Pg) .skip)) (sq im .ret)))
def aBT:List Nat:=[]
def Dz:aS:=⟨1,12,KX,[.tmp 2]⟩
def UA:Rg:=[iI 4 0]
def EV:Rd:=[(iM 5 0,false),(iA 6 (.aWL (Tm 5)),false),(iF 7 1 6,false),(iL 8 7,false),(iM 9 0,false),(iA 10 (.aWL (Tm 9)),false),(iF 11 0 10,false),(iL 12 11,false),(iN 13 12,false),(iB 14 .geq 8 13,false),(iM 15 14,false),(gM 16 1 15 false,false),(gC 17 .lss 16 2 15 false,false),(iQ 18 15 17,false)]
def UB:Rg:=[iI 4 0]
def D1:Rg:=[iM 19 0,iA 20 (.aWL (Tm 19)),iF 21 1 20,iL 22 21,iC 23 .add 22 1,iA 24 (.aWL (Tm 19)),iF 25 1 24,iS 1 25 23]
def D2:Rd:=[(iM 26 0,false),(iA 27 (.aWL (Tm 26)),false),(iF 28 0 27,false),(iL 29 28,false),(iM 30 0,false),(iA 31 (.aWL (Tm 30)),false),(iF 32 1 31,false),(iL 33 32,false),(iC 34 .sub 33 1,false),(iX 35 1 29 34,false),(iL 36 35,false),(iA 37 (.conv .i64 (Tm 36)),false),(iM 38 1,false),(iB 39 .rem 37 38,false),(iM 4 39,false)]
def uN:aA:=(sq UA (.seq (dq EV (.cond (Tm 18) (sq UB .ret) .skip)) (sq D1 (dq D2 .ret))))
def asB:List Nat:=[]
def OW:aS:=⟨2,40,uN,[.tmp 4]⟩
def Dd:Rg:=[iA 2 (.alloc [(.bool false),.aB,.aB])]
def De:Rg:=[iM 6 0,iA 7 (.call 4 [(Tm 6),(Ci 6)]),iA 8 (.bin .add (Ci 1) (Tm 7)),iM 9 0,iA 10 (.call 4 [(Tm 9),(Ci 8)]),iA 11 (.bin .add (Ci 1) (Tm 10)),iK2 12 50 8 11,iM 5 12,iE 13 5 0,iE 14 5 1,iA 3 (.alloc [(.bool false),.aB,.aB]),iS 3 3 13,iM 4 14]
def Df:Rg:=[iO 15 3 3,iS 3 2 15]
def EP:aA:=(sq Dd (sq De (sq Df .ret)))
def arW:List Nat:=[]
def aw:aS:=⟨1,16,EP,[.cell 2 (some 3)]⟩
def O7:Rg:=[iA 4 (.alloc [(.str []),.aB,.aB,.aB])]
def O8:Rg:=[iM 16 0,iM 17 1,iK2 18 4 16 17,iA 19 (.bin .add (Ci 1) (Tm 18)),iM 5 19]
def O9:Rg:=[iA 6 (.alloc [(.str []),.aB,.aB,.aB])]
def Pa:Rg:=[iI 7 8]
def Pb:Rg:=[iI 8 0]
def Pc:Rg:=[iM 20 8,iM 21 5,iB 22 .lss 20 21]
def ii:Rg:=[iM 25 7,iM 9 25]
def ij:Rg:=[iM 26 8,iC 27 .add 26 1,iM 28 5,iB 29 .lss 27 28]
def ik:Rg:=[iM 30 0,iM 31 7,iC 32 .add 31 1,iK2 33 4 30 32,iM 9 33]
def OV:Rg:=[iM 34 7,iM 35 9,iB 36 .sub 34 35,iM 7 36]
def TP:Rg:=[iM 38 9,iA 39 (.call 50 [(Tm 38),(Ci 8)]),iM 37 39,iE 40 37 0,iE 41 37 1,iA 10 (.alloc [(.bool false),.aB,.aB]),iS 3 10 40,iM 11 41]
def TQ:Rg:=[iF 42 1 6,iL 43 42,iO 44 3 10,iA 45 (.aWF true 3 1 [(.bool false),.aB,.aB] [(0,(Tm 44))]),iA 46 (.append 3 56 (Tm 43) (Tm 45)),iF 47 1 6,iS 1 47 46]
def TR:Rg:=[iM 48 0,iK 49 1 48,iA 12 (.alloc [(.bool false),.aB,.aB]),iS 3 12 49]
def TS:Rg:=[iM 50 8,iC 51 .add 50 1,iM 52 5,iB 53 .lss 51 52,iM 54 53,gM 55 0 54 true,iG 56 (.call 4 [(Tm 55),(Ci 3)]) 54 true,gC 57 .eql 56 0 54 true,iP 58 54 57]
def TT:Rg:=[iA 59 (.call 47 [(Ci 0)]),iS 3 12 59]
def ET:Rg:=[iF 60 3 6,iL 61 60,iO 62 3 12,iA 63 (.aWF true 3 1 [(.bool false),.aB,.aB] [(0,(Tm 62))]),iA 64 (.append 3 56 (Tm 61) (Tm 63)),iF 65 3 6,iS 1 65 64]
def TU:Rg:=[iZ 13]
def TV:Rg:=[iI 14 0]
def Dr:Rg:=[iM 66 14,iM 67 5,iB 68 .lss 66 67]
def Ds:Rg:=[iA 71 (.call 47 [(Ci 0)]),iA 15 (.alloc [(.bool false),.aB,.aB]),iS 3 15 71]
def Dt:Rg:=[iM 72 14,iM 73 8,iC 74 .add 73 1,iB 75 .eql 72 74,iM 76 75,gM 77 14 76 false,gM 78 8 76 false,gB 79 .neq 77 78 76 false,gM 80 79 76 false,gM 81 0 80 true,iG 82 (.call 4 [(Tm 81),(Ci 3)]) 80 true,gC 83 .eql 82 0 80 true,iG 84 (.pick (Tm 80) (Tm 83) (.const (.bool false))) 76 false,iQ 85 76 84]
def TW:Rg:=[iM 86 0,iK 87 1 86,iS 3 15 87]
def TX:Rg:=[iM 88 13,iO 89 3 15,iA 90 (.aWF true 3 1 [(.bool false),.aB,.aB] [(0,(Tm 89))]),iA 91 (.append 3 56 (Tm 88) (Tm 90)),iM 13 91]
def TY:Rg:=[iM 69 14,iC 70 .add 69 1,iM 14 70]
def ES:aA:=(.seq (sq Dr (.cond (Tm 68) .skip (.exit 2))) (.seq (.block 3 (sq Ds (.seq (sq Dt (.cond (Tm 85) (.region TW) .skip)) (.region TX)))) (.region TY)))
def TZ:Rg:=[iF 92 2 6,iL 93 92,iM 94 13,iA 95 (.aWF true 1 1 [.aB] [(0,(Tm 94))]),iA 96 (.append 1 24 (Tm 93) (Tm 95)),iF 97 2 6,iS 1 97 96]
def Du:Rg:=[iM 23 8,iC 24 .add 23 1,iM 8 24]
def Dq:aA:=(.seq (sq Pc (.cond (Tm 22) .skip (.exit 0))) (.seq (.block 1 (sq ii (.seq (sq ij (.cond (Tm 29) (.region ik) .skip)) (sq OV (sq TP (sq TQ (sq TR (.seq (sq TS (.cond (Tm 58) (.region TT) .skip)) (sq ET (sq TU (.seq (sq TV (.block 2 (.loop ES))) (.region TZ)))))))))))) (.region Du)))
def Dv:Rg:=[iO 98 4 6,iS 4 4 98]
def KW:aA:=(sq O7 (sq O8 (sq O9 (sq Pa (.seq (sq Pb (.block 0 (.loop Dq))) (sq Dv .ret))))))
def aBS:List Nat:=[45,63,90,95]
def Dp:aS:=⟨2,99,KW,[.cell 4 (some 4)]⟩
def Pj:Rg:=[iZ 4]
def Pk:Rg:=[iZ 5]
def Pl:Rg:=[iI 6 0]
def Pm:Rg:=[iM 7 6,iM 8 1,iA 9 (.aWT true (Tm 8) (Ci 1)),iB 10 .lss 7 9]
def Pn:Rg:=[iM 13 5,iM 14 0,iK 15 1 14,iA 16 (.aWF true 3 1 [(.bool false),.aB,.aB] [(0,(Tm 15))]),iA 17 (.append 3 56 (Tm 13) (Tm 16)),iM 5 17]
def Po:Rg:=[iM 11 6,iC 12 .add 11 1,iM 6 12]
def Ph:aA:=(.seq (sq Pm (.cond (Tm 10) .skip (.exit 0))) (.seq (.block 1 (.region Pn)) (.region Po)))
def Pp:Rg:=[iM 18 5,iM 4 18]
def KY:aA:=(sq Pj (sq Pk (.seq (sq Pl (.block 0 (.loop Ph))) (sq Pp .ret))))
def aBV:List Nat:=[16]
def D3:aS:=⟨2,19,KY,[.tmp 4]⟩
def Dx:Rg:=[iA 4 (.mv (.const (.str [])))]
def Dy:Rg:=[iM 5 0,iM 6 1,iK 7 195 6,iB 8 .add 5 7,iM 4 8]
def EU:aA:=(sq Dx (sq Dy .ret))
def asA:List Nat:=[]
def ba:aS:=⟨2,9,EU,[.tmp 4]⟩
def Di:Rg:=[iM 12 1,iA 13 (.aWL (Tm 12)),iF 14 3 13,iL 15 14,iM 16 2,iX 17 7 15 16,iF 18 1 17,iL 19 18,iC 20 .add 19 1,iM 8 20]
def Dj:Rg:=[iM 21 0,iA 22 (.call 4 [(Tm 21),(Ci 2)]),iA 23 (.bin .add (Ci 1) (Tm 22)),iM 9 23]
def Dk:Rg:=[iM 24 8,iC 25 .eql 24 2]
def Dl:Rg:=[iI 9 1]
def EQ:Rg:=[iI 10 0]
def TM:Rg:=[iM 26 10,iM 27 9,iB 28 .lss 26 27]
def TN:Rg:=[iM 31 8,iC 32 .eql 31 5]
def Dm:Rg:=[iM 33 1,iA 34 (.aWL (Tm 33)),iF 35 4 34,iL 36 35,iN 37 36,iM 38 3,iB 39 .lss 37 38]
def Dn:Rd:=[(iM 40 1,true),(iM 41 1,true),(iA 42 (.aWL (Tm 41)),true),(iF 43 4 42,true),(iL 44 43,true),(iM 45 1,false),(iA 46 (.aWL (Tm 45)),false),(iF 47 4 46,false),(iL 48 47,false),(iN 49 48,false),(iA 50 (.call 29 [(.const (.str [100])),(Tm 49)]),true),(iM 51 0,true),(iM 52 1,true),(iA 53 (.aWL (Tm 52)),true),(iF 54 2 53,true),(iL 55 54,true),(iN 56 55,true),(iK2 57 4 51 56,true),(iM 58 2,true),(iA 59 (.build [(.str []),(.int .i64 0),(.int .i64 0)] [(0,1,(Tm 50)),(1,1,(Tm 57)),(2,1,(Tm 58))]),false),(iA 60 (.aWF true 3 1 [(.str []),(.int .i64 0),(.int .i64 0)] [(0,(Tm 59))]),false),(iA 61 (.append 3 32 (Tm 44) (Tm 60)),true),(iA 62 (.aWL (Tm 40)),false),(iF 63 4 62,false)]
def Do:Rd:=[(iS 1 63 61,true)]
def p4:Rg:=[iM 64 1,iA 65 (.aWL (Tm 64)),iF 66 4 65,iL 67 66,iN 68 67,iM 69 3,iB 70 .geq 68 69,iM 71 70,gM 72 1 71 false,iG 73 (.aWL (Tm 72)) 71 false,gF 74 3 73 71 false,gL 75 74 71 false,gN 76 75 71 false,gC 77 .geq 76 35 71 false,iQ 78 71 77]
def p5:Rd:=[(iM 79 8,false),(iA 80 (.aWZ (.const (.str [45,115,114,107,109])) (Tm 79)),false),(iA 81 (.aWF true 1 1 [(.int .u8 0)] [(0,(Tm 80))]),false),(iA 82 (.aWM (Tm 81)),false),(iM 83 1,false),(iA 84 (.aWL (Tm 83)),false),(iF 85 3 84,false),(iL 86 85,false),(iN 87 86,false),(iK2 88 29 82 87,true),(iM 89 8,true),(iM 90 2,true),(iM 91 0,true),(iA 92 (.call 4 [(Tm 91),(Ci 16)]),true),(iA 93 (.bin .add (Ci 1) (Tm 92)),true),(iA 94 (.call 47 [(Ci 0)]),true),(iA 95 (.build [(.str []),(.int .i64 0),(.int .i64 0),(.int .i64 0),(.bool false),.aB,.aB] [(0,1,(Tm 88)),(1,1,(Tm 89)),(2,1,(Tm 90)),(3,1,(Tm 93)),(4,3,(Tm 94))]),false),(iA 11 (.alloc [(.str []),(.int .i64 0),(.int .i64 0),(.int .i64 0),(.bool false),.aB,.aB]),true),(iS 7 11 95,true)]
def p6:Rg:=[iM 96 0,iA 97 (.call 4 [(Tm 96),(Ci 3)]),iC 98 .eql 97 0]
def p7:Rg:=[iM 100 0,iA 101 (.call 4 [(Tm 100),(Ci 6)]),iA 102 (.bin .add (Ci 2) (Tm 101)),iA 103 (.call 50 [(Ci 1),(Tm 102)]),iM 99 103,iE 104 99 0,iE 105 99 1,iF 106 4 11,iS 3 106 104]
def KP:Rd:=[(iM 107 1,true),(iM 108 1,false),(iA 109 (.aWL (Tm 108)),false),(iF 110 3 109,false),(iL 111 110,false),(iO 112 7 11,false),(iA 113 (.aWF true 7 1 [(.str []),(.int .i64 0),(.int .i64 0),(.int .i64 0),(.bool false),.aB,.aB] [(0,(Tm 112))]),false),(iA 114 (.append 7 96 (Tm 111) (Tm 113)),true),(iA 115 (.aWL (Tm 107)),false),(iF 116 3 115,false),(iS 1 116 114,true)]
def KQ:Rg:=[iM 117 0,iM 118 1,iM 119 1,iA 120 (.aWL (Tm 119)),iF 121 3 120,iL 122 121,iN 123 122,iC 124 .sub 123 1,iM 125 3,iA 126 (.call 7 [(Tm 117),(Tm 118),(Tm 124),(Tm 125)])]
def tE:Rg:=[iM 29 10,iC 30 .add 29 1,iM 10 30]
def tD:aA:=(.seq (sq TM (.cond (Tm 28) .skip (.exit 0))) (.seq (.block 1 (.seq (sq TN (.cond (Tm 32) (.seq (sq Dm (.cond (Tm 39) (dq Dn (.draw Do)) .skip)) (.exit 1)) .skip)) (.seq (sq p4 (.cond (Tm 78) .ret .skip)) (dq p5 (.seq (sq p6 (.cond (Tm 98) (.region p7) .skip)) (dq KP (.region KQ))))))) (.region tE)))
def uM:aA:=(sq Di (sq Dj (.seq (sq Dk (.cond (Tm 25) (.region Dl) .skip)) (sq EQ (.block 0 (.loop tD))))))
def arX:List Nat:=[60,81,113]
def OU:aS:=⟨4,127,uM,[]⟩
def pe:Rg:=[iA 6 (.alloc [(.int .i64 0),.aB,.aB,.aB,.aB,.aB,.aB])]
def pi:Rg:=[iM 20 0,iA 21 (.call 4 [(Tm 20),(Ci 2)]),iA 22 (.bin .add (Ci 1) (Tm 21)),iA 23 (.build [(.int .i64 0),.aB,.aB,.aB,.aB,.aB,.aB] [(0,1,(Tm 22))]),iA 7 (.alloc [(.int .i64 0),.aB,.aB,.aB,.aB,.aB,.aB]),iS 7 7 23]
def pj:Rg:=[iM 24 0,iA 25 (.call 4 [(Tm 24),(Ci 2)]),iA 26 (.bin .add (Ci 1) (Tm 25)),iM 8 26]
def pn:Rg:=[iI 9 0]
def po:Rg:=[iM 27 9,iM 28 8,iB 29 .lss 27 28]
def pq:Rg:=[iM 32 0,iA 33 (.call 2 [(Tm 32),(Ci 2)]),iA 10 (.alloc [(.str []),.aB,.aB,.aB]),iS 4 10 33]
def pt:Rg:=[iM 34 9,iA 35 (.call 29 [(.const (.str [108,97,119])),(Tm 34)]),iF 36 0 10,iS 1 36 35]
def pu:Rg:=[iF 37 1 7,iL 38 37,iO 39 4 10,iA 40 (.aWF true 4 1 [(.str []),.aB,.aB,.aB] [(0,(Tm 39))]),iA 41 (.append 4 88 (Tm 38) (Tm 40)),iF 42 1 7,iS 1 42 41]
def pw:Rg:=[iM 30 9,iC 31 .add 30 1,iM 9 31]
def KO:aA:=(.seq (sq po (.cond (Tm 29) .skip (.exit 0))) (.seq (.block 1 (sq pq (sq pt (.region pu)))) (.region pw)))
def ZM:Rg:=[iM 43 0,iA 44 (.call 4 [(Tm 43),(Ci 2)]),iA 45 (.bin .add (Ci 1) (Tm 44)),iM 11 45]
def ZN:Rg:=[iI 12 0]
def ZO:Rg:=[iM 46 12,iM 47 11,iB 48 .lss 46 47]
def ZP:Rd:=[(iF 51 2 7,true),(iL 52 51,true),(iM 53 12,false),(iA 54 (.call 29 [(.const (.str [109])),(Tm 53)]),true),(iM 55 0,true),(iA 56 (.call 4 [(Tm 55),(Ci 4)]),true),(iA 57 (.bin .add (Ci 1) (Tm 56)),true),(iM 58 0,true),(iA 59 (.call 4 [(Tm 58),(Ci 8)]),true),(iA 60 (.bin .add (Ci 1) (Tm 59)),true),(iM 61 0,true),(iF 62 1 7,true),(iL 63 62,true),(iN 64 63,true),(iK2 65 4 61 64,true),(iA 66 (.build [(.str []),(.int .i64 0),(.int .i64 0),(.int .i64 0)] [(0,1,(Tm 54)),(1,1,(Tm 57)),(2,1,(Tm 60)),(3,1,(Tm 65))]),false),(iA 67 (.aWF true 4 1 [(.str []),(.int .i64 0),(.int .i64 0),(.int .i64 0)] [(0,(Tm 66))]),false),(iA 68 (.append 4 40 (Tm 52) (Tm 67)),true),(iF 69 2 7,false)]
def ZQ:Rd:=[(iS 1 69 68,true)]
def ZR:Rg:=[iM 49 12,iC 50 .add 49 1,iM 12 50]
def EF:aA:=(.seq (sq ZO (.cond (Tm 48) .skip (.exit 2))) (.seq (.block 3 (dq ZP (.draw ZQ))) (.region ZR)))
def ZS:Rg:=[iA 70 (.call 47 [(Ci 0)]),iA 71 (.build [(.str []),(.int .i64 0),(.int .i64 0),(.int .i64 0),(.bool false),.aB,.aB] [(2,1,(Ci (-1))),(4,3,(Tm 70))]),iA 72 (.aWF false 7 1 [(.str []),(.int .i64 0),(.int .i64 0),(.int .i64 0),(.bool false),.aB,.aB] [(0,(Tm 71))]),iF 73 3 7,iS 1 73 72]
def ZT:Rg:=[iM 74 0,iM 75 1,iA 76 (.call 7 [(Tm 74),(Tm 7),(Ci 0),(Tm 75)])]
def ZU:Rg:=[iM 77 0,iA 78 (.call 4 [(Tm 77),(Ci 2)]),iA 79 (.bin .add (Ci 1) (Tm 78)),iM 13 79]
def ZV:Rg:=[iI 14 0]
def ZW:Rg:=[iM 80 14,iM 81 13,iB 82 .lss 80 81]
def EI:Rg:=[iM 85 14,iA 86 (.call 29 [(.const (.str [112])),(Tm 85)]),iM 87 0,iA 88 (.call 4 [(Tm 87),(Ci 2)]),iA 89 (.bin .add (Ci 1) (Tm 88)),iM 90 0,iA 91 (.call 4 [(Tm 90),(Ci 3)]),iM 92 0,iA 93 (.call 4 [(Tm 92),(Ci 4)]),iA 94 (.bin .add (Ci 1) (Tm 93)),iK 95 47 94,iA 96 (.build [(.str []),(.int .i64 0),(.int .i64 0),(.int .i64 0),(.int .i64 0),(.int .i64 0),(.int .i64 0),(.int .i64 0),(.int .i64 0),.aB,.aB,(.bool false),.aB,.aB,(.bool false),.aB,.aB] [(0,1,(Tm 86)),(1,1,(Tm 89)),(2,1,(Tm 91)),(14,3,(Tm 95))]),iA 15 (.alloc [(.str []),(.int .i64 0),(.int .i64 0),(.int .i64 0),(.int .i64 0),(.int .i64 0),(.int .i64 0),(.int .i64 0),(.int .i64 0),.aB,.aB,(.bool false),.aB,.aB,(.bool false),.aB,.aB]),iS 17 15 96]
def uH:Rd:=[(iF 97 1 15,true),(iL 98 97,true),(iM 99 0,false),(iF 100 2 15,false),(iL 101 100,false),(iC 102 .add 101 1,false),(iK2 103 4 99 102,true),(iB 104 .add 98 103,false),(iF 105 3 15,false)]
def uI:Rd:=[(iS 1 105 104,true)]
def uJ:Rg:=[iM 106 0,iF 107 2 15,iL 108 107,iK2 109 5 106 108,iF 110 10 15,iS 1 110 109]
def uK:Rg:=[iM 112 0,iA 113 (.call 4 [(Tm 112),(Ci 9)]),iA 114 (.call 50 [(Tm 113),(Ci 8)]),iM 111 114,iE 115 111 0,iE 116 111 1,iF 117 11 15,iS 3 117 115]
def EJ:Rg:=[iI 16 1]
def ZX:Rg:=[iM 118 16,iC 119 .lss 118 5]
def ZY:Rg:=[iM 122 0,iA 123 (.call 4 [(Tm 122),(Ci 3)]),iC 124 .eql 123 0]
def ZZ:Rg:=[iM 125 16,iM 126 0,iA 127 (.call 4 [(Tm 126),(Ci 3)]),iA 128 (.bin .add (Ci 1) (Tm 127)),iF 129 4 15,iA 130 (.idxA 5 1 (Tm 129) (Tm 125)),iS 1 130 128]
def EK:Rg:=[iM 120 16,iC 121 .add 120 1,iM 16 121]
def uG:aA:=(.seq (sq ZX (.cond (Tm 119) .skip (.exit 6))) (.seq (.block 7 (sq ZY (.cond (Tm 124) (.region ZZ) .skip))) (.region EK)))
def EL:Rg:=[iM 131 0,iM 132 11,iK2 133 4 131 132,iM 17 133]
def EM:Rg:=[iM 134 17,iA 135 (.aWF false 1 1 [(.int .i64 0)] [(0,(Tm 134))]),iF 136 9 15,iS 1 136 135]
def EN:Rg:=[iM 137 11,iC 138 .gtr 137 1,iM 139 138,gM 140 0 139 true,iG 141 (.call 4 [(Tm 140),(Ci 2)]) 139 true,gC 142 .eql 141 0 139 true,iP 143 139 142]
def EO:Rg:=[iF 144 9 15,iL 145 144,iM 146 17,iA 147 (.bin .sub (Ci 1) (Tm 146)),iA 148 (.aWF true 1 1 [(.int .i64 0)] [(0,(Tm 147))]),iA 149 (.append 1 8 (Tm 145) (Tm 148)),iF 150 9 15,iS 1 150 149]
def uL:Rg:=[iF 151 5 7,iL 152 151,iO 153 17 15,iA 154 (.aWF true 17 1 [(.str []),(.int .i64 0),(.int .i64 0),(.int .i64 0),(.int .i64 0),(.int .i64 0),(.int .i64 0),(.int .i64 0),(.int .i64 0),.aB,.aB,(.bool false),.aB,.aB,(.bool false),.aB,.aB] [(0,(Tm 153))]),iA 155 (.append 17 240 (Tm 152) (Tm 154)),iF 156 5 7,iS 1 156 155]
def ac:Rg:=[iM 83 14,iC 84 .add 83 1,iM 14 84]
def EG:aA:=(.seq (sq ZW (.cond (Tm 82) .skip (.exit 4))) (.seq (.block 5 (sq EI (.seq (dq uH (.draw uI)) (sq uJ (sq uK (.seq (sq EJ (.block 6 (.loop uG))) (sq EL (sq EM (.seq (sq EN (.cond (Tm 143) (.region EO) .skip)) (.region uL)))))))))) (.region ac)))
def ai:Rg:=[iM 157 0,iM 158 2,iC 159 .add 158 1,iK2 160 4 157 159,iM 18 160]
def aj:Rg:=[iI 19 0]
def al:Rg:=[iM 161 19,iM 162 18,iB 163 .lss 161 162]
def ao:Rd:=[(iF 166 6 7,true),(iL 167 166,true),(iM 168 19,false),(iA 169 (.call 29 [(.const (.str [118])),(Tm 168)]),true),(iM 170 0,true),(iF 171 5 7,true),(iL 172 171,true),(iN 173 172,true),(iK2 174 4 170 173,true),(iA 175 (.build [(.str []),(.int .i64 0)] [(0,1,(Tm 169)),(1,1,(Tm 174))]),false),(iA 176 (.aWF true 2 1 [(.str []),(.int .i64 0)] [(0,(Tm 175))]),false),(iA 177 (.append 2 24 (Tm 167) (Tm 176)),true),(iF 178 6 7,false)]
def ap:Rd:=[(iS 1 178 177,true)]
def au:Rg:=[iM 164 19,iC 165 .add 164 1,iM 19 165]
def EH:aA:=(.seq (sq al (.cond (Tm 163) .skip (.exit 8))) (.seq (.block 9 (dq ao (.draw ap))) (.region au)))
def av:Rg:=[iO 179 7 7,iS 7 6 179]
def zB:aA:=(sq pe (sq pi (sq pj (.seq (sq pn (.block 0 (.loop KO))) (sq ZM (.seq (sq ZN (.block 2 (.loop EF))) (sq ZS (sq ZT (sq ZU (.seq (sq ZV (.block 4 (.loop EG))) (sq ai (.seq (sq aj (.block 8 (.loop EH))) (sq av .ret)))))))))))))
def acQ:List Nat:=[40,67,148,154,176]
def KN:aS:=⟨3,180,zB,[.cell 6 (some 7)]⟩
def ot:Rg:=[iA 6 (.alloc [(.int .i64 0),.aB,.aB,.aB,.aB,.aB,.aB])]
def ov:Rg:=[iM 7 0,iK 8 28 7,iM 9 1,iM 10 2,iA 11 (.call 0 [(Tm 8),(Tm 9),(Tm 10)]),iS 7 6 11]
def zA:aA:=(sq ot (sq ov .ret))
def acO:List Nat:=[]
def KJ:aS:=⟨3,12,zA,[.cell 6 (some 7)]⟩
def Ij:Rg:=[iZ 2]
def Ik:Rg:=[iM 4 0,iN 5 4,iM 3 5]
def Il:Rg:=[iM 6 3,iC 7 .gtr 6 0,iM 8 7,gM 9 0 8 true,gM 10 3 8 true,gC 11 .sub 10 1 8 true,iG 12 (.aWP 1 (Tm 9) (Tm 11)) 8 true,gL 13 12 8 true,iG 14 (.bin .eql (Tm 13) (.const (.int .u32 0))) 8 true,iP 15 8 14]
def Im:Rg:=[iM 16 3,iC 17 .sub 16 1,iM 3 17]
def Ih:aA:=(.seq (sq Il (.cond (Tm 15) .skip (.exit 0))) (.block 1 (.region Im)))
def VM:Rg:=[iM 18 0,iM 19 3,iA 20 (.slice 1 (Tm 18) none (some (Tm 19)) none),iA 21 (.append 1 4 (.const .aB) (Tm 20)),iM 2 21]
def HB:aA:=(sq Ij (sq Ik (.seq (.block 0 (.loop Ih)) (sq VM .ret))))
def awQ:List Nat:=[]
def fa:aS:=⟨1,22,HB,[.tmp 2]⟩
def Hz:Rg:=[iZ 2]
def H7:Rg:=[iM 3 0,iA 4 (.conv .u32 (Tm 3)),iM 5 0,iA 6 (.bin .shr (Tm 5) (.const (.int .u64 32))),iA 7 (.conv .u32 (Tm 6)),iA 8 (.aWF true 1 2 [(.int .u32 0)] [(0,(Tm 4)),(1,(Tm 7))]),iK 9 38 8,iM 2 9]
def GP:aA:=(sq Hz (sq H7 .ret))
def awG:List Nat:=[8]
def du:aS:=⟨1,10,GP,[.tmp 2]⟩
def s8:Rg:=[iT 2 false]
def s9:Rg:=[iM 3 0,iK 4 38 3,iN 5 4,iC 6 .gtr 5 512,iM 2 6]
def AI:aA:=(sq s8 (sq s9 .ret))
def alI:List Nat:=[]
def NJ:aS:=⟨1,7,AI,[.tmp 2]⟩
def Rl:Rg:=[iI 4 0]
def Rm:Rg:=[iM 6 0,iK 7 38 6,iM 8 1,iK 9 38 8,iM 0 7,iM 1 9]
def Rn:Rg:=[iM 10 0,iN 11 10,iM 12 1,iN 13 12,iB 14 .neq 11 13]
def Ro:Rg:=[iM 15 0,iN 16 15,iM 17 1,iN 18 17,iB 19 .lss 16 18]
def Rp:Rg:=[iI 4 (-1)]
def Rq:Rg:=[iI 4 1]
def Rr:Rg:=[iM 20 0,iN 21 20,iC 22 .sub 21 1,iM 5 22]
def Rs:Rg:=[iM 23 5,iC 24 .geq 23 0]
def Rt:Rd:=[(iM 27 0,false),(iM 28 5,false),(iX 29 1 27 28,false),(iL 30 29,false),(iM 31 1,false),(iM 32 5,false),(iX 33 1 31 32,false),(iL 34 33,false),(iB 35 .lss 30 34,false)]
def Ru:Rg:=[iI 4 (-1)]
def Hi:Rd:=[(iM 36 0,false),(iM 37 5,false),(iX 38 1 36 37,false),(iL 39 38,false),(iM 40 1,false),(iM 41 5,false),(iX 42 1 40 41,false),(iL 43 42,false),(iB 44 .gtr 39 43,false)]
def Hj:Rg:=[iI 4 1]
def Hk:Rg:=[iM 25 5,iC 26 .sub 25 1,iM 5 26]
def Hh:aA:=(.seq (sq Rs (.cond (Tm 24) .skip (.exit 0))) (.seq (.block 1 (.seq (dq Rt (.cond (Tm 35) (sq Ru .ret) .skip)) (dq Hi (.cond (Tm 44) (sq Hj .ret) .skip)))) (.region Hk)))
def Hl:Rg:=[iI 4 0]
def NE:aA:=(sq Rl (sq Rm (.seq (sq Rn (.cond (Tm 14) (.seq (sq Ro (.cond (Tm 19) (sq Rp .ret) .skip)) (sq Rq .ret)) .skip)) (.seq (sq Rr (.block 0 (.loop Hh))) (sq Hl .ret)))))
def aFD:List Nat:=[]
def Hg:aS:=⟨2,45,NE,[.tmp 4]⟩
def dg:Rg:=[iZ 4,iZ 5]
def dh:Rg:=[iM 20 0,iM 21 1,iK2 22 32 20 21,iC 23 .lss 22 0]
def di:Rg:=[iM 24 0,iK 25 38 24,iZ 4,iM 5 25]
def dj:Rg:=[iM 26 1,iN 27 26,iC 28 .eql 27 1]
def GL:Rg:=[iM 29 0,iN 30 29,iA 31 (.aWH 1 4 [(.int .u32 0)] (Tm 30) (Tm 30)),iM 6 31]
def GM:Rg:=[iA 7 (.mv (.const (.int .u64 0)))]
def GN:Rg:=[iM 32 0,iN 33 32,iC 34 .sub 33 1,iM 8 34]
def dk:Rg:=[iM 35 8,iC 36 .geq 35 0]
def dl:Rg:=[iM 39 7,iA 40 (.bin .shl (Tm 39) (.const (.int .u64 32))),iM 41 0,iM 42 8,iX 43 1 41 42,iL 44 43,iA 45 (.conv .u64 (Tm 44)),iB 46 .or 40 45,iM 9 46]
def dp:Rg:=[iM 47 6,iM 48 8,iM 49 9,iM 50 1,iA 51 (.aWP 1 (Tm 50) (Ci 0)),iL 52 51,iA 53 (.conv .u64 (Tm 52)),iB 54 .quo 49 53,iA 55 (.conv .u32 (Tm 54)),iX 56 1 47 48,iS 1 56 55]
def RC:Rg:=[iM 57 9,iM 58 1,iA 59 (.aWP 1 (Tm 58) (Ci 0)),iL 60 59,iA 61 (.conv .u64 (Tm 60)),iB 62 .rem 57 61,iM 7 62]
def RD:Rg:=[iM 37 8,iC 38 .sub 37 1,iM 8 38]
def zW:aA:=(.seq (sq dk (.cond (Tm 36) .skip (.exit 0))) (.seq (.block 1 (sq dl (sq dp (.region RC)))) (.region RD)))
def zX:Rg:=[iM 63 6,iK 64 38 63,iM 65 7,iK 66 35 65,iM 4 64,iM 5 66]
def RE:Rg:=[iM 67 1,iN 68 67,iA 69 (.bin .mul (Ci 32) (Tm 68)),iM 70 1,iK 71 31 70,iB 72 .sub 69 71,iM 10 72]
def RG:Rg:=[iM 73 0,iM 74 10,iK2 75 45 73 74,iA 76 (.aWF true 1 2 [(.int .u32 0)] [(0,(.const (.int .u32 0))),(1,(.const (.int .u32 0)))]),iA 77 (.append 1 4 (Tm 75) (Tm 76)),iM 78 1,iM 79 10,iK2 80 45 78 79,iM 11 77,iM 12 80]
def zY:Rg:=[iM 81 11,iM 82 0,iM 83 10,iK2 84 45 82 83,iN 85 84,iC 86 .add 85 1,iA 87 (.slice 1 (Tm 81) none (some (Tm 86)) none),iM 11 87]
def zZ:Rg:=[iM 88 12,iM 89 12,iN 90 89,iC 91 .sub 90 1,iX 92 1 88 91,iL 93 92,iA 94 (.conv .u64 (Tm 93)),iM 13 94]
def AA:Rg:=[iM 95 11,iN 96 95,iM 97 12,iN 98 97,iB 99 .sub 96 98,iA 100 (.aWH 1 4 [(.int .u32 0)] (Tm 99) (Tm 99)),iM 14 100]
def AB:Rg:=[iM 101 14,iN 102 101,iC 103 .sub 102 1,iM 15 103]
def RH:Rg:=[iM 104 15,iC 105 .geq 104 0]
def RI:Rd:=[(iM 108 11,false),(iM 109 15,false),(iM 110 12,false),(iN 111 110,false),(iB 112 .add 109 111,false),(iX 113 1 108 112,false),(iL 114 113,false),(iA 115 (.conv .u64 (Tm 114)),false),(iA 116 (.bin .shl (Tm 115) (.const (.int .u64 32))),false),(iM 117 11,false),(iM 118 15,false),(iM 119 12,false),(iN 120 119,false),(iB 121 .add 118 120,false),(iC 122 .sub 121 1,false),(iX 123 1 117 122,false),(iL 124 123,false),(iA 125 (.conv .u64 (Tm 124)),false),(iB 126 .or 116 125,false),(iM 16 126,false)]
def RJ:Rg:=[iM 127 16,iM 128 13,iB 129 .quo 127 128,iM 17 129]
def RK:Rg:=[iM 130 17,iA 131 (.bin .gtr (Tm 130) (.const (.int .u64 4294967295)))]
def RL:Rg:=[iA 17 (.mv (.const (.int .u64 4294967295)))]
def RM:Rd:=[(iM 132 12,true),(iM 133 17,false),(iK 134 35 133,true),(iK2 135 44 132 134,true),(iM 136 11,true),(iM 137 15,true),(iM 138 15,true),(iM 139 12,true),(iN 140 139,true),(iB 141 .add 138 140,true),(iC 142 .add 141 1,true),(iA 143 (.slice 1 (Tm 136) (some (Tm 137)) (some (Tm 142)) none),true),(iA 144 (.append 1 4 (.const .aB) (Tm 143)),true),(iK2 145 32 135 144,true),(iC 146 .gtr 145 0,false)]
def RN:Rg:=[iM 147 17,iA 148 (.bin .sub (Tm 147) (.const (.int .u64 1))),iM 17 148]
def sQ:aA:=(.seq (dq RM (.cond (Tm 146) .skip (.exit 4))) (.block 5 (.region RN)))
def AC:Rg:=[iM 149 11,iM 150 15,iM 151 15,iM 152 12,iN 153 152,iB 154 .add 151 153,iC 155 .add 154 1,iA 156 (.slice 1 (Tm 149) (some (Tm 150)) (some (Tm 155)) none),iA 157 (.append 1 4 (.const .aB) (Tm 156)),iM 158 12,iM 159 17,iK 160 35 159,iK2 161 44 158 160,iK2 162 42 157 161,iM 18 162]
def AD:Rg:=[iI 19 0]
def RP:Rg:=[iM 163 19,iM 164 12,iN 165 164,iB 166 .leq 163 165]
def RQ:Rg:=[iM 169 11,iM 170 15,iM 171 19,iB 172 .add 170 171,iX 173 1 169 172,⟨none,.store 1 (Tm 173) (.const (.int .u32 0)),none⟩]
def RR:Rg:=[iM 174 19,iM 175 18,iN 176 175,iB 177 .lss 174 176]
def RS:Rg:=[iM 178 11,iM 179 15,iM 180 19,iB 181 .add 179 180,iM 182 18,iM 183 19,iX 184 1 182 183,iL 185 184,iX 186 1 178 181,iS 1 186 185]
def AE:Rg:=[iM 167 19,iC 168 .add 167 1,iM 19 168]
def sR:aA:=(.seq (sq RP (.cond (Tm 166) .skip (.exit 6))) (.seq (.block 7 (sq RQ (sq RR (.cond (Tm 177) (.region RS) .skip)))) (.region AE)))
def AF:Rg:=[iM 187 14,iM 188 15,iM 189 17,iA 190 (.conv .u32 (Tm 189)),iX 191 1 187 188,iS 1 191 190]
def AG:Rg:=[iM 106 15,iC 107 .sub 106 1,iM 15 107]
def sS:aA:=(.seq (sq RH (.cond (Tm 105) .skip (.exit 2))) (.seq (.block 3 (dq RI (sq RJ (.seq (sq RK (.cond (Tm 131) (.region RL) .skip)) (.seq (.block 4 (.loop sQ)) (sq AC (.seq (sq AD (.block 6 (.loop sR))) (.region AF)))))))) (.region AG)))
def AH:Rg:=[iM 192 14,iK 193 38 192,iM 194 11,iK 195 38 194,iM 196 10,iK2 197 40 195 196,iM 4 193,iM 5 197]
def wW:aA:=(sq dg (.seq (sq dh (.cond (Tm 23) (sq di .ret) .skip)) (.seq (sq dj (.cond (Tm 28) (sq GL (sq GM (.seq (sq GN (.block 0 (.loop zW))) (sq zX .ret)))) .skip)) (sq RE (sq RG (sq zY (sq zZ (sq AA (.seq (sq AB (.block 2 (.loop sS))) (sq AH .ret))))))))))
def Xn:List Nat:=[76]
def BK:aS:=⟨2,198,wW,[.tmp 4,.tmp 5]⟩
def Rw:Rg:=[iZ 4,iZ 5,iI 6 0]
def Rx:Rg:=[iM 9 0,iK 10 41 9,iM 11 10,gM 12 1 11 false,gK 13 41 12 11 false,iQ 14 11 13]
def jl:Rg:=[iZ 4,iZ 5,iI 6 2]
def Ry:Rg:=[iM 15 1,iK 16 38 15,iN 17 16,iC 18 .eql 17 0]
def Rz:Rg:=[iZ 4,iZ 5,iI 6 3]
def R0:Rg:=[iM 20 0,iK 21 38 20,iM 22 1,iK 23 38 22,iK2 24 39 21 23,iM 19 24,iE 25 19 0,iE 26 19 1,iM 7 25,iM 8 26]
def R2:Rg:=[iM 27 7,iM 28 8,iM 4 27,iM 5 28,iI 6 0]
def NF:aA:=(sq Rw (.seq (sq Rx (.cond (Tm 14) (sq jl .ret) .skip)) (.seq (sq Ry (.cond (Tm 18) (sq Rz .ret) .skip)) (sq R0 (sq R2 .ret)))))
def aFE:List Nat:=[]
def udiv:aS:=⟨2,29,NF,[.tmp 4,.tmp 5,.tmp 6]⟩
def R5:Rg:=[iZ 4,iI 5 0]
def R6:Rg:=[iM 10 0,iK 11 41 10,iM 12 11,gM 13 1 12 false,gK 14 41 13 12 false,iQ 15 12 14]
def jm:Rg:=[iZ 4,iI 5 2]
def R7:Rg:=[iM 16 0,iK 17 38 16,iM 18 1,iK 19 38 18,iM 6 17,iM 7 19]
def R8:Rg:=[iM 20 7,iN 21 20,iC 22 .gtr 21 0]
def R9:Rg:=[iM 24 6,iM 25 7,iK2 26 39 24 25,iM 23 26,iE 27 23 0,iE 28 23 1,iM 8 27,iM 9 28]
def Sa:Rg:=[iM 29 7,iM 30 9,iM 6 29,iM 7 30]
def R3:aA:=(.seq (sq R8 (.cond (Tm 22) .skip (.exit 0))) (.block 1 (sq R9 (.region Sa))))
def Sb:Rg:=[iM 31 6,iM 4 31,iI 5 0]
def NI:aA:=(sq R5 (.seq (sq R6 (.cond (Tm 15) (sq jm .ret) .skip)) (sq R7 (.seq (.block 0 (.loop R3)) (sq Sb .ret)))))
def aFF:List Nat:=[]
def Hx:aS:=⟨2,32,NI,[.tmp 4,.tmp 5]⟩
def fe:Rg:=[iA 6 (.alloc [(.bool false),.aB,.aB])]
def ff:Rg:=[iM 9 1,iK 10 38 9,iM 11 2,iK 12 38 11,iM 1 10,iM 2 12]
def fg:Rg:=[iM 13 1,iN 14 13,iC 15 .eql 14 0]
def fh:Rg:=[iA 16 (.aWF true 1 1 [(.int .u32 0)] [(0,(.const (.int .u32 1)))]),iA 17 (.build [(.bool false),.aB,.aB] [(2,1,(Tm 16))]),iS 3 6 17]
def fi:Rg:=[iM 19 1,iM 20 2,iK2 21 34 19 20,iM 18 21,iE 22 18 0,iE 23 18 1,iM 7 22,iM 8 23]
def fj:Rg:=[iM 24 7,iN 25 24,iC 26 .gtr 25 1,iM 27 26,gM 28 7 27 false,iG 29 (.aWP 1 (Tm 28) (Ci 0)) 27 false,gL 30 29 27 false,iG 31 (.bin .gtr (Tm 30) (.const (.int .u32 1))) 27 false,iQ 32 27 31]
def HC:Rg:=[iM 34 1,iM 35 7,iK2 36 33 34 35,iM 33 36,iE 37 33 0,iE 38 33 1,iE 39 33 2,iM 1 37]
def HD:Rg:=[iM 41 2,iM 42 7,iK2 43 33 41 42,iM 40 43,iE 44 40 0,iE 45 40 1,iE 46 40 2,iM 2 44]
def uX:Rg:=[iM 47 0,iM 48 1,iM 49 2,iA 50 (.build [(.bool false),.aB,.aB] [(0,1,(Tm 47)),(1,1,(Tm 48)),(2,1,(Tm 49))]),iS 3 6 50]
def wY:aA:=(sq fe (sq ff (.seq (sq fg (.cond (Tm 15) (sq fh .ret) .skip)) (.seq (sq fi (sq fj (.cond (Tm 32) (sq HC (.region HD)) .skip))) (sq uX .ret)))))
def Xw:List Nat:=[16]
def BN:aS:=⟨3,51,wY,[.cell 6 (some 3)]⟩
def Ix:Rg:=[iA 2 (.mv (.const (.int .u64 0)))]
def Iy:Rg:=[iM 3 0,iC 4 .lss 3 0]
def Iz:Rg:=[iM 5 0,iC 6 .add 5 1,iA 7 (.un .neg (Tm 6)),iA 8 (.conv .u64 (Tm 7)),iA 9 (.bin .add (Tm 8) (.const (.int .u64 1))),iM 2 9]
def I0:Rg:=[iM 10 0,iA 11 (.conv .u64 (Tm 10)),iM 2 11]
def HF:aA:=(sq Ix (.seq (sq Iy (.cond (Tm 4) (sq Iz .ret) .skip)) (sq I0 .ret)))
def axK:List Nat:=[]
def fk:aS:=⟨1,12,HF,[.tmp 2]⟩
def Ir:Rg:=[iA 4 (.alloc [(.bool false),.aB,.aB]),iI 5 0]
def Is:Rg:=[iM 6 1,iC 7 .eql 6 0]
def It:Rg:=[iA 8 (.build [(.bool false),.aB,.aB] []),iS 3 4 8,iI 5 3]
def Iu:Rg:=[iM 9 0,iC 10 .lss 9 0,iM 11 1,iC 12 .lss 11 0,iA 13 (.eqb true (Tm 10) (Tm 12)),iM 14 0,iK 15 59 14,iK 16 35 15,iM 17 1,iK 18 59 17,iK 19 35 18,iA 20 (.call 58 [(Tm 13),(Tm 16),(Tm 19)]),iS 3 4 20,iI 5 0]
def HE:aA:=(sq Ir (.seq (sq Is (.cond (Tm 7) (sq It .ret) .skip)) (sq Iu .ret)))
def axD:List Nat:=[]
def PJ:aS:=⟨2,21,HE,[.cell 4 (some 3),.tmp 5]⟩
def Si:Rg:=[iA 2 (.alloc [(.bool false),.aB,.aB])]
def Sj:Rg:=[iM 6 0,iA 7 (.call 50 [(Tm 6),(Ci 1)]),iM 5 7,iE 8 5 0,iE 9 5 1,iA 3 (.alloc [(.bool false),.aB,.aB]),iS 3 3 8,iM 4 9]
def Sk:Rg:=[iO 10 3 3,iS 3 2 10]
def NV:aA:=(sq Si (sq Sj (sq Sk .ret)))
def aGI:List Nat:=[]
def Ip:aS:=⟨1,11,NV,[.cell 2 (some 3)]⟩
def utF (xs:List Nat) (n:Nat):PF:=((PF.nil.set 0 (aG xs)).set 3 (.int .i64 n))
theorem Ii {C:Ctx} (xs:List Nat) (hx:Lim xs) (hl:xs.length≤35184372087808):HB.wp C (aW fa.res (mQ 1 (aF (aI (val xs))))) (PF.args [aG xs]) .nil:=by
 simp only[go_sem,HB,Ij,Ik,fa,aXI];refine wp_loop (α:=Nat) (fun n=>utF xs n) (fun _=>.nil) (fun n=>n≤xs.length∧∀ j x,n≤j→xs[j]?=some x→x=0) (fun n=>n) xs.length ⟨aXL _,fun j x U i=>?_⟩ ?_ PH.nil_le ?_
 ·rw[aYT U] at i; cases i
 ·unfold utF;exact Lq
 rintro n ⟨hn,hz⟩;have done:(0<n→∀ h:n-1<xs.length,xs[n-1]≠0)→∀ F:PF,(utF xs n).le F→aA.wp C (.seq (.region VM) .ret) (aW [.tmp 2] (mQ 1 (aF (aI (val xs))))) F .nil:=by
  intro h F R;have f0:F 0=some (aG xs):=R 0 _ (by unfold utF; simp only[go_sem]);have f3:F 3=some (.int .i64 n):=R 3 _ (by unfold utF; simp only[go_sem]);have ht:xs.take n=aI (val xs):=GJ hx hn hz fun x p i=>by
   rw[aXT Om] at i;injection i with i
   subst i;exact h p Om
  have hc:((n:Nat):Int)≤(xs.length:Nat):=Om;simp only[go_sem,VM,f0,f3,aXI,hc,or_true,aYO];refine fX (rows:=[]) (src:=aF (aI (val xs))) .nil ?_ ?_ fun v H' ho _=>?_
  ·simp only[go_sem];rw[← ht,← List.map_take]
  ·unfold roomFor;rw[bR,← ht,aYA];simp only[aZV,maxLen];omega
  ·exact cw (.inr rfl) (by simpa using ho) rfl
 simp only[aA.wp,go_sem] at done;simp only[go_sem,Ih,Il,utF];by_cases p:0<n
 ·have l:((n:Nat):Int)>0:=Om;have hlt:n-1<xs.length:=Om;have J:=bK xs hlt;have hw:IntKind.i64.wrap ((n:Int)-1)=((n-1:Nat):Int):=tM Om p;simp only[go_sem,l,hw,J];by_cases c:xs[n-1]=0
  ·simp only[go_sem,bM (Om:((xs[n-1]:Nat):Int)=0),Im,hw];refine aM (n-1) ⟨by omega,fun j x U i=>?_⟩ Om ?_ PH.nil_le
   ·by_cases e:j=n-1
    ·subst e;rw[aXT hlt] at i;injection i with i
     omega
    ·exact hz j x Om i
   ·exact Lq
  ·simp only[go_sem,bF (Om:((xs[n-1]:Nat):Int)≠0)];exact done (fun _ _=>c) _ (by unfold utF; exact Lq)
 ·have l:¬ ((n:Nat):Int)>0:=Om;simp only[go_sem,l];exact done (fun h=>absurd h p) _ (by unfold utF; exact Lq)
structure mR (C:Ctx):Prop where
 trimM:∀ xs,Lim xs→xs.length≤35184372087808→aH C 38 [aG xs] .nil (mQ 1 (aF (aI (val xs))))
theorem mR.trim {C:Ctx} (L:mR C) (xs:List Nat) (l:Lim xs) (i:xs.length≤35184372087808):aH C 38 [aG xs] .nil (aL (aG (aI (val xs)))):=(L.trimM xs l i).freeze
theorem Hy {C:Ctx} (L:mR C) (v:Nat) (hv:v<18446744073709551616):GP.wp C (aW du.res (cG (aG (aI v)))) (PF.args [.int .u64 v]) .nil:=by
 have U:IntKind.u32.wrap ((v:Nat):Int)=((v%4294967296:Nat):Int):=cA v;have p:v/4294967296<4294967296:=Om;have e3:IntKind.u32.wrap ((v/4294967296:Nat):Int)=((v/4294967296:Nat):Int):=by rw[cA,aYR p]
 have hL:Lim [v%4294967296,v/4294967296]:=by
  intro x R;simp only[aXP,List.mem_nil_iff,or_false] at R;rcases R with rfl | rfl
  ·exact aYW _ (by decide)
  ·exact p
 have i:val [v%4294967296,v/4294967296]=v:=by simp only[val,Nat.mul_zero,aZP]; exact Nat.mod_add_div v 4294967296
 have l:shift .shr .u64 (v:Int) 32=some (.int .u64 ((v/4294967296:Nat):Int)):=uT;have hb:(2:Nat)*1≤16777216:=by decide
 simp only[go_sem,GP,Hz,H7,du,U,l,e3,hb];have J:=L.trim [v%4294967296,v/4294967296] hL (by simp);rw[i] at J;refine aC J rfl ?_;simp only[go_sem];exact bB (.inr rfl) .nil rfl PH.nil_le ⟨.refl _,rfl⟩
theorem s7 {C:Ctx} (L:mR C) (xs:List Nat) (l:Lim xs) (i:xs.length≤35184372087808):AI.wp C (aW NJ.res (cG (.bool (decide (nl (val xs)>512))))) (PF.args [aG xs]) .nil:=by
 simp only[go_sem,AI,s8,s9,NJ];refine aC (L.trim xs l i) rfl ?_;simp only[go_sem,aXI,bH];refine aX rfl ?_;rw[decide_eq_decide];omega
theorem Tk {a b:Nat} (h:nl a<nl b):dW a b=-1:=by
 have:a<b:=by
  rcases aXZ a b with i | i
  ·exact i
  ·have:=hC i; omega
 simp[dW,this]
theorem Tj {a b:Nat} (h:nl b<nl a):dW a b=1:=by
 have:b<a:=by
  rcases aXZ b a with i | i
  ·exact i
  ·have:=hC i; omega
 have l:¬ a<b:=Om;simp[dW,this,l]
def Xl (X Y:List Nat) (i:Int):PF:=(((PF.nil.set 0 (aG X)).set 1 (aG Y)).set 5 (.int .i64 i))
theorem Rk {C:Ctx} (L:mR C) (xs ys:List Nat) (hx:Lim xs) (hy:Lim ys) (lx:xs.length≤35184372087808) (ly:ys.length≤35184372087808) :
  NE.wp C (aW Hg.res (aL (.int .i64 (dW (val xs) (val ys))))) (PF.args [aG xs,aG ys]) .nil:=by
 simp only[go_sem,NE,Rl,Rm,Hg];refine aC (L.trim xs hx lx) Ev ?_;simp only[go_sem];refine aC (L.trim ys hy ly) Ev ?_;have bx:=eY hx;have β:=eY hy;simp only[go_sem,Rn,aXI,bH];by_cases J:nl (val xs)≠nl (val ys)
 ·simp only[go_sem,eT (show ((nl (val xs):Nat):Int)≠(nl (val ys):Nat) by omega),Ro];by_cases c1:nl (val xs)<nl (val ys)
  ·simp only[go_sem,aXI,bH,show ((nl (val xs):Nat):Int)<(nl (val ys):Nat) by omega,Rp];refine bV (.inr rfl) Ev ?_;rw[Tk c1]; rfl
  ·simp only[go_sem,aXI,bH,show ¬ ((nl (val xs):Nat):Int)<(nl (val ys):Nat) by omega,Rq];refine bV (.inr rfl) Ev ?_;rw[Tj Om]; rfl
 replace J:=Decidable.of_not_not J;simp only[go_sem,cE (show ((nl (val xs):Nat):Int)=(nl (val ys):Nat) by omega),Rr,aXI,bH];have ex:=aY (val xs);have R:=aY (val ys);have LX:=bC (val xs);have LY:=bC (val ys);generalize hX:aI (val xs)=X at *
 generalize hY:aI (val ys)=Y at *
 have γ:X.length=nl (val xs):=by rw[← hX]; rfl
 have δ:Y.length=nl (val xs):=by rw[J,← hY]; rfl
 refine wp_loop (α:=Nat) (fun k=>Xl X Y ((k:Int)-1)) (fun _=>.nil) (fun k=>k≤nl (val xs)∧X.drop k=Y.drop k) (fun k=>k) (nl (val xs)) ⟨aXL _,?_⟩ ?_ PH.nil_le ?_
 ·rw[a0W Om,a0W Om]
 ·unfold Xl
  (repeat' (first|exact PF.nil_le|refine PF.aJ ?_ ?_))<;>first|(simp only[go_sem,wrap_i64 (show -9223372036854775808≤((nl (val xs):Nat):Int)-1 by omega) (show ((nl (val xs):Nat):Int)-1≤9223372036854775807 by omega)]<;>rfl)|rfl
 rintro k ⟨hk,i⟩;simp only[go_sem,Hh,Rs,Xl];by_cases h0:0<k
 ·obtain⟨m,rfl⟩:∃ m,k=m+1:=⟨k-1,by omega⟩;have hz:((m+1:Nat):Int)-1=(m:Int):=Om;have U:(m:Int)≥0:=Om;have l:m<X.length:=Om;have p:m<Y.length:=Om;simp only[go_sem,hz,U];refine cJ .nil eU PH.nil_le ?_;simp only[go_sem,Rt,bK X l,bK Y p];by_cases c3:X[m]<Y[m]
  ·simp only[go_sem,show ((X[m]:Nat):Int)<(Y[m]:Nat) by omega,Ru];refine bV (.inr rfl) Ev ?_;have:=WY LX l p i c3;rw[ex,R] at this;simp[dB,dW,this]
  ·simp only[go_sem,show ¬ ((X[m]:Nat):Int)<(Y[m]:Nat) by omega];refine cJ .nil eU PH.nil_le ?_;simp only[go_sem,Hi,bK X l,bK Y p];by_cases c4:X[m]>Y[m]
   ·simp only[go_sem,show ((X[m]:Nat):Int)>(Y[m]:Nat) by omega,Hj];refine bV (.inr rfl) Ev ?_;have:=WY LY p l i.symm c4;rw[ex,R] at this;have h2:¬ val xs<val ys:=Om;simp[dB,dW,this,h2]
   ·simp only[go_sem,show ¬ ((X[m]:Nat):Int)>(Y[m]:Nat) by omega,Hk];refine aM m ⟨by omega,mj l p i Om⟩ Om ?_ PH.nil_le
    (repeat' (first|exact PF.nil_le|refine PF.aJ ?_ ?_))<;>first|(simp only[go_sem,wrap_i64 (Om:-9223372036854775808≤(m:Int)-1) (Om:(m:Int)-1≤9223372036854775807)]<;>rfl)|rfl
 ·have:k=0:=Om;subst this;have hz:¬ ((0:Nat):Int)-1≥0:=by decide
  simp only[go_sem,hz,Hl];refine bV (.inr rfl) Ev ?_;rw[aYO,aYO] at i;have:val xs=val ys:=by rw[← ex,← R,i]
  simp[dB,dW,this]
theorem yF (n:Nat):(((n:Nat):Int)==0)=decide (n=0):=by
 by_cases h:n=0
 ·subst h; rfl
 ·rw[bF Om,decide_eq_false h]
structure VZ (C:Ctx):Prop extends mR C where
 make:∀ v:Nat,v<18446744073709551616→aH C 35 [.int .u64 v] .nil (aL (aG (aI v)))
 large:∀ xs,Lim xs→xs.length≤35184372087808→aH C 41 [aG xs] .nil (aL (.bool (decide (nl (val xs)>512))))
 cmp:∀ xs ys,Lim xs→Lim ys→xs.length≤35184372087808→ys.length≤35184372087808→aH C 32 [aG xs,aG ys] .nil (aL (.int .i64 (dW (val xs) (val ys))))
def Xo (a b:Nat):PF:=((PF.nil.set 6 (aG (aI a))).set 7 (aG (aI b)))
structure HW (C:Ctx):Prop extends VZ C where
 divide:∀ A B:Nat,B≠0→nl A≤512→nl B≤512→aH C 39 [aG (aI A),aG (aI B)] .nil (aL (nG A B))
def T2 (a b:Nat):PV:=if eN a b then .tup [aG [],.int .i64 2] else .tup [aG (aI (aXJ a b)),.int .i64 0]
theorem R4 {C:Ctx} (L:HW C) (a b:List Nat) (R:Lim a) (U:Lim b) (la:a.length≤35184372087808) (lb:b.length≤35184372087808) :
  NI.wp C (aW Hx.res (cG (T2 (val a) (val b)))) (PF.args [aG a,aG b]) .nil:=by
 unfold T2;simp only[go_sem,NI,R5,R6,Hx];refine aC (L.large a R la) rfl ?_;by_cases i:nl (val a)>512
 ·simp only[go_sem,i,jm];rw[if_pos (by simp[eN,i])];exact jB rfl
 simp only[go_sem,i];refine aC (L.large b U lb) rfl ?_;by_cases l:nl (val b)>512
 ·simp only[go_sem,l,jm];rw[if_pos (by simp[eN,l])];exact jB rfl
 rw[if_neg (by simp[eN,i,l])];simp only[go_sem,l,R7];refine aC (L.trim a R la) rfl ?_;simp only[go_sem];refine aC (L.trim b U lb) rfl ?_;simp only[go_sem];refine wp_loop (α:=Nat × Nat) (fun t=>Xo t.1 t.2) (fun _=>.nil) (fun t=>aXJ t.1 t.2=aXJ (val a) (val b)∧nl t.1≤512∧nl t.2≤512) (fun t=>t.2) (val a,val b) ⟨rfl,by simp only; omega,by simp only; omega⟩ ?_ PH.nil_le ?_
 ·unfold Xo;exact Lq
 rintro⟨x,y⟩ ⟨J,hx,hy⟩;simp only at J hx hy;simp only[go_sem,R3,R8,Xo,bH];by_cases p:y=0
 ·subst p;have:¬ ((nl 0:Nat):Int)>0:=by rw[vO]; decide
  simp only[go_sem,this,Sb];refine bB (vs:=[aG (aI x),.int .i64 0]) (.inr rfl) .nil rfl PH.nil_le ⟨?_,rfl⟩;rw[← J,Nat.gcd_zero_right];exact .refl _
 ·have h0:nl y≠0:=fun h=>p (jU.1 h);have:((nl y:Nat):Int)>0:=Om;simp only[go_sem,this,R9];refine aC (L.divide x y p Om Om) rfl ?_;simp only[go_sem,nG,Sa];have hlt:x%y<y:=aYW _ (aZU p);refine aM (y,x%y) ⟨?_,hy,?_⟩ hlt ?_ PH.nil_le
  ·simp only;rw[← J,Nat.gcd_comm y,← Nat.gcd_rec y x,Nat.gcd_comm]
  ·have:=hC (Nat.le_of_lt hlt);simp only; omega
  ·exact Lq
theorem Rv {C:Ctx} (L:HW C) (a b:List Nat) (U:Lim a) (J:Lim b) (la:a.length≤35184372087808) (R:b.length≤35184372087808) :
  NF.wp C (aW udiv.res (cG (lJ (val a) (val b)))) (PF.args [aG a,aG b]) .nil:=by
 unfold lJ;simp only[go_sem,NF,Rw,Rx,udiv];refine aC (L.large a U la) rfl ?_;by_cases l:nl (val a)>512
 ·simp only[go_sem,l,jl];rw[if_pos (by simp[eN,l])];exact qC rfl
 simp only[go_sem,l];refine aC (L.large b J R) rfl ?_;by_cases p:nl (val b)>512
 ·simp only[go_sem,p,jl];rw[if_pos (by simp[eN,p])];exact qC rfl
 rw[if_neg (by simp[eN,l,p])];simp only[go_sem,p,Ry];refine aC (L.trim b J R) rfl ?_;simp only[go_sem,aXI,bH,yF,jU];by_cases i:val b=0
 ·rw[if_pos i];simp only[go_sem,decide_eq_true i,Rz];exact qC rfl
 rw[if_neg i];simp only[go_sem,decide_eq_false i,R0];refine aC (L.trim a U la) rfl ?_;simp only[go_sem];refine aC (L.trim b J R) rfl ?_;simp only[go_sem];refine aC (L.divide (val a) (val b) i Om Om) rfl ?_;simp only[go_sem,nG,R2];exact bB (.inr rfl) .nil rfl PH.nil_le ⟨.refl _,rfl⟩
def rX (neg:Bool) (a b:Nat):FV:=(neg&&decide (a/aXJ a b≠0),a/aXJ a b,b/aXJ a b)
structure WA (C:Ctx):Prop extends HW C where
 gcd:∀ a b,Lim a→Lim b→a.length≤35184372087808→b.length≤35184372087808→aH C 34 [aG a,aG b] .nil (aL (T2 (val a) (val b)))
 div:∀ a b,Lim a→Lim b→a.length≤35184372087808→b.length≤35184372087808→aH C 33 [aG a,aG b] .nil (aL (lJ (val a) (val b)))
theorem rD {n:Nat} (h:nl n≤512):(aI n).length≤35184372087808:=by rw[bH]; omega
theorem oc:aI 1=[1]:=mL (by decide) (by decide)
theorem ZB {n:Nat} (h:n≠0):aI n=n%4294967296::aI (n/4294967296):=qB h
theorem wH {n:Nat} (h:n≠0):(nl n>1∨n%4294967296>1)↔n≠1:=by
 constructor
 ·rintro i rfl;rcases i with i | i
  ·rw[nl,oc] at i; simp at i
  ·omega
 ·intro i;by_cases c:nl n>1
  ·exact .inl c
  ·have:n<4294967296 ^ 1:=(gQ n 1).1 Om;rw[Nat.pow_one] at this;rw[aYR this];exact .inr Om
theorem fc {C:Ctx} (L:WA C) (neg:Bool) (a b:List Nat) (ha:Lim a) (hb:Lim b) (la:a.length≤35184372087808) (lb:b.length≤35184372087808) (na:nl (val a)≤512) (R:nl (val b)≤512) (h0:val b≠0) :
  wY.wp C (aW BN.res (cG (.agg (rX neg (val a) (val b)).rf.cells))) (PF.args [.bool neg,aG a,aG b]) .nil:=by
 have i:aXJ (val a) (val b)≠0:=fun h=>h0 (Nat.eq_zero_of_gcd_eq_zero_right h);have α:aXJ (val a) (val b)≤val b:=Nat.gcd_le_right _ (aZU h0);have ng:nl (aXJ (val a) (val b))≤512:=aZD (hC α) R;have β:eN (val a) (val b)=false:=jQ na R;simp only[go_sem,wY,fe,ff,BN];refine aT fun o ho=>?_;simp only[go_sem];refine aC (L.trim a ha la) rfl ?_;simp only[go_sem];refine aC (L.trim b hb lb) rfl ?_;simp only[go_sem,fg,aXI,bH,yF,jU];by_cases U:val a=0
 ·simp only[go_sem,decide_eq_true U,fh];have e:(rX neg (val a) (val b)).rf=⟨false,[],[1]⟩:=by rw[U];unfold rX FV.rf;simp[fJ,Nat.div_self (aZU h0),oc]
  rw[e];refine bB (vs:=[.agg [.bool false,.aB,aG [1]]]) (.inr rfl) .nil ?_ PH.nil_le ⟨show Co (.agg _) (.agg _) from CoL.agg (CoL.cons (.refl _) (CoL.cons (.nil 1) (CoL.cons (.refl _) .nil))),rfl⟩;simp only[go_sem];rfl
 have l:=L.gcd (aI (val a)) (aI (val b)) (bC _) (bC _) (rD na) (rD R);rw[aY,aY,T2,β] at l;simp only[go_sem,decide_eq_false U,fi];refine aC l rfl ?_;have fin:∀ x y:Nat,x=val a/aXJ (val a) (val b)→y=val b/aXJ (val a) (val b)→∀ (F:PF) (H:PH),F 0=some (.bool neg)→F 1=some (aG (aI x))→F 2=some (aG (aI y))→F 6=some (.ptr o 3 0 0)→H o=some (.rows 3 [[.bool false,.aB,.aB]]) →
   aA.wp C (.seq (.region uX) .ret) (aW [.cell 6 (some 3)] (cG (.agg (rX neg (val a) (val b)).rf.cells))) F H:=by
  intro x y hx hy F H f0 f1 f2 f6 hH;subst hx; subst hy;simp only[go_sem,uX,f0,f1,f2,f6,hH];have hq:val a/aXJ (val a) (val b)≠0:=by have:=Nat.div_pos (Nat.gcd_le_left (val b) (aZU U)) (aZU i);omega
  have e:(rX neg (val a) (val b)).rf=⟨neg,aI (val a/aXJ (val a) (val b)),aI (val b/aXJ (val a) (val b))⟩:=by unfold rX FV.rf;simp only[hq,ne_eq,not_false_eq_true,decide_true,a0B]
  rw[e];refine bB (vs:=[.agg (fH neg (aI (val a/aXJ (val a) (val b))) (aI (val b/aXJ (val a) (val b))))]) (.inr rfl) .nil ?_ PH.nil_le ⟨.refl _,rfl⟩;simp only[go_sem,f6]
 simp only[aA.wp,go_sem] at fin;have hd:=fun x (hx:nl x≤512)=>L.div (aI x) (aI (aXJ (val a) (val b))) (bC _) (bC _) (rD hx) (rD ng);simp only[aY,lJ] at hd;have tail:aXJ (val a) (val b)≠1→∀ (F:PF) (H:PH),F 0=some (.bool neg)→F 1=some (aG (aI (val a)))→F 2=some (aG (aI (val b)))→F 6=some (.ptr o 3 0 0)→F 7=some (aG (aI (aXJ (val a) (val b))))→H o=some (.rows 3 [[.bool false,.aB,.aB]]) →
   aA.wp C (.seq (.seq (.region HC) (.region HD)) (.seq (.region uX) .ret)) (aW [.cell 6 (some 3)] (cG (.agg (rX neg (val a) (val b)).rf.cells))) F H:=by
  intro _ F H f0 f1 f2 f6 f7 hH;have d1:=hd (val a) na;have d2:=hd (val b) R;rw[jQ na ng,if_neg i] at d1;rw[jQ R ng,if_neg i] at d2;simp only[go_sem,HC,f1,f7];refine aC d1 rfl ?_;simp only[go_sem,a0N,HD,f2,f7];refine aC d2 rfl ?_;simp only[go_sem,a0N];exact fin _ _ rfl rfl _ _ (by simp only[go_sem,f0]) rfl rfl (by simp only[go_sem,f6]) hH
 simp only[aA.wp,go_sem] at tail;simp only[go_sem,a0N,fj,aXI,bH];by_cases c2:nl (aXJ (val a) (val b))>1
 ·have p:((nl (aXJ (val a) (val b)):Nat):Int)>1:=Om;simp only[go_sem,p];exact tail ((wH i).1 (.inl c2)) _ _ rfl rfl rfl rfl rfl Sq
 ·have p:¬ ((nl (aXJ (val a) (val b)):Nat):Int)>1:=Om;simp only[go_sem,p,ZB i];by_cases c3:aXJ (val a) (val b)%4294967296>1
  ·have J:((aXJ (val a) (val b)%4294967296:Nat):Int)>1:=Om;simp only[go_sem,J];exact tail ((wH i).1 (.inr c3)) _ _ rfl rfl rfl rfl (by simp only[go_sem,ZB i]) Sq
  ·have J:¬ ((aXJ (val a) (val b)%4294967296:Nat):Int)>1:=Om;have h1:aXJ (val a) (val b)=1:=by
    rcases Decidable.em (aXJ (val a) (val b)=1) with h | h
    ·exact h
    ·rcases (wH i).2 h with h | h
     ·exact absurd h c2
     ·exact absurd h c3
   simp only[go_sem,J];exact fin (val a) (val b) (by rw[h1,Nat.div_one]) (by rw[h1,Nat.div_one]) _ _ rfl rfl rfl rfl Sq
theorem Iw {C:Ctx} (v:Int) (J:-9223372036854775808≤v) (R:v≤9223372036854775807) :
  HF.wp C (aW fk.res (aL (.int .u64 (v.natAbs:Nat)))) (PF.args [.int .i64 v]) .nil:=by
 simp only[go_sem,HF,Ix,Iy,fk];by_cases c:v<0
 ·have i:IntKind.i64.wrap (v+1)=v+1:=wrap_i64 Om Om;have l:IntKind.i64.wrap (0-(v+1))=-(v+1):=by rw[wrap_i64 Om Om]; omega
  have p:IntKind.u64.wrap (IntKind.u64.wrap (-(v+1))+1)=(v.natAbs:Int):=by rw[fE,fE]; omega
  simp only[go_sem,c,Iz,i,l,p];refine bV (.inr rfl) rfl ?_;rfl
 ·have e:IntKind.u64.wrap v=(v.natAbs:Int):=by rw[fE]; omega
  simp only[go_sem,c,I0,e];refine bV (.inr rfl) rfl ?_;rfl
structure u7 (C:Ctx):Prop extends WA C where
 lowest:∀ neg a b,Lim a→Lim b→a.length≤35184372087808→b.length≤35184372087808→nl (val a)≤512→nl (val b)≤512→val b≠0→aH C 58 [.bool neg,aG a,aG b] .nil (aL (.agg (rX neg (val a) (val b)).rf.cells))
 size:∀ v:Int,dC v→aH C 59 [.int .i64 v] .nil (aL (.int .u64 (v.natAbs:Nat)))
def mkT (n d:Int):RF:=(rX (decide (n<0) != decide (d<0)) n.natAbs d.natAbs).rf
def tK (n d:Int):PV:=if d=0 then xL 3 else .tup [.agg (mkT n d).cells,.int .i64 0]
theorem Iq {C:Ctx} (L:u7 C) (n d:Int) (i:dC n) (l:dC d) :
  HE.wp C (aW PJ.res (cG (tK n d))) (PF.args [.int .i64 n,.int .i64 d]) .nil:=by
 simp only[go_sem,HE,Ir,Is];refine aT fun o p=>?_;unfold tK;by_cases c:d=0
 ·subst c;simp only[go_sem,It];refine mD ?_;simp only[go_sem,PJ]
 ·rw[if_neg c];simp only[go_sem,bF c,Iu];refine aC (L.size n i) rfl ?_;simp only[go_sem];refine aC (L.make n.natAbs Om) rfl ?_;simp only[go_sem];refine aC (L.size d l) rfl ?_;simp only[go_sem];refine aC (L.make d.natAbs Om) rfl ?_;simp only[go_sem];have J:nl n.natAbs≤2:=nI Om;have R:nl d.natAbs≤2:=nI Om;have low:=L.lowest (decide (n<0) != decide (d<0)) (aI n.natAbs) (aI d.natAbs) (bC _) (bC _) (by rw[bH]; omega) (by rw[bH]; omega);rw[aY,aY] at low;have low:=low Om Om Om;refine aC low rfl ?_;simp only[go_sem];exact bB (.inr rfl) .nil (vs:=[.agg (mkT n d).cells,.int .i64 0]) (by simp only[go_sem,PJ]; rfl) PH.nil_le ⟨.refl _,rfl⟩
structure HX (C:Ctx):Prop extends u7 C where
 fmk:∀ n d:Int,dC n→dC d→aH C 50 [.int .i64 n,.int .i64 d] .nil (aL (tK n d))
theorem Sh {C:Ctx} (L:HX C) (n:Int) (R:dC n) :
  NV.wp C (aW Ip.res (cG (.agg (mkT n 1).cells))) (PF.args [.int .i64 n]) .nil:=by
 simp only[go_sem,NV,Si,Sj,Ip];refine aT fun o U=>?_;simp only[go_sem];refine aC (L.fmk n 1 R (by unfold dC; omega)) rfl ?_;unfold tK;rw[if_neg (by decide)];simp only[go_sem];refine aT fun p J=>?_;have i:o≠p:=by rintro rfl;simp only[aQ,if_true] at J;cases J
 have l:p≠o:=fun h=>i h.symm;simp only[go_sem,i,Sk];refine bB (vs:=[.agg (mkT n 1).cells]) (.inr rfl) .nil ?_ PH.nil_le ⟨.refl _,rfl⟩;simp only[go_sem,l]
def aD (l:List Nat) (n a:Nat):Nat × Nat:=if l.length≤a∨n<2 then (0,a) else (l.getD a 0%n,a+1)
theorem bZ (l:List Nat) {n:Nat} (h:0<n) (a:Nat):(aD l n a).1<n:=by
 unfold aD;split
 ·exact h
 ·exact aYW _ h
theorem bJ (l:List Nat) (n:Nat) {a:Nat} (h:a≤l.length):(aD l n a).2≤l.length:=by
 unfold aD;split
 ·exact h
 ·simp only; omega
def eQ (l:List Nat) (a:Nat):RF × Nat :=
 let x:=aD l 6 a
 let y:=aD l 8 x.2
 (mkT ((1+x.1:Nat):Int) ((1+y.1:Nat):Int),y.2)
abbrev iH:RF:=mkT 0 1
def gJ (l:List Nat) (i j a:Nat):RF × Nat :=
 if j=i+1 then eQ l a
 else if j=i then (iH,a)
 else let t:=aD l 3 a
  if t.1=0 then eQ l t.2 else (iH,t.2)
def dA (l:List Nat) (i a:Nat):Nat→List RF × Nat
 | 0=>([],a)
 | j+1=>let s:=dA l i a j
  let z:=gJ l i j s.2
  (s.1++[z.1],z.2)
structure yK where
 start:List RF
 exit:List RF
 aWE:List (List RF)
 left:Nat
 a:Nat
def cZ (l:List Nat) (n i:Nat) (s:yK):Nat × Nat:=if i+1<n then aD l (s.left+1) s.a else (s.left,s.a)
def eF (l:List Nat) (n i a:Nat):RF × Nat :=
 let e:=eQ l a
 if i+1<n then (let t:=aD l 3 e.2; (if t.1=0 then iH else e.1,t.2)) else e
def fD (l:List Nat) (n a:Nat):Nat→yK
 | 0=>⟨[],[],[],8,a⟩
 | i+1=>let s:=fD l n a i
  let k:=cZ l n i s
  let e:=eF l n i k.2
  let r:=dA l i e.2 n
  ⟨s.start++[mkT (k.1:Nat) 8],s.exit++[e.1],s.aWE++[r.1],s.left-k.1,r.2⟩
def oS (l:List Nat) (dR a:Nat):cM × Nat :=
 let t:=aD l dR a
 let s:=fD l (1+t.1) t.2 (1+t.1)
 (⟨[],s.start,s.aWE,s.exit⟩,s.a)
def jC (l:List Nat) (a:Nat):Nat→List RF × Nat
 | 0=>([],a)
 | k+1=>let s:=jC l a k
  let z:=eQ l s.2
  (s.1++[z.1],z.2)
abbrev bQ (n:Nat):List UInt8:=Lib.decDigits n
def fP (l:List Nat) (a:Nat):Nat→List cM × Nat
 | 0=>([],a)
 | k+1=>let s:=fP l a k
  let z:=oS l 2 s.2
  (s.1++[{ z.1 with name:=[108,97,119]++bQ k }],z.2)
def dX (l:List Nat) (aWG a:Nat):Nat→List dK × Nat
 | 0=>([],a)
 | k+1=>let s:=dX l aWG a k
  let x:=aD l 4 s.2
  let y:=aD l 8 x.2
  let z:=aD l aWG y.2
  (s.1++[⟨[109]++bQ k,(1+x.1:Nat),(1+y.1:Nat),(z.1:Nat)⟩],z.2)
structure GS where
 aWI:List cI
 aWR:List cS
 a:Nat
def gP (l:List Nat) (mc aVZ domain:Nat) (s:GS):Nat→GS
 | 0=>s
 | i+1=>let s:=gP l mc aVZ domain s i
  if s.aWR.length<aVZ then
   let t:=aD l mc s.a
   { s with aWR:=s.aWR++[⟨[100]++bQ s.aWR.length,(t.1:Nat),(domain:Nat)⟩],a:=t.2 }
  else s
def jZ (level:Nat):UInt8:=match level with
 | 0=>45
 | 1=>115
 | 2=>114
 | 3=>107
 | _=>109
def jR (l:List Nat) (level domain:Nat) (s:GS):GS :=
 let u:=aD l 16 s.a
 let t:=aD l 3 u.2
 let k:=aD l 6 t.2
 let sh:RF × Nat:=if t.1=0 then (mkT 1 ((2+k.1:Nat):Int),k.2) else (iH,t.2)
 { s with aWI:=s.aWI++[⟨[jZ level]++bQ s.aWI.length,(level:Nat),(domain:Nat),(1+u.1:Nat),sh.1⟩],a:=sh.2 }
def oF (aVZ:Nat) (s:GS):Bool:=decide (aVZ≤s.aWR.length)||decide (35≤s.aWI.length)
def eR (l:List Nat) (level aVZ domain:Nat) (rec:Nat→GS→GS) (s:GS):Nat→GS
 | 0=>s
 | i+1=>let s:=eR l level aVZ domain rec s i
  if oF aVZ s then s else (let s':=jR l level domain s; rec (s'.aWI.length-1) s')
def dV (l:List Nat) (mc aVZ:Nat):Nat→Nat→GS→GS
 | 0,domain,s=>let t:=aD l 2 s.a
  gP l mc aVZ domain { s with a:=t.2 } (1+t.1)
 | k+1,domain,s=>let t:=aD l 2 s.a
  eR l (4-k) aVZ domain (dV l mc aVZ k) { s with a:=t.2 } (if 4-k=2 then 1 else 1+t.1)
def jE:cI:=⟨[],0,-1,0,iH⟩
def fQ (l:List Nat) (a:Nat):Int × Nat :=
 let t:=aD l 3 a
 let k:=aD l 3 t.2
 if t.1=0 then ((1+k.1:Nat),k.2) else (0,t.2)
def kR (l:List Nat) (aWA i a:Nat):cB × Nat :=
 let k:=aD l 2 a
 let m:=aD l 3 k.2
 let h:=aD l 4 m.2
 let q:=aD l (m.1+1) h.2
 let r:=jC l q.2 (max m.1 1)
 let g:=aD l 9 r.2
 let s1:=fQ l g.2
 let s2:=fQ l s1.2
 let s3:=fQ l s2.2
 let s4:=fQ l s3.2
 let f:=aD l aWA s4.2
 let b:=aD l 2 f.2
 let ms:List Int × Nat:=if 1<aWA then (if b.1=0 then ([(f.1:Int),1-(f.1:Int)],b.2) else ([(f.1:Int)],b.2)) else ([(f.1:Int)],f.2)
 (⟨[112]++bQ i,(1+k.1:Nat),(m.1:Nat),(1+k.1+q.1:Nat),0,s1.1,s2.1,s3.1,s4.1,ms.1,r.1,mkT (g.1:Nat) 8,mkT ((1+h.1:Nat):Int) 1⟩,ms.2)
def cU (l:List Nat) (aWA a:Nat):Nat→List cB × Nat
 | 0=>([],a)
 | k+1=>let s:=cU l aWA a k
  let z:=kR l aWA k s.2
  (s.1++[z.1],z.2)
def dZ (l:List Nat) (pols a:Nat):Nat→List gR × Nat
 | 0=>([],a)
 | k+1=>let s:=dZ l pols a k
  let z:=aD l pols s.2
  (s.1++[⟨[118]++bQ k,(z.1:Nat)⟩],z.2)
def fC (l:List Nat) (aVZ aWB a:Nat):aK × Nat :=
 let e:=aD l 2 a
 let p:=aD l 2 e.2
 let aWG:=fP l p.2 (1+p.1)
 let i:=aD l 2 aWG.2
 let aWA:=dX l (1+p.1) i.2 (1+i.1)
 let g:=dV l (1+i.1) aVZ 4 0 ⟨[jE],[],aWA.2⟩
 let pl:=aD l 2 g.a
 let pols:=cU l (1+i.1) pl.2 (1+pl.1)
 let J:=aD l (aWB+1) pols.2
 let vols:=dZ l (1+pl.1) J.2 J.1
 (⟨(1+e.1:Nat),aWG.1,aWA.1,g.aWI,g.aWR,pols.1,vols.1⟩,vols.2)
abbrev jG (l:List Nat):List (List PV):=l.map fun (n:Nat)=>[PV.int .u8 (n:Int)]
theorem NQ (l:List Nat):(jG l).length=l.length:=by simp
theorem awO (l:List Nat) {i:Nat} (h:i<l.length):(jG l)[i]?=some [.int .u8 (l[i]:Nat)]:=by simp[h]
abbrev bG (v:PV) (a:Nat):bX:=.rows 2 [[v,.int .i64 a]]
structure Tp (l:List Nat) (v:PV):Prop where
 seen:Seen 1 v (jG l)
 byte:∀ x∈l,x<256
 len:l.length≤400
def Sw (l:List Nat) (r:PV) (H:PH):Prop:=∃ o v,r=.ptr o 2 0 0∧Tp (l.take 400) v∧H=PH.nil.set o (bG v 0)
theorem uq {t q s:Nat} {rs:List (List PV)} {F:PF} {H H2:PH} {R:PV→PH→Prop} {v:PV} {e:kL} (U:e=.normal∨e=.ret) (ht:F t=some v) (hq:H q=some (.rows s rs)) (p:H2.le (H.frz q s rs)) (J:R (PV.frz q s rs v) H2):aW [.tmp t] R e F H:=by
 have key:∃ vs,dN.evs F H [.tmp t]=some vs∧∃ i l H2,gT (PF.nil.set 0 (dB vs)) H i l∧H2.le l∧∃ u,i 0=some u∧R u H2:=by refine⟨[v],by rw[jI,lP,ht,mN],_,_,H2,.step q hq (.refl _ _),p,PV.frz q s rs v,?_,J⟩;rw[pC,jM,if_pos rfl,aYX];rfl
 rcases U with rfl | rfl<;>exact key
theorem Pd {C:Ctx} (l:List Nat) (hb:∀ x∈l,x<256) (hl:l.length≤9223372036854775807):KX.wp C (aW Dz.res (Sw l)) (PF.args [.sl 1 (jG l)]) .nil:=by
 simp only[go_sem,KX,Pe,Pf,Dz,aXI];have fin:∀ F:PF,F 0=some (.sl 1 (jG (l.take 400)))→aA.wp C (.seq (.region im) .ret) (aW [.tmp 2] (Sw l)) F .nil:=by
  intro F f0;have α:(l.take 400).length≤400:=by rw[aYA]; omega
  have U:∀ x∈l.take 400,x<256:=fun x hx=>hb x (List.mem_of_mem_take hx);have hR:∀ o v,Seen 1 v (jG (l.take 400))→Sw l (.ptr o 2 0 0) (PH.nil.set o (bG v 0)):=fun o v hv=>⟨o,v,rfl,⟨hv,U,α⟩,rfl⟩;generalize hL:l.take 400=L at *
  simp only[go_sem,im,f0];refine rO (src:=jG L) rfl ?_ (fun h=>?_) fun h o ho=>?_
  ·unfold roomFor;rw[NQ];simp only[maxLen]; omega
  ·simp only[go_sem,aXP,aXX,or_false,forall_eq];refine aT fun o ho=>?_;simp only[go_sem];exact bB (vs:=[.ptr o 2 0 0]) (.inr rfl) (PH.nil.set o (bG .aB 0)) rfl PH.le_refl (hR o .aB (.inl ⟨h,rfl⟩))
  ·simp only[go_sem,aXP,aXX,or_false,forall_eq];refine aT fun p hp=>?_;have i:¬ p=o:=(gD.1 hp).1;have J:¬ o=p:=fun h=>i h.symm;simp only[go_sem];refine uq (v:=.ptr p 2 0 0) (q:=o) (s:=1) (rs:=jG L) (H2:=PH.nil.set p (bG (.sl 1 (jG L)) 0)) (.inr rfl) rfl (by simp only[go_sem,J]) (PH.aJ PH.nil_le ?_) (hR p _ (.inr rfl));have h2:(jG L).take L.length=jG L:=aXY (by rw[NQ]; exact aXL _);simp only[go_sem,i,bX.frz,PV.cN,aXI,h2];rfl
 simp only[aA.wp,go_sem] at fin;by_cases c:l.length>400
 ·have R:(l.length:Int)>400:=Om;have c2:(400:Int)≤(l.length:Int):=Om;simp only[go_sem,R,Pg,aXI,c2];refine fin _ ?_;rw[jM,if_pos rfl];simp[jG]
 ·have R:¬ (l.length:Int)>400:=Om;simp only[go_sem,R];refine fin _ ?_;rw[aXY Om];simp only[go_sem]
def VY (l:List Nat) (v:PV) (o n a:Nat) (r:PV) (H:PH):Prop:=r=.int .i64 ((aD l n a).1:Nat)∧H=PH.nil.set o (bG v (aD l n a).2)
theorem D0 {C:Ctx} {l:List Nat} {v:PV} (T:Tp l v) (o n a:Nat) (hn:n≤1000000) (ha:a≤l.length):uN.wp C (aW OW.res (VY l v o n a)) (PF.args [.ptr o 2 0 0,.int .i64 n]) (PH.nil.set o (bG v a)):=by
 obtain⟨hv,hb,hl⟩:=T;have zero:(l.length≤a∨n<2)→∀ F,aA.wp C (.seq (.region UB) .ret) (aW [.tmp 4] (VY l v o n a)) F (PH.nil.set o (bG v a)):=by
  intro h F;have e:aD l n a=(0,a):=by unfold aD; rw[if_pos h]
  simp only[go_sem,UB];exact bB (vs:=[.int .i64 0]) (.inr rfl) _ rfl PH.le_refl ⟨by rw[e]; rfl,by rw[e]⟩
 simp only[aA.wp,go_sem] at zero;rcases hv with ⟨h1,rfl⟩ | rfl
 ·have h0:l.length=0:=by rw[← NQ,h1]; rfl
  have R:(a:Int)≥0:=Om;simp only[go_sem,uN,UA,OW];refine cJ .nil eU PH.nil_le ?_;simp only[go_sem,EV,R];exact zero (.inl Om) _
 simp only[go_sem,uN,UA,OW];refine cJ .nil eU PH.nil_le ?_;by_cases c1:l.length≤a
 ·have i:(a:Int)≥(l.length:Nat):=Om;simp only[go_sem,EV,aXI,i];exact zero (.inl c1) _
 have i:¬ (a:Int)≥(l.length:Nat):=Om;simp only[go_sem,EV,aXI,i];by_cases c2:n<2
 ·have p:(n:Int)<2:=Om;simp only[go_sem,p];exact zero (.inr c2) _
 have p:¬ (n:Int)<2:=Om;have J:a<l.length:=Om;have e:aD l n a=(l[a]%n,a+1):=by unfold aD;rw[if_neg Om];simp[aYK,J]
 have ew:IntKind.i64.wrap ((a:Int)+1)=((a+1:Nat):Int):=cP Om;have ep:IntKind.i64.wrap (((a+1:Nat):Int)-1)=((a:Nat):Int):=by rw[wrap_i64 Om Om]; omega
 have hr:=awO l J;have hx:=hb _ (aXM J);have eb:IntKind.i64.wrap ((l[a]:Nat):Int)=((l[a]:Nat):Int):=VO Om;have U:¬ ((n:Nat):Int)=0:=Om;have em:Int.tmod ((l[a]:Nat):Int) ((n:Nat):Int)=((l[a]%n:Nat):Int):=rfl;simp only[go_sem,p,D1,ew];refine cJ .nil eU PH.nil_le ?_;simp only[go_sem,D2,ep,hr,eb,U,em];exact bB (vs:=[.int .i64 (l[a]%n:Nat)]) (.inr rfl) _ rfl PH.le_refl ⟨by rw[e]; rfl,by rw[e]⟩
def PV.oid:PV→Option Nat
 | .osl q _ _ _=>some q
 | _=>none
abbrev LI:=PV × Nat × List (List PV)
abbrev BX:=Nat × bX
def eC (B:List BX):List Nat:=B.map (·.1)
def dU (L:List LI):List Nat:=L.filterMap fun x=>x.1.oid
structure aP (H:PH) (B:List BX) (L:List LI):Prop where
 box:∀ b∈B,H b.1=some b.2
 lst:∀ x∈L,bO H x.2.1 x.1 x.2.2
 nd:(eC B++dU L).Nodup
section
variable {C:Ctx} {H:PH} {B:List BX} {L:List LI} {K:PV→PH→Prop}
theorem bO.id {s q:Nat} {v:PV} {rows:List (List PV)} (h:bO H s v rows) (i:v.oid=some q):∃ rs,H q=some (.rows s rs)∧v=.osl q s 0 rows.length∧rows.length≤rs.length∧rs.take rows.length=rows:=by
 rcases h with ⟨_,rfl⟩ | ⟨p,rs,rfl,h1,h2,h3⟩
 ·cases i
 ·cases i;exact⟨rs,h1,rfl,h2,h3⟩
theorem bO.same {s:Nat} {v:PV} {rows:List (List PV)} {H':PH} (h:bO H s v rows) (i:∀ q,v.oid=some q→H' q=H q):bO H' s v rows:=by
 rcases h with h | ⟨p,rs,rfl,h1,h2,h3⟩
 ·exact .inl h
 ·exact .inr ⟨p,rs,rfl,by rw[i p rfl]; exact h1,h2,h3⟩
theorem kI {x:LI} {q:Nat} (h:x∈L) (i:x.1.oid=some q):q∈dU L:=List.mem_filterMap.2 ⟨x,h,i⟩
theorem rY {b:BX} (h:b∈B):b.1∈eC B:=aYH.2 ⟨b,h,rfl⟩
theorem aP.nil:aP H [] []:=⟨by simp,by simp,by simp[eC,dU]⟩
theorem aP.at (h:aP H B L) (i:Nat) {o:Nat} {x:bX} (hi:B[i]?=some (o,x)):H o=some x:=h.box _ (a0D hi)
theorem aP.own (h:aP H B L) (i:Nat) {s:Nat} {v:PV} {rows:List (List PV)} (hi:L[i]?=some (v,s,rows)):bO H s v rows:=h.lst _ (a0D hi)
theorem aP.ndB (h:aP H B L):(eC B).Nodup:=(aZZ.1 h.nd).1
theorem aP.ndL (h:aP H B L):(dU L).Nodup:=(aZZ.1 h.nd).2.1
theorem aP.ndX (h:aP H B L) {o q:Nat} (i:o∈eC B) (l:q∈dU L):o≠q:=(aZZ.1 h.nd).2.2 o i q l
theorem aP.ne (h:aP H B L) (i j:Nat) {o p:Nat} {x y:bX} (hi:B[i]?=some (o,x)) (hj:B[j]?=some (p,y)) (l:i≠j):o≠p:=by
 intro e;have h1:(eC B)[i]?=some o:=by unfold eC; rw[aYG,hi]; rfl
 have h2:(eC B)[j]?=some p:=by unfold eC; rw[aYG,hj]; rfl
 obtain⟨li,J⟩:=aYP.1 h1;obtain⟨lj,R⟩:=aYP.1 h2;have U:=List.pairwise_iff_getElem.1 h.ndB;rcases Nat.lt_or_gt_of_ne l with g | g
 ·exact U i j li lj g (by rw[J,R,e])
 ·exact U j i lj li g (by rw[J,R,e])
theorem aP.neL (h:aP H B L) (i j:Nat) {o q:Nat} {x:bX} {y:LI} (hi:B[i]?=some (o,x)) (l:L[j]?=some y) (p:y.1.oid=some q):o≠q :=
 h.ndX (rY (a0D hi)) (kI (a0D l) p)
theorem aP.fresh (h:aP H B L) {o:Nat} (i:H o=none):o ∉ eC B∧o ∉ dU L:=by
 refine⟨fun l=>?_,fun l=>?_⟩
 ·obtain⟨b,J,rfl⟩:=aYH.1 l;rw[h.box b J] at i; cases i
 ·obtain⟨x,R,e⟩:=List.mem_filterMap.1 l;obtain⟨rs,p,_⟩:=(h.lst x R).id e;rw[p] at i; cases i
theorem aP.keep (h:aP H B L) {H':PH} (l:∀ q,q∈eC B∨q∈dU L→H' q=H q):aP H' B L :=
 ⟨fun b i=>by rw[l _ (.inl (rY i))]; exact h.box b i,fun x p=>(h.lst x p).same fun q J=>l q (.inr (kI p J)),h.nd⟩
theorem arG {i:Nat} {o:Nat} {x y:bX} (hi:B[i]?=some (o,x)):eC (B.set i (o,y))=eC B:=by
 unfold eC;rw[List.map_set];refine List.ext_getElem? fun j=>?_;rw[List.getElem?_set];split
 ·rename_i e;subst e;rw[aYG,hi];have:=(aYP.1 hi).1;simp[this]
 ·rfl
theorem aP.set (h:aP H B L) (i:Nat) {o:Nat} {x:bX} (hi:B[i]?=some (o,x)) (y:bX):aP (H.set o y) (B.set i (o,y)) L:=by
 have J:o∈eC B:=rY (a0D hi);refine⟨fun b U=>?_,fun z R=>(h.lst z R).same fun q hq=>?_,by rw[arG hi]; exact h.nd⟩
 ·obtain⟨j,l⟩:=List.mem_iff_getElem?.1 U;rw[List.getElem?_set] at l;split at l
  ·split at l
   ·cases l; simp only[aQ,if_true]
   ·cases l
  ·rename_i p;have:b.1≠o:=fun e=>h.ne i j hi (show B[j]?=some (b.1,b.2) from l) p e.symm;rw[aQ,if_neg this];exact h.box b (a0D l)
 ·have:q≠o:=fun e=>h.ndX J (kI R hq) e.symm;rw[aQ,if_neg this]
theorem aP.new (h:aP H B L) {o:Nat} (U:H o=none) (y:bX):aP (H.set o y) (B++[(o,y)]) L:=by
 obtain⟨f1,f2⟩:=h.fresh U;refine⟨fun b l=>?_,fun z R=>(h.lst z R).same fun q i=>?_,?_⟩
 ·rw[aZC,aZW] at l;rcases l with l | rfl
  ·have:b.1≠o:=fun e=>f1 (e ▸ rY l);rw[aQ,if_neg this]; exact h.box b l
  ·simp only[aQ,if_true]
 ·have:q≠o:=fun e=>f2 (e ▸ kI R i);rw[aQ,if_neg this]
 ·have:=h.nd;simp only[eC,aYN,aYU,aZN] at *
  rw[aYQ,aZZ] at *
  obtain⟨a,b,c⟩:=this;refine⟨a,?_,fun p J q i=>?_⟩
  ·rw[List.singleton_append,List.nodup_cons]; exact⟨f2,b⟩
  ·rw[List.singleton_append,aXP] at i;rcases i with rfl | i
   ·intro e; subst e; exact f1 J
   ·exact c p J q i
theorem jX (L1 L2:List LI):dU (L1++L2)=dU L1++dU L2:=List.filterMap_append ..
theorem aP.rZ (h:aP H B L) (s:Nat):aP H B (L++[(.aB,s,[])]):=by
 refine⟨h.box,fun z i=>?_,?_⟩
 ·rw[aZC,aZW] at i;rcases i with i | rfl
  ·exact h.lst z i
  ·exact .nil
 ·rw[jX,show dU [((.aB:PV),s,([]:List (List PV)))]=[] from rfl,aZK]; exact h.nd
theorem aP.asE (h:aP H B L) {o s:Nat} {rows:List (List PV)} (U:H o=none):aP (H.set o (.rows s rows)) B (L++[(.osl o s 0 rows.length,s,rows)]):=by
 obtain⟨f1,f2⟩:=h.fresh U;have R:=h.keep (H':=H.set o (.rows s rows)) fun q l=>by
  have:q≠o:=by rintro rfl; exact l.elim f1 f2
  rw[aQ,if_neg this]
 refine⟨R.box,fun z J=>?_,?_⟩
 ·rw[aZC,aZW] at J;rcases J with J | rfl
  ·exact R.lst z J
  ·exact .inr ⟨o,rows,rfl,by simp only[aQ,if_true],aXL _,aYS⟩
 ·rw[jX,show dU [((.osl o s 0 rows.length:PV),s,rows)]=[o] from rfl,← aYQ,aZZ];refine⟨h.nd,by simp,fun p i q l=>?_⟩;rw[aZW] at l;subst l;rintro rfl;rcases aZC.1 i with i | i
  ·exact f1 i
  ·exact f2 i
theorem Cl {i:Nat} {v v':PV} {s s':Nat} {rows rows':List (List PV)} (hi:L[i]?=some (v,s,rows)):∃ L1 L2,L=L1++(v,s,rows)::L2∧L.set i (v',s',rows')=L1++(v',s',rows')::L2:=by
 obtain⟨l,p⟩:=aYP.1 hi;refine⟨L.take i,L.drop (i+1),?_,?_⟩
 ·rw[← p,← aZG l,a0E]
 ·rw[List.set_eq_take_append_cons_drop,if_pos l]
theorem aP.dd (h:aP H B L) (i:Nat) {s:Nat} {v:PV} {rows:List (List PV)} (hi:L[i]?=some (v,s,rows)) {s':Nat} {v':PV} {rows':List (List PV)} {H':PH} (ho:bO H' s' v' rows')
  (γ:∀ q,v'.oid=some q→v.oid=some q∨H q=none) (hk:∀ q,q∈eC B∨q∈dU L→(∀ p,v.oid=some p→q≠p)→H' q=H q):aP H' B (L.set i (v',s',rows')):=by
 obtain⟨L1,L2,e1,e2⟩:=Cl (v':=v') (s':=s') (rows':=rows') hi;rw[e2];subst e1;have J:=h.nd;have eL:dU (L1++(v,s,rows)::L2)=dU L1++(v.oid.toList++dU L2):=by rw[jX];congr 1;unfold dU;rw[List.filterMap_cons];cases e:v.oid<;>simp
 have β:dU (L1++(v',s',rows')::L2)=dU L1++(v'.oid.toList++dU L2):=by rw[jX];congr 1;unfold dU;rw[List.filterMap_cons];cases e:v'.oid<;>simp
 rw[eL] at J;have other:∀ q,q∈eC B∨q∈dU L1∨q∈dU L2→∀ p,v.oid=some p→q≠p:=by
  intro q l p hp e;subst e;rw[hp] at J;simp only[Option.toList_some] at J;rw[aZZ] at J;obtain⟨a,b,c⟩:=J;rw[aZZ] at b;obtain⟨b1,b2,b3⟩:=b;rw[List.singleton_append,List.nodup_cons] at b2;rcases l with l | l | l
  ·exact c q l q (by simp) rfl
  ·exact b3 q l q (by simp) rfl
  ·exact b2.1 l
 have R:∀ q,q∈eC B∨q∈dU L1∨q∈dU L2→H' q=H q:=by
  intro q l;refine hk q ?_ (other q l);rw[eL];simp only[aZC];rcases l with l | l | l
  ·exact .inl l
  ·exact .inr (.inl l)
  ·exact .inr (.inr (.inr l))
 refine⟨fun b hb=>by rw[R _ (.inl (rY hb))]; exact h.box b hb,fun z hz=>?_,?_⟩
 ·rw[aZC,aXP] at hz;rcases hz with hz | rfl | hz
  ·exact (h.lst z (by simp[hz])).same fun q l=>R q (.inr (.inl (kI hz l)))
  ·exact ho
  ·exact (h.lst z (by simp[hz])).same fun q l=>R q (.inr (.inr (kI hz l)))
 ·rw[β];cases e:v'.oid with
  | none =>simp only[Option.toList_none,List.nil_append];refine List.Nodup.sublist ?_ J;exact aZJ.append (aZJ.refl _) (aZJ.append (aZJ.refl _) (List.sublist_append_right _ _))
  | some q =>
   rcases γ q e with hv | hn
   ·rw[hv] at J;exact J
   ·obtain⟨f1,f2⟩:=h.fresh hn;rw[eL] at f2;simp only[aZC,not_or] at f2;have α:(eC B++(dU L1++dU L2)).Nodup:=List.Nodup.sublist (aZJ.append (aZJ.refl _) (aZJ.append (aZJ.refl _) (List.sublist_append_right _ _))) J;simp only[Option.toList_some];rw[aZZ] at α ⊢;obtain⟨a,b,c⟩:=α;rw[aZZ] at b;obtain⟨b1,b2,b3⟩:=b;refine⟨a,?_,?_⟩
    ·rw[aZZ];refine⟨b1,by rw[List.singleton_append,List.nodup_cons]; exact⟨f2.2.2,b2⟩,fun p hp r U=>?_⟩;rw[List.singleton_append,aXP] at U;rcases U with rfl | U
     ·rintro rfl; exact f2.1 hp
     ·exact b3 p hp r U
    ·intro p hp r U;rw[aZC,List.singleton_append,aXP] at U;rcases U with U | rfl | U
     ·exact c p hp r (by simp[U])
     ·rintro rfl; exact f1 hp
     ·exact c p hp r (by simp[U])
theorem aP.append (h:aP H B L) (i:Nat) {s b:Nat} {v y:PV} {rows src:List (List PV)} (hi:L[i]?=some (v,s,rows)) (hy:dS H s y=some src) (hr:roomFor rows.length src.length b)
  (hk:∀ v' H',aP H' B (L.set i (v',s,rows++src))→(src≠[]→∃ q,v'=.osl q s 0 (rows++src).length)→K v' H'):mF H s b v y K:=by
 rcases h.own i hi with ⟨rfl,rfl⟩ | ⟨q,rs,rfl,h1,h2,h3⟩
 ·refine⟨src,hy,hr,fun e=>?_,fun e o R=>?_⟩
  ·subst e;refine hk _ _ ?_ fun h=>absurd rfl h;exact h.dd i hi (.inl ⟨rfl,rfl⟩) (fun q U=>by cases U) fun q _ _=>rfl
  ·refine hk _ _ (h.dd i hi (.inr ⟨o,src,rfl,by simp only[aQ,if_true],aXL _,aYS⟩) (fun q U=>by cases U; exact .inr R) fun q U _=>?_) fun _=>⟨o,rfl⟩;obtain⟨f1,f2⟩:=h.fresh R;have:q≠o:=by rintro rfl; exact U.elim f1 f2
   rw[aQ,if_neg this]
 ·have l:(rows++src).length=rows.length+src.length:=aXN;refine⟨src,hy,rfl,rfl,hr,rs,h1,h2,?_,fun o R=>?_⟩
  ·rw[h3];refine hk _ _ (h.dd i hi (.inr ⟨q,rows++src,by rw[l],by simp only[aQ,if_true],aXL _,aYS⟩) (fun p J=>by cases J; exact .inl rfl) fun p _ J=>?_) fun _=>⟨q,by rw[l]⟩;rw[aQ,if_neg (J q rfl)]
  ·rw[h3];refine hk _ _ (h.dd i hi (.inr ⟨o,rows++src,by rw[l],by simp only[aQ,if_true],aXL _,aYS⟩) (fun p J=>by cases J; exact .inr R) fun p α J=>?_) fun _=>⟨o,by rw[l]⟩;obtain⟨f1,f2⟩:=h.fresh R;have n1:p≠o:=by rintro rfl; exact α.elim f1 f2
   rw[aQ,if_neg n1]
theorem aP.sub (h:aP H B L) {B':List BX} {L':List LI} (hB:B'.Sublist B) (i:L'.Sublist L):aP H B' L' :=
 ⟨fun b l=>h.box b (hB.subset l),fun x p=>h.lst x (i.subset p),List.Nodup.sublist (aZJ.append (hB.map _) (i.filterMap _)) h.nd⟩
theorem aP.uC (h:aP H B L) (i:Nat):aP H (B.eraseIdx i) L:=h.sub (List.eraseIdx_sublist ..) (aZJ.refl _)
theorem aP.Tq (h:aP H B L) (i:Nat):aP H B (L.eraseIdx i):=h.sub (aZJ.refl _) (List.eraseIdx_sublist ..)
end
section
variable {C:Ctx} {F:PF} {H:PH} {B:List BX} {L:List LI}
theorem aP.PD (h:aP H B L) {q:Nat} (i:q∈eC B∨q∈dU L):∃ x,H q=some x:=by
 rcases i with i | i
 ·obtain⟨b,p,rfl⟩:=aYH.1 i;exact⟨_,h.box b p⟩
 ·obtain⟨x,J,e⟩:=List.mem_filterMap.1 i;obtain⟨rs,l,_⟩:=(h.lst x J).id e;exact⟨_,l⟩
theorem aP.perm (h:aP H B L) {B':List BX} {L':List LI} (hB:B.Perm B') (i:L.Perm L'):aP H B' L' :=
 ⟨fun b l=>h.box b (hB.mem_iff.2 l),fun x p=>h.lst x (i.mem_iff.2 p),(List.Perm.nodup_iff ((hB.map _).append (i.filterMap _))).1 h.nd⟩
theorem aP.only (h:aP H B L) {B1:List BX} {L1:List LI} (hB:B1.Sublist B) (i:L1.Sublist L):aP (H.only (eC B1++dU L1)) B1 L1:=by
 refine (h.sub hB i).keep fun q l=>?_;rw[qD];rw[if_pos (aZC.2 l)]
theorem aJR {a b c d:List Nat} (i:(a++c).Nodup) (l:(b++d).Nodup) (J:∀ q,q∈a∨q∈c→q∈b∨q∈d→False):((a++b)++(c++d)).Nodup:=by
 have e:List.Perm ((a++b)++(c++d)) ((a++c)++(b++d)):=by rw[aYQ,aYQ];exact List.Perm.append_left a (by rw[← aYQ,← aYQ]; exact List.Perm.append_right d List.perm_append_comm)
 rw[e.nodup_iff,aZZ];refine⟨i,l,fun p R q U=>?_⟩;rintro rfl;exact J p (aZC.1 R) (aZC.1 U)
theorem aP.frame {H':PH} {B1 B2 B':List BX} {L1 L2 L':List LI} (h:aP H (B1++B2) (L1++L2)) (h':aP H' B' L') (ha:kS H (H.only (eC B1++dU L1)) H'):aP (H.over (H.only (eC B1++dU L1)) H') (B'++B2) (L'++L2):=by
 have h2:aP H B2 L2:=h.sub (List.sublist_append_right ..) (List.sublist_append_right ..);have J:∀ q,q∈eC B2∨q∈dU L2→¬ (q∈eC B1++dU L1):=by
  intro q l hm;have p:=h.nd;rw[show eC (B1++B2)=eC B1++eC B2 from aYN,jX] at p;have e:List.Perm ((eC B1++eC B2)++(dU L1++dU L2)) ((eC B1++dU L1)++(eC B2++dU L2)):=by rw[aYQ,aYQ];exact List.Perm.append_left _ (by rw[← aYQ,← aYQ]; exact List.Perm.append_right _ List.perm_append_comm)
  rw[e.nodup_iff,aZZ] at p;exact p.2.2 q hm q (aZC.2 l) rfl
 have new:∀ q,q∈eC B'∨q∈dU L'→(H.over (H.only (eC B1++dU L1)) H') q=H' q:=by intro q l;obtain⟨x,i⟩:=h'.PD l;rw[fW,i]
 have α:∀ q,q∈eC B2∨q∈dU L2→(H.over (H.only (eC B1++dU L1)) H') q=H q:=by
  intro q l;obtain⟨x,i⟩:=h2.PD l;have h0:(H.only (eC B1++dU L1)) q=none:=by rw[qD,if_neg (J q l)]
  rw[fW];cases e:H' q with
  | none=>simp only[h0]
  | some y =>have:=ha q y e h0;rw[i] at this; cases this
 have k1:=h'.keep new;have k2:=h2.keep α;refine⟨fun b R=>?_,fun x i=>?_,?_⟩
 ·rcases aZC.1 R with R | R
  ·exact k1.box b R
  ·exact k2.box b R
 ·rcases aZC.1 i with i | i
  ·exact k1.lst x i
  ·exact k2.lst x i
 ·rw[show eC (B'++B2)=eC B'++eC B2 from aYN,jX];refine aJR h'.nd h2.nd fun q l U=>?_;obtain⟨x,i⟩:=h'.PD l;obtain⟨y,hy⟩:=h2.PD U;have h0:(H.only (eC B1++dU L1)) q=none:=by rw[qD,if_neg (J q U)]
  have:=ha q x i h0;rw[hy] at this; cases this
theorem AM {name:Nat} {vs:List PV} {args:List aO} {d:Option Nat} {K:PF→PH→Prop} {B1 B2:List BX} {L1 L2:List LI} {Q:PV→List BX→List LI→Prop} (h:aP H (B1++B2) (L1++L2))
  (R:∀ l,aP l B1 L1→aH C name vs l (fun r H'=>∃ B' L',Q r B' L'∧aP H' B' L')) (J:aO.evs F args=some vs)
  (U:∀ r B' L' H',Q r B' L'→aP H' (B'++B2) (L'++L2)→K (F.put d r) H'):gY C name args [] d K F H:=by
 refine lF (R (H.only (eC B1++dU L1)) (h.only (List.sublist_append_left ..) (List.sublist_append_left ..))) J (OZ H _) ?_;rintro r H' ⟨B',L',hq,p⟩ i;exact U r B' L' _ hq (h.frame p i)
theorem aP.IA {B:List BX} {o:Nat} {x:bX} (h:aP H (B++[(o,x)]) L):H o=some x:=h.box (o,x) (by simp)
theorem aP.ji {B:List BX} {o:Nat} {x:bX} (h:aP H (B++[(o,x)]) L) (y:bX):aP (H.set o y) (B++[(o,y)]) L:=by
 have:=h.set B.length (o:=o) (x:=x) (by simp) y
 rwa [a0L _ _ (aXL _),Nat.sub_self] at this
theorem aP.dropLast {B:List BX} {b:BX} (h:aP H (B++[b]) L):aP H B L:=h.sub (List.sublist_append_left ..) (aZJ.refl _)
theorem aP.aED {B:List BX} {o:Nat} {x:bX} (h:aP H ((o,x)::B) L) (y:bX):aP (H.set o y) ((o,y)::B) L:=h.set 0 rfl y
theorem aP.aIO {B:List BX} {o:Nat} {x:bX} (h:aP H ((o,x)::B) L):H o=some x:=h.at 0 rfl
theorem lI {name o:Nat} {x y:bX} {r:PV} {vs:List PV} {args:List aO} {d:Option Nat} {K:PF→PH→Prop} (h:aH C name vs (PH.nil.set o x) (fun i H'=>i=r∧H'=PH.nil.set o y)) (J:H o=some x) (l:aO.evs F args=some vs)
  (p:K (F.put d r) (H.set o y)):gY C name args [] d K F H:=by
 refine lF h l (PH.aJ PH.nil_le J) ?_;rintro i H' ⟨rfl,rfl⟩ -;rw[PH.rG];exact p
theorem aqC {Hs:PH} {S:Spec} {name o:Nat} {x y:bX} {r:PV} {vs:List PV} {R:PH→PV→PH→Prop} {args:List aO} {st:Bool} {d:Option Nat} {K:PF→PH→Prop} (hS:S name vs=some ([o],R)) (ho:H o=some x)
  (h:aH C name vs (PH.nil.set o x) (fun i H'=>i=r∧H'=PH.nil.set o y)) (l:R (PH.nil.set o x) r (PH.nil.set o y)) (U:∀ i H',R (PH.nil.set o x) i H'→i=r∧H'=PH.nil.set o y) (ha:aO.evs F args=some vs)
  (α:Hs.le (H.set o y)) (hk:K (F.put d r) (H.set o y)):dOp C Hs S st (.call name args) d K F H:=by
 have e:=UX ho;refine⟨vs,[o],_,ha,hS,fun q hq=>?_,?_,fun G=>⟨r,_,by rw[e]; exact l,fun q z hz J=>?_⟩,fun i H' p _=>?_⟩
 ·simp at hq; subst hq; exact⟨x,ho⟩
 ·rw[e];exact h.post fun i H' p=>⟨i,.refl _,by rw[p.1,p.2]; exact l⟩
 ·rw[e] at J;rw[aQ] at hz J;split at J
  ·cases J
  ·rename_i β;rw[if_neg β] at hz; cases hz
 ·rw[e] at p;obtain⟨rfl,rfl⟩:=U i H' p;rw[e,PH.rG];exact⟨α,hk⟩
theorem auR {s:Nat} {q z:Nat} {rs:List (List PV)} {v:PV} {rows:List (List PV)} (h:bO H s v rows) (l:v.oid≠some q):bO (H.frz q z rs) s v (rows.map fun r=>r.map (PV.cN q z rs)):=by
 rcases h with ⟨rfl,rfl⟩ | ⟨p,rs',rfl,h1,h2,h3⟩
 ·exact .inl ⟨rfl,rfl⟩
 ·have i:¬ p=q:=fun e=>l (by rw[e]; rfl);refine .inr ⟨p,rs'.map fun r=>r.map (PV.cN q z rs),by rw[aXI],?_,by simpa using h2,?_⟩
  ·rw[vJ,if_neg i,h1]; rfl
  ·rw[aXI,← List.map_take,h3]
theorem aP.frz (h:aP H B L) (i:Nat) {q s k:Nat} {rows:List (List PV)} (hi:L[i]?=some (.osl q s 0 k,s,rows)):∃ rs,H q=some (.rows s rs)∧PV.cN q s rs (.osl q s 0 k)=.sl s rows∧PV.frz q s rs (.osl q s 0 k)=.sl s rows∧(∀ j x,j≠i→L[j]?=some x→PV.cN q s rs x.1=x.1) ∧
  aP (H.frz q s rs) (B.map fun b=>(b.1,b.2.frz q s rs)) ((L.eraseIdx i).map fun x=>(x.1,x.2.1,x.2.2.map fun r=>r.map (PV.cN q s rs))):=by
 obtain⟨rs,h1,h2,h3,h4⟩:=(h.own i hi).id rfl;injection h2 with _ _ _ hk
 subst hk;have e:PV.frz q s rs (.osl q s 0 rows.length)=.sl s rows:=by rw[vF h3,h4]
 refine⟨rs,h1,e,e,?_⟩;refine⟨fun j x δ hj=>?_,?_⟩
 ·have J:x.1.oid≠some q:=by
   intro J;obtain⟨hl,he⟩:=aYP.1 hi;obtain⟨θ,ζ⟩:=aYP.1 hj;have U:x∈L.eraseIdx i:=List.mem_eraseIdx_iff_getElem?.2 ⟨j,δ,hj⟩;have l:=h.ndL;have hs:L=L.take i++(L[i]::L.drop (i+1)):=by rw[← aZG hl,a0E]
   rw[List.eraseIdx_eq_take_drop_succ] at U;rw[hs,jX] at l;have e3:dU (L[i]::L.drop (i+1))=q::dU (L.drop (i+1)):=by rw[he]; rfl
   rw[e3,aZZ] at l;obtain⟨a,b,c⟩:=l;rcases aZC.1 U with R | R
   ·exact c q (kI R J) q (by simp) rfl
   ·exact (List.nodup_cons.1 b).1 (kI R J)
  cases R:x.1<;>try rfl
  rename_i p z off len;have:¬ p=q:=fun e=>J (by rw[R,e]; rfl);simp only[PV.cN,if_neg this]
 obtain⟨L1,L2,e1,e2⟩:=Cl (v':=.aB) (s':=s) (rows':=rows) hi;have η:i=L1.length∨True:=.inr trivial;have α:(L.eraseIdx i).Sublist L:=List.eraseIdx_sublist ..;have ε:∀ x∈L.eraseIdx i,x.1.oid≠some q:=by
  intro x R J;obtain⟨hl,he⟩:=aYP.1 hi;have l:=h.ndL;have hs:L=L.take i++(L[i]::L.drop (i+1)):=by rw[← aZG hl,a0E]
  rw[List.eraseIdx_eq_take_drop_succ] at R;rw[hs,jX] at l;have e3:dU (L[i]::L.drop (i+1))=q::dU (L.drop (i+1)):=by rw[he]; rfl
  rw[e3,aZZ] at l;obtain⟨a,b,c⟩:=l;rcases aZC.1 R with R | R
  ·exact c q (kI R J) q (by simp) rfl
  ·exact (List.nodup_cons.1 b).1 (kI R J)
 refine⟨fun b hb=>?_,fun x R=>?_,?_⟩
 ·obtain⟨b0,β,rfl⟩:=aYH.1 hb;have:¬ b0.1=q:=h.ndX (rY β) (kI (a0D hi) rfl);simp only;rw[vJ,if_neg this,h.box b0 β]; rfl
 ·obtain⟨x0,γ,rfl⟩:=aYH.1 R;exact auR (h.lst x0 (α.subset γ)) (ε x0 γ)
 ·have i1:eC (B.map fun b=>(b.1,b.2.frz q s rs))=eC B:=by unfold eC; rw[List.map_map]; rfl
  have i2:dU ((L.eraseIdx i).map fun x=>(x.1,x.2.1,x.2.2.map fun r=>r.map (PV.cN q s rs)))=dU (L.eraseIdx i):=by unfold dU; rw[List.filterMap_map]; rfl
  rw[i1,i2];exact List.Nodup.sublist (aZJ.append (aZJ.refl _) (α.filterMap _)) h.nd
def Flat (rows:List (List PV)):Prop:=∀ q s rs,rows.map (fun r=>r.map (PV.cN q s rs))=rows
theorem Flat.nil:Flat []:=fun _ _ _=>rfl
theorem Flat.of {rows:List (List PV)} (h:∀ r∈rows,∀ c∈r,∀ q s rs,PV.cN q s rs c=c):Flat rows:=fun q s rs=>by
 conv=>rhs; rw[← List.map_id rows]
 refine a0X fun r l=>?_
 conv=>rhs; rw[id,← List.map_id r]
 exact a0X fun c i=>h r l c i q s rs
theorem Flat.map {α:Type} {f:α→List PV} (l:List α) (h:∀ x,∀ c∈f x,∀ q s rs,PV.cN q s rs c=c):Flat (l.map f):=Flat.of fun r i=>by
 obtain⟨x,_,rfl⟩:=aYH.1 i;exact h x
theorem Flat.append {r1 r2:List (List PV)} (i:Flat r1) (l:Flat r2):Flat (r1++r2):=fun q s rs=>by rw[aYN,i,l]
theorem aP.flat {φ:PV→List (List PV)} (h:aP H B L):aP H B L:=h
def xB (v:PV) (H:PH) (R:PV→PH→Prop):Prop:=∃ i l H2,gT (PF.nil.set 0 v) H i l∧H2.le l∧∃ u,i 0=some u∧R u H2
theorem xB.done {v:PV} {H2:PH} {R:PV→PH→Prop} (l:R v H2) (i:H2.le H):xB v H R:=⟨_,_,H2,.refl _ _,i,v,by rw[jM,if_pos rfl],l⟩
theorem xB.step {v:PV} {q s:Nat} {rs:List (List PV)} {R:PV→PH→Prop} (hq:H q=some (.rows s rs)) (h:xB (PV.frz q s rs v) (H.frz q s rs) R):xB v H R:=by
 obtain⟨l,p,H2,J,U,h3⟩:=h;have e:(PF.nil.set 0 v).frz q s rs=PF.nil.set 0 (PV.frz q s rs v):=by funext i;rw[pC,jM,jM];split<;>rfl
 exact⟨l,p,H2,.step q hq (by rw[e]; exact J),U,h3⟩
theorem BG {res:List dN} {R:PV→PH→Prop} {vs:List PV} {e:kL} (p:e=.normal∨e=.ret) (h:dN.evs F H res=some vs) (J:xB (dB vs) H R):aW res R e F H:=by
 have key:∃ vs,dN.evs F H res=some vs∧∃ i l H2,gT (PF.nil.set 0 (dB vs)) H i l∧H2.le l∧∃ u,i 0=some u∧R u H2:=⟨vs,h,J⟩;rcases p with rfl | rfl<;>exact key
theorem YQ {u:PV} (h:u.oid=none) (q s:Nat) (rs:List (List PV)):PV.cN q s rs u=u:=by
 cases u<;>first | rfl | (simp[PV.oid] at h)
theorem Seen.co {s:Nat} {v:PV} {rows:List (List PV)} (h:Seen s v rows):Co v (.sl s rows):=by
 rcases h with ⟨rfl,rfl⟩ | rfl
 ·exact .nil s
 ·exact .refl _
theorem aP.giveUp:∀ (L:List LI) {H:PH} {B:List BX},aP H B L→(∀ x∈L,Flat x.2.2)→(∀ b∈B,∀ q s rs,bX.frz q s rs b.2=b.2) →
  ∃ (φ:PV→PV) (p:PH),(∀ x∈L,Seen x.2.1 (φ x.1) x.2.2)∧(∀ u,u.oid=none→φ u=u)∧aP p B []∧∀ cs R,xB (.agg (cs.map φ)) p R→xB (.agg cs) H R
 | [],H,B,h,_,_=>⟨id,H,by simp,fun _ _=>rfl,h,fun cs R hf=>by rwa [List.map_id] at hf⟩
 | (w,s,rows)::L,H,B,h,U,hB=>by
  have l:∀ q z rs,(L.map fun x=>(x.1,x.2.1,x.2.2.map fun r=>r.map (PV.cN q z rs)))=L:=fun q z rs=>by
   conv=>rhs; rw[← List.map_id L]
   refine a0X fun x i=>?_;rw[U x (by simp[i]) q z rs]; rfl
  rcases h.own 0 rfl with ⟨J,h2⟩ | ⟨q,rs,J,_⟩
  ·obtain⟨φ,p,k1,k2,k3,k4⟩:=aP.giveUp L (h.Tq 0) (fun x i=>U x (by simp[i])) hB;refine⟨φ,p,fun x i=>?_,k2,k3,k4⟩;rw[aXP] at i;rcases i with rfl | i
   ·exact .inl ⟨J,by simp only; rw[h2]; exact k2 _ rfl⟩
   ·exact k1 x i
  ·subst J;obtain⟨rs,z1,z2,z3,z4,z5⟩:=h.frz 0 rfl;have z6:aP (H.frz q s rs) B L:=by
    have eB:(B.map fun b=>(b.1,b.2.frz q s rs))=B:=by
     conv=>rhs; rw[← List.map_id B]
     refine a0X fun b hb=>?_;rw[hB b hb q s rs]; rfl
    rw[eB] at z5;have:=z5;simp only[List.eraseIdx_cons_zero] at this
    rwa [l q s rs] at this
   obtain⟨φ,p,k1,k2,k3,k4⟩:=aP.giveUp L z6 (fun x i=>U x (by simp[i])) hB;refine⟨fun u=>φ (PV.cN q s rs u),p,fun x i=>?_,fun u hu=>?_,k3,fun cs R hf=>?_⟩
   ·rw[aXP] at i;rcases i with rfl | i
    ·simp only;rw[z2];exact .inr (k2 _ rfl)
    ·obtain⟨j,hj⟩:=List.mem_iff_getElem?.1 i;have:=z4 (j+1) x Om (by simpa using hj);simp only;rw[this];exact k1 x i
   ·simp only;rw[YQ hu,k2 u hu]
   ·refine .step z1 ?_;have e:PV.frz q s rs (.agg cs)=.agg (cs.map (PV.cN q s rs)):=rfl;rw[e];refine k4 _ R ?_;rw[List.map_map];exact hf
theorem oo {K:bT} {α:Type} {i:α→PF} {Hs:α→PH} {l:α→Prop} {m:α→Nat} {n q s:Nat} {rs:List (List PV)} (a:α) (hq:H q=some (.rows s rs)) (p:l a) (U:m a<n) (J:(i a).le (F.frz q s rs)) (R:(Hs a).le (H.frz q s rs)):jD i Hs l m n K .normal F H :=
 ⟨a,_,_,.step q hq (.refl _ _),p,U,J,R⟩
end
structure xC (C:Ctx):Prop extends HX C where
 int:∀ n:Int,dC n→aH C 47 [.int .i64 n] .nil (aL (.agg (mkT n 1).cells))
 itoa:∀ n:Nat,n<100→aH C 195 [.int .i64 n] .nil (aL (.str (bQ n)))
 next:∀ (l:List Nat) (v:PV),Tp l v→∀ (o n a:Nat),n≤1000000→a≤l.length→aH C 4 [.ptr o 2 0 0,.int .i64 n] (PH.nil.set o (bG v a)) (VY l v o n a)
section
variable {C:Ctx} {F:PF} {H:PH} {l:List Nat} {v:PV} {o a:Nat}
theorem cR (p:xC C) (T:Tp l v) {n:Nat} {args:List aO} {d:Option Nat} {K:PF→PH→Prop} (U:n≤1000000) (J:a≤l.length) (i:aO.evs F args=some [.ptr o 2 0 0,.int .i64 n]) (ho:H o=some (bG v a))
  (R:K (F.put d (.int .i64 ((aD l n a).1:Nat))) (H.set o (bG v (aD l n a).2))):gY C 4 args [] d K F H :=
 lI (p.next l v T o n a U J) ho i R
end
def ayN (l:List Nat) (v:PV) (o a:Nat) (r:PV) (H:PH):Prop:=r=.agg (eQ l a).1.cells∧H=PH.nil.set o (bG v (eQ l a).2)
theorem rS (l:List Nat) {a:Nat} (h:a≤l.length):(eQ l a).2≤l.length:=bJ l 8 (bJ l 6 h)
theorem Dc {C:Ctx} (J:xC C) {l:List Nat} {v:PV} (T:Tp l v) (o a:Nat) (ha:a≤l.length):EP.wp C (aW aw.res (ayN l v o a)) (PF.args [.ptr o 2 0 0]) (PH.nil.set o (bG v a)):=by
 simp only[go_sem,EP,Dd,aw];refine aT fun p hp=>?_;have n1:¬ p=o:=(gD.1 hp).1;have i:¬ o=p:=fun h=>n1 h.symm;have h1:=bZ l (show 0<6 by decide) a;have a1:=bJ l 6 ha;simp only[go_sem,De];refine cR J T (o:=o) (n:=6) (a:=a) (by decide) ha rfl (by simp only[go_sem,i]) ?_;have e1:IntKind.i64.wrap (1+((aD l 6 a).1:Int))=((1+(aD l 6 a).1:Nat):Int):=by rw[wrap_i64 Om Om]; omega
 simp only[go_sem,e1];have h2:=bZ l (show 0<8 by decide) (aD l 6 a).2;refine cR J T (o:=o) (n:=8) (a:=(aD l 6 a).2) (by decide) a1 rfl Sq ?_;have e2:IntKind.i64.wrap (1+((aD l 8 (aD l 6 a).2).1:Int))=((1+(aD l 8 (aD l 6 a).2).1:Nat):Int):=by rw[wrap_i64 Om Om]; omega
 simp only[go_sem,e2];refine aC (J.fmk ((1+(aD l 6 a).1:Nat):Int) ((1+(aD l 8 (aD l 6 a).2).1:Nat):Int) (by unfold dC; omega) (by unfold dC; omega)) rfl ?_;have hd:¬ ((1+(aD l 8 (aD l 6 a).2).1:Nat):Int)=0:=Om;unfold tK;rw[if_neg hd];simp only[go_sem];refine aT fun q hq=>?_;have n2:¬ q=o:=(gD.1 hq).1;have n3:¬ q=p:=(gD.1 (gD.1 hq).2).1;have U:¬ p=q:=fun h=>n3 h.symm;have R:¬ o=q:=fun h=>n2 h.symm;simp only[go_sem,Df,n1,i,n2,n3,U];refine bB (vs:=[.agg (eQ l a).1.cells]) (.inr rfl) (PH.nil.set o (bG v (eQ l a).2)) ?_ (PH.aJ PH.nil_le ?_) ⟨rfl,rfl⟩
 ·simp only[go_sem];rfl
 ·simp only[go_sem,i,R];rfl
structure VV (C:Ctx):Prop extends xC C where
 frac:∀ (l:List Nat) (v:PV),Tp l v→∀ (o a:Nat),a≤l.length→aH C 1 [.ptr o 2 0 0] (PH.nil.set o (bG v a)) (ayN l v o a)
abbrev fI (l:List RF):List (List PV):=l.map RF.cells
theorem uE (l:List RF) (x:RF):fI l++[x.cells]=fI (l++[x]):=by simp[fI]
theorem DB (l:List RF):Flat (fI l):=Flat.map l fun x c i q s rs=>by
 simp only[RF.cells,fH,aXP,aXX,or_false] at i;rcases i with rfl | rfl | rfl<;>rfl
theorem kX (l:List RF):(fI l).length=l.length:=by simp[fI]
theorem Tp.frz {l:List Nat} {v:PV} (T:Tp l v) (q s:Nat) (rs:List (List PV)):PV.cN q s rs v=v:=by
 rcases T.seen with ⟨_,rfl⟩ | rfl<;>rfl
theorem BF (l:List Nat) {a:Nat} (h:a≤l.length):∀ k,(jC l a k).2≤l.length
 | 0=>h
 | k+1=>rS l (BF l h k)
theorem Gf (l:List Nat) (a:Nat):∀ k,(jC l a k).1.length=k
 | 0=>rfl
 | k+1=>by simp only[jC,aXN,aXR,Gf l a k]
def aIG (l:List Nat) (v:PV) (o a k:Nat) (r:PV) (H:PH):Prop:=r=frs (jC l a k).1∧H=PH.nil.set o (bG v (jC l a k).2)
def Un (o:Nat) (m:Nat) (w:PV) (i:Nat):PF:=((((PF.nil.set 0 (.ptr o 2 0 0)).set 1 (.int .i64 m)).set 5 (w)).set 6 (.int .i64 i))
theorem Pi {C:Ctx} (Lb:VV C) {l:List Nat} {v:PV} (T:Tp l v) (o a m:Nat) (hm:m≤1000) (ha:a≤l.length):KY.wp C (aW D3.res (aIG l v o a (max m 1))) (PF.args [.ptr o 2 0 0,.int .i64 m]) (PH.nil.set o (bG v a)):=by
 have R:∀ i:Nat,((i:Int)<(if (m:Int)<1 then 1 else (m:Int)))↔i<max m 1:=by intro i;split<;>omega
 simp only[go_sem,KY,Pj,Pk,Pl,D3];have h0:aP (PH.nil.set o (bG v a)) [(o,bG v a)] [(.aB,3,fI [])]:=(aP.nil.new (H:=PH.nil) rfl (bG v a)).rZ 3;refine wp_loop (α:=Nat × PV × PH) (fun t=>Un o m t.2.1 t.1) (fun t=>t.2.2) (fun t=>t.1≤max m 1∧aP t.2.2 [(o,bG v (jC l a t.1).2)] [(t.2.1,3,fI (jC l a t.1).1)]) (fun t=>max m 1-t.1) (0,.aB,PH.nil.set o (bG v a)) ⟨aXU _,h0⟩ ?_ PH.le_refl ?_
 ·unfold Un;exact Lq
 rintro⟨k,w,H0⟩ ⟨hk,J⟩;simp only at hk J ⊢;simp only[go_sem,Ph,Pm,Un];have γ:=BF l ha k;have p:=Gf l a k;by_cases hlt:k<max m 1
 ·have hc:=(R k).2 hlt;simp only[go_sem,hc,Pn];refine lI (Lb.frac l v T o _ γ) (J.at 0 rfl) rfl ?_;have β:=J.set 0 rfl (bG v (eQ l (jC l a k).2).2);have U:(1:Nat)*3≤16777216:=by decide
  simp only[go_sem,U];refine β.append 0 (src:=[(eQ l (jC l a k).2).1.cells]) rfl rfl (by unfold roomFor; rw[kX,p]; simp only[aXR,maxLen]; omega) fun w' H' h' _=>?_;rw[uE] at h';simp only[go_sem,Po,wZz k];refine aM (k+1,w',H') ⟨hlt,h'⟩ (by simp only; omega) ?_ PH.le_refl;exact Lq
 ·have hc:¬ ((k:Int)<(if (m:Int)<1 then 1 else (m:Int))):=fun h=>hlt ((R k).1 h);have e:k=max m 1:=Om;subst e;simp only[go_sem,hc,Pp];have δ:fI (jC l a (max m 1)).1≠[]:=fun h=>by have:=congrArg List.length h;rw[kX,p] at this;simp at this
  rcases J.own 0 rfl with ⟨h1,_⟩ | ⟨q,rs,rfl,_⟩
  ·exact absurd h1 δ
  obtain⟨rs,g1,g2,g3,-,g4⟩:=J.frz 0 rfl;refine BG (vs:=[.osl q 3 0 (fI (jC l a (max m 1)).1).length]) (.inr rfl) rfl (.step g1 (.done (H2:=PH.nil.set o (bG v (jC l a (max m 1)).2)) ?_ (PH.aJ PH.nil_le ?_)))
  ·rw[dB,g3];exact⟨rfl,rfl⟩
  ·have:=g4.at 0 rfl;rw[this];simp only[bX.frz,aYU,aZN,T.frz];rfl
theorem Dw {C:Ctx} (p:xC C) (s:List UInt8) (n:Nat) (U:s.length≤100) (J:n<100):EU.wp C (aW ba.res (aL (.str (s++bQ n)))) (PF.args [.str s,.int .i64 n]) .nil:=by
 have R:(bQ n).length≤2:=by
  unfold bQ;rw[Lib.decDigits];split
  ·simp
  ·rw[Lib.decDigits,dif_pos Om]; simp
 have i:¬ (((s.length+(bQ n).length:Nat):Int)>9223372036854775807):=Om;simp only[go_sem,EU,Dx,Dy,ba];refine aC (p.itoa n J) rfl ?_;simp only[go_sem,S6,i];refine bV (.inr rfl) rfl ?_;rfl
structure oX (C:Ctx):Prop extends VV C where
 rep:∀ (l:List Nat) (v:PV),Tp l v→∀ (o a m:Nat),m≤1000→a≤l.length→aH C 5 [.ptr o 2 0 0,.int .i64 m] (PH.nil.set o (bG v a)) (aIG l v o a (max m 1))
 name:∀ (s:List UInt8) (n:Nat),s.length≤100→n<100→aH C 29 [.str s,.int .i64 n] .nil (aL (.str (s++bQ n)))
theorem apM (l:List Nat) (i j:Nat) {a:Nat} (h:a≤l.length):(gJ l i j a).2≤l.length:=by
 unfold gJ;split
 ·exact rS l h
 ·split
  ·exact h
  ·simp only;split
   ·exact rS l (bJ l 3 h)
   ·exact bJ l 3 h
theorem jg (l:List Nat) (i:Nat) {a:Nat} (h:a≤l.length):∀ j,(dA l i a j).2≤l.length
 | 0=>h
 | j+1=>apM l i j (jg l i h j)
theorem VA (l:List Nat) (i a:Nat):∀ j,(dA l i a j).1.length=j
 | 0=>rfl
 | j+1=>by simp only[dA,aXN,aXR,VA l i a j]
theorem TL (l:List Nat) (n i:Nat) (s:yK) (h:s.a≤l.length):(cZ l n i s).2≤l.length∧(cZ l n i s).1≤s.left:=by
 unfold cZ;split
 ·exact⟨bJ l _ h,by have:=bZ l (Om:0<s.left+1) s.a; omega⟩
 ·exact⟨h,aXL _⟩
theorem y6 (l:List Nat) (n i:Nat) {a:Nat} (h:a≤l.length):(eF l n i a).2≤l.length:=by
 unfold eF;simp only;split
 ·exact bJ l 3 (rS l h)
 ·exact rS l h
theorem ib (l:List Nat) (n:Nat) {a:Nat} (h:a≤l.length):∀ i,(fD l n a i).a≤l.length∧(fD l n a i).left≤8∧(fD l n a i).start.length=i∧(fD l n a i).exit.length=i∧(fD l n a i).aWE.length=i
 | 0=>⟨h,aXL _,rfl,rfl,rfl⟩
 | i+1=>by
  obtain⟨p,h2,J,R,h5⟩:=ib l n h i;have U:=TL l n i (fD l n a i) p;refine⟨?_,?_,?_,?_,?_⟩
  ·exact jg l i (y6 l n i U.1) n
  ·simp only[fD]; omega
  ·simp only[fD,aXN,aXR,J]
  ·simp only[fD,aXN,aXR,R]
  ·simp only[fD,aXN,aXR,h5]
abbrev sF (l:List (List RF)):List (List PV):=l.map fun r=>[frs r]
theorem so (l:List (List RF)):Flat (sF l):=Flat.map l fun x c i q s rs=>by
 simp only[aXP,aXX,or_false] at i;subst i; rfl
abbrev TK (i l p:PV):bX:=.rows 4 [[.str [],i,l,p]]
abbrev Cr:bX:=.rows 4 [[.str [],.aB,.aB,.aB]]
def eX (o o4 o6 n left i:Nat) (w:PV) (j:Nat):PF:=((((((((PF.nil.set 0 (.ptr o 2 0 0)).set 4 (.ptr o4 4 0 0)).set 5 (.int .i64 n)).set 6 (.ptr o6 4 0 0)).set 7 (.int .i64 left)).set 8 (.int .i64 i)).set 13 (w)).set 14 (.int .i64 j))
def cK (o o4 o6 n left i:Nat):PF:=((((((PF.nil.set 0 (.ptr o 2 0 0)).set 4 (.ptr o4 4 0 0)).set 5 (.int .i64 n)).set 6 (.ptr o6 4 0 0)).set 7 (.int .i64 left)).set 8 (.int .i64 i))
theorem TO {l:List RF} (h:l.length≤1000):roomFor (fI l).length 1 56:=by
 unfold roomFor;rw[kX];simp only[maxLen]; omega
theorem arZ {C:Ctx} (Lb:oX C) {l:List Nat} {v:PV} (T:Tp l v) (o o4 o6 n left i a:Nat) (ha:a≤l.length) (hn:n≤100) (hi:i<n) (B:List BX) (L:List LI) (K:bT) (F:PF) (H:PH)
  (hF:(eX o o4 o6 n left i .aB 0).le F) (hH:aP H ((o,bG v a)::B) L)
  (hK:∀ w R H',(eX o o4 o6 n left i w n).le R→aP H' ((o,bG v (dA l i a n).2)::B) (L++[(w,3,fI (dA l i a n).1)])→K (.exit 2) R H') :
  aA.wp C (.loop ES) K F H:=by
 refine wp_loop (α:=Nat × PV × PH) (fun t=>eX o o4 o6 n left i t.2.1 t.1) (fun t=>t.2.2) (fun t=>t.1≤n∧aP t.2.2 ((o,bG v (dA l i a t.1).2)::B) (L++[(t.2.1,3,fI (dA l i a t.1).1)])) (fun t=>n-t.1) (0,.aB,H) ⟨aXU _,hH.rZ 3⟩ hF PH.le_refl ?_;rintro⟨j,w,H0⟩ ⟨hj,hH⟩;simp only at hj hH ⊢;have ε:=jg l i ha j;have ξ:=VA l i a j;have e1:IntKind.i64.wrap ((i:Int)+1)=((i+1:Nat):Int):=cP Om;simp only[go_sem,ES,Dr,eX];by_cases hlt:j<n
 ·have γ:(j:Int)<(n:Nat):=Om;simp only[go_sem,γ,Ds];refine aC (Lb.int 0 (by unfold dC; omega)) rfl ?_;simp only[go_sem];refine aT fun p hp=>?_;have U:=hH.new hp (.rows 3 [iH.cells]);simp only[go_sem,Dt,e1];have fin:∀ (R:PF) (H':PH),(eX o o4 o6 n left i w j).le R→R 15=some (.ptr p 3 0 0)→aP H' ((o,bG v (gJ l i j (dA l i a j).2).2)::B++[(p,.rows 3 [(gJ l i j (dA l i a j).2).1.cells])]) (L++[(w,3,fI (dA l i a j).1)]) →
    aA.wp C (.region TX) (fG 3 (fZ C (aA.wp C (.region TY)) (jD (fun (t:Nat × PV × PH)=>eX o o4 o6 n left i t.2.1 t.1) (fun t=>t.2.2) (fun t=>t.1≤n∧aP t.2.2 ((o,bG v (dA l i a t.1).2)::B) (L++[(t.2.1,3,fI (dA l i a t.1).1)])) (fun t=>n-t.1) (n-j) K))) R H':=by
   intro R H' J δ ζ;have f0:R 0=some (.ptr o 2 0 0):=J 0 _ (by unfold eX; simp only[go_sem]);have f4:R 4=some (.ptr o4 4 0 0):=J 4 _ (by unfold eX; simp only[go_sem]);have f5:R 5=some (.int .i64 n):=J 5 _ (by unfold eX; simp only[go_sem]);have f6:R 6=some (.ptr o6 4 0 0):=J 6 _ (by unfold eX; simp only[go_sem]);have f7:R 7=some (.int .i64 left):=J 7 _ (by unfold eX; simp only[go_sem]);have f8:R 8=some (.int .i64 i):=J 8 _ (by unfold eX; simp only[go_sem]);have f13:R 13=some w:=J 13 _ (by unfold eX; simp only[go_sem]);have f14:R 14=some (.int .i64 j):=J 14 _ (by unfold eX; simp only[go_sem]);have μ:H' p=some (.rows 3 [(gJ l i j (dA l i a j).2).1.cells]):=ζ.box (p,.rows 3 [(gJ l i j (dA l i a j).2).1.cells]) (by simp);have θ:(1:Nat)*3≤16777216:=by decide
   simp only[go_sem,TX,f13,δ,μ,θ];refine ζ.append (v:=w) (s:=3) (rows:=fI (dA l i a j).1) L.length (src:=[(gJ l i j (dA l i a j).2).1.cells]) (by simp) rfl (TO Om) fun w' H2 h2 _=>?_;rw[uE,a0L _ _ (aXL _),Nat.sub_self] at h2;simp only[go_sem,TY,f14,wZz j];refine aM (α:=Nat × PV × PH) (j+1,w',H2) ⟨hlt,h2.sub (List.sublist_append_left ..) (aZJ.refl _)⟩ (by simp only; omega) ?_ PH.le_refl;unfold eX;exact Lq
  simp only[aA.wp,go_sem] at fin;have η:∀ x:RF,PH.set (PH.set H0 p (.rows 3 [iH.cells])) p (.rows 3 [x.cells])=PH.set H0 p (.rows 3 [x.cells]):=fun x=>PH.set_set p _ _;have draw:∀ (R:PF) (H1:PH) (a1:Nat),a1≤l.length→(eX o o4 o6 n left i w j).le R→R 15=some (.ptr p 3 0 0)→aP H1 ((o,bG v a1)::B++[(p,.rows 3 [iH.cells])]) (L++[(w,3,fI (dA l i a j).1)])→gJ l i j (dA l i a j).2=eQ l a1→∀ K',(∀ F2 H2,(eX o o4 o6 n left i w j).le F2→F2 15=some (.ptr p 3 0 0)→aP H2 ((o,bG v (gJ l i j (dA l i a j).2).2)::B++[(p,.rows 3 [(gJ l i j (dA l i a j).2).1.cells])]) (L++[(w,3,fI (dA l i a j).1)])→K' F2 H2) →
    wpOps C TW K' R H1:=by
   intro R H1 a1 κ J δ U he K' ι;have f0:R 0=some (.ptr o 2 0 0):=J 0 _ (by unfold eX; simp only[go_sem]);simp only[go_sem,TW,f0];refine lI (Lb.frac l v T o a1 κ) (U.at 0 rfl) rfl ?_;have β:aP (H1.set o (bG v (eQ l a1).2)) ((o,bG v (eQ l a1).2)::B++[(p,.rows 3 [iH.cells])]) (L++[(w,3,fI (dA l i a j).1)]):=U.set 0 rfl _;have ν:=β.IA;simp only[go_sem,δ,ν];refine ι _ _ ?_ (by simp only[go_sem,δ]) ?_
   ·have g:=fun (q:Nat) u h=>J q u h;unfold eX at g ⊢;refine PF.aJ (PF.aJ (PF.aJ (PF.aJ (PF.aJ (PF.aJ (PF.aJ (PF.aJ PF.nil_le ?_) ?_) ?_) ?_) ?_) ?_) ?_) ?_
    ·simp only[go_sem,f0]
    ·simp only[go_sem,g 4 _ rfl]
    ·simp only[go_sem,g 5 _ rfl]
    ·simp only[go_sem,g 6 _ rfl]
    ·simp only[go_sem,g 7 _ rfl]
    ·simp only[go_sem,g 8 _ rfl]
    ·simp only[go_sem,g 13 _ rfl]
    ·simp only[go_sem,g 14 _ rfl]
   ·rw[he];exact β.ji (.rows 3 [(eQ l a1).1.cells])
  by_cases c1:j=i+1
  ·have he:gJ l i j (dA l i a j).2=eQ l (dA l i a j).2:=by unfold gJ; rw[if_pos c1]
   simp only[go_sem,bM (Om:(j:Int)=((i+1:Nat):Int))];refine draw _ _ _ ε (by unfold eX; exact Lq) rfl U he _ ?_;intro F2 H2 k1 k2 k3;exact fin F2 H2 k1 k2 k3
  ·simp only[go_sem,bF (Om:¬ (j:Int)=((i+1:Nat):Int))];by_cases c2:j=i
   ·have he:gJ l i j (dA l i a j).2=(iH,(dA l i a j).2):=by unfold gJ; rw[if_neg c1,if_pos c2]
    simp only[go_sem,cE (Om:(j:Int)=(i:Int))];exact fin _ _ (by unfold eX; exact Lq) rfl (by rw[he]; exact U)
   ·simp only[go_sem,eT (Om:¬ (j:Int)=(i:Int))];refine cR Lb.toxC T (o:=o) (n:=3) (a:=(dA l i a j).2) (by decide) ε rfl (U.at 0 rfl) ?_;have β:aP _ ((o,bG v (aD l 3 (dA l i a j).2).2)::B++[(p,.rows 3 [iH.cells])]) (L++[(w,3,fI (dA l i a j).1)]):=U.set 0 rfl _;by_cases c3:(aD l 3 (dA l i a j).2).1=0
    ·have he:gJ l i j (dA l i a j).2=eQ l (aD l 3 (dA l i a j).2).2:=by unfold gJ; rw[if_neg c1,if_neg c2]; simp only[c3,if_true]
     simp only[go_sem,bM (show (((aD l 3 (dA l i a j).2).1:Nat):Int)=0 by omega)];refine draw _ _ _ (bJ l 3 ε) (by unfold eX; exact Lq) rfl β he _ ?_;intro F2 H2 k1 k2 k3;exact fin F2 H2 k1 k2 k3
    ·have he:gJ l i j (dA l i a j).2=(iH,(aD l 3 (dA l i a j).2).2):=by unfold gJ; rw[if_neg c1,if_neg c2]; simp only[c3,if_false]
     simp only[go_sem,bF (show ¬ (((aD l 3 (dA l i a j).2).1:Nat):Int)=0 by omega)];exact fin _ _ (by unfold eX; exact Lq) rfl (by rw[he]; exact β)
 ·have γ:¬ (j:Int)<(n:Nat):=Om;have:j=n:=Om;subst this;simp only[go_sem,γ];exact hK w _ _ (by unfold eX; exact Lq) hH
abbrev pJ (o o4 o6:Nat) (v i l p:PV) (a:Nat):List BX:=[(o,bG v a),(o4,Cr),(o6,TK i l p)]
abbrev sK (s:yK) (i l p:PV):List LI:=[(i,3,fI s.start),(l,1,sF s.aWE),(p,3,fI s.exit)]
theorem acT {C:Ctx} (Lb:oX C) {l:List Nat} {v:PV} (T:Tp l v) (o o4 o6 n i:Nat) (s:yK) (hs:s.a≤l.length) (hl:s.left≤8) (hn:n≤100) (hi:i<n) (B:List BX) (L:List LI) (rest:aA) (K:bT) (F:PF) (H:PH)
  (p:(cK o o4 o6 n s.left i).le F) (hH:aP H ((o,bG v s.a)::B) L)
  (R:∀ U H',(cK o o4 o6 n (s.left-(cZ l n i s).1) i).le U→U 9=some (.int .i64 ((cZ l n i s).1:Nat))→aP H' ((o,bG v (cZ l n i s).2)::B) L→aA.wp C rest K U H') :
  aA.wp C (.seq (.region ii) (.seq (.seq (.region ij) (.cond (.tmp 29) (.region ik) .skip)) (.seq (.region OV) rest))) K F H:=by
 have f0:F 0=some (.ptr o 2 0 0):=p 0 _ (by unfold cK; simp only[go_sem]);have f4:F 4=some (.ptr o4 4 0 0):=p 4 _ (by unfold cK; simp only[go_sem]);have f5:F 5=some (.int .i64 n):=p 5 _ (by unfold cK; simp only[go_sem]);have f6:F 6=some (.ptr o6 4 0 0):=p 6 _ (by unfold cK; simp only[go_sem]);have f7:F 7=some (.int .i64 s.left):=p 7 _ (by unfold cK; simp only[go_sem]);have f8:F 8=some (.int .i64 i):=p 8 _ (by unfold cK; simp only[go_sem]);have e1:IntKind.i64.wrap ((i:Int)+1)=((i+1:Nat):Int):=cP Om;have hk:=(TL l n i s hs).2;have J:IntKind.i64.wrap ((s.left:Int)-((cZ l n i s).1:Int))=((s.left-(cZ l n i s).1:Nat):Int):=by rw[wrap_i64 Om Om]; omega
 simp only[go_sem,ii,f7,ij,f8,f5,e1];by_cases c:i+1<n
 ·have c':((i+1:Nat):Int)<(n:Nat):=Om;have he:cZ l n i s=aD l (s.left+1) s.a:=by unfold cZ; rw[if_pos c]
  have el:IntKind.i64.wrap ((s.left:Int)+1)=((s.left+1:Nat):Int):=cP Om;rw[he] at R J;simp only[go_sem,c',ik,f0,f7,el];refine cR Lb.toxC T (o:=o) (n:=s.left+1) (a:=s.a) Om hs rfl hH.aIO ?_;have α:=hH.aED (bG v (aD l (s.left+1) s.a).2);simp only[go_sem,OV,f7,J];refine R _ _ ?_ rfl α;unfold cK;exact Lq
 ·have c':¬ ((i+1:Nat):Int)<(n:Nat):=Om;have he:cZ l n i s=(s.left,s.a):=by unfold cZ; rw[if_neg c]
  rw[he] at R J;simp only at R J;simp only[go_sem,c',OV,f7,J];refine R _ _ ?_ rfl hH;unfold cK;exact Lq
theorem Um {C:Ctx} (Lb:oX C) {l:List Nat} {v:PV} (o o4 o6 n i left k a:Nat) (hk:k≤8) (hi:i<n) (hn:n≤100) (s:yK) (hs:s.start.length=i) (w1 w2 w3:PV) (B:List BX) (rest:aA) (K:bT) (F:PF) (H:PH)
  (U:(cK o o4 o6 n left i).le F) (f9:F 9=some (.int .i64 k)) (hH:aP H (pJ o o4 o6 v w1 w2 w3 a++B) (sK s w1 w2 w3))
  (hK:∀ R F' H' B',(cK o o4 o6 n left i).le F'→aP H' (pJ o o4 o6 v R w2 w3 a++B') (sK { s with start:=s.start++[mkT (k:Nat) 8] } R w2 w3)→aA.wp C rest K F' H') :
  aA.wp C (.seq (.region TP) (.seq (.region TQ) rest)) K F H:=by
 have f0:F 0=some (.ptr o 2 0 0):=U 0 _ (by unfold cK; simp only[go_sem]);have f4:F 4=some (.ptr o4 4 0 0):=U 4 _ (by unfold cK; simp only[go_sem]);have f5:F 5=some (.int .i64 n):=U 5 _ (by unfold cK; simp only[go_sem]);have f6:F 6=some (.ptr o6 4 0 0):=U 6 _ (by unfold cK; simp only[go_sem]);have f7:F 7=some (.int .i64 left):=U 7 _ (by unfold cK; simp only[go_sem]);have f8:F 8=some (.int .i64 i):=U 8 _ (by unfold cK; simp only[go_sem]);simp only[go_sem,TP,f9];refine aC (Lb.fmk (k:Int) 8 (by unfold dC; omega) (by unfold dC; omega)) rfl ?_;unfold tK;rw[if_neg (by decide)];simp only[go_sem];refine aT fun p hp=>?_;have J:=hH.new hp (.rows 3 [(mkT (k:Nat) 8).cells]);have g6:=J.at 2 rfl;have gp:=J.IA;have β:(1:Nat)*3≤16777216:=by decide
 have γ:∀ y,PH.set (PH.set H p (.rows 3 [[PV.bool false,PV.aB,PV.aB]])) p y=PH.set H p y:=fun y=>PH.set_set p _ _;simp only[go_sem,TQ,f6,g6,gp,β];refine J.append 0 (src:=[(mkT (k:Nat) 8).cells]) rfl rfl (TO Om) fun R H2 h2 hw=>?_;rw[uE] at h2 hw; rw[kX] at hw;obtain⟨q,rfl⟩:=hw (by simp);have α:=h2.at 2 rfl;simp only[go_sem,α,aXP,aXX,or_false,forall_eq];have h3:=h2.set 2 rfl (TK (.osl q 3 0 (s.start++[mkT (k:Nat) 8]).length) w2 w3);refine hK _ _ _ (B++[(p,.rows 3 [(mkT (k:Nat) 8).cells])]) ?_ h3;unfold cK;exact Lq
theorem acS {C:Ctx} (Lb:oX C) {l:List Nat} {v:PV} (T:Tp l v) (o o4 o6 n i left a:Nat) (ha:a≤l.length) (hi:i<n) (hn:n≤100) (s:yK) (hs:s.exit.length=i) (U w2 w3:PV) (B:List BX) (rest:aA) (K:bT) (F:PF) (H:PH)
  (hF:(cK o o4 o6 n left i).le F) (hH:aP H (pJ o o4 o6 v U w2 w3 a++B) (sK s U w2 w3))
  (hK:∀ δ J H' B',(cK o o4 o6 n left i).le J→aP H' (pJ o o4 o6 v U w2 δ (eF l n i a).2++B') (sK { s with exit:=s.exit++[(eF l n i a).1] } U w2 δ)→aA.wp C rest K J H') :
  aA.wp C (.seq (.region TR) (.seq (.seq (.region TS) (.cond (.tmp 58) (.region TT) .skip)) (.seq (.region ET) rest))) K F H:=by
 have f0:F 0=some (.ptr o 2 0 0):=hF 0 _ (by unfold cK; simp only[go_sem]);have f4:F 4=some (.ptr o4 4 0 0):=hF 4 _ (by unfold cK; simp only[go_sem]);have f5:F 5=some (.int .i64 n):=hF 5 _ (by unfold cK; simp only[go_sem]);have f6:F 6=some (.ptr o6 4 0 0):=hF 6 _ (by unfold cK; simp only[go_sem]);have f7:F 7=some (.int .i64 left):=hF 7 _ (by unfold cK; simp only[go_sem]);have f8:F 8=some (.int .i64 i):=hF 8 _ (by unfold cK; simp only[go_sem]);have e1:IntKind.i64.wrap ((i:Int)+1)=((i+1:Nat):Int):=cP Om;simp only[go_sem,TR,f0];refine lI (Lb.frac l v T o a ha) (hH.at 0 rfl) rfl ?_;have θ:=hH.set 0 rfl (bG v (eQ l a).2);simp only[go_sem];refine aT fun p hp=>?_;have β:=θ.new hp (.rows 3 [(eQ l a).1.cells]);simp only[go_sem,TS,f8,f5,e1];have fin:∀ (J:PF) (H':PH),(cK o o4 o6 n left i).le J→J 12=some (.ptr p 3 0 0)→aP H' (pJ o o4 o6 v U w2 w3 (eF l n i a).2++B++[(p,.rows 3 [(eF l n i a).1.cells])]) (sK s U w2 w3)→wpOps C ET (aA.wp C rest K) J H':=by
  intro J H' R ε α;have q0:J 0=some (.ptr o 2 0 0):=R 0 _ (by unfold cK; simp only[go_sem]);have q4:J 4=some (.ptr o4 4 0 0):=R 4 _ (by unfold cK; simp only[go_sem]);have q5:J 5=some (.int .i64 n):=R 5 _ (by unfold cK; simp only[go_sem]);have q6:J 6=some (.ptr o6 4 0 0):=R 6 _ (by unfold cK; simp only[go_sem]);have q7:J 7=some (.int .i64 left):=R 7 _ (by unfold cK; simp only[go_sem]);have q8:J 8=some (.int .i64 i):=R 8 _ (by unfold cK; simp only[go_sem]);have g6:=α.at 2 rfl;have gp:=α.IA;have η:(1:Nat)*3≤16777216:=by decide
  simp only[go_sem,ET,q6,g6,ε,gp,η];refine α.append 2 (src:=[(eF l n i a).1.cells]) rfl rfl (TO Om) fun δ H2 h2 hw=>?_;rw[uE] at h2 hw; rw[kX] at hw;obtain⟨q,rfl⟩:=hw (by simp);have ζ:=h2.at 2 rfl;simp only[go_sem,ζ,aXP,aXX,or_false,forall_eq];have h3:=h2.set 2 rfl (TK U w2 (.osl q 3 0 (s.exit++[(eF l n i a).1]).length));refine hK _ _ _ (B++[(p,.rows 3 [(eF l n i a).1.cells])]) ?_ h3;unfold cK;exact Lq
 by_cases c:i+1<n
 ·have c':((i+1:Nat):Int)<(n:Nat):=Om;have ι:=rS l ha;simp only[go_sem,c',f0];refine cR Lb.toxC T (o:=o) (n:=3) (a:=(eQ l a).2) (by decide) ι rfl (β.at 0 rfl) ?_;have γ:=β.set 0 rfl (bG v (aD l 3 (eQ l a).2).2);by_cases c3:(aD l 3 (eQ l a).2).1=0
  ·have he:eF l n i a=(iH,(aD l 3 (eQ l a).2).2):=by unfold eF; simp only[if_pos c,c3,if_true]
   have gp:=aP.IA (B:=pJ o o4 o6 v U w2 w3 (aD l 3 (eQ l a).2).2++B) γ;simp only[go_sem,bM (show (((aD l 3 (eQ l a).2).1:Nat):Int)=0 by omega),TT];refine aC (Lb.int 0 (by unfold dC; omega)) rfl ?_;simp only[go_sem,gp];refine fin _ _ ?_ rfl ?_
   ·unfold cK;exact Lq
   ·rw[he];exact aP.ji (B:=pJ o o4 o6 v U w2 w3 (aD l 3 (eQ l a).2).2++B) γ (.rows 3 [iH.cells])
  ·have he:eF l n i a=((eQ l a).1,(aD l 3 (eQ l a).2).2):=by unfold eF; simp only[if_pos c,c3,if_false]
   simp only[go_sem,bF (show ¬ (((aD l 3 (eQ l a).2).1:Nat):Int)=0 by omega)];refine fin _ _ ?_ rfl ?_
   ·unfold cK;exact Lq
   ·rw[he];exact γ
 ·have c':¬ ((i+1:Nat):Int)<(n:Nat):=Om;have he:eF l n i a=eQ l a:=by unfold eF; simp only[if_neg c]
  simp only[go_sem,c'];refine fin _ _ ?_ rfl ?_
  ·unfold cK;exact Lq
  ·rw[he];exact β
def aoW (l:List Nat) (v:PV) (o dR a:Nat) (r:PV) (H:PH):Prop:=r=.agg (oS l dR a).1.cells∧H=PH.nil.set o (bG v (oS l dR a).2)
theorem aeS {l:List (List RF)} (h:l.length≤1000):roomFor (sF l).length 1 24:=by
 unfold roomFor;simp only[aXI,maxLen]; omega
theorem aeT (l:List (List RF)) (x:List RF):sF l++[[frs x]]=sF (l++[x]):=by simp[sF]
theorem Ul {C:Ctx} (Lb:oX C) {l:List Nat} {v:PV} (T:Tp l v) (o o4 o6 n left i a:Nat) (ha:a≤l.length) (hn:n≤100) (hi:i<n) (s:yK) (hs:s.aWE.length=i) (w1 w2 w3:PV) (B:List BX) (K:bT) (F:PF) (H:PH)
  (hF:(cK o o4 o6 n left i).le F) (hH:aP H (pJ o o4 o6 v w1 w2 w3 a++B) (sK s w1 w2 w3))
  (hK:∀ β α F' H' B',(cK o o4 o6 n left i).le F'→(∃ q,α=.osl q 3 0 n)→aP H' (pJ o o4 o6 v w1 β w3 (dA l i a n).2++B') [(w1,3,fI s.start),(β,1,sF s.aWE++[[α]]),(w3,3,fI s.exit),(α,3,fI (dA l i a n).1)]→K .normal F' H') :
  aA.wp C (.seq (.region TU) (.seq (.seq (.region TV) (.block 2 (.loop ES))) (.region TZ))) K F H:=by
 have f0:F 0=some (.ptr o 2 0 0):=hF 0 _ (by unfold cK; simp only[go_sem]);have f4:F 4=some (.ptr o4 4 0 0):=hF 4 _ (by unfold cK; simp only[go_sem]);have f5:F 5=some (.int .i64 n):=hF 5 _ (by unfold cK; simp only[go_sem]);have f6:F 6=some (.ptr o6 4 0 0):=hF 6 _ (by unfold cK; simp only[go_sem]);have f7:F 7=some (.int .i64 left):=hF 7 _ (by unfold cK; simp only[go_sem]);have f8:F 8=some (.int .i64 i):=hF 8 _ (by unfold cK; simp only[go_sem]);simp only[go_sem,TU,TV];refine arZ (C:=C) Lb T o o4 o6 n left i a ha hn hi ([(o4,Cr),(o6,TK w1 w2 w3)]++B) (sK s w1 w2 w3) _ _ H ?_ hH ?_
 ·unfold eX
  (repeat' (first|exact PF.nil_le|refine PF.aJ ?_ ?_))<;>first|(simp only[go_sem,f0,f4,f5,f6,f7,f8]<;>rfl)|rfl
 intro w R H1 p U;have J:=VA l i a n;have hw:∃ q,w=.osl q 3 0 n:=by
  rcases U.own (v:=w) 3 rfl with ⟨h1,_⟩ | ⟨q,rs,h1,_⟩
  ·have:=congrArg List.length h1;rw[kX,J] at this;simp at this; omega
  ·rw[kX,J] at h1;exact⟨q,h1⟩
 obtain⟨q,rfl⟩:=hw;have g0:R 0=some (.ptr o 2 0 0):=p 0 _ (by unfold eX; simp only[go_sem]);have g4:R 4=some (.ptr o4 4 0 0):=p 4 _ (by unfold eX; simp only[go_sem]);have g5:R 5=some (.int .i64 n):=p 5 _ (by unfold eX; simp only[go_sem]);have g6:R 6=some (.ptr o6 4 0 0):=p 6 _ (by unfold eX; simp only[go_sem]);have g7:R 7=some (.int .i64 left):=p 7 _ (by unfold eX; simp only[go_sem]);have g8:R 8=some (.int .i64 i):=p 8 _ (by unfold eX; simp only[go_sem]);have δ:R 13=some (.osl q 3 0 n):=p 13 _ (by unfold eX; simp only[go_sem]);have b6:=U.at 2 rfl;have ε:(1:Nat)*1≤16777216:=by decide
 simp only[go_sem,TZ,g6,b6,δ,ε,aXP,aXX,or_false,forall_eq];refine U.append 1 (src:=[[.osl q 3 0 n]]) rfl Sq (aeS Om) fun β H2 h2 η=>?_;obtain⟨q2,rfl⟩:=η (by simp);have γ:=h2.at 2 rfl;simp only[go_sem,γ,aXP,aXX,or_false,forall_eq];have h3:=h2.set 2 rfl (TK w1 (.osl q2 1 0 (sF s.aWE++[[PV.osl q 3 0 n]]).length) w3);have ζ:(sF s.aWE++[[(PV.osl q 3 0 n:PV)]]).length=s.aWE.length+1:=by simp
 rw[ζ] at h3 ⊢;refine hK (.osl q2 1 0 (s.aWE.length+1)) (.osl q 3 0 n) _ _ B ?_ ⟨q,rfl⟩ h3;unfold cK
 (repeat' (first|exact PF.nil_le|refine PF.aJ ?_ ?_))<;>first|(simp only[go_sem,g0,g4,g5,g6,g7,g8]<;>rfl)|rfl
theorem O6 {C:Ctx} (Lb:oX C) {l:List Nat} {v:PV} (T:Tp l v) (o dR a:Nat) (hm:0<dR) (τ:dR≤50) (ha:a≤l.length):KW.wp C (aW Dp.res (aoW l v o dR a)) (PF.args [.ptr o 2 0 0,.int .i64 dR]) (PH.nil.set o (bG v a)):=by
 have h0:aP (PH.nil.set o (bG v a)) [(o,bG v a)] []:=aP.nil.new (H:=PH.nil) rfl (bG v a);simp only[go_sem,KW,O7,Dp];refine aT fun o4 ρ=>?_;have h1:=h0.new ρ Cr;simp only[go_sem,O8];refine cR Lb.toxC T (o:=o) (n:=dR) (a:=a) Om ha Sq (h1.at 0 rfl) ?_;have h2:=h1.set 0 rfl (bG v (aD l dR a).2);have hN:=bZ l hm a;have ξ:=bJ l dR ha;have e1:IntKind.i64.wrap (1+((aD l dR a).1:Int))=((1+(aD l dR a).1:Nat):Int):=by rw[wrap_i64 Om Om]; omega
 have ο:∀ s:yK,s=fD l (1+(aD l dR a).1) (aD l dR a).2 (1+(aD l dR a).1)→oS l dR a=(⟨[],s.start,s.aWE,s.exit⟩,s.a):=fun s hs=>by rw[hs]; rfl
 have ν:∀ r H,aoW l v o dR a r H↔r=.agg (oS l dR a).1.cells∧H=PH.nil.set o (bG v (oS l dR a).2):=fun _ _=>Iff.rfl;generalize hn:1+(aD l dR a).1=n at *
 generalize hb:(aD l dR a).2=b at *
 have υ:0<n:=Om;have p:n≤100:=Om;simp only[go_sem,e1,O9];refine aT fun o6 σ=>?_;have h3:=((h2.new σ Cr).rZ 3).rZ 1;have h4:=h3.rZ 3;simp only[go_sem,Pa,Pb];refine wp_loop (α:=Nat × PV × PV × PV × PH) (fun t=>cK o o4 o6 n (fD l n b t.1).left t.1) (fun t=>t.2.2.2.2)
  (fun t=>t.1≤n∧aP t.2.2.2.2 (pJ o o4 o6 v t.2.1 t.2.2.1 t.2.2.2.1 (fD l n b t.1).a) (sK (fD l n b t.1) t.2.1 t.2.2.1 t.2.2.2.1)) (fun t=>n-t.1) (0,.aB,.aB,.aB,_) ⟨aXU _,h4⟩ ?_ PH.le_refl ?_
 ·unfold cK
  (repeat' (first|exact PF.nil_le|refine PF.aJ ?_ ?_))<;>first|(simp only[go_sem,fD]<;>rfl)|rfl
 rintro⟨i,w1,w2,w3,H0⟩ ⟨hi,hH⟩;simp only at hi hH ⊢;obtain⟨k1,k2,k3,k4,k5⟩:=ib l n ξ i;simp only[go_sem,Dq,Pc,cK];by_cases hlt:i<n
 ·have γ:(i:Int)<(n:Nat):=Om;have δ:fD l n b (i+1)=⟨(fD l n b i).start++[mkT ((cZ l n i (fD l n b i)).1:Nat) 8],(fD l n b i).exit++[(eF l n i (cZ l n i (fD l n b i)).2).1],(fD l n b i).aWE++[(dA l i (eF l n i (cZ l n i (fD l n b i)).2).2 n).1],(fD l n b i).left-(cZ l n i (fD l n b i)).1,(dA l i (eF l n i (cZ l n i (fD l n b i)).2).2 n).2⟩:=rfl;have kl:=TL l n i (fD l n b i) k1;have ke:=y6 l n i kl.1;generalize hs:fD l n b i=s at *
  simp only[go_sem,γ];refine acT (C:=C) Lb T o o4 o6 n i s k1 k2 p hlt [(o4,Cr),(o6,TK w1 w2 w3)] (sK s w1 w2 w3) _ _ _ H0 (by unfold cK; exact Lq) hH ?_;intro F1 H1 ε f9 θ;refine Um (C:=C) (l:=l) Lb o o4 o6 n i _ (cZ l n i s).1 (cZ l n i s).2 Om hlt p s k3 w1 w2 w3 [] _ _ F1 H1 ε f9 θ ?_;intro J F2 H2 B2 ζ ι;refine acS (C:=C) Lb T o o4 o6 n i _ (cZ l n i s).2 kl.1 hlt p { s with start:=s.start++[mkT ((cZ l n i s).1:Nat) 8] } k4 J w2 w3 B2 _ _ F2 H2 ζ ι ?_;intro R F3 H3 B3 η κ;refine Ul (C:=C) Lb T o o4 o6 n _ i (eF l n i (cZ l n i s).2).2 ke p hlt { s with start:=s.start++[mkT ((cZ l n i s).1:Nat) 8],exit:=s.exit++[(eF l n i (cZ l n i s).2).1] } k5 J w2 R B3 _ F3 H3 η κ ?_;rintro β φ F4 H4 B4 U ⟨q,rfl⟩ μ;have g0:F4 0=some (.ptr o 2 0 0):=U 0 _ (by unfold cK; simp only[go_sem]);have g4:F4 4=some (.ptr o4 4 0 0):=U 4 _ (by unfold cK; simp only[go_sem]);have g5:F4 5=some (.int .i64 n):=U 5 _ (by unfold cK; simp only[go_sem]);have g6:F4 6=some (.ptr o6 4 0 0):=U 6 _ (by unfold cK; simp only[go_sem]);have g7:F4 7=some (.int .i64 (s.left-(cZ l n i s).1:Nat)):=U 7 _ (by unfold cK; simp only[go_sem]);have g8:F4 8=some (.int .i64 i):=U 8 _ (by unfold cK; simp only[go_sem]);obtain⟨rs,z1,z2,z3,z4,z5⟩:=μ.frz 3 rfl;have y1:=z4 0 _ (by decide) rfl;have y2:=z4 1 _ (by decide) rfl;have y3:=z4 2 _ (by decide) rfl;simp only at y1 y2 y3;have y4:=T.frz q 3 rs;simp only[go_sem,Du,g8,wZz i];refine oo (i+1,J,β,R,H4.frz q 3 rs) z1 ⟨hlt,?_⟩ (by simp only; omega) ?_ PH.le_refl
  ·rw[δ];have eB:(pJ o o4 o6 v J β R (dA l i (eF l n i (cZ l n i s).2).2 n).2).map (fun b=>(b.1,b.2.frz q 3 rs))=pJ o o4 o6 v J β R (dA l i (eF l n i (cZ l n i s).2).2 n).2:=by simp only[aYU,aZN,bX.frz,y1,y2,y3,y4];rfl
   have eL:([(J,3,fI (s.start++[mkT ((cZ l n i s).1:Nat) 8])),(β,1,sF s.aWE++[[.osl q 3 0 n]]),(R,3,fI (s.exit++[(eF l n i (cZ l n i s).2).1]))]:List LI).map (fun x=>(x.1,x.2.1,x.2.2.map fun r=>r.map (PV.cN q 3 rs))) =
     sK ⟨s.start++[mkT ((cZ l n i s).1:Nat) 8],s.exit++[(eF l n i (cZ l n i s).2).1],s.aWE++[(dA l i (eF l n i (cZ l n i s).2).2 n).1],s.left-(cZ l n i s).1,(dA l i (eF l n i (cZ l n i s).2).2 n).2⟩ J β R:=by
    have e2:(sF s.aWE++[[PV.osl q 3 0 n]]).map (fun r=>r.map (PV.cN q 3 rs))=sF (s.aWE++[(dA l i (eF l n i (cZ l n i s).2).2 n).1]):=by rw[aYN,so,aYU,aZN,aYU,aZN,z2,aeT]
    show ([(J,3,(fI (s.start++[mkT ((cZ l n i s).1:Nat) 8])).map (fun r=>r.map (PV.cN q 3 rs))),(β,1,(sF s.aWE++[[PV.osl q 3 0 n]]).map (fun r=>r.map (PV.cN q 3 rs))),(R,3,(fI (s.exit++[(eF l n i (cZ l n i s).2).1])).map (fun r=>r.map (PV.cN q 3 rs)))]:List LI)=_;rw[DB,e2,DB]
   rw[← eB,← eL];exact z5.sub (by rw[aYN]; exact List.sublist_append_left ..) (aZJ.refl _)
  ·rw[δ]
   (repeat' (first|exact PF.nil_le|refine PF.aJ ?_ ?_))<;>first|(simp only[go_sem,g0,g4,g5,g6,g7,g8]<;>rfl)|rfl
 ·have γ:¬ (i:Int)<(n:Nat):=Om;have:i=n:=Om;subst this;simp only[go_sem,γ,Dv];have b4:=hH.at 1 rfl;have b6:=hH.at 2 rfl;have osl:∀ {w:PV} {z:Nat} {rows:List (List PV)},rows.length=i→bO H0 z w rows→∃ q,w=.osl q z 0 i:=by
   intro w z rows hr hO;rcases hO with ⟨h1,_⟩ | ⟨q,rs,h1,_⟩
   ·rw[h1] at hr; simp at hr; omega
   ·exact⟨q,by rw[h1,hr]⟩
  obtain⟨q1,rfl⟩:=osl (by rw[kX,k3]) (hH.own 0 rfl);obtain⟨q2,rfl⟩:=osl (by rw[aXI,k5]) (hH.own 1 rfl);obtain⟨q3,rfl⟩:=osl (by rw[kX,k4]) (hH.own 2 rfl);have hR:=ο (fD l i b i) rfl;simp only[go_sem,b6,b4,aXP,aXX,or_false,forall_eq,forall_eq_or_imp];have x1:=hH.set 1 rfl (TK (.osl q1 3 0 i) (.osl q2 1 0 i) (.osl q3 3 0 i));obtain⟨r1,s1,s2,s3,s4,s5⟩:=x1.frz 0 rfl;have u2:=s4 1 _ (by decide) rfl;have u3:=s4 2 _ (by decide) rfl;simp only at u2 u3;have u4:=T.frz q1 3 r1;obtain⟨r2,t1,t2,t3,t4,t5⟩:=s5.frz 0 rfl;have m3:=t4 1 _ (by decide) rfl;simp only at m3;have m4:=T.frz q2 1 r2;obtain⟨r3,n1,n2,n3,n4,n5⟩:=t5.frz 0 rfl;have n4:=T.frz q3 3 r3;refine BG (vs:=[.agg [.str [],.osl q1 3 0 i,.osl q2 1 0 i,.osl q3 3 0 i]]) (.inr rfl) ?_ (.step s1 (.step t1 (.step n1 (.done (H2:=PH.nil.set o (bG v (fD l i b i).a)) ?_ (PH.aJ PH.nil_le ?_)))))
  ·simp only[go_sem]
  ·rw[ν,hR];refine⟨?_,rfl⟩;simp only[dB,PV.frz,PV.qV,aYU,aZN,s2,u2,u3,t2,m3,n2];simp only[PV.cN,DB _ _ _ _,so _ _ _ _]
  ·have:=n5.at 0 rfl;rw[this];simp only[bX.frz,aYU,aZN,u4,m4,n4];rfl
structure kT (C:Ctx):Prop extends oX C where
 law:∀ (l:List Nat) (v:PV),Tp l v→∀ (o dR a:Nat),0<dR→dR≤50→a≤l.length→aH C 2 [.ptr o 2 0 0,.int .i64 dR] (PH.nil.set o (bG v a)) (aoW l v o dR a)
structure GOk (l:List Nat) (aVZ:Nat) (s:GS):Prop where
 aWI:s.aWI.length≤35
 aWR:s.aWR.length≤aVZ
 a:s.a≤l.length
theorem SU {l:List Nat} {mc aVZ dom:Nat} {s:GS} (h:GOk l aVZ s):∀ i,GOk l aVZ (gP l mc aVZ dom s i)∧(gP l mc aVZ dom s i).aWI=s.aWI
 | 0=>⟨h,rfl⟩
 | i+1=>by
  obtain⟨⟨p,U,J⟩,R⟩:=SU (mc:=mc) (dom:=dom) h i;simp only[gP];split
  ·exact⟨⟨p,by simp only[aXN,aXR]; omega,bJ l mc J⟩,R⟩
  ·exact⟨⟨p,U,J⟩,R⟩
theorem Mp {l:List Nat} {level dom aVZ:Nat} {s:GS} (h:GOk l aVZ s) (i:oF aVZ s=false):GOk l aVZ (jR l level dom s)∧∃ x:cI,(jR l level dom s).aWI=s.aWI++[x]∧x.level=(level:Int)∧x.parent=(dom:Int):=by
 obtain⟨R,p,J⟩:=h;unfold oF at i;rw[Bool.or_eq_false_iff] at i;have U:=of_decide_eq_false i.2;refine⟨⟨?_,p,?_⟩,_,rfl,rfl,rfl⟩
 ·simp only[jR,aXN,aXR]; omega
 ·have a1:=bJ l 3 (bJ l 16 J);simp only[jR];split
  ·exact bJ l 6 a1
  ·exact a1
theorem SV {l:List Nat} {level aVZ dom:Nat} {rec:Nat→GS→GS} (p:∀ d t,GOk l aVZ t→GOk l aVZ (rec d t)∧∃ u,(rec d t).aWI=t.aWI++u) {s:GS} (h:GOk l aVZ s) :
  ∀ i,GOk l aVZ (eR l level aVZ dom rec s i)∧∃ u,(eR l level aVZ dom rec s i).aWI=s.aWI++u
 | 0=>⟨h,[],by simp[eR]⟩
 | i+1=>by
  obtain⟨J,u,R⟩:=SV p h i;simp only[eR];split
  ·exact⟨J,u,R⟩
  ·rename_i U;obtain⟨g1,x,g2,-⟩:=Mp (level:=level) (dom:=dom) J (by simpa using U);obtain⟨k1,u',k2⟩:=p ((jR l level dom (eR l level aVZ dom rec s i)).aWI.length-1) _ g1;exact⟨k1,u++[x]++u',by rw[k2,g2,R]; simp⟩
theorem DM {l:List Nat} {mc aVZ:Nat}:∀ (k dom:Nat) {s:GS},GOk l aVZ s→GOk l aVZ (dV l mc aVZ k dom s)∧∃ u,(dV l mc aVZ k dom s).aWI=s.aWI++u
 | 0,dom,s,h=>by have i:GOk l aVZ { s with a:=(aD l 2 s.a).2 }:=⟨h.aWI,h.aWR,bJ l 2 h.a⟩;obtain⟨p,J⟩:=SU (mc:=mc) (dom:=dom) i (1+(aD l 2 s.a).1);exact⟨p,[],by simp only[dV]; rw[J]; simp⟩
 | k+1,dom,s,h=>by have i:GOk l aVZ { s with a:=(aD l 2 s.a).2 }:=⟨h.aWI,h.aWR,bJ l 2 h.a⟩;exact SV (level:=4-k) (dom:=dom) (fun d t R=>DM k d R) i (if 4-k=2 then 1 else 1+(aD l 2 s.a).1)
theorem T4 {l : List Nat} {level aVZ dom : Nat} {rec : Nat → GS → GS} {s : GS} {i : Nat} (h : oF aVZ (eR l level aVZ dom rec s i) = true) : ∀ n, i ≤ n → eR l level aVZ dom rec s n = eR l level aVZ dom rec s i := by
  intro n R
  induction n with
  | zero => have : i = 0 := Om
            subst this; rfl
  | succ n J =>
    rcases aXZ n i with p | p
    · have : i = n + 1 := Om
      subst this; rfl
    · have e := J p
      simp only [eR];rw [e, if_pos h]
def mkS (l:List Nat) (v:PV):Spec:=fun name vs=>match name,vs with
 | 29,[.str s,.int _ i]=>some ([],fun _=>aL (.str (s++bQ i.toNat)))
 | 47,[.int _ n]=>some ([],fun _=>aL (.agg (mkT n 1).cells))
 | 4,[.ptr o _ _ _,.int _ n]=>some ([o],fun p r H'=>∀ a,p o=some (bG v a)→VY l v o n.toNat a r H')
 | _,_=>none
section
variable {C:Ctx} {F:PF} {H Hs:PH} {l:List Nat} {v:PV} {o a:Nat}
theorem pO (Lb:xC C) (T:Tp l v) {n:Nat} {st:Bool} {args:List aO} {d:Option Nat} {K:PF→PH→Prop} (hn:n≤1000000) (ha:a≤l.length) (p:aO.evs F args=some [.ptr o 2 0 0,.int .i64 n]) (ho:H o=some (bG v a))
  (J:Hs.le (H.set o (bG v (aD l n a).2))) (hk:K (F.put d (.int .i64 ((aD l n a).1:Nat))) (H.set o (bG v (aD l n a).2))):dOp C Hs (mkS l v) st (.call 4 args) d K F H:=by
 refine aqC (x:=bG v a) (y:=bG v (aD l n a).2) (r:=.int .i64 ((aD l n a).1:Nat)) (R:=fun U r H'=>∀ a,U o=some (bG v a)→VY l v o n a r H') rfl ho (Lb.next l v T o n a hn ha) ?_ ?_ p J hk
 ·intro b i;rw[cD] at i;injection i with i
  injection i with _ i
  injection i with i _
  injection i with _ i
  injection i with i _
  injection i with _ i
  have:a=b:=Om;subst this;exact⟨rfl,rfl⟩
 ·intro r' H' hr;exact hr a (by rw[cD])
theorem CO (J:oX C) {s:List UInt8} {n:Nat} {st:Bool} {args:List aO} {d:Option Nat} {K:PF→PH→Prop} (hs:s.length≤100) (U:n<100) (i:aO.evs F args=some [.str s,.int .i64 n]) (p:Hs.le H) (R:K (F.put d (.str (s++bQ n))) H) :
  dOp C Hs (mkS l v) st (.call 29 args) d K F H :=
 cW (v:=.str (s++bQ n)) rfl (J.name s n hs U) i p R
theorem aAC (J:xC C) {n:Int} {st:Bool} {args:List aO} {d:Option Nat} {K:PF→PH→Prop} (U:dC n) (i:aO.evs F args=some [.int .i64 n]) (p:Hs.le H) (R:K (F.put d (.agg (mkT n 1).cells)) H) :
  dOp C Hs (mkS l v) st (.call 47 args) d K F H :=
 cW (v:=.agg (mkT n 1).cells) rfl (J.int n U) i p R
end
theorem bO.qX {H:PH} {s:Nat} {v:PV} {rows:List (List PV)} (h:bO H s v rows):PV.qX v=some (.int .i64 (rows.length:Nat)):=by
 rcases h with ⟨rfl,rfl⟩ | ⟨q,rs,rfl,_⟩<;>rfl
abbrev jA (l:List cI):List (List PV):=l.map cI.cells
abbrev kW (l:List cS):List (List PV):=l.map cS.cells
abbrev flB (ext wl l i p wp wv:PV):bX:=.rows 7 [[ext,wl,l,i,p,wp,wv]]
structure GE where
 o:Nat
 fo:Nat
 qm:Nat
 ext:PV
 wl:PV
 wp:PV
 wv:PV
abbrev GE.boxes (G:GE) (v:PV) (mc:Nat) (i l:PV) (a:Nat):List BX:=[(G.o,bG v a),(G.fo,flB G.ext G.wl (.osl G.qm 4 0 mc) i l G.wp G.wv)]
abbrev kN (s:GS) (i l:PV):List LI:=[(i,7,jA s.aWI),(l,3,kW s.aWR)]
def eG (G:GE) (dom aVZ level n i:Nat):PF:=(((((((PF.nil.set 0 (.ptr G.o 2 0 0)).set 1 (.ptr G.fo 7 0 0)).set 2 (.int .i64 dom)).set 3 (.int .i64 aVZ)).set 8 (.int .i64 level)).set 9 (.int .i64 n)).set 10 (.int .i64 i))
theorem bO.one {H:PH} {s:Nat} {v:PV} {rows:List (List PV)} (h:bO H s v rows) (i:0<rows.length):∃ q,v=.osl q s 0 rows.length:=by
 rcases h with ⟨rfl,_⟩ | ⟨q,rs,rfl,_⟩
 ·simp at i
 ·exact⟨q,rfl⟩
theorem Dg {C:Ctx} (Lb:kT C) {l:List Nat} {v:PV} (T:Tp l v) (G:GE) (mc aVZ dom n:Nat) (κ:0<mc) (θ:mc≤1000) (ι:aVZ≤60) (hn:n≤10) (s:GS) (hs:GOk l aVZ s) (R wr:PV) (K:bT) (F:PF) (H:PH)
  (hF:(eG G dom aVZ 5 n 0).le F) (U:aP H (G.boxes v mc R wr s.a) (kN s R wr))
  (hK:∀ ζ γ F' H',aP H' (G.boxes v mc ζ γ (gP l mc aVZ dom s n).a) (kN (gP l mc aVZ dom s n) ζ γ)→K (.exit 0) F' H') :
  aA.wp C (.loop tD) K F H:=by
 refine wp_loop (α:=Nat × PV × PV × PH) (fun t=>eG G dom aVZ 5 n t.1) (fun t=>t.2.2.2) (fun t=>t.1≤n∧aP t.2.2.2 (G.boxes v mc t.2.1 t.2.2.1 (gP l mc aVZ dom s t.1).a) (kN (gP l mc aVZ dom s t.1) t.2.1 t.2.2.1)) (fun t=>n-t.1) (0,R,wr,H) ⟨aXU _,U⟩ hF PH.le_refl ?_;rintro⟨i,R,wr,H0⟩ ⟨hi,U⟩;simp only at hi U ⊢;obtain⟨gs,-⟩:=SU (mc:=mc) (dom:=dom) hs i;have p:gP l mc aVZ dom s (i+1)=(if (gP l mc aVZ dom s i).aWR.length<aVZ then { gP l mc aVZ dom s i with aWR:=(gP l mc aVZ dom s i).aWR++[⟨[100]++bQ (gP l mc aVZ dom s i).aWR.length,((aD l mc (gP l mc aVZ dom s i).a).1:Nat),(dom:Nat)⟩],a:=(aD l mc (gP l mc aVZ dom s i).a).2 } else gP l mc aVZ dom s i):=rfl;simp only[go_sem,tD,TM,eG];by_cases hlt:i<n
 ·have J:(i:Int)<(n:Nat):=Om;generalize hg:gP l mc aVZ dom s i=g at *
  have b1:=U.at 1 rfl;have lr:=(U.own 1 rfl).qX;rw[aXI] at lr;have ei:=wZz i;simp only[go_sem,J,TN,show (((5:Nat):Int)==5)=true from rfl,Dm,b1,lr];by_cases hc:g.aWR.length<aVZ
  ·have β:(g.aWR.length:Int)<(aVZ:Nat):=Om;rw[if_pos hc] at p;simp only[go_sem,β];have ε:(PH.nil.set G.fo (flB G.ext G.wl (.osl G.qm 4 0 mc) R wr G.wp G.wv)).le H0:=PH.aJ PH.nil_le b1;refine cJ (PH.nil.set G.fo (flB G.ext G.wl (.osl G.qm 4 0 mc) R wr G.wp G.wv)) (mkS l v) ε ?_;simp only[go_sem,Dn,b1,lr];refine CO Lb.tooX (s:=[100]) (n:=g.aWR.length) (by decide) (by have:=gs.aWR; omega) rfl ε ?_;simp only[go_sem];have ho:=U.at 0 rfl;have h1:=U.set 0 rfl (bG v (aD l mc g.a).2);have η:=h1.at 1 rfl;refine pO Lb.toxC T (o:=G.o) (n:=mc) (a:=g.a) Om gs.a rfl ho (PH.aJ PH.nil_le η) ?_;have δ:(1:Nat)*3≤16777216:=by decide
   simp only[go_sem,δ,aXP,aXX,or_false,forall_eq,forall_eq_or_imp];refine h1.append 1 (src:=[(⟨[100]++bQ g.aWR.length,((aD l mc g.a).1:Nat),(dom:Nat)⟩:cS).cells]) rfl rfl (by unfold roomFor; rw[aXI]; have:=gs.aWR; simp only[aXR,maxLen]; omega) fun γ H2 h2 hw=>?_;obtain⟨q,rfl⟩:=hw (by simp);have b2:=h2.at 1 rfl;refine⟨PH.aJ PH.nil_le b2,?_⟩;refine cJ .nil eU PH.nil_le ?_;simp only[go_sem,Do,b2,aXP,aXX,or_false,forall_eq];have h3:=h2.set 1 rfl (flB G.ext G.wl (.osl G.qm 4 0 mc) R (.osl q 3 0 (kW g.aWR++[(⟨[100]++bQ g.aWR.length,((aD l mc g.a).1:Nat),(dom:Nat)⟩:cS).cells]).length) G.wp G.wv);refine⟨PH.nil_le,?_⟩;simp only[go_sem,tE,ei];refine aM (i+1,R,.osl q 3 0 (kW g.aWR++[(⟨[100]++bQ g.aWR.length,((aD l mc g.a).1:Nat),(dom:Nat)⟩:cS).cells]).length,_) ⟨hlt,?_⟩ (by simp only; omega) ?_ PH.le_refl
   ·rw[p];have e:kW (g.aWR++[(⟨[100]++bQ g.aWR.length,((aD l mc g.a).1:Nat),(dom:Nat)⟩:cS)])=kW g.aWR++[(⟨[100]++bQ g.aWR.length,((aD l mc g.a).1:Nat),(dom:Nat)⟩:cS).cells]:=by simp[kW]
    unfold kN;simp only;rw[e];exact h3
   ·exact Lq
  ·have β:¬ (g.aWR.length:Int)<(aVZ:Nat):=Om;rw[if_neg hc] at p;simp only[go_sem,β,tE,ei];refine aM (i+1,R,wr,H0) ⟨hlt,by rw[p]; exact U⟩ (by simp only; omega) ?_ PH.le_refl;exact Lq
 ·have J:¬ (i:Int)<(n:Nat):=Om;have:i=n:=Om;subst this;simp only[go_sem,J];exact hK R wr _ _ U
def Sv (G:GE) (v:PV) (mc:Nat) (s':GS) (r:PV) (B':List BX) (L':List LI):Prop:=r=.tup []∧∃ i l,B'=G.boxes v mc i l s'.a∧L'=kN s' i l
def VU (C:Ctx) (l:List Nat) (v:PV) (mc aVZ k:Nat):Prop :=
 ∀ (G:GE) (p J:PV) (s:GS) (dom:Nat) (x:cI),GOk l aVZ s→s.aWI[dom]?=some x→x.level=4-(k:Int)→∀ i,aP i (G.boxes v mc p J s.a) (kN s p J) →
  aH C 7 [.ptr G.o 2 0 0,.ptr G.fo 7 0 0,.int .i64 dom,.int .i64 aVZ] i (fun r H'=>∃ B' L',Sv G v mc (dV l mc aVZ k dom s) r B' L'∧aP H' B' L')
theorem acF {lv:Nat} (h:lv≤4):([45,115,114,107,109]:List UInt8)[lv]?=some (jZ lv):=by
 match lv,h with
 | 0,_=>rfl
 | 1,_=>rfl
 | 2,_=>rfl
 | 3,_=>rfl
 | 4,_=>rfl
theorem QA {C:Ctx} {l:List Nat} {v:PV} (G:GE) (mc aVZ dom lv n i k p:Nat) (μ:lv=4-k) (hk:k<4) (α:VU C l v mc aVZ k) (g:GS) (x:cI) (a:Nat) (hg:GOk l aVZ { g with aWI:=g.aWI++[x],a:=a }) (hx:x.level=(lv:Nat)) (wd U:PV) (κ:aVZ≤60) (K:bT) (F:PF) (H:PH)
  (J:(eG G dom aVZ lv n i).le F) (f11:F 11=some (.ptr p 7 0 0)) (hH:aP H (G.boxes v mc wd U a++[(p,.rows 7 [x.cells])]) (kN g wd U))
  (hK:∀ R β F' H',(eG G dom aVZ lv n i).le F'→aP H' (G.boxes v mc R β (dV l mc aVZ k g.aWI.length { g with aWI:=g.aWI++[x],a:=a }).a) (kN (dV l mc aVZ k g.aWI.length { g with aWI:=g.aWI++[x],a:=a }) R β)→K .normal F' H') :
  aA.wp C (.draw KP) (fZ C (aA.wp C (.region KQ)) K) F H:=by
 have f0:F 0=some (.ptr G.o 2 0 0):=J 0 _ (by unfold eG; simp only[go_sem]);have f1:F 1=some (.ptr G.fo 7 0 0):=J 1 _ (by unfold eG; simp only[go_sem]);have f2:F 2=some (.int .i64 dom):=J 2 _ (by unfold eG; simp only[go_sem]);have f3:F 3=some (.int .i64 aVZ):=J 3 _ (by unfold eG; simp only[go_sem]);have f8:F 8=some (.int .i64 lv):=J 8 _ (by unfold eG; simp only[go_sem]);have f9:F 9=some (.int .i64 n):=J 9 _ (by unfold eG; simp only[go_sem]);have ι:F 10=some (.int .i64 i):=J 10 _ (by unfold eG; simp only[go_sem]);have ζ:=hg.aWI;simp only[aXN,aXR] at ζ;have b1:=hH.at 1 rfl;have b2:=hH.at 2 rfl;have γ:(1:Nat)*7≤16777216:=by decide
 refine cJ .nil eU PH.nil_le ?_;simp only[go_sem,KP,f1,f11,b1,b2,γ,aXP,aXX,or_false,forall_eq,forall_eq_or_imp];refine hH.append 0 (src:=[x.cells]) rfl rfl (by unfold roomFor; rw[aXI]; simp only[aXR,maxLen]; omega) fun R H2 h2 hw=>?_;obtain⟨q,rfl⟩:=hw (by simp);have hl:(jA g.aWI++[x.cells]).length=g.aWI.length+1:=by simp
 rw[hl] at h2 ⊢;have c1:=h2.at 1 rfl;refine⟨PH.nil_le,?_⟩;simp only[go_sem,c1,aXP,aXX,or_false,forall_eq];have h3:=h2.set 1 rfl (flB G.ext G.wl (.osl G.qm 4 0 mc) (.osl q 7 0 (g.aWI.length+1)) U G.wp G.wv);have c2:=h3.at 1 rfl;refine⟨PH.nil_le,?_⟩;have e:jA (g.aWI++[x])=jA g.aWI++[x.cells]:=by simp[jA]
 have ew:IntKind.i64.wrap (((g.aWI.length+1:Nat):Int)-1)=(g.aWI.length:Int):=by rw[wrap_i64 Om Om]; omega
 simp only[go_sem,KQ,f0,f1,f3,ew];have h4:aP (H2.set G.fo (flB G.ext G.wl (.osl G.qm 4 0 mc) (.osl q 7 0 (g.aWI.length+1)) U G.wp G.wv)) (G.boxes v mc (.osl q 7 0 (g.aWI.length+1)) U a++[(p,.rows 7 [x.cells])]) (kN { g with aWI:=g.aWI++[x],a:=a } (.osl q 7 0 (g.aWI.length+1)) U++[]):=by unfold kN;simp only;rw[e];exact h3
 refine AM h4 (fun H0 ε=>α G _ U { g with aWI:=g.aWI++[x],a:=a } g.aWI.length x hg (by simp) (by rw[hx]; omega) H0 ε) rfl ?_;rintro r B' L' H' ⟨rfl,η,θ,rfl,rfl⟩ δ;refine hK η θ _ _ ?_ (δ.sub (List.sublist_append_left ..) (by rw[aZK]; exact aZJ.refl _));unfold eG;exact Lq
theorem HM {C:Ctx} (Lb:kT C) {l:List Nat} {v:PV} (T:Tp l v) (G:GE) (mc aVZ dom n k:Nat) (hk:k<4) (κ:aVZ≤60) (hn:n≤10) (η:VU C l v mc aVZ k) (s:GS) (hs:GOk l aVZ s) (ρ:0<s.aWI.length) (wd wr:PV) (K:bT) (F:PF) (H:PH)
  (hF:(eG G dom aVZ (4-k) n 0).le F) (hH:aP H (G.boxes v mc wd wr s.a) (kN s wd wr))
  (hK:∀ e β γ U H',(e=.exit 0∨e=.ret)→aP H' (G.boxes v mc β γ (eR l (4-k) aVZ dom (dV l mc aVZ k) s n).a) (kN (eR l (4-k) aVZ dom (dV l mc aVZ k) s n) β γ)→K e U H') :
  aA.wp C (.loop tD) K F H:=by
 obtain⟨lv,ι⟩:∃ lv,lv=4-k:=⟨_,rfl⟩;rw[← ι] at hF hK;refine wp_loop (α:=Nat × PV × PV × PH) (fun t=>eG G dom aVZ lv n t.1) (fun t=>t.2.2.2) (fun t=>t.1≤n∧aP t.2.2.2 (G.boxes v mc t.2.1 t.2.2.1 (eR l lv aVZ dom (dV l mc aVZ k) s t.1).a) (kN (eR l lv aVZ dom (dV l mc aVZ k) s t.1) t.2.1 t.2.2.1)) (fun t=>n-t.1) (0,wd,wr,H) ⟨aXU _,hH⟩ hF PH.le_refl ?_;rintro⟨i,wd,wr,H0⟩ ⟨hi,hH⟩;simp only at hi hH ⊢;obtain⟨gs,u,gu⟩:=SV (level:=lv) (dom:=dom) (fun d t ht=>DM (mc:=mc) k d ht) hs i;have ε:=fun h=>T4 (l:=l) (level:=lv) (aVZ:=aVZ) (dom:=dom) (rec:=dV l mc aVZ k) (s:=s) (i:=i) h n hi;have R:eR l lv aVZ dom (dV l mc aVZ k) s (i+1)=(if oF aVZ (eR l lv aVZ dom (dV l mc aVZ k) s i) then eR l lv aVZ dom (dV l mc aVZ k) s i else dV l mc aVZ k ((jR l lv dom (eR l lv aVZ dom (dV l mc aVZ k) s i)).aWI.length-1) (jR l lv dom (eR l lv aVZ dom (dV l mc aVZ k) s i))):=rfl;simp only[go_sem,tD,TM,eG];by_cases hlt:i<n
 ·have ζ:(i:Int)<(n:Nat):=Om;generalize hg:eR l lv aVZ dom (dV l mc aVZ k) s i=g at *
  have ο:0<g.aWI.length:=by rw[gu,aXN]; omega
  have b1:=hH.at 1 rfl;have lr:=(hH.own 1 rfl).qX;have ld:=(hH.own 0 rfl).qX;rw[aXI] at lr ld;have ei:=wZz i;simp only[go_sem,ζ,TN,bF (Om:((lv:Nat):Int)≠5),p4,b1,lr];by_cases c1:aVZ≤g.aWR.length
  ·have hf:oF aVZ g=true:=by unfold oF; simp[c1]
   simp only[go_sem,show (g.aWR.length:Int)≥(aVZ:Nat) by omega];exact hK _ wd wr _ _ (.inr rfl) (by rw[ε hf]; exact hH)
  simp only[go_sem,show ¬ (g.aWR.length:Int)≥(aVZ:Nat) by omega,b1,ld];by_cases c2:35≤g.aWI.length
  ·have hf:oF aVZ g=true:=by unfold oF; simp[c2]
   simp only[go_sem,show (g.aWI.length:Int)≥35 by omega];exact hK _ wd wr _ _ (.inr rfl) (by rw[ε hf]; exact hH)
  have hf:oF aVZ g=false:=by unfold oF; simp[c1,c2]
  rw[if_neg (by rw[hf]; decide)] at R;simp only[go_sem,show ¬ (g.aWI.length:Int)≥35 by omega];have ls:=acF (Om:lv≤4);refine cJ .nil (mkS l v) PH.nil_le ?_;have ν:nF [[PV.int IntKind.u8 (((jZ lv).toNat:Nat):Int)]]=some [jZ lv]:=by simp[nF]
  obtain⟨gg,x0,μ,-⟩:=Mp (level:=lv) (dom:=dom) gs hf;have ξ:(jR l lv dom g).aWI.length-1=g.aWI.length:=by rw[μ]; simp
  rw[ξ] at R;have h1:=hH.set 0 rfl (bG v (aD l 16 g.a).2);have a1:=bJ l 16 gs.a;have n1:=bZ l (show 0<16 by decide) g.a;have e1:IntKind.i64.wrap (1+((aD l 16 g.a).1:Int))=((1+(aD l 16 g.a).1:Nat):Int):=by rw[wrap_i64 Om Om]; omega
  simp only[go_sem,p5,ls,ν,b1,ld];refine CO Lb.tooX (s:=[jZ lv]) (n:=g.aWI.length) (by simp) (by have:=gs.aWI; omega) rfl PH.nil_le ?_;simp only[go_sem];refine pO Lb.toxC T (o:=G.o) (n:=16) (a:=g.a) Om gs.a rfl (hH.at 0 rfl) PH.nil_le ?_;simp only[go_sem,e1];refine aAC Lb.toxC (n:=0) (by unfold dC; omega) rfl PH.nil_le ?_;simp only[go_sem,aXP,aXX,or_false,forall_eq,forall_eq_or_imp];refine aT fun p hp=>?_;have h2:=h1.new hp (.rows 7 [(⟨[jZ lv]++bQ g.aWI.length,(lv:Nat),(dom:Nat),(1+(aD l 16 g.a).1:Nat),iH⟩:cI).cells]);simp only[go_sem,aXP,aXX,or_false,forall_eq,forall_eq_or_imp];refine⟨PH.nil_le,?_⟩;simp only[go_sem,p6];refine cR Lb.toxC T (o:=G.o) (n:=3) (a:=(aD l 16 g.a).2) (by decide) a1 rfl (h2.at 0 rfl) ?_;have h3:=h2.set 0 rfl (bG v (aD l 3 (aD l 16 g.a).2).2);have a2:=bJ l 3 a1;by_cases c3:(aD l 3 (aD l 16 g.a).2).1=0
  ·have hd:jR l lv dom g={ g with aWI:=g.aWI++[⟨[jZ lv]++bQ g.aWI.length,(lv:Nat),(dom:Nat),(1+(aD l 16 g.a).1:Nat),mkT 1 ((2+(aD l 6 (aD l 3 (aD l 16 g.a).2).2).1:Nat):Int)⟩],a:=(aD l 6 (aD l 3 (aD l 16 g.a).2).2).2 }:=by unfold jR; simp only[c3,if_true]
   rw[hd] at R gg;have n2:=bZ l (show 0<6 by decide) (aD l 3 (aD l 16 g.a).2).2;have e2:IntKind.i64.wrap (2+((aD l 6 (aD l 3 (aD l 16 g.a).2).2).1:Int))=((2+(aD l 6 (aD l 3 (aD l 16 g.a).2).2).1:Nat):Int):=by rw[wrap_i64 Om Om]; omega
   simp only[go_sem,bM (show (((aD l 3 (aD l 16 g.a).2).1:Nat):Int)=0 by omega),p7];refine cR Lb.toxC T (o:=G.o) (n:=6) (a:=(aD l 3 (aD l 16 g.a).2).2) (by decide) a2 rfl (h3.at 0 rfl) ?_;have h4:=h3.set 0 rfl (bG v (aD l 6 (aD l 3 (aD l 16 g.a).2).2).2);rw[PH.set_set] at h4;simp only[go_sem,e2];refine aC (Lb.fmk 1 ((2+(aD l 6 (aD l 3 (aD l 16 g.a).2).2).1:Nat):Int) (by unfold dC; omega) (by unfold dC; omega)) rfl ?_;unfold tK;rw[if_neg Om];simp only[go_sem,show ¬ p=G.o from h4.ne 2 0 rfl rfl (by decide)];have h5:=h4.set 2 rfl (.rows 7 [(⟨[jZ lv]++bQ g.aWI.length,(lv:Nat),(dom:Nat),(1+(aD l 16 g.a).1:Nat),mkT 1 ((2+(aD l 6 (aD l 3 (aD l 16 g.a).2).2).1:Nat):Int)⟩:cI).cells])
   try simp only[jo]
   refine QA G mc aVZ dom lv n i k p ι hk η g _ _ gg rfl wd wr κ _ _ _ (by unfold eG; exact Lq) rfl h5 ?_;intro β γ U H' J δ;rw[← R] at δ;have θ:U 10=some (.int .i64 i):=J 10 _ (by unfold eG; simp only[go_sem]);have g0:U 0=some (.ptr G.o 2 0 0):=J 0 _ (by unfold eG; simp only[go_sem]);have g1:U 1=some (.ptr G.fo 7 0 0):=J 1 _ (by unfold eG; simp only[go_sem]);have g2:U 2=some (.int .i64 dom):=J 2 _ (by unfold eG; simp only[go_sem]);have g3:U 3=some (.int .i64 aVZ):=J 3 _ (by unfold eG; simp only[go_sem]);have g8:U 8=some (.int .i64 lv):=J 8 _ (by unfold eG; simp only[go_sem]);have g9:U 9=some (.int .i64 n):=J 9 _ (by unfold eG; simp only[go_sem]);simp only[go_sem,tE,θ,ei];refine aM (i+1,β,γ,H') ⟨hlt,δ⟩ (by simp only; omega) ?_ PH.le_refl;exact Lq
  ·have hd:jR l lv dom g={ g with aWI:=g.aWI++[⟨[jZ lv]++bQ g.aWI.length,(lv:Nat),(dom:Nat),(1+(aD l 16 g.a).1:Nat),iH⟩],a:=(aD l 3 (aD l 16 g.a).2).2 }:=by unfold jR; simp only[c3,if_false]
   rw[hd] at R gg;simp only[go_sem,bF (show ¬ (((aD l 3 (aD l 16 g.a).2).1:Nat):Int)=0 by omega)]
   try simp only[jo]
   refine QA G mc aVZ dom lv n i k p ι hk η g _ _ gg rfl wd wr κ _ _ _ (by unfold eG; exact Lq) rfl h3 ?_;intro β γ U H' J δ;rw[← R] at δ;have θ:U 10=some (.int .i64 i):=J 10 _ (by unfold eG; simp only[go_sem]);have g0:U 0=some (.ptr G.o 2 0 0):=J 0 _ (by unfold eG; simp only[go_sem]);have g1:U 1=some (.ptr G.fo 7 0 0):=J 1 _ (by unfold eG; simp only[go_sem]);have g2:U 2=some (.int .i64 dom):=J 2 _ (by unfold eG; simp only[go_sem]);have g3:U 3=some (.int .i64 aVZ):=J 3 _ (by unfold eG; simp only[go_sem]);have g8:U 8=some (.int .i64 lv):=J 8 _ (by unfold eG; simp only[go_sem]);have g9:U 9=some (.int .i64 n):=J 9 _ (by unfold eG; simp only[go_sem]);simp only[go_sem,tE,θ,ei];refine aM (i+1,β,γ,H') ⟨hlt,δ⟩ (by simp only; omega) ?_ PH.le_refl;exact Lq
 ·have ζ:¬ (i:Int)<(n:Nat):=Om;have:i=n:=Om;subst this;simp only[go_sem,ζ];exact hK _ wd wr _ _ (.inl rfl) hH
theorem Dh {C:Ctx} (Lb:kT C) {l:List Nat} {v:PV} (T:Tp l v) (mc aVZ k:Nat) (η:0<mc) (δ:mc≤1000) (β:aVZ≤60) (hk:k≤4) (ζ:∀ k',k=k'+1→VU C l v mc aVZ k') (G:GE) (wd wr:PV) (s:GS) (dom:Nat) (x:cI)
  (hs:GOk l aVZ s) (hx:s.aWI[dom]?=some x) (hl:x.level=4-(k:Int)) (H0:PH) (hH:aP H0 (G.boxes v mc wd wr s.a) (kN s wd wr)) :
  uM.wp C (aW OU.res (fun r H'=>∃ B' L',Sv G v mc (dV l mc aVZ k dom s) r B' L'∧aP H' B' L')) (PF.args [.ptr G.o 2 0 0,.ptr G.fo 7 0 0,.int .i64 dom,.int .i64 aVZ]) H0:=by
 have α:dom<s.aWI.length:=(aYP.1 hx).1;have b1:=hH.at 1 rfl;have fin:∀ (e:kL) (i p:PV) (R:PF) (H':PH),(e=.exit 0∨e=.ret)→aP H' (G.boxes v mc i p (dV l mc aVZ k dom s).a) (kN (dV l mc aVZ k dom s) i p) →
   fG 0 (aW OU.res (fun r H'=>∃ B' L',Sv G v mc (dV l mc aVZ k dom s) r B' L'∧aP H' B' L')) e R H':=by
  intro e i p R H' he J;rcases he with rfl | rfl
  ·rw[yM,if_pos rfl];exact bB (vs:=[]) (.inl rfl) H' rfl PH.le_refl ⟨_,_,⟨rfl,i,p,rfl,rfl⟩,J⟩
  ·exact bB (vs:=[]) (.inr rfl) H' rfl PH.le_refl ⟨_,_,⟨rfl,i,p,rfl,rfl⟩,J⟩
 obtain⟨q,rs,e1,e2,e3,e4⟩:∃ q rs,wd=.osl q 7 0 s.aWI.length∧H0 q=some (.rows 7 rs)∧s.aWI.length≤rs.length∧rs.take s.aWI.length=jA s.aWI:=by
  rcases hH.own 0 rfl with ⟨U,_⟩ | ⟨q,rs,U,h2,h3,h4⟩
  ·have:=congrArg List.length U;rw[aXI] at this;simp at this; rw[this] at α; simp at α
  ·rw[aXI] at U h3 h4;exact⟨q,rs,U,h2,h3,h4⟩
 have θ:rs[dom]?=some x.cells:=by
  have:(jA s.aWI)[dom]?=some x.cells:=by simp[jA,hx]
  rw[← e4,List.getElem?_take_of_lt α] at this;exact this
 subst e1;have c1:(dom:Int)<(s.aWI.length:Nat):=Om;have ew:IntKind.i64.wrap (x.level+1)=((5-k:Nat):Int):=by rw[hl,wrap_i64 Om Om]; omega
 have κ:=bZ l (show 0<2 by decide) s.a;have en:IntKind.i64.wrap (1+((aD l 2 s.a).1:Int))=((1+(aD l 2 s.a).1:Nat):Int):=by rw[wrap_i64 Om Om]; omega
 have U:=hH.set 0 rfl (bG v (aD l 2 s.a).2);have γ:GOk l aVZ { s with a:=(aD l 2 s.a).2 }:=⟨hs.aWI,hs.aWR,bJ l 2 hs.a⟩;have ι:¬ q=G.o:=fun h=>hH.neL 0 0 rfl rfl rfl h.symm;simp only[go_sem,uM,Di,b1,c1,e2,θ,ew,Dj];refine cR Lb.toxC T (o:=G.o) (n:=2) (a:=s.a) (by decide) hs.a (by simp only[go_sem]; rfl) (hH.at 0 rfl) ?_;simp only[go_sem,en,Dk];cases k with
 | zero =>
  simp only[go_sem,bF (Om:¬ ((5-0:Nat):Int)=2),EQ];refine Dg (C:=C) Lb T G mc aVZ dom (1+(aD l 2 s.a).1) η δ β Om { s with a:=(aD l 2 s.a).2 } γ _ wr _ _ _ ?_ U ?_
  ·unfold eG;exact Lq
  ·intro i p R H' J;exact fin _ i p R H' (.inl rfl) J
 | succ k =>
  have ε:=ζ k rfl;by_cases c2:4-k=2
  ·have e5:dV l mc aVZ (k+1) dom s=eR l (4-k) aVZ dom (dV l mc aVZ k) { s with a:=(aD l 2 s.a).2 } 1:=by simp only[dV,if_pos c2]
   simp only[go_sem,bM (show ((5-(k+1):Nat):Int)=2 by omega),Dl,EQ];refine HM (C:=C) Lb T G mc aVZ dom 1 k Om β (by decide) ε { s with a:=(aD l 2 s.a).2 } γ (by simp only; omega) _ wr _ _ _ ?_ U ?_
   ·unfold eG
    (repeat' (first|exact PF.nil_le|refine PF.aJ ?_ ?_))<;>first|(simp only[go_sem,show 4-k=5-(k+1) by omega]<;>rfl)|rfl
   ·intro e i p R H' he J;rw[← e5] at J;exact fin e i p R H' he J
  ·have e5:dV l mc aVZ (k+1) dom s=eR l (4-k) aVZ dom (dV l mc aVZ k) { s with a:=(aD l 2 s.a).2 } (1+(aD l 2 s.a).1):=by simp only[dV,if_neg c2]
   simp only[go_sem,bF (show ¬ ((5-(k+1):Nat):Int)=2 by omega),EQ];refine HM (C:=C) Lb T G mc aVZ dom (1+(aD l 2 s.a).1) k Om β Om ε { s with a:=(aD l 2 s.a).2 } γ (by simp only; omega) _ wr _ _ _ ?_ U ?_
   ·unfold eG
    (repeat' (first|exact PF.nil_le|refine PF.aJ ?_ ?_))<;>first|(simp only[go_sem,show 4-k=5-(k+1) by omega]<;>rfl)|rfl
   ·intro e i p R H' he J;rw[← e5] at J;exact fin e i p R H' he J
theorem SW {C:Ctx} (Lb:kT C) {l:List Nat} {v:PV} (T:Tp l v) (mc aVZ:Nat) (J:0<mc) (i:mc≤1000) (p:aVZ≤60)
  (hE:∀ (args:List PV) (H:PH) (R:PV→PH→Prop),args.length=4→uM.wp C (aW OU.res R) (PF.args args) H→aH C 7 args H R):∀ k,k≤4→VU C l v mc aVZ k
 | 0,h=>fun G wd wr s dom x hs hx hl U hH=>hE _ _ _ rfl (Dh Lb T mc aVZ 0 J i p h (fun _ e=>by omega) G wd wr s dom x hs hx hl U hH)
 | k+1,h=>fun G wd wr s dom x hs hx hl U hH=>hE _ _ _ rfl (Dh Lb T mc aVZ (k+1) J i p h (fun k' e=>by have:k'=k:=Om;subst this;exact SW Lb T mc aVZ J i p hE k' Om) G wd wr s dom x hs hx hl U hH)
theorem aBI (l:List Nat) (dR:Nat) {a:Nat} (h:a≤l.length):(oS l dR a).2≤l.length:=(ib l (1+(aD l dR a).1) (bJ l dR h) (1+(aD l dR a).1)).1
theorem DY (l:List Nat) {a:Nat} (h:a≤l.length):∀ k,(fP l a k).2≤l.length∧(fP l a k).1.length=k
 | 0=>⟨h,rfl⟩
 | k+1=>by obtain⟨i,p⟩:=DY l h k;exact⟨aBI l 2 i,by simp only[fP,aXN,aXR,p]⟩
theorem uO (l:List Nat) (aWG:Nat) {a:Nat} (h:a≤l.length):∀ k,(dX l aWG a k).2≤l.length∧(dX l aWG a k).1.length=k
 | 0=>⟨h,rfl⟩
 | k+1=>by obtain⟨i,p⟩:=uO l aWG h k;exact⟨bJ l aWG (bJ l 8 (bJ l 4 i)),by simp only[dX,aXN,aXR,p]⟩
structure FE where
 o:Nat
 o6:Nat
 o7:Nat
 aVZ:Nat
 aWB:Nat
abbrev flZ:bX:=flB (.int .i64 0) .aB .aB .aB .aB .aB .aB
abbrev FE.boxes (E:FE) (v ext i l p J R U:PV) (a:Nat):List BX:=[(E.o,bG v a),(E.o7,flB ext i l p J R U),(E.o6,flZ)]
def fB (E:FE):PF:=(((((PF.nil.set 0 (.ptr E.o 2 0 0)).set 1 (.int .i64 E.aVZ)).set 2 (.int .i64 E.aWB)).set 6 (.ptr E.o6 7 0 0)).set 7 (.ptr E.o7 7 0 0))
abbrev fY (l:List cM):List (List PV):=l.map cM.cells
abbrev iJ (l:List dK):List (List PV):=l.map dK.cells
theorem OT {E:FE} {F:PF} (i:F 0=some (.ptr E.o 2 0 0)) (l:F 1=some (.int .i64 E.aVZ)) (p:F 2=some (.int .i64 E.aWB)) (J:F 6=some (.ptr E.o6 7 0 0)) (h7:F 7=some (.ptr E.o7 7 0 0)):(fB E).le F :=
 PF.aJ (PF.aJ (PF.aJ (PF.aJ (PF.aJ PF.nil_le i) l) p) J) h7
theorem arT {C:Ctx} (Lb:kT C) {l:List Nat} {v:PV} (T:Tp l v) (E:FE) (n a:Nat) (hn:n≤10) (ha:a≤l.length) (ext:PV) (K:bT) (F:PF) (H:PH)
  (hF:(((fB E).set 8 (.int .i64 n)).set 9 (.int .i64 0)).le F) (hH:aP H (E.boxes v ext .aB .aB .aB .aB .aB .aB a) [])
  (hK:∀ w1 F' H',(fB E).le F'→aP H' (E.boxes v ext w1 .aB .aB .aB .aB .aB (fP l a n).2) [(w1,4,fY (fP l a n).1)]→K (.exit 0) F' H') :
  aA.wp C (.loop KO) K F H:=by
 refine wp_loop (α:=Nat × PV × PH) (fun t=>((fB E).set 8 (.int .i64 n)).set 9 (.int .i64 t.1)) (fun t=>t.2.2) (fun t=>t.1≤n∧aP t.2.2 (E.boxes v ext t.2.1 .aB .aB .aB .aB .aB (fP l a t.1).2) [(t.2.1,4,fY (fP l a t.1).1)]) (fun t=>n-t.1) (0,.aB,H) ⟨aXU _,hH.rZ 4⟩ hF PH.le_refl ?_;rintro⟨i,w1,H0⟩ ⟨hi,hH⟩;simp only at hi hH ⊢;obtain⟨k1,k2⟩:=DY l ha i;have U:fP l a (i+1)=((fP l a i).1++[{ (oS l 2 (fP l a i).2).1 with name:=[108,97,119]++bQ i }],(oS l 2 (fP l a i).2).2):=rfl;simp only[go_sem,KO,po,fB];by_cases hlt:i<n
 ·have J:(i:Int)<(n:Nat):=Om;generalize hg:fP l a i=g at *
  simp only[go_sem,J,pq];refine lI (Lb.law l v T E.o 2 g.2 (by decide) (by decide) k1) (hH.at 0 rfl) rfl ?_;have h1:=hH.set 0 rfl (bG v (oS l 2 g.2).2);generalize hz:oS l 2 g.2=z at *
  simp only[go_sem];refine aT fun p hp=>?_;have h2:=h1.new hp (.rows 4 [z.1.cells]);simp only[go_sem,pt,aXP,aXX,or_false,forall_eq,forall_eq_or_imp];refine aC (Lb.name [108,97,119] i (by decide) Om) rfl ?_;have h3:=h2.set 3 rfl (.rows 4 [({ z.1 with name:=[108,97,119]++bQ i }:cM).cells]);rw[PH.set_set] at h3;have b1:=h3.at 1 rfl;have β:¬ E.o7=p:=h3.ne 1 3 rfl rfl (by decide);have R:¬ E.o7=E.o:=h3.ne 1 0 rfl rfl (by decide);simp only[aQ,if_neg β,if_neg R] at b1;have γ:(1:Nat)*4≤16777216:=by decide
  simp only[go_sem,pu,β,R,b1,γ,aXP,aXX,or_false,forall_eq,forall_eq_or_imp];refine h3.append 0 (src:=[({ z.1 with name:=[108,97,119]++bQ i }:cM).cells]) rfl rfl (by unfold roomFor; rw[aXI]; simp only[aXR,maxLen]; omega) fun w' H2 h4 hw=>?_;obtain⟨q,rfl⟩:=hw (by simp);have b2:=h4.at 1 rfl;simp only[go_sem,b2,aXP,aXX,or_false,forall_eq];have h5:=h4.set 1 rfl (flB ext (.osl q 4 0 (fY g.1++[({ z.1 with name:=[108,97,119]++bQ i }:cM).cells]).length) .aB .aB .aB .aB .aB);simp only[go_sem,pw,wZz i];refine aM (i+1,.osl q 4 0 (fY g.1++[({ z.1 with name:=[108,97,119]++bQ i }:cM).cells]).length,_) ⟨hlt,?_⟩ (by simp only; omega) ?_ PH.le_refl
  ·rw[U];have e:fY (g.1++[{ z.1 with name:=[108,97,119]++bQ i }])=fY g.1++[({ z.1 with name:=[108,97,119]++bQ i }:cM).cells]:=by simp[fY]
   simp only;rw[e];exact h5.dropLast (B:=E.boxes v ext _ .aB .aB .aB .aB .aB z.2)
  ·exact Lq
 ·have J:¬ (i:Int)<(n:Nat):=Om;have:i=n:=Om;subst this;simp only[go_sem,J];exact hK w1 _ _ (OT rfl rfl rfl rfl rfl) hH
theorem Uj {C:Ctx} (Lb:kT C) {l:List Nat} {v:PV} (T:Tp l v) (E:FE) (n a nl:Nat) (hn:n≤10) (θ:nl≤1000) (ha:a≤l.length) (ext J:PV) (aWG:List cM) (η:aWG.length=nl) (K:bT) (F:PF) (H:PH)
  (hF:(((fB E).set 11 (.int .i64 n)).set 12 (.int .i64 0)).le F) (R:aP H (E.boxes v ext J .aB .aB .aB .aB .aB a) [(J,4,fY aWG)])
  (hK:∀ w2 F' H',(fB E).le F'→F' 11=some (.int .i64 n)→aP H' (E.boxes v ext J w2 .aB .aB .aB .aB (dX l nl a n).2) [(J,4,fY aWG),(w2,4,iJ (dX l nl a n).1)]→K (.exit 2) F' H') :
  aA.wp C (.loop EF) K F H:=by
 refine wp_loop (α:=Nat × PV × PH) (fun t=>((fB E).set 11 (.int .i64 n)).set 12 (.int .i64 t.1)) (fun t=>t.2.2) (fun t=>t.1≤n∧aP t.2.2 (E.boxes v ext J t.2.1 .aB .aB .aB .aB (dX l nl a t.1).2) [(J,4,fY aWG),(t.2.1,4,iJ (dX l nl a t.1).1)]) (fun t=>n-t.1) (0,.aB,H) ⟨aXU _,R.rZ 4⟩ hF PH.le_refl ?_;rintro⟨i,w2,H0⟩ ⟨hi,R⟩;simp only at hi R ⊢;obtain⟨k1,k2⟩:=uO l nl ha i;have U:dX l nl a (i+1)=((dX l nl a i).1++[⟨[109]++bQ i,(1+(aD l 4 (dX l nl a i).2).1:Nat),(1+(aD l 8 (aD l 4 (dX l nl a i).2).2).1:Nat),((aD l nl (aD l 8 (aD l 4 (dX l nl a i).2).2).2).1:Nat)⟩],(aD l nl (aD l 8 (aD l 4 (dX l nl a i).2).2).2).2):=rfl;simp only[go_sem,EF,ZO,fB];by_cases hlt:i<n
 ·have p:(i:Int)<(n:Nat):=Om;generalize hg:dX l nl a i=g at *
  have hx:=bZ l (show 0<4 by decide) g.2;have ax:=bJ l 4 k1;have hy:=bZ l (show 0<8 by decide) (aD l 4 g.2).2;have ay:=bJ l 8 ax;have az:=bJ l nl ay;have h1:=R.set 0 rfl (bG v (aD l 4 g.2).2);have h2:=h1.set 0 rfl (bG v (aD l 8 (aD l 4 g.2).2).2);have h3:=h2.set 0 rfl (bG v (aD l nl (aD l 8 (aD l 4 g.2).2).2).2);generalize γ:aD l 4 g.2=x at *
  generalize δ:aD l 8 x.2=y at *
  generalize ε:aD l nl y.2=z at *
  have b1:=R.at 1 rfl;have lw:=(R.own 0 rfl).qX;rw[aXI,η] at lw;have β:(PH.nil.set E.o7 (flB ext J w2 .aB .aB .aB .aB)).le H0:=PH.aJ PH.nil_le b1;have ex:IntKind.i64.wrap (1+(x.1:Int))=((1+x.1:Nat):Int):=by rw[wrap_i64 Om Om]; omega
  have ey:IntKind.i64.wrap (1+(y.1:Int))=((1+y.1:Nat):Int):=by rw[wrap_i64 Om Om]; omega
  simp only[go_sem,p];refine cJ (PH.nil.set E.o7 (flB ext J w2 .aB .aB .aB .aB)) (mkS l v) β ?_;simp only[go_sem,ZP];refine CO Lb.tooX (s:=[109]) (n:=i) (by decide) Om rfl β ?_;simp only[go_sem];refine pO Lb.toxC T (o:=E.o) (n:=4) (a:=g.2) (by decide) k1 rfl (R.at 0 rfl) ?_ ?_
  ·rw[γ]; exact PH.aJ PH.nil_le (h1.at 1 rfl)
  rw[γ];simp only[go_sem,ex];refine pO Lb.toxC T (o:=E.o) (n:=8) (a:=x.2) (by decide) ax rfl (h1.at 0 rfl) ?_ ?_
  ·rw[δ]; exact PH.aJ PH.nil_le (h2.at 1 rfl)
  rw[δ];simp only[go_sem,ey,lw];rw[PH.set_set] at h2;refine pO Lb.toxC T (o:=E.o) (n:=nl) (a:=y.2) Om ay rfl (h2.at 0 rfl) ?_ ?_
  ·rw[ε]; exact PH.aJ PH.nil_le ((h2.set 0 rfl (bG v z.2)).at 1 rfl)
  rw[ε];have h4:=h2.set 0 rfl (bG v z.2);have ζ:(1:Nat)*4≤16777216:=by decide
  simp only[go_sem,ζ,aXP,aXX,or_false,forall_eq,forall_eq_or_imp];rw[PH.set_set] at h4;refine h4.append 1 (src:=[(⟨[109]++bQ i,(1+x.1:Nat),(1+y.1:Nat),(z.1:Nat)⟩:dK).cells]) rfl rfl (by unfold roomFor; rw[aXI]; simp only[aXR,maxLen]; omega) fun w' H2 h5 hw=>?_;obtain⟨q,rfl⟩:=hw (by simp);have b2:=h5.at 1 rfl;refine⟨PH.aJ PH.nil_le b2,?_⟩;refine cJ .nil eU PH.nil_le ?_;simp only[go_sem,ZQ,b2,aXP,aXX,or_false,forall_eq];have h6:=h5.set 1 rfl (flB ext J (.osl q 4 0 (iJ g.1++[(⟨[109]++bQ i,(1+x.1:Nat),(1+y.1:Nat),(z.1:Nat)⟩:dK).cells]).length) .aB .aB .aB .aB);refine⟨PH.nil_le,?_⟩;simp only[go_sem,ZR,wZz i];refine aM (i+1,.osl q 4 0 (iJ g.1++[(⟨[109]++bQ i,(1+x.1:Nat),(1+y.1:Nat),(z.1:Nat)⟩:dK).cells]).length,_) ⟨hlt,?_⟩ (by simp only; omega) ?_ PH.le_refl
  ·rw[U];have e:iJ (g.1++[⟨[109]++bQ i,(1+x.1:Nat),(1+y.1:Nat),(z.1:Nat)⟩])=iJ g.1++[(⟨[109]++bQ i,(1+x.1:Nat),(1+y.1:Nat),(z.1:Nat)⟩:dK).cells]:=by simp[iJ]
   simp only;rw[e];exact h6
  ·exact Lq
 ·have p:¬ (i:Int)<(n:Nat):=Om;have:i=n:=Om;subst this;simp only[go_sem,p];exact hK w2 _ _ (OT rfl rfl rfl rfl rfl) rfl R
abbrev tR (x:cB) (w:PV):List PV:=[.str x.name,.int .i64 x.k,.int .i64 x.m,.int .i64 x.aWW,.int .i64 x.s0,.int .i64 x.s1,.int .i64 x.s2,.int .i64 x.s3,.int .i64 x.s4,w,frs x.repair,
 .bool x.target.neg,aG x.target.num,aG x.target.den,.bool x.aWJ.neg,aG x.aWJ.num,aG x.aWJ.den]
def ig (E:FE) (mc n i:Nat):PF:=(((fB E).set 11 (.int .i64 mc)).set 13 (.int .i64 n)).set 14 (.int .i64 i)
structure PAt (E:FE) (mc n i:Nat) (F:PF):Prop where
 f0:F 0=some (.ptr E.o 2 0 0)
 f1:F 1=some (.int .i64 E.aVZ)
 f2:F 2=some (.int .i64 E.aWB)
 f6:F 6=some (.ptr E.o6 7 0 0)
 f7:F 7=some (.ptr E.o7 7 0 0)
 f11:F 11=some (.int .i64 mc)
 f13:F 13=some (.int .i64 n)
 f14:F 14=some (.int .i64 i)
def oV (l:List Nat) (a:Nat):Nat→List Int × Nat
 | 0=>([],a)
 | j+1=>let s:=oV l a j
  let t:=fQ l s.2
  (s.1++[t.1],t.2)
theorem rL (l:List Nat) {a:Nat} (h:a≤l.length):(fQ l a).2≤l.length:=by
 unfold fQ;simp only;split
 ·exact bJ l 3 (bJ l 3 h)
 ·exact bJ l 3 h
theorem jk (l:List Nat) {a:Nat} (h:a≤l.length):∀ j,(oV l a j).2≤l.length∧(oV l a j).1.length=j
 | 0=>⟨h,rfl⟩
 | j+1=>by obtain⟨i,p⟩:=jk l h j;exact⟨rL l i,by simp only[oV,aXN,aXR,p]⟩
abbrev oU (pre post:List PV) (s:List Int):List PV:=pre++(s.map fun x=>PV.int .i64 x)++aXK (4-s.length) (.int .i64 0)++post
theorem aEG {pre post:List PV} {s:List Int} (i:pre.length=5) (p:s.length<4) (x:Int):(oU pre post s).set (5+s.length) (.int .i64 x)=oU pre post (s++[x]):=by
 obtain⟨k,l⟩:∃ k,4-s.length=k+1:=⟨3-s.length,by omega⟩;unfold oU;rw[aXN,aXR,show 4-(s.length+1)=k by omega,l,List.replicate_succ,aYN,aYU,aZN];rw[List.set_append_left _ _ (by simp[i]),a0L _ _ (by simp[i])];have:5+s.length-(pre++s.map fun x=>PV.int .i64 x).length=0:=by simp[i]
 rw[this,a0Y];simp
theorem auM {pre post:List PV} {s:List Int} (l:pre.length=5) (p:s.length<4):oU pre post s=oU pre post (s++[0]):=by
 obtain⟨k,i⟩:∃ k,4-s.length=k+1:=⟨3-s.length,by omega⟩;unfold oU;rw[aXN,aXR,show 4-(s.length+1)=k by omega,i,List.replicate_succ,aYN,aYU,aZN];simp
theorem Uk {C:Ctx} (Lb:kT C) {l:List Nat} {v:PV} (T:Tp l v) (E:FE) (mc n i a p:Nat) (ha:a≤l.length) (B:List BX) (L:List LI) (pre post:List PV) (J:pre.length=5) (δ:post.length=8) (K:bT) (F:PF) (H:PH)
  (U:PAt E mc n i F) (η:F 15=some (.ptr p 17 0 0)) (θ:F 16=some (.int .i64 1)) (hH:aP H ((E.o,bG v a)::B++[(p,.rows 17 [oU pre post []])]) L)
  (hK:∀ F' H',PAt E mc n i F'→F' 15=some (.ptr p 17 0 0)→aP H' ((E.o,bG v (oV l a 4).2)::B++[(p,.rows 17 [oU pre post (oV l a 4).1])]) L→K (.exit 6) F' H') :
  aA.wp C (.loop uG) K F H:=by
 refine wp_loop (α:=Nat × PH) (fun t=>((ig E mc n i).set 15 (.ptr p 17 0 0)).set 16 (.int .i64 (t.1+1:Nat))) (fun t=>t.2) (fun t=>t.1≤4∧aP t.2 ((E.o,bG v (oV l a t.1).2)::B++[(p,.rows 17 [oU pre post (oV l a t.1).1])]) L) (fun t=>4-t.1) (0,H) ⟨aXU _,hH⟩ ?_ PH.le_refl ?_
 ·unfold ig fB
  (repeat' (first|exact PF.nil_le|refine PF.aJ ?_ ?_))<;>first|(simp only[go_sem,U.f0,U.f1,U.f2,U.f6,U.f7,U.f11,U.f13,U.f14,η,θ]<;>rfl)|rfl
 rintro⟨j,H0⟩ ⟨hj,hH⟩;simp only at hj hH ⊢;obtain⟨k1,k2⟩:=jk l ha j;have R:oV l a (j+1)=((oV l a j).1++[(fQ l (oV l a j).2).1],(fQ l (oV l a j).2).2):=rfl;simp only[go_sem,uG,ZX,ig,fB];by_cases hlt:j<4
 ·generalize hg:oV l a j=g at *
  have ei:=cP (Om:j+1<9223372036854775807);simp only[go_sem,show ((j+1:Nat):Int)<5 by omega,ZY];refine cR Lb.toxC T (o:=E.o) (n:=3) (a:=g.2) (by decide) k1 (by simp only[go_sem]; rfl) (hH.at 0 rfl) ?_;have h1:aP _ ((E.o,bG v (aD l 3 g.2).2)::B++[(p,.rows 17 [oU pre post g.1])]) L:=hH.set 0 rfl (bG v (aD l 3 g.2).2);by_cases c:(aD l 3 g.2).1=0
  ·have hs:fQ l g.2=(((1+(aD l 3 (aD l 3 g.2).2).1:Nat):Int),(aD l 3 (aD l 3 g.2).2).2):=by unfold fQ; simp only[c,if_true]
   have n2:=bZ l (show 0<3 by decide) (aD l 3 g.2).2;have e2:IntKind.i64.wrap (1+((aD l 3 (aD l 3 g.2).2).1:Int))=((1+(aD l 3 (aD l 3 g.2).2).1:Nat):Int):=by rw[wrap_i64 Om Om]; omega
   simp only[go_sem,bM (show (((aD l 3 g.2).1:Nat):Int)=0 by omega),ZZ];refine cR Lb.toxC T (o:=E.o) (n:=3) (a:=(aD l 3 g.2).2) (by decide) (bJ l 3 k1) (by simp only[go_sem]; rfl) (h1.at 0 rfl) ?_;have h2:aP _ ((E.o,bG v (aD l 3 (aD l 3 g.2).2).2)::B++[(p,.rows 17 [oU pre post g.1])]) L:=h1.set 0 rfl (bG v (aD l 3 (aD l 3 g.2).2).2);have bp:=h2.IA;rw[PH.set_set] at bp h2;have ζ:¬ p=E.o:=fun h=>by have μ:=h2.ndB;simp[eC,h] at μ
   simp only[aQ,if_neg ζ] at bp;have κ:((j+1:Nat):Int)<((5:Nat):Int):=Om;have ι:(0:Int)≤((j+1:Nat):Int):=Om;have ν:(oU pre post g.1).length=17:=by simp[oU,J,δ,k2]; omega
   have β:=aEG (pre:=pre) (post:=post) (s:=g.1) J Om ((1+(aD l 3 (aD l 3 g.2).2).1:Nat):Int);rw[k2] at β;have ε:4+(j+1)*1=5+j:=Om;have γ:5+j+1≤17:=Om;simp only[go_sem,e2,κ,ι,ε,ζ,bp,γ,aXP,aXX,or_false,forall_eq,β,EK,ei];refine aM (j+1,_) ⟨hlt,?_⟩ (by simp only; omega) ?_ PH.le_refl
   ·rw[R,hs];exact h2.ji _
   ·exact Lq
  ·have hs:fQ l g.2=(0,(aD l 3 g.2).2):=by unfold fQ; simp only[c,if_false]
   simp only[go_sem,bF (show ¬ (((aD l 3 g.2).1:Nat):Int)=0 by omega),EK,ei];refine aM (j+1,_) ⟨hlt,?_⟩ (by simp only; omega) ?_ PH.le_refl
   ·rw[auM (pre:=pre) (post:=post) (s:=g.1) J Om] at h1;rw[R,hs];exact h1
   ·exact Lq
 ·have:j=4:=Om;subst this;simp only[go_sem,show ¬ ((4+1:Nat):Int)<5 by decide];exact hK _ _ ⟨by simp only[go_sem],by simp only[go_sem],by simp only[go_sem],by simp only[go_sem],by simp only[go_sem],by simp only[go_sem],by simp only[go_sem],by simp only[go_sem]⟩ Sq hH
theorem aP.nE {E:FE} {v ext i l p J R U:PV} {a:Nat} {H:PH} {B:List BX} {L:List LI} (h:aP H (E.boxes v ext i l p J R U a++B) L) (b:Nat):aP (H.set E.o (bG v b)) (E.boxes v ext i l p J R U b++B) L:=h.set 0 rfl _
abbrev UZ (s:List UInt8) (k m q:Int) (w r i l p:PV) (h:RF):List PV:=[.str s,.int .i64 k,.int .i64 m,.int .i64 q,.int .i64 0,.int .i64 0,.int .i64 0,.int .i64 0,.int .i64 0,w,r,i,l,p,.bool h.neg,aG h.num,aG h.den]
theorem arU {C : Ctx} (R : kT C) {l : List Nat} {v : PV} (T : Tp l v) (E : FE) (mc n i a : Nat) (ha : a ≤ l.length) (hi : i < 50) (ext w1 w2 w3 w4 w5 w6 : PV) (L : List LI) (rest : aA) (K : bT) (F : PF) (H : PH)
    (hF : PAt E mc n i F) (hH : aP H (E.boxes v ext w1 w2 w3 w4 w5 w6 a) L)
    (hK : ∀ p F' H', PAt E mc n i F' → F' 15 = some (.ptr p 17 0 0) →
      (let k := aD l 2 a; let m := aD l 3 k.2; let h := aD l 4 m.2; let q := aD l (m.1 + 1) h.2; let r := jC l q.2 (max m.1 1); let g := aD l 9 r.2
       aP H' (E.boxes v ext w1 w2 w3 w4 w5 w6 g.2 ++ [(p, .rows 17 [oU [.str ([112] ++ bQ i), .int .i64 (1 + k.1 : Nat), .int .i64 (m.1 : Nat), .int .i64 (1 + k.1 + q.1 : Nat), .int .i64 0]
        ([.aB, frs r.1] ++ (mkT (g.1 : Nat) 8).cells ++ (mkT ((1 + h.1 : Nat) : Int) 1).cells) []])]) L) → aA.wp C rest K F' H') :
    aA.wp C (.seq (.region EI) (.seq (.seq (.draw uH) (.draw uI)) (.seq (.region uJ) (.seq (.region uK) rest)))) K F H := by
  obtain ⟨f0, f1, f2, f6, f7, f11, f13, f14⟩ := hF;have nk := bZ l (show 0 < 2 by decide) a;have ak := bJ l 2 ha;have nm := bZ l (show 0 < 3 by decide) (aD l 2 a).2;have am := bJ l 3 ak;simp only at hK;generalize hk : aD l 2 a = k at *
  generalize hm : aD l 3 k.2 = m at *
  have nh := bZ l (show 0 < 4 by decide) m.2;have ah := bJ l 4 am;generalize hh : aD l 4 m.2 = h at *
  have nq := bZ l (Om : 0 < m.1 + 1) h.2;have aq := bJ l (m.1 + 1) ah;generalize hq : aD l (m.1 + 1) h.2 = q at *
  have ar := BF l aq (max m.1 1);generalize hr : jC l q.2 (max m.1 1) = r at *
  have ng := bZ l (show 0 < 9 by decide) r.2;have ag := bJ l 9 ar;generalize hg : aD l 9 r.2 = g at *
  have ek : IntKind.i64.wrap (1 + (k.1 : Int)) = ((1 + k.1 : Nat) : Int) := by rw [wrap_i64 Om Om]; omega
  have eh : IntKind.i64.wrap (1 + (h.1 : Int)) = ((1 + h.1 : Nat) : Int) := by rw [wrap_i64 Om Om]; omega
  have em : IntKind.i64.wrap ((m.1 : Int) + 1) = ((m.1 + 1 : Nat) : Int) := cP Om;have β : IntKind.i64.wrap (((1 + k.1 : Nat) : Int) + (q.1 : Int)) = ((1 + k.1 + q.1 : Nat) : Int) := by rw [wrap_i64 Om Om]; omega
  have h0 : aP H (E.boxes v ext w1 w2 w3 w4 w5 w6 a ++ []) L := by rw [aZK]; exact hH
  simp only[go_sem,EI,f14];refine aC (R.name [112] i (by decide) Om) rfl ?_;simp only[go_sem,f0];refine cR R.toxC T (o := E.o) (n := 2) (a := a) (by decide) ha rfl (h0.at 0 rfl) ?_;have g1 := h0.nE k.2;rw [hk];simp only[go_sem,ek,f0];refine cR R.toxC T (o := E.o) (n := 3) (a := k.2) (by decide) ak rfl (g1.at 0 rfl) ?_;have g2 := g1.nE m.2;rw [hm];rw [PH.set_set] at g2;simp only[go_sem,f0];refine cR R.toxC T (o := E.o) (n := 4) (a := m.2) (by decide) am rfl (g2.at 0 rfl) ?_;have g3 := g2.nE h.2;rw [hh];rw [PH.set_set] at g3;simp only[go_sem,eh];refine aC (R.int ((1 + h.1 : Nat) : Int) (by unfold dC; omega)) rfl ?_;simp only[go_sem,aXP,aXX,or_false,forall_eq,forall_eq_or_imp];refine aT fun p hp => ?_;have g4 := g3.new hp (.rows 17 [UZ ([112] ++ bQ i) (1 + k.1 : Nat) (m.1 : Nat) 0 .aB .aB (.bool false) .aB .aB (mkT ((1 + h.1 : Nat) : Int) 1)]);have α : ¬ p = E.o := g4.ne 3 0 rfl rfl (by decide);have ζ : ¬ E.o = p := fun e => α e.symm;have q2 : ∀ (F2 : PF) (H2 : PH), PAt E mc n i F2 → F2 15 = some (.ptr p 17 0 0) → aP H2 (E.boxes v ext w1 w2 w3 w4 w5 w6 h.2 ++ [(p, .rows 17 [UZ ([112] ++ bQ i) (1 + k.1 : Nat) (m.1 : Nat) 0 .aB .aB (.bool false) .aB .aB (mkT ((1 + h.1 : Nat) : Int) 1)])]) L →
      aA.wp C (.seq (.seq (.draw uH) (.draw uI)) (.seq (.region uJ) (.seq (.region uK) rest))) K F2 H2 := by
    intro F2 H2 δ J U;obtain ⟨f0, f1, f2, f6, f7, f11, f13, f14⟩ := δ;have bp := U.at 3 rfl;have ε : (PH.nil.set p (.rows 17 [UZ ([112] ++ bQ i) (1 + k.1 : Nat) (m.1 : Nat) 0 .aB .aB (.bool false) .aB .aB (mkT ((1 + h.1 : Nat) : Int) 1)])).le H2 := PH.aJ PH.nil_le bp;simp only[go_sem];refine cJ _ (mkS l v) ε ?_;simp only[go_sem,uH,J,bp,em,f0];refine pO R.toxC T (o := E.o) (n := m.1 + 1) (a := h.2) Om ah rfl (U.at 0 rfl) ?_ ?_
    · rw [hq]; exact PH.aJ PH.nil_le ((U.nE q.2).at 3 rfl)
    rw [hq];have g5 := U.nE q.2;simp only[go_sem,β,J];refine cJ .nil eU PH.nil_le ?_;simp only[go_sem,uI,α,bp];refine ⟨PH.nil_le, ?_⟩;have g6 : aP _ (E.boxes v ext w1 w2 w3 w4 w5 w6 q.2 ++ [(p, .rows 17 [UZ ([112] ++ bQ i) (1 + k.1 : Nat) (m.1 : Nat) (1 + k.1 + q.1 : Nat) .aB .aB (.bool false) .aB .aB (mkT ((1 + h.1 : Nat) : Int) 1)])]) L := g5.set 3 rfl (.rows 17 [UZ ([112] ++ bQ i) (1 + k.1 : Nat) (m.1 : Nat) (1 + k.1 + q.1 : Nat) .aB .aB (.bool false) .aB .aB (mkT ((1 + h.1 : Nat) : Int) 1)]);have bq := g6.at 3 rfl;simp only[go_sem,uJ,f0,J];refine lI (R.rep l v T E.o q.2 m.1 Om aq) (g6.at 0 rfl) rfl ?_;have g7 := g6.nE r.2;rw [hr];simp only[go_sem,α,J];have g8 : aP _ (E.boxes v ext w1 w2 w3 w4 w5 w6 r.2 ++ [(p, .rows 17 [UZ ([112] ++ bQ i) (1 + k.1 : Nat) (m.1 : Nat) (1 + k.1 + q.1 : Nat) .aB (frs r.1) (.bool false) .aB .aB (mkT ((1 + h.1 : Nat) : Int) 1)])]) L := g7.set 3 rfl (.rows 17 [UZ ([112] ++ bQ i) (1 + k.1 : Nat) (m.1 : Nat) (1 + k.1 + q.1 : Nat) .aB (frs r.1) (.bool false) .aB .aB (mkT ((1 + h.1 : Nat) : Int) 1)]);simp only[go_sem,uK,f0];refine cR R.toxC T (o := E.o) (n := 9) (a := r.2) (by decide) ar rfl (g8.at 0 rfl) ?_;have g9 := g8.nE g.2;rw [hg];simp only[go_sem];refine aC (R.fmk (g.1 : Int) 8 (by unfold dC; omega) (by unfold dC; omega)) rfl ?_;unfold tK;rw [if_neg (by decide)];simp only[go_sem,J,α];have γ := g9.set 3 rfl (.rows 17 [oU [.str ([112] ++ bQ i), .int .i64 (1 + k.1 : Nat), .int .i64 (m.1 : Nat), .int .i64 (1 + k.1 + q.1 : Nat), .int .i64 0]
        ([.aB, frs r.1] ++ (mkT (g.1 : Nat) 8).cells ++ (mkT ((1 + h.1 : Nat) : Int) 1).cells) []])
    refine hK p _ _ ⟨by simp only[go_sem,f0], by simp only[go_sem,f1], by simp only[go_sem,f2], by simp only[go_sem,f6], by simp only[go_sem,f7], by simp only[go_sem,f11], by simp only[go_sem,f13], by simp only[go_sem,f14]⟩ (by simp only[go_sem,J]) γ
  simp only [aA.wp, go_sem] at q2;simp only[go_sem,aXP,aXX,or_false,forall_eq,forall_eq_or_imp];exact q2 _ _ ⟨by simp only[go_sem,f0], by simp only[go_sem,f1], by simp only[go_sem,f2], by simp only[go_sem,f6], by simp only[go_sem,f7], by simp only[go_sem,f11], by simp only[go_sem,f13], by simp only[go_sem,f14]⟩ rfl g4
abbrev FE.lists (U w2 w3 w4 w5:PV) (p:List cM) (J:List dK) (i:List cI) (l:List cS) (R:List (List PV)):List LI:=[(U,4,fY p),(w2,4,iJ J),(w3,7,jA i),(w4,3,kW l),(w5,17,R)]
theorem arV {C:Ctx} (Lb:kT C) {l:List Nat} {v:PV} (T:Tp l v) (E:FE) (mc n i a:Nat) (ha:a≤l.length) (κ:0<mc) (ο:mc≤50) (ext w1 w2 w3 w4 w5:PV) (lw:List cM) (md:List dK) (dm:List cI) (dv:List cS) (pr:List (List PV)) (υ:pr.length≤50)
  (s:List UInt8) (k m q:Int) (r t h:RF) (rl:List RF) (p:Nat) (K:bT) (F:PF) (H:PH)
  (hF:PAt E mc n i F) (R:F 15=some (.ptr p 17 0 0))
  (hH:aP H (E.boxes v ext w1 w2 w3 w4 w5 .aB a++[(p,.rows 17 [oU [.str s,.int .i64 k,.int .i64 m,.int .i64 q,.int .i64 0] ([.aB,frs rl]++t.cells++h.cells) []])]) (FE.lists w1 w2 w3 w4 w5 lw md dm dv pr))
  (hK:(let sp:=oV l a 4; let f:=aD l mc sp.2; let b:=aD l 2 f.2
   let ms:List Int × Nat:=if 1<mc then (if b.1=0 then ([(f.1:Int),1-(f.1:Int)],b.2) else ([(f.1:Int)],b.2)) else ([(f.1:Int)],f.2)
   ∀ (w J:PV) (F':PF) (H':PH) (B':List BX),PAt E mc n i F'→(∃ o,w=.osl o 1 0 ms.1.length)→aP H' (E.boxes v ext w1 w2 w3 w4 J .aB ms.2++B')
    (FE.lists w1 w2 w3 w4 J lw md dm dv (pr++[tR ⟨s,k,m,q,0,(sp.1.getD 0 0),(sp.1.getD 1 0),(sp.1.getD 2 0),(sp.1.getD 3 0),ms.1,rl,t,h⟩ w])++[(w,1,aZ ms.1)])→K .normal F' H')) :
  aA.wp C (.seq (.seq (.region EJ) (.block 6 (.loop uG))) (.seq (.region EL) (.seq (.region EM) (.seq (.seq (.region EN) (.cond (.tmp 143) (.region EO) .skip)) (.region uL))))) K F H:=by
 obtain⟨f0,f1,f2,f6,f7,f11,f13,f14⟩:=hF;simp only[go_sem,EJ];refine Uk (C:=C) Lb T E mc n i a p ha [(E.o7,flB ext w1 w2 w3 w4 w5 .aB),(E.o6,flZ)] _ _ _ rfl rfl _ _ H ⟨by simp only[go_sem,f0],by simp only[go_sem,f1],by simp only[go_sem,f2],by simp only[go_sem,f6],by simp only[go_sem,f7],by simp only[go_sem,f11],by simp only[go_sem,f13],by simp only[go_sem,f14]⟩ (by simp only[go_sem,R]) rfl hH ?_;clear f0 f1 f2 f6 f7 f11 f13 f14 R hH;intro F1 H1 θ R U;obtain⟨f0,f1,f2,f6,f7,f11,f13,f14⟩:=θ;obtain⟨δ,ls⟩:=jk l ha 4;have ν:∃ x1 x2 x3 x4,(oV l a 4).1=[x1,x2,x3,x4]:=⟨_,_,_,_,rfl⟩;simp only at hK;generalize ρ:oV l a 4=sp at *
 obtain⟨x1,x2,x3,x4,hx⟩:=ν;rw[hx] at hK U;replace U:aP H1 (E.boxes v ext w1 w2 w3 w4 w5 .aB sp.2++[(p,.rows 17 [tR ⟨s,k,m,q,0,x1,x2,x3,x4,[],rl,t,h⟩ .aB])]) (FE.lists w1 w2 w3 w4 w5 lw md dm dv pr):=U;have nf:=bZ l κ sp.2;have af:=bJ l mc δ;generalize hf:aD l mc sp.2=f at *
 have ab:=bJ l 2 af;generalize hb:aD l 2 f.2=b at *
 have γ:¬ p=E.o:=U.ne 3 0 rfl rfl (by decide);have μ:¬ p=E.o7:=U.ne 3 1 rfl rfl (by decide);have τ:¬ E.o7=p:=fun e=>μ e.symm;have σ:¬ E.o7=E.o:=U.ne 1 0 rfl rfl (by decide);simp only[go_sem,EL,f0,f11];refine cR Lb.toxC T (o:=E.o) (n:=mc) (a:=sp.2) Om δ rfl (U.at 0 rfl) ?_;have h2:=U.set 0 rfl (bG v f.2);rw[hf];simp only[go_sem,EM];refine aT fun o ho=>?_;have h3:=h2.asE (s:=1) (rows:=aZ [(f.1:Int)]) ho;have b3:=h3.at 3 rfl;have ob:¬ p=o:=h3.neL 3 5 rfl rfl rfl;have φ:¬ E.o7=o:=h3.neL 1 5 rfl rfl rfl;have χ:¬ E.o=o:=h3.neL 0 5 rfl rfl rfl;simp only[aQ,if_neg ob,if_neg γ] at b3;simp only[go_sem,R,ob,γ,b3,aXP,aXX,or_false,forall_eq];have h4:=h3.set 3 rfl (.rows 17 [tR ⟨s,k,m,q,0,x1,x2,x3,x4,[],rl,t,h⟩ (.osl o 1 0 1)]);have fin:∀ (w:PV) (ms:List Int) (a':Nat) (F':PF) (H':PH),PAt E mc n i F'→F' 15=some (.ptr p 17 0 0)→(∃ o,w=.osl o 1 0 ms.length) →
   aP H' (E.boxes v ext w1 w2 w3 w4 w5 .aB a'++[(p,.rows 17 [tR ⟨s,k,m,q,0,x1,x2,x3,x4,ms,rl,t,h⟩ w])]) (FE.lists w1 w2 w3 w4 w5 lw md dm dv pr++[(w,1,aZ ms)]) →
   (∀ (J:PV) (F2:PF) (H2:PH),PAt E mc n i F2→aP H2 (E.boxes v ext w1 w2 w3 w4 J .aB a'++[(p,.rows 17 [tR ⟨s,k,m,q,0,x1,x2,x3,x4,ms,rl,t,h⟩ w])]) (FE.lists w1 w2 w3 w4 J lw md dm dv (pr++[tR ⟨s,k,m,q,0,x1,x2,x3,x4,ms,rl,t,h⟩ w])++[(w,1,aZ ms)])→K .normal F2 H2) →
   wpOps C uL (K .normal) F' H':=by
  intro w ms a' F' H' η R hw β ι;obtain⟨wo,rfl⟩:=hw;obtain⟨f0,f1,f2,f6,f7,f11,f13,f14⟩:=η;have c1:=β.at 1 rfl;have c3:=β.at 3 rfl;have ζ:(1:Nat)*17≤16777216:=by decide
  simp only[go_sem,uL,f7,R,c1,c3,ζ,aXP,aXX,or_false,forall_eq,forall_eq_or_imp];refine β.append 4 (src:=[tR ⟨s,k,m,q,0,x1,x2,x3,x4,ms,rl,t,h⟩ (.osl wo 1 0 ms.length)]) rfl rfl (by unfold roomFor; simp only[aXR,maxLen]; omega) fun J H2 h5 ξ=>?_;obtain⟨q5,rfl⟩:=ξ (by simp);have c2:=h5.at 1 rfl;simp only[go_sem,c2,aXP,aXX,or_false,forall_eq];exact ι _ _ _ ⟨by simp only[go_sem,f0],by simp only[go_sem,f1],by simp only[go_sem,f2],by simp only[go_sem,f6],by simp only[go_sem,f7],by simp only[go_sem,f11],by simp only[go_sem,f13],by simp only[go_sem,f14]⟩ (h5.set 1 rfl (flB ext w1 w2 w3 w4 _ .aB))
 simp only[go_sem,EN,f11];by_cases c:1<mc
 ·have c':(mc:Int)>1:=Om;simp only[go_sem,c',f0];refine cR Lb.toxC T (o:=E.o) (n:=2) (a:=f.2) (by decide) af rfl (h4.at 0 rfl) ?_;have h5:=h4.set 0 rfl (bG v b.2);rw[hb];by_cases c2:b.1=0
  ·have α:(b.1:Int)=0:=Om;rw[if_pos c,if_pos c2] at hK;have e1:IntKind.i64.wrap (1-(f.1:Int))=1-(f.1:Int):=wrap_i64 Om Om;have c3:=h5.at 3 rfl;have ε:(1:Nat)*1≤16777216:=by decide
   simp only[go_sem,bM α,EO,R,γ,e1,ε];refine h5.append 5 (src:=[[.int .i64 (1-(f.1:Int))]]) rfl rfl (by unfold roomFor; simp only[aZ,aXI,aXR,maxLen]; omega) fun w' H2 h6 hw=>?_;obtain⟨q2,rfl⟩:=hw (by simp);have c4:=h6.at 3 rfl;simp only[go_sem,c4,R,aXP,aXX,or_false,forall_eq];have h7:=h6.set 3 rfl (.rows 17 [tR ⟨s,k,m,q,0,x1,x2,x3,x4,[(f.1:Int),1-(f.1:Int)],rl,t,h⟩ (.osl q2 1 0 2)]);exact fin (.osl q2 1 0 2) [(f.1:Int),1-(f.1:Int)] b.2 _ _ ⟨by simp only[go_sem,f0],by simp only[go_sem,f1],by simp only[go_sem,f2],by simp only[go_sem,f6],by simp only[go_sem,f7],by simp only[go_sem,f11],by simp only[go_sem,f13],by simp only[go_sem,f14]⟩ (by simp only[go_sem,R]) ⟨q2,rfl⟩ h7 (fun J F2 H2 g1 g2=>hK _ J F2 H2 _ g1 ⟨q2,rfl⟩ g2)
  ·have α:¬ (b.1:Int)=0:=Om;rw[if_pos c,if_neg c2] at hK;simp only[go_sem,bF α];exact fin (.osl o 1 0 1) [(f.1:Int)] b.2 _ _ ⟨by simp only[go_sem,f0],by simp only[go_sem,f1],by simp only[go_sem,f2],by simp only[go_sem,f6],by simp only[go_sem,f7],by simp only[go_sem,f11],by simp only[go_sem,f13],by simp only[go_sem,f14]⟩ (by simp only[go_sem,R]) ⟨o,rfl⟩ h5 (fun J F2 H2 g1 g2=>hK _ J F2 H2 _ g1 ⟨o,rfl⟩ g2)
 ·have c':¬ (mc:Int)>1:=Om;rw[if_neg c] at hK;simp only[go_sem,c'];exact fin (.osl o 1 0 1) [(f.1:Int)] f.2 _ _ ⟨by simp only[go_sem,f0],by simp only[go_sem,f1],by simp only[go_sem,f2],by simp only[go_sem,f6],by simp only[go_sem,f7],by simp only[go_sem,f11],by simp only[go_sem,f13],by simp only[go_sem,f14]⟩ (by simp only[go_sem,R]) ⟨o,rfl⟩ h4 (fun J F2 H2 g1 g2=>hK _ J F2 H2 _ g1 ⟨o,rfl⟩ g2)
end Go.PM
