/-
  Texts of ours, joined: YtBase L11P1 L11W2 L11W3 Mv1 Mv2 Mv3 Mv4 L11W4 Jn3 MkW17 MkW18 L11W5 L11W6 L11P2 L11W7 L11W8 L11W9 L11W10 L11W11 L11W12 L11W13 Jn4 R3W1 R3W2 R3W3 R8W1 R10Code R10W1 R10W2 R10W3 R10W4 R10P1 R10W5 R10W6. No condition.
-/
import Derived.Test.YtnagfjehjbbckaaGreatDoorLe1
import Derived.Test.YtnagfjehjbbckaaGreatDoorLe2
import Derived.Test.YtnagfjehjbbckaaGreatDoorLe3
import Derived.Test.YtnagfjehjbbckaaGreatDoorLe4
import Derived.Test.YtnagfjehjbbckaaGreatDoorRows
import Derived.Test.YtnagfjehjbbckaaGreatDoorProg
import Derived.KernelRfl
import Derived.ProofKit
import Derived.WalkKit
import Derived.LaidMore
import Derived.OpenShut
import Derived.Stop.Joined
import Derived.Lib.SlicesCompact
import Derived.Shelf.Sort.Plain
import Derived.Shelf.Slices.CompactI
import Derived.Shelf.Slices.In.SortNone
set_option linter.unusedSimpArgs false
set_option linter.unusedVariables false
open Nat renaming reduceEqDiff → γ, reduceAdd → δ, reduceSub → ε, reduceMul → ζ, reduceLT → η, reduceLeDiff → θ, reduceBEq → τ
open Int renaming reduceLT → ι, reduceLE → κ, reduceEq → μ, reduceToNat → ν, reduceAdd → ξ, reduceNeg → ο, reduceBEq → ρ, reduceBNe → σ
open List renaming reduceReplicate → υ
open List renaming length_map → a1K, replicate → a1M, getElem_mem → a1N, length_append → a1P, mem_cons → a1R, range → a1S, length_singleton → a1T, getElem?_eq_getElem → a1V, length_take → a2A, not_mem_nil → a2B, take_of_length_le → a2C, all_eq_true → a2F, mem_map → a2G, getElem?_map → a2K, getD_eq_getElem?_getD → a2L, map_append → a2N, take_length → a2O, getElem?_eq_some_iff → a2P, drop_zero → a2S, append_assoc → a2T, map_cons → a2Y, getElem?_eq_none → a2Z, mem_append → a3A, mem_range → a3B, getElem_of_mem → a3D, length_cons → a3E, range' → a3H, take_succ_eq_append_getElem → a3I, append_nil → a3J, drop_eq_getElem_cons → a3K, getElem_map → a3L, length_drop → a3M, Sublist → a3N, mem_singleton → a3O, map_nil → a3Q, mem_of_getElem? → a3R, length_set → a3U, getElem?_append_left → a3Y, length_nil → a3Z, nodup_append → a4C, getElem?_append_right → a4E, take_append_drop → a4H, ext_getElem → a4O, set_append_right → a4P, set_cons_zero → a4R, getElem?_take → a4U, map_congr_left → a4V, drop_of_length_le → a5C, getElem_append_right → a5D
open Nat renaming gcd → a1L, le_refl → a1O, mul_add → a1U, zero_le → a1X, lt_or_ge → a2D, mul_assoc → a2E, zero_add → a2H, mul_comm → a2M, mul_le_mul_right → a2Q, add_mul → a2R, mod_eq_of_lt → a2U, le_trans → a2X, mod_lt → a3C, pow_succ → a3F, add_zero → a3S, add_assoc → a3V, min_eq_left → a3W, mul_le_mul_left → a3X, pos_of_ne_zero → a4A, eq_zero_or_pos → a4D, pow_pos → a4F, div_le_self → a4I, succ_mul → a4J, div_lt_iff_lt_mul → a4L, mul_le_mul → a4S, div_add_mod → a4W, div_eq_of_lt → a4X, pow_le_pow_right → a4Y
open Option renaming map_eq_some_iff → a1Q, map_some → a2V, some → a3T, getD_some → a4G, bind_eq_some_iff → a4Z, bind_some → a5A
open Bool renaming not_true → a1W, false_and → a1Y, and_eq_true → a1Z, not_false → a2I, true_and → a2J, and_false → a2W, and_true → a4B, false_eq_true → a4K, and_self → a4N
open Array renaming replicate → a3G, length_toList → a4M, getElem?_eq_some_iff → a4Q, getElem?_eq_getElem → a4T, getD_eq_getD_getElem? → a5B
open Int renaming toNat_natCast → a3P
namespace Go.Proofs.YtnagfjehjbbckaaGreatDoor
open Go Go.PM Go.RowKit Go.ChangeShapes Go.WideShapes
def aPO:List Nat:=[22,87,51,23,50,54,24,53,0,0,0,0,0,0,0,0,0,0,0,0,0,0,0,0,0,0,0,6,21,52,83,132,85,62,61,30,119,86,48,101,135,100,122,120,134,133,46,8,121,19,9,49,80,20,93,127,18,84,29,31,82,128,124,167,150,149,129,57,92,96,91,125,95,90,94,126,89,117,0,0,118,116,55,0,26,0,0,0,147,0,0,0,0,0,12,104,63,137,151,138,153,156,140,152,102,136,141,154,142,155,106,103,105,71,38,35,67,139,73,70,69,75,76,143,168,158,157,113,68,74,110,109,112,115,114,111,145,144,108,162,159,146,161,160,0,0,0,0,0,0,28,0,25,0,60,0,130,99,98,131,97,56,148,123,171,165,166,172,169,164,163,0,0,0,0,0,0,0,0,0,0,0,0,0,0,0,0,0,0,0,0,0,0,0,0,88,0,0,0,0,0,59,58,45,27,15,64,65,36,16,66,107,44,81,0,78,41,77,79,39,42,0,14,7,0,0,0,0,0,34,32,10,33,11,40,13,43,3,4,5,0,0,0,0,0,0,0,0,0,0,0,0,0,0,0,0,0,0,0,0,0,0,0,0,0,0,0,0,0,0,0,0,0,0,0,0,0,0,37,72,17,47]
def aIZ:List (Option Nat):=[none,none,none,some 237,some 238,some 239,some 27,some 223,some 47,some 50,some 231,some 233,some 94,some 235,some 222,some 205,some 209,some 280,some 56,some 49,some 53,some 28,some 0,some 3,some 6,some 152,some 84,some 204,some 150,some 58,some 35,some 59,some 230,some 232,some 229,some 115,some 208,some 278,some 114,some 219,some 234,some 216,some 220,some 236,some 212,some 203,some 46,some 281,some 38,some 51,some 4,some 2,some 29,some 7,some 5,some 82,some 161,some 67,some 202,some 201,some 154,some 34,some 33,some 96,some 206,some 207,some 210,some 116,some 128,some 120,some 119,some 113,some 279,some 118,some 129,some 121,some 122,some 217,some 215,some 218,some 52,some 213,some 60,some 30,some 57,some 32,some 37,some 1,some 195,some 76,some 73,some 70,some 68,some 54,some 74,some 72,some 69,some 160,some 158,some 157,some 41,some 39,some 104,some 111,some 95,some 112,some 110,some 211,some 138,some 131,some 130,some 135,some 132,some 127,some 134,some 133,some 81,some 77,some 80,some 36,some 43,some 48,some 42,some 163,some 62,some 71,some 75,some 55,some 61,some 66,some 156,some 159,some 31,some 45,some 44,some 40,some 105,some 97,some 99,some 117,some 102,some 106,some 108,some 123,some 137,some 136,some 141,some 88,some 162,some 65,some 64,some 98,some 103,some 100,some 107,some 109,some 101,some 126,some 125,some 140,some 143,some 142,some 139,some 170,some 169,some 165,some 166,some 63,some 124,some 168,none,some 164,some 167]
def num (n:Nat):FuncId:=aPO.getD n 0
def nameOf (f:FuncId):Option Nat:=aIZ.getD f none
noncomputable def C:Ctx:=⟨Tryz.prog,num⟩
noncomputable def T (ro:List Nat):Tbl:={ P:=Tryz.prog,num:=num,name:=nameOf,ro:=ro }
def OP:Code→Option (Code × Code)
 | .rangeFunc _ _ a b=>some (a,b)
 | .seq a b=>match OP a with | some x=>some x | none=>OP b
 | .block _ c=>OP c
 | _=>none
def aFW (c:Option Code):Code:=match c with | some c=>((OP c).getD (.skip,.skip)).1 | none=>.skip
def aFX (c:Option Code):Code:=match c with | some c=>((OP c).getD (.skip,.skip)).2 | none=>.skip
theorem bM (T:Tbl) {k:Nat} {fn:Func} {c:aR} (l:C.P.funcs[C.num k]?=some fn) (e:C.P=T.P:=by rfl) (d:C.num=T.num:=by rfl) (u:(fn.name=="runtime.NumGoroutine")=false:=by kernel_rfl) (i:T.func fn=some c:=by kernel_rfl):aO C k c:=fun _ _ _ p h=>aiP e d l u i p h
theorem aFY (T:Tbl) {k:Nat} {fn:Func} {c:xB} (l:C.P.funcs[C.num k]?=some fn) (i:T.Yw fn=some c) (e:C.P=T.P:=by rfl) (d:C.num=T.num:=by rfl) (u:(fn.name=="runtime.NumGoroutine")=false:=by kernel_rfl):YI C k c:=fun _ _ _ p h=>Yj e d l u i p h
theorem Tryz.own:ownKnob Tryz.prog.godebug=none:=by kernel_rfl
theorem Tryz.laidOut:laidOutB Tryz.prog=true:=by kernel_rfl
theorem itoa:nN C:=fun n p=>by
 refine⟨⟨Tryz.f88,Tryz.func88,by kernel_rfl,by kernel_rfl⟩,fun E w vs u hW c=>?_⟩;obtain⟨x⟩:=vs;cases c with
 | cons d i =>
 cases i;cases d;refine (Any.strconv_Itoa_small Tryz.aIP n p w).mono fun e y l=>?_;obtain⟨rfl,rfl⟩:=l;exact⟨_,.str (bT n),E,.nil,rfl,hW,.str ⟨(Lib.decDigits n).toArray⟩,.refl _ _ _,rfl,rfl⟩
theorem ahR {pv:PV} (h:PV.Ty (.sl [.int .u8]) pv):∃ l:List Nat,pv=.sl 1 (jW l)∧(∀ x∈l,x<256)∧l.length≤9223372036854775807:=by
 obtain⟨xs,rfl,u,d⟩:=Ty.Fv h;refine⟨xs.map Int.toNat,?_,?_,?_⟩
 ·unfold Zf jW;rw[List.map_map];congr 1;refine a4V fun x e=>?_;have:=(d x e).1;simp only[Function.comp];rw[Int.toNat_of_nonneg this]
 ·intro y i;obtain⟨x,c,rfl⟩:=a2G.1 i;have:=(d x c).2;have p:=(d x c).1;have c:IntKind.u8.max=255:=by decide
  rw[c] at this;omega
 ·rw[a1K];have:maxLen≤9223372036854775807:=by decide
  omega
theorem aOO {pv:PV} (h:PV.Ty (.sl [.int .i8]) pv):∃ l:List Int,pv=.sl 1 (l.map fun x=>[.int .i8 x])∧∀ x∈l,-128≤x∧x≤127:=by
 obtain⟨xs,rfl,-,i⟩:=Ty.Fv h;refine⟨xs,rfl,fun x e=>?_⟩;have c:=(i x e).1;have d:=(i x e).2;rw[show IntKind.i8.min=-128 by decide] at c;rw[show IntKind.i8.max=127 by decide] at d;exact⟨c,d⟩
theorem J7 {pv:PV} (h:PV.Ty (.int .u8) pv):∃ n:Nat,pv=.int .u8 n∧n<256:=by
 obtain⟨m,rfl,d⟩:=Ty.lg h;have c:=d.1;have e:=d.2;have i:IntKind.u8.max=255:=by decide
 have l:IntKind.u8.min=0:=by decide
 rw[i] at e;rw[l] at c;exact⟨m.toNat,by rw[Int.toNat_of_nonneg c],by omega⟩
end Go.Proofs.YtnagfjehjbbckaaGreatDoor
namespace Go.PM
open Go Go.Na
theorem lS {f:aJ} (h:VF f) {i:Nat} (hi:i<f.a0C.length):0≤lvl f i∧lvl f i≤4:=by
 rcases a4D i with e | e
 ·rw[e,h.root.2.1]; omega
 ·have:=h.dom i e hi; omega


theorem S1 (a b:Nat):mkT (a:Int) (b:Int)=⟨false,aE (a/a1L a b),aE (b/a1L a b)⟩:=by
 have c:decide ((a:Int)<0)=false:=decide_eq_false Om;have d:decide ((b:Int)<0)=false:=decide_eq_false Om;unfold mkT lF FV.rf;rw[c,d,Int.natAbs_natCast,Int.natAbs_natCast];rfl
structure SmF (x:RF) (p q:Nat):Prop where
 eq:x=⟨false,aE (p/a1L p q),aE (q/a1L p q)⟩
 a:p≤64
 b:q≤64
 pos:0<q
theorem SmF.mk' {a b:Nat} (c:a≤64) (d:b≤64) (h:0<b):SmF (mkT (a:Int) (b:Int)) a b:=⟨S1 a b,c,d,h⟩
theorem SmF.num {x:RF} {a b:Nat} (h:SmF x a b):val x.num=a/a1L a b:=by rw[h.eq,aT]
theorem SmF.den {x:RF} {a b:Nat} (h:SmF x a b):val x.den=b/a1L a b:=by rw[h.eq,aT]
theorem SmF.v {x:RF} {a b:Nat} (h:SmF x a b):x.v=(false,a/a1L a b,b/a1L a b):=by
 unfold RF.v;rw[h.num,h.den,h.eq]
theorem SmF.I6 {x:RF} {a b:Nat} (_:SmF x a b):a/a1L a b≤a:=a4I ..
theorem SmF.B8 {x:RF} {a b:Nat} (_:SmF x a b):b/a1L a b≤b:=a4I ..
theorem SmF.den_pos {x:RF} {a b:Nat} (h:SmF x a b):0<b/a1L a b:=Nat.div_pos (Nat.le_of_dvd h.pos (Nat.gcd_dvd_right a b)) (Nat.gcd_pos_of_pos_right a h.pos)
theorem wN {n:Nat} (h:n≤4096):cJ n≤32:=(lH n 32).2 Om
theorem Mu {n:Nat} (h:0<n):0<cJ n:=by
 rcases a4D (cJ n) with e | e
 ·rw[jN] at e; omega
 ·exact e
theorem sO {a b:Nat} (d:a≤4096) (e:b≤4096) (h:0<b):cG a b=true:=by
 have i:=wN d;have l:=wN e;have c:=Mu h;unfold cG;rw[decide_eq_true c,decide_eq_true (Om:cJ b≤4096),decide_eq_true (Om:cJ a≤4096)];rfl
theorem Sw {n:Bool} {a b:Nat} (c:a≤4096) (d:b≤4096):gD n a b=.ok (n&&decide (a/a1L a b≠0),a/a1L a b,b/a1L a b):=by
 have e:=wN (a2X (a4I a (a1L a b)) c);have i:=wN (a2X (a4I b (a1L a b)) d);unfold gD;rw[if_neg Om]
theorem SmF.lim {x:RF} {a b:Nat} (h:SmF x a b):eT x=true:=by
 have l:=h.I6;have p:=h.B8;have c:=h.den_pos;have:=h.a;have:=h.b;have d:x.neg=false:=by rw[h.eq]
 unfold eT mB;rw[h.num,h.den,d,sO Om Om c,if_pos rfl,Sw Om Om];have e:=a4I (a/a1L a b) (a1L (a/a1L a b) (b/a1L a b));have i:=a4I (b/a1L a b) (a1L (a/a1L a b) (b/a1L a b));simp only[a1Y,a2I,a2J,a1Z,decide_eq_true_eq];exact⟨wN Om,wN Om⟩
theorem SmF.nP {x:RF} {a b:Nat} (h:SmF x a b) (c:0<a):bS x=true:=by
 unfold bS;rw[h.num];exact decide_eq_true (Nat.ne_of_gt (Nat.div_pos (Nat.le_of_dvd c (Nat.gcd_dvd_left a b)) (Nat.gcd_pos_of_pos_right a h.pos)))
theorem SmF.zero {x:RF} {b:Nat} (h:SmF x 0 b):bS x=false:=by
 unfold bS;rw[h.num,Nat.zero_div];rfl
theorem SmF.one {x:RF} {a b:Nat} (h:SmF x a b) (c:a≤b):XD x=true:=by
 have i:=h.I6;have l:=h.B8;have d:=h.den_pos;have:=h.a;have:=h.b;have e:x.neg=false:=by rw[h.eq]
 unfold XD;rw[h.num,h.den,e,sO Om Om d];have:a/a1L a b≤b/a1L a b:=Nat.div_le_div_right c;show (true&&decide (cU (a/a1L a b*1) (1*(b/a1L a b))≤0))=true;rw[Nat.mul_one,Nat.one_mul,a2J];refine decide_eq_true ?_;unfold cU;split
 ·decide
 ·split
  ·omega
  ·decide
theorem SmF.ok {x:RF} {a b:Nat} (h:SmF x a b):x.Ok:=by
 have c:=h.I6;have d:=h.B8;have:=h.a;have:=h.b;have k1:nl (a/a1L a b)≤1:=(iJ _ _).2 Om;have k2:nl (b/a1L a b)≤1:=(iJ _ _).2 Om;rw[h.eq];refine⟨aU _,aU _,?_,?_⟩
 ·show (aE _).length≤_;rw[aW]; omega
 ·show (aE _).length≤_;rw[aW]; omega
theorem aHE:∀ c:Fin 9,∀ k:Fin 9,c.val+k.val≤8 →
  (c.val/a1L c.val 8*(8/a1L k.val 8)+k.val/a1L k.val 8*(8/a1L c.val 8))/a1L (c.val/a1L c.val 8*(8/a1L k.val 8)+k.val/a1L k.val 8*(8/a1L c.val 8)) (8/a1L c.val 8*(8/a1L k.val 8))=(c.val+k.val)/a1L (c.val+k.val) 8 ∧
  8/a1L c.val 8*(8/a1L k.val 8)/a1L (c.val/a1L c.val 8*(8/a1L k.val 8)+k.val/a1L k.val 8*(8/a1L c.val 8)) (8/a1L c.val 8*(8/a1L k.val 8))=8/a1L (c.val+k.val) 8:=by decide +kernel
abbrev eV (c:Nat):FV:=(false,c/a1L c 8,8/a1L c 8)
theorem RQ (c:Nat):0<8/a1L c 8:=Nat.div_pos (Nat.le_of_dvd (by decide) (Nat.gcd_dvd_right c 8)) (Nat.gcd_pos_of_pos_right c (by decide))
theorem Aq {c k:Nat} (h:c+k≤8):fU (eV c) (eV k)=.ok (eV (c+k)):=by
 obtain⟨d,e⟩:=aHE ⟨c,by omega⟩ ⟨k,by omega⟩ h;simp only at d e;have a1:=a4I c (a1L c 8);have a2:=a4I k (a1L k 8);have a3:=a4I 8 (a1L c 8);have a4:=a4I 8 (a1L k 8);have i:=RQ c;have l:=RQ k;simp only[fU];rw[sO Om Om i,sO Om Om l,a4N,if_pos rfl,if_pos trivial];have b1:c/a1L c 8*(8/a1L k 8)≤8*8:=a4S Om a4;have b2:k/a1L k 8*(8/a1L c 8)≤8*8:=a4S Om a3;have p:8/a1L c 8*(8/a1L k 8)≤8*8:=a4S a3 a4;rw[Sw Om Om,d,e];rfl
theorem OX:∀ (l:List Nat) (c:Nat),c+l.sum≤8→(l.map eV).foldlM fU (eV c)=.ok (eV (c+l.sum))
 | [],c,_=>rfl
 | k::l,c,h=>by rw[List.sum_cons] at h;rw[a2Y,List.foldlM_cons,Aq Om,List.sum_cons,← a3V];exact OX l (c+k) Om
theorem aHD:eV 0=(false,0,1):=by decide +kernel
theorem awM:eV 8=(false,1,1):=by decide +kernel
theorem aLL (l:List Nat) (h:l.sum=8):(match pS (l.map eV) with
  | .ok (n,a,b)=>decide (pP n a b false 1 1=0)
  | .error _=>false)=true:=by
 unfold pS;rw[← aHD,OX l 0 Om,a2H,h,awM];rfl
def dig (k:Nat):List UInt8:=if k<10 then [UInt8.ofNat (48+k)] else [UInt8.ofNat (48+k/10),UInt8.ofNat (48+k%10)]
def RG:List UInt8→Nat
 | [a]=>a.toNat-48
 | [a,b]=>(a.toNat-48)*10+(b.toNat-48)
 | _=>0
theorem MR {k:Nat} (h:k<100):bT k=dig k:=by
 unfold bT dig;by_cases c:k<10
 ·rw[if_pos c]; exact Lib.decDigits_one c
 ·rw[if_neg c]; exact Lib.decDigits_two c h
theorem Ca:∀ k:Fin 100,RG (dig k.val)=k.val∧(dig k.val).length≤2∧((dig k.val).all fun c=>hC c.toNat)=true:=by decide +kernel
theorem l7 {p:List UInt8} {c:UInt8} {t:List UInt8} (e:p=c::t) (i:gR c.toNat=true) (w:(t.all fun c=>hC c.toNat)=true) (x:p.length≤8) {k:Nat} (l:k<100):isName (p++bT k)=true:=by
 obtain⟨-,u,d⟩:=Ca ⟨k,l⟩;simp only at u d;subst e;rw[MR l];show (decide ((c::t++dig k).length≤16)&&gR c.toNat&&(c::t++dig k).all fun c=>hC c.toNat)=true;have hi:hC c.toNat=true:=by unfold hC; rw[i]; rfl
 rw[decide_eq_true (by rw[a1P]; omega),i,List.all_append,d,List.all_cons,w,hi];rfl
theorem RP {l:List (List UInt8)} (c:∀ x∈l,isName x=true) (d:l.Nodup):distinct l=true:=by
 unfold distinct;rw[a2F];intro i hi;rw[a3B] at hi;have e:l.getD i []=l[i]:=by simp[a2L,hi]
 rw[e,c _ (a1N hi),a2J];have:¬ l[i]∈l.take i:=by intro u;obtain⟨j,p,e⟩:=a3D u;rw[a2A] at p;rw[List.getElem_take] at e;have:=(List.nodup_iff_pairwise_ne.1 d);rw[List.pairwise_iff_getElem] at this;exact this j i Om hi Om e
 simp[this]
theorem NQ {l:List (List UInt8)} {g:List UInt8→Nat} (h:∀ i (hi:i<l.length),g l[i]=i):l.Nodup:=by
 rw[List.nodup_iff_pairwise_ne,List.pairwise_iff_getElem];intro i j hi d hlt e;have c:=h i hi;have p:=h j d;rw[e] at c;omega
theorem rQ {l:List (List UInt8)} {p:List UInt8} {c:UInt8} {t:List UInt8} (e:p=c::t) (d:gR c.toNat=true) (w:(t.all fun c=>hC c.toNat)=true) (u:p.length≤8) (A:l.length≤100) (h:∀ i (hi:i<l.length),l[i]=p++bT i):distinct l=true:=by
 refine RP ?_ (NQ (g:=fun s=>RG (s.drop p.length)) ?_)
 ·intro x y;obtain⟨i,hi,rfl⟩:=a3D y;rw[h i hi];exact l7 e d w u Om
 ·intro i hi;rw[h i hi];simp only[List.drop_left];rw[MR Om];exact (Ca ⟨i,by omega⟩).1
structure rK (x:RF):Prop where
 lim:eT x=true
 ok:x.Ok
theorem SmF.o {x:RF} {a b:Nat} (h:SmF x a b):rK x:=⟨h.lim,h.ok⟩
theorem oR:SmF jJ 0 1:=SmF.mk' (a:=0) (b:=1) (by decide) (by decide) (by decide)
theorem qL (l:List Nat) (a:Nat):rK (fB l a).1∧bS (fB l a).1=true:=by
 have c:=cE l (show 0<6 by decide) a;have d:=cE l (show 0<8 by decide) (aD l 6 a).2;have:=SmF.mk' (a:=1+(aD l 6 a).1) (b:=1+(aD l 8 (aD l 6 a).2).1) Om Om Om;exact⟨this.o,this.nP Om⟩
theorem avR (l:List Nat) (i j a:Nat):rK (hZ l i j a).1∧(j=i→bS (hZ l i j a).1=false)∧(j=i+1→bS (hZ l i j a).1=true):=by
 unfold hZ;by_cases c:j=i+1
 ·rw[if_pos c];exact⟨(qL l a).1,fun h=>by omega,fun _=>(qL l a).2⟩
 ·rw[if_neg c];by_cases d:j=i
  ·rw[if_pos d];exact⟨oR.o,fun _=>oR.zero,fun h=>absurd h c⟩
  ·rw[if_neg d];simp only;split
   ·exact⟨(qL l _).1,fun h=>absurd h d,fun h=>absurd h c⟩
   ·exact⟨oR.o,fun h=>absurd h d,fun h=>absurd h c⟩
theorem Vc (l:List Nat) (i a:Nat):∀ n,(dL l i a n).1.length=n∧∀ j (c:j<(dL l i a n).1.length),rK (dL l i a n).1[j]∧(j=i→bS (dL l i a n).1[j]=false)∧(j=i+1→bS (dL l i a n).1[j]=true)
 | 0=>⟨rfl,fun j c=>absurd c (by simp[dL])⟩
 | n+1=>by
  obtain⟨d,p⟩:=Vc l i a n;have e:(dL l i a (n+1)).1=(dL l i a n).1++[(hZ l i n (dL l i a n).2).1]:=rfl;rw[e];refine⟨by simp[d],fun j c=>?_⟩;by_cases hlt:j<(dL l i a n).1.length
  ·rw[List.getElem_append_left hlt]; exact p j hlt
  ·rw[a1P,a1T] at c;have:j=n:=Om;subst this;rw[a5D Om];simp only[List.getElem_singleton];exact avR l i j _
theorem Vb (l:List Nat) (a:Nat):∀ n,(jQ l a n).1.length=n∧∀ x∈(jQ l a n).1,rK x∧bS x=true
 | 0=>⟨rfl,fun x c=>by cases c⟩
 | n+1=>by
  obtain⟨d,i⟩:=Vb l a n;have e:(jQ l a (n+1)).1=(jQ l a n).1++[(fB l (jQ l a n).2).1]:=rfl;rw[e];refine⟨by simp[d],fun x c=>?_⟩;rw[a3A,a3O] at c;rcases c with c | rfl
  ·exact i x c
  ·exact qL l _
theorem awW (l:List Nat) (n i a:Nat):rK (eR l n i a).1∧(i+1=n→bS (eR l n i a).1=true):=by
 unfold eR;by_cases h:i+1<n
 ·simp only[if_pos h];refine⟨?_,fun c=>by omega⟩;split
  ·exact oR.o
  ·exact (qL l a).1
 ·simp only[if_neg h];exact⟨(qL l a).1,fun _=>(qL l a).2⟩
def aOB (n:Nat) (a0E:List (List RF)):Prop:=∀ i (hi:i<a0E.length),a0E[i].length=n∧∀ j (c:j<a0E[i].length),rK a0E[i][j]∧(j=i→bS a0E[i][j]=false)∧(j=i+1→bS a0E[i][j]=true)
def aNX (n:Nat) (exit:List RF):Prop:=∀ i (hi:i<exit.length),rK exit[i]∧(i+1=n→bS exit[i]=true)
structure aWK (n i:Nat) (s:zZ) (cs:List Nat):Prop where
 start:s.start=cs.map fun c=>mkT ((c:Nat):Int) ((8:Nat):Int)
 lens:s.exit.length=i∧s.a0E.length=i∧cs.length=i
 left:cs.sum+s.left=8∧(i=n→0<n→s.left=0)
 exit:aNX n s.exit
 a0E:aOB n s.a0E
theorem qP {α:Type} {P:Nat→α→Prop} {xs:List α} {x:α} (h:∀ i (hi:i<xs.length),P i xs[i]) (c:P xs.length x):∀ i (hi:i<(xs++[x]).length),P i (xs++[x])[i]:=by
 intro i hi;by_cases hlt:i<xs.length
 ·rw[List.getElem_append_left hlt]; exact h i hlt
 ·rw[a1P,a1T] at hi;have:i=xs.length:=Om;subst this;rw[a5D Om];simpa using c
theorem sv (l:List Nat) (n a:Nat):∀ i,i≤n→∃ cs,aWK n i (fM l n a i) cs
 | 0,_=>⟨[],rfl,⟨rfl,rfl,rfl⟩,⟨rfl,fun h c=>by omega⟩,fun i hi=>absurd hi (by simp[fM]),fun i hi=>absurd hi (by simp[fM])⟩
 | i+1,hi=>by
  obtain⟨cs,p,⟨c,d,u⟩,⟨h5,-⟩,w,h7⟩:=sv l n a i Om;generalize A:fM l n a i=s at *
  have e:fM l n a (i+1)=⟨s.start++[mkT ((dK l n i s).1:Nat) 8],s.exit++[(eR l n i (dK l n i s).2).1],s.a0E++[(dL l i (eR l n i (dK l n i s).2).2 n).1],s.left-(dK l n i s).1,(dL l i (eR l n i (dK l n i s).2).2 n).2⟩:=by simp only[fM,A]
  rw[e];have y:(dK l n i s).1≤s.left∧(i+1=n→(dK l n i s).1=s.left):=by
   unfold dK;split
   ·exact⟨by have:=cE l (Om:0<s.left+1) s.a; omega,fun h=>by omega⟩
   ·exact⟨a1O _,fun _=>rfl⟩
  refine⟨cs++[(dK l n i s).1],?_,⟨by simp[c],by simp[d],by simp[u]⟩,⟨?_,fun h _=>?_⟩,?_,?_⟩
  ·simp only[p,a2N,a2Y,a3Q]; rfl
  ·simp only[List.sum_append,List.sum_cons,List.sum_nil]; omega
  ·have:=y.2 h;simp only; omega
  ·refine qP (P:=fun i x=>rK x∧(i+1=n→bS x=true)) w ?_;rw[c]; exact awW l n i _
  ·refine qP (P:=fun i (r:List RF)=>r.length=n∧∀ j (B:j<r.length),rK r[j]∧(j=i→bS r[j]=false)∧(j=i+1→bS r[j]=true)) h7 ?_;rw[d]; exact Vc l i _ n
theorem awQ {x:cS} {e r:RF} (c:x.exit=[e]) (d:x.a0E=[[r]]) (i:bS e=true):rU x=true:=by
 unfold rU;rw[c];show ((gI x 2).all id)=true;simp only[gI,eU,kX,dS,c,d,a3E,a3Z,List.getD_cons_zero,a2Y,a3Q,i];cases bS r<;>rfl
theorem ON {x:cS} {u w d e i l:RF} (y:x.exit=[u,w]) (A:x.a0E=[[d,e],[i,l]]) (B:bS w=true) (E:bS e=true) (a b:Bool) :
  ∃ c,eU x [a,b] 2=[c,true]∧(b=true→c=true)∧(a=true→c=true):=by
 have F:kX x [a,b] 0=[((a||bS u)||bS d&&(a||bS u))||b,b]:=by unfold kX;rw[y,A];simp only[List.getD_cons_zero,a2Y,a4R];generalize (a||bS u)=c;show dS [c,b] 0 [d,e] 2=_;have:dS [c,b] 0 [d,e] 1=[c||bS d&&c,b]:=rfl;show (let p:=dS [c,b] 0 [d,e] 1; p.set 0 (p.getD 0 false||([d,e].map bS).getD 1 false&&p.getD 1 false))=_;rw[this];show [(c||bS d&&c)||(bS e&&b),b]=_;rw[E,a2J]
 have H:∀ c,kX x [c,b] 1=[c,true]:=by intro c;unfold kX;rw[y,A];have:dS [c,true] 1 [i,l] 1=[c,true||bS i&&c]:=rfl;show dS [c,b||bS w] 1 [i,l] 2=_;rw[B,Bool.or_true];show (let p:=dS [c,true] 1 [i,l] 1; p.set 1 (p.getD 1 false||([i,l].map bS).getD 1 false&&p.getD 1 false))=_;rw[this,Bool.true_or];show [c,true||bS l&&true]=_;rw[Bool.true_or]
 refine⟨_,by rw[show eU x [a,b] 2=kX x (kX x [a,b] 0) 1 from rfl,F,H],?_,?_⟩
 ·rintro rfl; rw[Bool.or_true]
 ·rintro rfl; simp
theorem awR {x:cS} {i B w d y A:RF} (c:x.exit=[i,B]) (l:x.a0E=[[w,d],[y,A]]) (p:bS B=true) (u:bS d=true):rU x=true:=by
 unfold rU;rw[c];show ((gI x 3).all id)=true;have e:∀ r,gI x (r+1)=eU x (gI x r) 2:=fun r=>by rw[gI,c]; rfl
 have i:gI x 0=[false,false]:=by rw[gI,c]; rfl
 obtain⟨E,k1,-,-⟩:=ON c l p u false false;obtain⟨F,k2,M,-⟩:=ON c l p u E true;obtain⟨K,H,J,-⟩:=ON c l p u F true;rw[e,e,e,i,k1,k2,H,J rfl];rfl
theorem F7 {c:Nat}:∀ {cs:List Nat},c∈cs→c≤cs.sum
 | k::t,h=>by
  rw[List.sum_cons];rcases a1R.1 h with rfl | h
  ·omega
  ·have:=F7 h; omega
theorem QP {α:Type} {l:List α} (h:l.length=2):∃ a b,l=[a,b]:=by
 match l,h with
 | [a,b],_=>exact⟨a,b,rfl⟩
theorem aQP (cs:List Nat) (h:cs.sum=8):(match pS ((cs.map fun c=>mkT ((c:Nat):Int) ((8:Nat):Int)).map RF.v) with
  | .ok (n,a,b)=>decide (pP n a b false 1 1=0)
  | .error _=>false)=true:=by
 have i:∀ c∈cs,c≤8:=fun c d=>by have:=F7 d;omega
 have e:((cs.map fun c=>mkT ((c:Nat):Int) ((8:Nat):Int)).map RF.v)=cs.map eV:=by rw[List.map_map];refine a4V fun c d=>?_;have:=i c d;exact (SmF.mk' (a:=c) (b:=8) Om (by decide) (by decide)).v
 rw[e];exact aLL cs h
theorem wM {α:Type} {p:α→Bool} {l:List α} (h:∀ i (hi:i<l.length),p l[i]=true):l.all p=true:=by
 rw[a2F];intro x c;obtain⟨i,hi,rfl⟩:=a3D c;exact h i hi
theorem Zi (l:List Nat) (a:Nat) (K:List UInt8):qN { (pN l 2 a).1 with name:=K }=true∧({ (pN l 2 a).1 with name:=K }:cS).Ok:=by
 obtain⟨n,hn⟩:∃ n,n=1+(aD l 2 a).1:=⟨_,rfl⟩;have W:n=1∨n=2:=by have:=cE l (show 0<2 by decide) a; omega
 obtain⟨cs,O,⟨Z,h3,h4⟩,⟨h5,R⟩,M,h7⟩:=sv l n (aD l 2 a).2 n (a1O _);generalize hs:fM l n (aD l 2 a).2 n=s at *
 have e:({ (pN l 2 a).1 with name:=K }:cS)=⟨K,s.start,s.a0E,s.exit⟩:=by simp only[pN,← hn,hs]
 rw[e];have J:cs.sum=8:=by have:=R rfl Om; omega
 have V:∀ c∈cs,c≤8:=fun c S=>by have:=F7 S;omega
 have p:∀ x∈s.start,rK x:=by intro x d;rw[O] at d;obtain⟨c,S,rfl⟩:=a2G.1 d;have:=V c S;exact (SmF.mk' (a:=c) (b:=8) Om (by decide) (by decide)).o
 have β:s.start.length=n:=by rw[O,a1K,h4]
 have w:rU ⟨K,s.start,s.a0E,s.exit⟩=true:=by
  rcases W with rfl | rfl
  ·obtain⟨e,A⟩:=List.length_eq_one_iff.1 Z;obtain⟨η,u⟩:=List.length_eq_one_iff.1 h3;have X:=(h7 0 Om).1;obtain⟨r,H⟩:=List.length_eq_one_iff.1 X;have d:=(M 0 Om).2 rfl;simp only[u,List.getElem_cons_zero] at H;simp only[A,List.getElem_cons_zero] at d;exact awQ A (by rw[u,H]) d
  ·obtain⟨e0,e1,A⟩:=QP Z;obtain⟨r0,r1,u⟩:=QP h3;have E:=(h7 0 Om).1;have F:=(h7 1 Om).1;have d:=(M 1 Om).2 rfl;have Y:=((h7 0 Om).2 1 Om).2.2 rfl;simp only[A,List.getElem_cons_succ,List.getElem_cons_zero] at d;simp only[u,List.getElem_cons_succ,List.getElem_cons_zero] at E F Y;obtain⟨γ,δ,y⟩:=QP E;obtain⟨ε,ζ,Q⟩:=QP F;simp only[y,List.getElem_cons_succ,List.getElem_cons_zero] at Y;exact awR A (by rw[u,y,Q]) d Y
 constructor
 ·unfold qN;simp only[a1Z];refine⟨⟨⟨⟨⟨⟨⟨?_,?_⟩,?_⟩,?_⟩,?_⟩,?_⟩,?_⟩,w⟩
  ·rw[within_iff]; omega
  ·exact decide_eq_true Om
  ·exact decide_eq_true Om
  ·exact a2F.2 fun x d=>(p x d).lim
  ·exact wM fun i hi=>(M i hi).1.lim
  ·rw[a2F];intro i hi;rw[a3B] at hi;obtain⟨k1,k2⟩:=h7 i hi;have eg:s.a0E.getD i []=s.a0E[i]:=by simp[a2L,hi]
   rw[eg,a1Z,a1Z];refine⟨⟨decide_eq_true Om,wM fun j U=>(k2 j U).1.lim⟩,?_⟩;have B:i<s.a0E[i].length:=Om;rw[getD_at B,(k2 i B).2.1 rfl];rfl
  ·rw[O]; exact aQP cs J
 ·have N:∀ m:Nat,m≤2→m≤9223372036854775807:=fun m hm=>by omega
  have α:n≤2:=Om;refine⟨⟨?_,fun x d=>(p x d).ok⟩,⟨?_,fun x d=>?_⟩,?_,fun r u=>⟨?_,fun x d=>?_⟩⟩
  ·exact N s.start.length Om
  ·exact N s.exit.length Om
  ·obtain⟨i,hi,rfl⟩:=a3D d;exact (M i hi).1.ok
  ·exact N s.a0E.length Om
  ·obtain⟨i,hi,rfl⟩:=a3D u;have:=(h7 i hi).1;exact N (s.a0E[i]'hi).length Om
  ·obtain⟨i,hi,rfl⟩:=a3D u;obtain⟨j,U,rfl⟩:=a3D d;exact ((h7 i hi).2 j U).1.ok
theorem RW (l:List Nat) (a:Nat):∀ n,(fZ l a n).1.length=n∧∀ i (hi:i<(fZ l a n).1.length),(fZ l a n).1[i].name=[108,97,119]++bT i∧qN (fZ l a n).1[i]=true∧(fZ l a n).1[i].Ok
 | 0=>⟨rfl,fun i hi=>absurd hi (by simp[fZ])⟩
 | n+1=>by obtain⟨c,d⟩:=RW l a n;have e:(fZ l a (n+1)).1=(fZ l a n).1++[{ (pN l 2 (fZ l a n).2).1 with name:=[108,97,119]++bT n }]:=rfl;rw[e];refine⟨by simp[c],qP (P:=fun i (x:cS)=>x.name=[108,97,119]++bT i∧qN x=true∧x.Ok) d ?_⟩;rw[c];exact⟨rfl,Zi l _ _⟩
theorem JR (l:List Nat) (a0G:Nat) (d:0<a0G) (a:Nat):∀ n,(eG l a0G a n).1.length=n∧∀ i (hi:i<(eG l a0G a n).1.length),(eG l a0G a n).1[i].name=[109]++bT i∧∃ e p w:Nat,(eG l a0G a n).1[i].a0P=e∧1≤e∧e≤4∧(eG l a0G a n).1[i].port=p∧1≤p∧p≤8∧(eG l a0G a n).1[i].law=w∧w<a0G
 | 0=>⟨rfl,fun i hi=>absurd hi (by simp[eG])⟩
 | n+1=>by
  obtain⟨c,u⟩:=JR l a0G d a n;obtain⟨s,y⟩:∃ s,s=eG l a0G a n:=⟨_,rfl⟩;have e:(eG l a0G a (n+1)).1=(eG l a0G a n).1++[⟨[109]++bT n,(1+(aD l 4 s.2).1:Nat),(1+(aD l 8 (aD l 4 s.2).2).1:Nat),((aD l a0G (aD l 8 (aD l 4 s.2).2).2).1:Nat)⟩]:=by rw[y]; rfl
  rw[e];refine⟨by simp[c],qP (P:=fun i (x:dP)=>x.name=[109]++bT i∧∃ e p w:Nat,x.a0P=e∧1≤e∧e≤4∧x.port=p∧1≤p∧p≤8∧x.law=w∧w<a0G) u ?_⟩;rw[c];have k1:=cE l (show 0<4 by decide) s.2;have k2:=cE l (show 0<8 by decide) (aD l 4 s.2).2;have A:=cE l d (aD l 8 (aD l 4 s.2).2).2;exact⟨rfl,_,_,_,rfl,by omega,by omega,rfl,by omega,by omega,rfl,A⟩
theorem wI (l:List Nat) (a:Nat):∃ n:Nat,(gG l a).1=n∧n≤3:=by
 have h:=cE l (show 0<3 by decide) (aD l 3 a).2;unfold gG;simp only;split
 ·exact⟨1+(aD l 3 (aD l 3 a).2).1,rfl,by omega⟩
 ·exact⟨0,rfl,by omega⟩
theorem eK {n lo hi:Int} (c:lo≤n) (d:n≤hi):within n lo hi=true:=within_iff.2 ⟨c,d⟩
theorem aPT {w:List UInt8} {k m q s1 s2 s3 s4 g h:Nat} {ms:List Int} {p:List RF} {mc:Nat} (A:1≤k) (B:k≤2) (R:m≤2) (F:k≤q) (H:q≤k+m) (J:s1≤3) (y:s2≤3) (K:s3≤3) (M:s4≤3) (O:g≤8) (Q:h≤4)
  (l:p.length=max m 1) (i:∀ x∈p,rK x∧bS x=true)
  (E:mc≤2) (c:∃ f:Nat,f<mc∧(ms=[(f:Int)]∨mc=2∧ms=[(f:Int),1-(f:Int)])) :
  jY mc ⟨w,(k:Nat),(m:Nat),(q:Nat),0,(s1:Nat),(s2:Nat),(s3:Nat),(s4:Nat),ms,p,mkT (g:Nat) ((8:Nat):Int),mkT (h:Nat) ((1:Nat):Int)⟩=true ∧
  (⟨w,(k:Nat),(m:Nat),(q:Nat),0,(s1:Nat),(s2:Nat),(s3:Nat),(s4:Nat),ms,p,mkT (g:Nat) ((8:Nat):Int),mkT (h:Nat) ((1:Nat):Int)⟩:cB).Ok:=by
 have G:=SmF.mk' (a:=g) (b:=8) Om (by decide) (by decide);have Z:=SmF.mk' (a:=h) (b:=1) Om (by decide) (by decide);obtain⟨f,N,c⟩:=c;constructor
 ·unfold jY XB QY;simp only[a1Z,List.all_cons,List.all_nil,a4B];refine⟨⟨⟨⟨⟨⟨⟨⟨eK Om Om,eK Om Om⟩,decide_eq_true Om⟩,eK Om Om⟩,rfl⟩,eK Om Om,eK Om Om,eK Om Om,eK Om Om,eK Om Om⟩,?_⟩,⟨⟨⟨⟨decide_eq_true (by rw[l]; omega),?_⟩,G.lim⟩,G.one Om⟩,Z.lim⟩⟩,?_⟩
  ·rcases c with e | ⟨-,e⟩<;>rw[e]<;>rfl
  ·rw[a2F];intro x d;rw[(i x d).1.lim,(i x d).2];rfl
  ·rw[a2F];rcases c with rfl | ⟨rfl,rfl⟩
   ·intro j u;simp only[a3E,a3Z,a3B] at u;have:j=0:=Om;subst this;rw[a1Z];exact⟨eK (by simp) (by simp; omega),by simp⟩
   ·intro j u;simp only[a3E,a3Z,a3B] at u;have:j=0∨j=1:=Om;rcases this with rfl | rfl
    ·rw[a1Z];exact⟨eK (by simp) (by simp; omega),by simp⟩
    ·rw[a1Z];refine⟨eK (by simp; omega) (by simp; omega),?_⟩;have:¬ (1-(f:Int)=f):=Om;simp[this]
 ·refine⟨by unfold cL; constructor<;>simp only<;>omega,by unfold cL; constructor<;>simp only<;>omega,by unfold cL; constructor<;>simp only<;>omega,?_,?_,⟨?_,fun x d=>(i x d).1.ok⟩,G.ok,Z.ok⟩
  ·show ms.length≤_;rcases c with e | ⟨-,e⟩<;>rw[e]<;>simp
  ·show ∀ x∈ms,cL x;unfold cL;rcases c with e | ⟨y,e⟩<;>rw[e]<;>intro x d<;>simp only[a1R,a2B,or_false] at d
   ·subst d; omega
   ·rcases d with rfl | rfl<;>omega
  ·show p.length≤_;rw[l]; omega
theorem yk (l:List Nat) {mc:Nat} (x:0<mc) (y:mc≤2) (i a:Nat):(lI l mc i a).1.name=[112]++bT i∧jY mc (lI l mc i a).1=true∧(lI l mc i a).1.Ok:=by
 refine⟨rfl,?_⟩;have H:=cE l (show 0<2 by decide) a;have J:=cE l (show 0<3 by decide) (aD l 2 a).2;have F:=cE l (show 0<4 by decide) (aD l 3 (aD l 2 a).2).2;unfold lI;simp only;generalize aD l 2 a=k at *
 generalize aD l 3 k.2=m at *
 generalize aD l 4 m.2=h at *
 have K:=cE l (Om:0<m.1+1) h.2;generalize aD l (m.1+1) h.2=q at *
 obtain⟨r1,r2⟩:=Vb l q.2 (max m.1 1);generalize jQ l q.2 (max m.1 1)=r at *
 have E:=cE l (show 0<9 by decide) r.2;generalize aD l 9 r.2=g at *
 obtain⟨M,e,b1⟩:=wI l g.2;generalize gG l g.2=s1 at *
 obtain⟨N,p,b2⟩:=wI l s1.2;generalize gG l s1.2=s2 at *
 obtain⟨O,u,c⟩:=wI l s2.2;generalize gG l s2.2=s3 at *
 obtain⟨Q,w,d⟩:=wI l s3.2;generalize gG l s3.2=s4 at *
 have A:=cE l x s4.2;generalize aD l mc s4.2=f at *
 generalize aD l 2 f.2=b at *
 rw[e,p,u,w];refine aPT Om Om Om Om Om b1 b2 c d Om Om r1 r2 y ⟨f.1,A,?_⟩;split
 ·rename_i B;split
  ·exact .inr ⟨by omega,rfl⟩
  ·exact .inl rfl
 ·exact .inl rfl
theorem zM (l:List Nat) {mc:Nat} (c:0<mc) (d:mc≤2) (a:Nat):∀ n,(dB l mc a n).1.length=n∧∀ i (hi:i<(dB l mc a n).1.length),(dB l mc a n).1[i].name=[112]++bT i∧jY mc (dB l mc a n).1[i]=true∧(dB l mc a n).1[i].Ok
 | 0=>⟨rfl,fun i hi=>absurd hi (by simp[dB])⟩
 | n+1=>by obtain⟨k1,k2⟩:=zM l c d a n;have e:(dB l mc a (n+1)).1=(dB l mc a n).1++[(lI l mc n (dB l mc a n).2).1]:=rfl;rw[e];refine⟨by simp[k1],qP (P:=fun i (x:cB)=>x.name=[112]++bT i∧jY mc x=true∧x.Ok) k2 ?_⟩;rw[k1];exact yk l c d n _
theorem DL (l:List Nat) {pc:Nat} (c:0<pc) (a:Nat):∀ n,(eJ l pc a n).1.length=n∧∀ i (hi:i<(eJ l pc a n).1.length),(eJ l pc a n).1[i].name=[118]++bT i∧∃ p:Nat,(eJ l pc a n).1[i].a0L=p∧p<pc
 | 0=>⟨rfl,fun i hi=>absurd hi (by simp[eJ])⟩
 | n+1=>by obtain⟨k1,k2⟩:=DL l c a n;have e:(eJ l pc a (n+1)).1=(eJ l pc a n).1++[⟨[118]++bT n,((aD l pc (eJ l pc a n).2).1:Nat)⟩]:=rfl;rw[e];refine⟨by simp[k1],qP (P:=fun i (x:iU)=>x.name=[118]++bT i∧∃ p:Nat,x.a0L=p∧p<pc) k2 ?_⟩;rw[k1];exact⟨rfl,_,rfl,cE l c _⟩
abbrev lvs (ds:List cN):List Int:=ds.map cN.level
def aWI (ds:List cN) (i:Nat) (d:cN):Prop:=∃ c p u:Nat,d.name=[kN c]++bT (i+1)∧d.level=c∧1≤c∧c≤4∧d.parent=p∧p≤i∧(lvs ds)[p]?=some ((c:Int)-1)∧d.a0T=u∧1≤u∧u≤16∧rK d.a0O
def aNW (ds:List cN) (mc i:Nat) (d:cZ):Prop:=∃ m c:Nat,d.name=[100]++bT i∧d.model=m∧m<mc∧d.machine=c∧(lvs ds)[c]?=some 4
structure GV (mc aZZ:Nat) (s:GS):Prop where
 len:s.a0I.length≤35
 a0S:s.a0S.length≤aZZ
 root:s.a0I[0]?=some jU
 dom:∀ i (hi:i+1<s.a0I.length),aWI s.a0I i s.a0I[i+1]
 drv:∀ i (hi:i<s.a0S.length),aNW s.a0I mc i s.a0S[i]
theorem GV.a {mc aZZ:Nat} {s:GS} (h:GV mc aZZ s) (x:Nat):GV mc aZZ { s with a:=x }:=⟨h.len,h.a0S,h.root,h.dom,h.drv⟩
theorem Es (l:List Nat) {mc aZZ dom:Nat} (e:0<mc) {s:GS} (h:GV mc aZZ s) (u:(lvs s.a0I)[dom]?=some 4):∀ n,GV mc aZZ (iH l mc aZZ dom s n)∧(iH l mc aZZ dom s n).a0I=s.a0I
 | 0=>⟨h,rfl⟩
 | n+1=>by
  obtain⟨c,p⟩:=Es l e h u n;simp only[iH];generalize iH l mc aZZ dom s n=t at *
  split
  ·rename_i hlt;refine⟨⟨c.len,by simp only[a1P,a1T]; omega,c.root,c.dom,?_⟩,p⟩;refine qP (P:=fun i d=>aNW t.a0I mc i d) c.drv ?_;exact⟨_,dom,rfl,rfl,cE l e _,rfl,by rw[p]; exact u⟩
  ·exact⟨c,p⟩
theorem wU {ds:List cN} {p:Nat} {x:Int} {t:List cN} (h:(lvs ds)[p]?=some x):(lvs (ds++t))[p]?=some x:=by
 unfold lvs at *
 rw[a2N,a3Y]
 ·exact h
 ·exact (a2P.1 h).1
theorem aHB (l:List Nat) {mc aZZ dom level:Nat} {s:GS} (h:GV mc aZZ s) (y:1≤level) (K:level≤4) (E:(lvs s.a0I)[dom]?=some ((level:Int)-1)) (F:pC aZZ s=false) :
  GV mc aZZ (kG l level dom s)∧(∃ t,(kG l level dom s).a0I=s.a0I++t)∧(kG l level dom s).a0I.length=s.a0I.length+1∧(lvs (kG l level dom s).a0I)[s.a0I.length]?=some (level:Int):=by
 unfold pC at F;simp only[Bool.or_eq_false_iff,decide_eq_false_iff_not] at F;have J:dom<s.a0I.length:=by
  have:=(a2P.1 E).1
  rwa [a1K] at this
 have N:=cE l (show 0<16 by decide) s.a;have M:=cE l (show 0<6 by decide) (aD l 3 (aD l 16 s.a).2).2;unfold kG;simp only;generalize aD l 16 s.a=u at *
 generalize aD l 3 u.2=t at *
 generalize aD l 6 t.2=k at *
 have A:rK (if t.1=0 then (mkT 1 ((2+k.1:Nat):Int),k.2) else (jJ,t.2)).1:=by
  split
  ·exact (SmF.mk' (a:=1) (b:=2+k.1) Om Om Om).o
  ·exact oR.o
 generalize (if t.1=0 then (mkT 1 ((2+k.1:Nat):Int),k.2) else (jJ,t.2))=sh at *
 refine⟨⟨by simp only[a1P,a1T]; omega,h.a0S,?_,?_,fun i hi=>?_⟩,⟨_,rfl⟩,by simp,?_⟩
 ·rw[a3Y Om]; exact h.root
 ·intro i hi;simp only[a1P,a1T] at hi;by_cases hlt:i+1<s.a0I.length
  ·rw[List.getElem_append_left hlt];obtain⟨B,p,v,d,e,w,x,h5,H,h7,h8⟩:=h.dom i hlt;exact⟨B,p,v,d,e,w,x,h5,H,wU h7,h8⟩
  ·have:i+1=s.a0I.length:=Om;rw[a5D Om];simp only[List.getElem_singleton];exact⟨level,dom,1+u.1,by rw[this],rfl,y,K,rfl,by omega,wU E,rfl,by omega,by omega,A⟩
 ·obtain⟨m,c,d,e,w,x,h5⟩:=h.drv i hi;exact⟨m,c,d,e,w,x,wU h5⟩
 ·unfold lvs;rw[a2N,a4E (by rw[a1K]; exact a1O _),a1K,Nat.sub_self];rfl
theorem Et (l:List Nat) {mc aZZ dom level:Nat} (e:1≤level) (A:level≤4) {rec:Nat→GS→GS}
  (c:∀ d t,GV mc aZZ t→(lvs t.a0I)[d]?=some (level:Int)→GV mc aZZ (rec d t)∧∃ u,(rec d t).a0I=t.a0I++u) {s:GS} (h:GV mc aZZ s) (y:(lvs s.a0I)[dom]?=some ((level:Int)-1)) :
  ∀ n,GV mc aZZ (fC l level aZZ dom rec s n)∧∃ u,(fC l level aZZ dom rec s n).a0I=s.a0I++u
 | 0=>⟨h,[],by simp[fC]⟩
 | n+1=>by
  obtain⟨x,u,i⟩:=Et l e A c h y n;simp only[fC];generalize fC l level aZZ dom rec s n=t at *
  split
  ·exact⟨x,u,i⟩
  ·rename_i B;have p:(lvs t.a0I)[dom]?=some ((level:Int)-1):=by rw[i]; exact wU y
   obtain⟨k1,⟨v,k2⟩,E,F⟩:=aHB l x e A p (by simpa using B);obtain⟨H,w,J⟩:=c ((kG l level dom t).a0I.length-1) (kG l level dom t) k1 (by rw[E,Nat.add_sub_cancel]; exact F);exact⟨H,u++(v++w),by rw[J,k2,i]; simp⟩
theorem Ew (l:List Nat) {mc aZZ:Nat} (c:0<mc):∀ (k:Nat),k≤4→∀ (dom:Nat) {s:GS},GV mc aZZ s→(lvs s.a0I)[dom]?=some (4-(k:Int))→GV mc aZZ (eF l mc aZZ k dom s)∧∃ u,(eF l mc aZZ k dom s).a0I=s.a0I++u
 | 0,_,dom,s,h,e=>by simp only[eF];obtain⟨p,w⟩:=Es l c (h.a (aD l 2 s.a).2) e (1+(aD l 2 s.a).1);exact⟨p,[],by rw[w]; simp⟩
 | k+1,y,dom,s,h,e=>by
  simp only[eF];refine Et l Om Om (fun d t x i=>Ew l c k Om d x ?_) (h.a (aD l 2 s.a).2) ?_ _
  ·rw[i]; congr 1; omega
  ·rw[e]; congr 1; omega
theorem sx (c:Nat) (d:1≤c) (e:c≤4):gR (kN c).toNat=true∧kN c≠100:=by
 have:c=1∨c=2∨c=3∨c=4:=Om;rcases this with rfl | rfl | rfl | rfl<;>decide
theorem jc (c:UInt8) {k:Nat} (d:k<100):RG (([c]++bT k).drop 1)=k:=by
 show RG (bT k)=k;rw[MR d];exact (Ca ⟨k,d⟩).1
theorem M5 {mc aZZ:Nat} {s:GS} (h:GV mc aZZ s) (M:aZZ≤60):distinct ((s.a0I.drop 1).map cN.name++s.a0S.map cZ.name)=true:=by
 have E:∀ i (hi:i<((s.a0I.drop 1).map cN.name).length),∃ d:Nat,1≤d∧d≤4∧((s.a0I.drop 1).map cN.name)[i]=[kN d]++bT (i+1):=by intro i hi;rw[a1K,a3M] at hi;obtain⟨d,p,u,l,-,H,w,-⟩:=h.dom i Om;refine⟨d,H,w,?_⟩;rw[a3L,List.getElem_drop];simp only[Nat.add_comm 1 i];exact l
 have hB:∀ i (hi:i<(s.a0S.map cZ.name).length),(s.a0S.map cZ.name)[i]=[100]++bT i:=by intro i hi;rw[a1K] at hi;obtain⟨m,c,l,-⟩:=h.drv i hi;rw[a3L]; exact l
 have N:((s.a0I.drop 1).map cN.name).length≤40:=by rw[a1K,a3M]; have:=h.len; omega
 have O:(s.a0S.map cZ.name).length≤60:=by rw[a1K]; have:=h.a0S; omega
 generalize (s.a0I.drop 1).map cN.name=A at *
 generalize s.a0S.map cZ.name=B at *
 refine RP ?_ ?_
 ·intro x hx;rcases a3A.1 hx with hx | hx
  ·obtain⟨i,hi,rfl⟩:=a3D hx;obtain⟨d,l,w,e⟩:=E i hi;rw[e];exact l7 rfl (sx d l w).1 rfl (by simp) Om
  ·obtain⟨i,hi,rfl⟩:=a3D hx;rw[hB i hi];exact l7 rfl (by decide) rfl (by simp) Om
 ·rw[a4C];refine⟨?_,?_,?_⟩
  ·refine NQ (g:=fun s=>RG (s.drop 1)-1) fun i hi=>?_;obtain⟨d,-,-,e⟩:=E i hi;rw[e,jc _ Om];omega
  ·refine NQ (g:=fun s=>RG (s.drop 1)) fun i hi=>?_;rw[hB i hi];exact jc _ Om
  ·intro x hx y K e;obtain⟨i,hi,rfl⟩:=a3D hx;obtain⟨j,J,rfl⟩:=a3D K;obtain⟨d,l,w,F⟩:=E i hi;rw[F,hB j J] at e;exact (sx d l w).2 (List.cons.inj e).1
theorem azO {mc aZZ a:Nat}:GV mc aZZ ⟨[jU],[],a⟩ :=
 ⟨by simp,a1X _,rfl,fun i hi=>absurd hi (by simp),fun i hi=>absurd hi (by simp)⟩
theorem aHV {mc aZZ:Nat} {s:GS} (h:GV mc aZZ s) (f:aJ) (y:f.a0C=s.a0I):nS f=true:=by
 have w:=h.root;have l:=h.dom;unfold nS;rw[y];cases c:s.a0I with
 | nil=>rw[c] at w; cases w
 | cons r t =>
  rw[c] at w;have:r=jU:=by simpa using w
  subst this;show QE f jU t=true;unfold QE;simp only[a1Z];refine⟨⟨⟨⟨⟨⟨rfl,rfl⟩,rfl⟩,rfl⟩,oR.lim⟩,by rw[show jU.a0O=jJ from rfl,oR.zero]; rfl⟩,?_⟩;rw[a2F];intro i hi;rw[a3B] at hi;rw[a1V hi];obtain⟨E,p,u,A,x,F,H,h5,J,h7,h8,K,B,d⟩:=l i (by rw[c]; simp; omega);have e:s.a0I[i+1]'(by rw[c]; simp; omega)=t[i]:=by simp[c]
  rw[e] at A x h5 h8 d;show UG f i t[i]=true;unfold UG;simp only[a1Z];refine⟨⟨⟨⟨?_,?_⟩,?_⟩,?_⟩,d.lim⟩
  ·rw[h5]; exact eK Om Om
  ·rw[h5,x,y,a3P,a2L,h7,j6 Om Om];exact decide_eq_true rfl
  ·rw[x]; exact eK Om Om
  ·rw[h8]; exact eK Om Om
theorem C0 (l:List Nat) (aZZ a0B a:Nat) (hd:aZZ≤24) (hv:a0B≤12) :
  jP (fL l aZZ a0B a).1=true∧(fL l aZZ a0B a).1.Ok:=by
 unfold fL;simp only;have he:=cE l (show 0<2 by decide) a;generalize aD l 2 a=e at *
 have γ:=cE l (show 0<2 by decide) e.2;generalize aD l 2 e.2=F at *
 obtain⟨w1,V⟩:=RW l F.2 (1+F.1);generalize fZ l F.2 (1+F.1)=a0G at *
 have δ:=cE l (show 0<2 by decide) a0G.2;generalize aD l 2 a0G.2=B at *
 obtain⟨Y,Z⟩:=JR l (1+F.1) Om B.2 (1+B.1);generalize eG l (1+F.1) B.2 (1+B.1)=a0A at *
 obtain⟨G,-⟩:=Ew l (mc:=1+B.1) (aZZ:=aZZ) Om 4 (by decide) 0 (s:=⟨[jU],[],a0A.2⟩) azO rfl;generalize eF l (1+B.1) aZZ 4 0 ⟨[jU],[],a0A.2⟩=g at *
 have ε:=cE l (show 0<2 by decide) g.a;generalize aD l 2 g.a=pl at *
 obtain⟨p1,S⟩:=zM l (mc:=1+B.1) Om Om pl.2 (1+pl.1);generalize dB l (1+B.1) pl.2 (1+pl.1)=pols at *
 have ζ:=cE l (Om:0<a0B+1) pols.2;generalize aD l (a0B+1) pols.2=K at *
 obtain⟨v1,U⟩:=DL l (pc:=1+pl.1) Om K.2 K.1;generalize eJ l (1+pl.1) K.2 K.1=vols at *
 have g1:=G.len;have g2:=G.a0S;have R:∀ f:aJ,f.a0C=g.a0I→nS f=true:=fun f hf=>aHV G f hf;have d:∀ n:Nat,n≤1000→n≤9223372036854775807:=fun n h=>by omega
 have E:∀ x∈g.a0S,∃ m c:Nat,x.model=m∧m<1+B.1∧x.machine=c∧c<g.a0I.length∧(lvs g.a0I)[c]?=some 4:=by
  intro x w;obtain⟨i,hi,rfl⟩:=a3D w;obtain⟨m,c,-,Q,W,X,h5⟩:=G.drv i hi;refine⟨m,c,Q,W,X,?_,h5⟩;have:=(a2P.1 h5).1
  rwa [a1K] at this
 constructor
 ·unfold jP;rw[R _ rfl];simp only[a1Z,a4B];refine⟨⟨?_,⟨⟨⟨⟨?_,?_⟩,?_⟩,?_⟩,?_⟩⟩,⟨⟨⟨?_,?_⟩,M5 G Om⟩,?_⟩,?_⟩
  ·unfold qB;simp only[a1Z];exact⟨⟨⟨⟨⟨⟨eK Om Om,decide_eq_true Om⟩,decide_eq_true Om⟩,decide_eq_true Om⟩,decide_eq_true Om⟩,decide_eq_true Om⟩,decide_eq_true Om⟩
  ·exact wM fun i hi=>(V i hi).2.1
  ·refine wM fun i hi=>?_;obtain⟨-,x,y,z,A,H,J,M,N,e6,e7,e8⟩:=Z i hi;unfold lW;simp only[a1Z];rw[A,M,e7,w1];exact⟨⟨eK Om Om,eK Om Om⟩,eK Om Om⟩
  ·rw[a2F];intro x w;obtain⟨m,c,A,H,J,M,N⟩:=E x w;unfold kB;simp only[a1Z];rw[A,J,Y,a3P,a2L,N];exact⟨⟨eK Om Om,eK Om Om⟩,rfl⟩
  ·refine wM fun i hi=>?_;rw[Y]; exact (S i hi).2.1
  ·refine wM fun i hi=>?_;obtain⟨-,p,A,H⟩:=U i hi;unfold oQ;rw[A,p1];exact eK Om Om
  ·refine rQ (p:=[108,97,119]) rfl (by decide) (by decide) (by decide) (by rw[a1K]; omega) fun i hi=>?_;rw[a3L]; exact (V i (by simpa using hi)).1
  ·refine rQ (p:=[109]) rfl (by decide) (by decide) (by decide) (by rw[a1K]; omega) fun i hi=>?_;rw[a3L]; exact (Z i (by simpa using hi)).1
  ·refine rQ (p:=[112]) rfl (by decide) (by decide) (by decide) (by rw[a1K]; omega) fun i hi=>?_;rw[a3L]; exact (S i (by simpa using hi)).1
  ·refine rQ (p:=[118]) rfl (by decide) (by decide) (by decide) (by rw[a1K]; omega) fun i hi=>?_;rw[a3L]; exact (U i (by simpa using hi)).1
 ·refine⟨d a0G.1.length Om,d a0A.1.length Om,d g.a0I.length Om,d g.a0S.length Om,d pols.1.length Om,d vols.1.length Om,?_,?_,?_,?_,?_⟩
  ·intro x w;obtain⟨i,hi,rfl⟩:=a3D w;exact (V i hi).2.2
  ·intro x w;obtain⟨i,hi,rfl⟩:=a3D w;rcases a4D i with rfl | hp
   ·have:g.a0I[0]=jU:=by have:=G.root; rw[a1V hi] at this; exact a3T.inj this
    rw[this];exact⟨oR.ok,by unfold cL; decide,by unfold cL; decide⟩
   ·obtain⟨k,rfl⟩:∃ k,i=k+1:=⟨i-1,by omega⟩;obtain⟨η,p,u,h1,Q,W,X,h5,h6,h7,h8,h9,α,O⟩:=G.dom k hi;have β:k+1<g.a0I.length:=hi;rw[Q,h5];exact⟨O.ok,by unfold cL; omega,by unfold cL; omega⟩
  ·intro x w;obtain⟨m,c,A,H,J,M,N⟩:=E x w;rw[A,J];unfold cL; omega
  ·intro x w;obtain⟨i,hi,rfl⟩:=a3D w;exact (S i hi).2.2
  ·intro x w;obtain⟨i,hi,rfl⟩:=a3D w;obtain⟨-,p,A,H⟩:=U i hi;rw[A];unfold cL; omega

theorem NE {C:Ctx} (c:fP C) (hi:nN C):YA C :=
 {ND c hi with
  grow:=fun l v T mc aZZ d e i=>VB (ND c hi) T mc aZZ d e i (fun args H R p h=>c.r7 args H R (by rw[p]; decide) h) 4 (a1O _) }
theorem akR {C:Ctx} (c:fP C) (hi:nN C):Al C :=
 {NE c hi with
  new:=fun l p u=>c.r28.go (Ta l p u) rfl
  fleet:=fun l v T o aZZ a0B a d e i=>CK.exact (c.r0.go (th (NE c hi) T o aZZ a0B a d e i) rfl) }


structure TT (f:aJ) (L:List (List Int)):Prop where
 len:L.length=f.a0B.length
 row:∀ v (h:v<L.length),((L[v].length:Nat):Int)=aFR f v
 home:∀ r∈L,∀ x∈r,-1≤x∧x<f.aZZ.length
theorem TT.aTT {f:aJ} {L:List (List Int)} (h:TT f L) (hV:VF f):∀ k,k≤L.length→(L.take k).flatten.length≤k*8:=by
 have w:=h.len;intro k
 induction k with
 | zero=>intro _; simp
 | succ k p =>intro d;rw[aiY L d,a1P];have u:=p Om;have e:=h.row k d;obtain⟨l,i⟩:=azK hV (Om:k<f.a0B.length);have c:=hV.a0L _ (a1N l);rw[i] at c;unfold aFR at e;omega
theorem TT.ok {f:aJ} (hV:VF f) {L:List (List Int)} (h:TT f L):aSO L:=by
 have d:=hV.small.a0B;have c:=h.len;have:=h.aTT hV L.length (a1O _);rw[a2O] at this;exact⟨by omega,by omega⟩
section
variable {H:PH} {B:List BX} {L:List LI}
end

section
variable {H:PH} {B:List BX} {L:List LI} {s:Nat} {rows:List (List PV)}
theorem nO.some (s:Nat) (rows:List (List PV)) (G:PH):∃ r H',nO s rows r H'∧lJ G .nil H':=by
 obtain⟨o,d⟩:=G.fresh;refine⟨.osl o s 0 rows.length,PH.nil.set o (.rows s rows),.inr ⟨o,rows,rfl,rfl,a1O _,a2O⟩,fun q x c _=>?_⟩;rw[aV] at c;split at c
 ·rename_i e; rw[e]; exact d
 ·cases c
end

section
variable {C:Ctx} {F:PF} {H Hs:PH} {tn a a2:Nat} {raw:List Int} {R:Nat→PV→PH→Prop} {st:Bool} {args:List aN} {d:Option Nat} {K:PF→PH→Prop}
end
section
variable {C:Ctx} {F:PF} {H:PH} {B:List BX} {L:List LI} {args:List aN} {d:Option Nat} {K:PF→PH→Prop}
end


theorem TT.move {f:aJ} {L:List (List Int)} (h:TT f L) {x k d:Nat} (p:x<L.length) (u:d<f.aZZ.length):TT f (L.set x (L[x].set k d)):=by
 refine⟨by rw[a3U]; exact h.len,fun v l=>?_,fun r c=>?_⟩
 ·rw[a3U] at l;have:=h.row v l;rw[List.getElem_set];split
  ·rename_i e;subst e;rw[a3U]; exact this
  ·exact this
 ·rcases List.mem_or_eq_of_mem_set c with c | rfl
  ·exact h.home r c
  ·intro y i;rcases List.mem_or_eq_of_mem_set i with i | rfl
   ·exact h.home _ (a1N p) y i
   ·omega

structure aNV (C:Ctx):Prop extends fP C where
 r3:aO C 3 aIU
 r6:aO C 6 aTY
 r18:aO C 18 aOR
 r82:aO C 82 aUD
structure YG (C:Ctx):Prop extends KD C where
 int:∀ n:Int,cL n→aF C 47 [.int .i64 n] .nil (aH (.agg (mkT n 1).cells))
 mul:∀ a b,Lim a→Lim b→a.length≤35184372087808→b.length≤35184372087808→aF C 36 [aG a,aG b] .nil (aH (opV (dT (val a) (val b)) (val a*val b)))
 add:∀ a b,Lim a→Lim b→a.length≤35184372087808→b.length≤35184372087808→aF C 30 [aG a,aG b] .nil (aH (opV (dT (val a) (val b)) (val a+val b)))
 sub:∀ a b,Lim a→Lim b→a.length≤35184372087808→b.length≤35184372087808→aF C 37 [aG a,aG b] .nil (aH (qQ (val a) (val b)))
theorem xo (a b:Nat):cG a b=(decide (nl b>0)&&(decide (nl b≤128)&&decide (nl a≤128))):=by
 have:=@gE b;refine Bool.eq_iff_iff.2 ?_;rw[dU];simp only[a1Z,decide_eq_true_eq];omega
theorem PW {C:Ctx} (L:YG C) (neg:Bool) (a b:List Nat) (u:Lim a) (l:Lim b) (w:a.length≤35184372087808) (p:b.length≤35184372087808) :
  CH.wp C (aX j4.res (aH (.bool (cG (val a) (val b))))) (PF.args [.agg (dN neg a b)]) .nil:=by
 rw[xo];simp only[go_sem,CH,yb,yc,j4];refine aA (L.trim b l p) rfl ?_;simp only[go_sem,a1K,aW];by_cases e:nl (val b)>0
 ·have c:((nl (val b):Nat):Int)>0:=Om;simp only[go_sem,c];refine aA (L.trim b l p) rfl ?_;simp only[go_sem,a1K,aW];by_cases i:nl (val b)≤128
  ·have d:((nl (val b):Nat):Int)≤128:=Om;simp only[go_sem,d];refine aA (L.trim a u w) rfl ?_;simp only[go_sem,a1K,aW];refine bE (.inr rfl) rfl ?_;have:decide (((nl (val a):Nat):Int)≤128)=decide (nl (val a)≤128):=by refine decide_eq_decide.2 ?_;omega
   rw[cO,this,decide_eq_true e,decide_eq_true i];rfl
  ·have d:¬ ((nl (val b):Nat):Int)≤128:=Om;simp only[go_sem,d];refine bE (.inr rfl) rfl ?_;rw[cO,decide_eq_false i,a1Y,a2W]
 ·have c:¬ ((nl (val b):Nat):Int)>0:=Om;simp only[go_sem,c];refine bE (.inr rfl) rfl ?_;rw[cO,decide_eq_false e,a1Y]
theorem VS {neg:Bool} {a b:Nat} (h:cG a b=true):gD neg a b=.ok (lF neg a b):=by
 obtain⟨l,c,d⟩:=dU.1 h;have e:=(jE (a/a1L a b) 128).2 (nC _ d);have i:=(jE (b/a1L a b) 128).2 (nC _ c);unfold gD lF;rw[if_neg Om]
def Xv (a b:Nat):Bool:=decide (nl a>128)||decide (nl b>128)
theorem xq {C:Ctx} (neg:Bool) (a b:List Nat) :
  CE.wp C (aX jk.res (aH (.bool (decide (a.length>128)||decide (b.length>128))))) (PF.args [.agg (dN neg a b)]) .nil:=by
 simp only[go_sem,CE,xr,xt,jk,a1K];by_cases c:a.length>128
 ·have d:(a.length:Int)>128:=Om;simp only[go_sem,d];refine bE (.inr rfl) rfl ?_;rw[cO,decide_eq_true c,Bool.true_or]
 ·have d:¬ (a.length:Int)>128:=Om;simp only[go_sem,d,a1K];refine bE (.inr rfl) rfl ?_;have:decide ((b.length:Int)>128)=decide (b.length>128):=by refine decide_eq_decide.2 ?_;omega
  rw[cO,this,decide_eq_false c,Bool.false_or]
def Cw (x:FV):FR:=if Xv x.2.1 x.2.2 then .error 2 else .ok x
theorem aHI (neg:Bool) (a b:Nat):Cw (lF neg a b)=gD neg a b:=by
 have d:=jE (a/a1L a b) 128;have e:=jE (b/a1L a b) 128;unfold Cw lF gD Xv;simp only[Bool.or_eq_true,decide_eq_true_eq];by_cases c:nl (a/a1L a b)>128∨nl (b/a1L a b)>128
 ·rw[if_pos c,if_pos Om]
 ·rw[if_neg c,if_neg Om]
structure KF (C:Ctx):Prop extends YG C where
 valid:∀ x:RF,x.Ok→aF C 56 [.agg x.cells] .nil (aH (.bool (cG (val x.num) (val x.den))))
 big:∀ x:FV,aF C 48 [.agg x.rf.cells] .nil (aH (.bool (Xv x.2.1 x.2.2)))
theorem Lr {C:Ctx} (L:KF C) (x:FV):JD.wp C (aX zy.res (cD (frV (Cw x)))) (PF.args [.agg x.rf.cells]) .nil:=by
 simp only[go_sem,JD,Ls,zy];refine aQ fun o c=>?_;simp only[go_sem,Lt];refine aA (L.big x) rfl ?_;unfold Cw;cases Xv x.2.1 x.2.2 with
 | true =>simp only[go_sem,Lu];refine iY ?_;simp only[go_sem]
 | false =>obtain⟨n,a,b⟩:=x;simp only[go_sem,Lw];exact aZ (.inr rfl) .nil (vs:=[.agg (FV.rf (n,a,b)).cells,.int .i64 0]) Sq a_ ⟨.refl _,rfl⟩
theorem jv {C:Ctx} (L:KF C) (x:RF) (c:x.Ok):yK.wp C (aX RI.res (cD (frV (mB x)))) (PF.args [.agg x.cells]) .nil:=by
 simp only[go_sem,yK,jw,RI];refine aQ fun o l=>?_;simp only[go_sem,jx];refine aA (L.valid x c) rfl ?_;unfold mB;cases d:cG (val x.num) (val x.den) with
 | false =>simp only[go_sem,a2I,jy];refine iY ?_;simp only[go_sem]
 | true =>obtain⟨i,p,u⟩:=dU.1 d;have e:=VS (neg:=x.neg) d;rw[if_pos rfl,e];simp only[go_sem,a1W,jz];refine aA (L.lowest x.neg x.num x.den c.1 c.2.1 c.2.2.1 c.2.2.2 Om Om i) rfl ?_;simp only[go_sem];exact aZ (.inr rfl) .nil (vs:=[.agg (lF x.neg (val x.num) (val x.den)).rf.cells,.int .i64 0]) Sq a_ ⟨.refl _,rfl⟩
theorem x7 {C:Ctx} (L:YG C) (a b:List Nat) (c:Lim a) (d:Lim b) (e:a.length≤35184372087808) (i:b.length≤35184372087808) (l:nl (val a)≤256) (p:nl (val b)≤256) :
  CG.wp C (aX j3.res (aH (aG (aE (val a*val b))))) (PF.args [aG a,aG b]) .nil:=by
 simp only[go_sem,CG,x8,x9,j3];refine aA (L.mul a b c d e i) rfl ?_;have:=jL l p;rw[gV Om Om,opV,yG Om];simp only[go_sem,ya];refine bE (.inr rfl) rfl ?_;rfl
structure YH (C:Ctx):Prop extends KF C where
 fits:∀ x:FV,aF C 57 [.agg x.rf.cells] .nil (aH (frV (Cw x)))
 red:∀ x:RF,x.Ok→aF C 52 [.agg x.cells] .nil (aH (frV (mB x)))
 prod:∀ a b,Lim a→Lim b→a.length≤35184372087808→b.length≤35184372087808→nl (val a)≤256→nl (val b)≤256→aF C 60 [aG a,aG b] .nil (aH (aG (aE (val a*val b))))
def RF.valid (x:RF):Prop:=cG (val x.num) (val x.den)=true
def tE (x y:RF):Int:=pP x.neg (val x.num) (val x.den) y.neg (val y.num) (val y.den)
def voS:Spec:=fun name vs=>match name,vs with
 | 60,[x,y]=>some ([],fun _=>aH (aG (aE (val (jX x)*val (jX y)))))
 | _,_=>none
theorem uT (a b:List Nat):voS 60 [aG a,aG b]=some ([],fun _=>aH (aG (aE (val a*val b)))):=by
 show some _=_; rw[eN,eN]
theorem oq (a b:Nat):cU b a=- cU a b:=by
 unfold cU;rcases Nat.lt_trichotomy a b with h | h | h
 ·rw[if_neg Om,if_pos h,if_pos h]; rfl
 ·subst h;rw[if_neg Om,if_neg Om]; rfl
 ·rw[if_pos h,if_neg Om,if_pos h]
set_option maxHeartbeats 1000000 in
theorem xu {C : Ctx} (L : YH C) (x y : RF) (hx : x.Ok) (hy : y.Ok) (vx : x.valid) (vy : y.valid) : CF.wp C (aX ju.res (aH (.int .i64 (tE x y)))) (PF.args [.agg x.cells, .agg y.cells]) .nil := by
  obtain ⟨n1, a1, b1⟩ := x;obtain ⟨n2, a2, b2⟩ := y;obtain ⟨ha1, hb1, la1, lb1⟩ := hx;obtain ⟨ha2, hb2, la2, lb2⟩ := hy;obtain ⟨v1, v2, v3⟩ := dU.1 vx;obtain ⟨w1, w2, w3⟩ := dU.1 vy;simp only at ha1 hb1 la1 lb1 ha2 hb2 la2 lb2 v1 v2 v3 w1 w2 w3;have m1 := jL v3 w2;have m2 := jL w3 v2;have hA : decide (val a1 ≠ 0) = decide (nl (val a1 * val b2) > 0) := by refine decide_eq_decide.2 ?_;have := @gE (val a1 * val b2);rw [Nat.mul_eq_zero] at this;omega
  have hB : decide (val a2 ≠ 0) = decide (nl (val a2 * val b1) > 0) := by refine decide_eq_decide.2 ?_;have := @gE (val a2 * val b1);rw [Nat.mul_eq_zero] at this;omega
  unfold tE pP;simp only [hA, hB];simp only[go_sem,CF,xv,ju];refine bX .nil voS a_ ?_;simp only[go_sem,xw];refine cK (uT a1 b2) (L.prod a1 b2 ha1 hb2 la1 lb2 Om Om) rfl a_ ?_;simp only[go_sem];refine cK (uT a2 b1) (L.prod a2 b1 ha2 hb1 la2 lb1 Om Om) rfl a_ ?_;have hc := L.cmp (aE (val a1 * val b2)) (aE (val a2 * val b1)) (aU _) (aU _) (by rw [aW]; omega) (by rw [aW]; omega);have hd := L.cmp (aE (val a2 * val b1)) (aE (val a1 * val b2)) (aU _) (aU _) (by rw [aW]; omega) (by rw [aW]; omega);rw [aT, aT] at hc hd;rw [oq (val a1 * val b2)] at hd;generalize val a1 * val b2 = A at *
  generalize val a2 * val b1 = B at *
  have gA : decide (((nl A : Nat) : Int) > 0) = decide (nl A > 0) := decide_eq_decide.2 Om;have gB : decide (((nl B : Nat) : Int) > 0) = decide (nl B > 0) := decide_eq_decide.2 Om;generalize decide (nl A > 0) = p at *
  generalize decide (nl B > 0) = q at *
  cases n1 <;> cases n2 <;> cases p <;> cases q
  all_goals
    simp only[go_sem,xx,a1K,aW,gA,gB,xy,xz,x2,x3,x4,x5,x6]
    first
    | (refine bE (.inr rfl) rfl ?_; rfl)
    | (refine aA hc rfl ?_
       simp only[go_sem];refine bE (.inr rfl) rfl ?_;rfl)
    | (refine aA hd rfl ?_
       simp only[go_sem];refine bE (.inr rfl) rfl ?_;rfl)
structure uD (C:Ctx):Prop extends YH C where
 order:∀ x y:RF,x.Ok→y.Ok→x.valid→y.valid→aF C 51 [.agg x.cells,.agg y.cells] .nil (aH (.int .i64 (tE x y)))
theorem Ly {C:Ctx} (L:uD C) (x y:RF) (c:x.Ok) (d:y.Ok) (e:x.valid) (i:y.valid):JE.wp C (aX zz.res (aH (.bool (decide (tE x y<0))))) (PF.args [.agg x.cells,.agg y.cells]) .nil:=by
 simp only[go_sem,JE,Lz,L0,zz];refine aA (L.order x y c d e i) rfl ?_;simp only[go_sem];refine bE (.inr rfl) rfl ?_;rfl
theorem L8 {C:Ctx} (L:uD C) (x y:RF) (c:x.Ok) (d:y.Ok) (e:x.valid) (i:y.valid):JI.wp C (aX z8.res (aH (.bool (tE x y==0)))) (PF.args [.agg x.cells,.agg y.cells]) .nil:=by
 simp only[go_sem,JI,L9,Ma,z8];refine aA (L.order x y c d e i) rfl ?_;simp only[go_sem];refine bE (.inr rfl) rfl ?_;rfl
theorem QS (n:Int):mkT n 1=⟨decide (n<0),aE n.natAbs,aE 1⟩:=by
 unfold mkT lF FV.rf;rw[show (1:Int).natAbs=1 from rfl,Nat.gcd_one_right,Nat.div_one,Nat.div_one,show decide ((1:Int)<0)=false from rfl];congr 1;by_cases h:n<0
 ·have:n.natAbs≠0:=Om;simp[h,this]
 ·simp[h]
theorem G6 (n:Int) (h:cL n):(mkT n 1).Ok∧(mkT n 1).valid:=by
 have c:nl n.natAbs≤2:=jB (by unfold cL at h; omega);rw[QS];refine⟨⟨aU _,aU _,?_,?_⟩,?_⟩
 ·simp only[aW]; omega
 ·simp only[mQ]; decide
 ·unfold RF.valid;simp only[aT];rw[xo];have:nl 1=1:=by rw[nl,mQ]; rfl
  simp[this];omega
def II (x:RF):Int:=if val x.num=0 then 0 else if x.neg then -1 else 1
theorem azI (x:RF):tE x (mkT 0 1)=II x:=by
 rw[QS];unfold tE II pP;simp only[aT,show (0:Int).natAbs=0 from rfl,Nat.mul_one,Nat.zero_mul];by_cases h:val x.num=0
 ·simp[h,cU]
 ·cases x.neg<;>simp[h,cU]
def viS (r:Int):Spec:=fun name _=>if name=47 then some ([],fun _=>aH (.agg (mkT 0 1).cells)) else some ([],fun _=>aH (.int .i64 r))
theorem Mb {C:Ctx} (L:uD C) (x:RF) (e:x.Ok) (i:x.valid):JJ.wp C (aX Aa.res (aH (.int .i64 (II x)))) (PF.args [.agg x.cells]) .nil:=by
 have c:cL 0:=by unfold cL; omega
 have d:=L.order x (mkT 0 1) e (G6 0 c).1 i (G6 0 c).2;rw[azI] at d;simp only[go_sem,JJ,Mc,Aa];refine bX .nil (viS (II x)) a_ ?_;simp only[go_sem,Md];refine cK rfl (L.int 0 c) rfl a_ ?_;simp only[go_sem];refine cK rfl d rfl a_ ?_;simp only[go_sem];refine bE (.inr rfl) rfl ?_;rfl
theorem atF {C:Ctx} (L:uD C) (i l:Bool) (a1 b1 a2 b2:List Nat) (O:Lim a1) (J:Lim b1) (Q:Lim a2) (K:Lim b2)
  (R:a1.length≤35184372087808) (M:b1.length≤35184372087808) (S:a2.length≤35184372087808) (N:b2.length≤35184372087808) :
  zX.wp C (aX Lm.res (cD (frV (fU (i,val a1,val b1) (l,val a2,val b2))))) (PF.args [.agg (dN i a1 b1),.agg (dN l a2 b2)]) .nil:=by
 have vx:aF C 56 [.agg (dN i a1 b1)] .nil (aH (.bool (cG (val a1) (val b1)))):=L.valid ⟨i,a1,b1⟩ ⟨O,J,R,M⟩;have vy:aF C 56 [.agg (dN l a2 b2)] .nil (aH (.bool (cG (val a2) (val b2)))):=L.valid ⟨l,a2,b2⟩ ⟨Q,K,S,N⟩;simp only[go_sem,zX,Wy,Lm];refine aQ fun o ho=>?_;simp only[go_sem,Wz];refine aA vx rfl ?_;simp only[fU];cases hv:cG (val a1) (val b1) with
 | false =>simp only[go_sem,a2I,nc,a1Y];refine iY ?_;simp only[go_sem]
 | true =>
  obtain⟨v1,v2,v3⟩:=dU.1 hv;simp only[go_sem,a1W];refine aA vy rfl ?_;cases hw:cG (val a2) (val b2) with
  | false =>simp only[go_sem,a2I,nc,a2W];refine iY ?_;simp only[go_sem]
  | true =>
   obtain⟨w1,w2,w3⟩:=dU.1 hw;simp only[go_sem,a1W,a4B];refine bX .nil voS a_ ?_;simp only[go_sem,W0];refine cK (uT a1 b2) (L.prod a1 b2 O K R N Om Om) rfl a_ ?_;simp only[go_sem];refine cK (uT a2 b1) (L.prod a2 b1 Q J S M Om Om) rfl a_ ?_;simp only[go_sem];refine cK (uT b1 b2) (L.prod b1 b2 J K M N Om Om) rfl a_ ?_;simp only[go_sem];have m1:=jL v3 w2;have m2:=jL w3 v2;have m3:=jL v2 w2;have d0:val b1*val b2≠0:=Nat.mul_ne_zero v1 w1;generalize hA:val a1*val b2=A at *
   generalize hB:val a2*val b1=B at *
   generalize hD:val b1*val b2=D at *
   have fin:∀ (F:PF) (H:PH) (r:FR),(∃ d x y e,frV r=.tup [.agg (dN d x y),.int .i64 e]∧F 4=some (.ptr o 3 0 0)∧F 5=some (.int .i64 e)∧H o=some (.rows 3 [dN d x y]))→aX [.cell 4 (some 3),.tmp 5] (cD (frV r)) .ret F H:=by rintro F H r ⟨d,x,y,e,he,f4,f5,hH⟩;rw[he];exact aZ (.inr rfl) .nil (vs:=[.agg (dN d x y),.int .i64 e]) (by simp only[go_sem,f4,f5,hH]) a_ ⟨.refl _,rfl⟩
   have W:(i==l)=decide (i=l):=by cases i<;>cases l<;>rfl
   have low:∀ neg x,nl x≤257→aF C 58 [.bool neg,aG (aE x),aG (aE D)] .nil (aH (.agg (lF neg x D).rf.cells)):=by
    intro neg x hx;have Z:(aE x).length≤35184372087808:=by rw[aW]; omega
    have h2:(aE D).length≤35184372087808:=by rw[aW]; omega
    have:=L.lowest neg (aE x) (aE D) (aU _) (aU _) Z h2;rw[aT,aT] at this;exact this Om Om d0
   have E:∀ neg x,aF C 57 [.agg (lF neg x D).rf.cells] .nil (aH (frV (gD neg x D))):=fun neg x=>by
    have:=L.fits (lF neg x D)
    rwa [aHI] at this
   have lA:(aE A).length≤35184372087808:=by rw[aW]; omega
   have lB:(aE B).length≤35184372087808:=by rw[aW]; omega
   simp only[go_sem,W1];by_cases c:i=l
   ·rw[if_pos c];have U:(i==l)=true:=by rw[W,decide_eq_true c]
    simp only[go_sem,U,W2];have u:=L.add (aE A) (aE B) (aU _) (aU _) lA lB;have α:=fv m1 m2;rw[aT,aT,gV Om Om,opV,yG Om] at u;refine aA u rfl ?_;simp only[go_sem,W3];refine aA (low i _ Om) rfl ?_;simp only[go_sem];refine aA (E i _) rfl ?_;obtain⟨d,x,y,e,p⟩:=sV (gD i (A+B) D);rw[p];simp only[go_sem];rw[← p];exact fin _ _ _ ⟨d,x,y,e,p,by simp only[go_sem],by simp only[go_sem],by simp only[go_sem]⟩
   ·rw[if_neg c];have U:(i==l)=false:=by rw[W,decide_eq_false c]
    simp only[go_sem,U,W4];have hc:=L.cmp (aE A) (aE B) (aU _) (aU _) lA lB;rw[aT,aT] at hc;refine aA hc rfl ?_;have w:∀ X Y:Nat,nl X≤256→nl Y≤256→Y≤X→aF C 37 [aG (aE X),aG (aE Y)] .nil (aH (.tup [aG (aE (X-Y)),.int .i64 0])):=by intro X Y Z h2 h;have:=L.sub (aE X) (aE Y) (aU _) (aU _) (by rw[aW]; omega) (by rw[aW]; omega);have h3:=fE (Om:X-Y≤X);rw[aT,aT,qQ,gV Om Om,if_neg (by decide),if_neg Om,yG Om] at this;exact this
    by_cases g:B≤A
    ·have V:cU A B≥0:=(QC A B).2 g;rw[if_pos g];simp only[go_sem,V,W5];refine aA (w A B Om Om g) rfl ?_;simp only[go_sem,W6];have h3:=fE (Om:A-B≤A);refine aA (low i (A-B) Om) rfl ?_;simp only[go_sem];refine aA (E i _) rfl ?_;obtain⟨d,x,y,e,p⟩:=sV (gD i (A-B) D);rw[p];simp only[go_sem];rw[← p];exact fin _ _ _ ⟨d,x,y,e,p,by simp only[go_sem],by simp only[go_sem],by simp only[go_sem]⟩
    ·have V:¬ cU A B≥0:=fun h=>g ((QC A B).1 h);rw[if_neg g];simp only[go_sem,V,Ln];refine aA (w B A Om Om Om) rfl ?_;simp only[go_sem,Lo];have h3:=fE (Om:B-A≤B);refine aA (low l (B-A) Om) rfl ?_;simp only[go_sem];refine aA (E l _) rfl ?_;obtain⟨d,x,y,e,p⟩:=sV (gD l (B-A) D);rw[p];simp only[go_sem];rw[← p];exact fin _ _ _ ⟨d,x,y,e,p,by simp only[go_sem],by simp only[go_sem],by simp only[go_sem]⟩
theorem Wx {C:Ctx} (L:uD C) (x y:RF) (c:x.Ok) (d:y.Ok):zX.wp C (aX Lm.res (cD (frV (fU x.v y.v)))) (PF.args [.agg x.cells,.agg y.cells]) .nil :=
 atF L x.neg y.neg x.num x.den y.num y.den c.1 c.2.1 d.1 d.2.1 c.2.2.1 c.2.2.2 d.2.2.1 d.2.2.2
structure Xm (C:Ctx):Prop extends uD C where
 less:∀ x y:RF,x.Ok→y.Ok→x.valid→y.valid→aF C 49 [.agg x.cells,.agg y.cells] .nil (aH (.bool (decide (tE x y<0))))
 same:∀ x y:RF,x.Ok→y.Ok→x.valid→y.valid→aF C 53 [.agg x.cells,.agg y.cells] .nil (aH (.bool (tE x y==0)))
 sign:∀ x:RF,x.Ok→x.valid→aF C 54 [.agg x.cells] .nil (aH (.int .i64 (II x)))
 plus:∀ x y:RF,x.Ok→y.Ok→aF C 46 [.agg x.cells,.agg y.cells] .nil (aH (frV (fU x.v y.v)))
def aFQ (k m:Int):Bool:=within k 1 6&&(within m 0 4&&decide (k+m≤8))
def auJ:Rg:=[iA 1 (.box true (Tm 0)),iT 2 false]
def auK:Rg:=[iO 6 3 1,iK 7 52 6,iM 5 7,iE 8 5 0,iE 9 5 1,iA 3 (.alloc [zB,.aB,.aB]),iS 3 3 8,iM 4 9]
def auL:Rg:=[iM 10 4,iC 11 .eql 10 0,iM 12 11,gF 13 0 3 12 true,gL 14 13 12 true,iG 15 (.un .not (Tm 14)) 12 true,iP 16 12 15,iM 17 16,gF 18 1 3 17 true,gL 19 18 17 true,gN 20 19 17 true,gC 21 .leq 20 1 17 true,iP 22 17 21,iM 23 22,gF 24 2 3 23 true,gL 25 24 23 true,gN 26 25 23 true,gC 27 .leq 26 1 23 true,iP 28 23 27,iM 2 28]
def Ps:aC:=(sq auJ (sq auK (sq auL .ret)))
def aRQ:aR:=⟨1,29,Ps,[.tmp 2]⟩
def afF:Rg:=[iT 4 false]
def afG:Rg:=[iM 6 0,iN 7 6,iM 8 1,iB 9 .neq 7 8]
def afH:Rg:=[iT 4 false]
def afI:Rg:=[iI 5 0]
def afJ:Rg:=[iM 10 5,iM 11 1,iB 12 .lss 10 11]
def afK:Rg:=[iM 15 0,iM 16 5,iX 17 3 15 16,iO 18 3 17,iK 19 74 18,iA 20 (.un .not (Tm 19))]
def afL:Rg:=[iT 4 false]
def afM:Rg:=[iM 13 5,iC 14 .add 13 1,iM 5 14]
def afE:aC:=(.seq (sq afJ (.cond (Tm 12) .skip (.exit 0))) (.seq (.block 1 (sq afK (.cond (Tm 20) (sq afL .ret) .skip))) (.region afM)))
def afN:Rg:=[iT 4 true]
def Mr:aC:=(sq afF (.seq (sq afG (.cond (Tm 9) (sq afH .ret) .skip)) (.seq (sq afI (.block 0 (.loop afE))) (sq afN .ret))))
def aNP:aR:=⟨2,21,Mr,[.tmp 4]⟩
def aMW:Rg:=[iA 1 (.box true (Tm 0)),iT 2 false]
def aMX:Rg:=[iF 12 1 1,iL 13 12,iN 14 13,iM 3 14]
def aMY:Rg:=[iM 15 3,iC 16 .lss 15 1,iM 17 16,gM 18 3 17 false,gC 19 .gtr 18 4 17 false,iQ 20 17 19,iM 21 20,gF 22 1 1 21 false,gL 23 22 21 false,gM 24 3 21 false,gK2 25 75 23 24 21 false,iG 26 (.un .not (Tm 25)) 21 false,iQ 27 21 26,iM 28 27,gF 29 3 1 28 false,gL 30 29 28 false,gM 31 3 28 false,gK2 32 75 30 31 28 false,iG 33 (.un .not (Tm 32)) 28 false,iQ 34 28 33,iM 35 34,gF 36 2 1 35 false,gL 37 36 35 false,gN 38 37 35 false,gM 39 3 35 false,gB 40 .neq 38 39 35 false,iQ 41 35 40]
def aMZ:Rg:=[iT 2 false]
def aNA:Rg:=[iI 4 0]
def aNB:Rg:=[iM 42 4,iM 43 3,iB 44 .lss 42 43]
def aNC:Rg:=[iF 47 2 1,iL 48 47,iM 49 4,iX 50 1 48 49,iL 51 50,iM 52 3,iK2 53 75 51 52,iA 54 (.un .not (Tm 53)),iM 55 54,gF 56 2 1 55 false,gL 57 56 55 false,gM 58 4 55 false,iG 59 (.a0Q 1 (Tm 57) (Tm 58)) 55 false,gL 60 59 55 false,gM 61 4 55 false,iG 62 (.a0Q 3 (Tm 60) (Tm 61)) 55 false,gO 63 3 62 55 false,gK 64 54 63 55 false,gC 65 .neq 64 0 55 false,iQ 66 55 65]
def aND:Rg:=[iT 2 false]
def aNE:Rg:=[iM 45 4,iC 46 .add 45 1,iM 4 46]
def aMV:aC:=(.seq (sq aNB (.cond (Tm 44) .skip (.exit 0))) (.seq (.block 1 (sq aNC (.cond (Tm 66) (sq aND .ret) .skip))) (.region aNE)))
def aEP:Rg:=[iF 68 1 1,iL 69 68,iK 70 55 69,iM 67 70,iE 71 67 0,iE 72 67 1,iA 5 (.alloc [zB,.aB,.aB]),iS 3 5 71,iM 6 72]
def aEQ:Rd:=[(iM 73 6,false),(iC 74 .neq 73 0,false),(iM 75 74,false),(gO 76 3 5 75 false,true),(iG 77 (.call 47 [(Ci 1)]) 75 false,true),(gK2 78 53 76 77 75 false,true),(iG 79 (.un .not (Tm 78)) 75 false,false),(iQ 80 75 79,false)]
def aER:Rg:=[iT 2 false]
def aES:Rg:=[iM 81 3,iA 82 (.a0H 1 1 [zB] (Tm 81) (Tm 81)),iM 7 82]
def aET:Rg:=[iI 8 0]
def aEU:Rg:=[iM 83 8,iM 84 3,iB 85 .lss 83 84]
def aEV:Rg:=[iI 9 0]
def aEW:Rg:=[iM 88 9,iM 89 3,iB 90 .lss 88 89]
def aEX:Rg:=[iM 93 7,iM 94 9,iM 95 7,iM 96 9,iX 97 1 95 96,iL 98 97,iM 99 98,gF 100 3 1 99 false,gL 101 100 99 false,gM 102 9 99 false,iG 103 (.a0Q 3 (Tm 101) (Tm 102)) 99 false,gO 104 3 103 99 false,gK 105 54 104 99 false,gC 106 .gtr 105 0 99 false,iQ 107 99 106,iX 108 1 93 94,iS 1 108 107]
def aEY:Rg:=[iI 10 0]
def aEZ:Rg:=[iM 109 10,iM 110 3,iB 111 .lss 109 110]
def aFA:Rg:=[iM 114 7,iM 115 9,iM 116 7,iM 117 9,iX 118 1 116 117,iL 119 118,iM 120 119,gF 121 2 1 120 false,gL 122 121 120 false,gM 123 9 120 false,iG 124 (.a0Q 1 (Tm 122) (Tm 123)) 120 false,gL 125 124 120 false,gM 126 10 120 false,iG 127 (.a0Q 3 (Tm 125) (Tm 126)) 120 false,gO 128 3 127 120 false,gK 129 54 128 120 false,gC 130 .gtr 129 0 120 false,gM 131 130 120 false,gM 132 7 131 true,gM 133 10 131 true,iG 134 (.a0Q 1 (Tm 132) (Tm 133)) 131 true,gL 135 134 131 true,iG 136 (.pick (Tm 131) (Tm 135) (.const zB)) 120 false,iQ 137 120 136,iX 138 1 114 115,iS 1 138 137]
def aFB:Rg:=[iM 112 10,iC 113 .add 112 1,iM 10 113]
def aEL:aC:=(.seq (sq aEZ (.cond (Tm 111) .skip (.exit 6))) (.seq (.block 7 (.region aFA)) (.region aFB)))
def aFC:Rg:=[iM 91 9,iC 92 .add 91 1,iM 9 92]
def aEM:aC:=(.seq (sq aEW (.cond (Tm 90) .skip (.exit 4))) (.seq (.block 5 (sq aEX (sq aEY (.block 6 (.loop aEL))))) (.region aFC)))
def aFD:Rg:=[iM 86 8,iC 87 .add 86 1,iM 8 87]
def aEN:aC:=(.seq (sq aEU (.cond (Tm 85) .skip (.exit 2))) (.seq (.block 3 (sq aEV (.block 4 (.loop aEM)))) (.region aFD)))
def aFE:Rg:=[iI 11 0]
def aFF:Rg:=[iM 139 11,iM 140 3,iB 141 .lss 139 140]
def aFG:Rg:=[iM 144 7,iM 145 11,iX 146 1 144 145,iL 147 146,iA 148 (.un .not (Tm 147))]
def aFH:Rg:=[iT 2 false]
def aFI:Rg:=[iM 142 11,iC 143 .add 142 1,iM 11 143]
def aEO:aC:=(.seq (sq aFF (.cond (Tm 141) .skip (.exit 8))) (.seq (.block 9 (sq aFG (.cond (Tm 148) (sq aFH .ret) .skip))) (.region aFI)))
def aFJ:Rg:=[iT 2 true]
def auF:aC:=(sq aMW (sq aMX (.seq (sq aMY (.cond (Tm 41) (sq aMZ .ret) .skip)) (.seq (sq aNA (.block 0 (.loop aMV))) (.seq (sq aEP (dq aEQ (.cond (Tm 80) (sq aER .ret) .skip))) (sq aES (.seq (sq aET (.block 2 (.loop aEN))) (.seq (sq aFE (.block 8 (.loop aEO))) (sq aFJ .ret)))))))))
def aYB:aR:=⟨1,149,auF,[.tmp 2]⟩
def aNG:Rg:=[iT 4 false]
def aNH:Rg:=[iM 6 0,iM 7 1,iA 8 (.a0U true (Tm 7) (Ci 1)),iK2 9 75 6 8,iA 10 (.un .not (Tm 9))]
def aNI:Rg:=[iT 4 false]
def aNJ:Rg:=[iI 5 0]
def aNK:Rg:=[iM 11 5,iM 12 0,iN 13 12,iB 14 .lss 11 13]
def aNL:Rg:=[iM 17 0,iM 18 5,iX 19 3 17 18,iO 20 3 19,iK 21 54 20,iC 22 .eql 21 0]
def aNM:Rg:=[iT 4 false]
def aNN:Rg:=[iM 15 5,iC 16 .add 15 1,iM 5 16]
def aNF:aC:=(.seq (sq aNK (.cond (Tm 14) .skip (.exit 0))) (.seq (.block 1 (sq aNL (.cond (Tm 22) (sq aNM .ret) .skip))) (.region aNN)))
def aNO:Rg:=[iT 4 true]
def auG:aC:=(sq aNG (.seq (sq aNH (.cond (Tm 10) (sq aNI .ret) .skip)) (.seq (sq aNJ (.block 0 (.loop aNF))) (sq aNO .ret))))
def aYC:aR:=⟨2,23,auG,[.tmp 4]⟩
def ahK:Rg:=[iT 6 false]
def ahL:Rg:=[iM 7 0,iM 8 1,iB 9 .geq 7 8,iM 10 9,gM 11 0 10 true,gM 12 2 10 true,gB 13 .leq 11 12 10 true,iP 14 10 13,iM 6 14]
def Ms:aC:=(sq ahK (sq ahL .ret))
def aNQ:aR:=⟨3,15,Ms,[.tmp 6]⟩
def auH:Rg:=[iT 12 false]
def auI:Rg:=[iM 13 0,iC 14 .leq 13 4,iM 15 14,gM 16 1 15 true,gC 17 .leq 16 4 15 true,iP 18 15 17,iM 19 18,gM 20 2 19 true,gC 21 .leq 20 40 19 true,iP 22 19 21,iM 23 22,gM 24 3 23 true,gC 25 .leq 24 24 23 true,iP 26 23 25,iM 27 26,gM 28 4 27 true,gC 29 .leq 28 4 27 true,iP 30 27 29,iM 31 30,gM 32 5 31 true,gC 33 .leq 32 12 31 true,iP 34 31 33,iM 12 34]
def Pq:aC:=(sq auH (sq auI .ret))
def aRP:aR:=⟨6,35,Pq,[.tmp 12]⟩
def Ph:Rg:=[iA 7 (.box true (Tm 3)),iT 8 false]
def Pi:Rg:=[iM 10 0,iM 11 1,iK2 12 61 10 11,iA 13 (.un .not (Tm 12)),iM 14 13,gM 15 2 14 false,gM 16 0 14 false,gM 17 0 14 false,gM 18 1 14 false,gB 19 .add 17 18 14 false,iG 20 (.call 76 [(Tm 15),(Tm 16),(Tm 19)]) 14 false,iG 21 (.un .not (Tm 20)) 14 false,iQ 22 14 21,iM 23 22,iG 24 (.idxA 5 1 (Tm 7) (Ci 0)) 23 false,gL 25 24 23 false,gC 26 .neq 25 0 23 false,iQ 27 23 26]
def Pj:Rg:=[iT 8 false]
def Pk:Rg:=[iI 9 1]
def Pl:Rg:=[iM 28 9,iC 29 .lss 28 5]
def Pm:Rg:=[iM 32 9,iA 33 (.idxA 5 1 (Tm 7) (Tm 32)),iL 34 33,iA 35 (.call 76 [(Tm 34),(Ci 0),(Ci 8)]),iA 36 (.un .not (Tm 35))]
def Pn:Rg:=[iT 8 false]
def Po:Rg:=[iM 30 9,iC 31 .add 30 1,iM 9 31]
def Pg:aC:=(.seq (sq Pl (.cond (Tm 29) .skip (.exit 0))) (.seq (.block 1 (sq Pm (.cond (Tm 36) (sq Pn .ret) .skip))) (.region Po)))
def Pp:Rg:=[iT 8 true]
def yx:aC:=(sq Ph (.seq (sq Pi (.cond (Tm 27) (sq Pj .ret) .skip)) (.seq (sq Pk (.block 0 (.loop Pg))) (sq Pp .ret))))
def aFK:aR:=⟨4,37,yx,[.tmp 8]⟩
def aMS:Rg:=[iA 6 (.box true (Tm 2)),iA 7 (.box true (Tm 3)),iT 8 false]
def aMT:Rd:=[(iM 9 1,false),(iM 10 0,false),(iK2 11 66 9 10,true),(iM 12 11,false),(gO 13 3 6 12 true,false),(gK 14 74 13 12 true,true),(iP 15 12 14,false),(iM 16 15,false),(iG 17 (.call 47 [(Ci 1)]) 16 true,true),(gO 18 3 6 16 true,true),(gK2 19 49 17 18 16 true,true),(iG 20 (.un .not (Tm 19)) 16 true,false),(iP 21 16 20,false),(iM 22 21,false),(gO 23 3 7 22 true,false),(gK 24 74 23 22 true,true),(iP 25 22 24,false),(iM 8 25,false)]
def atT:aC:=(sq aMS (dq aMT .ret))
def aYA:aR:=⟨4,26,atT,[.tmp 8]⟩
def atY:Rg:=[iI 4 0]
def atZ:Rg:=[iI 5 0]
def auA:Rg:=[iM 6 5,iM 7 0,iN 8 7,iB 9 .lss 6 8]
def auB:Rg:=[iM 12 0,iM 13 5,iX 14 1 12 13,iL 15 14,iM 16 1,iB 17 .eql 15 16]
def auC:Rg:=[iM 18 5,iM 4 18]
def auD:Rg:=[iM 10 5,iC 11 .add 10 1,iM 5 11]
def atX:aC:=(.seq (sq auA (.cond (Tm 9) .skip (.exit 0))) (.seq (.block 1 (sq auB (.cond (Tm 17) (sq auC .ret) .skip))) (.region auD)))
def auE:Rg:=[iI 4 (-1)]
def Pf:aC:=(sq atY (.seq (sq atZ (.block 0 (.loop atX))) (sq auE .ret)))
def aRO:aR:=⟨2,19,Pf,[.tmp 4]⟩
def auM:Rg:=[iA 1 (.box true (Tm 0)),iT 2 false]
def auN:Rg:=[iF 22 0 1,iL 23 22,iA 24 (.call 76 [(Tm 23),(Ci 1),(Ci 4)]),iA 25 (.un .not (Tm 24)),iM 26 25,gF 27 1 1 26 false,gL 28 27 26 false,gN 29 28 26 false,gF 30 2 1 26 false,gL 31 30 26 false,gN 32 31 26 false,gF 33 3 1 26 false,gL 34 33 26 false,gN 35 34 26 false,gF 36 4 1 26 false,gL 37 36 26 false,gN 38 37 26 false,gF 39 5 1 26 false,gL 40 39 26 false,gN 41 40 26 false,gF 42 6 1 26 false,gL 43 42 26 false,gN 44 43 26 false,iG 45 (.call 73 [(Tm 29),(Tm 32),(Tm 35),(Tm 38),(Tm 41),(Tm 44)]) 26 false,iG 46 (.un .not (Tm 45)) 26 false,iQ 47 26 46,iM 48 47,gF 49 3 1 48 false,gL 50 49 48 false,gN 51 50 48 false,gC 52 .eql 51 0 48 false,iQ 53 48 52]
def auO:Rg:=[iT 2 false]
def auP:Rg:=[iZ 3,iZ 4,iZ 5,iZ 6,iZ 7]
def auQ:Rg:=[iT 8 true]
def auR:Rg:=[iI 9 0]
def auS:Rg:=[iM 54 9,iF 55 1 1,iL 56 55,iN 57 56,iB 58 .lss 54 57,iM 59 58,gM 60 8 59 true,iP 61 59 60]
def auT:Rg:=[iM 65 3,iF 66 1 1,iL 67 66,iM 68 9,iX 69 4 67 68,iF 70 0 69,iL 71 70,iK2 72 70 65 71,iM 64 72,iE 73 64 0,iE 74 64 1,iM 3 73,iM 8 74]
def auU:Rg:=[iM 75 8,iM 76 75,gF 77 1 1 76 true,gL 78 77 76 true,gM 79 9 76 true,iG 80 (.a0Q 4 (Tm 78) (Tm 79)) 76 true,gO 81 4 80 76 true,gK 82 68 81 76 true,iP 83 76 82,iM 8 83]
def auV:Rg:=[iM 62 9,iC 63 .add 62 1,iM 9 63]
def afO:aC:=(.seq (sq auS (.cond (Tm 61) .skip (.exit 0))) (.seq (.block 1 (sq auT (.region auU))) (.region auV)))
def afW:Rg:=[iI 10 0]
def afX:Rg:=[iM 84 10,iF 85 2 1,iL 86 85,iN 87 86,iB 88 .lss 84 87,iM 89 88,gM 90 8 89 true,iP 91 89 90]
def afY:Rg:=[iF 94 2 1,iL 95 94,iM 96 10,iX 97 4 95 96,iO 98 4 97,iA 11 (.alloc [(.str []),zI,zI,zI]),iS 4 11 98]
def afZ:Rg:=[iM 100 4,iF 101 0 11,iL 102 101,iK2 103 70 100 102,iM 99 103,iE 104 99 0,iE 105 99 1,iM 4 104,iM 8 105]
def agA:Rg:=[iM 106 8,iM 107 106,gF 108 1 11 107 true,gL 109 108 107 true,iG 110 (.call 76 [(Tm 109),(Ci 1),(Ci 16)]) 107 true,iP 111 107 110,iM 112 111,gF 113 2 11 112 true,gL 114 113 112 true,iG 115 (.call 76 [(Tm 114),(Ci 1),(Ci 64)]) 112 true,iP 116 112 115,iM 117 116,gF 118 3 11 117 true,gL 119 118 117 true,gF 120 1 1 117 true,gL 121 120 117 true,gN 122 121 117 true,gC 123 .sub 122 1 117 true,iG 124 (.call 76 [(Tm 119),(Ci 0),(Tm 123)]) 117 true,iP 125 117 124,iM 8 125]
def agB:Rg:=[iM 92 10,iC 93 .add 92 1,iM 10 93]
def afP:aC:=(.seq (sq afX (.cond (Tm 91) .skip (.exit 2))) (.seq (.block 3 (sq afY (sq afZ (.region agA)))) (.region agB)))
def agC:Rg:=[iF 126 3 1,iL 127 126,iA 128 (.a0Q 7 (Tm 127) (Ci 0)),iO 129 7 128,iA 12 (.alloc [(.str []),zI,zI,zI,zB,.aB,.aB]),iS 7 12 129]
def agD:Rg:=[iM 130 8,iM 131 130,gF 132 0 12 131 true,gL 133 132 131 true,iG 134 (.bin .eql (Tm 133) (.const (.str []))) 131 true,iP 135 131 134,iM 136 135,gF 137 1 12 136 true,gL 138 137 136 true,gC 139 .eql 138 0 136 true,iP 140 136 139,iM 141 140,gF 142 2 12 141 true,gL 143 142 141 true,gC 144 .eql 143 (-1) 141 true,iP 145 141 144,iM 146 145,gF 147 3 12 146 true,gL 148 147 146 true,gC 149 .eql 148 0 146 true,iP 150 146 149,iM 151 150,gF 152 4 12 151 true,gO 153 3 152 151 true,gK 154 56 153 151 true,iP 155 151 154,iM 156 155,gF 157 4 12 156 true,gO 158 3 157 156 true,gK 159 54 158 156 true,gC 160 .eql 159 0 156 true,iP 161 156 160,iM 8 161]
def agE:Rg:=[iI 13 1]
def agF:Rg:=[iM 162 13,iF 163 3 1,iL 164 163,iN 165 164,iB 166 .lss 162 165,iM 167 166,gM 168 8 167 true,iP 169 167 168]
def agG:Rg:=[iF 172 3 1,iL 173 172,iM 174 13,iX 175 7 173 174,iO 176 7 175,iA 14 (.alloc [(.str []),zI,zI,zI,zB,.aB,.aB]),iS 7 14 176]
def agH:Rg:=[iM 178 5,iF 179 0 14,iL 180 179,iK2 181 70 178 180,iM 177 181,iE 182 177 0,iE 183 177 1,iM 5 182,iM 8 183]
def agI:Rd:=[(iM 184 8,false),(iM 185 184,false),(gF 186 1 14 185 true,false),(gL 187 186 185 true,false),(iG 188 (.call 76 [(Tm 187),(Ci 1),(Ci 4)]) 185 true,true),(iP 189 185 188,false),(iM 190 189,false),(gF 191 2 14 190 true,false),(gL 192 191 190 true,false),(gM 193 13 190 true,false),(gC 194 .sub 193 1 190 true,false),(iG 195 (.call 76 [(Tm 192),(Ci 0),(Tm 194)]) 190 true,true),(iP 196 190 195,false),(iM 197 196,false),(gF 198 3 1 197 true,false),(gL 199 198 197 true,false),(gF 200 2 14 197 true,false),(gL 201 200 197 true,false),(iG 202 (.a0Q 7 (Tm 199) (Tm 201)) 197 true,false),(gF 203 1 202 197 true,false),(gL 204 203 197 true,false),(gF 205 1 14 197 true,false),(gL 206 205 197 true,false),(gC 207 .sub 206 1 197 true,false),(gB 208 .eql 204 207 197 true,false),(iP 209 197 208,false),(iM 210 209,false),(gF 211 3 14 210 true,false),(gL 212 211 210 true,false),(iG 213 (.call 76 [(Tm 212),(Ci 1),(Ci 64)]) 210 true,true),(iP 214 210 213,false),(iM 215 214,false),(gF 216 4 14 215 true,false),(gO 217 3 216 215 true,false),(gK 218 74 217 215 true,true),(iP 219 215 218,false),(iM 8 219,false)]
def agJ:Rg:=[iM 170 13,iC 171 .add 170 1,iM 13 171]
def afQ:aC:=(.seq (sq agF (.cond (Tm 169) .skip (.exit 4))) (.seq (.block 5 (sq agG (sq agH (.draw agI)))) (.region agJ)))
def agK:Rg:=[iI 15 0]
def agL:Rg:=[iM 220 15,iF 221 4 1,iL 222 221,iN 223 222,iB 224 .lss 220 223,iM 225 224,gM 226 8 225 true,iP 227 225 226]
def agM:Rg:=[iF 230 4 1,iL 231 230,iM 232 15,iX 233 3 231 232,iO 234 3 233,iA 16 (.alloc [(.str []),zI,zI]),iS 3 16 234]
def agN:Rg:=[iM 236 5,iF 237 0 16,iL 238 237,iK2 239 70 236 238,iM 235 239,iE 240 235 0,iE 241 235 1,iM 5 240,iM 8 241]
def agO:Rg:=[iM 242 8,iM 243 242,gF 244 1 16 243 true,gL 245 244 243 true,gF 246 2 1 243 true,gL 247 246 243 true,gN 248 247 243 true,gC 249 .sub 248 1 243 true,iG 250 (.call 76 [(Tm 245),(Ci 0),(Tm 249)]) 243 true,iP 251 243 250,iM 252 251,gF 253 2 16 252 true,gL 254 253 252 true,gF 255 3 1 252 true,gL 256 255 252 true,gN 257 256 252 true,gC 258 .sub 257 1 252 true,iG 259 (.call 76 [(Tm 254),(Ci 0),(Tm 258)]) 252 true,iP 260 252 259,iM 261 260,gF 262 3 1 261 true,gL 263 262 261 true,gF 264 2 16 261 true,gL 265 264 261 true,iG 266 (.a0Q 7 (Tm 263) (Tm 265)) 261 true,gF 267 1 266 261 true,gL 268 267 261 true,gC 269 .eql 268 4 261 true,iP 270 261 269,iM 8 270]
def agP:Rg:=[iM 228 15,iC 229 .add 228 1,iM 15 229]
def afR:aC:=(.seq (sq agL (.cond (Tm 227) .skip (.exit 6))) (.seq (.block 7 (sq agM (sq agN (.region agO)))) (.region agP)))
def agQ:Rg:=[iI 17 0]
def agR:Rg:=[iM 271 17,iF 272 5 1,iL 273 272,iN 274 273,iB 275 .lss 271 274,iM 276 275,gM 277 8 276 true,iP 278 276 277]
def agS:Rg:=[iF 281 5 1,iL 282 281,iM 283 17,iX 284 17 282 283,iO 285 17 284,iA 18 (.alloc [(.str []),zI,zI,zI,zI,zI,zI,zI,zI,.aB,.aB,zB,.aB,.aB,zB,.aB,.aB]),iS 17 18 285]
def agT:Rg:=[iM 287 6,iF 288 0 18,iL 289 288,iK2 290 70 287 289,iM 286 290,iE 291 286 0,iE 292 286 1,iM 6 291,iM 8 292]
def agU:Rg:=[iM 293 8,iM 294 293,gF 295 1 18 294 true,gL 296 295 294 true,gF 297 2 18 294 true,gL 298 297 294 true,gF 299 3 18 294 true,gL 300 299 294 true,gF 301 4 18 294 true,gO 302 5 301 294 true,iG 303 (.call 72 [(Tm 296),(Tm 298),(Tm 300),(Tm 302)]) 294 true,iP 304 294 303,iM 305 304,gF 306 2 18 305 true,gL 307 306 305 true,gF 308 10 18 305 true,gL 309 308 305 true,gF 310 11 18 305 true,gO 311 3 310 305 true,gF 312 14 18 305 true,gO 313 3 312 305 true,iG 314 (.call 69 [(Tm 307),(Tm 309),(Tm 311),(Tm 313)]) 305 true,iP 315 305 314,iM 316 315,gF 317 9 18 316 true,gL 318 317 316 true,gN 319 318 316 true,gC 320 .gtr 319 0 316 true,iP 321 316 320,iM 8 321]
def agV:Rg:=[iI 19 0]
def agW:Rg:=[iM 322 19,iF 323 9 18,iL 324 323,iN 325 324,iB 326 .lss 322 325,iM 327 326,gM 328 8 327 true,iP 329 327 328]
def agX:Rd:=[(iF 332 9 18,false),(iL 333 332,false),(iM 334 19,false),(iX 335 1 333 334,false),(iL 336 335,false),(iF 337 2 1,false),(iL 338 337,false),(iN 339 338,false),(iC 340 .sub 339 1,false),(iA 341 (.call 76 [(Tm 336),(Ci 0),(Tm 340)]),true),(iM 8 341,false)]
def agY:Rg:=[iI 20 0]
def agZ:Rg:=[iM 342 20,iM 343 19,iB 344 .lss 342 343]
def ahA:Rd:=[(iM 347 8,false),(iM 348 347,false),(gF 349 9 18 348 true,false),(gL 350 349 348 true,false),(gM 351 20 348 true,false),(iG 352 (.a0Q 1 (Tm 350) (Tm 351)) 348 true,false),(gL 353 352 348 true,false),(gF 354 9 18 348 true,false),(gL 355 354 348 true,false),(gM 356 19 348 true,false),(iG 357 (.a0Q 1 (Tm 355) (Tm 356)) 348 true,false),(gL 358 357 348 true,false),(gB 359 .neq 353 358 348 true,false),(iP 360 348 359,false),(iM 8 360,false)]
def ahB:Rg:=[iM 345 20,iC 346 .add 345 1,iM 20 346]
def afS:aC:=(.seq (sq agZ (.cond (Tm 344) .skip (.exit 12))) (.seq (.block 13 (.draw ahA)) (.region ahB)))
def ahC:Rg:=[iM 330 19,iC 331 .add 330 1,iM 19 331]
def afT:aC:=(.seq (sq agW (.cond (Tm 329) .skip (.exit 10))) (.seq (.block 11 (dq agX (sq agY (.block 12 (.loop afS))))) (.region ahC)))
def ahD:Rg:=[iM 279 17,iC 280 .add 279 1,iM 17 280]
def afU:aC:=(.seq (sq agR (.cond (Tm 278) .skip (.exit 8))) (.seq (.block 9 (sq agS (sq agT (sq agU (sq agV (.block 10 (.loop afT))))))) (.region ahD)))
def ahE:Rg:=[iI 21 0]
def ahF:Rg:=[iM 361 21,iF 362 6 1,iL 363 362,iN 364 363,iB 365 .lss 361 364,iM 366 365,gM 367 8 366 true,iP 368 366 367]
def ahG:Rg:=[iM 372 7,iF 373 6 1,iL 374 373,iM 375 21,iX 376 2 374 375,iF 377 0 376,iL 378 377,iK2 379 70 372 378,iM 371 379,iE 380 371 0,iE 381 371 1,iM 7 380,iM 8 381]
def ahH:Rd:=[(iM 382 8,false),(iM 383 382,false),(gF 384 6 1 383 true,false),(gL 385 384 383 true,false),(gM 386 21 383 true,false),(iG 387 (.a0Q 2 (Tm 385) (Tm 386)) 383 true,false),(gF 388 1 387 383 true,false),(gL 389 388 383 true,false),(gF 390 5 1 383 true,false),(gL 391 390 383 true,false),(gN 392 391 383 true,false),(gC 393 .sub 392 1 383 true,false),(iG 394 (.call 76 [(Tm 389),(Ci 0),(Tm 393)]) 383 true,true),(iP 395 383 394,false),(iM 8 395,false)]
def ahI:Rg:=[iM 369 21,iC 370 .add 369 1,iM 21 370]
def afV:aC:=(.seq (sq ahF (.cond (Tm 368) .skip (.exit 14))) (.seq (.block 15 (sq ahG (.draw ahH))) (.region ahI)))
def ahJ:Rg:=[iM 396 8,iM 2 396]
def Pt:aC:=(sq auM (.seq (sq auN (.cond (Tm 53) (sq auO .ret) .skip)) (sq auP (sq auQ (.seq (sq auR (.block 0 (.loop afO))) (.seq (sq afW (.block 2 (.loop afP))) (sq agC (sq agD (.seq (sq agE (.block 4 (.loop afQ))) (.seq (sq agK (.block 6 (.loop afR))) (.seq (sq agQ (.block 8 (.loop afU))) (.seq (sq ahE (.block 14 (.loop afV))) (sq ahJ .ret)))))))))))))
def aRR:aR:=⟨1,397,Pt,[.tmp 2]⟩
def atV:Rg:=[iZ 4,iT 5 false]
def atW:Rg:=[iM 6 0,iM 7 1,iA 8 (.a0F true 1 1 [(.str [])] [(0,(Tm 7))]),iA 9 (.append 1 16 (Tm 6) (Tm 8)),iM 10 1,iK 11 62 10,iM 12 11,gM 13 0 12 true,gM 14 1 12 true,gK2 15 71 13 14 12 true,gC 16 .lss 15 0 12 true,iP 17 12 16,iM 4 9,iM 5 17]
def Pe:aC:=(sq atV (sq atW .ret))
def aRN:aR:=⟨2,18,Pe,[.tmp 4,.tmp 5]⟩
def aQN (a b c d e f:Nat):Bool:=decide (a≤4)&&(decide (b≤4)&&(decide (c≤40)&&(decide (d≤24)&&(decide (e≤4)&&decide (f≤12)))))
structure aNZ (C:Ctx):Prop extends Xm C where
 sum:∀ l:List RF,(∀ x∈l,x.Ok)→l.length≤9223372036854775807→aF C 55 [frs l] .nil (aH (frV (pS (l.map RF.v))))
 inn:∀ n lo hi:Int,aF C 76 [.int .i64 n,.int .i64 lo,.int .i64 hi] .nil (aH (.bool (within n lo hi)))
 code:∀ k m:Int,aF C 61 [.int .i64 k,.int .i64 m] .nil (aH (.bool (aFQ k m)))
def aXF (k m q s0 s1 s2 s3 s4:Int):Bool:=aFQ k m&&(within q k (k+m)&&(decide (s0=0)&&(within s1 0 8&&(within s2 0 8&&(within s3 0 8&&within s4 0 8)))))
theorem cz {x:RF} (h:eT x=true):x.valid:=by
 unfold eT mB at h;unfold RF.valid;cases c:cG (val x.num) (val x.den) with
 | true=>rfl
 | false =>rw[c] at h;simp at h
structure aGE (C:Ctx):Prop extends aNZ C where
 small:∀ x:RF,x.Ok→aF C 74 [.agg x.cells] .nil (aH (.bool (eT x)))
 nums:∀ k m q s0 s1 s2 s3 s4:Int,aF C 72 [.int .i64 k,.int .i64 m,.int .i64 q,.agg [.int .i64 s0,.int .i64 s1,.int .i64 s2,.int .i64 s3,.int .i64 s4]] .nil (aH (.bool (aXF k m q s0 s1 s2 s3 s4)))
 sizes:∀ a b c d e f:Nat,aF C 73 [.int .i64 a,.int .i64 b,.int .i64 c,.int .i64 d,.int .i64 e,.int .i64 f] .nil (aH (.bool (aQN a b c d e f)))
structure aGF (C:Ctx):Prop extends aGE C where
 smalls:∀ l:List RF,nG l→∀ n:Int,aF C 75 [frs l,.int .i64 n] .nil (aH (.bool (decide ((l.length:Int)=n)&&l.all eT)))
def aXI (l:List RF) (m:Int):Bool:=decide ((l.length:Int)=max m 1)&&l.all eT&&l.all bS
structure aGG (C:Ctx):Prop extends aGF C where
 reps:∀ l:List RF,nG l→∀ m:Int,aF C 66 [frs l,.int .i64 m] .nil (aH (.bool (aXI l m)))
section
variable {H:PH} {B:List BX} {L:List LI}
end
abbrev IJ (l:List (List UInt8)):List (List PV):=l.map fun s=>[PV.str s]
def aOP:List (List UInt8)→List UInt8→Nat→Int
 | [],_,_=>-1
 | x::t,s,i=>if x==s then (i:Int) else aOP t s (i+1)
structure aGH (C:Ctx):Prop extends aGG C where
 name:∀ s:List UInt8,aF C 62 [.str s] .nil (aH (.bool (isName s)))
 index:∀ (l:List (List UInt8)),l.length≤1000000→∀ s:List UInt8,aF C 71 [.sl 1 (IJ l),.str s] .nil (aH (.int .i64 (aOP l s 0)))
def ajC (l:List (List UInt8)) (s:List UInt8):Bool:=isName s&&!l.contains s
def ahN (l:List (List UInt8)) (s:List UInt8) (r:PV) (B:List BX) (L:List LI):Prop:=∃ c,r=.tup [c,.bool (ajC l s)]∧B=[]∧L=[(c,1,IJ (l++[s]))]
theorem anO {x:RF} (h:eT x=true):decide (II x>0)=bS x:=by
 have d:=cz h;unfold eT mB at h;rw[show cG (val x.num) (val x.den)=true from d,if_pos rfl,VS d] at h;unfold II bS;by_cases c:val x.num=0
 ·simp[c]
 ·have i:val x.num/a1L (val x.num) (val x.den)≠0:=by have:=Nat.div_pos (Nat.gcd_le_left (val x.den) (a4A c)) (Nat.gcd_pos_of_pos_left _ (a4A c));omega
  have e:x.neg=false:=by unfold lF at h;simp only[i,ne_eq,not_false_eq_true,decide_true,a4B,a1Z] at h;simpa using h.1
  rw[if_neg c,e];simp[c]
structure j8 (C:Ctx):Prop extends aGH C where
 fresh:∀ (l:List (List UInt8)),l.length≤1000000→∀ (s:List UInt8) (w:PV) (H:PH),aP H [] [(w,1,IJ l)]→aF C 70 [w,.str s] H (fun r H'=>∃ B' L',ahN l s r B' L'∧aP H' B' L')
theorem j8.pos {C:Ctx} (L:j8 C) {x:RF} (c:x.Ok) (h:eT x=true):∃ n:Int,aF C 54 [.agg x.cells] .nil (aH (.int .i64 n))∧decide (n>0)=bS x:=⟨_,L.sign x c (cz h),anO h⟩
def Marks (R S:List Bool):Prop:=R.length=S.length∧∀ j:Nat,R[j]?=some true→S[j]?=some true
theorem Marks.trans {R S T:List Bool} (h:Marks R S) (k:Marks S T):Marks R T:=⟨h.1.trans k.1,fun j a=>k.2 j (h.2 j a)⟩

structure aNY (H:PH) (w:PV) (base ns:List (List UInt8)) (c:Bool) (i:Nat):Prop where
 ex:∃ names,aP H [] [(w,1,IJ names)]∧(c=true→names=base++ns.take i)
section
variable {C:Ctx} {F:PF} {H:PH} {d:Option Nat} {K:PF→PH→Prop}
theorem aNY.call (L:j8 C) {w:PV} {e l:List (List UInt8)} {i:Nat} {B:List BX} {c:List (List UInt8)} (h:aP H B [(w,1,IJ c)]) (O:e.length≤1000) (hi:i≤1000) (A:c=e++l.take i) (u:i<l.length) {a b:Nat} (p:aN.evs F [.tmp a,.tmp b]=some [w,.str l[i]])
  (J:∀ x H',aP H' B [(x,1,IJ (c++[l[i]]))]→aNY H' x e l true (i+1)→K (F.put d (.tup [x,.bool (ajC (e++l.take i) (l.getD i []))])) H'):hL C 70 [.tmp a,.tmp b] [] d K F H:=by
 refine CJ (B1:=[]) (B2:=B) (L1:=[(w,1,IJ c)]) (L2:=[]) (Q:=ahN c l[i]) h (fun M N=>L.fresh c (by rw[A,a1P,a2A]; omega) l[i] w M N) p ?_;rintro r B' L' H' ⟨x,rfl,rfl,rfl⟩ E;have y:l.getD i []=l[i]:=by simp[a2L,u]
 rw[y,← A] at J;refine J x H' E ⟨c++[l[i]],E.sub (List.nil_sublist _) (a3N.refl _),fun _=>?_⟩;rw[a3I u,← a2T,A]
end






def aAA:Rg:=[iA 2 (.box true (Tm 0)),iZ 4]
def aAB:Rg:=[iO 8 7 2,iK 9 67 8,iA 10 (.un .not (Tm 9))]
def aAC:Rg:=[iZ 4]
def aAD:Rg:=[iZ 5]
def aAE:Rg:=[iI 6 0]
def aAF:Rg:=[iM 11 6,iF 12 4 2,iL 13 12,iN 14 13,iB 15 .lss 11 14]
def aAG:Rd:=[(iF 18 2 2,false),(iL 19 18,false),(iF 20 4 2,false),(iL 21 20,false),(iM 22 6,false),(iX 23 3 21 22,false),(iF 24 1 23,false),(iL 25 24,false),(iX 26 4 19 25,false),(iF 27 1 26,false),(iL 28 27,false),(iM 7 28,false)]
def aAH:Rg:=[iM 29 1,iN 30 29,iF 31 4 2,iL 32 31,iN 33 32,iB 34 .eql 30 33]
def aAI:Rg:=[iM 35 1,iM 36 6,iX 37 1 35 36,iL 38 37,iM 39 7,iA 40 (.a0U false (Tm 38) (Tm 39)),iA 41 (.a0U true (Ci 0) (Tm 40)),iM 7 41]
def aAJ:Rg:=[iM 42 5,iM 43 7,iA 44 (.a0F true 1 1 [zI] [(0,(Tm 43))]),iA 45 (.append 1 8 (Tm 42) (Tm 44)),iM 5 45]
def aoC:Rg:=[iM 16 6,iC 17 .add 16 1,iM 6 17]
def aoB:aC:=(.seq (sq aAF (.cond (Tm 15) .skip (.exit 0))) (.seq (.block 1 (dq aAG (.seq (sq aAH (.cond (Tm 34) (.region aAI) .skip)) (.region aAJ)))) (.region aoC)))
def aoD:Rg:=[iM 46 5,iM 4 46]
def abZ:aC:=(sq aAA (.seq (sq aAB (.cond (Tm 10) (sq aAC .ret) .skip)) (sq aAD (.seq (sq aAE (.block 0 (.loop aoB))) (sq aoD .ret)))))
def aUE:aR:=⟨2,47,abZ,[.tmp 4]⟩
def amH:Rg:=[iA 3 (.box true (Tm 0)),iI 6 0]
def amI:Rg:=[iF 8 4 3,iL 9 8,iM 10 1,iX 11 3 9 10,iF 12 2 11,iL 13 12,iM 7 13]
def amJ:Rg:=[iF 14 3 3,iL 15 14,iM 16 7,iX 17 7 15 16,iF 18 1 17,iL 19 18,iM 20 2,iB 21 .gtr 19 20]
def amK:Rg:=[iF 22 3 3,iL 23 22,iM 24 7,iX 25 7 23 24,iF 26 2 25,iL 27 26,iM 7 27]
def amG:aC:=(.seq (sq amJ (.cond (Tm 21) .skip (.exit 0))) (.block 1 (.region amK)))
def amL:Rg:=[iM 28 7,iM 6 28]
def N4:aC:=(sq amH (sq amI (.seq (.block 0 (.loop amG)) (sq amL .ret))))
def aPY:aR:=⟨3,29,N4,[.tmp 6]⟩
def aPZ:Rg:=[iA 3 (.box true (Tm 0)),iI 6 0]
def aQA:Rg:=[iO 7 7 3,iK 8 67 7,iA 9 (.un .not (Tm 8)),iM 10 9,gM 11 1 10 false,gC 12 .lss 11 0 10 false,iQ 13 10 12,iM 14 13,gM 15 1 14 false,gF 16 4 3 14 false,gL 17 16 14 false,gN 18 17 14 false,gB 19 .geq 15 18 14 false,iQ 20 14 19,iM 21 20,gM 22 2 21 false,gC 23 .lss 22 0 21 false,iQ 24 21 23,iM 25 24,gM 26 2 25 false,gC 27 .gtr 26 4 25 false,iQ 28 25 27]
def aQB:Rg:=[iI 6 (-1)]
def aQC:Rg:=[iO 29 7 3,iM 30 1,iM 31 2,iA 32 (.call 88 [(Tm 29),(Tm 30),(Tm 31)]),iM 6 32]
def azR:aC:=(sq aPZ (.seq (sq aQA (.cond (Tm 28) (sq aQB .ret) .skip)) (sq aQC .ret)))
def sat:aR:=⟨3,33,azR,[.tmp 6]⟩
def abG:Rg:=[iA 2 (.box true (Tm 0)),iZ 4]
def abH:Rg:=[iZ 5]
def abI:Rg:=[iO 7 7 2,iK 8 67 7,iA 9 (.un .not (Tm 8)),iM 10 9,gM 11 1 10 false,gC 12 .lss 11 0 10 false,iQ 13 10 12,iM 14 13,gM 15 1 14 false,gF 16 3 2 14 false,gL 17 16 14 false,gN 18 17 14 false,gB 19 .geq 15 18 14 false,iQ 20 14 19]
def abJ:Rg:=[iZ 4]
def abK:Rg:=[iI 6 0]
def abL:Rg:=[iM 21 6,iF 22 4 2,iL 23 22,iN 24 23,iB 25 .lss 21 24]
def abM:Rd:=[(iO 28 7 2,false),(iM 29 6,false),(iF 30 3 2,false),(iL 31 30,false),(iM 32 1,false),(iX 33 7 31 32,false),(iF 34 1 33,false),(iL 35 34,false),(iA 36 (.call 88 [(Tm 28),(Tm 29),(Tm 35)]),true),(iM 37 1,true),(iB 38 .eql 36 37,false)]
def abN:Rg:=[iM 39 5,iM 40 6,iA 41 (.a0F true 1 1 [zI] [(0,(Tm 40))]),iA 42 (.append 1 8 (Tm 39) (Tm 41)),iM 5 42]
def abO:Rg:=[iM 26 6,iC 27 .add 26 1,iM 6 27]
def abF:aC:=(.seq (sq abL (.cond (Tm 25) .skip (.exit 0))) (.seq (.block 1 (dq abM (.cond (Tm 38) (.region abN) .skip))) (.region abO)))
def Og:Rg:=[iM 43 5,iM 4 43]
def Jr:aC:=(sq abG (sq abH (.seq (sq abI (.cond (Tm 20) (sq abJ .ret) .skip)) (.seq (sq abK (.block 0 (.loop abF))) (sq Og .ret)))))
def aKG:aR:=⟨2,44,Jr,[.tmp 4]⟩
def amP:Rg:=[iA 2 (.box true (Tm 0)),iZ 4]
def amQ:Rg:=[iZ 5]
def amR:Rg:=[iO 7 7 2,iK 8 67 7,iA 9 (.un .not (Tm 8)),iM 10 9,gM 11 1 10 false,gC 12 .lss 11 0 10 false,iQ 13 10 12]
def amS:Rg:=[iZ 4]
def amT:Rg:=[iI 6 1]
def amU:Rg:=[iM 14 6,iF 15 3 2,iL 16 15,iN 17 16,iB 18 .lss 14 17]
def amV:Rg:=[iF 21 3 2,iL 22 21,iM 23 6,iX 24 7 22 23,iF 25 2 24,iL 26 25,iM 27 1,iB 28 .eql 26 27]
def amW:Rg:=[iM 29 5,iM 30 6,iA 31 (.a0F true 1 1 [zI] [(0,(Tm 30))]),iA 32 (.append 1 8 (Tm 29) (Tm 31)),iM 5 32]
def amX:Rg:=[iM 19 6,iC 20 .add 19 1,iM 6 20]
def amO:aC:=(.seq (sq amU (.cond (Tm 18) .skip (.exit 0))) (.seq (.block 1 (sq amV (.cond (Tm 28) (.region amW) .skip))) (.region amX)))
def abD:Rg:=[iM 33 5,iM 4 33]
def Oe:aC:=(sq amP (sq amQ (.seq (sq amR (.cond (Tm 13) (sq amS .ret) .skip)) (.seq (sq amT (.block 0 (.loop amO))) (sq abD .ret)))))
def aQE:aR:=⟨2,34,Oe,[.tmp 4]⟩
def anP:Rg:=[iA 2 (.box true (Tm 0)),iZ 4]
def anQ:Rg:=[iO 8 7 2,iK 9 67 8,iA 10 (.un .not (Tm 9))]
def anR:Rg:=[iZ 4]
def anS:Rg:=[iF 11 4 2,iL 12 11,iN 13 12,iA 14 (.a0H 1 8 [zI] (Tm 13) (Tm 13)),iM 5 14]
def anT:Rg:=[iI 6 0]
def anU:Rg:=[iM 15 6,iM 16 1,iN 17 16,iB 18 .lss 15 17]
def anV:Rg:=[iI 7 0]
def anW:Rg:=[iM 21 7,iM 22 1,iM 23 6,iX 24 1 22 23,iL 25 24,iN 26 25,iB 27 .lss 21 26]
def anX:Rg:=[iM 30 1,iM 31 6,iX 32 1 30 31,iL 33 32,iM 34 7,iX 35 1 33 34,iL 36 35,iC 37 .geq 36 0,iM 38 37,gM 39 1 38 true,gM 40 6 38 true,iG 41 (.a0Q 1 (Tm 39) (Tm 40)) 38 true,gL 42 41 38 true,gM 43 7 38 true,iG 44 (.a0Q 1 (Tm 42) (Tm 43)) 38 true,gL 45 44 38 true,gM 46 5 38 true,gN 47 46 38 true,gB 48 .lss 45 47 38 true,iP 49 38 48]
def anY:Rg:=[iM 50 5,iM 51 1,iM 52 6,iX 53 1 51 52,iL 54 53,iM 55 7,iX 56 1 54 55,iL 57 56,iX 58 1 50 57,iL 59 58,iC 60 .add 59 1,iX 61 1 50 57,iS 1 61 60]
def abU:Rg:=[iM 28 7,iC 29 .add 28 1,iM 7 29]
def abS:aC:=(.seq (sq anW (.cond (Tm 27) .skip (.exit 2))) (.seq (.block 3 (sq anX (.cond (Tm 49) (.region anY) .skip))) (.region abU)))
def abV:Rg:=[iM 19 6,iC 20 .add 19 1,iM 6 20]
def abT:aC:=(.seq (sq anU (.cond (Tm 18) .skip (.exit 0))) (.seq (.block 1 (sq anV (.block 2 (.loop abS)))) (.region abV)))
def abW:Rg:=[iM 62 5,iM 4 62]
def Ol:aC:=(sq anP (.seq (sq anQ (.cond (Tm 10) (sq anR .ret) .skip)) (sq anS (.seq (sq anT (.block 0 (.loop abT))) (sq abW .ret)))))
def aQO:aR:=⟨2,63,Ol,[.tmp 4]⟩
def aJY:Rg:=[iA 2 (.box true (Tm 0)),iI 4 0]
def aJZ:Rg:=[iI 5 0]
def aKA:Rg:=[iM 6 5,iM 7 1,iN 8 7,iB 9 .lss 6 8]
def aKB:Rd:=[(iM 12 1,false),(iM 13 5,false),(iX 14 1 12 13,false),(iL 15 14,false),(iC 16 .lss 15 (-1),false),(iM 17 16,false),(gM 18 1 17 false,false),(gM 19 5 17 false,false),(iG 20 (.a0Q 1 (Tm 18) (Tm 19)) 17 false,false),(gL 21 20 17 false,false),(gF 22 4 2 17 false,false),(gL 23 22 17 false,false),(gN 24 23 17 false,false),(gB 25 .geq 21 24 17 false,false),(iQ 26 17 25,false)]
def aKC:Rg:=[iM 27 5,iM 4 27]
def aKD:Rg:=[iM 10 5,iC 11 .add 10 1,iM 5 11]
def aJX:aC:=(.seq (sq aKA (.cond (Tm 9) .skip (.exit 0))) (.seq (.block 1 (dq aKB (.cond (Tm 26) (sq aKC .ret) .skip))) (.region aKD)))
def aKE:Rg:=[iI 4 (-1)]
def amN:aC:=(sq aJY (.seq (sq aJZ (.block 0 (.loop aJX))) (sq aKE .ret)))
def aXK:aR:=⟨2,28,amN,[.tmp 4]⟩
def acB:Rg:=[iA 2 (.box true (Tm 0)),iT 4 false]
def acC:Rg:=[iO 6 7 2,iK 7 67 6,iA 8 (.un .not (Tm 7)),iM 9 8,gM 10 1 9 false,gN 11 10 9 false,gF 12 6 2 9 false,gL 13 12 9 false,gN 14 13 9 false,gB 15 .neq 11 14 9 false,iQ 16 9 15]
def acD:Rg:=[iT 4 false]
def acE:Rg:=[iI 5 0]
def acF:Rg:=[iM 17 5,iM 18 1,iN 19 18,iB 20 .lss 17 19]
def acG:Rd:=[(iM 23 1,true),(iM 24 5,true),(iX 25 1 23 24,true),(iL 26 25,true),(iN 27 26,true),(iO 28 7 2,false),(iM 29 5,false),(iK2 30 82 28 29,true),(iB 31 .neq 27 30,false),(iM 32 31,false),(gO 33 7 2 32 false,false),(gM 34 1 32 false,false),(gM 35 5 32 false,false),(iG 36 (.a0Q 1 (Tm 34) (Tm 35)) 32 false,false),(gL 37 36 32 false,false),(gK2 38 89 33 37 32 false,true),(gC 39 .geq 38 0 32 false,false),(iQ 40 32 39,false)]
def acH:Rg:=[iT 4 false]
def acI:Rg:=[iM 21 5,iC 22 .add 21 1,iM 5 22]
def acA:aC:=(.seq (sq acF (.cond (Tm 20) .skip (.exit 0))) (.seq (.block 1 (dq acG (.cond (Tm 40) (sq acH .ret) .skip))) (.region acI)))
def acJ:Rg:=[iT 4 true]
def J0:aC:=(sq acB (.seq (sq acC (.cond (Tm 16) (sq acD .ret) .skip)) (.seq (sq acE (.block 0 (.loop acA))) (sq acJ .ret))))
def aKX:aR:=⟨2,41,J0,[.tmp 4]⟩
def N6:Rg:=[iA 3 (.box true (Tm 0)),iA 4 (.box true (Tm 1)),iT 6 false]
def N7:Rg:=[iI 7 0]
def N8:Rg:=[iM 8 7,iF 9 9 3,iL 10 9,iN 11 10,iB 12 .lss 8 11]
def N9:Rd:=[(iF 15 9 3,false),(iL 16 15,false),(iM 17 7,false),(iX 18 1 16 17,false),(iL 19 18,false),(iF 20 4 4,false),(iL 21 20,false),(iM 22 2,false),(iX 23 3 21 22,false),(iF 24 1 23,false),(iL 25 24,false),(iB 26 .eql 19 25,false)]
def Oa:Rg:=[iT 6 true]
def Ob:Rg:=[iM 13 7,iC 14 .add 13 1,iM 7 14]
def N5:aC:=(.seq (sq N8 (.cond (Tm 12) .skip (.exit 0))) (.seq (.block 1 (dq N9 (.cond (Tm 26) (sq Oa .ret) .skip))) (.region Ob)))
def Oc:Rg:=[iT 6 false]
def ym:aC:=(sq N6 (.seq (sq N7 (.block 0 (.loop N5))) (sq Oc .ret)))
def azQ:aR:=⟨3,27,ym,[.tmp 6]⟩
def amZ:Rg:=[iA 3 (.box true (Tm 0)),iI 6 0]
def anA:Rg:=[iI 7 0]
def anB:Rg:=[iI 8 0]
def anC:Rg:=[iM 9 8,iM 10 1,iN 11 10,iB 12 .lss 9 11]
def anD:Rd:=[(iM 15 1,false),(iM 16 8,false),(iX 17 1 15 16,false),(iL 18 17,false),(iC 19 .geq 18 0,false),(iM 20 19,false),(gO 21 7 3 20 true,false),(gM 22 1 20 true,false),(gM 23 8 20 true,false),(iG 24 (.a0Q 1 (Tm 22) (Tm 23)) 20 true,false),(gL 25 24 20 true,false),(gF 26 3 3 20 true,false),(gL 27 26 20 true,false),(gM 28 2 20 true,false),(iG 29 (.a0Q 7 (Tm 27) (Tm 28)) 20 true,false),(gF 30 1 29 20 true,false),(gL 31 30 20 true,false),(iG 32 (.call 88 [(Tm 21),(Tm 25),(Tm 31)]) 20 true,true),(gM 33 2 20 true,true),(gB 34 .eql 32 33 20 true,false),(iP 35 20 34,false)]
def anE:Rg:=[iM 36 7,iC 37 .add 36 1,iM 7 37]
def anF:Rg:=[iM 13 8,iC 14 .add 13 1,iM 8 14]
def amY:aC:=(.seq (sq anC (.cond (Tm 12) .skip (.exit 0))) (.seq (.block 1 (dq anD (.cond (Tm 35) (.region anE) .skip))) (.region anF)))
def anG:Rg:=[iM 38 7,iM 6 38]
def Of:aC:=(sq amZ (sq anA (.seq (sq anB (.block 0 (.loop amY))) (sq anG .ret))))
def aQF:aR:=⟨3,39,Of,[.tmp 6]⟩
def aKN:Rg:=[iA 3 (.box true (Tm 0)),iZ 6]
def aKO:Rg:=[iM 17 2,iN 18 17,iO 19 7 3,iM 20 1,iK2 21 82 19 20,iB 22 .neq 18 21]
def aKP:Rg:=[iM 23 1,iM 24 2,iN 25 24,iA 26 (.build [zI,zI,zI] [(0,1,(Ci 1)),(1,1,(Tm 23)),(2,1,(Tm 25))]),iA 27 (.a0F true 3 1 [zI,zI,zI] [(0,(Tm 26))]),iM 6 27]
def aKQ:Rg:=[iO 28 7 3,iM 29 2,iK2 30 89 28 29,iM 7 30]
def aKR:Rg:=[iM 31 7,iC 32 .geq 31 0]
def aKS:Rg:=[iM 33 1,iM 34 7,iA 35 (.build [zI,zI,zI] [(0,1,(Ci 1)),(1,1,(Tm 33)),(2,1,(Tm 34))]),iA 36 (.a0F true 3 1 [zI,zI,zI] [(0,(Tm 35))]),iM 6 36]
def aKT:Rg:=[iZ 8]
def aKU:Rg:=[iI 9 0]
def aKV:Rg:=[iM 37 9,iM 38 2,iN 39 38,iB 40 .lss 37 39]
def aKW:Rg:=[iM 43 2,iM 44 9,iX 45 1 43 44,iL 46 45,iC 47 .eql 46 (-1)]
def aAP:Rg:=[iM 48 8,iM 49 1,iM 50 9,iA 51 (.build [zI,zI,zI] [(0,1,(Ci 2)),(1,1,(Tm 49)),(2,1,(Tm 50))]),iA 52 (.a0F true 3 1 [zI,zI,zI] [(0,(Tm 51))]),iA 53 (.append 3 24 (Tm 48) (Tm 52)),iM 8 53]
def aAQ:Rg:=[iM 41 9,iC 42 .add 41 1,iM 9 42]
def aAK:aC:=(.seq (sq aKV (.cond (Tm 40) .skip (.exit 0))) (.seq (.block 1 (sq aKW (.cond (Tm 47) (.region aAP) .skip))) (.region aAQ)))
def aAR:Rg:=[iI 10 0]
def aAS:Rg:=[iM 54 10,iF 55 4 3,iL 56 55,iN 57 56,iB 58 .lss 54 57]
def aAT:Rg:=[iI 11 0]
def aAU:Rg:=[iI 12 0]
def aAV:Rg:=[iM 61 12,iM 62 2,iN 63 62,iB 64 .lss 61 63]
def aAW:Rg:=[iM 67 2,iM 68 12,iX 69 1 67 68,iL 70 69,iM 71 10,iB 72 .eql 70 71]
def aAX:Rg:=[iM 73 11,iC 74 .add 73 1,iM 11 74]
def aAY:Rg:=[iM 65 12,iC 66 .add 65 1,iM 12 66]
def aAL:aC:=(.seq (sq aAV (.cond (Tm 64) .skip (.exit 4))) (.seq (.block 5 (sq aAW (.cond (Tm 72) (.region aAX) .skip))) (.region aAY)))
def aAZ:Rg:=[iM 75 11,iC 76 .gtr 75 1]
def aBA:Rg:=[iM 77 8,iM 78 1,iM 79 10,iA 80 (.build [zI,zI,zI] [(0,1,(Ci 3)),(1,1,(Tm 78)),(2,1,(Tm 79))]),iA 81 (.a0F true 3 1 [zI,zI,zI] [(0,(Tm 80))]),iA 82 (.append 3 24 (Tm 77) (Tm 81)),iM 8 82]
def aBB:Rg:=[iM 59 10,iC 60 .add 59 1,iM 10 60]
def aAM:aC:=(.seq (sq aAS (.cond (Tm 58) .skip (.exit 2))) (.seq (.block 3 (sq aAT (.seq (sq aAU (.block 4 (.loop aAL))) (sq aAZ (.cond (Tm 76) (.region aBA) .skip))))) (.region aBB)))
def aBC:Rd:=[(iF 83 5 3,false),(iL 84 83,false),(iF 85 6 3,false),(iL 86 85,false),(iM 87 1,false),(iX 88 2 86 87,false),(iF 89 1 88,false),(iL 90 89,false),(iX 91 17 84 90,false),(iO 92 17 91,false),(iA 13 (.alloc [(.str []),zI,zI,zI,zI,zI,zI,zI,zI,.aB,.aB,zB,.aB,.aB,zB,.aB,.aB]),true),(iS 17 13 92,true)]
def aBD:Rg:=[iI 14 0]
def aBE:Rg:=[iM 93 14,iM 94 2,iN 95 94,iB 96 .lss 93 95]
def aBF:Rd:=[(iM 99 2,false),(iM 100 14,false),(iX 101 1 99 100,false),(iL 102 101,false),(iC 103 .geq 102 0,false),(iM 104 103,false),(gO 105 17 13 104 true,false),(gO 106 7 3 104 true,false),(gM 107 2 104 true,false),(gM 108 14 104 true,false),(iG 109 (.a0Q 1 (Tm 107) (Tm 108)) 104 true,false),(gL 110 109 104 true,false),(iG 111 (.call 77 [(Tm 105),(Tm 106),(Tm 110)]) 104 true,true),(iG 112 (.un .not (Tm 111)) 104 true,false),(iP 113 104 112,false)]
def aBG:Rg:=[iM 114 8,iM 115 1,iM 116 14,iA 117 (.build [zI,zI,zI] [(0,1,(Ci 4)),(1,1,(Tm 115)),(2,1,(Tm 116))]),iA 118 (.a0F true 3 1 [zI,zI,zI] [(0,(Tm 117))]),iA 119 (.append 3 24 (Tm 114) (Tm 118)),iM 8 119]
def aBH:Rg:=[iM 97 14,iC 98 .add 97 1,iM 14 98]
def aAN:aC:=(.seq (sq aBE (.cond (Tm 96) .skip (.exit 6))) (.seq (.block 7 (dq aBF (.cond (Tm 113) (.region aBG) .skip))) (.region aBH)))
def aBI:Rg:=[iI 15 1]
def aBJ:Rg:=[iM 120 15,iF 121 3 3,iL 122 121,iN 123 122,iB 124 .lss 120 123]
def aBK:Rg:=[iF 127 3 3,iL 128 127,iM 129 15,iX 130 7 128 129,iF 131 1 130,iL 132 131,iF 133 4 13,iA 134 (.idxA 5 1 (Tm 133) (Tm 132)),iL 135 134,iM 16 135]
def aBL:Rg:=[iM 136 16,iC 137 .gtr 136 0,iM 138 137,gO 139 7 3 138 true,gM 140 2 138 true,gM 141 15 138 true,iG 142 (.call 80 [(Tm 139),(Tm 140),(Tm 141)]) 138 true,gM 143 16 138 true,gB 144 .gtr 142 143 138 true,iP 145 138 144]
def aBM:Rg:=[iM 146 8,iM 147 1,iM 148 15,iA 149 (.build [zI,zI,zI] [(0,1,(Ci 5)),(1,1,(Tm 147)),(2,1,(Tm 148))]),iA 150 (.a0F true 3 1 [zI,zI,zI] [(0,(Tm 149))]),iA 151 (.append 3 24 (Tm 146) (Tm 150)),iM 8 151]
def aBN:Rg:=[iM 125 15,iC 126 .add 125 1,iM 15 126]
def aAO:aC:=(.seq (sq aBJ (.cond (Tm 124) .skip (.exit 8))) (.seq (.block 9 (sq aBK (sq aBL (.cond (Tm 145) (.region aBM) .skip)))) (.region aBN)))
def aBO:Rg:=[iM 152 8,iM 6 152]
def aoE:aC:=(sq aKN (.seq (sq aKO (.cond (Tm 22) (sq aKP .ret) .skip)) (.seq (sq aKQ (sq aKR (.cond (Tm 32) (sq aKS .ret) .skip))) (sq aKT (.seq (sq aKU (.block 0 (.loop aAK))) (.seq (sq aAR (.block 2 (.loop aAM))) (dq aBC (.seq (sq aBD (.block 6 (.loop aAN))) (.seq (sq aBI (.block 8 (.loop aAO))) (sq aBO .ret))))))))))
def aXN:aR:=⟨3,153,aoE,[.tmp 6]⟩
def aBT:Rg:=[iA 3 (.box true (Tm 0)),iZ 6]
def aBU:Rg:=[iO 12 7 3,iK 13 67 12,iA 14 (.un .not (Tm 13))]
def aBV:Rg:=[iZ 6]
def aBW:Rg:=[iM 15 1,iN 16 15,iF 17 6 3,iL 18 17,iN 19 18,iB 20 .neq 16 19]
def aBX:Rg:=[iM 21 1,iN 22 21,iA 23 (.build [zI,zI,zI] [(0,1,(Ci 1)),(1,1,(Ci (-1))),(2,1,(Tm 22))]),iA 24 (.a0F true 3 1 [zI,zI,zI] [(0,(Tm 23))]),iM 6 24]
def aBY:Rg:=[iZ 7]
def aBZ:Rg:=[iI 8 0]
def aCA:Rg:=[iM 25 8,iM 26 1,iN 27 26,iB 28 .lss 25 27]
def aCB:Rd:=[(iM 31 7,true),(iO 32 7 3,false),(iM 33 8,false),(iM 34 1,false),(iM 35 8,false),(iX 36 1 34 35,false),(iL 37 36,false),(iA 38 (.call 90 [(Tm 32),(Tm 33),(Tm 37)]),true),(iA 39 (.append 3 24 (Tm 31) (Tm 38)),true),(iM 7 39,false)]
def aCC:Rg:=[iM 29 8,iC 30 .add 29 1,iM 8 30]
def aoH:aC:=(.seq (sq aCA (.cond (Tm 28) .skip (.exit 0))) (.seq (.block 1 (.draw aCB)) (.region aCC)))
def aoJ:Rd:=[(iO 40 7 3,false),(iM 41 2,false),(iK2 42 85 40 41,true),(iO 43 7 3,true),(iM 44 1,true),(iK2 45 84 43 44,true),(iM 9 42,false),(iM 10 45,false)]
def aoK:Rg:=[iI 11 0]
def aoL:Rg:=[iM 46 11,iM 47 9,iN 48 47,iB 49 .lss 46 48]
def aoM:Rd:=[(iM 52 10,false),(iM 53 11,false),(iX 54 1 52 53,false),(iL 55 54,false),(iM 56 9,false),(iM 57 11,false),(iX 58 1 56 57,false),(iL 59 58,false),(iB 60 .gtr 55 59,false)]
def aoN:Rg:=[iM 61 7,iM 62 11,iA 63 (.build [zI,zI,zI] [(0,1,(Ci 6)),(1,1,(Ci (-1))),(2,1,(Tm 62))]),iA 64 (.a0F true 3 1 [zI,zI,zI] [(0,(Tm 63))]),iA 65 (.append 3 24 (Tm 61) (Tm 64)),iM 7 65]
def aoO:Rg:=[iM 50 11,iC 51 .add 50 1,iM 11 51]
def aoI:aC:=(.seq (sq aoL (.cond (Tm 49) .skip (.exit 2))) (.seq (.block 3 (dq aoM (.cond (Tm 60) (.region aoN) .skip))) (.region aoO)))
def aoP:Rg:=[iM 66 7,iM 6 66]
def acL:aC:=(sq aBT (.seq (sq aBU (.cond (Tm 14) (sq aBV .ret) .skip)) (.seq (sq aBW (.cond (Tm 20) (sq aBX .ret) .skip)) (sq aBY (.seq (sq aBZ (.block 0 (.loop aoH))) (dq aoJ (.seq (sq aoK (.block 2 (.loop aoI))) (sq aoP .ret))))))))
def aUF:aR:=⟨3,67,acL,[.tmp 6]⟩
def anM:Rg:=[iA 3 (.box true (Tm 0)),iT 6 false]
def anN:Rg:=[iO 7 7 3,iK 8 67 7,iM 9 8,gO 10 7 3 9 true,gM 11 1 9 true,gM 12 2 9 true,iG 13 (.call 87 [(Tm 10),(Tm 11),(Tm 12)]) 9 true,gN 14 13 9 true,gC 15 .eql 14 0 9 true,iP 16 9 15,iM 6 16]
def Oi:aC:=(sq anM (sq anN .ret))
def aQJ:aR:=⟨3,17,Oi,[.tmp 6]⟩






theorem awN {C:Ctx} (l:List Int) (e:Fits l):rR.wp C (aX QF.res (aH (.bool true))) (PF.args [ints l,ints l]) .nil:=by
 have i:l.length≤9223372036854775807:=e;simp only[go_sem,rR,UI,UJ,QF,a1K,bR (show (l.length:Int)=(l.length:Nat) from rfl),UK];refine wp_loop (α:=Nat) (fun k=>(((PF.nil.set 0 (ints l)).set 1 (ints l)).set 5 (.int .i64 k))) (fun _=>.nil) (fun k=>k≤l.length) (fun k=>l.length-k) 0 (a1X _) Lq a_ ?_;intro k p;simp only[go_sem,UH,UL,a1K];by_cases hlt:k<l.length
 ·have c:(k:Int)<(l.length:Nat):=Om;have d:(l.map fun x=>[PV.int .i64 x])[k]?=some [.int .i64 l[k]]:=by simp[hlt]
  simp only[go_sem,c];refine bX .nil eH a_ ?_;simp only[go_sem,UM,d,bR (show l[k]=l[k] from rfl),UN,wZz k];exact aK (k+1) hlt Om Lq b_
 ·have c:¬ (k:Int)<(l.length:Nat):=Om;simp only[go_sem,c,UO];refine bE (.inr rfl) rfl ?_;rfl

structure JY (C:Ctx):Prop extends aNV C where
 r19:aO C 19 aIF
 r21:aO C 21 aPH
 r22:aO C 22 aTW
 r46:aO C 46 Lm
 r48:aO C 48 jk
 r49:aO C 49 zz
 r51:aO C 51 ju
 r52:aO C 52 RI
 r53:aO C 53 z8
 r54:aO C 54 Aa
 r55:aO C 55 aRE
 r56:aO C 56 j4
 r57:aO C 57 zy
 r60:aO C 60 j3
 r61:aO C 61 aUC
 r62:aO C 62 aMP
 r63:aO C 63 aRF
 r64:aO C 64 aMO
 r65:aO C 65 aMQ
 r66:aO C 66 aYC
 r67:aO C 67 aRR
 r68:aO C 68 aYB
 r69:aO C 69 aYA
 r70:aO C 70 aRN
 r71:aO C 71 aRO
 r72:aO C 72 aFK
 r73:aO C 73 aRP
 r74:aO C 74 aRQ
 r75:aO C 75 aNP
 r76:aO C 76 aNQ
 r77:aO C 77 azQ
 r78:aO C 78 sat
 r79:aO C 79 aQE
 r80:aO C 80 aQF
 r81:aO C 81 aKG
 r83:aO C 83 aQJ
 r84:aO C 84 aQO
 r85:aO C 85 aUE
 r86:aO C 86 aKX
 r87:aO C 87 aUF
 r88:aO C 88 aPY
 r89:aO C 89 aXK
 r90:aO C 90 aXN
 r94:aO C 94 QF
theorem zN {C:Ctx} (c:JY C):YG C :=
 {qA c.tofP with
  int:=fun n p=>(c.r47.go (DK (qA c.tofP) n p) rfl).seen
  mul:=fun a b d e i l=>(c.r36.go (Wf (OL c.tofP) a b d e i l) rfl).seen
  add:=fun a b d e i l=>(c.r30.go (Vg (xY c.tofP) a b d e i l) rfl).seen
  sub:=fun a b d e i l=>(c.r37.go (Wn (xY c.tofP) a b d e i l) rfl).seen }
theorem xZ {C:Ctx} (c:JY C):KF C :=
 {zN c with
  valid:=fun x d=>c.r56.go (PW (zN c) x.neg x.num x.den d.1 d.2.1 d.2.2.1 d.2.2.2) rfl
  big:=fun x=>c.r48.go (xq x.1 (aE x.2.1) (aE x.2.2)) rfl }
theorem OM {C:Ctx} (c:JY C):YH C :=
 {xZ c with
  fits:=fun x=>(c.r57.go (Lr (xZ c) x) rfl).seen
  red:=fun x i=>(c.r52.go (jv (xZ c) x i) rfl).seen
  prod:=fun a b d e l p u w=>c.r60.go (x7 (zN c) a b d e l p u w) rfl }
theorem oN {C:Ctx} (c:JY C):uD C :=
 {OM c with
  order:=fun x y d e i l=>c.r51.go (xu (OM c) x y d e i l) rfl }
theorem zl {C:Ctx} (c:JY C):Xm C :=
 {oN c with
  less:=fun x y d e i l=>c.r49.go (Ly (oN c) x y d e i l) rfl
  same:=fun x y d e i l=>c.r53.go (L8 (oN c) x y d e i l) rfl
  sign:=fun x d i=>c.r54.go (Mb (oN c) x d i) rfl
  plus:=fun x y d e=>(c.r46.go (Wx (oN c) x y d e) rfl).seen }


def Py:Rg:=[iA 3 (.box true (Tm 0)),iA 4 (.box true (Tm 1)),iT 6 false]
def Pz:Rg:=[iF 15 2 3,iL 16 15,iN 17 16,iA 18 (.a0H 1 1 [zB] (Tm 17) (Tm 17)),iM 7 18]
def P0:Rg:=[iF 19 9 4,iL 20 19,iN 21 20,iI 22 0]
def P1:Rg:=[iB 23 .lss 22 21]
def P2:Rg:=[iX 24 1 20 22,iL 25 24,iM 9 25]
def P3:Rg:=[iM 26 7,iM 27 9,iX 28 1 26 27,⟨none,.store 1 (Tm 28) (.const (.bool true)),none⟩]
def P4:Rg:=[iC 29 .add 22 1,iM 22 29]
def Px:aC:=(sq P1 (.seq (.cond (Tm 23) .skip (.exit 0)) (.seq (.block 1 (sq P2 (.region P3))) (.region P4))))
def P5:Rg:=[iF 30 3 3,iL 31 30,iN 32 31,iA 33 (.a0H 1 8 [zI] (Tm 32) (Tm 32)),iM 10 33]
def P6:Rg:=[iM 34 2,iN 35 34,iI 36 0]
def DU:Rg:=[iB 37 .lss 36 35]
def TY:Rg:=[iX 38 1 34 36,iL 39 38,iM 12 39]
def TZ:Rg:=[iM 40 7,iF 41 4 3,iL 42 41,iM 43 12,iX 44 3 42 43,iF 45 1 44,iL 46 45,iX 47 1 40 46,iL 48 47,iA 49 (.un .not (Tm 48))]
def Ay:Rg:=[iT 6 false]
def Az:Rg:=[iF 50 4 3,iL 51 50,iM 52 12,iX 53 3 51 52,iF 54 2 53,iL 55 54,iM 13 55]
def A0:Rg:=[iM 56 13,iC 57 .gtr 56 0]
def A1:Rg:=[iM 64 10,iM 65 13,iX 66 1 64 65,iL 67 66,iC 68 .add 67 1,iX 69 1 64 65,iS 1 69 68]
def A2:Rg:=[iF 70 3 3,iL 71 70,iM 72 13,iX 73 7 71 72,iF 74 1 73,iL 75 74,iF 76 4 4,iA 77 (.idxA 5 1 (Tm 76) (Tm 75)),iL 78 77,iM 14 78]
def DW:Rg:=[iM 79 14,iC 80 .gtr 79 0,iM 81 80,gM 82 10 81 true,gM 83 13 81 true,iG 84 (.a0Q 1 (Tm 82) (Tm 83)) 81 true,gL 85 84 81 true,gM 86 14 81 true,gB 87 .gtr 85 86 81 true,iP 88 81 87]
def A3:Rg:=[iT 6 false]
def UA:Rg:=[iF 58 3 3,iL 59 58,iM 60 13,iX 61 7 59 60,iF 62 2 61,iL 63 62,iM 13 63]
def TX:aC:=(.seq (sq A0 (.cond (Tm 57) .skip (.exit 4))) (.seq (.block 5 (sq A1 (sq A2 (sq DW (.cond (Tm 88) (sq A3 .ret) .skip))))) (.region UA)))
def A4:Rg:=[iC 89 .add 36 1,iM 36 89]
def xH:aC:=(sq DU (.seq (.cond (Tm 37) .skip (.exit 2)) (.seq (.block 3 (sq TY (.seq (sq TZ (.cond (Tm 49) (sq Ay .ret) .skip)) (sq Az (.block 4 (.loop TX)))))) (.region A4))))
def A5:Rg:=[iT 6 true]
def KQ:aC:=(sq Py (sq Pz (.seq (sq P0 (.block 0 (.loop Px))) (sq P5 (.seq (sq P6 (.block 2 (.loop xH))) (sq A5 .ret))))))
def aGP:List Nat:=[3,4]
def avM:aR:=⟨3,90,KQ,[.tmp 6]⟩
def P8:Rg:=[iT 6 false]
def P9:Rg:=[iM 9 0,iN 10 9,iI 11 0]
def kf:Rg:=[iB 12 .lss 11 10]
def Qa:Rg:=[iM 13 11,iX 14 1 9 11,iL 15 14,iM 7 13,iM 8 15]
def wO:Rg:=[iM 16 8,iC 17 .lss 16 0,iM 18 17,gM 19 8 18 false,gM 20 2 18 false,gB 21 .geq 19 20 18 false,iQ 22 18 21,iM 23 22,gM 24 7 23 false,gC 25 .gtr 24 0 23 false,gM 26 25 23 false,gM 27 0 26 true,gM 28 7 26 true,gC 29 .sub 28 1 26 true,iG 30 (.a0Q 1 (Tm 27) (Tm 29)) 26 true,gL 31 30 26 true,gM 32 8 26 true,gB 33 .geq 31 32 26 true,iG 34 (.pick (Tm 26) (Tm 33) (.const zB)) 23 false,iQ 35 23 34]
def QB:Rg:=[iT 6 false]
def kg:Rg:=[iC 36 .add 11 1,iM 11 36]
def kd:aC:=(sq kf (.seq (.cond (Tm 12) .skip (.exit 0)) (.seq (.block 1 (sq Qa (sq wO (.cond (Tm 35) (sq QB .ret) .skip)))) (.region kg))))
def Qb:Rg:=[iM 37 0,iN 38 37,iM 39 1,iB 40 .eql 38 39,iM 6 40]
def KU:aC:=(sq P8 (.seq (sq P9 (.block 0 (.loop kd))) (sq Qb .ret)))
def aGT:List Nat:=[]
def avP:aR:=⟨3,41,KU,[.tmp 6]⟩
def oc:Rg:=[iA 2 (.box true (Tm 0)),iT 4 false]
def oe:Rg:=[iO 5 7 2,iK 6 96 5,iC 7 .eql 6 0,iM 8 7,gM 9 1 8 true,gC 10 .geq 9 0 8 true,iP 11 8 10,iM 12 11,gM 13 1 12 true,gF 14 5 2 12 true,gL 15 14 12 true,gN 16 15 12 true,gB 17 .lss 13 16 12 true,iP 18 12 17,iM 4 18]
def AE:aC:=(sq oc (sq oe .ret))
def ahZ:List Nat:=[2]
def A9:aR:=⟨2,19,AE,[.tmp 4]⟩
def nu:Rg:=[iA 3 (.box true (Tm 0)),iT 6 false]
def nv:Rg:=[iO 8 7 3,iM 9 1,iK2 10 203 8 9,iA 11 (.un .not (Tm 10))]
def nw:Rg:=[iT 6 false]
def ny:Rg:=[iF 12 5 3,iL 13 12,iM 14 1,iX 15 17 13 14,iO 16 17 15,iA 7 (.alloc [(.str []),zI,zI,zI,zI,zI,zI,zI,zI,.aB,.aB,zB,.aB,.aB,zB,.aB,.aB]),iS 17 7 16]
def nz:Rg:=[iM 17 2,iF 18 1 7,iL 19 18,iF 20 2 7,iL 21 20,iB 22 .add 19 21,iF 23 4 3,iL 24 23,iN 25 24,iA 26 (.call 202 [(Tm 17),(Tm 22),(Tm 25)]),iM 27 26,gO 28 7 3 27 true,gO 29 17 7 27 true,gM 30 2 27 true,iG 31 (.call 201 [(Tm 28),(Tm 29),(Tm 30)]) 27 true,iP 32 27 31,iM 6 32]
def AC:aC:=(sq nu (.seq (sq nv (.cond (Tm 11) (sq nw .ret) .skip)) (sq ny (sq nz .ret))))
def ahU:List Nat:=[3]
def A6:aR:=⟨3,33,AC,[.tmp 6]⟩
def n0:Rg:=[iA 2 (.box true (Tm 0)),iZ 4,iI 5 0]
def n6:Rg:=[iO 7 7 2,iM 8 1,iK2 9 203 7 8,iA 10 (.un .not (Tm 9)),iM 6 10]
def n8:Rg:=[iZ 4,iI 5 1]
def KR:Rg:=[iF 12 4 2,iL 13 12,iN 14 13,iC 15 .gtr 14 12,iM 11 15]
def n9:Rg:=[iZ 4,iI 5 2]
def oa:Rd:=[(iO 16 7 2,false),(iF 17 5 2,false),(iL 18 17,false),(iM 19 1,false),(iX 20 17 18 19,false),(iO 21 17 20,false),(iK2 22 229 16 21,true),(iM 4 22,false),(iI 5 0,false)]
def AD:aC:=(sq n0 (.seq (.block 0 (sq n6 (.cond (Tm 6) (sq n8 .ret) (sq KR (.cond (Tm 11) (sq n9 .ret) .skip))))) (dq oa .ret)))
def ahW:List Nat:=[2]
def call17:aR:=⟨2,23,AD,[.tmp 4,.tmp 5]⟩
def qe:Rg:=[iA 2 (.box true (Tm 0)),iZ 4]
def qf:Rg:=[iZ 5]
def qg:Rg:=[iM 13 1,iC 14 .eql 13 5]
def qh:Rg:=[iF 15 4 2,iL 16 15,iN 17 16,iI 18 0]
def qi:Rg:=[iB 19 .lss 18 17]
def qj:Rg:=[iM 20 18,iM 6 20]
def qk:Rg:=[iM 21 5,iM 22 6,iA 23 (.a0F true 1 1 [zI] [(0,(Tm 22))]),iA 24 (.a0F true 1 1 [.aB] [(0,(Tm 23))]),iA 25 (.append 1 24 (Tm 21) (Tm 24)),iM 5 25]
def ql:Rg:=[iC 26 .add 18 1,iM 18 26]
def qd:aC:=(sq qi (.seq (.cond (Tm 19) .skip (.exit 0)) (.seq (.block 1 (sq qj (.region qk))) (.region ql))))
def qn:Rg:=[iM 27 5,iM 4 27]
def an:Rg:=[iF 28 3 2,iL 29 28,iN 30 29,iA 31 (.a0H 1 8 [zI] (Tm 30) (Tm 30)),iM 7 31]
def ao:Rg:=[iF 32 3 2,iL 33 32,iN 34 33,iI 35 0]
def ap:Rg:=[iB 36 .lss 35 34]
def au:Rg:=[iM 37 35,iX 38 7 33 35,iO 39 7 38,iA 9 (.alloc [(.str []),zI,zI,zI,zB,.aB,.aB]),iM 8 37,iS 7 9 39]
def av:Rg:=[iF 40 1 9,iL 41 40,iM 42 1,iB 43 .eql 41 42]
def aw:Rg:=[iM 44 7,iM 45 8,iM 46 5,iN 47 46,iX 48 1 44 45,iS 1 48 47]
def ay:Rg:=[iM 49 5,iA 50 (.a0F true 1 1 [.aB] [(0,(.const .aB))]),iA 51 (.append 1 24 (Tm 49) (Tm 50)),iM 5 51]
def EM:Rg:=[iC 52 .add 35 1,iM 35 52]
def aj:aC:=(sq ap (.seq (.cond (Tm 36) .skip (.exit 2)) (.seq (.block 3 (sq au (sq av (.cond (Tm 43) (sq aw (.region ay)) .skip)))) (.region EM))))
def ba:Rg:=[iF 53 4 2,iL 54 53,iN 55 54,iI 56 0]
def bb:Rg:=[iB 57 .lss 56 55]
def bc:Rg:=[iM 58 56,iX 59 3 54 56,iO 60 3 59,iA 11 (.alloc [(.str []),zI,zI]),iM 10 58,iS 3 11 60]
def bd:Rg:=[iF 61 2 11,iL 62 61,iM 12 62]
def EN:Rg:=[iF 63 3 2,iL 64 63,iM 65 12,iX 66 7 64 65,iF 67 1 66,iL 68 67,iM 69 1,iB 70 .gtr 68 69]
def be:Rg:=[iF 71 3 2,iL 72 71,iM 73 12,iX 74 7 72 73,iF 75 2 74,iL 76 75,iM 12 76]
def vF:aC:=(.seq (sq EN (.cond (Tm 70) .skip (.exit 6))) (.block 7 (.region be)))
def bf:Rd:=[(iM 77 5,true),(iM 78 7,true),(iM 79 12,true),(iX 80 1 78 79,true),(iL 81 80,true),(iM 82 5,false),(iM 83 7,false),(iM 84 12,false),(iX 85 1 83 84,false),(iL 86 85,false),(iX 87 1 82 86,false),(iL 88 87,false),(iM 89 10,false),(iA 90 (.a0F true 1 1 [zI] [(0,(Tm 89))]),false),(iA 91 (.append 1 8 (Tm 88) (Tm 90)),true),(iX 92 1 77 81,false)]
def bg:Rd:=[(iS 1 92 91,true)]
def bi:Rg:=[iC 93 .add 56 1,iM 56 93]
def al:aC:=(sq bb (.seq (.cond (Tm 57) .skip (.exit 4)) (.seq (.block 5 (sq bc (sq bd (.seq (.block 6 (.loop vF)) (dq bf (.draw bg)))))) (.region bi))))
def bj:Rg:=[iM 94 5,iM 4 94]
def AH:aC:=(sq qe (sq qf (.seq (sq qg (.cond (Tm 14) (.seq (sq qh (.block 0 (.loop qd))) (sq qn .ret)) .skip)) (sq an (.seq (sq ao (.block 2 (.loop aj))) (.seq (sq ba (.block 4 (.loop al))) (sq bj .ret)))))))
def aiG:List Nat:=[2,23,24,50,90]
def B5:aR:=⟨2,95,AH,[.tmp 4]⟩
def YP:Rg:=[iI 4 0]
def YQ:Rg:=[iI 5 1]
def YR:Rg:=[iI 6 0]
def YS:Rg:=[iM 7 6,iM 8 1,iB 9 .lss 7 8]
def YT:Rg:=[iM 12 5,iM 13 0,iM 14 6,iB 15 .sub 13 14,iB 16 .mul 12 15,iM 17 6,iC 18 .add 17 1,iB 19 .quo 16 18,iM 5 19]
def YU:Rg:=[iM 10 6,iC 11 .add 10 1,iM 6 11]
def YO:aC:=(.seq (sq YS (.cond (Tm 9) .skip (.exit 0))) (.seq (.block 1 (.region YT)) (.region YU)))
def YV:Rg:=[iM 20 5,iA 21 (.a0U true (Tm 20) (Ci 0)),iM 4 21]
def xI:aC:=(sq YP (sq YQ (.seq (sq YR (.block 0 (.loop YO))) (sq YV .ret))))
def X3:List Nat:=[]
def kh:aR:=⟨2,22,xI,[.tmp 4]⟩
def Ba:Rg:=[iI 6 0]
def Bb:Rg:=[iI 7 0]
def Bc:Rg:=[iM 14 0,iN 15 14,iI 16 0]
def UB:Rg:=[iB 17 .lss 16 15]
def Bd:Rg:=[iX 18 1 14 16,iL 19 18,iM 9 19]
def Be:Rg:=[iI 10 0,iI 11 0]
def Bf:Rg:=[iM 20 9,iN 21 20,iI 22 0]
def UC:Rg:=[iB 23 .lss 22 21]
def Bg:Rg:=[iX 24 1 20 22,iL 25 24,iM 13 25]
def DZ:Rg:=[iM 26 11,iM 27 1,iN 28 27,iB 29 .lss 26 28,iM 30 29,gM 31 1 30 true,gM 32 11 30 true,iG 33 (.a0Q 1 (Tm 31) (Tm 32)) 30 true,gL 34 33 30 true,gM 35 13 30 true,gB 36 .lss 34 35 30 true,iP 37 30 36]
def og:Rg:=[iM 38 11,iC 39 .add 38 1,iM 11 39]
def uG:aC:=(.seq (sq DZ (.cond (Tm 37) .skip (.exit 4))) (.block 5 (.region og)))
def yS:Rg:=[iM 40 11,iM 41 1,iN 42 41,iB 43 .lss 40 42,iM 44 43,gM 45 1 44 true,gM 46 11 44 true,iG 47 (.a0Q 1 (Tm 45) (Tm 46)) 44 true,gL 48 47 44 true,gM 49 13 44 true,gB 50 .eql 48 49 44 true,iP 51 44 50]
def oi:Rg:=[iM 52 10,iC 53 .add 52 1,iM 10 53]
def yT:Rg:=[iC 54 .add 22 1,iM 22 54]
def yR:aC:=(sq UC (.seq (.cond (Tm 23) .skip (.exit 2)) (.seq (.block 3 (sq Bg (.seq (.block 4 (.loop uG)) (sq yS (.cond (Tm 51) (.region oi) .skip))))) (.region yT))))
def KX:Rg:=[iM 55 10,iM 56 2,iB 57 .gtr 55 56]
def oj:Rg:=[iM 58 7,iC 59 .add 58 1,iM 7 59]
def KY:Rg:=[iC 60 .add 16 1,iM 16 60]
def KW:aC:=(sq UB (.seq (.cond (Tm 17) .skip (.exit 0)) (.seq (.block 1 (sq Bd (sq Be (.seq (sq Bf (.block 2 (.loop yR))) (sq KX (.cond (Tm 57) (.region oj) .skip)))))) (.region KY))))
def oo:Rg:=[iM 61 7,iM 6 61]
def DY:aC:=(sq Ba (sq Bb (.seq (sq Bc (.block 0 (.loop KW))) (sq oo .ret))))
def avU:List Nat:=[]
def X4:aR:=⟨3,62,DY,[.tmp 6]⟩
def ZA:Rg:=[iA 4 (.box true (Tm 0)),iA 7 (.box true (Tm 3)),iI 8 0,iI 9 0]
def ZB:Rg:=[iO 13 7 4,iO 14 2 7,iK2 15 230 13 14,iM 12 15,iE 16 12 0,iE 17 12 1,iM 10 16,iM 11 17]
def EA:Rg:=[iM 19 11,iC 20 .neq 19 0,iM 18 20]
def ZC:Rg:=[iM 21 11,iI 8 0,iM 9 21]
def ZD:Rg:=[iO 23 7 4,iM 24 1,iM 25 2,iA 26 (.call 204 [(Tm 23),(Tm 24),(Tm 25)]),iA 27 (.un .not (Tm 26)),iM 22 27]
def ZE:Rg:=[iI 8 0,iI 9 1]
def ZF:Rg:=[iM 28 10,iM 29 2,iF 30 5 4,iL 31 30,iM 32 1,iX 33 17 31 32,iF 34 2 33,iL 35 34,iA 36 (.call 208 [(Tm 28),(Tm 29),(Tm 35)]),iM 8 36,iI 9 0]
def xJ:aC:=(sq ZA (sq ZB (.seq (.block 0 (sq EA (.cond (Tm 18) (sq ZC .ret) (sq ZD (.cond (Tm 22) (sq ZE .ret) .skip))))) (sq ZF .ret))))
def X7:List Nat:=[4,7]
def ki:aR:=⟨4,37,xJ,[.tmp 8,.tmp 9]⟩
def Bz:Rg:=[iA 2 (.box false (Tm 0)),iA 3 (.box false (Tm 1)),iA 4 (.mv (.const (.lit .nilFunc)))]
def B0:Rg:=[iA 5 (.mkfn 211 [(Tm 2),(Tm 3)]),iM 4 5]
def EL:aC:=(sq Bz (sq B0 .ret))
def awF:List Nat:=[]
def Yf:aR:=⟨2,6,EL,[.tmp 4]⟩
def qp:Rg:=[iL 8 1,iL 9 2,iB 10 .gtr 8 9]
def qq:Rg:=[iL 11 1,iA 12 (.a0H 1 8 [zI] (Tm 11) (Tm 11)),iM 4 12]
def qr:Rg:=[iM 13 4,iN 14 13,iI 15 0]
def qt:Rg:=[iB 16 .lss 15 14]
def qu:Rg:=[iM 17 15,iM 5 17]
def qv:Rg:=[iM 18 4,iM 19 5,iM 20 5,iX 21 1 18 19,iS 1 21 20]
def qw:Rg:=[iC 22 .add 15 1,iM 15 22]
def LN:aC:=(sq qt (.seq (.cond (Tm 16) .skip (.exit 0)) (.seq (.block 1 (sq qu (.region qv))) (.region qw))))
def LO:Rg:=[iM 23 0,iM 24 4,iA 25 (.append 1 8 (.const .aB) (Tm 24)),iA 26 (.a1B (Tm 23) [(Tm 25)])]
def LP:Rg:=[iL 27 1,iC 28 .sub 27 1,iM 6 28]
def rO:Rd:=[(iM 29 6,false),(iC 30 .geq 29 0,false),(iM 31 30,false),(gM 32 4 31 true,false),(gM 33 6 31 true,false),(iG 34 (.a0Q 1 (Tm 32) (Tm 33)) 31 true,false),(gL 35 34 31 true,false),(gL 36 2 31 true,false),(gL 37 1 31 true,false),(gB 38 .sub 36 37 31 true,false),(gM 39 6 31 true,false),(gB 40 .add 38 39 31 true,false),(gB 41 .eql 35 40 31 true,false),(iP 42 31 41,false)]
def EO:Rg:=[iM 43 6,iC 44 .sub 43 1,iM 6 44]
def vG:aC:=(.seq (dq rO (.cond (Tm 42) .skip (.exit 4))) (.block 5 (.region EO)))
def vI:Rg:=[iM 45 6,iC 46 .lss 45 0]
def EP:Rg:=[iM 47 4,iM 48 6,iX 49 1 47 48,iL 50 49,iC 51 .add 50 1,iX 52 1 47 48,iS 1 52 51]
def EQ:Rg:=[iM 53 6,iC 54 .add 53 1,iM 7 54]
def vJ:Rg:=[iM 55 7,iL 56 1,iB 57 .lss 55 56]
def ER:Rg:=[iM 60 4,iM 61 7,iM 62 4,iM 63 7,iC 64 .sub 63 1,iX 65 1 62 64,iL 66 65,iC 67 .add 66 1,iX 68 1 60 61,iS 1 68 67]
def ES:Rg:=[iM 58 7,iC 59 .add 58 1,iM 7 59]
def vH:aC:=(.seq (sq vJ (.cond (Tm 57) .skip (.exit 6))) (.seq (.block 7 (.region ER)) (.region ES)))
def bk:aC:=(.seq (sq LO (.cond (Tm 26) .skip (.exit 2))) (.block 3 (sq LP (.seq (.block 4 (.loop vG)) (.seq (sq vI (.cond (Tm 46) .ret .skip)) (sq EP (sq EQ (.block 6 (.loop vH)))))))))
def AI:aC:=(.seq (sq qp (.cond (Tm 10) .ret .skip)) (sq qq (.seq (sq qr (.block 0 (.loop LN))) (.block 2 (.loop bk)))))
def aiJ:List Nat:=[]
def B6:aR:=⟨1,69,AI,[]⟩
def Ck:Rg:=[iT 4 false]
def Cl:Rg:=[iM 6 0,iN 7 6,iM 8 1,iN 9 8,iB 10 .neq 7 9]
def awT:Rg:=[iT 4 false]
def Cm:Rg:=[iI 5 0]
def Cn:Rg:=[iM 11 5,iM 12 0,iN 13 12,iB 14 .lss 11 13]
def Cp:Rd:=[(iM 17 0,false),(iM 18 5,false),(iX 19 1 17 18,false),(iL 20 19,false),(iM 21 1,false),(iM 22 5,false),(iX 23 1 21 22,false),(iL 24 23,false),(iK2 25 94 20 24,true),(iA 26 (.un .not (Tm 25)),false)]
def awU:Rg:=[iT 4 false]
def Cq:Rg:=[iM 15 5,iC 16 .add 15 1,iM 5 16]
def Cj:aC:=(.seq (sq Cn (.cond (Tm 14) .skip (.exit 0))) (.seq (.block 1 (dq Cp (.cond (Tm 26) (sq awU .ret) .skip))) (.region Cq)))
def Cr:Rg:=[iT 4 true]
def EW:aC:=(sq Ck (.seq (sq Cl (.cond (Tm 10) (sq awT .ret) .skip)) (.seq (sq Cm (.block 0 (.loop Cj))) (sq Cr .ret))))
def awV:List Nat:=[]
def Ym:aR:=⟨2,27,EW,[.tmp 4]⟩
def cW (n:Nat):Nat→Nat→List (List Nat)
 | 0,_=>[[]]
 | k+1,a=>(a3H a (n-k-a)).flatMap fun i=>(cW n k (i+1)).map (i::·)
def mE (n:Nat):List Nat→Option (List Nat)
 | []=>none
 | x::t=>match mE n t with
  | some u=>some (x::u)
  | none=>if x+1+t.length=n then none else some (a3H (x+1) (t.length+1))
theorem ul {n:Nat}:∀ {s u:List Nat},mE n s=some u→u.length=s.length
 | [],_,h=>by cases h
 | x::t,u,h=>by
  rw[mE] at h;split at h
  ·rename_i v c;cases h;simp[ul c]
  ·split at h
   ·cases h
   ·cases h;simp
inductive mT (n:Nat):List Nat→List (List Nat)→Prop
 | last {s:List Nat} (h:mE n s=none):mT n s [s]
 | step {s t:List Nat} {l:List (List Nat)} (h:mE n s=some t) (w:mT n t l):mT n s (s::l)
theorem mT.map {n x k:Nat} {rest:List (List Nat)} (e:(x+1+k=n∧rest=[])∨(x+1+k≠n∧mT n (a3H (x+1) (k+1)) rest)) {t:List Nat} {l:List (List Nat)} (w:mT n t l) (c:t.length=k):mT n (x::t) (l.map (x::·)++rest):=by
 induction w with
 | @last s h =>
  rcases e with ⟨d,rfl⟩ | ⟨d,h2⟩
  ·exact .last (by rw[mE,h]; simp only; rw[if_pos (by rw[c]; exact d)])
  ·exact .step (by rw[mE,h]; simp only; rw[if_neg (by rw[c]; exact d),c]) h2
 | @step s t l h _ i=>exact .step (by rw[mE,h]) (i (by rw[ul h,c]))
theorem PX (n:Nat):∀ (k a:Nat),a+k≤n→mT n (a3H a k) (cW n k a)
 | 0,a,_=>.last rfl
 | k+1,a,h=>by
  rw[cW];obtain⟨m,d⟩:∃ m,n-k-a=m+1:=⟨n-k-a-1,by omega⟩;rw[d];clear h
  induction m generalizing a with
  | zero =>have:=mT.map (n:=n) (x:=a) (k:=k) (rest:=[]) (.inl ⟨by omega,rfl⟩) (PX n k (a+1) Om) List.length_range';rw[List.range'_succ (n:=0),List.flatMap_cons];exact this
  | succ m e =>rw[List.range'_succ (n:=m+1),List.flatMap_cons];have c:=e (a+1) Om;exact mT.map (.inr ⟨by omega,c⟩) (PX n k (a+1) Om) List.length_range'
theorem HI {n:Nat}:∀ {s:List Nat},(∀ i (h:i<s.length),s[i]+s.length=n+i)→mE n s=none
 | [],_=>rfl
 | x::t,h=>by rw[mE,HI (s:=t) fun i hi=>by have:=h (i+1) (by simpa using hi);simp only[List.getElem_cons_succ,a3E] at this;omega];have c:=h 0 (by simp);simp only[List.getElem_cons_zero,a3E] at c;simp only;rw[if_pos Om]
theorem Ij {n:Nat}:∀ {s:List Nat} (i:Nat) (hi:i<s.length),(∀ j (h:j<s.length),i<j→s[j]+s.length=n+j)→s[i]+s.length≠n+i→mE n s=some (s.take i++a3H (s[i]+1) (s.length-i))
 | [],i,hi,_,_=>by cases hi
 | x::t,0,_,h,c=>by rw[mE,HI (s:=t) fun i hi=>by have:=h (i+1) (by simpa using hi) Om;simp only[List.getElem_cons_succ,a3E] at this;omega];simp only[List.getElem_cons_zero,a3E] at c ⊢;rw[if_neg Om];rfl
 | x::t,i+1,hi,h,c=>by
  have d:i<t.length:=by simpa using hi
  simp only[List.getElem_cons_succ,a3E] at c;rw[mE,Ij (s:=t) i d (fun j l e=>by have:=h (j+1) (by simpa using l) Om;simp only[List.getElem_cons_succ,a3E] at this;omega) Om];simp only[List.getElem_cons_succ,a3E,List.take_succ_cons,List.cons_append];rw[show t.length+1-(i+1)=t.length-i by omega]
theorem qR (n:Nat):∀ (k a:Nat),∀ s∈cW n k a,s.length=k∧(∀ x∈s,a≤x∧x<n)∧s.Pairwise (· < ·)
 | 0,a,s,h=>by rw[cW,a3O] at h;subst h;exact⟨rfl,(fun x hx=>by cases hx),.nil⟩
 | k+1,a,s,h=>by
  rw[cW,List.mem_flatMap] at h;obtain⟨i,hi,h⟩:=h;rw[a2G] at h;obtain⟨t,l,rfl⟩:=h;rw[List.mem_range'_1] at hi;obtain⟨d,c,e⟩:=qR n k (i+1) t l;refine⟨by simp[d],fun x hx=>?_,List.pairwise_cons.2 ⟨fun y p=>by have:=(c y p).1; omega,e⟩⟩;rcases a1R.1 hx with rfl | hx
  ·omega
  ·have:=c x hx; omega
theorem yF (n:Nat):∀ (k a:Nat),(cW n k a).length≤2 ^ (n-a)
 | 0,a=>by rw[cW]; exact Nat.one_le_two_pow
 | k+1,a=>by
  rw[cW];have c:∀ (m a:Nat),m+a≤n→((a3H a m).flatMap fun i=>(cW n k (i+1)).map (i::·)).length+2 ^ (n-a-m)≤2 ^ (n-a):=by
   intro m
   induction m with
   | zero=>intro a _; simp
   | succ m d =>
    intro a h;rw[List.range'_succ,List.flatMap_cons,a1P,a1K];have e:=yF n k (a+1);have l:=d (a+1) Om;rw[show n-a-(m+1)=n-(a+1)-m by omega];have p:2 ^ (n-a)=2 ^ (n-(a+1))+2 ^ (n-(a+1)):=by rw[show n-a=(n-(a+1))+1 by omega,a3F]; omega
    omega
  rcases a2D n a with h | h
  ·rw[show n-k-a=0 by omega]; simp
  ·exact a2X (Nat.le_add_right _ _) (c (n-k-a) a Om)
def jV (f:aJ) (p:cB) (set:List Int):Bool:=(a1S f.a0C.length).all fun i=>!(decide (dY f p i>0)&&decide (fI f set i>dY f p i))
def CO (f:aJ) (p:cB) (d:Int):Bool:=p.a0A.contains ((mdl f d.toNat:Nat):Int)
def mI (f:aJ) (p:cB) (set:List Int):Bool:=set.all (CO f p)&&jV f p set
def mV (set:List Int) (top:Int) (i:Nat):Bool:=(decide (0≤set.getD i 0)&&decide (set.getD i 0<top))&&(decide (i=0)||decide (set.getD (i-1) 0<set.getD i 0))
def pM (set:List Int) (n top:Int):Bool:=decide ((set.length:Int)=n)&&(a1S set.length).all (mV set top)
def cI (f:aJ) (a0L:Int):cB:=f.a0D.getD a0L.toNat aFT
def gW (p:cB):Int:=p.k+p.m
def fW (f:aJ) (a0L:Int):Bool:=jP f&&(decide (0≤a0L)&&decide (a0L<f.a0D.length))
def DO (f:aJ) (a0L:Int) (set:List Int):Bool:=fW f a0L&&(pM set (gW (cI f a0L)) f.aZZ.length&&mI f (cI f a0L) set)
def bZ (s:List Nat):List Int:=s.map fun (x:Nat)=>(x:Int)
def eD (f:aJ) (p:cB):List (List Int):=((cW f.aZZ.length (gW p).toNat 0).map bZ).filter (mI f p)
def eX (f:aJ) (level:Int):List (List Int) :=
 if level=5 then (a1S f.aZZ.length).map fun (d:Nat)=>[(d:Int)]
 else ((a1S f.a0C.length).filter fun i=>decide (lvl f i=level)).map fun i=>bZ ((a1S f.aZZ.length).filter fun d=>decide (dA f d level=i))
def eP (m:Int):Nat→Int
 | 0=>1
 | i+1=>Int.tdiv (eP m i*(m-i)) (i+1)
def oX (u:List (List Int)) (s:List Nat) (d:Nat):Bool:=s.any fun i=>(u.getD i []).contains (d:Int)
def mF (f:aJ) (u:List (List Int)) (c:Nat):List (List Int):=(cW u.length c 0).map fun s=>bZ ((a1S f.aZZ.length).filter (oX u s))
def kZ (s set:List Int):Nat:=set.countP fun d=>s.contains d
def fT (sc:List (List Int)) (set:List Int) (m:Int):Nat:=sc.countP fun s=>decide (((kZ s set:Nat):Int)>m)
theorem nt:∀ {s t:List Int},s.Nodup→t.Nodup→kZ s t=kZ t s
 | [],t,_,_=>by simp[kZ]
 | d::s,t,u,w=>by
  obtain⟨B,E⟩:=List.nodup_cons.1 u;have l:=nt E w;unfold kZ at l ⊢;rw[List.countP_cons,← l];clear l u
  induction t with
  | nil=>simp
  | cons x t p =>
   obtain⟨k1,k2⟩:=List.nodup_cons.1 w;have:=p k2;rw[List.countP_cons,List.countP_cons,this];by_cases e:x=d
   ·subst e;have c:(x::s).contains x=true:=by simp
    have i:s.contains x=false:=by simpa using B
    have y:t.contains x=false:=by simpa using k1
    have A:(x::t).contains x=true:=by simp
    simp only[c,i,y,A]
   ·have c:(d::s).contains x=s.contains x:=by simp[e]
    have i:(x::t).contains d=t.contains d:=by have:¬ d=x:=fun h=>e h.symm;simp[this]
    rw[c,i];omega
def eA (set:List Int) (d:Int):Nat:=(set.takeWhile fun x=>decide (x<d)).length
theorem mz (set:List Int) (d:Int):eA set d≤set.length:=(List.takeWhile_prefix _).length_le
theorem IF (set:List Int) (d:Int) {i:Nat} (h:i<eA set d):set[i]'(Nat.lt_of_lt_of_le h (mz set d))<d:=by
 have w:=List.takeWhile_prefix (p:=fun x=>decide (x<d)) (l:=set);have e:(set.takeWhile fun x=>decide (x<d))[i]∈set.takeWhile fun x=>decide (x<d):=a1N h;have u:=List.all_takeWhile (p:=fun x=>decide (x<d)) (l:=set);have c:=a2F.1 u _ e;rw[w.getElem h] at c;exact of_decide_eq_true c
theorem Vd (set:List Int) (d:Int) (h:eA set d<set.length):¬ set[eA set d]<d:=by
 induction set with
 | nil=>simp at h
 | cons x t i =>
  by_cases c:x<d
  ·have e:eA (x::t) d=eA t d+1:=by simp[eA,List.takeWhile_cons,c]
   simp only[e,List.getElem_cons_succ];exact i (by rw[e] at h; simpa using h)
  ·have e:eA (x::t) d=0:=by simp[eA,List.takeWhile_cons,c]
   simp only[e,List.getElem_cons_zero];exact c
theorem azV {set:List Int} (u:set.Pairwise (· < ·)) (d:Int):set.contains d=(decide (eA set d<set.length)&&decide (set.getD (eA set d) 0=d)):=by
 by_cases h:eA set d<set.length
 ·have w:=Vd set d h;rw[decide_eq_true h,a2J,a2L,a1V h,a4G];by_cases e:set[eA set d]=d
  ·rw[decide_eq_true e];simp only[List.contains_iff_mem];exact e ▸ a1N h
  ·rw[decide_eq_false e];simp only[Bool.eq_false_iff,ne_eq,List.contains_iff_mem];intro p;obtain⟨i,hi,l⟩:=a3D p;rcases Nat.lt_trichotomy i (eA set d) with c | c | c
   ·have:=IF set d c; omega
   ·subst c; exact e l
   ·have:=List.pairwise_iff_getElem.1 u _ _ h hi c;omega
 ·rw[decide_eq_false h,a1Y];simp only[Bool.eq_false_iff,ne_eq,List.contains_iff_mem];intro p;obtain⟨i,hi,l⟩:=a3D p;have:=IF set d (i:=i) Om;omega
theorem anH (set:List Int) {d e:Int} (h:d≤e):eA set d≤eA set e:=by
 induction set with
 | nil=>simp[eA]
 | cons x t l =>
  by_cases c:x<d
  ·have i:x<e:=Om;simp only[eA,List.takeWhile_cons,c,i,decide_true,if_true,a3E] at l ⊢;omega
  ·simp[eA,List.takeWhile_cons,c]
theorem ayY (a b:List Nat):bZ (a++b)=bZ a++bZ b:=a2N
theorem fK (a:List Nat):(bZ a).length=a.length:=a1K _
theorem wV {a:List Nat} {i:Nat} (h:i<a.length):(bC (bZ a))[i]?=some [PV.int .i64 (a[i]:Nat)]:=by
 unfold bC bZ;rw[a2K,a2K,a1V h];rfl
theorem WQ (a:List Nat) (i x:Nat):(bC (bZ a)).set i [PV.int .i64 (x:Nat)]=bC (bZ (a.set i x)):=by
 unfold bC bZ;rw[List.map_set,List.map_set]
theorem aoG {top n:Nat} (h:top<n):cW top n 0=[]:=by
 cases n with
 | zero=>omega
 | succ n =>rw[cW,show top-n-0=0 by omega];rfl
theorem mT.head {n:Nat} {s:List Nat} {l:List (List Nat)} (h:mT n s l):∃ r,l=s::r:=by
 cases h with
 | last=>exact⟨_,rfl⟩
 | step=>exact⟨_,rfl⟩
def nT (n i:Nat):List Nat:=a3H 0 i++a1M (n-i) 0
theorem Yr (n:Nat):nT n 0=a1M n 0:=by unfold nT; simp
theorem aiV {n i:Nat} (h:i≤n):(nT n i).length=n:=by unfold nT; simp; omega
theorem Yq (n:Nat):nT n n=a3H 0 n:=by unfold nT; simp
theorem aiW {n i:Nat} (h:i<n):(nT n i).set i i=nT n (i+1):=by
 unfold nT;obtain⟨m,c⟩:∃ m,n-i=m+1:=⟨n-i-1,by omega⟩;rw[c,List.replicate_succ,a4P _ _ (by simp),List.length_range',Nat.sub_self,a4R,show n-(i+1)=m by omega,List.range'_concat];simp
def onU (s:List Nat) (j y m:Nat):List Nat:=s.take j++a3H y (m-j)++s.drop m
theorem U7 {s:List Nat} {j y m:Nat} (c:j≤m) (d:m≤s.length):(onU s j y m).length=s.length:=by
 unfold onU; simp; omega
theorem aJI {s:List Nat} {j y:Nat} (h:j<s.length):s.set j y=onU s j y (j+1):=by
 unfold onU;rw[List.set_eq_take_append_cons_drop,if_pos h,show j+1-j=1 by omega];simp
theorem azG {s:List Nat} {j y m:Nat} (e:j<m) (d:m≤s.length):∃ h,(onU s j y m)[m-1]'h=y+(m-1-j):=by
 refine⟨by rw[U7 Om d]; omega,?_⟩;unfold onU;have c:(s.take j).length=j:=by rw[a2A]; omega
 rw[List.getElem_append_left (by simp; omega),a5D Om];simp[c]
theorem aJJ {s:List Nat} {j y m:Nat} (e:j≤m) (d:m<s.length):(onU s j y m).set m (y+(m-j))=onU s j y (m+1):=by
 unfold onU;have c:(s.take j++a3H y (m-j)).length=m:=by simp; omega
 rw[a4P _ _ Om,c,Nat.sub_self,a3K d,a4R,show m+1-j=(m-j)+1 by omega,List.range'_concat];simp
theorem azF {s:List Nat} {j y:Nat}:onU s j y s.length=s.take j++a3H y (s.length-j):=by
 unfold onU; simp
theorem aGU {C:Ctx} {K:bV} [Up K] {n o1 o2 q:Nat} {y:PV} {F:PF} {H:PH} (E:n≤1000) (x:H q=some (.rows 1 (bC (bZ (nT n 0))))) (u:(((((((PF.nil.set 0 (y)).set 1 (.ptr o1 1 0 0)).set 2 (.ptr o2 1 0 0)).set 4 (.osl q 1 0 n)).set 14 (.int .i64 n)).set 15 (.int .i64 0))).le F)
  (w:K (.exit 0) (((((PF.nil.set 0 (y)).set 1 (.ptr o1 1 0 0)).set 2 (.ptr o2 1 0 0)).set 4 (.osl q 1 0 n))) (H.set q (.rows 1 (bC (bZ (a3H 0 n)))))):aC.wp C (.loop LN) K F H:=by
 refine wp_loop (α:=Nat × PH) (fun s=>((((((PF.nil.set 0 (y)).set 1 (.ptr o1 1 0 0)).set 2 (.ptr o2 1 0 0)).set 4 (.osl q 1 0 n)).set 14 (.int .i64 n)).set 15 (.int .i64 s.1))) (fun s=>s.2) (fun s=>s.1≤n∧s.2=H.set q (.rows 1 (bC (bZ (nT n s.1))))) (fun s=>n-s.1) (0,H) ⟨a1X _,?_⟩ u b_ ?_
 ·refine PH.ext fun o=>?_;show H o=(H.set q _) o;rw[aV];split
  ·rename_i e; rw[e,x]
  ·rfl
 rintro⟨i,A⟩ ⟨hi,p⟩;simp only at hi p;subst p;simp only[go_sem,LN,qt];by_cases hlt:i<n
 ·have c:(i:Int)<(n:Nat):=Om;have B:=aiV hi;have d:=wV (a:=nT n i) (i:=i) Om;have l:i<(bC (bZ (nT n i))).length:=by rw[dR,fK]; omega
  simp only[go_sem,c,qu,qv,d,l,a2H,WQ,aiW hlt,qw,wZz i];exact aK (i+1,_) ⟨hlt,rfl⟩ (by simp only; omega) Lq b_
 ·have c:¬ (i:Int)<(n:Nat):=Om;have:i=n:=Om;subst this;rw[Yq];simp only[go_sem,c];exact Up.up Lq w
def cyF (y:PV) (o1 o2 q n:Nat):PF:=((((PF.nil.set 0 (y)).set 1 (.ptr o1 1 0 0)).set 2 (.ptr o2 1 0 0)).set 4 (.osl q 1 0 n))
theorem aiI {C:Ctx} {K:bV} [Up K] {n top o1 o2 q:Nat} {y:PV} {s:List Nat} (V:s.length=n) (U:n≤1000) (W:top≤1000) (Q:n≤top) {F:PF} {H:PH} (b1:H o1=some (.rows 1 [[.int .i64 n]])) (b2:H o2=some (.rows 1 [[.int .i64 top]])) (E:H q=some (.rows 1 (bC (bZ s))))
  (O:((cyF y o1 o2 q n).set 6 (.int .i64 ((n:Int)-1))).le F)
  (A:∀ m,m≤n→(∀ i (h:i<s.length),m≤i→s[i]+n=top+i)→(0<m→∀ (h:m-1<s.length),s[m-1]+n≠top+(m-1))→K (.exit 4) ((cyF y o1 o2 q n).set 6 (.int .i64 ((m:Int)-1))) H):aC.wp C (.loop vG) K F H:=by
 refine wp_loop (α:=Nat) (fun m=>(cyF y o1 o2 q n).set 6 (.int .i64 ((m:Int)-1))) (fun _=>H) (fun m=>m≤n∧∀ i (h:i<s.length),m≤i→s[i]+n=top+i) (fun m=>m) n ⟨a1O _,fun i h S=>by omega⟩ O b_ ?_;rintro m ⟨B,d⟩;rw[show vG=(.seq (.seq (.draw rO) (.cond (.tmp 42) .skip (.exit 4))) (.block 5 (.region EO))) from rfl];simp only[go_sem];refine bX .nil eH a_ ?_;by_cases N:m=0
 ·subst N;simp only[go_sem,rO,cyF,show ¬ ((0:Nat):Int)-1≥0 by omega];refine Up.up ?_ (A 0 B d (fun h=>by omega));unfold cyF;exact Lq
 ·obtain⟨k,rfl⟩:∃ k,m=k+1:=⟨m-1,by omega⟩;have w:(((k+1:Nat):Int)-1)=(k:Int):=Om;have x:k<s.length:=Om;have p:=wV x;have u:k<(bC (bZ s)).length:=by rw[dR,fK]; omega
  have J:IntKind.i64.wrap ((top:Int)-(n:Int))=(top:Int)-n:=wrap_i64 Om Om;have M:IntKind.i64.wrap ((top:Int)-(n:Int)+(k:Int))=(top:Int)-n+k:=wrap_i64 Om Om;have l:(k:Int)<(n:Nat):=Om;by_cases c:s[k]+n=top+k
  ·simp only[go_sem,rO,cyF,w,show (k:Int)≥0 by omega,E,p,u,l,b1,b2,a2H,J,M,bN (Om:((s[k]:Nat):Int)=(top:Int)-n+k),EO];have R:IntKind.i64.wrap ((k:Int)-1)=(k:Int)-1:=wrap_i64 Om Om;refine aK k ⟨by omega,fun i h hi=>?_⟩ Om (by (repeat' (first|exact d_|refine c_ ?_ ?_))<;>first|(simp only[go_sem,R]<;>rfl)|rfl) b_;by_cases e:i=k
   ·subst e; exact c
   ·exact d i h Om
  ·simp only[go_sem,rO,cyF,w,show (k:Int)≥0 by omega,E,p,u,l,b1,b2,a2H,J,M,bF (Om:((s[k]:Nat):Int)≠(top:Int)-n+k)];refine Up.up ?_ (A (k+1) B d (fun _ h=>c));unfold cyF
   (repeat' (first|exact d_|refine c_ ?_ ?_))<;>first|(simp only[go_sem,w]<;>rfl)|rfl
theorem aGV {C:Ctx} {K:bV} [Up K] {n o1 o2 q j x:Nat} {y:PV} {s:List Nat} (V:s.length=n) (hn:n≤1000) (hx:x≤1000000) (R:j<n) {F:PF} {H:PH} (b1:H o1=some (.rows 1 [[.int .i64 n]])) (J:¬ o1=q) (U:H q=some (.rows 1 (bC (bZ (onU s j x (j+1))))))
  (N:((cyF y o1 o2 q n).set 7 (.int .i64 (j+1:Nat))).le F)
  (O:K (.exit 6) (cyF y o1 o2 q n) (H.set q (.rows 1 (bC (bZ (s.take j++a3H x (n-j))))))):aC.wp C (.loop vH) K F H:=by
 refine wp_loop (α:=Nat × PH) (fun m=>(cyF y o1 o2 q n).set 7 (.int .i64 m.1)) (fun m=>m.2) (fun m=>j+1≤m.1∧m.1≤n∧m.2=H.set q (.rows 1 (bC (bZ (onU s j x m.1))))) (fun m=>n-m.1) (j+1,H) ⟨a1O _,R,?_⟩ N b_ ?_
 ·refine PH.ext fun o=>?_;show H o=(H.set q _) o;rw[aV];split
  ·rename_i e; rw[e,U]
  ·rfl
 rintro⟨m,Y⟩ ⟨A,B,M⟩;simp only at A B M;subst M;have u:¬ q=o1:=fun e=>J e.symm;rw[show vH=(.seq (.seq (.region vJ) (.cond (.tmp 57) .skip (.exit 6))) (.seq (.block 7 (.region ER)) (.region ES))) from rfl];by_cases hlt:m<n
 ·have c:(m:Int)<(n:Nat):=Om;obtain⟨S,Q⟩:=azG (s:=s) (j:=j) (y:=x) (m:=m) Om Om;have d:=wV S;rw[Q] at d;have Z:=U7 (s:=s) (j:=j) (y:=x) (m:=m) Om Om;have w:m-1<(bC (bZ (onU s j x m))).length:=by rw[dR,fK]; omega
  have l:m<(bC (bZ (onU s j x m))).length:=by rw[dR,fK]; omega
  have i:(bC (bZ (onU s j x m)))[m]?=some [PV.int .i64 ((onU s j x m)[m]'Om:Nat)]:=wV Om;have W:IntKind.i64.wrap ((m:Int)-1)=((m-1:Nat):Int):=by rw[wrap_i64 Om Om]; omega
  have X:IntKind.i64.wrap (((x+(m-1-j):Nat):Int)+1)=((x+(m-j):Nat):Int):=by rw[wrap_i64 Om Om]; omega
  have p:((m-1:Nat):Int)<(n:Nat):=Om;have E:=aJJ (s:=s) (j:=j) (y:=x) (m:=m) Om Om;simp only[go_sem,vJ,cyF,b1,J,u,c,ER,W,p,d,w,a2H,X,i,l,WQ,E,ES,wZz m];refine aK (m+1,_) ⟨by simp only; omega,hlt,rfl⟩ (by simp only; omega) Lq b_
 ·have c:¬ (m:Int)<(n:Nat):=Om;have:m=n:=Om;subst this;have e:=azF (s:=s) (j:=j) (y:=x);rw[V] at e;rw[e];simp only[go_sem,vJ,cyF,b1,J,u,c];refine Up.up ?_ O;unfold cyF;exact Lq
theorem mT.done {n:Nat} {s:List Nat} {l:List (List Nat)} (h:mT n s l) (d:mE n s=none):l=[s]:=by
 cases h with
 | last=>rfl
 | step c=>rw[d] at c; cases c
theorem mT.next {n:Nat} {s t:List Nat} {l:List (List Nat)} (h:mT n s l) (d:mE n s=some t):∃ r,l=s::r∧mT n t r:=by
 cases h with
 | last c=>rw[d] at c; cases c
 | step c w=>rw[d] at c; cases c; exact⟨_,rfl,w⟩
structure auW (J:Nat→PH→Prop) (ss:List (List Nat)) (top n o1 o2 q k:Nat) (s:List Nat) (G H:PH):Prop where
 lt:k<ss.length
 walk:mT top s (ss.drop k)
 len:s.length=n
 rng:∀ x∈s,x<top
 j:J k G
 le:G.le H
 g1:G o1=none
 g2:G o2=none
 gq:G q=none
 b1:H o1=some (.rows 1 [[.int .i64 n]])
 b2:H o2=some (.rows 1 [[.int .i64 top]])
 bq:H q=some (.rows 1 (bC (bZ s)))
theorem avS {C:Ctx} {l o1 o2 n top:Nat} (J:Nat→PH→Prop) (d:List (List Nat)) (R:d=cW top n 0) (h1:1≤n) (hn:n≤1000) (ht:top≤1000)
  (hY:∀ k (hk:k<d.length) G c,J k G→G c=none→CN C l [.osl c 1 0 n] (G.set c (.rows 1 (bC (bZ d[k])))) (fun r H'=>r=.bool true∧J (k+1) H'))
  {M H:PH} (W:J 0 M) (p:M.le H) (b1:H o1=some (.rows 1 [[.int .i64 n]])) (b2:H o2=some (.rows 1 [[.int .i64 top]])) (g1:M o1=none) (g2:M o2=none) :
  AI.wp C (aX B6.res (fun _ H'=>∃ G,J d.length G∧G.le H')) (PF.args [uW l,.ptr o1 1 0 0,.ptr o2 1 0 0]) H:=by
 simp only[go_sem,AI,qp,B6,b1,b2];by_cases c:n>top
 ·have:d=[]:=by rw[R]; exact aoG c
  subst this;simp only[go_sem,show (n:Int)>(top:Nat) by omega];exact aZ (vs:=[]) (.inr rfl) M rfl p ⟨M,W,b_⟩
 simp only[go_sem,show ¬ (n:Int)>(top:Nat) by omega,qq,b1,show (0:Int)≤n by omega,Int.le_refl,show (n:Int)*((8:Nat):Int)≤140737488355328 by omega,show (n:Int)≤9223372036854775807 by omega,a3P];refine aQ fun q Q=>?_;obtain⟨a1,υ⟩:¬ o1=q∧¬ q=o1:=⟨(fun e=>by rw[e,Q] at b1; cases b1),fun e=>by rw[← e,Q] at b1; cases b1⟩;obtain⟨a2,φ⟩:¬ o2=q∧¬ q=o2:=⟨(fun e=>by rw[e,Q] at b2; cases b2),fun e=>by rw[← e,Q] at b2; cases b2⟩;have ez:a1M n [PV.int .i64 0]=bC (bZ (nT n 0)):=by rw[Yr];unfold bC bZ;rw[List.map_replicate,List.map_replicate];rfl
 rw[ez];simp only[go_sem,qr];refine aGU (n:=n) (o1:=o1) (o2:=o2) (q:=q) (y:=uW l) hn (by rw[cP]) Lq ?_;rw[PH.set_set];have Z:M q=none:=by
  cases h:M q with
  | none=>rfl
  | some x=>rw[p q x h] at Q; cases Q
 have hw:=PX top n 0 Om;rw[← R] at hw;obtain⟨r0,ε⟩:=hw.head;have N:=qR top n 0;rw[← R] at N;simp only[go_sem];refine wp_loop (α:=Nat × List Nat × PH × PH) (fun _=>cyF (uW l) o1 o2 q n) (fun x=>x.2.2.2) (fun x=>auW J d top n o1 o2 q x.1 x.2.1 x.2.2.1 x.2.2.2) (fun x=>d.length-x.1) (0,a3H 0 n,M,H.set q (.rows 1 (bC (bZ (a3H 0 n))))) ?_ (by unfold cyF; exact Lq) b_ ?_
 ·exact⟨(by simp only; rw[ε]; simp),hw,List.length_range',(fun x hx=>by rw[List.mem_range'_1] at hx; omega),W,PH.le_trans p (PH.MT _ Q),g1,g2,Z,(by simp only; rw[aV,if_neg a1]; exact b1),(by simp only; rw[aV,if_neg a2]; exact b2),(by simp only; rw[cP])⟩
 clear b1 b2 g1 g2 Z Q p W hw ε ez;rintro⟨k,s,G,H⟩ A;have A:auW J d top n o1 o2 q k s G H:=A;obtain⟨hlt,U,w,ζ,W,p,g1,g2,gq,b1,b2,bq⟩:=A;have B:d.drop k=d[k]::d.drop (k+1):=a3K hlt;have σ:d[k]=s:=by obtain⟨r,F⟩:=U.head;rw[B] at F;injection F
 have S:dZ H 1 (.osl q 1 0 n)=some (bC (bZ s)):=by
  have:=(show bP H 1 (.osl q 1 0 (bC (bZ s)).length) (bC (bZ s)) from .inr ⟨q,_,rfl,bq,a1O _,a2O⟩).view
  rwa [dR,fK,w] at this
 rw[show bk=(.seq (.seq (.region LO) (.cond (.tmp 26) .skip (.exit 2))) (.block 3 (.seq (.region LP) (.seq (.block 4 (.loop vG)) (.seq (.seq (.region vI) (.cond (.tmp 46) .ret .skip)) (.seq (.region EP) (.seq (.region EQ) (.block 6 (.loop vH))))))))) from rfl];simp only[go_sem,LO,cyF];refine sP S (by unfold roomFor; rw[dR,fK]; simp only[maxLen]; omega) (fun h=>?_) fun _ c hc=>?_
 ·have:=congrArg List.length h;rw[dR,fK,w] at this;simp at this;omega
 rw[dR,fK,w];have θ:G c=none:=by
  cases h:G c with
  | none=>rfl
  | some x=>rw[p c x h] at hc; cases hc
 have hy:=hY k hlt G c W θ;rw[σ] at hy;have ne:∀ {b:Nat} {x:bY},H b=some x→¬ b=c:=fun V e=>by rw[e,hc] at V; cases V
 refine⟨l,rfl,.inl ⟨_,G.set c (.rows 1 (bC (bZ s))),_,Ev,?_,hy,?_⟩⟩
 ·intro o x K;rw[aV] at K ⊢;split at K
  ·rename_i e; rw[if_pos e]; exact K
  ·rename_i e; rw[if_neg e]; exact p o x K
 rintro _ H' ⟨rfl,X⟩ ι;have keep:∀ {b:Nat} {x:bY},H b=some x→G b=none→H' b=none∧((H.set c (.rows 1 (bC (bZ s)))).over (G.set c (.rows 1 (bC (bZ s)))) H') b=some x:=fun {b} {x} V hg=>by
  have e:=ne V;have h':H' b=none:=by
   cases h:H' b with
   | none=>rfl
   | some y =>have:=ι b y h (by rw[aV,if_neg e]; exact hg);rw[aV,if_neg e,V] at this;cases this
  refine⟨h',?_⟩;rw[gS,h'];simp only[aV,if_neg e,hg,V]
 obtain⟨k1,d1⟩:=keep b1 g1;obtain⟨k2,d2⟩:=keep b2 g2;obtain⟨kq,dq⟩:=keep bq gq;have O:H'.le ((H.set c (.rows 1 (bC (bZ s)))).over (G.set c (.rows 1 (bC (bZ s)))) H'):=fun o x K=>by rw[gS,K]
 generalize (H.set c (.rows 1 (bC (bZ s)))).over (G.set c (.rows 1 (bC (bZ s)))) H'=H2 at *
 have w1:IntKind.i64.wrap ((n:Int)-1)=(n:Int)-1:=wrap_i64 Om Om;simp only[go_sem,LP,d1,w1];refine aiI (n:=n) (top:=top) (o1:=o1) (o2:=o2) (q:=q) (y:=uW l) (s:=s) w hn ht Om d1 d2 dq (by unfold cyF; exact Lq) fun m hm E β=>?_;by_cases m0:m=0
 ·subst m0;have ο:mE top s=none:=HI fun i hi=>by have:=E i hi (a1X _); omega
  have Y:k+1=d.length:=by have:=congrArg List.length (U.done ο);rw[a3M,a1T] at this;omega
  simp only[go_sem,cyF,vI,show ((0:Nat):Int)-1<0 by omega];exact aZ (vs:=[]) (.inr rfl) H' rfl O ⟨H',by rw[← Y]; exact X,b_⟩
 ·obtain⟨j,rfl⟩:∃ j,m=j+1:=⟨m-1,by omega⟩;have u:j<s.length:=Om;have ξ:(j:Int)<(n:Nat):=Om;have e0:(((j+1:Nat):Int)-1)=(j:Int):=Om;have γ:=Ij (n:=top) (s:=s) j u (fun i hi ν=>by have:=E i hi ν; omega) (by have:=β (Nat.succ_pos _) u; simp only[Nat.add_sub_cancel] at this; omega);rw[w] at γ;have χ:=ζ s[j] (a1N u);have κ:=wV u;have μ:j<(bC (bZ s)).length:=by rw[dR,fK]; exact u
  have w2:IntKind.i64.wrap (((s[j]:Nat):Int)+1)=((s[j]+1:Nat):Int):=dC Om;have δ:=aJI (s:=s) (j:=j) (y:=s[j]+1) u;simp only[go_sem,cyF,vI,e0,show ¬ (j:Int)<0 by omega,EP,dq,κ,μ,ξ,a2H,w2,WQ,δ,EQ,wZz j];refine aGV (n:=n) (o1:=o1) (o2:=o2) (q:=q) (j:=j) (x:=s[j]+1) (y:=uW l) (s:=s) w hn Om Om (by rw[aV,if_neg a1]; exact d1) a1 (by rw[cP]) (by unfold cyF; exact Lq) ?_;rw[PH.set_set];have a0V:k+1<d.length∧mT top (s.take j++a3H (s[j]+1) (n-j)) (d.drop (k+1)):=by
   obtain⟨r,F,η⟩:=U.next γ;rw[B] at F;injection F with _ F
   rw[F];refine⟨?_,η⟩;obtain⟨r2,ρ⟩:=η.head;have:=congrArg List.length F;rw[ρ,a3M,a3E] at this;omega
  have τ:auW J d top n o1 o2 q (k+1) (s.take j++a3H (s[j]+1) (n-j)) H' (H2.set q (.rows 1 (bC (bZ (s.take j++a3H (s[j]+1) (n-j)))))):={
      lt:=a0V.1
      walk:=a0V.2
      len:=by simp; omega
      rng:=fun x hx=>by
       have h2:=N (d[k+1]'a0V.1) (a1N _);have h3:d[k+1]'a0V.1=s.take j++a3H (s[j]+1) (n-j):=by obtain⟨r,F⟩:=a0V.2.head;rw[a3K a0V.1] at F;injection F
       rw[h3] at h2;exact (h2.2.1 x hx).2
      j:=X
      le:=fun o x K=>by
       have:¬ o=q:=fun e=>by rw[e,kq] at K; cases K
       rw[aV,if_neg this];exact O o x K
      g1:=k1,g2:=k2,gq:=kq
      b1:=by rw[aV,if_neg a1]; exact d1
      b2:=by rw[aV,if_neg a2]; exact d2
      bq:=by rw[cP] }
  simp only[go_sem,cyF];exact aK (k+1,s.take j++a3H (s[j]+1) (n-j),H',H2.set q (.rows 1 (bC (bZ (s.take j++a3H (s[j]+1) (n-j)))))) τ (by simp only; omega) Lq b_
def pO (f:aJ) (p:cB) (xs:List Int) (i:Nat):Bool:=!(decide (dY f p i>0)&&decide (fI f xs i>dY f p i))
theorem sL (f:aJ) (p:cB) (xs:List Int):jV f p xs=(a1S f.a0C.length).all (pO f p xs):=rfl
theorem aiL (f:aJ) (xs ys:List Int) (i:Nat):fI f xs i≤fI f (xs++ys) i:=by
 unfold fI;rw[List.countP_append];split<;>omega
theorem alT {f:aJ} {p:cB} {xs ys:List Int} {i:Nat} (h:pO f p xs i=false):pO f p (xs++ys) i=false:=by
 have:=aiL f xs ys i;unfold pO at h ⊢;simp only[Bool.not_eq_false',a1Z,decide_eq_true_eq] at h ⊢;omega
theorem ip {f:aJ} {p:cB} {xs:List Int} {i:Nat} (hi:i<f.a0C.length) (h:pO f p xs i=false):jV f p xs=false:=by
 rw[sL];simp only[List.all_eq_false,a3B];exact⟨i,hi,by rw[h]; simp⟩
theorem Jz {f:aJ} {p:cB} {xs ys:List Int} (h:jV f p xs=false):jV f p (xs++ys)=false:=by
 rw[sL] at h;simp only[List.all_eq_false,a3B] at h;obtain⟨i,hi,h⟩:=h;exact ip hi (alT (by simpa using h))
theorem On (f:aJ) (p:cB):jV f p []=true:=by
 rw[sL];simp only[a2F,a3B];intro i _;unfold pO fI;simp;omega
theorem abY {f:aJ} (hV:VF f) {p:cB} {xs:List Int} (h:∀ i,i<f.a0C.length→0<lvl f i→pO f p xs i=true):jV f p xs=true:=by
 rw[sL];simp only[a2F,a3B];intro i hi;have c:=hV.lS hi;by_cases e:i=0
 ·unfold pO fI;rw[if_pos e];simp;omega
 ·exact h i hi Om
theorem aJH {f:aJ} {p:cB} {xs:List Int} (h:jV f p xs=true) {i:Nat} (hi:i<f.a0C.length):pO f p xs i=true:=by
 rw[sL] at h;exact a2F.1 h i (a3B.2 hi)
theorem anZ (p:cB) (t:List PV) {n:Nat} (h:n<5):(if 1≤(List.drop n (PV.int .i64 p.s0::PV.int .i64 p.s1::PV.int .i64 p.s2::PV.int .i64 p.s3::PV.int .i64 p.s4::t)).length then some (List.take 1 (List.drop n (PV.int .i64 p.s0::PV.int .i64 p.s1::PV.int .i64 p.s2::PV.int .i64 p.s3::PV.int .i64 p.s4::t))) else none)=some [PV.int .i64 (p.spread n)]:=by
 have:n=0∨n=1∨n=2∨n=3∨n=4:=Om;rcases this with rfl | rfl | rfl | rfl | rfl<;>simp[cB.spread]
def DT (f:aJ) (p:cB) (c oD:Nat) (set:List Int) (k:Nat):PF:=(((((((PF.nil.set 3 (.cT f.cells)).set 4 (.cT p.cells)).set 7 (.osl c 1 0 f.a0A.length)).set 10 (.osl oD 1 0 f.a0C.length)).set 34 (ints set)).set 35 (.int .i64 (set.length:Nat))).set 36 (.int .i64 k))
def Xy (f:aJ) (p:cB) (c oD:Nat) (set:List Int) (k:Nat) (at_:Nat):PF:=((((((((PF.nil.set 3 (.cT f.cells)).set 4 (.cT p.cells)).set 7 (.osl c 1 0 f.a0A.length)).set 10 (.osl oD 1 0 f.a0C.length)).set 34 (ints set)).set 35 (.int .i64 (set.length:Nat))).set 36 (.int .i64 k)).set 13 (.int .i64 at_))
theorem aGQ {C:Ctx} {K:bV} [Up K] (f:aJ) (hV:VF f) (p:cB) (oA oD:Nat) (set:List Int) (k:Nat) (xs:List Int) (η:xs.length≤16777216) (γ:jV f p xs=true) (d:Nat) (hd:d<f.aZZ.length) {F:PF} {H:PH}
  (hF:(Xy f p oA oD set k (dD f d)).le F) (hD:H oD=some (.rows 1 (bC (lM f xs))))
  (hR:∀ F' H',F' 6=some (.bool false)→jV f p (xs++[(d:Int)])=false→K .ret F' H')
  (hK:jV f p (xs++[(d:Int)])=true→K (.exit 4) (DT f p oA oD set k) (H.set oD (.rows 1 (bC (lM f (xs++[(d:Int)])))))) :
  aC.wp C (.loop TX) K F H:=by
 refine wp_loop (α:=Nat × PH) (fun t=>Xy f p oA oD set k (upN f t.1 (dD f d))) (fun t=>t.2) (fun t=>t.1≤4∧t.2=H.set oD (.rows 1 (bC (mA f xs d t.1)))∧∀ i,i<f.a0C.length→4-(t.1:Int)<lvl f i→pO f p (xs++[(d:Int)]) i=true) (fun t=>4-t.1) (0,H) ⟨a1X _,?_,?_⟩ (by rw[upN]; exact hF) b_ ?_
 ·rw[aiN hV];refine PH.ext fun o=>?_;show H o=(H.set oD _) o;rw[aV];split
  ·rename_i e; rw[e,hD]
  ·rfl
 ·intro i hi hl;have:=(hV.lS hi).2.1;simp only at hl;omega
 rintro⟨j,H0⟩ ⟨hj,hH,w⟩;simp only at hj hH w;subst hH;obtain⟨x,V⟩:=PJ hV hd (k:=j) hj;simp only[go_sem,TX,A0,Xy];by_cases hlt:j<4
 ·have β:0<upN f j (dD f d):=by
   rcases a4D (upN f j (dD f d)) with e | e
   ·rw[e,hV.root.2.1] at V; omega
   ·exact e
  have W:((upN f j (dD f d):Nat):Int)>0:=Om;obtain⟨b1,b2⟩:=aHA hV xs hd hlt;have N:(bC (mA f xs d j))[upN f j (dD f d)]?=some [.int .i64 (fI f xs (upN f j (dD f d)))]:=by unfold bC; rw[a2K,b1]; rfl
  have ε:=aGZ f xs (upN f j (dD f d));have hw:IntKind.i64.wrap (fI f xs (upN f j (dD f d))+1)=fI f xs (upN f j (dD f d))+1:=wrap_i64 Om Om;have y:((upN f j (dD f d):Nat):Int)<(f.a0C.length:Nat):=Om;have Y:upN f j (dD f d)<(bC (mA f xs d j)).length:=by rw[dR,awK]; exact x
  have R:fI f (xs++[(d:Int)]) (upN f j (dD f d))=fI f xs (upN f j (dD f d))+1:=by rw[yV f xs d Om,dA,V,show 4-(4-(j:Int)).toNat=j by omega,if_pos rfl]
  have l:pO f p (xs++[(d:Int)]) (upN f j (dD f d))=!(decide (dY f p (upN f j (dD f d))>0)&&decide (fI f xs (upN f j (dD f d))+1>dY f p (upN f j (dD f d)))):=by rw[pO,R]
  have a0V:pO f p (xs++[(d:Int)]) (upN f j (dD f d))=true→∀ i,i<f.a0C.length→4-((j+1:Nat):Int)<lvl f i→pO f p (xs++[(d:Int)]) i=true:=by
   intro h i hi hl;by_cases e:i=upN f j (dD f d)
   ·rw[e]; exact h
   ·by_cases c:4-(j:Int)<lvl f i
    ·exact w i hi c
    ·have Q:lvl f i=4-(j:Int):=Om;have X:i≠0:=by intro e; subst e; rw[hV.root.2.1] at Q; omega
     have J:fI f (xs++[(d:Int)]) i=fI f xs i:=by rw[yV f xs d X,dA,Q,show 4-(4-(j:Int)).toNat=j by omega,if_neg (fun h=>e h.symm)]; simp
     have:=aJH γ hi;unfold pO at this ⊢;rw[J]; exact this
  have O:pO f p (xs++[(d:Int)]) (upN f j (dD f d))=false→jV f p (xs++[(d:Int)])=false:=ip x;have Z:dY f p (upN f j (dD f d))=p.spread (4-(j:Int)).toNat:=by rw[dY,V]
  rw[Z] at l;have δ:=N;have E:(bC (mA f xs d j)).set (upN f j (dD f d)) [.int .i64 (fI f xs (upN f j (dD f d))+1)]=bC (mA f xs d (j+1)):=by rw[so,b2]
  have A:(bC (mA f xs d (j+1)))[upN f j (dD f d)]?=some [.int .i64 (fI f xs (upN f j (dD f d))+1)]:=by rw[← E,List.getElem?_set_self Y]
  have S:upN f (j+1) (dD f d)=HZ f (upN f j (dD f d)):=rfl;have B:=hV.U8 β x;generalize ζ:upN f j (dD f d)=u at *
  generalize fI f xs u=dc at *
  have l0:(0:Int)≤4-(j:Int):=Om;have h5:4-(j:Int)<((5:Nat):Int):=Om;simp only[go_sem,W,A1,y,a2H,N,hw,E,A2,oW x,da x,V,l0,h5,Nat.mul_one];rw[anZ p _ (Om:(4-(j:Int)).toNat<5)];by_cases M:p.spread (4-(j:Int)).toNat>0
  ·by_cases U:dc+1>p.spread (4-(j:Int)).toNat
   ·simp only[go_sem,DW,M,U,y,A,a2H,A3];exact hR _ _ Sq (O (by rw[l,decide_eq_true M,decide_eq_true U]; rfl))
   ·simp only[go_sem,DW,M,U,y,A,a2H,UA,oW x,Jd x,B];exact aK (j+1,_) ⟨hlt,rfl,a0V (by rw[l,decide_eq_false U,a2W]; rfl)⟩ (by simp only; omega) (by (repeat' (first|exact d_|refine c_ ?_ ?_))<;>first|(simp only[go_sem,S]<;>rfl)|rfl) b_
  ·simp only[go_sem,DW,M,UA,y,a2H,oW x,Jd x,B];exact aK (j+1,_) ⟨hlt,rfl,a0V (by rw[l,decide_eq_false M]; rfl)⟩ (by simp only; omega) (by (repeat' (first|exact d_|refine c_ ?_ ?_))<;>first|(simp only[go_sem,S]<;>rfl)|rfl) b_
 ·have:j=4:=Om;subst this;have h0:upN f 4 (dD f d)=0:=by have:=hV.lS x;omega
  have W:¬ ((upN f 4 (dD f d):Nat):Int)>0:=Om;simp only[go_sem,W];rw[aiM hV];refine Up.up ?_ (hK (abY hV fun i hi h=>w i hi (by simpa using h)));unfold DT;exact Lq
theorem avB {f:aJ} {p:cB} {set:List Int} {d:Int} (c:d∈set) (h:CO f p d=false):mI f p set=false:=by
 unfold mI;have:set.all (CO f p)=false:=by simp only[List.all_eq_false];exact⟨d,c,by rw[h]; simp⟩
 rw[this]; rfl
theorem avA {f:aJ} {p:cB} {set:List Int} {k:Nat} (h:jV f p (set.take k)=false):mI f p set=false:=by
 have:=Jz (ys:=set.drop k) h;rw[a4H] at this;unfold mI;rw[this,a2W]
def Xj (f:aJ) (set:List Int):Prop:=set.length≤16777216∧∀ x∈set,0≤x∧x<(f.aZZ.length:Nat)
theorem ahS {C:Ctx} {K:bV} [Up K] (f:aJ) (hV:VF f) (p:cB) (N oD:Nat) (hn:N≠oD) (set:List Int) (hs:Xj f set) {F:PF} {H:PH}
  (Z:(DT f p N oD set 0).le F) (M:H N=some (.rows 1 (dJ (marks f.a0A.length p.a0A)))) (hD:H oD=some (.rows 1 (bC (lM f []))))
  (V:∀ O H',O 6=some (.bool false)→mI f p set=false→K .ret O H')
  (hK:∀ O H',mI f p set=true→K (.exit 2) O H') :
  aC.wp C (.loop xH) K F H:=by
 obtain⟨β,U⟩:=hs;refine wp_loop (α:=Nat × PH) (fun t=>DT f p N oD set t.1) (fun t=>t.2) (fun t=>t.1≤set.length∧t.2 N=some (.rows 1 (dJ (marks f.a0A.length p.a0A)))∧t.2 oD=some (.rows 1 (bC (lM f (set.take t.1))))∧(set.take t.1).all (CO f p)=true∧jV f p (set.take t.1)=true) (fun t=>set.length-t.1) (0,H) ⟨a1X _,M,hD,rfl,On f p⟩ Z b_ ?_;rintro⟨k,X⟩ ⟨hk,M,hD,e,A⟩;simp only at hk M hD e A;by_cases hlt:k<set.length
 ·have i:(k:Int)<(set.length:Nat):=Om;have S:(set.map fun n=>[PV.int .i64 n])[k]?=some [.int .i64 set[k]]:=by simp[hlt]
  have B:set.take (k+1)=set.take k++[set[k]]:=a3I hlt;have hx:=U set[k] (a1N hlt);have hm:=a1N hlt;generalize γ:set[k]=x at *
  obtain⟨d,rfl⟩:∃ d:Nat,x=d:=⟨x.toNat,by omega⟩;have c:d<f.aZZ.length:=Om;have E:(d:Int)<(f.aZZ.length:Nat):=Om;obtain⟨w1,w2,w3,w4,w5⟩:=hV.drive d c;have J:((mdl f d:Nat):Int)<(f.a0A.length:Nat):=Om;have w:(dJ (marks f.a0A.length p.a0A))[mdl f d]?=some [.bool (p.a0A.contains ((mdl f d:Nat):Int))]:=by have:=xT (n:=f.a0A.length) (l:=p.a0A) (m:=((mdl f d:Nat):Int)) Om J;rw[a3P] at this;unfold dJ;rw[a2K,this]; rfl
  have u:CO f p (d:Int)=p.a0A.contains ((mdl f d:Nat):Int):=by rw[CO,a3P]
  cases W:p.a0A.contains ((mdl f d:Nat):Int) with
  | false =>rw[W] at w u;simp only[go_sem,xH,DU,DT,i,TY,S,TZ,LS c,E,hV.akP c,J,a2H,M,w,a2I,Ay];exact V _ _ Sq (avB hm u)
  | true =>
   rw[W] at w u;simp only[go_sem,xH,DU,DT,i,TY,S,TZ,LS c,E,hV.akP c,J,a2H,M,w,a1W,Az,hV.Sy c];have up:=fun {K:bV} [Up K] {F:PF} {H:PH}=>aGQ (C:=C) (K:=K) f hV p N oD set k (set.take k) (by rw[a2A]; omega) A d c (F:=F) (H:=H);refine up (by unfold Xy; exact Lq) hD ?_ ?_
   ·intro O H' Y Q;simp only[go_sem];exact V _ _ Y (avA (k:=k+1) (by rw[B]; exact Q))
   ·intro R;simp only[go_sem,DT,A4,wZz k];refine aK (k+1,X.set oD (.rows 1 (bC (lM f (set.take k++[(d:Int)]))))) ⟨hlt,?_,?_,?_,by rw[B]; exact R⟩ (by simp only; omega) Lq b_
    ·simp only[aV,if_neg hn]; exact M
    ·simp only[cP,B]
    ·rw[B];intro y hy;rcases a3A.1 hy with h | h
     ·exact a2F.1 e y h
     ·rw[a3O.1 h]; exact u
 ·have i:¬ (k:Int)<(set.length:Nat):=Om;have:k=set.length:=Om;subst this;rw[a2O] at e A;simp only[go_sem,xH,DU,DT,i];exact hK _ _ (by rw[mI,e,A]; rfl)

def aTQ (down:List Int) (d:Int):Bool:=decide (0≤d)&&down.contains d
def aTR (down:List Int) (d:Int):Bool:=decide (0≤d)&&!down.contains d
def aXC (down row:List Int):Bool:=row.any (aTQ down)
def aJK (down row:List Int):Nat:=row.countP (aTR down)
def aQK (f:aJ) (c:Int) (down:List Int) (v:Nat) (row:List Int):Bool:=aXC down row&&decide (((aJK down row:Nat):Int)<(IB f v).k+c)
def aTS (f:aJ) (d:List (List Int)) (c:Int) (down:List Int) (n:Nat):Bool:=(a1S n).all fun v=>!aQK f c down v (d.getD v [])
def y7 (f:aJ) (d:List (List Int)) (c:Int) (down:List Int):Bool:=aTS f d c down d.length


theorem gP {t:Nat} {b c:Bool} {F:PF} {H:PH} (h:F t=some (.bool b)) (e:b=c):aX [.tmp t] (aH (.bool c)) .ret F H:=by
 subst e;exact aZ (.inr rfl) .nil (vs:=[.bool b]) (by rw[jZ,mM,h,nK]) a_ ⟨rfl,rfl⟩
theorem aGO {C:Ctx} (f:aJ) (hV:VF f) (p:cB) (S:∀ m∈p.a0A,0≤m∧m<f.a0A.length) (i:Fits p.a0A) (set:List Int) (U:Xj f set) :
  KQ.wp C (aX avM.res (aH (.bool (mI f p set)))) (PF.args [.agg f.cells,.agg p.cells,ints set]) .nil:=by
 have d:=hV.small;have u:(f.a0A.length:Int)*((1:Nat):Int)≤140737488355328:=by have:=d.a0A; omega
 have w:(f.a0A.length:Int)≤9223372036854775807:=by have:=d.a0A; omega
 have x:(0:Int)≤(f.a0A.length:Int):=Om;have B:(f.a0C.length:Int)*((8:Nat):Int)≤140737488355328:=by have:=d.a0C; omega
 have E:(f.a0C.length:Int)≤9223372036854775807:=by have:=d.a0C; omega
 have F:(0:Int)≤(f.a0C.length:Int):=Om;simp only[go_sem,KQ,Py,Pz,avM,a1K,u,w,x,Int.le_refl,a3P];refine aQ fun l V=>?_;rw[KO];simp only[go_sem,P0,a1K];refine wp_loop (α:=Nat) (fun k=>(((((((PF.nil.set 2 (ints set)).set 3 (.cT f.cells)).set 4 (.cT p.cells)).set 7 (.osl l 1 0 f.a0A.length)).set 20 (ints p.a0A)).set 21 (.int .i64 (p.a0A.length:Nat))).set 22 (.int .i64 k))) (fun k=>PH.nil.set l (.rows 1 (dJ (marks f.a0A.length (p.a0A.take k))))) (fun k=>k≤p.a0A.length) (fun k=>p.a0A.length-k) 0 (a1X _) Lq (by rw[List.take_zero]; exact b_) ?_;intro k W;simp only[go_sem,Px,P1];by_cases hlt:k<p.a0A.length
 ·have c:(k:Int)<(p.a0A.length:Nat):=Om;have H:(p.a0A.map fun n=>[PV.int .i64 n])[k]?=some [.int .i64 p.a0A[k]]:=by simp[hlt]
  obtain⟨K,M⟩:=S _ (a1N hlt);have y:(p.a0A[k]).toNat<(dJ (marks f.a0A.length (p.a0A.take k))).length:=by rw[yQ,MV]; omega
  have A:(dJ (marks f.a0A.length (p.a0A.take k)))[(p.a0A[k]).toNat]?=some [.bool ((p.a0A.take k).contains p.a0A[k])]:=by unfold dJ;rw[a2K,xT K M]; rfl
  have N:p.a0A.length≤9223372036854775807:=by have:=i; omega
  simp only[go_sem,c,P2,H,P3,K,M,a2H,A,y,qU,MW K M,P4,wZz k];refine aK (k+1) hlt Om Lq ?_;rw[a3I hlt];exact b_
 ·have c:¬ (k:Int)<(p.a0A.length:Nat):=Om;have:k=p.a0A.length:=Om;subst this;rw[a2O];simp only[go_sem,c,P5,a1K,B,E,F,Int.le_refl,a3P];refine aQ fun oD hD=>?_;have O:l≠oD:=by rintro rfl; simp only[cP] at hD; cases hD
  rw[atU];simp only[go_sem,P6,a1K];refine ahS (C:=C) f hV p l oD O set U (by unfold DT; (repeat' (first|exact d_|refine c_ ?_ ?_))<;>first|(simp only[go_sem,a1K]<;>rfl)|rfl) (by simp only[aV,if_neg O,if_true]) (by rw[cP]) ?_ ?_
  ·intro Q H' R e;simp only[go_sem];exact gP R e.symm
  ·intro Q H' J;simp only[go_sem,A5];exact gP Sq J.symm
theorem ahP (set:List Int) (top:Int) {k:Nat}:(a1S (k+1)).all (mV set top)=((a1S k).all (mV set top)&&mV set top k):=by
 rw[List.range_succ,List.all_append]; simp
theorem aGS {C:Ctx} (set:List Int) (Q:set.length≤1000000000000000) (n top:Int) :
  KU.wp C (aX avP.res (aH (.bool (pM set n top)))) (PF.args [ints set,.int .i64 n,.int .i64 top]) .nil:=by
 have B:pM set n top=(decide ((set.length:Int)=n)&&(a1S set.length).all (mV set top)):=rfl;simp only[go_sem,KU,P8,P9,avP,a1K];refine wp_loop (α:=Nat) (fun k=>((((((PF.nil.set 0 (ints set)).set 1 (.int .i64 n)).set 2 (.int .i64 top)).set 9 (ints set)).set 10 (.int .i64 (set.length:Nat))).set 11 (.int .i64 k))) (fun _=>.nil) (fun k=>k≤set.length∧(a1S k).all (mV set top)=true) (fun k=>set.length-k) 0 ⟨a1X _,rfl⟩ Lq a_ ?_;rintro k ⟨O,d⟩;have i:k<set.length→mV set top k=false→pM set n top=false:=by
  intro h M;rw[B];have:(a1S set.length).all (mV set top)=false:=by simp only[List.all_eq_false,a3B];exact⟨k,h,by rw[M]; simp⟩
  rw[this,a2W]
 by_cases hlt:k<set.length
 ·have c:(k:Int)<(set.length:Nat):=Om;have E:(set.map fun n=>[PV.int .i64 n])[k]?=some [.int .i64 set[k]]:=by simp[hlt]
  have N:set.getD k 0=set[k]:=by simp[a2L,hlt]
  have l:mV set top k=((decide (0≤set[k])&&decide (set[k]<top))&&(decide (k=0)||decide (set.getD (k-1) 0<set[k]))):=by rw[mV,N]
  have a0V:mV set top k=true→(a1S (k+1)).all (mV set top)=true:=fun h=>by rw[ahP,d,h]; rfl
  generalize set[k]=x at *
  simp only[go_sem,kd,kf,c,Qa,E];by_cases p:x<0
  ·simp only[go_sem,wO,p,QB];exact gP Sq (i hlt (by rw[l,decide_eq_false (Om:¬ 0≤x)]; rfl)).symm
  by_cases A:x≥top
  ·simp only[go_sem,wO,p,A,QB];exact gP Sq (i hlt (by rw[l,decide_eq_false (Om:¬ x<top),a2W]; rfl)).symm
  rw[decide_eq_true (Om:0≤x),decide_eq_true (Om:x<top),a4B,a2J] at l;by_cases H:k=0
  ·subst H;simp only[go_sem,wO,p,A,show ¬ ((0:Nat):Int)>0 by omega,kg,wZz 0];exact aK 1 ⟨hlt,a2F.1 (a0V (by rw[l]; rfl))⟩ Om Lq a_
  obtain⟨j,rfl⟩:∃ j,k=j+1:=⟨k-1,by omega⟩;have K:IntKind.i64.wrap (((j+1:Nat):Int)-1)=(j:Int):=by rw[wrap_i64 Om Om]; omega
  have u:j<set.length:=Om;have e:(j:Int)<(set.length:Nat):=Om;have w:(set.map fun n=>[PV.int .i64 n])[j]?=some [.int .i64 set[j]]:=by simp[u]
  have F:set.getD (j+1-1) 0=set[j]:=by simp[a2L,u]
  rw[F,decide_eq_false H,Bool.false_or] at l;generalize set[j]=y at *
  by_cases J:y≥x
  ·simp only[go_sem,wO,p,A,show ((j+1:Nat):Int)>0 by omega,K,w,e,J,QB];exact gP Sq (i hlt (by rw[l,decide_eq_false (Om:¬ y<x)])).symm
  ·simp only[go_sem,wO,p,A,show ((j+1:Nat):Int)>0 by omega,K,w,e,J,kg,dC (Om:j+1<9223372036854775807)];exact aK (j+1+1) ⟨hlt,a2F.1 (a0V (by rw[l,decide_eq_true (Om:y<x)]))⟩ Om Lq a_
 ·have c:¬ (k:Int)<(set.length:Nat):=Om;have:k=set.length:=Om;subst this;rw[d,a4B] at B;simp only[go_sem,kd,kf,c,Qb,a1K];exact gP (b:=decide ((set.length:Int)=n)) (by simp only[go_sem]; rfl) B.symm
theorem mZ {f:aJ} {a0L:Int} (h:fW f a0L=true):VF f∧0≤a0L∧a0L.toNat<f.a0D.length∧a0L=(a0L.toNat:Nat):=by
 unfold fW at h;simp only[a1Z,decide_eq_true_eq] at h;exact⟨VF.of h.1,h.2.1,by omega,by omega⟩
theorem mP {f:aJ} {a0L:Int} (h:fW f a0L=true):cI f a0L∈f.a0D∧f.a0D[a0L.toNat]?=some (cI f a0L):=by
 obtain⟨_,_,c,_⟩:=mZ h;have e:cI f a0L=f.a0D[a0L.toNat]:=by simp[cI,a2L,c]
 rw[e];exact⟨a1N c,a1V c⟩
theorem ahY {C:Ctx} (val:∀ f:aJ,f.Ok→aF C 96 [.agg f.cells] .nil (aH (.int .i64 (vD f)))) (f:aJ) (l:f.Ok) (a0L:Int) :
  AE.wp C (aX A9.res (aH (.bool (fW f a0L)))) (PF.args [.agg f.cells,.int .i64 a0L]) .nil:=by
 have i:=val f l;unfold vD at i;simp only[go_sem,AE,oc,oe,A9];refine aA i Ev ?_;have d:fW f a0L=(jP f&&(decide (0≤a0L)&&decide (a0L<f.a0D.length))):=rfl;cases e:jP f with
 | false =>rw[e,a1Y] at d;simp only[go_sem,bF (show (1:Int)≠0 by decide)];exact gP Sq d.symm
 | true =>
  rw[e,a2J] at d;by_cases c:a0L≥0
  ·rw[decide_eq_true (Om:0≤a0L),a2J] at d;simp only[go_sem,bN (show (0:Int)=0 from rfl),c,a1K];exact gP (b:=decide (a0L<f.a0D.length)) Sq d.symm
  ·rw[decide_eq_false (Om:¬ 0≤a0L),a1Y] at d;simp only[go_sem,bN (show (0:Int)=0 from rfl),c,a1K];exact gP Sq d.symm
structure Xi (C:Ctx):Prop where
 adm:∀ (f:aJ) (p:cB) (set:List Int),VF f→(∀ m∈p.a0A,0≤m∧m<f.a0A.length)→Fits p.a0A→Xj f set→aF C 201 [.agg f.cells,.agg p.cells,ints set] .nil (aH (.bool (mI f p set)))
 asc:∀ (set:List Int) (n top:Int),set.length≤1000000000000000→aF C 202 [ints set,.int .i64 n,.int .i64 top] .nil (aH (.bool (pM set n top)))
 known:∀ (f:aJ) (a0L:Int),f.Ok→aF C 203 [.agg f.cells,.int .i64 a0L] .nil (aH (.bool (fW f a0L)))
theorem avD {set:List Int} {n top:Int} (h:pM set n top=true):(set.length:Int)=n:=by
 unfold pM at h;simp only[a1Z,decide_eq_true_eq] at h;exact h.1
theorem aGK {set:List Int} {n top:Int} (h:pM set n top=true):∀ x∈set,0≤x∧x<top:=by
 unfold pM at h;simp only[a1Z,decide_eq_true_eq,a2F,a3B] at h;intro x d;obtain⟨i,hi,rfl⟩:=a3D d;have:=h.2 i hi;unfold mV at this;simp only[a1Z,decide_eq_true_eq] at this;have c:set.getD i 0=set[i]:=by simp[a2L,hi]
 rw[c] at this;exact this.1
theorem ahT {C:Ctx} (x:Xi C) (f:aJ) (B:f.Ok) (a0L:Int) (set:List Int) (H:set.length≤1000000000000000) :
  AC.wp C (aX A6.res (aH (.bool (DO f a0L set)))) (PF.args [.agg f.cells,.int .i64 a0L,ints set]) .nil:=by
 have c:DO f a0L set=(fW f a0L&&(pM set (gW (cI f a0L)) f.aZZ.length&&mI f (cI f a0L) set)):=rfl;simp only[go_sem,AC,nu,nv,A6];refine aA (x.known f a0L B) Ev ?_;cases w:fW f a0L with
 | false =>rw[w,a1Y] at c;simp only[go_sem,nw];exact gP Sq c.symm
 | true =>
  rw[w,a2J] at c;obtain⟨hV,E,M,K⟩:=mZ w;obtain⟨i,y⟩:=mP w;have l:=hV.a0L _ i;have e:=(B.a0L _ i).a0A;have d:(f.a0D.map cB.cells)[a0L.toNat]?=some (cI f a0L).cells:=by rw[a2K,y]; rfl
  generalize cI f a0L=p at *
  have hlt:a0L<(f.a0D.length:Nat):=Om;have J:IntKind.i64.wrap (p.k+p.m)=p.k+p.m:=wrap_i64 Om Om;simp only[go_sem,a1W,ny,E,hlt,a1K,d];refine aQ fun q N=>?_;simp only[go_sem,nz,a1K,J];refine aA (x.asc set (p.k+p.m) f.aZZ.length H) Ev ?_;have A:gW p=p.k+p.m:=rfl;rw[A] at c;cases u:pM set (p.k+p.m) f.aZZ.length with
  | false =>rw[u,a1Y] at c;simp only[go_sem];exact gP Sq c.symm
  | true =>rw[u,a2J] at c;have F:=avD u;simp only[go_sem];refine aA (x.adm f p set hV l.2.2.2.2.2.2.2 e ⟨by omega,aGK u⟩) Ev ?_;simp only[go_sem];exact gP Sq c.symm
theorem DX {m:Nat} (d:m≤1000):∀ i,i≤1000→(eP m i).natAbs≤1000 ^ i
 | 0,_=>a1O _
 | i+1,h=>by have e:=DX d i Om;have c:((m:Int)-(i:Int)).natAbs≤1000:=Om;rw[eP,Int.natAbs_tdiv,Int.natAbs_mul,a3F];exact a2X (a4I _ _) (a4S e c)
theorem YX {m:Nat} (c:m≤1000) {i:Nat} (hi:i≤3):-1000000000≤eP m i∧eP m i≤1000000000:=by
 have h:=DX c i Om;have:1000 ^ i≤1000 ^ 3:=a4Y Om hi;have e:(1000:Nat) ^ 3=1000000000:=by decide
 omega
theorem X2 {C:Ctx} (m n:Nat) (l:m≤1000) (M:n≤3) :
  xI.wp C (aX kh.res (aH (.int .i64 (max (eP m n) 0)))) (PF.args [.int .i64 m,.int .i64 n]) .nil:=by
 simp only[go_sem,xI,YP,YQ,YR,kh];refine wp_loop (α:=Nat) (fun k=>((((PF.nil.set 0 (.int .i64 m)).set 1 (.int .i64 n)).set 5 (.int .i64 (eP m k))).set 6 (.int .i64 k))) (fun _=>.nil) (fun k=>k≤n) (fun k=>n-k) 0 (a1X _) (by (repeat' (first|exact d_|refine c_ ?_ ?_))<;>first|(simp only[go_sem,eP]<;>rfl)|rfl) a_ ?_;intro k K;simp only[go_sem,YO,YS];by_cases hlt:k<n
 ·have c:(k:Int)<(n:Nat):=Om;obtain⟨b1,b2⟩:=YX l (i:=k) Om;have B:=DX l k Om;have A:((m:Int)-(k:Int)).natAbs≤1000:=Om;have d:=a4S (a2X B (a4Y Om (Om:k≤2))) A;rw[← Int.natAbs_mul] at d;have e:(1000:Nat) ^ 2*1000=1000000000:=by decide
  have E:IntKind.i64.wrap ((m:Int)-(k:Int))=(m:Int)-k:=wrap_i64 Om Om;have F:IntKind.i64.wrap (eP m k*((m:Int)-(k:Int)))=eP m k*((m:Int)-k):=wrap_i64 Om Om;have H:IntKind.i64.wrap ((k:Int)+1)=(k:Int)+1:=wrap_i64 Om Om;have u:¬ ((k:Int)+1)=0:=Om;obtain⟨x,y⟩:=YX l (i:=k+1) Om;have w:eP m (k+1)=Int.tdiv (eP m k*((m:Int)-k)) ((k:Int)+1):=by rw[eP]
  rw[w] at x y;have J:IntKind.i64.wrap (Int.tdiv (eP m k*((m:Int)-k)) ((k:Int)+1))=Int.tdiv (eP m k*((m:Int)-k)) ((k:Int)+1):=wrap_i64 Om Om;simp only[go_sem,c,YT,E,F,H,u,J];simp only[go_sem,YU,wZz k];exact aK (k+1) hlt Om (by (repeat' (first|exact d_|refine c_ ?_ ?_))<;>first|(simp only[go_sem,w]<;>rfl)|rfl) a_
 ·have c:¬ (k:Int)<(n:Nat):=Om;have:k=n:=Om;subst this;simp only[go_sem,c,YV];have p:(if eP m k<0 then 0 else eP m k)=max (eP m k) 0:=by split<;>omega
  rw[p];refine bE (.inr rfl) Ev ?_;rfl
def GB (k:Nat) (b:Bool):Nat:=if b then k+1 else k
theorem RN {α:Type} (q:α→Bool) (l:List α) {i:Nat} (h:i<l.length):(l.take (i+1)).countP q=GB ((l.take i).countP q) (q l[i]):=by
 rw[a3I h,List.countP_append];unfold GB;cases c:q l[i]<;>simp[c]
def zH (sc:List (List Int)) (set:List Int) (m:Int) (n i:Nat):PF:=((((((PF.nil.set 1 (ints set)).set 2 (.int .i64 m)).set 7 (.int .i64 n)).set 14 (lay sc)).set 15 (.int .i64 (sc.length:Nat))).set 16 (.int .i64 i))
def lP (sc:List (List Int)) (set:List Int) (m:Int) (n i:Nat) (b:Nat) (s:List Int) (j:Nat):PF:=((((((((((PF.nil.set 1 (ints set)).set 2 (.int .i64 m)).set 7 (.int .i64 n)).set 14 (lay sc)).set 15 (.int .i64 (sc.length:Nat))).set 16 (.int .i64 i)).set 10 (.int .i64 b)).set 20 (ints s)).set 21 (.int .i64 (s.length:Nat))).set 22 (.int .i64 j))
theorem X5 {C:Ctx} {K:bV} [Up K] (sc:List (List Int)) (set:List Int) (B:set.length≤1000000000000000) (m:Int) (n i b:Nat) (s:List Int) (j:Nat) (d:Int) (k:Nat) (x:k≤eA set d) {F:PF} {H:PH}
  (y:(((lP sc set m n i b s j).set 13 (.int .i64 d)).set 11 (.int .i64 k)).le F)
  (w:K (.exit 4) (((lP sc set m n i b s j).set 13 (.int .i64 d)).set 11 (.int .i64 (eA set d:Nat))) H) :
  aC.wp C (.loop uG) K F H:=by
 refine wp_loop (α:=Nat) (fun k=>((lP sc set m n i b s j).set 13 (.int .i64 d)).set 11 (.int .i64 k)) (fun _=>H) (fun k=>k≤eA set d) (fun k=>eA set d-k) k x y b_ ?_;intro k x;have A:=mz set d;by_cases hlt:k<set.length
 ·have l:(k:Int)<(set.length:Nat):=Om;have p:(set.map fun n=>[PV.int .i64 n])[k]?=some [.int .i64 set[k]]:=by simp[hlt]
  by_cases c:k<eA set d
  ·have u:set[k]<d:=IF set d c;simp only[go_sem,uG,DZ,lP,a1K,l,p,u,og,wZz k];exact aK (k+1) c Om Lq b_
  ·have e:k=eA set d:=Om;subst e;have u:¬ set[eA set d]<d:=Vd set d hlt;simp only[go_sem,uG,DZ,lP,a1K,l,p,u];refine Up.up ?_ w;unfold lP;exact Lq
 ·have l:¬ (k:Int)<(set.length:Nat):=Om;have e:k=eA set d:=Om;subst e;simp only[go_sem,uG,DZ,lP,a1K,l];refine Up.up ?_ w;unfold lP;exact Lq
theorem aiA {C:Ctx} {K:bV} [Up K] (sc:List (List Int)) (set:List Int) (U:set.length≤1000000000000000) (W:set.Pairwise (· < ·)) (m:Int) (n i:Nat) (s:List Int) (X:s.length≤1000000000000000) (E:s.Pairwise (· < ·)) {F:PF} {H:PH}
  (M:((lP sc set m n i 0 s 0).set 11 (.int .i64 0)).le F)
  (N:K (.exit 2) ((zH sc set m n i).set 10 (.int .i64 (kZ set s:Nat))) H) :
  aC.wp C (.loop yR) K F H:=by
 refine wp_loop (α:=Nat × Nat) (fun t=>(lP sc set m n i ((s.take t.1).countP fun d=>set.contains d) s t.1).set 11 (.int .i64 t.2)) (fun _=>H) (fun t=>t.1≤s.length∧∀ d∈s.drop t.1,t.2≤eA set d) (fun t=>s.length-t.1) (0,0) ⟨a1X _,fun d _=>a1X _⟩ (by simpa using M) b_ ?_;rintro⟨j,k⟩ ⟨S,J⟩;simp only at S J;by_cases hlt:j<s.length
 ·have u:(j:Int)<(s.length:Nat):=Om;have A:(s.map fun n=>[PV.int .i64 n])[j]?=some [.int .i64 s[j]]:=by simp[hlt]
  have l:=RN (fun d=>set.contains d) s hlt;have p:s.drop j=s[j]::s.drop (j+1):=a3K hlt;have B:k≤eA set s[j]:=J _ (by rw[p]; exact List.mem_cons_self ..);have a0V:∀ d∈s.drop (j+1),eA set s[j]≤eA set d:=by intro d Q;have:=E.sublist (List.drop_sublist j s);rw[p,List.pairwise_cons] at this;exact anH set (Int.le_of_lt (this.1 d Q))
  have e:=azV W s[j];have O:(s.take j).countP (fun d=>set.contains d)≤j:=a2X List.countP_le_length (by rw[a2A]; omega);generalize (s.take j).countP (fun d=>set.contains d)=b at *
  generalize s[j]=d at *
  simp only[go_sem,yR,UC,lP,u,Bg,A];have Y:=fun {K:bV} [Up K] {F:PF}=>X5 (C:=C) (K:=K) sc set U m n i b s j d k B (F:=F) (H:=H);refine Y (by unfold lP; exact Lq) ?_;have V:=mz set d;by_cases c:eA set d<set.length
  ·have x:((eA set d:Nat):Int)<(set.length:Nat):=Om;have w:(set.map fun n=>[PV.int .i64 n])[eA set d]?=some [.int .i64 set[eA set d]]:=by simp[c]
   have R:set.getD (eA set d) 0=set[eA set d]:=by simp[a2L,c]
   rw[decide_eq_true c,a2J,R] at e;by_cases y:set[eA set d]=d
   ·rw[decide_eq_true y] at e;rw[e] at l;simp only[go_sem,lP,yS,a1K,x,w,bN y,oi,wZz b,yT,wZz j];exact aK (j+1,eA set d) ⟨hlt,a0V⟩ (by simp only; omega) (by (repeat' (first|exact d_|refine c_ ?_ ?_))<;>first|(simp only[go_sem,l,GB]<;>rfl)|rfl) b_
   ·rw[decide_eq_false y] at e;rw[e] at l;simp only[go_sem,lP,yS,a1K,x,w,bF y,yT,wZz j];exact aK (j+1,eA set d) ⟨hlt,a0V⟩ (by simp only; omega) (by (repeat' (first|exact d_|refine c_ ?_ ?_))<;>first|(simp only[go_sem,l,GB]<;>rfl)|rfl) b_
  ·have x:¬ ((eA set d:Nat):Int)<(set.length:Nat):=Om;rw[decide_eq_false c,a1Y] at e;rw[e] at l;simp only[go_sem,lP,yS,a1K,x,yT,wZz j];exact aK (j+1,eA set d) ⟨hlt,a0V⟩ (by simp only; omega) (by (repeat' (first|exact d_|refine c_ ?_ ?_))<;>first|(simp only[go_sem,l,GB]<;>rfl)|rfl) b_
 ·have u:¬ (j:Int)<(s.length:Nat):=Om;have:j=s.length:=Om;subst this;simp only[go_sem,yR,UC,lP,u,a2O];refine Up.up ?_ N;unfold zH kZ;exact Lq
theorem avT {C:Ctx} (sc:List (List Int)) (A:sc.length≤1000000000000000) (u:∀ s∈sc,s.length≤1000000000000000∧s.Pairwise (· < ·)) (set:List Int) (y:set.length≤1000000000000000) (w:set.Pairwise (· < ·)) (m:Int) :
  DY.wp C (aX X4.res (aH (.int .i64 (fT sc set m:Nat)))) (PF.args [lay sc,ints set,.int .i64 m]) .nil:=by
 simp only[go_sem,DY,Ba,Bb,Bc,X4,a1K];refine wp_loop (α:=Nat) (fun i=>zH sc set m ((sc.take i).countP fun s=>decide (((kZ s set:Nat):Int)>m)) i) (fun _=>.nil) (fun i=>i≤sc.length) (fun i=>sc.length-i) 0 (a1X _) (by unfold zH; exact Lq) a_ ?_;intro i hi;by_cases hlt:i<sc.length
 ·have e:(i:Int)<(sc.length:Nat):=Om;have p:(sc.map fun r=>[ints r])[i]?=some [ints sc[i]]:=by simp[hlt]
  have d:=RN (fun s=>decide (((kZ s set:Nat):Int)>m)) sc hlt;obtain⟨k1,k2⟩:=u sc[i] (a1N hlt);have x:(sc.take i).countP (fun s=>decide (((kZ s set:Nat):Int)>m))≤i:=a2X List.countP_le_length (by rw[a2A]; omega);generalize (sc.take i).countP (fun s=>decide (((kZ s set:Nat):Int)>m))=n at *
  generalize sc[i]=s at *
  have l:kZ set s=kZ s set:=nt (w.imp (fun h=>by omega)) (k2.imp (fun h=>by omega));simp only[go_sem,KW,UB,zH,e,Bd,p,Be,Bf,a1K];have one:=fun {K:bV} [Up K] {F:PF} {H:PH}=>aiA (C:=C) (K:=K) sc set y w m n i s k1 k2 (F:=F) (H:=H);refine one (by unfold lP; exact Lq) ?_;rw[l];by_cases c:((kZ s set:Nat):Int)>m
  ·rw[decide_eq_true c] at d;simp only[go_sem,zH,KX,c,oj,wZz n,KY,wZz i];exact aK (i+1) hlt Om (by (repeat' (first|exact d_|refine c_ ?_ ?_))<;>first|(simp only[go_sem,d,GB]<;>rfl)|rfl) a_
  ·rw[decide_eq_false c] at d;simp only[go_sem,zH,KX,c,KY,wZz i];exact aK (i+1) hlt Om (by (repeat' (first|exact d_|refine c_ ?_ ?_))<;>first|(simp only[go_sem,d,GB]<;>rfl)|rfl) a_
 ·have e:¬ (i:Int)<(sc.length:Nat):=Om;have:i=sc.length:=Om;subst this;rw[a2O];simp only[go_sem,KW,UB,zH,e,oo];refine bE (.inr rfl) Ev ?_;rfl
def Kept (f:aJ) (p:cB) (xs:List Int):Prop:=∀ i,i<f.a0C.length→dY f p i>0→fI f xs i≤dY f p i
theorem Kept.nil (f:aJ) (p:cB):Kept f p []:=fun i _ h=>by
 have:fI f [] i=0:=by unfold fI; split<;>simp
 omega
def xA (f:aJ) (p:cB) (xs:List Int) (d:Nat) (k:Nat):Prop:=∀ i,i<f.a0C.length→4-(k:Int)<lvl f i→dY f p i>0→fI f (xs++[(d:Int)]) i≤dY f p i
theorem xA.zero {f:aJ} (hV:VF f) {p:cB} (xs:List Int) (d:Nat):xA f p xs d 0:=fun i hi h _=>by
 have:=hV.lS hi;omega
theorem xA.done {f:aJ} (hV:VF f) {p:cB} (l:dY f p 0≤0) {xs:List Int} {d:Nat} (h:xA f p xs d 4):Kept f p (xs++[(d:Int)]):=fun i hi c=>by
 have:=hV.lS hi;by_cases e:i=0
 ·subst e; omega
 ·exact h i hi Om c
theorem xA.next {f:aJ} (hV:VF f) {p:cB} {xs:List Int} {d k:Nat} (y:d<f.aZZ.length) (A:k<4) (w:Kept f p xs) (h:xA f p xs d k) (x:dY f p (upN f k (dD f d))>0→fI f (xs++[(d:Int)]) (upN f k (dD f d))≤dY f p (upN f k (dD f d))):xA f p xs d (k+1):=fun i hi B u=>by
 by_cases e:4-(k:Int)<lvl f i
 ·exact h i hi e u
 have l:lvl f i=4-(k:Int):=Om;by_cases c:i=upN f k (dD f d)
 ·subst c; exact x u
 have:fI f (xs++[(d:Int)]) i=fI f xs i:=by
  unfold fI;split
  ·rfl
  ·rw[List.countP_append,List.countP_cons,List.countP_nil];have:QN f i (d:Int)=false:=by unfold QN dA;rw[l,show (4-(4-(k:Int)).toNat)=k by omega,a3P];simp[show ¬ upN f k (dD f d)=i from fun h=>c h.symm]
   rw[this];simp
 rw[this];exact w i hi u
theorem aiX {q:Nat→Bool} {n:Nat}:∀ {i:Nat},i<n→q i=true→((a1S n).filter q)[(a1S i).countP q]?=some i:=by
 intro i hi c;have e:a1S n=a1S i++(i::a3H (i+1) (n-i-1)):=by rw[List.range_eq_range',List.range_eq_range',show i::a3H (i+1) (n-i-1)=a3H i (n-i-1+1) from rfl];have:=List.range'_append (s:=0) (m:=i) (n:=n-i-1+1) (step:=1);rw[Nat.one_mul,a2H] at this;rw[this];congr 1;omega
 rw[e,List.filter_append,List.filter_cons_of_pos c,List.countP_eq_length_filter,a4E (a1O _),Nat.sub_self];rfl
def InR (l:List Int) (n:Nat):Prop:=∀ x∈l,0≤x∧x<(n:Int)
def PY (f:aJ) (c:List (List Int)) (r:Int) (l:List Int):Bool:=!l.isEmpty&&y7 f c r l
def azL (f:aJ) (e:List (List Int)) (r:Int) (c:List (List Int)) (d:Nat):List (List Int):=match c.findIdx? (fun l=>y7 f e r (l++[(d:Int)])) with
 | some i=>c.set i (c.getD i []++[(d:Int)])
 | none=>c++[[(d:Int)]]
def j5 (f:aJ) (c:List (List Int)) (r:Int):Nat→List (List Int)
 | 0=>[]
 | d+1=>azL f c r (j5 f c r d) d
def ahO (f:aJ) (c:List (List Int)) (r:Int):Bool:=(a1S f.aZZ.length).all fun d=>y7 f c r [(d:Int)]
theorem set_perm:∀ (c:List (List Int)) (i:Nat) (x:Int),i<c.length→((c.set i (c.getD i []++[x])).flatten).Perm (c.flatten++[x])
 | [],i,x,h=>by cases h
 | l::c,0,x,_=>by simp only[a4R,List.getD_cons_zero,List.flatten_cons,a2T];exact List.Perm.append_left _ List.perm_append_comm
 | l::c,i+1,x,h=>by have:=set_perm c i x (by simpa using h);simp only[List.set_cons_succ,List.getD_cons_succ,List.flatten_cons,a2T];exact List.Perm.append_left _ this
structure Ap (f:aJ) (now:List (List Int)) (r:Int) (n:Nat) (w:List (List Int)):Prop where
 ok:∀ l∈w,PY f now r l=true
 len:w.flatten.length=n
 nd:w.flatten.Nodup
 rng:InR w.flatten n
theorem Ap.put {f:aJ} {c:List (List Int)} {r:Int} {n:Nat} {w:List (List Int)} (h:Ap f c r n w) (y:y7 f c r [(n:Int)]=true):Ap f c r (n+1) (azL f c r w n):=by
 have p:∀ u:List (List Int),u.flatten.Perm (w.flatten++[(n:Int)])→(∀ l∈u,PY f c r l=true)→Ap f c r (n+1) u:=fun u e A=>by
  refine⟨A,by rw[e.length_eq,a1P,h.len]; rfl,e.nodup_iff.2 ?_,fun x B=>?_⟩
  ·rw[a4C];refine⟨h.nd,by simp,fun a y b E=>?_⟩;rw[a3O] at E;subst E;have:=h.rng a y;omega
  ·have:=e.mem_iff.1 B;rw[a3A,a3O] at this;rcases this with B | rfl
   ·have:=h.rng x B; omega
   ·omega
 unfold azL;split
 ·rename_i i hi;obtain⟨hlt,e,-⟩:=List.findIdx?_eq_some_iff_getElem.1 hi;refine p _ (set_perm w i n hlt) fun l d=>?_;rcases List.mem_or_eq_of_mem_set d with d | rfl
  ·exact h.ok l d
  ·unfold PY;rw[a2L,a1V hlt,a4G,e];simp
 ·refine p _ (by rw[List.flatten_append]; simp) fun l d=>?_;rw[a3A,a3O] at d;rcases d with d | rfl
  ·exact h.ok l d
  ·unfold PY;rw[y]; rfl
theorem yd {f:aJ} {c:List (List Int)} {r:Int} (e:ahO f c r=true):∀ d,d≤f.aZZ.length→Ap f c r d (j5 f c r d)
 | 0,_=>⟨(fun l h=>by cases h),rfl,.nil,fun x h=>by cases h⟩
 | d+1,i=>(yd e d Om).put (a2F.1 e d (a3B.2 Om))
end Go.PM
namespace Go.RO
open Go
def ins (x:Int):List Int→List Int
 | []=>[x]
 | y::ys=>if y<x then y::ins x ys else if y=x then y::ys else x::y::ys
end Go.RO
namespace Go.PM
open Go Go.Na






def aFS (c:UInt8) (n:Nat):List UInt8:=[c,UInt8.ofNat (97+n/26%26),UInt8.ofNat (97+n%26)]
def Cd (ds:List cN) (level parent a0T:Nat):List cN:=ds++[⟨aFS 110 ds.length,(level:Nat),(parent:Nat),(a0T:Nat),jJ⟩]
theorem ayK (a b:Nat) (e:a<4294967296) (i:b<4294967296):(mkT (a:Int) (b:Int)).Ok:=by
 rw[S1];have c:=a4I a (a1L a b);have d:=a4I b (a1L a b);have k1:nl (a/a1L a b)≤1:=(iJ _ _).2 Om;have k2:nl (b/a1L a b)≤1:=(iJ _ _).2 Om;refine⟨aU _,aU _,?_,?_⟩
 ·show (aE _).length≤_;rw[aW]; omega
 ·show (aE _).length≤_;rw[aW]; omega
theorem Fu {n:Nat} (h:n≤1000000):cL (n:Int):=by unfold cL; omega
def Aj (ds:List cN):Prop:=∀ x∈ds,x.a0O.Ok∧cL x.level∧cL x.parent
theorem Aj.dom {ds:List cN} (h:Aj ds) {level parent a0T:Nat} (d:level≤1000) (e:parent≤1000):Aj (Cd ds level parent a0T):=fun x c=>by
 unfold Cd at c;rw[a3A,a3O] at c;rcases c with c | rfl
 ·exact h x c
 ·exact⟨ayK 0 1 (by decide) (by decide),Fu Om,Fu Om⟩
structure FM (f:aJ):Prop where
 ok:f.Ok
 km:∀ p∈f.a0D,1≤p.k∧p.k≤2∧0≤p.m∧p.m≤2
 aZZ:f.aZZ.length≤9
 pols:1≤f.a0D.length∧f.a0D.length≤2
 vols:∀ x∈f.a0B,0≤x.a0L∧x.a0L<f.a0D.length
theorem FM.pol {f:aJ} (h:FM f) {v:Nat} (d:v<f.a0B.length):BM f v<f.a0D.length∧IB f v∈f.a0D:=by
 have e:=h.vols _ (a1N d);have i:BM f v=(f.a0B[v]).a0L.toNat:=by rw[BM,getD_at d]
 have c:BM f v<f.a0D.length:=Om;refine⟨c,?_⟩;unfold IB;rw[a2L,a1V c,a4G];exact a1N c
abbrev aUG (l:List Int) (a:Nat):bY:=.rows 2 [[ints l,.int .i64 (a:Nat)]]
section
variable {C:Ctx} {F:PF} {H Hs:PH} {l:List Int} {o a:Nat}
end
structure ME where
 o:Nat
 o4:Nat
 o5:Nat
 vols:Nat
abbrev ME.boxes (E:ME) (l:List Int) (ext c d e i wp wv:PV) (a:Nat):List BX:=[(E.o5,flB ext c d e i wp wv),(E.o,aUG l a),(E.o4,flZ)]





def aWJ (ds:List cN) (i:Nat) (d:cN):Prop:=∃ c p u:Nat,d.name=aFS 110 (i+1)∧d.level=c∧1≤c∧c≤4∧d.parent=p∧p≤i∧(lvs ds)[p]?=some ((c:Int)-1)∧d.a0T=u∧1≤u∧u≤64∧d.a0O=jJ
structure DV (ds:List cN):Prop where
 root:ds[0]?=some jU
 dom:∀ i (hi:i+1<ds.length),aWJ ds i ds[i+1]
theorem DV.new {ds:List cN} (h:DV ds) {level parent up:Nat} (x:1≤level) (y:level≤4) (d:(lvs ds)[parent]?=some ((level:Int)-1)) (B:1≤up) (E:up≤64) :
  DV (Cd ds level parent up)∧(lvs (Cd ds level parent up))[ds.length]?=some (level:Int):=by
 have A:parent<ds.length:=by
  have:=(a2P.1 d).1
  rwa [a1K] at this
 unfold Cd;refine⟨⟨by rw[a3Y Om]; exact h.root,fun i hi=>?_⟩,?_⟩
 ·simp only[a1P,a1T] at hi;by_cases hlt:i+1<ds.length
  ·rw[List.getElem_append_left hlt];obtain⟨c,p,v,g1,g2,g3,g4,e,l,u,w⟩:=h.dom i hlt;exact⟨c,p,v,g1,g2,g3,g4,e,l,wU u,w⟩
  ·have:i+1=ds.length:=Om;rw[a5D Om];simp only[List.getElem_singleton];exact⟨level,parent,up,by rw[this],rfl,x,y,rfl,by omega,wU d,rfl,B,E,rfl⟩
 ·unfold lvs;rw[a2N,a4E (by rw[a1K]; exact a1O _),a1K,Nat.sub_self];rfl




theorem aP.store {H:PH} {B:List BX} {L:List LI} (h:aP H B L) (i:Nat) {q s n:Nat} {rows:List (List PV)} (hi:L[i]?=some (.osl q s 0 n,s,rows)) (k:Nat) (c:List PV) :
  ∃ rs,H q=some (.rows s rs)∧n≤rs.length∧rs.take n=rows∧aP (H.set q (.rows s (rs.set k c))) B (L.set i (.osl q s 0 n,s,rows.set k c)):=by
 obtain⟨rs,u,w,e,l⟩:=(h.own i hi).id rfl;injection w with _ _ _ x
 subst x;refine⟨rs,u,e,l,h.iu i hi (.inr ⟨q,rs.set k c,by rw[a3U],by rw[cP],by rw[a3U,a3U]; exact e,by rw[a3U,List.take_set,l]⟩) (fun p d=>.inl d) fun p _ d=>?_⟩;have:p≠q:=d q rfl;rw[aV,if_neg this]
def aKY:Rg:=[iA 4 (.box false (Tm 1)),iA 6 (.alloc [zI,zI]),iI 7 0]
def aKZ:Rg:=[iF 10 1 4,iL 11 10,iC 12 .lss 11 0,iM 13 12,gF 14 1 4 13 false,gL 15 14 13 false,gM 16 0 13 false,gB 17 .geq 15 16 13 false,iQ 18 13 17]
def aLA:Rg:=[iA 19 (.build [zI,zI] []),iS 2 6 19,iI 7 110]
def aLB:Rd:=[(iA 21 (.a1F (true,[.int .i64,.int .i64])),true),(iA 22 (.build [zI,zI] [(0,1,(Ci 1)),(1,1,(Ci 1))]),true),(⟨none,.insert (true,[.int .i64,.int .i64]) (Tm 21) (Tm 22) (Ci 2),none⟩,true),(iA 23 (.build [zI,zI] [(0,1,(Ci 2)),(1,1,(Ci 2))]),true),(⟨none,.insert (true,[.int .i64,.int .i64]) (Tm 21) (Tm 23) (Ci 3),none⟩,true),(iA 24 (.build [zI,zI] [(0,1,(Ci 3)),(1,1,(Ci 3))]),true),(⟨none,.insert (true,[.int .i64,.int .i64]) (Tm 21) (Tm 24) (Ci 1),none⟩,true),(iA 25 (.build [zI,zI] [(0,1,(Ci 3)),(1,1,(Ci 4))]),true),(⟨none,.insert (true,[.int .i64,.int .i64]) (Tm 21) (Tm 25) (Ci 5),none⟩,true),(iM 26 21,false),(iF 27 0 4,true),(iL 28 27,true),(iM 29 2,true),(iA 30 (.build [zI,zI] [(0,1,(Tm 28)),(1,1,(Tm 29))]),true),(iA 31 (.lookup (true,[.int .i64,.int .i64]) zI (Tm 26) (Tm 30) true),false),(iM 20 31,false),(iE 32 20 0,false),(iE 33 20 1,false),(iM 8 32,false),(iM 9 33,false)]
def aLC:Rg:=[iM 40 9,iA 41 (.un .not (Tm 40)),iM 39 41]
def aLD:Rg:=[iA 42 (.build [zI,zI] []),iS 2 6 42,iI 7 110]
def aLE:Rg:=[iM 44 2,iC 45 .neq 44 3,iM 43 45]
def aLF:Rg:=[iM 46 8,iF 47 0 4,iS 1 47 46]
def aLG:Rg:=[iF 49 1 4,iL 50 49,iM 51 0,iC 52 .sub 51 1,iB 53 .eql 50 52,iM 48 53]
def aLH:Rg:=[iF 54 0 4,⟨none,.store 1 (Tm 54) (Ci 4),none⟩]
def aBP:Rg:=[iM 34 8,iF 35 1 4,iL 36 35,iC 37 .add 36 1,iA 38 (.build [zI,zI] [(0,1,(Tm 34)),(1,1,(Tm 37))]),iS 2 4 38]
def aBQ:Rg:=[iO 55 2 4,iS 2 6 55,iI 7 0]
def aoF:aC:=(sq aKY (.seq (sq aKZ (.cond (Tm 18) (sq aLA .ret) .skip)) (dq aLB (.seq (.block 0 (sq aLC (.cond (Tm 39) (sq aLD .ret) (sq aLE (.cond (Tm 43) (.region aLF) (sq aLG (.cond (Tm 48) (.region aLH) (.region aBP)))))))) (sq aBQ .ret)))))
def step:aR:=⟨3,56,aoF,[.cell 6 (some 2),.tmp 7]⟩
def aJO:Rg:=[iT 4 false]
def aJP:Rg:=[iM 6 0,iN 7 6,iM 8 1,iN 9 8,iB 10 .neq 7 9]
def aJQ:Rg:=[iT 4 false]
def aJR:Rg:=[iI 5 0]
def aJS:Rg:=[iM 11 5,iM 12 0,iN 13 12,iB 14 .lss 11 13]
def aJT:Rd:=[(iM 17 0,false),(iM 18 5,false),(iX 19 1 17 18,false),(iL 20 19,false),(iM 21 1,false),(iM 22 5,false),(iX 23 1 21 22,false),(iL 24 23,false),(iB 25 .neq 20 24,false)]
def aJU:Rg:=[iT 4 false]
def aJV:Rg:=[iM 15 5,iC 16 .add 15 1,iM 5 16]
def aJN:aC:=(.seq (sq aJS (.cond (Tm 14) .skip (.exit 0))) (.seq (.block 1 (dq aJT (.cond (Tm 25) (sq aJU .ret) .skip))) (.region aJV)))
def aJW:Rg:=[iT 4 true]
def amM:aC:=(sq aJO (.seq (sq aJP (.cond (Tm 10) (sq aJQ .ret) .skip)) (.seq (sq aJR (.block 0 (.loop aJN))) (sq aJW .ret))))
def same:aR:=⟨2,26,amM,[.tmp 4]⟩
def avF:Rg:=[iT 0 false]
def avG:Rg:=[iA 10 (.call 144 [(Ci 1)]),iA 1 (.alloc [zI,zI]),iS 2 1 10]
def avH:Rg:=[iO 12 2 1,iA 13 (.call 145 [(Ci 1),(Tm 12),(Ci 1)]),iM 11 13,iE 14 11 0,iE 15 11 1,iA 2 (.alloc [zI,zI]),iS 2 2 14,iM 3 15]
def avI:Rg:=[iO 17 2 2,iA 18 (.call 145 [(Ci 1),(Tm 17),(Ci 2)]),iM 16 18,iE 19 16 0,iE 20 16 1,iA 4 (.alloc [zI,zI]),iS 2 4 19,iM 5 20]
def avJ:Rg:=[iO 22 2 4,iA 23 (.call 145 [(Ci 1),(Tm 22),(Ci 3)]),iM 21 23,iE 24 21 0,iE 25 21 1,iA 6 (.alloc [zI,zI]),iS 2 6 24,iM 7 25]
def avK:Rg:=[iO 27 2 6,iA 28 (.call 145 [(Ci 1),(Tm 27),(Ci 1)]),iM 26 28,iE 29 26 0,iE 30 26 1,iA 8 (.alloc [zI,zI]),iS 2 8 29,iM 9 30]
def avL:Rg:=[iO 31 2 1,iA 32 (.build [zI,zI] [(0,1,(Ci 1))]),iA 33 (.eqs false [.int,.int] (Tm 31) (Tm 32)),iM 34 33,gM 35 3 34 true,gC 36 .eql 35 0 34 true,iP 37 34 36,iM 38 37,gM 39 5 38 true,gC 40 .eql 39 0 38 true,iP 41 38 40,iM 42 41,gM 43 7 42 true,gC 44 .eql 43 0 42 true,iP 45 42 44,iM 46 45,gM 47 9 46 true,gC 48 .eql 47 110 46 true,iP 49 46 48,iM 50 49,gO 51 2 6 50 true,iG 52 (.build [zI,zI] [(0,1,(Ci 4))]) 50 true,iG 53 (.eqs false [.int,.int] (Tm 51) (Tm 52)) 50 true,iP 54 50 53,iM 55 54,iG 56 (.a0F true 1 2 [zI] [(0,(Ci 2)),(1,(Ci 1))]) 55 true,iG 57 (.a0F true 1 1 [.aB] [(0,(Tm 56))]) 55 true,gO 58 2 6 55 true,gK2 59 146 57 58 55 true,iG 60 (.a0F true 1 2 [zI] [(0,(Ci 1)),(1,(Ci 2))]) 55 true,gK2 61 91 59 60 55 true,iP 62 55 61,iM 63 62,iG 64 (.call 144 [(Ci 0)]) 63 true,iG 65 (.build [zI,zI] [(0,1,(Ci 4))]) 63 true,iG 66 (.eqs false [.int,.int] (Tm 64) (Tm 65)) 63 true,iP 67 63 66,iM 0 67]
def Xu:aC:=(sq avF (sq avG (sq avH (sq avI (sq avJ (sq avK (sq avL .ret)))))))
def yz:aR:=⟨0,68,Xu,[.tmp 0]⟩
def aOT:Rg:=[iA 5 (.box true (Tm 1)),iT 8 false]
def aOU:Rg:=[iM 20 3,iN 21 20,iC 22 .gtr 21 20]
def aOV:Rg:=[iA 23 (.call 26 []),iM 8 23]
def aOW:Rg:=[iI 9 0]
def aOX:Rg:=[iM 24 9,iM 25 3,iN 26 25,iB 27 .lss 24 26]
def aOY:Rg:=[iM 30 3,iM 31 9,iX 32 1 30 31,iL 33 32,iN 34 33,iC 35 .gtr 34 20]
def aOZ:Rg:=[iA 36 (.call 26 []),iM 8 36]
def aPA:Rg:=[iM 28 9,iC 29 .add 28 1,iM 9 29]
def aOS:aC:=(.seq (sq aOX (.cond (Tm 27) .skip (.exit 0))) (.seq (.block 1 (sq aOY (.cond (Tm 35) (sq aOZ .ret) .skip))) (.region aPA)))
def aPB:Rg:=[iM 37 0,iA 38 (.call 24 [(Tm 37),(Ci 5)]),iM 10 38]
def aIJ:Rd:=[(iF 39 0 5,false),(iL 40 39,false),(iA 41 (.call 24 [(Tm 40),(Ci 5)]),true),(iA 42 (.bin .add (Ci 1) (Tm 41)),true),(iF 43 1 5,true),(iL 44 43,true),(iA 45 (.call 24 [(Tm 44),(Ci 5)]),true),(iA 46 (.build [zI,zI] [(0,1,(Tm 42)),(1,1,(Tm 45))]),false),(iA 11 (.alloc [zI,zI]),true),(iS 2 11 46,true)]
def aIK:Rg:=[iM 48 0,iO 49 2 5,iM 50 2,iA 51 (.call 145 [(Tm 48),(Tm 49),(Tm 50)]),iM 47 51,iE 52 47 0,iE 53 47 1,iA 12 (.alloc [zI,zI]),iS 2 12 52,iM 13 53]
def aIL:Rg:=[iM 55 0,iO 56 2 5,iM 57 2,iA 58 (.call 92 [(Tm 55),(Tm 56),(Tm 57)]),iM 54 58,iE 59 54 0,iE 60 54 1,iA 14 (.alloc [zI,zI]),iS 2 14 59,iM 15 60]
def aIM:Rd:=[(iM 62 10,true),(iO 63 2 11,true),(iM 64 2,false),(iA 65 (.call 24 [(Tm 64),(Ci 4)]),true),(iA 66 (.bin .add (Ci 1) (Tm 65)),false),(iA 67 (.call 145 [(Tm 62),(Tm 63),(Tm 66)]),true),(iM 61 67,false),(iE 68 61 0,false),(iE 69 61 1,true),(iA 16 (.alloc [zI,zI]),true),(iS 2 16 68,true),(iM 17 69,false)]
def aIN:Rd:=[(iM 71 10,true),(iO 72 2 11,true),(iM 73 2,false),(iA 74 (.call 24 [(Tm 73),(Ci 4)]),true),(iA 75 (.bin .add (Ci 1) (Tm 74)),false),(iA 76 (.call 92 [(Tm 71),(Tm 72),(Tm 75)]),true),(iM 70 76,false),(iE 77 70 0,false),(iE 78 70 1,true),(iA 18 (.alloc [zI,zI]),true),(iS 2 18 77,true),(iM 19 78,false)]
def aIO:Rd:=[(iA 79 (.call 26 []),true),(iM 80 79,false),(gO 81 2 12 80 true,false),(gO 82 2 14 80 true,false),(iG 83 (.eqs false [.int,.int] (Tm 81) (Tm 82)) 80 true,false),(iP 84 80 83,false),(iM 85 84,false),(gM 86 13 85 true,false),(gM 87 15 85 true,false),(gB 88 .eql 86 87 85 true,false),(iP 89 85 88,false),(iM 90 89,false),(gO 91 2 16 90 true,false),(gO 92 2 18 90 true,false),(iG 93 (.eqs false [.int,.int] (Tm 91) (Tm 92)) 90 true,false),(iP 94 90 93,false),(iM 95 94,false),(gM 96 17 95 true,false),(gM 97 19 95 true,false),(gB 98 .eql 96 97 95 true,false),(iP 99 95 98,false),(iM 100 99,false),(gM 101 3 100 true,false),(gO 102 2 5 100 true,false),(gK2 103 146 101 102 100 true,true),(gM 104 3 100 true,true),(gO 105 2 5 100 true,true),(gK2 106 93 104 105 100 true,true),(gK2 107 91 103 106 100 true,true),(iP 108 100 107,false),(iM 109 108,false),(gM 110 3 109 true,false),(gO 111 2 11 109 true,false),(gK2 112 146 110 111 109 true,true),(gM 113 3 109 true,true),(gO 114 2 11 109 true,true),(gK2 115 93 113 114 109 true,true),(gK2 116 91 112 115 109 true,true),(iP 117 109 116,false),(iM 8 117,false)]
def axO:aC:=(sq aOT (.seq (sq aOU (.cond (Tm 22) (sq aOV .ret) .skip)) (.seq (sq aOW (.block 0 (.loop aOS))) (sq aPB (dq aIJ (sq aIK (sq aIL (dq aIM (dq aIN (dq aIO .ret))))))))))
def law:aR:=⟨4,118,axO,[.tmp 8]⟩
open Go Go.RowKit Go.Sort Go.Shelf Go.Proofs
section
variable {E:Env} {H:PH} {w:World}
end
section
variable {C:Ctx} {ρ:Ren} {name:Nat}
end
abbrev lists (c:List (List Int)):PV:=.sl 1 (c.map fun w=>[ints w])
abbrev WPs:=List (PV × List Int)
def dM (ps:WPs):List (List PV):=ps.map fun p=>[p.1]
def oK (ps:WPs):List LI:=ps.map fun p=>(p.1,1,bC p.2)
def wls (ps:WPs):List (List Int):=ps.map (·.2)
def fD (c:PV) (ps:WPs):List LI:=(c,1,dM ps)::oK ps
section
variable {H:PH} {B:List BX}
theorem mR (ps:WPs):(dM ps).length=ps.length:=a1K _
theorem lf {ps:WPs} {i:Nat} {v:PV} {w:List Int} (hi:ps[i]?=some (v,w)):(oK ps)[i]?=some (v,1,bC w):=by
 unfold oK;rw[a2K,hi]; rfl
theorem Ja {ps:WPs} {i:Nat} {v:PV} {w:List Int} (hi:ps[i]?=some (v,w)):(dM ps)[i]?=some [v]:=by
 unfold dM;rw[a2K,hi]; rfl
theorem aP.QW (h:aP H B []):aP H B (fD .aB []):=h.sC 1
theorem aP.inner {c:PV} {ps:WPs} (h:aP H B (fD c ps)) {i:Nat} {v:PV} {w:List Int} (hi:ps[i]?=some (v,w)):bP H 1 v (bC w):=h.own (i+1) (lf hi)
theorem aP.outer {c:PV} {ps:WPs} (h:aP H B (fD c ps)):bP H 1 c (dM ps):=h.own 0 rfl
theorem MQ (a b:List Int):bC (a++b)=bC a++bC b:=a2N
theorem aP.aUA {p:PV} {ps:WPs} (h:aP H B (fD p ps)) {i b:Nat} {v y:PV} {w src:List Int} {K:PV→PH→Prop} (hi:ps[i]?=some (v,w)) (E:dZ H 1 y=some (bC src)) (x:roomFor w.length src.length b) (d:src≠[])
  (u:∀ q H',aP H' B ((p,1,dM ps)::(oK ps).set i (.osl q 1 0 (w++src).length,1,bC (w++src)))→K (.osl q 1 0 (w++src).length) H'):nA H 1 b v y K:=by
 have c:bC src≠[]:=fun e=>d (List.map_eq_nil_iff.1 e);refine h.append (i+1) (lf hi) E (by rw[dR,dR]; exact x) fun v' H' l A=>?_;obtain⟨q,rfl⟩:=A c;rw[← MQ,dR] at l ⊢;exact u q H' l
theorem aP.aQL {c n i:Nat} {ps:WPs} {v':PV} {d:List Int} (h:aP H B ((.osl c 1 0 n,1,dM ps)::(oK ps).set i (v',1,bC d))) :
  ∃ rs,H c=some (.rows 1 rs)∧n≤rs.length∧rs.take n=dM ps∧aP (H.set c (.rows 1 (rs.set i [v']))) B (fD (.osl c 1 0 n) (ps.set i (v',d))):=by
 obtain⟨rs,l,p,u,w⟩:=h.store 0 rfl i [v'];refine⟨rs,l,p,u,?_⟩;have e:fD (.osl c 1 0 n) (ps.set i (v',d))=((.osl c 1 0 n,1,dM ps)::(oK ps).set i (v',1,bC d)).set 0 (.osl c 1 0 n,1,(dM ps).set i [v']):=by unfold fD dM oK;rw[List.map_set,List.map_set];rfl
 rw[e];exact w
theorem aP.aIW {c:PV} {ps:WPs} {b:Nat} {y:PV} {K:PV→PH→Prop} (h:aP H B (fD c ps)) (w:dZ H 1 y=some [[.aB]]) (p:roomFor ps.length 1 b)
  (l:∀ q H',aP H' B (fD (.osl q 1 0 (ps.length+1)) (ps++[(.aB,[])]))→K (.osl q 1 0 (ps.length+1)) H'):nA H 1 b c y K:=by
 refine h.append 0 (src:=[[.aB]]) rfl w (by rw[mR]; exact p) fun v' H' i u=>?_;obtain⟨q,rfl⟩:=u (by simp);have d:=i.sC 1;rw[a1P,mR] at d ⊢;refine l q H' ?_;have e:fD (.osl q 1 0 (ps.length+1)) (ps++[(.aB,[])])=(((c,1,dM ps)::oK ps).set 0 (.osl q 1 0 (ps.length+1),1,dM ps++[[.aB]]))++[(.aB,1,[])]:=by unfold fD dM oK;rw[a2N,a2N];rfl
 rw[e];exact d
def pV (c:List (List PV)) (d:List (List Int)):Prop:=c.length=d.length∧∀ (i:Nat) r w,c[i]?=some r→d[i]?=some w→r=[ints w]∨(r=[.aB]∧w=[])
theorem pV.nil:pV [] []:=⟨rfl,fun i r w h=>by cases h⟩
theorem pV.snoc {l:List (List PV)} {p:List (List Int)} {u:PV} {w:List Int} (h:pV l p) (y:u=ints w∨(u=.aB∧w=[])):pV (l++[[u]]) (p++[w]):=by
 refine⟨by simp[h.1],fun i r x d e=>?_⟩;rcases Nat.lt_trichotomy i l.length with c | c | c
 ·rw[a3Y c] at d;rw[a3Y (by rw[← h.1]; exact c)] at e;exact h.2 i r x d e
 ·subst c;rw[a4E (a1O _),Nat.sub_self] at d;rw[h.1,a4E (a1O _),Nat.sub_self] at e;cases d; cases e;rcases y with rfl | ⟨rfl,rfl⟩
  ·exact .inl rfl
  ·exact .inr ⟨rfl,rfl⟩
 ·rw[a4E Om,a2Z (by simp; omega)] at d;cases d
theorem pV.flat {e:List (List PV)} {u:List (List Int)} (h:pV e u):Flat e:=Flat.of fun r p c d q s rs=>by
 obtain⟨i,hi⟩:=List.mem_iff_getElem?.1 p;have l:=(a2P.1 hi).1;rcases h.2 i r _ hi (a1V (by rw[← h.1]; exact l)) with rfl | ⟨rfl,-⟩
 ·rw[a3O] at d; subst d; rfl
 ·rw[a3O] at d; subst d; rfl
theorem pV.co {y:List (List PV)} {x:List (List Int)} (h:pV y x):Co (.sl 1 y) (lists x):=by
 have u:∀ (i:Nat) r t,y[i]?=some r→(x.map fun w=>[ints w])[i]?=some t→∃ w,t=[ints w]∧(r=[ints w]∨(r=[.aB]∧w=[])):=fun i r t e c=>by
  rw[a2K] at c;cases E:x[i]? with
  | none=>rw[E] at c; cases c
  | some w =>rw[E] at c;cases c;exact⟨w,rfl,h.2 i r w e E⟩
 refine .sl (by rw[a1K,h.1]) (fun i r t e c=>?_) (fun i j p q d l=>?_)
 ·obtain⟨w,rfl,A | ⟨A,-⟩⟩:=u i r t e c<;>subst A<;>rfl
 ·unfold at2 at d l;cases e:y[i]? with
  | none=>rw[e] at d; cases d
  | some r =>
   cases c:(x.map fun w=>[ints w])[i]? with
   | none=>rw[c] at l; cases l
   | some t =>
    rw[e] at d;rw[c] at l;obtain⟨w,rfl,A⟩:=u i r t e c;rcases A with rfl | ⟨rfl,rfl⟩
    ·have:some p=some q:=d.symm.trans l;cases this;exact .refl _
    ·cases j with
     | zero=>cases d; cases l; exact .nil 1
     | succ j=>cases d
end
def Fx (u:PV):Prop:=∀ q s rs,PV.frz q s rs u=u
theorem Fx.int (k:IntKind) (n:Int):Fx (.int k n):=fun _ _ _=>rfl
theorem Fx.bool (b:Bool):Fx (.bool b):=fun _ _ _=>rfl
theorem Fx.sl (n:Nat) (r:List (List PV)):Fx (.sl n r):=fun _ _ _=>rfl
theorem Fx.aB:Fx .aB:=fun _ _ _=>rfl
theorem Fx.ptr (q z i c:Nat):Fx (.ptr q z i c):=fun _ _ _=>rfl
theorem Fx.cT (c:List PV):Fx (.cT c):=fun _ _ _=>rfl
theorem bP.cV {H:PH} {s:Nat} {v:PV} {rows:List (List PV)} (h:bP H s v rows) (q z:Nat) (rs:List (List PV)):PV.frz q z rs v=PV.cV q z rs v:=by
 rcases h with ⟨-,rfl⟩ | ⟨p,rs',rfl,-⟩<;>rfl
def Lx (φ:PV→PV) (F:PF):PF:=fun i=>(F i).map φ
theorem DJ (φ:PV→PV) (F:PF) (i:Nat):Lx φ F i=(F i).map φ:=rfl
theorem HH:∀ (ps:WPs) {H:PH} {B:List BX} {y:PV} (l:List (List PV)) (d:List (List Int)),pV l d→aP H B ((y,1,l++dM ps)::oK ps)→(∀ b∈B,∀ q s rs,bY.frz q s rs b.2=b.2) →
  ∃ (φ:PV→PV) (A:PH),Co (φ y) (lists (d++wls ps))∧(∀ u,Fx u→φ u=u)∧(∀ e:Int,φ (.tup [y,.int .i64 e])=.tup [φ y,.int .i64 e])∧aP A B []∧(∀ F:PF,iW F H (Lx φ F) A)∧∀ o,(H o=none∨y.oid=some o∨∃ p∈ps,p.1.oid=some o)→A o=none
 | [],H,B,y,l,d,J,h,hB=>by
  have M:l++dM []=l:=a3J l;have e1:d++wls []=d:=a3J d;rw[M] at h;rw[e1];rcases h.own 0 rfl with ⟨Q,rfl⟩ | ⟨q,rs,rfl,_⟩
  ·refine⟨id,H,?_,fun _ _=>rfl,fun _=>rfl,h.Yi 0,fun F=>?_,fun o ho=>?_⟩
   ·subst Q;have:d=[]:=List.length_eq_zero_iff.1 J.1.symm;subst this;exact .nil 1
   ·have:Lx id F=F:=funext fun i=>by rw[DJ]; simp
    rw[this];exact .refl _ _
   ·rcases ho with ho | ho | ⟨p,hp,-⟩
    ·exact ho
    ·cases ho
    ·cases hp
  ·obtain⟨rs,X,Y,Z,z4,K⟩:=h.frz 0 rfl;refine⟨PV.frz q 1 rs,H.frz q 1 rs,?_,fun u N=>N _ _ _,fun e=>?_,?_,fun F=>.step q X (.refl _ _),fun o ho=>?_⟩
   ·rw[Z]; exact J.co
   ·show PV.tup [PV.cV q 1 rs (.osl q 1 0 l.length),.int .i64 e]=_;rw[Y,Z]
   ·have O:(B.map fun b=>(b.1,b.2.frz q 1 rs))=B:=by
     conv=>rhs; rw[← List.map_id B]
     refine a4V fun b R=>?_;rw[hB b R q 1 rs]; rfl
    rw[O] at K;exact K
   ·rw[tB];rcases ho with ho | ho | ⟨p,hp,-⟩
    ·rw[ho]; split<;>rfl
    ·have:q=o:=by injection ho
     rw[if_pos this.symm]
    ·cases hp
 | (v,w)::ps,H,B,y,l,d,J,h,hB=>by
  have eo:∀ u:PV,l++[[u]]++dM ps=l++[u]::dM ps:=fun u=>by rw[a2T]; rfl
  have ew:d++[w]++wls ps=d++wls ((v,w)::ps):=by rw[a2T]; rfl
  have ho:bP H 1 v (bC w):=h.own 1 rfl;rcases ho with ⟨Q,rfl⟩ | ⟨q,rs,rfl,_⟩
  ·have hw:w=[]:=List.map_eq_nil_iff.1 Q;have h2:=h.Yi 1;obtain⟨φ,A,k1,k2,S,U,V,W⟩:=HH ps (l++[[.aB]]) (d++[w]) (J.snoc (.inr ⟨rfl,hw⟩)) (by rw[eo]; exact h2) hB;rw[ew] at k1;refine⟨φ,A,k1,k2,S,U,V,fun o ho=>W o ?_⟩;rcases ho with ho | ho | ⟨p,hp,ho⟩
   ·exact .inl ho
   ·exact .inr (.inl ho)
   ·rcases a1R.1 hp with rfl | hp
    ·cases ho
    ·exact .inr (.inr ⟨p,hp,ho⟩)
  ·obtain⟨rs,X,Y,Z,z4,K⟩:=h.frz 1 rfl;have O:(B.map fun b=>(b.1,b.2.frz q 1 rs))=B:=by
    conv=>rhs; rw[← List.map_id B]
    refine a4V fun b R=>?_;rw[hB b R q 1 rs]; rfl
   have y0:PV.cV q 1 rs y=y:=z4 0 _ (by decide) rfl;have E:PV.frz q 1 rs y=y:=((h.own 0 rfl).cV q 1 rs).trans y0;have yp:∀ p∈ps,PV.cV q 1 rs p.1=p.1:=fun p hp=>by obtain⟨j,hj⟩:=List.mem_iff_getElem?.1 hp;exact z4 (j+2) (p.1,1,bC p.2) Om (lf hj)
   have er:(l++dM ((.osl q 1 0 (bC w).length,w)::ps)).map (fun r=>r.map (PV.cV q 1 rs))=l++[[ints w]]++dM ps:=by
    rw[a2N,J.flat,a2T];congr 1;show [PV.cV q 1 rs (.osl q 1 0 (bC w).length)]::(dM ps).map _=_;rw[Y];have:(dM ps).map (fun r=>r.map (PV.cV q 1 rs))=dM ps:=by unfold dM;rw[List.map_map];refine a4V fun p hp=>?_;show [PV.cV q 1 rs p.1]=_;rw[yp p hp]
    rw[this];rfl
   have ei:(oK ps).map (fun x=>(x.1,x.2.1,x.2.2.map fun r=>r.map (PV.cV q 1 rs)))=oK ps:=by unfold oK;rw[List.map_map];refine a4V fun p _=>?_;show (p.1,1,(bC p.2).map fun r=>r.map (PV.cV q 1 rs))=_;rw[show (bC p.2).map (fun r=>r.map (PV.cV q 1 rs))=bC p.2 from Flat.map p.2 (fun x c hc q s rs=>by rw[a3O] at hc; subst hc; rfl) q 1 rs]
   have z6:aP (H.frz q 1 rs) B ((y,1,l++[[ints w]]++dM ps)::oK ps):=by rw[O] at K;have z7:aP (H.frz q 1 rs) B ((y,1,(l++dM ((.osl q 1 0 (bC w).length,w)::ps)).map (fun r=>r.map (PV.cV q 1 rs)))::(oK ps).map (fun x=>(x.1,x.2.1,x.2.2.map fun r=>r.map (PV.cV q 1 rs)))):=K;rw[er,ei] at z7;exact z7
   obtain⟨φ,A,k1,k2,S,U,V,W⟩:=HH ps (l++[[ints w]]) (d++[w]) (J.snoc (.inl rfl)) z6 hB;rw[ew] at k1;refine⟨fun u=>φ (PV.frz q 1 rs u),A,?_,fun u N=>?_,fun e=>?_,U,fun F=>.step q X ?_,fun o ho=>W o ?_⟩
   ·simp only;rw[E]; exact k1
   ·simp only;rw[N,k2 u N]
   ·simp only;rw[E];have yt:PV.frz q 1 rs (.tup [y,.int .i64 e])=.tup [PV.frz q 1 rs y,.int .i64 e]:=by rcases h.own 0 rfl with ⟨-,M⟩ | ⟨p,rs',M,-⟩<;>(subst M; rfl)
    rw[yt,E,S]
   ·have:Lx (fun u=>φ (PV.frz q 1 rs u)) F=Lx φ (F.frz q 1 rs):=funext fun i=>by rw[DJ,DJ,mK,Option.map_map];rfl
    rw[this];exact V _
   ·rw[tB];rcases ho with ho | ho | ⟨p,hp,ho⟩
    ·left; rw[ho]; split<;>rfl
    ·exact .inr (.inl ho)
    ·rcases a1R.1 hp with rfl | hp
     ·have:q=o:=by injection ho
      left; rw[if_pos this.symm]
     ·exact .inr (.inr ⟨p,hp,ho⟩)
theorem zO {res:List dH} {F:PF} {H:PH} {d:PV} {ps:WPs} {c:Int} {e:kY} (x:e=.normal∨e=.ret) (h:dH.evs F H res=some [d,.int .i64 c]) (u:aP H [] (fD d ps)):aX res (cD (.tup [lists (wls ps),.int .i64 c])) e F H:=by
 obtain⟨φ,B,k1,-,y,-,A,-⟩:=HH ps [] [] .nil u (fun b w=>by cases w);refine DD x h ⟨_,_,.nil,A _,a_,φ (cO [d,.int .i64 c]),?_,?_⟩
 ·rw[DJ,kC,if_pos rfl]; rfl
 ·show cD _ (φ (.tup [d,.int .i64 c])) .nil;rw[y];refine⟨.tup rfl fun j p q i l=>?_,rfl⟩
  match j with
  | 0=>cases i; cases l; exact k1
  | 1=>cases i; cases l; exact .refl _
  | j+2=>cases i
theorem bP.lenOf {H:PH} {v:PV} {rows:List (List PV)} {s:Nat} (h:bP H s v rows):PV.rX v=some (.int .i64 (rows.length:Nat)):=by
 rcases h with ⟨rfl,rfl⟩ | ⟨q,rs,rfl,-⟩<;>rfl
theorem aP.aPM {H:PH} {B:List BX} {e:PV} {ps:WPs} (h:aP H B (fD e ps)) {i:Nat} (hi:i<ps.length) :
  ∃ d rs,e=.osl d 1 0 ps.length∧H d=some (.rows 1 rs)∧rs[i]?=some [ps[i].1]∧i<rs.length:=by
 rcases h.outer with ⟨c,-⟩ | ⟨q,rs,rfl,c,h2,h3⟩
 ·have:(dM ps).length=0:=by rw[c]; rfl
  rw[mR] at this;omega
 ·rw[mR] at h2 h3;refine⟨q,rs,by rw[mR],c,?_,by omega⟩;have:=Ja (ps:=ps) (i:=i) (v:=ps[i].1) (w:=ps[i].2) (by rw[a1V hi]);rw[← h3,List.getElem?_take_of_lt hi] at this;exact this
theorem aP.aJD {H:PH} {B:List BX} {c:PV} {ps:WPs} (h:aP H B (fD c ps)):PV.rX c=some (.int .i64 (ps.length:Nat)):=by
 have:=h.outer.lenOf
 rwa [mR] at this
theorem DM (ps:WPs):(wls ps).length=ps.length:=a1K _
theorem ii {res:List dH} {F:PF} {H:PH} {c:PV} {ps:WPs} {e:kY} (l:e=.normal∨e=.ret) (h:dH.evs F H res=some [c]) (d:aP H [] (fD c ps)):aX res (cD (lists (wls ps))) e F H:=by
 obtain⟨φ,u,k1,-,-,-,p,-⟩:=HH ps [] [] .nil d (fun b i=>by cases i);refine DD l h ⟨_,_,.nil,p _,a_,φ (cO [c]),?_,?_⟩
 ·rw[DJ,kC,if_pos rfl]; rfl
 ·exact⟨k1,rfl⟩
def lh (f:aJ) (lv:Int) (i:Nat):Bool:=decide (lvl f i=lv)
def yW (f:aJ) (lv:Int):List Nat:=(a1S f.a0C.length).filter (lh f lv)
def eE (f:aJ) (lv:Int) (i:Nat):Nat:=(a1S i).countP (lh f lv)
def fA (f:aJ) (lv:Int) (k:Nat):List Int:=(a1S f.a0C.length).map fun i=>if i<k∧lvl f i=lv then ((eE f lv i:Nat):Int) else 0
def uK (f:aJ) (lv:Int) (d i:Nat):List Nat:=(a1S d).filter fun e=>decide (dA f e lv=i)
def nE (f:aJ) (lv:Int) (d:Nat):List (List Int):=(yW f lv).map fun i=>bZ (uK f lv d i)
theorem K7 (f:aJ) {lv:Int} (h:lv≠5):eX f lv=nE f lv f.aZZ.length:=by
 unfold eX;rw[if_neg h]; rfl
theorem xd (f:aJ):eX f 5=(a1S f.aZZ.length).map fun (d:Nat)=>[(d:Int)]:=by
 unfold eX;rw[if_pos rfl]
theorem aaV (f:aJ) (lv:Int) (k:Nat):(fA f lv k).length=f.a0C.length:=by unfold fA; simp
theorem N0 (f:aJ) (lv:Int):fA f lv 0=a1M f.a0C.length 0:=by
 unfold fA;refine a4O (by simp) fun i c d=>?_;simp
theorem wb {f:aJ} {lv:Int} {k i:Nat} (hi:i<f.a0C.length):(fA f lv k)[i]?=some (if i<k∧lvl f i=lv then ((eE f lv i:Nat):Int) else 0):=by
 unfold fA;rw[a2K,List.getElem?_range hi]; rfl
theorem aaU {f:aJ} {lv:Int} {k:Nat} (h:lvl f k=lv):(fA f lv k).set k ((eE f lv k:Nat):Int)=fA f lv (k+1):=by
 refine a4O (by simp[fA]) fun i c d=>?_;simp only[fA,List.getElem_set,a3L,List.getElem_range];by_cases e:k=i
 ·subst e; rw[if_pos rfl,if_pos ⟨by omega,h⟩]
 ·rw[if_neg e];have:i<k↔i<k+1:=Om;simp only[this]
theorem Nz {f:aJ} {lv:Int} {k:Nat} (h:lvl f k≠lv):fA f lv k=fA f lv (k+1):=by
 refine a4O (by simp[fA]) fun i c d=>?_;simp only[fA,a3L,List.getElem_range];by_cases e:k=i
 ·subst e; rw[if_neg Om,if_neg (fun x=>h x.2)]
 ·have:i<k↔i<k+1:=Om;simp only[this]
theorem aeD {f:aJ} {lv:Int} {k:Nat} (h:lvl f k=lv):eE f lv (k+1)=eE f lv k+1:=by
 unfold eE lh;rw[List.range_succ,List.countP_append]; simp[h]
theorem O5 {f:aJ} {lv:Int} {k:Nat} (h:lvl f k≠lv):eE f lv (k+1)=eE f lv k:=by
 unfold eE lh;rw[List.range_succ,List.countP_append]; simp[h]
theorem asQ (f:aJ) (lv:Int) (k:Nat):eE f lv k≤k:=a2X List.countP_le_length (by simp)
theorem Wm {f:aJ} {lv:Int} {a:Nat} (c:a<f.a0C.length) (h:lvl f a=lv):(yW f lv)[eE f lv a]?=some a:=aiX (q:=lh f lv) c (by rw[lh,decide_eq_true h])
theorem M6 (f:aJ) (lv:Int) (d i:Nat):uK f lv (d+1) i=if dA f d lv=i then uK f lv d i++[d] else uK f lv d i:=by
 unfold uK;rw[List.range_succ,List.filter_append];by_cases h:dA f d lv=i<;>simp[h]
theorem cv (f:aJ) (lv:Int) (d i:Nat):(uK f lv d i).length≤d:=a2X (List.length_filter_le ..) (by simp)
theorem awL (f:aJ) (lv:Int):(yW f lv).Nodup:=List.nodup_range.filter _
theorem aDT {f:aJ} {lv:Int} {d:Nat} (E:dA f d lv<f.a0C.length) (h:lvl f (dA f d lv)=lv) {ps:WPs} (u:wls ps=nE f lv d) {v:PV} {w:List Int} (hi:ps[eE f lv (dA f d lv)]?=some (v,w)) (v':PV) :
  w.length≤d∧wls (ps.set (eE f lv (dA f d lv)) (v',w++[(d:Int)]))=nE f lv (d+1):=by
 have l:=Wm E h;have x:w=bZ (uK f lv d (dA f d lv)):=by
  have c:(wls ps)[eE f lv (dA f d lv)]?=some w:=by unfold wls; rw[a2K,hi]; rfl
  rw[u,nE,a2K,l] at c;injection c with c
  exact c.symm
 refine⟨by rw[x]; unfold bZ; rw[a1K]; exact cv ..,?_⟩;have p:wls (ps.set (eE f lv (dA f d lv)) (v',w++[(d:Int)]))=(nE f lv d).set (eE f lv (dA f d lv)) (w++[(d:Int)]):=by rw[← u];unfold wls;rw[List.map_set]
 rw[p,x];unfold nE;refine a4O (by simp) fun i c p=>?_;have il:i<(yW f lv).length:=by simpa using p
 rw[List.getElem_set];simp only[a3L];rw[M6];obtain⟨F,y⟩:=a2P.1 l;by_cases e:eE f lv (dA f d lv)=i
 ·subst e;rw[if_pos rfl,y,if_pos rfl];unfold bZ;rw[a2N]; rfl
 ·rw[if_neg e,if_neg];intro A;have B:(yW f lv)[eE f lv (dA f d lv)]=(yW f lv)[i]:=y.trans A;exact e ((List.getElem_inj (awL f lv)).1 B)
def zQ (n:Nat):List (List PV):=(a1S n).map fun (d:Nat)=>[ints [(d:Int)]]
theorem amD (n:Nat):(zQ n).length=n:=by unfold zQ; simp
theorem abB (n:Nat):zQ (n+1)=zQ n++[[ints [(n:Int)]]]:=by unfold zQ; rw[List.range_succ,a2N]; rfl
theorem asR (f:aJ):lay (eX f 5)=.sl 1 (zQ f.aZZ.length):=by
 rw[xd];unfold zQ;show PV.sl 1 (List.map _ (List.map _ _))=_;rw[List.map_map];rfl
theorem O4 (f:aJ) (lv:Int):nE f lv 0=a1M (eE f lv f.a0C.length) []:=by
 unfold nE eE;rw[List.countP_eq_length_filter];refine a4O (by simp[yW]) fun i c d=>?_;simp[uK,bZ]
theorem jd (f:aJ) (lv:Int) (d:Nat):(nE f lv d).length=(yW f lv).length:=by unfold nE; simp
def unB (f:aJ) (lv:Int) (c:Nat) (d:PV) (k:Nat):PF:=(((((((PF.nil.set 1 (.int .i64 lv)).set 2 (.cT f.cells)).set 5 (d)).set 7 (.osl c 1 0 f.a0C.length)).set 33 (.sl 7 (f.a0C.map cN.cells))).set 34 (.int .i64 (f.a0C.length:Nat))).set 35 (.int .i64 k))
def unC (f:aJ) (lv:Int) (c:Nat) (e:PV) (d:Nat):PF:=(((((((PF.nil.set 1 (.int .i64 lv)).set 2 (.cT f.cells)).set 5 (e)).set 7 (.osl c 1 0 f.a0C.length)).set 54 (.sl 3 (f.aZZ.map cZ.cells))).set 55 (.int .i64 (f.aZZ.length:Nat))).set 56 (.int .i64 d))
def unE (f:aJ) (lv:Int) (c:Nat) (e:PV) (d at_:Nat):PF:=(((((((((PF.nil.set 1 (.int .i64 lv)).set 2 (.cT f.cells)).set 5 (e)).set 7 (.osl c 1 0 f.a0C.length)).set 54 (.sl 3 (f.aZZ.map cZ.cells))).set 55 (.int .i64 (f.aZZ.length:Nat))).set 56 (.int .i64 d)).set 10 (.int .i64 d)).set 12 (.int .i64 at_))
theorem aiH {C:Ctx} {K:bV} [Up K] (f:aJ) (hV:VF f) (lv:Int) (N:1≤lv) (O:lv≤4) (y:Nat) (B:PV) (d:Nat) (M:d<f.aZZ.length) {F:PF} {H:PH}
  (J:(unE f lv y B d (dD f d)).le F) (E:K (.exit 6) (unE f lv y B d (dA f d lv)) H):aC.wp C (.loop vF) K F H:=by
 refine wp_loop (α:=Nat) (fun j=>unE f lv y B d (upN f j (dD f d))) (fun _=>H) (fun j=>(j:Int)≤4-lv) (fun j=>4-j) 0 Om (by rw[upN]; exact J) b_ ?_;intro j Q;obtain⟨l,A⟩:=PJ hV M (k:=j) Om;have p:((upN f j (dD f d):Nat):Int)<(f.a0C.length:Nat):=Om;by_cases c:(j:Int)<4-lv
 ·have i:4-(j:Int)>lv:=Om;have w:0<upN f j (dD f d):=by
   rcases a4D (upN f j (dD f d)) with e | e
   ·rw[e,hV.root.2.1] at A; omega
   ·exact e
  have x:upN f (j+1) (dD f d)=HZ f (upN f j (dD f d)):=rfl;have u:=hV.U8 w l;simp only[go_sem,vF,EN,unE,p,oW l,da l,A,i,be,Jd l,u];exact aK (j+1) Om Om (by (repeat' (first|exact d_|refine c_ ?_ ?_))<;>first|(simp only[go_sem,x]<;>rfl)|rfl) b_
 ·have i:¬ 4-(j:Int)>lv:=Om;have e:dA f d lv=upN f j (dD f d):=by rw[dA,show 4-lv.toNat=j by omega]
  rw[e] at E;simp only[go_sem,vF,EN,unE,p,oW l,da l,A,i];refine Up.up ?_ E;unfold unE;exact Lq
theorem aiF {C:Ctx} (f:aJ) (hV:VF f) (lv:Int) (h1:1≤lv) (h5:lv≤5) :
  AH.wp C (aX B5.res (cD (lay (eX f lv)))) (PF.args [.agg f.cells,.int .i64 lv]) .nil:=by
 have Z:=hV.small;have hd:=Z.aZZ;have μ:=Z.a0C;simp only[go_sem,AH,qe,qf,qg,B5];by_cases c5:lv=5
 ·subst c5;rw[asR];simp only[go_sem,bN (show (5:Int)=5 from rfl),qh,a1K];refine wp_loop (α:=Nat × PV × PH) (fun s=>(((PF.nil.set 5 (s.2.1)).set 17 (.int .i64 (f.aZZ.length:Nat))).set 18 (.int .i64 s.1))) (fun s=>s.2.2) (fun s=>s.1≤f.aZZ.length∧bP s.2.2 1 s.2.1 (zQ s.1)) (fun s=>f.aZZ.length-s.1) (0,.aB,.nil) ⟨a1X _,.nil⟩ Lq b_ ?_;rintro⟨k,v,H⟩ ⟨hk,hO⟩;simp only at hk hO;simp only[go_sem,qd,qi];by_cases hlt:k<f.aZZ.length
  ·have e:(k:Int)<(f.aZZ.length:Nat):=Om;simp only[go_sem,e,qj,qk];refine gT (src:=[[ints [(k:Int)]]]) hO (by simp only[go_sem]; rfl) (by unfold roomFor; rw[amD]; simp only[a1T,maxLen]; omega) fun v' H' V _=>?_;rw[← abB] at V;simp only[go_sem,ql,wZz k];exact aK (k+1,v',H') ⟨hlt,V⟩ (by simp only; omega) Lq b_
  ·have e:¬ (k:Int)<(f.aZZ.length:Nat):=Om;have:k=f.aZZ.length:=Om;subst this;simp only[go_sem,e,qn];exact ij (.inr rfl) hO Sq
 have h4:lv≤4:=Om;rw[K7 f c5];have δ:(f.a0C.length:Int)*((8:Nat):Int)≤140737488355328:=Om;have ε:(f.a0C.length:Int)≤9223372036854775807:=Om;have ζ:(0:Int)≤(f.a0C.length:Int):=Om;simp only[go_sem,bF c5,an,a1K,δ,ε,ζ,Int.le_refl,a3P];refine aQ fun A hP=>?_;have ez:a1M f.a0C.length [PV.int .i64 0]=bC (fA f lv 0):=by rw[N0,RV]
 rw[ez];have U:aP (PH.nil.set A (.rows 1 (bC (fA f lv 0)))) [(A,.rows 1 (bC (fA f lv 0)))] (fD .aB []):=((aP.nil (H:=PH.nil)).new hP _).QW;simp only[go_sem,ao,a1K];refine wp_loop (α:=Nat × PV × WPs × PH) (fun s=>unB f lv A s.2.1 s.1) (fun s=>s.2.2.2) (fun s=>s.1≤f.a0C.length∧wls s.2.2.1=a1M (eE f lv s.1) []∧aP s.2.2.2 [(A,.rows 1 (bC (fA f lv s.1)))] (fD s.2.1 s.2.2.1)) (fun s=>f.a0C.length-s.1) (0,.aB,[],_) ⟨a1X _,rfl,U⟩ (by unfold unB; exact Lq) b_ ?_;clear U ez hP;rintro⟨i,vo,ps,H⟩ ⟨hi,l,p⟩;simp only at hi l p;simp only[go_sem,aj,ap,unB];by_cases hlt:i<f.a0C.length
 ·have e:(i:Int)<(f.a0C.length:Nat):=Om;have ι:ps.length=eE f lv i:=by have:=congrArg List.length l;rw[DM,List.length_replicate] at this;exact this
  have Q:=asQ f lv i;simp only[go_sem,e,au,oW hlt];refine aQ fun q R=>?_;have E:=p.at 0 rfl;have n1:¬ A=q:=by rintro rfl; rw[E] at R; cases R
  have M:=fun x=>p.new R x;simp only[go_sem,av,da hlt];by_cases c:lvl f i=lv
  ·have X:=p.aJD;have B:=wb (f:=f) (lv:=lv) (k:=i) hlt;have y:(bC (fA f lv i))[i]?=some [.int .i64 (if i<i∧lvl f i=lv then ((eE f lv i:Nat):Int) else 0)]:=by unfold bC; rw[a2K,B]; rfl
   have θ:i<(bC (fA f lv i)).length:=by rw[dR,aaV]; exact hlt
   have S:(bC (fA f lv i)).set i [.int .i64 (ps.length:Nat)]=bC (fA f lv (i+1)):=by rw[so,ι,aaU c]
   have h3:=fun x=>(M x).set 0 rfl (.rows 1 (bC (fA f lv (i+1))));simp only[go_sem,bN c,aw,X,e,n1,E,y,θ,a2H,S,ay];refine (h3 _).aIW Sq (by unfold roomFor; simp only[maxLen]; omega) fun q2 H2 h4=>?_;simp only[go_sem,EM,wZz i];refine aK (i+1,PV.osl q2 1 0 (ps.length+1),ps++[(PV.aB,[])],H2) ⟨hlt,?_,h4.mW 1⟩ (by simp only; omega) Lq b_;simp only;rw[aeD c,List.replicate_succ'];unfold wls at l ⊢;rw[a2N,l]; rfl
  ·have S:fA f lv i=fA f lv (i+1):=Nz c;simp only[go_sem,bF c,EM,wZz i];refine aK (i+1,vo,ps,_) ⟨hlt,?_,?_⟩ (by simp only; omega) Lq b_
   ·simp only; rw[O5 c]; exact l
   ·simp only; rw[← S]; exact (M _).mW 1
 have e:¬ (i:Int)<(f.a0C.length:Nat):=Om;have:i=f.a0C.length:=Om;subst this;rw[← O4] at l;simp only[go_sem,e,ba,a1K];refine wp_loop (α:=Nat × PV × WPs × PH) (fun s=>unC f lv A s.2.1 s.1) (fun s=>s.2.2.2) (fun s=>s.1≤f.aZZ.length∧wls s.2.2.1=nE f lv s.1∧aP s.2.2.2 [(A,.rows 1 (bC (fA f lv f.a0C.length)))] (fD s.2.1 s.2.2.1)) (fun s=>f.aZZ.length-s.1) (0,vo,ps,H) ⟨a1X _,l,p⟩ (by unfold unC; exact Lq) b_ ?_;clear l p hi hlt e;rintro⟨d,vo,ps,H⟩ ⟨η,l,p⟩;simp only at η l p;simp only[go_sem,al,bb,unC];by_cases hlt:d<f.aZZ.length
 ·have e:(d:Int)<(f.aZZ.length:Nat):=Om;simp only[go_sem,e,bc,LS hlt];refine aQ fun q R=>?_;have E:=p.at 0 rfl;have n1:¬ A=q:=by rintro rfl; rw[E] at R; cases R
  have M:=fun x=>(p.new R x).mW 1;simp only[go_sem,bd,hV.Sy hlt];generalize hx:bY.rows 3 _=x;have M:=M x;have N:=M.at 0 rfl;generalize H.set q x=H1 at *
  have up:=fun {K:bV} [Up K] {F:PF} {H:PH}=>aiH (C:=C) (K:=K) f hV lv h1 h4 A vo d hlt (F:=F) (H:=H);refine up (by unfold unE; exact Lq) ?_;obtain⟨a1,a2⟩:=PJ hV hlt (k:=4-lv.toNat) Om;have a3:lvl f (dA f d lv)=lv:=by rw[dA,a2]; omega
  have a1:dA f d lv<f.a0C.length:=a1;have γ:((dA f d lv:Nat):Int)<(f.a0C.length:Nat):=Om;have B:=wb (f:=f) (lv:=lv) (k:=f.a0C.length) a1;rw[if_pos ⟨a1,a3⟩] at B;have y:(bC (fA f lv f.a0C.length))[dA f d lv]?=some [.int .i64 (eE f lv (dA f d lv):Nat)]:=by unfold bC; rw[a2K,B]; rfl
  have J:eE f lv (dA f d lv)<ps.length:=by have:=(a2P.1 (Wm a1 a3)).1;rw[← DM,l,jd];exact this
  have O:=fun v'=>aDT (ps:=ps) a1 a3 l (a1V J) v';have Q:ps[eE f lv (dA f d lv)]?=some (ps[eE f lv (dA f d lv)].1,ps[eE f lv (dA f d lv)].2):=by rw[a1V J]
  have ν:ps[eE f lv (dA f d lv)]=(ps[eE f lv (dA f d lv)].1,ps[eE f lv (dA f d lv)].2):=rfl;obtain⟨qo,rs,rfl,b1,b2,b3⟩:=M.aPM J;generalize ps[eE f lv (dA f d lv)].2=w at *
  generalize ps[eE f lv (dA f d lv)].1=v at *
  generalize eE f lv (dA f d lv)=u at *
  have β:(u:Int)<(ps.length:Nat):=Om;have ξ:=(O .aB).1;simp only[go_sem,unE];refine bX (PH.nil.set A (.rows 1 (bC (fA f lv f.a0C.length)))) eH (PH.aL a_ N) ?_;simp only[go_sem,bf,γ,N,y,a2H,β,b1,b2,b3];refine M.aUA (src:=[(d:Int)]) Q (by simp only[go_sem]; rfl) (by unfold roomFor; simp only[a1T,maxLen]; omega) (by simp) fun q2 H2 h5=>?_;have Y:=h5.at 0 rfl;refine⟨PH.aL a_ Y,?_⟩;obtain⟨rs2,e1,e2,e3,h6⟩:=h5.aQL;have κ:u<rs2.length:=Om;have W:rs2[u]?=some [v]:=by have:=Ja Q;rw[← e3,List.getElem?_take_of_lt J] at this;exact this
  refine bX .nil eH a_ ?_;simp only[go_sem,bg,e1,κ,W,bi,wZz d];refine⟨a_,?_⟩;refine aK (d+1,PV.osl qo 1 0 ps.length,ps.set u (PV.osl q2 1 0 (w++[(d:Int)]).length,w++[(d:Int)]),H2.set qo (.rows 1 (rs2.set u [.osl q2 1 0 (w++[(d:Int)]).length]))) ⟨hlt,(O _).2,h6⟩ (by simp only; omega) Lq (by simp only; exact b_)
 ·have e:¬ (d:Int)<(f.aZZ.length:Nat):=Om;have:d=f.aZZ.length:=Om;subst this;simp only[go_sem,e,bj];rw[← l];exact ii (.inr rfl) Sq (p.mW 0)
def Bs:List aS:=[
 ⟨(some 2),.box true (.tmp 0),none⟩,
 ⟨(some 3),.box true (.tmp 1),none⟩,
 ⟨(some 4),.mv (.const .aB),none⟩]
def Bt:List aS:=[
 ⟨(some 5),.alloc [.aB],none⟩]
def Bu:List aS:=[
 ⟨(some 7),.a1C 1 (.tmp 3),none⟩,
 ⟨(some 8),.load none (.tmp 7),none⟩,
 ⟨(some 9),.a1C 2 (.tmp 3),none⟩,
 ⟨(some 10),.load none (.tmp 9),none⟩,
 ⟨(some 11),.bin .add (.tmp 8) (.tmp 10),none⟩,
 ⟨(some 12),.a1C 4 (.tmp 2),none⟩,
 ⟨(some 13),.load none (.tmp 12),none⟩,
 ⟨(some 14),.len (.tmp 13),none⟩,
 ⟨(some 15),.call 210 [(.tmp 11),(.tmp 14)],none⟩]
def Bv:List aS:=[
 ⟨(some 6),.mv (.tmp 16),none⟩]
def Bw:List aS:=[
 ⟨(some 17),.load (some 7) (.tmp 2),none⟩,
 ⟨(some 18),.load (some 17) (.tmp 3),none⟩,
 ⟨(some 19),.mv (.tmp 6),none⟩,
 ⟨(some 20),.call 201 [(.tmp 17),(.tmp 18),(.tmp 19)],none⟩]
def Bx:List aS:=[
 ⟨(some 21),.load none (.tmp 5),none⟩,
 ⟨(some 22),.mv (.tmp 6),none⟩,
 ⟨(some 23),.a0F true 1 1 [.aB] [(0,(.tmp 22))],none⟩,
 ⟨(some 24),.append 1 24 (.tmp 21) (.tmp 23),none⟩,
 ⟨none,.store 1 (.tmp 5) (.tmp 24),none⟩]
def By:List aS:=[
 ⟨(some 25),.load none (.tmp 5),none⟩,
 ⟨(some 4),.mv (.tmp 25),none⟩]
def qb:aC:=(.region Bv)
def qc:aC:=(.block 1 (.seq (.region Bw) (.cond (.tmp 20) (.region Bx) .skip)))
def ai:aC:=(.seq (.region By) .ret)
def EK (c d:Code):oT:=(.seq (.region Bs) (.seq (.region Bt) (.seq (.region Bu) (.range (.tmp 15) 26 16 c d qb qc ai))))
def awD:List Nat:=[2,3,23]
def Ye (c d:Code):xB:=⟨2,26,EK c d,[.tmp 4]⟩
def Bk:List aS:=[
 ⟨(some 2),.box true (.tmp 0),none⟩,
 ⟨(some 3),.box true (.tmp 1),none⟩,
 ⟨(some 4),.mv (.const .aB),none⟩,
 ⟨(some 5),.mv (.const (.int .i64 0)),none⟩]
def Bl:List aS:=[
 ⟨(some 17),.load (some 7) (.tmp 2),none⟩,
 ⟨(some 18),.call 96 [(.tmp 17)],none⟩,
 ⟨(some 19),.bin .neq (.tmp 18) (.const (.int .i64 0)),none⟩,
 ⟨(some 20),.mv (.tmp 19),none⟩,
 ⟨(some 21),.a1C 0 (.tmp 3),(some (20,false))⟩,
 ⟨(some 22),.load none (.tmp 21),(some (20,false))⟩,
 ⟨(some 23),.bin .lss (.tmp 22) (.const (.int .i64 1)),(some (20,false))⟩,
 ⟨(some 24),.pick (.tmp 20) (.const (.bool true)) (.tmp 23),none⟩,
 ⟨(some 25),.mv (.tmp 24),none⟩,
 ⟨(some 26),.a1C 0 (.tmp 3),(some (25,false))⟩,
 ⟨(some 27),.load none (.tmp 26),(some (25,false))⟩,
 ⟨(some 28),.bin .gtr (.tmp 27) (.const (.int .i64 5)),(some (25,false))⟩,
 ⟨(some 29),.pick (.tmp 25) (.const (.bool true)) (.tmp 28),none⟩,
 ⟨(some 30),.mv (.tmp 29),none⟩,
 ⟨(some 31),.a1C 1 (.tmp 3),(some (30,false))⟩,
 ⟨(some 32),.load none (.tmp 31),(some (30,false))⟩,
 ⟨(some 33),.bin .lss (.tmp 32) (.const (.int .i64 1)),(some (30,false))⟩,
 ⟨(some 34),.pick (.tmp 30) (.const (.bool true)) (.tmp 33),none⟩,
 ⟨(some 35),.mv (.tmp 34),none⟩,
 ⟨(some 36),.a1C 1 (.tmp 3),(some (35,false))⟩,
 ⟨(some 37),.load none (.tmp 36),(some (35,false))⟩,
 ⟨(some 38),.bin .gtr (.tmp 37) (.const (.int .i64 3)),(some (35,false))⟩,
 ⟨(some 39),.pick (.tmp 35) (.const (.bool true)) (.tmp 38),none⟩]
def sU:List aS:=[
 ⟨(some 4),.mv (.const .aB),none⟩,
 ⟨(some 5),.mv (.const (.int .i64 1)),none⟩]
def Bm:List aS:=[
 ⟨(some 40),.load (some 7) (.tmp 2),none⟩,
 ⟨(some 41),.a1C 0 (.tmp 3),none⟩,
 ⟨(some 42),.load none (.tmp 41),none⟩,
 ⟨(some 43),.call 206 [(.tmp 40),(.tmp 42)],none⟩,
 ⟨(some 6),.alloc [.aB],none⟩,
 ⟨none,.store 1 (.tmp 6) (.tmp 43),none⟩]
def Bn:List aS:=[
 ⟨(some 44),.a1C 4 (.tmp 2),none⟩,
 ⟨(some 45),.load none (.tmp 44),none⟩,
 ⟨(some 46),.len (.tmp 45),none⟩,
 ⟨(some 47),.bin .gtr (.tmp 46) (.const (.int .i64 12)),none⟩,
 ⟨(some 48),.mv (.tmp 47),none⟩,
 ⟨(some 49),.load none (.tmp 6),(some (48,false))⟩,
 ⟨(some 50),.len (.tmp 49),(some (48,false))⟩,
 ⟨(some 51),.a1C 1 (.tmp 3),(some (48,false))⟩,
 ⟨(some 52),.load none (.tmp 51),(some (48,false))⟩,
 ⟨(some 53),.call 207 [(.tmp 50),(.tmp 52)],(some (48,false))⟩,
 ⟨(some 54),.bin .gtr (.tmp 53) (.const (.int .i64 512)),(some (48,false))⟩,
 ⟨(some 55),.pick (.tmp 48) (.const (.bool true)) (.tmp 54),none⟩]
def UD:List aS:=[
 ⟨(some 4),.mv (.const .aB),none⟩,
 ⟨(some 5),.mv (.const (.int .i64 2)),none⟩]
def Bo:List aS:=[
 ⟨(some 7),.alloc [.aB],none⟩]
def Bp:List aS:=[
 ⟨(some 56),.a1C 1 (.tmp 3),none⟩,
 ⟨(some 57),.load none (.tmp 56),none⟩,
 ⟨(some 58),.load none (.tmp 6),none⟩,
 ⟨(some 59),.len (.tmp 58),none⟩,
 ⟨(some 60),.call 210 [(.tmp 57),(.tmp 59)],none⟩]
def Bq:List aS:=[
 ⟨(some 8),.mv (.tmp 61),none⟩]
def Br:List aS:=[
 ⟨(some 62),.a1C 4 (.tmp 2),none⟩,
 ⟨(some 63),.load none (.tmp 62),none⟩,
 ⟨(some 64),.len (.tmp 63),none⟩,
 ⟨(some 65),.a0H 1 1 [(.bool false)] (.tmp 64) (.tmp 64),none⟩,
 ⟨(some 9),.mv (.tmp 65),none⟩]
def pj:List aS:=[
 ⟨(some 66),.mv (.tmp 8),none⟩,
 ⟨(some 67),.len (.tmp 66),none⟩,
 ⟨(some 68),.mv (.const (.int .i64 0)),none⟩]
def pn:List aS:=[
 ⟨(some 69),.bin .lss (.tmp 68) (.tmp 67),none⟩]
def po:List aS:=[
 ⟨(some 70),.a0Q 1 (.tmp 66) (.tmp 68),none⟩,
 ⟨(some 71),.load none (.tmp 70),none⟩,
 ⟨(some 11),.mv (.tmp 71),none⟩]
def pq:List aS:=[
 ⟨(some 72),.load none (.tmp 6),none⟩,
 ⟨(some 73),.mv (.tmp 11),none⟩,
 ⟨(some 74),.a0Q 1 (.tmp 72) (.tmp 73),none⟩,
 ⟨(some 75),.load none (.tmp 74),none⟩,
 ⟨(some 76),.len (.tmp 75),none⟩,
 ⟨(some 77),.mv (.const (.int .i64 0)),none⟩]
def pt:List aS:=[
 ⟨(some 78),.bin .lss (.tmp 77) (.tmp 76),none⟩]
def pu:List aS:=[
 ⟨(some 79),.a0Q 1 (.tmp 75) (.tmp 77),none⟩,
 ⟨(some 80),.load none (.tmp 79),none⟩,
 ⟨(some 13),.mv (.tmp 80),none⟩]
def pw:List aS:=[
 ⟨(some 81),.mv (.tmp 9),none⟩,
 ⟨(some 82),.mv (.tmp 13),none⟩,
 ⟨(some 83),.a0Q 1 (.tmp 81) (.tmp 82),none⟩,
 ⟨none,.store 1 (.tmp 83) (.const (.bool true)),none⟩]
def p4:List aS:=[
 ⟨(some 84),.bin .add (.tmp 77) (.const (.int .i64 1)),none⟩,
 ⟨(some 77),.mv (.tmp 84),none⟩]
def LE:aC:=(.seq (.region pt) (.seq (.cond (.tmp 78) .skip (.exit 4)) (.seq (.block 5 (.seq (.region pu) (.region pw))) (.region p4))))
def p5:List aS:=[
 ⟨(some 85),.bin .add (.tmp 68) (.const (.int .i64 1)),none⟩,
 ⟨(some 68),.mv (.tmp 85),none⟩]
def LF:aC:=(.seq (.region pn) (.seq (.cond (.tmp 69) .skip (.exit 2)) (.seq (.block 3 (.seq (.region po) (.seq (.region pq) (.block 4 (.loop LE))))) (.region p5))))
def p6:List aS:=[
 ⟨(some 14),.mv (.const .aB),none⟩]
def p7:List aS:=[
 ⟨(some 86),.mv (.tmp 9),none⟩,
 ⟨(some 87),.len (.tmp 86),none⟩,
 ⟨(some 88),.mv (.const (.int .i64 0)),none⟩]
def p8:List aS:=[
 ⟨(some 89),.bin .lss (.tmp 88) (.tmp 87),none⟩]
def LH:List aS:=[
 ⟨(some 90),.mv (.tmp 88),none⟩,
 ⟨(some 91),.a0Q 1 (.tmp 86) (.tmp 88),none⟩,
 ⟨(some 92),.load none (.tmp 91),none⟩,
 ⟨(some 15),.mv (.tmp 90),none⟩,
 ⟨(some 16),.mv (.tmp 92),none⟩]
def LJ:List aS:=[
 ⟨(some 93),.mv (.tmp 16),none⟩]
def p9:List aS:=[
 ⟨(some 94),.mv (.tmp 14),none⟩,
 ⟨(some 95),.mv (.tmp 15),none⟩,
 ⟨(some 96),.a0F true 1 1 [(.int .i64 0)] [(0,(.tmp 95))],none⟩,
 ⟨(some 97),.append 1 8 (.tmp 94) (.tmp 96),none⟩,
 ⟨(some 14),.mv (.tmp 97),none⟩]
def LK:List aS:=[
 ⟨(some 98),.bin .add (.tmp 88) (.const (.int .i64 1)),none⟩,
 ⟨(some 88),.mv (.tmp 98),none⟩]
def LG:aC:=(.seq (.region p8) (.seq (.cond (.tmp 89) .skip (.exit 6)) (.seq (.block 7 (.seq (.region LH) (.seq (.region LJ) (.cond (.tmp 93) (.region p9) .skip)))) (.region LK))))
def LL:List aS:=[
 ⟨(some 99),.load none (.tmp 7),none⟩,
 ⟨(some 100),.mv (.tmp 14),none⟩,
 ⟨(some 101),.a0F true 1 1 [.aB] [(0,(.tmp 100))],none⟩,
 ⟨(some 102),.append 1 24 (.tmp 99) (.tmp 101),none⟩,
 ⟨none,.store 1 (.tmp 7) (.tmp 102),none⟩]
def qa:List aS:=[
 ⟨(some 103),.load none (.tmp 7),none⟩,
 ⟨(some 4),.mv (.tmp 103),none⟩,
 ⟨(some 5),.mv (.const (.int .i64 0)),none⟩]
def LC:aC:=(.region Bq)
def LD:aC:=(.block 1 (.seq (.region Br) (.seq (.seq (.region pj) (.block 2 (.loop LF))) (.seq (.region p6) (.seq (.seq (.region p7) (.block 6 (.loop LG))) (.region LL))))))
def ac:aC:=(.seq (.region qa) .ret)
def EJ (c d:Code):oT:=(.seq (.region Bk) (.seq (.seq (.region Bl) (.cond (.tmp 39) (.seq (.region sU) .ret) .skip)) (.seq (.region Bm) (.seq (.seq (.region Bn) (.cond (.tmp 55) (.seq (.region UD) .ret) .skip)) (.seq (.region Bo) (.seq (.region Bp) (.range (.tmp 60) 104 61 c d LC LD ac)))))))
def awB:List Nat:=[2,3,96,101]
def Yd (c d:Code):xB:=⟨2,104,EJ c d,[.tmp 4,.tmp 5]⟩
theorem ajV {C:Ctx} {H:PH} {name:Nat} {pre:List PV} {v u:PV} {l:List Int} (w:Plain u) (p:∀ x∈pre,Fx x) (i:bP H 1 v (bC l)) (c:l≠[]) (h:aF C name (pre++[ints l]) .nil (aH u)) :
  ∃ q,v=.osl q 1 0 l.length∧(∃ x,H q=some x)∧aF C name (pre++[v]) (H.only [q]) (fun r H'=>r=u∧H'=H.only [q]):=by
 rcases i with ⟨d,-⟩ | ⟨q,rs,rfl,h1,h2,h3⟩
 ·exact absurd (List.map_eq_nil_iff.1 d) c
 ·rw[dR] at h2 h3 ⊢;refine⟨q,rfl,⟨_,h1⟩,?_⟩;rw[XE h1];refine aF.aPG w ?_;have e:pre.map (PV.frz q 1 rs)=pre:=by
   conv=>rhs; rw[← List.map_id pre]
   exact a4V fun x y=>p x y q 1 rs
  rw[a2N,e,a2Y,a3Q,qY h2,h3];exact h
theorem lk {α:Type} (L:List α) (x:α) (n:Nat) (h:L.length=n):(L++[x])[n]?=some x:=by
 subst h; simp
structure aOE (f:aJ) (now:List (List Int)) (r:Int) (d:Nat) (ps:WPs):Prop where
 eq:wls ps=j5 f now r d
 num:ps.length≤d
 len:∀ i (h:i<ps.length),1≤(ps[i].2).length∧(ps[i].2).length≤d
theorem aOE.of {f:aJ} {c:List (List Int)} {r:Int} (u:ahO f c r=true) {d:Nat} (y:d≤f.aZZ.length) {ps:WPs} (h:wls ps=j5 f c r d):aOE f c r d ps:=by
 have k:=yd u d y;rw[← h] at k;have e:∀ i (h:i<ps.length),ps[i].2∈wls ps:=fun i hi=>a2G.2 ⟨ps[i],a1N hi,rfl⟩;have ne:∀ l∈wls ps,1≤l.length:=fun l A=>by
  have:=k.ok l A;unfold PY at this;cases l with
  | nil=>cases this
  | cons x xs=>rw[a3E]; omega
 refine⟨h,?_,fun i hi=>⟨ne _ (e i hi),?_⟩⟩
 ·have p:(wls ps).length≤(wls ps).flatten.length:=by
   generalize wls ps=w at ne
   induction w with
   | nil=>exact a1O _
   | cons l w E =>have:=E fun x B=>ne x (List.mem_cons_of_mem _ B);have:=ne l (by simp);rw[List.flatten_cons,a1P,a3E];omega
  rw[DM,k.len] at p;exact p
 ·have:=(List.sublist_flatten_of_mem (e i hi)).length_le;rw[k.len] at this;exact this
def aOC (n top:Int) (r:PV) (H':PH):Prop:=∃ o1 o2,o1≠o2∧r=.fn 211 [.ptr o1 1 0 0,.ptr o2 1 0 0]∧H'=(PH.nil.set o1 (.rows 1 [[.int .i64 n]])).set o2 (.rows 1 [[.int .i64 top]])
theorem awE {C:Ctx} (n top:Int):EL.wp C (aX Yf.res (aOC n top)) (PF.args [.int .i64 n,.int .i64 top]) .nil:=by
 simp only[go_sem,EL,Bz,Yf];refine aQ fun o1 e=>?_;simp only[go_sem];refine aQ fun o2 c=>?_;have d:o1≠o2:=by rintro rfl; simp only[cP] at c; cases c
 simp only[go_sem,B0];exact aZ (.inr rfl) _ (vs:=[.fn 211 [.ptr o1 1 0 0,.ptr o2 1 0 0]]) Sq b_ ⟨o1,o2,d,rfl,rfl⟩
structure XU (C:Ctx):Prop extends Xi C where
 subs:∀ n top:Int,aF C 210 [.int .i64 n,.int .i64 top] .nil (aOC n top)
 iter:∀ (l o1 o2 n top:Nat) (J:Nat→PH→Prop) (ss:List (List Nat)),ss=cW top n 0→1≤n→n≤1000→top≤1000 →
  (∀ k (hk:k<ss.length) G c,J k G→G c=none→CN C l [.osl c 1 0 n] (G.set c (.rows 1 (bC (bZ ss[k])))) (fun r H'=>r=.bool true∧J (k+1) H')) →
  ∀ G0 H:PH,J 0 G0→G0.le H→H o1=some (.rows 1 [[.int .i64 n]])→H o2=some (.rows 1 [[.int .i64 top]])→G0 o1=none→G0 o2=none→aF C 211 [uW l,.ptr o1 1 0 0,.ptr o2 1 0 0] H (fun _ H'=>∃ G,J ss.length G∧G.le H')
theorem cx {C:Ctx} (Lb:XU C) {F:PF} {H:PH} {n m t o1 o2 top:Nat} {d i:Code} {Q R:aC} {B:List (List Nat)} (Y:B=cW top n 0) (h1:1≤n) (hn:n≤1000) (ht:top≤1000) (α:o1≠o2)
  (I:Nat→PH→Prop) (w:PH) (hI:I 0 w) (O:w.le H) (b1:H o1=some (.rows 1 [[.int .i64 n]])) (b2:H o2=some (.rows 1 [[.int .i64 top]])) (g1:w o1=none) (g2:w o2=none)
  (hY:∀ (l:Nat) (x:PV) (J:PH) (Z:PH→Prop),J l=none→Q.wp C (gX C (R.wp C) (yX Z)) (F.set t x) J→CN C l [x] (J.set l (.loop F m t d i)) (fun r H'=>r=.bool true∧∃ H2,Z H2∧H2 l=none∧H'=H2.set l (.loop F m t d i)))
  (hb:∀ k (hk:k<B.length) G c,I k G→G c=none→Q.wp C (gX C (R.wp C) (yX (I (k+1)))) (F.set t (.osl c 1 0 n)) (G.set c (.rows 1 (bC (bZ B[k]))))) :
  Ak C 211 [.ptr o1 1 0 0,.ptr o2 1 0 0] F H m t d i (I B.length):=by
 intro l S;have K:w l=none:=by
  cases h:w l with
  | none=>rfl
  | some x=>rw[O l x h] at S; cases S
 have n1:¬ o1=l:=fun e=>by rw[e,S] at b1; cases b1
 have n2:¬ o2=l:=fun e=>by rw[e,S] at b2; cases b2
 refine (Lb.iter l o1 o2 n top (fun k G=>∃ p,I k p∧p l=none∧G=p.set l (.loop F m t d i)) B Y h1 hn ht ?_ (w.set l (.loop F m t d i)) (H.set l (.loop F m t d i)) ⟨w,hI,K,rfl⟩ ?_ ?_ ?_ ?_ ?_).post ?_
 ·rintro k hk G c ⟨p,E,u,rfl⟩ V;have M:¬ c=l:=fun e=>by rw[e,cP] at V; cases V
  have N:¬ l=c:=fun e=>M e.symm;have W:p c=none:=by rwa [aV,if_neg M] at V
  have:=hY l (.osl c 1 0 n) (p.set c (.rows 1 (bC (bZ B[k])))) (I (k+1)) (by rw[aV,if_neg N]; exact u) (hb k hk p c E W);have e:(p.set c (.rows 1 (bC (bZ B[k])))).set l (.loop F m t d i)=(p.set l (.loop F m t d i)).set c (.rows 1 (bC (bZ B[k]))):=by
   refine PH.ext fun o=>?_;simp only[aV];by_cases U:o=l
   ·subst U; rw[if_pos rfl,if_neg N,if_pos rfl]
   ·rw[if_neg U,if_neg U]
  rw[e] at this;exact this
 ·intro o x A;rw[aV] at A ⊢;split at A
  ·rename_i e; rw[if_pos e]; exact A
  ·rename_i e; rw[if_neg e]; exact O o x A
 ·rw[aV,if_neg n1]; exact b1
 ·rw[aV,if_neg n2]; exact b2
 ·rw[aV,if_neg n1]; exact g1
 ·rw[aV,if_neg n2]; exact g2
 ·rintro r H' ⟨G,⟨p,E,u,rfl⟩,y⟩;have X:H' l=some (.loop F m t d i):=y l _ (by rw[cP]);exact⟨r,.refl _,p,E,(fun o x A=>y o x (by
   have:¬ o=l:=fun e=>by rw[e,u] at A; cases A
   rw[aV,if_neg this]; exact A)),u,X⟩
def aFN (d:Nat) (e:List (List Int)) (G:PH):Prop:=∃ c ps,aP G [(d,.rows 1 [[c]])] (fD c ps)∧wls ps=e
theorem awC {C:Ctx} (Lb:XU C) (J K:Code) (f:aJ) (hV:VF f) (hd:f.aZZ.length≤12) (p:cB) (hp:∀ m∈p.a0A,0≤m∧m<f.a0A.length) (S:Fits p.a0A) (hk:1≤p.k) (ν:p.k≤6) (hm:0≤p.m) (ξ:p.m≤4) :
  (EK J K).wp C (aX (Ye J K).res (cD (lay (eD f p)))) (PF.args [.agg f.cells,.agg p.cells]) .nil:=by
 obtain⟨n,hn⟩:∃ n:Nat,(n:Int)=gW p:=⟨(p.k+p.m).toNat,by unfold gW; omega⟩;have β:1≤n∧n≤10:=by unfold gW at hn; omega
 have hw:IntKind.i64.wrap (p.k+p.m)=(n:Int):=by rw[hn]; exact wrap_i64 Om Om
 simp only[go_sem,EK,oT.wp,Bs,Bt,Ye];refine aQ fun B γ=>?_;simp only[go_sem,Bu,hw,a1K];refine lY (Lb.subs n f.aZZ.length) Sq a_ ?_;rintro r H' ⟨o1,o2,l,rfl,rfl⟩ R;have W:¬ B=o1:=fun e=>by have:=R o1 _ (by rw[aV,if_neg l,cP]) rfl;rw[← e,cP] at this; cases this
 have X:¬ B=o2:=fun e=>by have:=R o2 _ (by rw[cP]) rfl;rw[← e,cP] at this; cases this
 have κ:¬ o2=o1:=fun e=>l e.symm;simp only[go_sem];generalize N:PF.set _ 15 _=F;have f2:F 2=some (.cT f.cells):=by rw[← N]; simp only[go_sem]
 have f3:F 3=some (.cT p.cells):=by rw[← N]; simp only[go_sem]
 have f5:F 5=some (.ptr B 1 0 0):=by rw[← N]; simp only[go_sem]
 have μ:F 15=some (.fn 211 [.ptr o1 1 0 0,.ptr o2 1 0 0]):=by rw[← N]; simp only[go_sem]
 clear N;have ε:cW f.aZZ.length n 0=cW f.aZZ.length (gW p).toNat 0:=by rw[← hn]; rfl
 have Q:=qR f.aZZ.length n 0;have hE:eD f p=((cW f.aZZ.length n 0).map bZ).filter (mI f p):=by rw[ε]; rfl
 refine⟨211,[.ptr o1 1 0 0,.ptr o2 1 0 0],aFN B (((((cW f.aZZ.length n 0).take (cW f.aZZ.length n 0).length)).map bZ).filter (mI f p)),rfl,fun hY=>?_,fun H2 O=>?_⟩
 ·refine cx (m:=26) (t:=16) Lb rfl β.1 Om Om l (fun k=>aFN B ((((cW f.aZZ.length n 0).take k).map bZ).filter (mI f p))) (PH.nil.set B (.rows 1 [[.aB]])) ⟨.aB,[],((aP.nil (H:=PH.nil)).new γ _).QW,rfl⟩ ?_ ?_ ?_ ?_ ?_ hY ?_
  ·intro o x Z;rw[aV] at Z;split at Z
   ·rename_i e;rw[gS]; simp only[aV,e,if_neg W,if_neg X,QM,if_true];exact Z
   ·cases Z
  ·rw[gS]; simp only[aV,if_neg l,if_true]
  ·rw[gS]; simp only[aV,if_true]
  ·rw[aV,if_neg (fun e=>W e.symm)]; rfl
  ·rw[aV,if_neg (fun e=>X e.symm)]; rfl
  rintro k hk G c ⟨vo,ps,E,w⟩ hc;have δ:=Q _ (a1N hk);have ζ:(cW f.aZZ.length n 0).take (k+1)=(cW f.aZZ.length n 0).take k++[(cW f.aZZ.length n 0)[k]]:=a3I hk;generalize (cW f.aZZ.length n 0)[k]=s at *
  obtain⟨sl,Y,-⟩:=δ;have i:((((cW f.aZZ.length n 0).take (k+1)).map bZ).filter (mI f p))=wls ps++if mI f p (bZ s) then [bZ s] else []:=by rw[ζ,a2N,List.filter_append,w];congr 1;by_cases c:mI f p (bZ s)<;>simp[c]
  have U:(bC (bZ s)).length=n:=by rw[dR,fK,sl]
  have M:=E.azA (s:=1) (rows:=bC (bZ s)) hc;have hO:bP (G.set c (.rows 1 (bC (bZ s)))) 1 (.osl c 1 0 n) (bC (bZ s)):=by
   have:=M.own ((fD vo ps).length) (lk _ _ _ rfl)
   rwa [U] at this
  have ο:ps.length≤4096:=by
   rw[← DM,w];refine a2X (List.length_filter_le ..) ?_;rw[a1K,a2A];have h1:=yF f.aZZ.length n 0;have M:2 ^ (f.aZZ.length-0)≤2 ^ 12:=a4Y Om Om;have e:(2:Nat) ^ 12=4096:=by decide
   omega
  have d:=Lb.adm f p (bZ s) hV hp S ⟨by rw[fK]; omega,fun x V=>by obtain⟨y,hy,rfl⟩:=a2G.1 V;have:=Y y hy;omega⟩;obtain⟨q,e1,V,d⟩:=ajV (C:=C) (name:=201) (pre:=[.agg f.cells,.agg p.cells]) (u:=.bool (mI f p (bZ s))) (.bool _) (fun x V=>by
   simp only[a1R,a2B,or_false] at V;rcases V with rfl | rfl
   ·exact fun _ _ _=>rfl
   ·exact fun _ _ _=>rfl) hO (fun e=>by have:=congrArg List.length e; rw[fK,sl] at this; simp at this; omega) d
  have eq:c=q:=by injection e1
  subst eq;have ι:=M.at 0 rfl;have θ:¬ B=c:=fun e=>by have:=E.at 0 rfl; rw[e,hc] at this; cases this
  simp only[go_sem,qb,Bv,qc,Bw,f2,f3];refine afA (cs:=[]) (vs:=[.agg f.cells,.agg p.cells,.osl c 1 0 n]) (by rw[a3J]; exact d) Sq (QX _ _) ?_;cases A:mI f p (bZ s) with
  | true =>
   rw[A,if_pos rfl] at i;simp only[go_sem,Bx,f5,θ,E.at 0 rfl];refine M.append 0 (rows:=dM ps) (src:=[[.osl c 1 0 n]]) rfl Sq (by unfold roomFor; rw[mR]; simp only[a1T,maxLen]; omega) fun v' H' h3 η=>?_;obtain⟨q2,rfl⟩:=η (by simp);have α:=h3.at 0 rfl;have h4:=h3.set 0 rfl (bY.rows 1 [[PV.osl q2 1 0 (dM ps++[[PV.osl c 1 0 n]]).length]]);simp only[go_sem,α,f5,a1R,a2B,or_false,forall_eq];refine⟨PV.osl q2 1 0 (dM ps++[[PV.osl c 1 0 n]]).length,ps++[(.osl c 1 0 n,bZ s)],?_,?_⟩
   ·have e:fD (.osl q2 1 0 (dM ps++[[PV.osl c 1 0 n]]).length) (ps++[(PV.osl c 1 0 n,bZ s)])=((fD vo ps)++[(PV.osl c 1 0 (bC (bZ s)).length,1,bC (bZ s))]).set 0 (.osl q2 1 0 (dM ps++[[PV.osl c 1 0 n]]).length,1,dM ps++[[PV.osl c 1 0 n]]):=by rw[U];unfold fD dM oK;rw[a2N,a2N];rfl
    rw[e];exact h4
   ·rw[i];unfold wls;rw[a2N]; rfl
  | false =>rw[A,if_neg (by decide),a3J] at i;simp only[go_sem];exact⟨vo,ps,M.sub (a3N.refl _) (List.sublist_append_left ..),i.symm⟩
 ·rw[a2O,← hE] at O;obtain⟨vo,ps,E,w⟩:=O;have hb:=E.at 0 rfl;simp only[go_sem,ai,By,f5,hb];rw[← w];exact ii (.inr rfl) Sq (E.mW 0)
def AA (f:aJ) (a0L:Int):Int:=if fW f a0L then (if f.aZZ.length>12 then 2 else 0) else 1
def j9 (f:aJ) (a0L:Int):List (List Int):=if AA f a0L=0 then eD f (cI f a0L) else []
structure Af (C:Ctx):Prop extends XU C where
 sets:∀ (f:aJ) (p:cB),VF f→f.aZZ.length≤12→(∀ m∈p.a0A,0≤m∧m<f.a0A.length)→Fits p.a0A→1≤p.k→p.k≤6→0≤p.m→p.m≤4→aF C 229 [.agg f.cells,.agg p.cells] .nil (aH (lay (eD f p)))
def cyS (r:PV):Spec:=fun _ _=>some ([],fun _=>aH r)
theorem ahV {C:Ctx} (x:Af C) (f:aJ) (y:f.Ok) (a0L:Int) :
  AD.wp C (aX call17.res (cD (.tup [lay (j9 f a0L),.int .i64 (AA f a0L)]))) (PF.args [.agg f.cells,.int .i64 a0L]) .nil:=by
 have hB:j9 f a0L=if AA f a0L=0 then eD f (cI f a0L) else []:=rfl
 have e:AA f a0L=if fW f a0L then (if f.aZZ.length>12 then 2 else 0) else 1:=rfl
 simp only[go_sem,AD,n0,n6,call17];refine aA (x.known f a0L y) Ev ?_;cases u:fW f a0L with
 | false =>rw[u,if_neg (by decide)] at e;rw[e,if_neg (by decide)] at hB;rw[hB,e];simp only[go_sem,a2I,n8];exact zO (.inr rfl) Sq (aP.QW aP.nil)
 | true =>
  rw[u,if_pos rfl] at e;obtain⟨hV,A,E,B⟩:=mZ u;obtain⟨p,w⟩:=mP u;have d:=hV.a0L _ p;have l:=(y.a0L _ p).a0A;have i:(f.a0D.map cB.cells)[a0L.toNat]?=some (cI f a0L).cells:=by rw[a2K,w]; rfl
  have hlt:a0L<(f.a0D.length:Nat):=Om;by_cases c:f.aZZ.length>12
  ·rw[if_pos c] at e;rw[e,if_neg (by decide)] at hB;rw[hB,e];simp only[go_sem,a1W,KR,a1K,show (f.aZZ.length:Int)>12 by omega,n9];exact zO (.inr rfl) Sq (aP.QW aP.nil)
  ·rw[if_neg c] at e;rw[e,if_pos rfl] at hB;rw[hB,e];simp only[go_sem,a1W,KR,a1K,show ¬ (f.aZZ.length:Int)>12 by omega];refine bX .nil (cyS (lay (eD f (cI f a0L)))) a_ ?_;simp only[go_sem,oa,A,hlt,a1K,i];refine cK rfl (x.sets f (cI f a0L) hV Om d.2.2.2.2.2.2.2 l d.1 d.2.1 d.2.2.1 d.2.2.2.1) Sq a_ ?_;simp only[go_sem];exact aZ (.inr rfl) .nil (vs:=[lay (eD f (cI f a0L)),.int .i64 0]) Sq a_ (aH.aQG ⟨rfl,rfl⟩)
structure UOk (n:Nat) (U:List (List Int)):Prop where
 len:U.length≤1000
 at_:∀ u∈U,u.length≤1000∧∀ d∈u,0≤d∧d<n
def mO (U:List (List Int)) (s:List Nat):List Int:=s.flatMap fun i=>U.getD i []
theorem K6 (U:List (List Int)) (s:List Nat) {i:Nat} (h:i<s.length):mO U (s.take (i+1))=mO U (s.take i)++U.getD s[i] []:=by
 unfold mO;rw[a3I h,List.flatMap_append]; simp
theorem O6 (U:List (List Int)) (s:List Nat) (d:Nat):(mO U s).contains (d:Int)=oX U s d:=by
 unfold mO oX
 induction s with
 | nil=>rfl
 | cons i s c=>rw[List.flatMap_cons,List.contains_append,c,List.any_cons]
theorem aiE {C:Ctx} {K:bV} [Up K] (X W w c nd n i:Nat) (J:PV) (u:List Int) (β:u.length≤1000) (hu:∀ d∈u,0≤d∧d<nd) (l:List Int) {F:PF} {H:PH} {B:List BX} {L:List LI}
  (x:aP H B L) (b:Nat) (Z:B[b]?=some (w,.rows 1 (dJ (marks nd l))))
  (hF:(((((((((((PF.nil.set 2 (J)).set 6 (.ptr X 1 0 0)).set 7 (.ptr W 1 0 0)).set 9 (.osl w 1 0 nd)).set 66 (.osl c 1 0 n)).set 67 (.int .i64 n)).set 68 (.int .i64 i)).set 75 (ints u)).set 76 (.int .i64 (u.length:Nat))).set 77 (.int .i64 0))).le F)
  (hK:∀ H',aP H' (B.set b (w,.rows 1 (dJ (marks nd (l++u))))) L→K (.exit 4) ((((((((PF.nil.set 2 (J)).set 6 (.ptr X 1 0 0)).set 7 (.ptr W 1 0 0)).set 9 (.osl w 1 0 nd)).set 66 (.osl c 1 0 n)).set 67 (.int .i64 n)).set 68 (.int .i64 i))) H') :
  aC.wp C (.loop LE) K F H:=by
 refine wp_loop (α:=Nat × PH) (fun s=>((((((((((PF.nil.set 2 (J)).set 6 (.ptr X 1 0 0)).set 7 (.ptr W 1 0 0)).set 9 (.osl w 1 0 nd)).set 66 (.osl c 1 0 n)).set 67 (.int .i64 n)).set 68 (.int .i64 i)).set 75 (ints u)).set 76 (.int .i64 (u.length:Nat))).set 77 (.int .i64 s.1))) (fun s=>s.2) (fun s=>s.1≤u.length∧aP s.2 (B.set b (w,.rows 1 (dJ (marks nd (l++u.take s.1))))) L) (fun s=>u.length-s.1) (0,H) ⟨a1X _,?_⟩ hF b_ ?_
 ·rw[List.take_zero,a3J];have e:B.set b (w,.rows 1 (dJ (marks nd l)))=B:=by obtain⟨h1,E⟩:=a2P.1 Z;rw[← E,List.set_getElem_self]
  rw[e]; exact x
 rintro⟨j,Y⟩ ⟨hj,x⟩;simp only at hj x;have M:b<B.length:=(a2P.1 Z).1;have y:(B.set b (w,bY.rows 1 (dJ (marks nd (l++u.take j)))))[b]?=some (w,.rows 1 (dJ (marks nd (l++u.take j)))):=List.getElem?_set_self M;simp only[go_sem,LE,pt];by_cases hlt:j<u.length
 ·have p:(j:Int)<(u.length:Nat):=Om;have R:(u.map fun n=>[PV.int .i64 n])[j]?=some [.int .i64 u[j]]:=by simp[hlt]
  obtain⟨U,V⟩:=hu _ (a1N hlt);have S:u.take (j+1)=u.take j++[u[j]]:=a3I hlt;have O:(u[j]).toNat<(dJ (marks nd (l++u.take j))).length:=by rw[yQ,MV]; omega
  have N:(dJ (marks nd (l++u.take j)))[(u[j]).toNat]?=some [.bool ((l++u.take j).contains u[j])]:=by unfold dJ;rw[a2K,xT U V]; rfl
  have Q:=x.at b y;have E:=x.set b y (.rows 1 (dJ (marks nd (l++u.take (j+1)))));rw[List.set_set] at E;have A:=MW (l:=l++u.take j) U V;rw[a2T,← S] at A;simp only[go_sem,p,pu,R,pw,U,V,a2H,Q,N,O,qU,A,p4,wZz j];exact aK (j+1,Y.set w (.rows 1 (dJ (marks nd (l++u.take (j+1)))))) ⟨hlt,E⟩ (by simp only; omega) Lq b_
 ·have p:¬ (j:Int)<(u.length:Nat):=Om;have:j=u.length:=Om;subst this;rw[a2O] at x;simp only[go_sem,p];exact Up.up Lq (hK Y x)
def scB (d i c e:Nat) (p:PV) (U:List (List Int)) (s:List Nat) (nd:Nat) (l:List Int):List BX:=[(d,.rows 1 [[p]]),(i,.rows 1 [[lay U]]),(c,.rows 1 (bC (bZ s))),(e,.rows 1 (dJ (marks nd l)))]
theorem My {C:Ctx} {K:bV} [Up K] (y p w c nd n:Nat) (B V:PV) (U:List (List Int)) (hU:UOk nd U) (s:List Nat) (hs:s.length=n) (Q:∀ x∈s,x<U.length) (hn:n≤1000) {F:PF} {H:PH} {L:List LI}
  (l:aP H (scB p y c w V U s nd []) L)
  (Y:((((((((PF.nil.set 2 (B)).set 6 (.ptr y 1 0 0)).set 7 (.ptr p 1 0 0)).set 9 (.osl w 1 0 nd)).set 66 (.osl c 1 0 n)).set 67 (.int .i64 n)).set 68 (.int .i64 0))).le F)
  (Z:∀ H',aP H' (scB p y c w V U s nd (mO U s)) L→K (.exit 2) (((((PF.nil.set 2 (B)).set 6 (.ptr y 1 0 0)).set 7 (.ptr p 1 0 0)).set 9 (.osl w 1 0 nd))) H') :
  aC.wp C (.loop LF) K F H:=by
 refine wp_loop (α:=Nat × PH) (fun t=>(((((((PF.nil.set 2 (B)).set 6 (.ptr y 1 0 0)).set 7 (.ptr p 1 0 0)).set 9 (.osl w 1 0 nd)).set 66 (.osl c 1 0 n)).set 67 (.int .i64 n)).set 68 (.int .i64 t.1))) (fun t=>t.2) (fun t=>t.1≤s.length∧aP t.2 (scB p y c w V U s nd (mO U (s.take t.1))) L) (fun t=>s.length-t.1) (0,H) ⟨a1X _,l⟩ Y b_ ?_;rintro⟨i,X⟩ ⟨hi,l⟩;simp only at hi l;simp only[go_sem,LF,pn];by_cases hlt:i<s.length
 ·have d:(i:Int)<(n:Nat):=Om;have hc:=l.at 2 rfl;have O:=l.at 1 rfl;have M:=wV hlt;have N:i<(bC (bZ s)).length:=by rw[dR,fK]; exact hlt
  have R:=Q s[i] (a1N hlt);have S:((s[i]:Nat):Int)<(U.length:Nat):=Om;have e:=K6 U s hlt;have A:=hU.at_ U[s[i]] (a1N R);have J:U.getD s[i] []=U[s[i]]:=by simp[a2L,R]
  have E:(U.map fun r=>[ints r])[s[i]]?=some [ints U[s[i]]]:=by simp[R]
  rw[J] at e;generalize U[s[i]]=u at *
  generalize s[i]=x at *
  simp only[go_sem,d,po,hc,M,N,a2H,pq,O,S,a1K,E];have one:=fun {K:bV} [Up K] {F:PF}=>aiE (C:=C) (K:=K) y p w c nd n i B u A.1 A.2 (mO U (s.take i)) (F:=F) l 3 rfl;refine one (by (repeat' (first|exact d_|refine c_ ?_ ?_))<;>first|(simp only[go_sem,a1K]<;>rfl)|rfl) fun H' W=>?_;rw[← e] at W;simp only[go_sem,p5,wZz i];exact aK (i+1,H') ⟨hlt,W⟩ (by simp only; omega) Lq b_
 ·have d:¬ (i:Int)<(n:Nat):=Om;have:i=s.length:=Om;subst this;rw[a2O] at l;simp only[go_sem,d];exact Up.up Lq (Z X l)
def scD (l:List Int) (k:Nat):List Int:=bZ ((a1S k).filter fun d=>l.contains (d:Int))
theorem azS (l:List Int) (k:Nat):scD l (k+1)=if l.contains (k:Int) then scD l k++[(k:Int)] else scD l k:=by
 unfold scD;rw[List.range_succ,List.filter_append,ayY];by_cases h:l.contains (k:Int)
 ·rw[if_pos h]; simp[bZ] at h ⊢; simp[h]
 ·rw[if_neg h]; simp[bZ] at h ⊢; simp[h]
theorem aKF (l:List Int) (k:Nat):(scD l k).length≤k:=by
 unfold scD;rw[fK];exact a2X (List.length_filter_le ..) (by simp)
theorem Bj {C:Ctx} {K:bV} [Up K] (w u B c nd:Nat) (W:nd≤1000) (E J:PV) (U:List (List Int)) (s:List Nat) (l:List Int) {F:PF} {H:PH} {L:List LI}
  (i:aP H (scB u w c B J U s nd l) L)
  (R:((((((((PF.nil.set 2 (E)).set 6 (.ptr w 1 0 0)).set 7 (.ptr u 1 0 0)).set 14 (.aB)).set 86 (.osl B 1 0 nd)).set 87 (.int .i64 nd)).set 88 (.int .i64 0))).le F)
  (S:∀ v H',aP H' (scB u w c B J U s nd l) (L++[(v,1,bC (scD l nd))])→K (.exit 6) (((((PF.nil.set 2 (E)).set 6 (.ptr w 1 0 0)).set 7 (.ptr u 1 0 0)).set 14 (v))) H') :
  aC.wp C (.loop LG) K F H:=by
 refine wp_loop (α:=Nat × PV × PH) (fun t=>(((((((PF.nil.set 2 (E)).set 6 (.ptr w 1 0 0)).set 7 (.ptr u 1 0 0)).set 14 (t.2.1)).set 86 (.osl B 1 0 nd)).set 87 (.int .i64 nd)).set 88 (.int .i64 t.1))) (fun t=>t.2.2) (fun t=>t.1≤nd∧aP t.2.2 (scB u w c B J U s nd l) (L++[(t.2.1,1,bC (scD l t.1))])) (fun t=>nd-t.1) (0,.aB,H) ⟨a1X _,i.sC 1⟩ R b_ ?_;clear i;rintro⟨k,v,M⟩ ⟨V,i⟩;simp only at V i;simp only[go_sem,LG,p8];by_cases hlt:k<nd
 ·have e:(k:Int)<(nd:Nat):=Om;have y:=i.at 3 rfl;have d:=azS l k;have Q:=aKF l k;have x:k<(dJ (marks nd l)).length:=by rw[yQ,MV]; exact hlt
  have p:(dJ (marks nd l))[k]?=some [.bool (l.contains (k:Int))]:=by have:=xT (n:=nd) (l:=l) (m:=(k:Int)) Om e;rw[a3P] at this;unfold dJ;rw[a2K,this]; rfl
  cases O:l.contains (k:Int) with
  | true =>
   rw[O] at p d;rw[if_pos rfl] at d;simp only[go_sem,e,LH,y,p,x,a2H,LJ,p9];refine i.append L.length (rows:=bC (scD l k)) (src:=[[.int .i64 k]]) (lk _ _ _ rfl) Sq (by unfold roomFor; rw[dR]; simp only[a1T,maxLen]; omega) fun v' H' N _=>?_;have A:bC (scD l k)++[[.int .i64 k]]=bC (scD l (k+1)):=by rw[d,MQ]; rfl
   rw[A,a4P _ _ (a1O _),Nat.sub_self] at N;simp only[go_sem,LK,wZz k];exact aK (k+1,v',H') ⟨hlt,N⟩ (by simp only; omega) Lq b_
  | false =>rw[O] at p d;rw[if_neg (by decide)] at d;rw[← d] at i;simp only[go_sem,e,LH,y,p,x,a2H,LJ,LK,wZz k];exact aK (k+1,v,M) ⟨hlt,i⟩ (by simp only; omega) Lq b_
 ·have e:¬ (k:Int)<(nd:Nat):=Om;have:k=nd:=Om;subst this;simp only[go_sem,e];exact Up.up Lq (S v M i)
def fN (f:aJ) (lv cnt:Int):Int:=if jP f&&(decide (1≤lv)&&decide (lv≤5)&&decide (1≤cnt)&&decide (cnt≤3)) then (if 12<f.aZZ.length∨512<eP ((eX f lv).length:Nat) cnt.toNat then 2 else 0) else 1
def dE (f:aJ) (lv cnt:Int):List (List Int):=if fN f lv cnt=0 then mF f (eX f lv) cnt.toNat else []
structure Ag (C:Ctx):Prop extends Af C where
 val:∀ f:aJ,f.Ok→aF C 96 [.agg f.cells] .nil (aH (.int .i64 (vD f)))
 units:∀ (f:aJ) (lv:Int),VF f→1≤lv→lv≤5→aF C 206 [.agg f.cells,.int .i64 lv] .nil (aH (lay (eX f lv)))
 choose:∀ m n:Nat,m≤1000→n≤3→aF C 207 [.int .i64 m,.int .i64 n] .nil (aH (.int .i64 (max (eP m n) 0)))
theorem tL {f:aJ} (hV:VF f) (lv:Int):UOk f.aZZ.length (eX f lv)∧(eX f lv).length≤40:=by
 have E:=hV.small.aZZ;have w:=hV.small.a0C;by_cases c:lv=5
 ·subst c;rw[xd];refine⟨⟨by simp; omega,fun u l=>?_⟩,by simp; omega⟩;obtain⟨d,e,rfl⟩:=a2G.1 l;rw[a3B] at e;refine⟨by simp,fun x p=>?_⟩;rw[a3O] at p;omega
 ·rw[K7 f c];have A:(nE f lv f.aZZ.length).length≤40:=by rw[jd];exact a2X (List.length_filter_le ..) (by simp; omega)
  refine⟨⟨by omega,fun u l=>?_⟩,A⟩;obtain⟨i,-,rfl⟩:=a2G.1 l;refine⟨by rw[fK]; have:=cv f lv f.aZZ.length i; omega,fun x p=>?_⟩;obtain⟨y,B,rfl⟩:=a2G.1 p;have:=a3B.1 (List.mem_filter.1 B).1;omega
theorem aQD (U:List (List Int)) (s:List Nat) (nd:Nat):scD (mO U s) nd=bZ ((a1S nd).filter (oX U s)):=by
 unfold scD;congr 2;funext d;exact O6 U s d
instance upDone {R:PH→Prop}:Up (yX R):=⟨fun {e F c H} _ h=>by cases e<;>exact h⟩
def Am (d e:Nat) (U:List (List Int)) (i:List (List Int)) (G:PH):Prop:=∃ c ps,aP G [(d,.rows 1 [[c]]),(e,.rows 1 [[lay U]])] (fD c ps)∧wls ps=i
theorem Mz {C:Ctx} (f:aJ) (hV:VF f) (U:List (List Int)) (hU:UOk f.aZZ.length U) (X:U.length≤40) (n:Nat) (α:1≤n) (hn:n≤3) (B l:Nat) (F:PF) (f2:F 2=some (.cT f.cells)) (f6:F 6=some (.ptr B 1 0 0)) (f7:F 7=some (.ptr l 1 0 0)) (k:Nat) (Y:k<(cW U.length n 0).length) (G:PH) (c:Nat)
  (hI:Am l B U (((cW U.length n 0).take k).map fun s=>bZ ((a1S f.aZZ.length).filter (oX U s))) G) (hc:G c=none) :
  LC.wp C (gX C (LD.wp C) (yX (Am l B U (((cW U.length n 0).take (k+1)).map fun s=>bZ ((a1S f.aZZ.length).filter (oX U s)))))) (F.set 61 (.osl c 1 0 n)) (G.set c (.rows 1 (bC (bZ (cW U.length n 0)[k])))):=by
 obtain⟨u,ps,hH,Z⟩:=hI;have y:=hV.small;have M:(f.aZZ.length:Int)*((1:Nat):Int)≤140737488355328:=by have:=y.aZZ; omega
 have N:(f.aZZ.length:Int)≤9223372036854775807:=by have:=y.aZZ; omega
 have d:(0:Int)≤(f.aZZ.length:Int):=Om;have Q:=qR U.length n 0 _ (a1N Y);have R:(cW U.length n 0).take (k+1)=(cW U.length n 0).take k++[(cW U.length n 0)[k]]:=a3I Y;have β:ps.length≤1099511627776:=by
  rw[← DM,Z,a1K,a2A];have h1:=yF U.length n 0;have V:2 ^ (U.length-0)≤2 ^ 40:=a4Y Om Om;have e:(2:Nat) ^ 40=1099511627776:=by decide
  omega
 generalize (cW U.length n 0)[k]=s at *
 obtain⟨sl,J,-⟩:=Q;rw[R,a2N,← Z];have V:=hH.new hc (.rows 1 (bC (bZ s)));simp only[go_sem,LC,Bq,LD,Br,f2,a1K,M,N,d,Int.le_refl,a3P];refine aQ fun S O=>?_;rw[KO];have h3:=V.new O (.rows 1 (dJ (marks f.aZZ.length [])));simp only[go_sem,pj];have mk:=fun {K:bV} [Up K] {F:PF} {H:PH}=>My (C:=C) (K:=K) B l S c f.aZZ.length n (.cT f.cells) u U hU s sl (fun x hx=>(J x hx).2) Om (F:=F) (H:=H) (L:=fD u ps);refine mk h3 (by (repeat' (first|exact d_|refine c_ ?_ ?_))<;>first|(simp only[go_sem,f2,f6,f7]<;>rfl)|rfl) fun H1 h4=>?_;simp only[go_sem,p6,p7];have dr:=fun {K:bV} [Up K] {F:PF} {H:PH}=>Bj (C:=C) (K:=K) B l S c f.aZZ.length (by have:=y.aZZ; omega) (.cT f.cells) u U s (mO U s) (F:=F) (H:=H) (L:=fD u ps);refine dr h4 Lq fun v H2 h5=>?_;have W:=h5.own (fD u ps).length (lk _ _ _ rfl);have E:=h5.at 0 rfl;rw[aQD] at h5 W;generalize hD:bZ ((a1S f.aZZ.length).filter (oX U s))=D at *
 have fin:∀ (i:Nat) (H':PH),aP H' (scB l B c S u U s f.aZZ.length (mO U s)) ((fD u ps++[(v,1,bC D)]).set 0 (PV.osl i 1 0 (dM ps++[[v]]).length,1,dM ps++[[v]]))→Am l B U (wls ps++[D]) (H'.set l (.rows 1 [[PV.osl i 1 0 (dM ps++[[v]]).length]])):=by
  intro i H' w;have h7:=w.set 0 rfl (bY.rows 1 [[PV.osl i 1 0 (dM ps++[[v]]).length]]);refine⟨PV.osl i 1 0 (dM ps++[[v]]).length,ps++[(v,D)],?_,?_⟩
  ·have e:fD (PV.osl i 1 0 (dM ps++[[v]]).length) (ps++[(v,D)])=(fD u ps++[(v,1,bC D)]).set 0 (PV.osl i 1 0 (dM ps++[[v]]).length,1,dM ps++[[v]]):=by unfold fD dM oK;rw[a2N,a2N];rfl
   rw[e];exact (h7.mW 3).mW 2
  ·unfold wls;rw[a2N]; rfl
 have p:roomFor (dM ps).length 1 24:=by unfold roomFor; rw[mR]; simp only[maxLen]; omega
 rcases W with ⟨-,rfl⟩ | ⟨q,rs,rfl,-,-,-⟩
 ·simp only[go_sem,LL,E,a1R,a2B,or_false,forall_eq];refine h5.append 0 (rows:=dM ps) (src:=[[PV.aB]]) rfl Sq p fun v' H' w A=>?_;obtain⟨i,rfl⟩:=A (by simp);have d:=w.at 0 rfl;simp only[go_sem,d,a1R,a2B,or_false,forall_eq];exact fin i H' w
 ·simp only[go_sem,LL,E,a1R,a2B,or_false,forall_eq];refine h5.append 0 (rows:=dM ps) (src:=[[PV.osl q 1 0 (bC D).length]]) rfl Sq p fun v' H' w A=>?_;obtain⟨i,rfl⟩:=A (by simp);have d:=w.at 0 rfl;simp only[go_sem,d,a1R,a2B,or_false,forall_eq];exact fin i H' w
abbrev oY (lv cnt:Int):PV:=.agg [.int .i64 lv,.int .i64 cnt]
theorem awA {C:Ctx} (J:Ag C) (K M:Code) (f:aJ) (hf:f.Ok) (lv cnt:Int) :
  (EJ K M).wp C (aX (Yd K M).res (cD (.tup [lay (dE f lv cnt),.int .i64 (fN f lv cnt)]))) (PF.args [.agg f.cells,oY lv cnt]) .nil:=by
 have hB:dE f lv cnt=if fN f lv cnt=0 then mF f (eX f lv) cnt.toNat else []:=rfl
 have O:fN f lv cnt=if jP f&&(decide (1≤lv)&&decide (lv≤5)&&decide (1≤cnt)&&decide (cnt≤3)) then (if 12<f.aZZ.length∨512<eP ((eX f lv).length:Nat) cnt.toNat then 2 else 0) else 1:=rfl
 have hv:=J.val f hf;unfold vD at hv;have i:∀ (e:Int) (F:PF) (H:PH),e≠0→fN f lv cnt=e→F 4=some .aB→F 5=some (.int .i64 e)→aX [.tmp 4,.tmp 5] (cD (.tup [lay (dE f lv cnt),.int .i64 (fN f lv cnt)])) .ret F H:=by intro e F H he d h2 h3;rw[d,if_neg he] at hB;rw[hB,d];exact zO (H:=H) (.inr rfl) (by simp only[go_sem,h2,h3]) (show aP H [] (fD .aB []) from aP.QW aP.nil)
 have X:(jP f&&(decide (1≤lv)&&decide (lv≤5)&&decide (1≤cnt)&&decide (cnt≤3)))=false→fN f lv cnt=1:=fun h=>by rw[O,h]; rfl
 simp only[go_sem,EJ,oT.wp,Bk,Bl,Yd];refine aA hv Ev ?_;cases hp:jP f with
 | false =>have d:=X (by rw[hp]; rfl);simp only[go_sem,dX (show (1:Int)≠0 by decide),sU];exact i 1 _ _ (by decide) d Sq Sq
 | true =>
  have hV:=VF.of hp;by_cases N:lv<1
  ·have d:=X (by rw[decide_eq_false (Om:¬ 1≤lv)]; simp);simp only[go_sem,bR (show (0:Int)=0 from rfl),N,sU];exact i 1 _ _ (by decide) d Sq Sq
  by_cases c2:lv>5
  ·have d:=X (by rw[decide_eq_false (Om:¬ lv≤5)]; simp);simp only[go_sem,bR (show (0:Int)=0 from rfl),N,c2,sU];exact i 1 _ _ (by decide) d Sq Sq
  by_cases c3:cnt<1
  ·have d:=X (by rw[decide_eq_false (Om:¬ 1≤cnt)]; simp);simp only[go_sem,bR (show (0:Int)=0 from rfl),N,c2,c3,sU];exact i 1 _ _ (by decide) d Sq Sq
  by_cases c4:cnt>3
  ·have d:=X (by rw[decide_eq_false (Om:¬ cnt≤3)]; simp);simp only[go_sem,bR (show (0:Int)=0 from rfl),N,c2,c3,c4,sU];exact i 1 _ _ (by decide) d Sq Sq
  obtain⟨n,rfl⟩:∃ n:Nat,cnt=n:=⟨cnt.toNat,by omega⟩;rw[hp,decide_eq_true (Om:1≤lv),decide_eq_true (Om:lv≤5),decide_eq_true (Om:(1:Int)≤(n:Int)),decide_eq_true (Om:(n:Int)≤3),a4N,a4N,a4N,a4N,if_pos rfl,a3P] at O;rw[a3P] at hB;obtain⟨hU,R⟩:=tL hV lv;have w:=J.units f lv hV Om Om;generalize eX f lv=U at *
  simp only[go_sem,bR (show (0:Int)=0 from rfl),N,c2,c3,c4,Bm];refine aA w Ev ?_;simp only[go_sem];refine aQ fun p δ=>?_;simp only[go_sem,Bn,a1K];by_cases c5:12<f.aZZ.length
  ·have d:fN f lv n=2:=by rw[O,if_pos (.inl c5)]
   simp only[go_sem,show (f.aZZ.length:Int)>12 by omega,UD];exact i 2 _ _ (by decide) d Sq Sq
  simp only[go_sem,show ¬ (f.aZZ.length:Int)>12 by omega];refine aA (J.choose U.length n Om Om) Ev ?_;by_cases c6:512<eP (U.length:Nat) n
  ·have d:fN f lv n=2:=by rw[O,if_pos (.inr c6)]
   simp only[go_sem,show max (eP (U.length:Nat) n) 0>512 by omega,UD];exact i 2 _ _ (by decide) d Sq Sq
  have d:fN f lv n=0:=by rw[O,if_neg (fun h=>h.elim c5 c6)]
  rw[d,if_pos rfl] at hB;rw[hB,d];simp only[go_sem,show ¬ max (eP (U.length:Nat) n) 0>512 by omega,Bo];refine aQ fun l E=>?_;have ζ:¬ l=p:=by rintro rfl; rw[cP] at E; cases E
  have y:¬ p=l:=fun e=>ζ e.symm;simp only[go_sem,Bp,y,a1K];refine lY (J.subs n U.length) Sq a_ ?_;rintro r H' ⟨o1,o2,B,rfl,rfl⟩ γ;have α:∀ o x,(((PH.nil.set o1 (.rows 1 [[.int .i64 n]])).set o2 (.rows 1 [[.int .i64 (U.length:Nat)]])):PH) o=some x→¬ l=o∧¬ p=o:=fun o x h=>by
   have:=γ o x h rfl;refine⟨fun e=>?_,fun e=>?_⟩
   ·rw[← e,cP] at this; cases this
   ·rw[← e,aV,if_neg y,cP] at this; cases this
  obtain⟨V,Y⟩:=α o1 _ (by rw[aV,if_neg B,cP]);obtain⟨W,Z⟩:=α o2 _ (by rw[cP]);simp only[go_sem];generalize Q:PF.set _ 60 _=F;have f2:F 2=some (.cT f.cells):=by rw[← Q]; simp only[go_sem]
  have f6:F 6=some (.ptr p 1 0 0):=by rw[← Q]; simp only[go_sem]
  have f7:F 7=some (.ptr l 1 0 0):=by rw[← Q]; simp only[go_sem]
  have η:F 60=some (.fn 211 [.ptr o1 1 0 0,.ptr o2 1 0 0]):=by rw[← Q]; simp only[go_sem]
  clear Q;have A:mF f U n=((cW U.length n 0).take (cW U.length n 0).length).map fun s=>bZ ((a1S f.aZZ.length).filter (oX U s)):=by rw[a2O]; rfl
  have u:aP ((PH.nil.set p (.rows 1 [[lay U]])).set l (.rows 1 [[.aB]])) [(l,.rows 1 [[.aB]]),(p,.rows 1 [[lay U]])] (fD .aB []):=((((aP.nil (H:=PH.nil)).new δ _).new E _).perm (List.Perm.swap _ _ _) (List.Perm.refl _)).QW;refine⟨211,[.ptr o1 1 0 0,.ptr o2 1 0 0],Am l p U (mF f U n),rfl,fun hY=>?_,fun H2 β=>?_⟩
  ·rw[A];refine cx (m:=104) (t:=61) J.toXU rfl Om Om Om B (fun k=>Am l p U (((cW U.length n 0).take k).map fun s=>bZ ((a1S f.aZZ.length).filter (oX U s)))) ((PH.nil.set p (.rows 1 [[lay U]])).set l (.rows 1 [[.aB]])) ⟨.aB,[],u,rfl⟩ ?_ ?_ ?_ ?_ ?_ hY fun k hk G c hI hc=>Mz f hV U hU R n Om Om p l F f2 f6 f7 k hk G c hI hc
   ·intro o x S;rw[gS];have e1:¬ o=o1:=fun e=>by rw[e,aV,if_neg (fun h=>V h.symm),aV,if_neg (fun h=>Y h.symm)] at S; cases S
    have e2:¬ o=o2:=fun e=>by rw[e,aV,if_neg (fun h=>W h.symm),aV,if_neg (fun h=>Z h.symm)] at S; cases S
    have:((PH.nil.set o1 (.rows 1 [[.int .i64 n]])).set o2 (.rows 1 [[.int .i64 (U.length:Nat)]]):PH) o=none:=by rw[aV,if_neg e2,aV,if_neg e1]; rfl
    rw[this];exact S
   ·rw[gS]; simp only[aV,if_neg B,if_true]
   ·rw[gS]; simp only[aV,if_true]
   ·rw[aV,if_neg (fun e=>V e.symm),aV,if_neg (fun e=>Y e.symm)]; rfl
   ·rw[aV,if_neg (fun e=>W e.symm),aV,if_neg (fun e=>Z e.symm)]; rfl
  ·obtain⟨vo,ps,hH,ε⟩:=β;have hb:=hH.at 0 rfl;simp only[go_sem,ac,qa,f7,hb];rw[← ε];exact zO (.inr rfl) Sq ((hH.mW 0).mW 0)
theorem Mt {set:List Int} {n top:Int} (h:pM set n top=true):set.Pairwise (· < ·):=by
 unfold pM at h;simp only[a1Z,decide_eq_true_eq,a2F,a3B] at h;have c:∀ i (hi:i+1<set.length),set[i]<set[i+1]:=by
  intro i hi;have:=h.2 (i+1) hi;unfold mV at this;have g1:set.getD (i+1) 0=set[i+1]:=by simp[a2L,hi]
  have g2:set.getD (i+1-1) 0=set[i]:=by simp[a2L,show i<set.length by omega]
  rw[g1,g2] at this;simp only[a1Z,Bool.or_eq_true,decide_eq_true_eq] at this;rcases this.2 with h | h
  ·omega
  ·exact h
 rw[List.pairwise_iff_getElem];intro i j hi u e;obtain⟨d,rfl⟩:∃ d,j=i+1+d:=⟨j-i-1,by omega⟩;clear e
 induction d with
 | zero=>exact c i u
 | succ d w =>have l:=w Om;have p:=c (i+1+d) Om;exact Int.lt_trans l p
theorem SA {l:List Nat} (h:l.Pairwise (· < ·)):(bZ l).Pairwise (· < ·):=by
 unfold bZ;rw[List.pairwise_map];exact h.imp fun h=>by omega
theorem yC {f:aJ} (hV:VF f) (U:List (List Int)) (l:U.length≤40) (n:Nat):(mF f U n).length≤1099511627776∧∀ s∈mF f U n,s.length≤24∧s.Pairwise (· < ·):=by
 have p:=hV.small.aZZ;unfold mF;constructor
 ·rw[a1K];have d:=yF U.length n 0;have i:2 ^ (U.length-0)≤2 ^ 40:=a4Y Om Om;have e:(2:Nat) ^ 40=1099511627776:=by decide
  omega
 ·intro s c;obtain⟨t,-,rfl⟩:=a2G.1 c;refine⟨?_,SA (List.pairwise_lt_range.filter _)⟩;rw[fK];exact a2X (List.length_filter_le ..) (by simp; omega)
def nY (f:aJ) (a0L:Int) (set:List Int) (lv cnt:Int):Int:=if fN f lv cnt≠0 then fN f lv cnt else if DO f a0L set then 0 else 1
def vO (f:aJ) (a0L:Int) (set:List Int) (lv cnt:Int):Nat:=if nY f a0L set lv cnt=0 then fT (dE f lv cnt) set (cI f a0L).m else 0
structure Ah (C:Ctx):Prop extends Ag C where
 vC:∀ (f:aJ) (lv cnt:Int),f.Ok→aF C 230 [.agg f.cells,oY lv cnt] .nil (aH (.tup [lay (dE f lv cnt),.int .i64 (fN f lv cnt)]))
 admis:∀ (f:aJ) (a0L:Int) (set:List Int),f.Ok→set.length≤1000000000000000→aF C 204 [.agg f.cells,.int .i64 a0L,ints set] .nil (aH (.bool (DO f a0L set)))
 loss:∀ (sc:List (List Int)) (set:List Int) (m:Int),sc.length≤1000000000000000→(∀ s∈sc,s.length≤1000000000000000∧s.Pairwise (· < ·))→set.length≤1000000000000000→set.Pairwise (· < ·)→aF C 208 [lay sc,ints set,.int .i64 m] .nil (aH (.int .i64 (fT sc set m:Nat)))
theorem X6 {C:Ctx} (l:Ah C) (f:aJ) (x:f.Ok) (a0L:Int) (set:List Int) (y:set.length≤1000000000000000) (lv cnt:Int) :
  xJ.wp C (aX ki.res (aH (.tup [.int .i64 (vO f a0L set lv cnt:Nat),.int .i64 (nY f a0L set lv cnt)]))) (PF.args [.agg f.cells,.int .i64 a0L,ints set,oY lv cnt]) .nil:=by
 have hB:vO f a0L set lv cnt=if nY f a0L set lv cnt=0 then fT (dE f lv cnt) set (cI f a0L).m else 0:=rfl
 have d:nY f a0L set lv cnt=if fN f lv cnt≠0 then fN f lv cnt else if DO f a0L set then 0 else 1:=rfl
 simp only[go_sem,xJ,ZA,ZB,ki];refine aA (l.vC f lv cnt x) Ev ?_;by_cases c:fN f lv cnt≠0
 ·rw[if_pos c] at d;rw[d,if_neg c] at hB;simp only[go_sem,EA,dX c,ZC];refine bE (.inr rfl) Ev ?_;rw[hB,d]; rfl
 have c:fN f lv cnt=0:=Decidable.not_not.1 c;rw[if_neg (fun h=>h c)] at d;simp only[go_sem,EA,c,bR (show (0:Int)=0 from rfl),ZD];refine aA (l.admis f a0L set x y) Ev ?_;cases e:DO f a0L set with
 | false =>rw[e,if_neg (by decide)] at d;rw[d,if_neg (by decide)] at hB;simp only[go_sem,a2I,ZE];refine bE (.inr rfl) Ev ?_;rw[hB,d]; rfl
 | true =>
  rw[e,if_pos rfl] at d;rw[d,if_pos rfl] at hB;have u:fW f a0L=true∧pM set (gW (cI f a0L)) f.aZZ.length=true:=by unfold DO at e;simp only[a1Z] at e;exact⟨e.1,e.2.1⟩
  obtain⟨hV,B,H,F⟩:=mZ u.1;obtain⟨E,p⟩:=mP u.1;have i:(f.a0D.map cB.cells)[a0L.toNat]?=some (cI f a0L).cells:=by rw[a2K,p]; rfl
  have hlt:a0L<(f.a0D.length:Nat):=Om;have w:dE f lv cnt=mF f (eX f lv) cnt.toNat:=by unfold dE; rw[if_pos c]
  obtain⟨k1,k2⟩:=yC hV (eX f lv) (tL hV lv).2 cnt.toNat;rw[← w] at k1 k2;simp only[go_sem,a1W,ZF,B,hlt,a1K,i];refine aA (l.loss (dE f lv cnt) set (cI f a0L).m Om (fun s A=>⟨by have:=(k2 s A).1; omega,(k2 s A).2⟩) y (Mt u.2)) Ev ?_;simp only[go_sem];refine bE (.inr rfl) Ev ?_;rw[hB,d]; rfl
def FR.got:FR→FV
 | .ok x=>x
 | .error _=>(false,0,0)
def FR.err:FR→Int
 | .ok _=>0
 | .error e=>e
theorem QI (r:FR):frV r=.tup [.agg r.got.rf.cells,.int .i64 r.err]:=by
 rcases r with e | ⟨n,a,b⟩
 ·show frV (.error e)=.tup [.agg (dN false (aE 0) (aE 0)),.int .i64 e];rw[dO]; rfl
 ·rfl
def Ii:FV→FV
 | (n,a,b)=>(!n,a,b)
def oP (x y:FV):FR:=fU x (Ii y)
def aaR:FV→FV
 | (n,a,b)=>if a=0 then (n,a,b) else (!n,a,b)
theorem aLJ (x y:FV):fU x (aaR y)=oP x y:=by
 obtain⟨c,a1,b1⟩:=x;obtain⟨d,a2,b2⟩:=y;unfold oP aaR Ii;by_cases h:a2=0
 ·subst h;simp only[if_true,fU,Nat.zero_mul,a3S,Nat.sub_zero,a1X];split<;>rename_i e
  ·cases c<;>cases d<;>simp
  ·rfl
 ·simp only[if_neg h]
def Cst (j:Nat) (x:FV):Prop:=x.2.2≠0∧nl x.2.1≤2+9*j∧nl x.2.2≤1+8*j
theorem aIR {neg:Bool} {a b m n:Nat} (w:b≠0) (c:nl a≤m) (d:nl b≤n) (i:m≤128) (l:n≤128):∃ x,gD neg a b=.ok x∧x.2.2≠0∧nl x.2.1≤m∧nl x.2.2≤n:=by
 have p:=(jE (a/a1L a b) 128).2 (a2X (nC _ c) i);have u:=(jE (b/a1L a b) 128).2 (a2X (nC _ d) l);unfold gD;rw[if_neg Om];refine⟨_,rfl,?_,nC _ c,nC _ d⟩;have e:0<a1L a b:=Nat.gcd_pos_of_pos_right _ Om;have:=Nat.div_pos (Nat.le_of_dvd Om (Nat.gcd_dvd_right a b)) e;show b/a1L a b≠0;omega
theorem aLI {j:Nat} {x y:FV} (w:Cst j x) (M:j≤12) (B:y.2.2≠0∧nl y.2.1≤8∧nl y.2.2≤8):∃ r,oP x y=.ok r∧Cst (j+1) r:=by
 obtain⟨O,a1,b1⟩:=x;obtain⟨Q,a2,b2⟩:=y;obtain⟨d,i,e⟩:=w;obtain⟨g1,g2,g3⟩:=B;simp only at d i e g1 g2 g3;have J:cG a1 b1=true:=dU.2 ⟨d,by omega,by omega⟩;have K:cG a2 b2=true:=dU.2 ⟨g1,by omega,by omega⟩;have E:=jL i g3;have F:=jL g2 e;have H:=jL e g3;have l:b1*b2≠0:=Nat.mul_ne_zero d g1;have c:∀ neg A,nl A≤2+9*j+8+1→∃ r,gD neg A (b1*b2)=.ok r∧Cst (j+1) r:=by intro neg A p;obtain⟨r,u,k1,k2,N⟩:=aIR (neg:=neg) l p H Om Om;exact⟨r,u,k1,by omega,by omega⟩
 unfold oP Ii;simp only[fU,J,K,a4N,if_true];have s1:=fv (m:=2+9*j+8) E (a2X F Om);have s2:=fE (Om:a1*b2-a2*b1≤a1*b2);have s3:=fE (Om:a2*b1-a1*b2≤a2*b1);split
 ·exact c _ _ s1
 ·split
  ·exact c _ _ Om
  ·exact c _ _ Om
def jT (c:List RF) (d:Int):FV:=(c.map RF.v).getD d.toNat (false,0,1)
def iD (e:List RF) (n:Nat) (l:List Int):FV:=l.foldl (fun c d=>(oP c (jT e d)).got) (false,n,1)
theorem EC (c:List RF) (n:Nat) (l:List Int) (d:Int):iD c n (l++[d])=(oP (iD c n l) (jT c d)).got:=by
 unfold iD;rw[List.foldl_append]; rfl
def Modest (c:List RF):Prop:=∀ x∈c,val x.den≠0∧nl (val x.num)≤8∧nl (val x.den)≤8
theorem N1 {c:List RF} (h:Modest c) (d:Int):(jT c d).2.2≠0∧nl (jT c d).2.1≤8∧nl (jT c d).2.2≤8:=by
 unfold jT;rw[a2L];cases e:(c.map RF.v)[d.toNat]? with
 | none =>
  refine⟨Nat.one_ne_zero,?_,?_⟩
  ·show nl 0≤8;rw[nl,dO]; simp
  ·show nl 1≤8;rw[nl,mQ]; simp
 | some x =>obtain⟨y,i,rfl⟩:=a2G.1 (a3R e);exact h y i
theorem sT {c:List RF} (h:Modest c) {n:Nat} (A:n<18446744073709551616) (l:List Int) (i:l.length≤12):Cst l.length (iD c n l):=by
 obtain⟨r,rfl⟩:∃ r,l=List.reverse r:=⟨l.reverse,by simp⟩
 induction r with
 | nil =>
  refine⟨Nat.one_ne_zero,?_,?_⟩
  ·exact a2X (jB (n:=n) (k:=2) Om) Om
  ·show nl 1≤_;rw[nl,mQ]; simp
 | cons d r y =>
  rw[List.reverse_cons] at i ⊢;have u:r.reverse.length+1≤12:=by simpa using i
  have p:=y Om;rw[EC];obtain⟨x,w,e⟩:=aLI p Om (N1 h d);rw[w,a1P];exact e
def lG (x y:FV):Int:=pP x.1 x.2.1 x.2.2 y.1 y.2.1 y.2.2
def zL {α:Type} (c:α→FV):Option α→α→Option α
 | none,s=>some s
 | some b,s=>if lG (c s) (c b)<0 then some s else some b
def jR {α:Type} (c:α→FV) (l:List α):Option α:=l.foldl (zL c) none
theorem KJ {α:Type} (c:α→FV) (l:List α) (s:α):jR c (l++[s])=zL c (jR c l) s:=by
 unfold jR;rw[List.foldl_append]; rfl
def jG (x:RF):Bool:=match mB x with
 | .ok (_,a,b)=>decide (nl a≤2)&&decide (nl b≤2)
 | .error _=>false
def sH (f:aJ) (a0L lv cnt:Int) (c:List RF):Int :=
 if fN f lv cnt≠0 then fN f lv cnt
 else if (decide (0≤a0L)&&decide (a0L<f.a0D.length))&&(decide (c.length=f.aZZ.length)&&c.all jG) then (if eD f (cI f a0L)=[] then 12 else 0) else 1
def iR (f:aJ) (a0L lv cnt:Int) (c:List RF) (set:List Int):FV:=iD c (fT (dE f lv cnt) set (cI f a0L).m) set
def uQ (f:aJ) (a0L lv cnt:Int) (c:List RF):Option (List Int):=if sH f a0L lv cnt c=0 then jR (iR f a0L lv cnt c) (eD f (cI f a0L)) else none
def mL (f:aJ) (a0L lv cnt:Int) (c:List RF):PV:=.tup [ints ((uQ f a0L lv cnt c).getD []),.agg ((uQ f a0L lv cnt c).elim (FV.rf (false,0,0)) fun s=>(iR f a0L lv cnt c s).rf).cells,.int .i64 (sH f a0L lv cnt c)]
def q9:Rg:=[iA 1 (.box false (Tm 0)),iA 2 (.alloc [zB,.aB,.aB])]
def re:Rg:=[iF 3 0 1,iL 4 3,iA 5 (.un .not (Tm 4)),iF 6 0 1,iS 1 6 5]
def rg:Rg:=[iO 7 3 1,iS 3 2 7]
def AK:aC:=(sq q9 (sq re (sq rg .ret)))
def ajB:List Nat:=[]
def C6:aR:=⟨1,8,AK,[.cell 2 (some 3)]⟩
def Q6:Rg:=[iA 2 (.box true (Tm 0)),iA 3 (.box true (Tm 1)),iA 4 (.alloc [zB,.aB,.aB]),iI 5 0]
def Q7:Rd:=[(iO 6 3 2,true),(iO 7 3 3,false),(iK 8 279 7,true),(iK2 9 113 6 8,true),(iE 10 9 0,false),(iE 11 9 1,false)]
def Q8:Rd:=[(iS 3 4 10,true),(iM 5 11,false)]
def MF:aC:=(sq Q6 (.seq (dq Q7 (.draw Q8)) .ret))
def aHN:List Nat:=[2,3]
def ku:aR:=⟨2,12,MF,[.cell 4 (some 3),.tmp 5]⟩
def Xa:Rg:=[iA 1 (.box true (Tm 0)),iA 2 (.alloc [zB,.aB,.aB])]
def Xb:Rg:=[iF 3 1 1,iL 4 3,iK 5 38 4,iN 6 5,iC 7 .eql 6 0]
def Xc:Rg:=[iO 8 3 1,iS 3 2 8]
def Xd:Rg:=[iF 9 0 1,iL 10 9,iA 11 (.un .not (Tm 10)),iF 12 1 1,iL 13 12,iF 14 2 1,iL 15 14,iA 16 (.build [zB,.aB,.aB] [(0,1,(Tm 11)),(1,1,(Tm 13)),(2,1,(Tm 15))]),iS 3 2 16]
def PT:aC:=(sq Xa (.seq (sq Xb (.cond (Tm 7) (sq Xc .ret) .skip)) (sq Xd .ret)))
def aMA:List Nat:=[1]
def aEF:aR:=⟨1,17,PT,[.cell 2 (some 3)]⟩
def Xe:Rg:=[iA 2 (.box true (Tm 0)),iA 3 (.box true (Tm 1)),iA 4 (.alloc [zB,.aB,.aB]),iI 5 0]
def Xf:Rd:=[(iO 6 3 2,true),(iO 7 3 3,false),(iK 8 281 7,true),(iK2 9 46 6 8,true),(iE 10 9 0,false),(iE 11 9 1,false)]
def Xg:Rd:=[(iS 3 4 10,true),(iM 5 11,false)]
def PU:aC:=(sq Xe (.seq (dq Xf (.draw Xg)) .ret))
def aMC:List Nat:=[2,3]
def nj:aR:=⟨2,12,PU,[.cell 4 (some 3),.tmp 5]⟩
def ZH:Rg:=[iA 1 (.box true (Tm 0)),iT 2 false]
def ZI:Rg:=[iO 6 3 1,iK 7 116 6,iM 5 7,iE 8 5 0,iE 9 5 1,iA 3 (.alloc [zB,.aB,.aB]),iS 3 3 8,iM 4 9]
def ED:Rg:=[iM 10 4,iC 11 .eql 10 0,iM 12 11,gF 13 1 3 12 true,gL 14 13 12 true,gK 15 128 14 12 true,gC 16 .leq 15 64 12 true,iP 17 12 16,iM 18 17,gF 19 2 3 18 true,gL 20 19 18 true,gK 21 128 20 18 true,gC 22 .leq 21 64 18 true,iP 23 18 22,iM 2 23]
def xL:aC:=(sq ZH (sq ZI (sq ED .ret)))
def Yc:List Nat:=[1]
def kj:aR:=⟨1,24,xL,[.tmp 2]⟩
def ot:Rg:=[iA 4 (.box true (Tm 0)),iA 6 (.box true (Tm 2)),iZ 8,iA 9 (.alloc [zB,.aB,.aB]),iI 10 0]
def ou:Rg:=[iO 27 7 4,iO 28 2 6,iK2 29 230 27 28,iM 26 29,iE 30 26 0,iE 31 26 1,iM 11 30,iM 12 31]
def KZ:Rg:=[iM 33 12,iC 34 .neq 33 0,iM 32 34]
def ov:Rg:=[iA 35 (.build [zB,.aB,.aB] []),iM 36 12,iZ 8,iS 3 9 35,iM 10 36]
def ow:Rg:=[iM 38 1,iC 39 .lss 38 0,iM 40 39,gM 41 1 40 false,gF 42 5 4 40 false,gL 43 42 40 false,gN 44 43 40 false,gB 45 .geq 41 44 40 false,iQ 46 40 45,iM 47 46,gM 48 3 47 false,gN 49 48 47 false,gF 50 4 4 47 false,gL 51 50 47 false,gN 52 51 47 false,gB 53 .neq 49 52 47 false,iQ 54 47 53,iM 37 54]
def yU:Rg:=[iA 55 (.build [zB,.aB,.aB] []),iZ 8,iS 3 9 55,iI 10 1]
def oz:Rg:=[iM 56 3,iN 57 56,iI 58 0]
def pd:Rg:=[iB 59 .lss 58 57]
def pe:Rg:=[iX 60 3 56 58,iO 61 3 60,iA 14 (.alloc [zB,.aB,.aB]),iS 3 14 61]
def pi:Rg:=[iO 62 3 14,iK 63 232 62,iA 64 (.un .not (Tm 63))]
def ZL:Rg:=[iA 65 (.build [zB,.aB,.aB] []),iZ 8,iS 3 9 65,iI 10 1]
def ZM:Rg:=[iC 66 .add 58 1,iM 58 66]
def ZJ:aC:=(sq pd (.seq (.cond (Tm 59) .skip (.exit 1)) (.seq (.block 2 (sq pe (sq pi (.cond (Tm 64) (sq ZL .ret) .skip)))) (.region ZM))))
def ZN:Rg:=[iF 67 5 4,iL 68 67,iM 69 1,iX 70 17 68 69,iO 71 17 70,iA 15 (.alloc [(.str []),zI,zI,zI,zI,zI,zI,zI,zI,.aB,.aB,zB,.aB,.aB,zB,.aB,.aB]),iS 17 15 71]
def ZO:Rg:=[iZ 16]
def ZP:Rg:=[iA 17 (.alloc [zB,.aB,.aB])]
def ZQ:Rg:=[iO 72 7 4,iO 73 17 15,iK2 74 229 72 73,iN 75 74,iI 76 0]
def ZR:Rg:=[iB 77 .lss 76 75]
def ZS:Rg:=[iX 78 1 74 76,iL 79 78,iM 19 79]
def ZT:Rg:=[iM 81 11,iM 82 19,iF 83 2 15,iL 84 83,iA 85 (.call 208 [(Tm 81),(Tm 82),(Tm 84)]),iA 86 (.call 115 [(Tm 85),(Ci 1)]),iM 80 86,iE 87 80 0,iE 88 80 1,iA 20 (.alloc [zB,.aB,.aB]),iS 3 20 87,iM 21 88]
def ZU:Rg:=[iM 89 19,iN 90 89,iI 91 0]
def ZV:Rg:=[iB 92 .lss 91 90]
def ZW:Rg:=[iX 93 1 89 91,iL 94 93,iM 23 94]
def ZX:Rd:=[(iO 96 3 20,false),(iM 97 3,false),(iM 98 23,false),(iX 99 3 97 98,false),(iO 100 3 99,false),(iK2 101 278 96 100,true),(iM 95 101,false),(iE 102 95 0,false),(iE 103 95 1,true),(iS 3 20 102,true)]
def ZY:Rg:=[iC 104 .add 91 1,iM 91 104]
def EE:aC:=(sq ZV (.seq (.cond (Tm 92) .skip (.exit 5)) (.seq (.block 6 (sq ZW (.draw ZX))) (.region ZY))))
def EF:Rg:=[iO 106 3 20,iO 107 3 17,iK2 108 114 106 107,iM 105 108,iE 109 105 0,iE 110 105 1,iM 24 109,iM 25 110]
def EG:Rg:=[iM 111 16,iA 112 (.isNil false (Tm 111)),iM 113 112,gM 114 24 113 false,gC 115 .lss 114 0 113 false,iQ 116 113 115]
def EH:Rd:=[(iM 117 19,false),(iO 118 3 20,false),(iM 16 117,false),(iS 3 17 118,true)]
def vE:Rg:=[iC 119 .add 76 1,iM 76 119]
def ZK:aC:=(sq ZR (.seq (.cond (Tm 77) .skip (.exit 3)) (.seq (.block 4 (sq ZS (sq ZT (.seq (sq ZU (.block 5 (.loop EE))) (sq EF (sq EG (.cond (Tm 116) (.draw EH) .skip))))))) (.region vE))))
def EI:Rg:=[iM 120 16,iA 121 (.isNil false (Tm 120))]
def ZZ:Rg:=[iA 122 (.build [zB,.aB,.aB] []),iZ 8,iS 3 9 122,iI 10 12]
def aa:Rd:=[(iM 123 16,false),(iO 124 3 17,false),(iM 8 123,false),(iS 3 9 124,true),(iI 10 0,false)]
def AG:aC:=(sq ot (sq ou (.seq (.block 0 (sq KZ (.cond (Tm 32) (sq ov .ret) (sq ow (.cond (Tm 37) (sq yU .ret) .skip))))) (.seq (sq oz (.block 1 (.loop ZJ))) (sq ZN (sq ZO (sq ZP (.seq (sq ZQ (.block 3 (.loop ZK))) (.seq (sq EI (.cond (Tm 121) (sq ZZ .ret) .skip)) (dq aa .ret))))))))))
def aiD:List Nat:=[4,6]
def Bi:aR:=⟨4,125,AG,[.tmp 8,.cell 9 (some 3),.tmp 10]⟩
def uv:Rg:=[iT 10 false]
def uw:Rg:=[iM 29 0,iA 30 (.call 27 [(Tm 29),(Ci 7),(Ci 0)]),iA 11 (.alloc [zI,.aB,.aB,.aB,.aB,.aB,.aB]),iS 7 11 30]
def ux:Rg:=[iM 31 1,iA 32 (.conv .i64 (Tm 31)),iF 33 5 11,iL 34 33,iN 35 34,iB 36 .rem 32 35,iM 12 36]
def uy:Rg:=[iM 37 2,iM 38 3,iK2 39 223 37 38,iA 13 (.alloc [zI,zI]),iS 2 13 39]
def uz:Rg:=[iZ 14]
def u0:Rg:=[iI 15 0]
def u1:Rg:=[iM 40 15,iF 41 4 11,iL 42 41,iN 43 42,iB 44 .lss 40 43]
def u5:Rg:=[iA 47 (.call 47 [(Ci 0)]),iA 16 (.alloc [zB,.aB,.aB]),iS 3 16 47]
def u6:Rg:=[iM 48 15,iM 49 4,iN 50 49,iB 51 .lss 48 50]
def u7:Rg:=[iM 52 4,iM 53 15,iX 54 1 52 53,iL 55 54,iA 56 (.conv .i64 (Tm 55)),iC 57 .rem 56 6,iK 58 47 57,iS 3 16 58]
def HM:Rg:=[iM 59 14,iO 60 3 16,iA 61 (.a0F true 3 1 [zB,.aB,.aB] [(0,(Tm 60))]),iA 62 (.append 3 56 (Tm 59) (Tm 61)),iM 14 62]
def HN:Rg:=[iM 45 15,iC 46 .add 45 1,iM 15 46]
def HJ:aC:=(.seq (sq u1 (.cond (Tm 44) .skip (.exit 0))) (.seq (.block 1 (sq u5 (.seq (sq u6 (.cond (Tm 51) (.region u7) .skip)) (.region HM)))) (.region HN)))
def fy:Rg:=[iO 64 7 11,iM 65 12,iO 66 2 13,iM 67 14,iA 68 (.call 231 [(Tm 64),(Tm 65),(Tm 66),(Tm 67)]),iM 63 68,iE 69 63 0,iE 70 63 1,iE 71 63 2,iA 18 (.alloc [zB,.aB,.aB]),iM 17 69,iS 3 18 70,iM 19 71]
def fz:Rg:=[iO 73 7 11,iM 74 12,iK2 75 205 73 74,iM 72 75,iE 76 72 0,iE 77 72 1,iM 20 76,iM 21 77]
def ga:Rg:=[iM 78 21,iC 79 .neq 78 0]
def aaH:Rg:=[iT 10 false]
def gb:Rg:=[iM 80 20,iN 81 80,iC 82 .eql 81 0]
def gd:Rg:=[iM 83 19,iC 84 .eql 83 12,iM 85 84,iG 86 (.call 222 []) 85 true,iP 87 85 86,iM 10 87]
def ge:Rg:=[iT 22 true]
def gf:Rg:=[iI 23 0]
def gg:Rg:=[iM 88 23,iM 89 20,iN 90 89,iB 91 .lss 88 90]
def gh:Rd:=[(iO 95 7 11,false),(iM 96 12,false),(iM 97 20,false),(iM 98 23,false),(iX 99 1 97 98,false),(iL 100 99,false),(iO 101 2 13,false),(iA 102 (.call 209 [(Tm 95),(Tm 96),(Tm 100),(Tm 101)]),true),(iM 94 102,false),(iE 103 94 0,false),(iE 104 94 1,false),(iM 24 103,false),(iM 25 104,false)]
def gi:Rg:=[iM 105 24,iK 106 47 105,iA 26 (.alloc [zB,.aB,.aB]),iS 3 26 106]
def gj:Rg:=[iI 27 0]
def gk:Rg:=[iM 107 27,iM 108 20,iM 109 23,iX 110 1 108 109,iL 111 110,iN 112 111,iB 113 .lss 107 112]
def gl:Rg:=[iM 116 20,iM 117 23,iX 118 1 116 117,iL 119 118,iM 120 27,iX 121 1 119 120,iL 122 121,iC 123 .lss 122 0,iM 124 123,gM 125 20 124 false,gM 126 23 124 false,iG 127 (.a0Q 1 (Tm 125) (Tm 126)) 124 false,gL 128 127 124 false,gM 129 27 124 false,iG 130 (.a0Q 1 (Tm 128) (Tm 129)) 124 false,gL 131 130 124 false,gM 132 14 124 false,gN 133 132 124 false,gB 134 .geq 131 133 124 false,iQ 135 124 134]
def aaI:Rg:=[iT 10 false]
def gm:Rd:=[(iO 137 3 26,false),(iM 138 14,false),(iM 139 20,false),(iM 140 23,false),(iX 141 1 139 140,false),(iL 142 141,false),(iM 143 27,false),(iX 144 1 142 143,false),(iL 145 144,false),(iX 146 3 138 145,false),(iO 147 3 146,false),(iK2 148 280 137 147,true),(iM 136 148,false),(iE 149 136 0,false),(iE 150 136 1,true),(iS 3 26 149,true)]
def gn:Rg:=[iM 114 27,iC 115 .add 114 1,iM 27 115]
def HK:aC:=(.seq (sq gk (.cond (Tm 113) .skip (.exit 4))) (.seq (.block 5 (.seq (sq gl (.cond (Tm 135) (sq aaI .ret) .skip)) (.draw gm))) (.region gn)))
def gp:Rg:=[iM 151 20,iM 152 23,iX 153 1 151 152,iL 154 153,iM 155 17,iK2 156 94 154 155,iM 28 156]
def wC:Rg:=[iM 157 22,iM 158 157,gM 159 28 158 true,iG 160 (.un .not (Tm 159)) 158 true,iP 161 158 160,iM 22 161]
def wD:Rg:=[iM 162 25,iC 163 .neq 162 0,iM 164 163,gO 165 3 18 164 false,gK 166 56 165 164 false,iG 167 (.un .not (Tm 166)) 164 false,iQ 168 164 167,iM 169 168,gO 170 3 26 169 false,gO 171 3 18 169 false,gK2 172 49 170 171 169 false,iQ 173 169 172,iM 174 173,gM 175 28 174 false,gM 176 175 174 false,gO 177 3 26 176 true,gO 178 3 18 176 true,gK2 179 53 177 178 176 true,iG 180 (.un .not (Tm 179)) 176 true,iG 181 (.pick (Tm 176) (Tm 180) (.const zB)) 174 false,iQ 182 174 181,iM 183 182,gM 184 22 183 false,gM 185 184 183 false,gO 186 3 26 185 true,gO 187 3 18 185 true,gK2 188 53 186 187 185 true,iG 189 (.pick (Tm 185) (Tm 188) (.const zB)) 183 false,iQ 190 183 189]
def aaJ:Rg:=[iT 10 false]
def wE:Rg:=[iM 92 23,iC 93 .add 92 1,iM 23 93]
def HL:aC:=(.seq (sq gg (.cond (Tm 91) .skip (.exit 2))) (.seq (.block 3 (dq gh (sq gi (.seq (sq gj (.block 4 (.loop HK))) (sq gp (sq wC (sq wD (.cond (Tm 190) (sq aaJ .ret) .skip)))))))) (.region wE)))
def HO:Rg:=[iM 191 19,iC 192 .eql 191 0,iM 193 192,gM 194 22 193 true,iG 195 (.un .not (Tm 194)) 193 true,iP 196 193 195,iM 197 196,iG 198 (.call 222 []) 197 true,iP 199 197 198,iM 10 199]
def BJ:aC:=(sq uv (sq uw (sq ux (sq uy (sq uz (.seq (sq u0 (.block 0 (.loop HJ))) (sq fy (sq fz (.seq (sq ga (.cond (Tm 79) (sq aaH .ret) .skip)) (.seq (sq gb (.cond (Tm 82) (sq gd .ret) .skip)) (sq ge (.seq (sq gf (.block 2 (.loop HL))) (sq HO .ret)))))))))))))
def alC:List Nat:=[61]
def fx:aR:=⟨5,200,BJ,[.tmp 10]⟩
def RF.HG (x:RF):RF:=⟨!x.neg,x.num,x.den⟩
theorem aPL (x:RF):x.HG.v=Ii x.v:=rfl
theorem aJC {x:RF} (h:x.Ok):x.HG.Ok:=h
theorem ajA {C:Ctx} (x:RF):AK.wp C (aX C6.res (aH (.agg x.HG.cells))) (PF.args [.agg x.cells]) .nil:=by
 simp only[go_sem,AK,q9,C6];refine aQ fun o l=>?_;simp only[go_sem];refine aQ fun o2 i=>?_;have c:¬ o=o2:=fun e=>by rw[← e,cP] at i; cases i
 have d:¬ o2=o:=fun e=>c e.symm;simp only[go_sem,re,c,d,rg];refine bE (.inr rfl) Ev ?_;rfl
def stS (k:Nat) (a b:PV):Spec:=fun name _=>if name=k then some ([],fun _=>aH a) else some ([],fun _=>aH b)
theorem aHM {C:Ctx} (L:yM C) (d:∀ x:RF,aF C 279 [.agg x.cells] .nil (aH (.agg x.HG.cells))) (x y:RF) (e:x.Ok) (i:y.Ok) :
  MF.wp C (aX ku.res (aH (frV (oP x.v y.v)))) (PF.args [.agg x.cells,.agg y.cells]) .nil:=by
 have c:=L.plus x y.HG e (aJC i);rw[aPL] at c;unfold oP;generalize fU x.v (Ii y.v)=r at *
 rw[QI] at c ⊢;simp only[go_sem,MF,Q6,ku];refine aQ fun o l=>?_;simp only[go_sem];refine bX .nil (stS 279 (.agg y.HG.cells) (.tup [.agg r.got.rf.cells,.int .i64 r.err])) a_ ?_;simp only[go_sem,Q7];refine cK rfl (d y) Sq a_ ?_;simp only[go_sem];refine cK rfl c Sq a_ ?_;simp only[go_sem];refine bX .nil eH a_ ?_;simp only[go_sem,Q8];refine⟨a_,?_⟩;refine bE (.inr rfl) Ev ?_;rfl
def RF.opp (x:RF):RF:=if val x.num=0 then x else x.HG
theorem aTZ (x:RF):x.opp.v=aaR x.v:=by
 unfold RF.opp aaR RF.v RF.HG;simp only;split<;>rfl
theorem aPR {x:RF} (h:x.Ok):x.opp.Ok:=by
 unfold RF.opp;split
 ·exact h
 ·exact h
theorem aLZ {C:Ctx} (L:mS C) (x:RF) (e:x.Ok):PT.wp C (aX aEF.res (aH (.agg x.opp.cells))) (PF.args [.agg x.cells]) .nil:=by
 simp only[go_sem,PT,Xa,aEF];refine aQ fun o l=>?_;simp only[go_sem,Xb];refine aA (L.trim x.num e.1 e.2.2.1) Sq ?_;simp only[go_sem,a1K,aW];have i:=@gE (val x.num);unfold RF.opp;by_cases c:val x.num=0
 ·have d:((nl (val x.num):Nat):Int)=0:=Om;rw[if_pos c];simp only[go_sem,bN d,Xc];refine bE (.inr rfl) Ev ?_;rfl
 ·have d:¬ ((nl (val x.num):Nat):Int)=0:=Om;rw[if_neg c];simp only[go_sem,bF d,Xd];refine bE (.inr rfl) Ev ?_;rfl
theorem aMB {C:Ctx} (plus:∀ x y:RF,x.Ok→y.Ok→aF C 46 [.agg x.cells,.agg y.cells] .nil (aH (frV (fU x.v y.v)))) (e:∀ x:RF,x.Ok→aF C 281 [.agg x.cells] .nil (aH (.agg x.opp.cells))) (x y:RF) (i:x.Ok) (d:y.Ok) :
  PU.wp C (aX nj.res (aH (frV (oP x.v y.v)))) (PF.args [.agg x.cells,.agg y.cells]) .nil:=by
 have c:=plus x y.opp i (aPR d);rw[aTZ,aLJ] at c;generalize oP x.v y.v=r at *
 rw[QI] at c ⊢;simp only[go_sem,PU,Xe,nj];refine aQ fun o l=>?_;simp only[go_sem];refine bX .nil (stS 281 (.agg y.opp.cells) (.tup [.agg r.got.rf.cells,.int .i64 r.err])) a_ ?_;simp only[go_sem,Xf];refine cK rfl (e y d) Sq a_ ?_;simp only[go_sem];refine cK rfl c Sq a_ ?_;simp only[go_sem];refine bX .nil eH a_ ?_;simp only[go_sem,Xg];refine⟨a_,?_⟩;refine bE (.inr rfl) Ev ?_;rfl
theorem NH {x:RF} (h:jG x=true):∃ r,mB x=.ok r∧nl r.2.1≤2∧nl r.2.2≤2∧val x.den≠0:=by
 unfold jG at h;split at h
 ·rename_i n a b e;simp only[a1Z,decide_eq_true_eq] at h;refine⟨_,e,h.1,h.2,?_⟩;unfold mB at e;split at e
  ·rename_i c;exact (dU.1 c).1
  ·cases e
 ·cases h
theorem Yb {C:Ctx} (L:yM C) (x:RF) (A:x.Ok):xL.wp C (aX kj.res (aH (.bool (jG x)))) (PF.args [.agg x.cells]) .nil:=by
 have l:=L.red x A;have i:jG x=match mB x with | .ok (_,a,b)=>decide (nl a≤2)&&decide (nl b≤2) | .error _=>false:=rfl
 simp only[go_sem,xL,ZH,kj,ZI];refine aA l Sq ?_;cases p:mB x with
 | error e =>have u:=Jl p;rw[p] at i;simp only at i;rw[i];simp only[go_sem,frV];refine aQ fun o y=>?_;simp only[go_sem,ED,bF u];refine bE (.inr rfl) Ev ?_;rfl
 | ok r =>
  obtain⟨n,a,b⟩:=r;rw[p] at i;simp only at i;rw[i];have B:=jE a 2;have E:=jE b 2;have c:=Va p;simp only[go_sem,frV];refine aQ fun o y=>?_;simp only[go_sem,ED];refine aA (L.bits (aE a) c.1 c.2.2.1) Sq ?_;simp only[go_sem,aT];by_cases w:nl a≤2
  ·have d:((cJ a:Nat):Int)≤64:=Om;simp only[go_sem,d];refine aA (L.bits (aE b) c.2.1 c.2.2.2) Sq ?_;simp only[go_sem,aT];refine bE (.inr rfl) Ev ?_;rw[cO,decide_eq_true w,a2J,decide_eq_decide.2 (Om:((cJ b:Nat):Int)≤64↔nl b≤2)]
  ·have d:¬ ((cJ a:Nat):Int)≤64:=Om;simp only[go_sem,d];refine bE (.inr rfl) Ev ?_;rw[cO,decide_eq_false w,a1Y]
theorem Bh (a b:Nat):cU a b<0↔a<b:=by
 unfold cU;split
 ·rename_i h; exact⟨fun _=>h,fun _=>by decide⟩
 ·split
  ·rename_i c d; exact⟨fun h=>absurd h (by decide),fun h=>by omega⟩
  ·exact⟨fun h=>absurd h (by decide),fun h=>by omega⟩
theorem avV (a b:Nat):cU a b=0↔a=b:=by
 unfold cU;split
 ·rename_i h; exact⟨fun h=>absurd h (by decide),fun h=>by omega⟩
 ·split
  ·exact⟨fun h=>absurd h (by decide),fun h=>by omega⟩
  ·exact⟨fun h=>by omega,fun _=>rfl⟩
def sgF (x:FV):Int:=if x.1 then -(x.2.1:Int) else x.2.1
theorem tF {x y:FV} (p:x.2.2≠0) (u:y.2.2≠0):(lG x y<0↔sgF x*(y.2.2:Nat)<sgF y*(x.2.2:Nat))∧(lG x y=0↔sgF x*(y.2.2:Nat)=sgF y*(x.2.2:Nat)):=by
 obtain⟨w,a1,b1⟩:=x;obtain⟨E,a2,b2⟩:=y;simp only at p u;unfold lG pP sgF;simp only;have F:0<a1→0<a1*b2:=fun h=>Nat.mul_pos h Om;have H:0<a2→0<a2*b1:=fun h=>Nat.mul_pos h Om;have J:a1=0→a1*b2=0:=fun h=>by rw[h,Nat.zero_mul]
 have K:a2=0→a2*b1=0:=fun h=>by rw[h,Nat.zero_mul]
 have i:(a1:Int)*(b2:Int)=((a1*b2:Nat):Int):=by simp
 have l:(a2:Int)*(b1:Int)=((a2*b1:Nat):Int):=by simp
 have Q:=Bh (a1*b2) (a2*b1);have R:=avV (a1*b2) (a2*b1);have S:=Bh (a2*b1) (a1*b2);have U:=oq (a1*b2) (a2*b1);generalize cU (a1*b2) (a2*b1)=c at *
 generalize cU (a2*b1) (a1*b2)=O at *
 generalize a1*b2=A at *
 generalize a2*b1=B at *
 by_cases d:a1=0<;>by_cases e:a2=0<;>cases w<;>cases E <;>
  simp only[d,e,ne_eq,not_true_eq_false,not_false_eq_true,decide_true,decide_false,a4B,a2W,a1Y,if_true,if_false,a4K,Int.neg_mul,i,l,Int.neg_zero,Int.zero_mul] <;>
  (first | (have M:=J d) | (have M:=F Om))<;>(first | (have N:=K e) | (have N:=H Om))<;>constructor<;>constructor<;>intro h<;>first | omega | (simp only[d,e,Int.ofNat_zero] at *; omega)
theorem awY {e sy sz c bm d:Int} (u:0<bm) (p:0<c) (i:0<d) (a:e*bm<sy*c) (b:sy*d≤sz*bm):e*d<sz*c:=by
 have k1:e*bm*d<sy*c*d:=Int.mul_lt_mul_of_pos_right a i;have k2:sy*d*c≤sz*bm*c:=Int.mul_le_mul_of_nonneg_right b Om;have l:(e*d)*bm<(sz*c)*bm:=by rw[show e*d*bm=e*bm*d by rw[Int.mul_assoc,Int.mul_comm d,← Int.mul_assoc],show sz*c*bm=sz*bm*c by rw[Int.mul_assoc,Int.mul_comm c,← Int.mul_assoc]];rw[show sy*c*d=sy*d*c by rw[Int.mul_assoc,Int.mul_comm c,← Int.mul_assoc]] at k1;omega
 exact Int.lt_of_mul_lt_mul_right l Om
theorem aaS {x y z:FV} (c:x.2.2≠0) (d:y.2.2≠0) (e:z.2.2≠0) (a:lG x y<0) (b:¬ lG z y<0):lG x z<0:=by
 rw[(tF c d).1] at a;rw[(tF e d).1] at b;rw[(tF c e).1];exact awY (sy:=sgF y) (bm:=(y.2.2:Nat)) Om Om Om a Om
theorem v7 {x y:FV} (c:x.2.2≠0) (d:y.2.2≠0) (a:lG x y<0):¬ lG y x<0∧lG y x≠0:=by
 rw[(tF c d).1] at a;constructor
 ·rw[(tF d c).1]; omega
 ·intro h;rw[(tF d c).2] at h;omega
theorem OH {x:FV} (c:x.2.2≠0):lG x x=0:=by rw[(tF c c).2]
theorem nr {α:Type} (d:α→FV) (l:List α) (good:∀ s∈l,(d s).2.2≠0) :
  (jR d l=none∧l=[])∨∃ (i:Nat) (b:α),jR d l=some b∧l[i]?=some b∧(∀ t∈l,¬ lG (d t) (d b)<0)∧∀ j t,j<i→l[j]?=some t→lG (d t) (d b)≠0:=by
 obtain⟨r,rfl⟩:∃ r,l=List.reverse r:=⟨l.reverse,by simp⟩
 induction r with
 | nil=>exact .inl ⟨rfl,rfl⟩
 | cons s r B =>
  rw[List.reverse_cons] at good ⊢;have u:(d s).2.2≠0:=good s (by simp);have p:∀ t∈r.reverse,(d t).2.2≠0:=fun t ht=>good t (List.mem_append_left _ ht);rw[KJ];refine .inr ?_;have last:(r.reverse++[s])[r.reverse.length]?=some s:=by simp
  rcases B p with ⟨x,w⟩ | ⟨i,b,x,w,h3,h4⟩
  ·rw[x,w];refine⟨0,s,rfl,rfl,fun t ht=>?_,fun j t h=>by omega⟩;rw[List.nil_append,a3O] at ht;subst ht;rw[OH u]; decide
  ·rw[x];have A:(d b).2.2≠0:=p b (a3R w);have hi:i<r.reverse.length:=(a2P.1 w).1;unfold zL;by_cases c:lG (d s) (d b)<0
   ·simp only[if_pos c];have lt:∀ t∈r.reverse,lG (d s) (d t)<0:=fun t ht=>aaS u A (p t ht) c (h3 t ht);refine⟨r.reverse.length,s,rfl,last,fun t ht=>?_,fun j t y e=>?_⟩
    ·rcases a3A.1 ht with ht | ht
     ·exact (v7 u (p t ht) (lt t ht)).1
     ·rw[a3O] at ht;subst ht;rw[OH u]; decide
    ·rw[a3Y y] at e;have ht:=a3R e;exact (v7 u (p t ht) (lt t ht)).2
   ·simp only[if_neg c];refine⟨i,b,rfl,by rw[a3Y hi]; exact w,fun t ht=>?_,fun j t y e=>?_⟩
    ·rcases a3A.1 ht with ht | ht
     ·exact h3 t ht
     ·rw[a3O] at ht;subst ht;exact c
    ·rw[a3Y Om] at e;exact h4 j t y e
theorem iq (n:Nat):∀ (k a:Nat),(cW n k a).Nodup
 | 0,a=>by rw[cW]; exact List.nodup_cons.2 ⟨(fun h=>by cases h),List.nodup_nil⟩
 | k+1,a=>by
  rw[cW];have d:∀ (m a:Nat),((a3H a m).flatMap fun i=>(cW n k (i+1)).map (i::·)).Nodup:=by
   intro m
   induction m with
   | zero=>intro a; exact .nil
   | succ m B =>
    intro a;rw[List.range'_succ,List.flatMap_cons];rw[a4C];refine⟨?_,B (a+1),fun x w y A e=>?_⟩
    ·have h:=iq n k (a+1);exact List.Pairwise.map _ (fun x y c e=>c (List.cons.inj e).2) h
    ·subst e;obtain⟨t,-,rfl⟩:=a2G.1 w;obtain⟨i,hi,l⟩:=List.mem_flatMap.1 A;obtain⟨u,-,p⟩:=a2G.1 l;rw[List.mem_range'_1] at hi;have:=(List.cons.inj p).1;omega
  exact d _ _
theorem Oh (f:aJ) (p:cB):(eD f p).Nodup:=by
 unfold eD;refine List.Pairwise.filter _ (List.Pairwise.map _ (fun x y c e=>c ?_) (iq _ _ _));unfold bZ at e;exact List.map_inj_right (fun x y h=>by omega) |>.1 e
theorem im {f:aJ} {lv cnt:Int} (h:fN f lv cnt=0):jP f=true∧f.aZZ.length≤12:=by
 unfold fN at h;split at h
 ·rename_i c;simp only[a1Z] at c;split at h
  ·cases h
  ·exact⟨c.1,by omega⟩
 ·cases h
theorem akO {n:Nat} (h:n≤9223372036854775807):GL n 1=.tup [.agg (FV.rf (false,n,1)).cells,.int .i64 0]:=by
 have c:nl n≤2:=jB Om;have d:=(jE n 128).2 Om;have i:nl 1=1:=by rw[nl,mQ]; rfl
 have l:=(jE 1 128).2 Om;unfold GL;rw[if_neg (by decide),QQ,Int.natAbs_natCast,show (1:Int).natAbs=1 from rfl];unfold gD;rw[Nat.gcd_one_right,Nat.div_one,Nat.div_one,if_neg Om];have e:decide ((n:Int)<0)=false:=decide_eq_false Om;rw[e];rfl
structure auX (C:Ctx):Prop extends Ah C where
 fr:yM C
 ku:∀ x y:RF,x.Ok→y.Ok→aF C 278 [.agg x.cells,.agg y.cells] .nil (aH (frV (oP x.v y.v)))
 price1:∀ x:RF,x.Ok→aF C 232 [.agg x.cells] .nil (aH (.bool (jG x)))
theorem LM {j:Nat} {x:FV} (h:Cst j x) (i:j≤12):x.rf.Ok∧cG x.2.1 x.2.2=true:=by
 obtain⟨n,a,b⟩:=x;obtain⟨c,d,e⟩:=h;simp only at c d e;have k1:cG a b=true:=dU.2 ⟨c,by omega,by omega⟩;refine⟨⟨aU _,aU _,?_,?_⟩,k1⟩
 ·show (aE a).length≤_;rw[aW]; omega
 ·show (aE b).length≤_;rw[aW]; omega
theorem Mx {C:Ctx} (Lb:auX C) (i:List RF) (hp:∀ x∈i,x.Ok) (hm:Modest i) (n:Nat) (hn:n<18446744073709551616) (set:List Int) (hs:set.length≤12) (Y:∀ d∈set,0≤d∧d<i.length)
  (o9 J M l:Nat) (N O Q:PV) (A E:Int) (B:List BX) (K:bV) [Up K] (F:PF) (H:PH)
  (hF:(((((((((((((((PF.nil.set 3 (frs i)).set 9 (.ptr o9 3 0 0)).set 11 (N)).set 15 (.ptr J 17 0 0)).set 16 (O)).set 17 (.ptr M 3 0 0)).set 19 (ints set)).set 20 (.ptr l 3 0 0)).set 74 (Q)).set 75 (.int .i64 A)).set 76 (.int .i64 E)).set 89 (ints set)).set 90 (.int .i64 (set.length:Nat))).set 91 (.int .i64 0))).le F)
  (hH:aP H (B++[(l,.rows 3 [(FV.rf (false,n,1)).cells])]) [])
  (hK:∀ H',aP H' (B++[(l,.rows 3 [(FV.rf (iD i n set)).cells])]) []→K (.exit 5) ((((((((((((PF.nil.set 3 (frs i)).set 9 (.ptr o9 3 0 0)).set 11 (N)).set 15 (.ptr J 17 0 0)).set 16 (O)).set 17 (.ptr M 3 0 0)).set 19 (ints set)).set 20 (.ptr l 3 0 0)).set 74 (Q)).set 75 (.int .i64 A)).set 76 (.int .i64 E))) H') :
  aC.wp C (.loop EE) K F H:=by
 refine sR _ (fun _ _ _ _ a b=>Up.up a b) hF ?_;refine wp_loop (α:=Nat × PH) (fun t=>((((((((((((((PF.nil.set 3 (frs i)).set 9 (.ptr o9 3 0 0)).set 11 (N)).set 15 (.ptr J 17 0 0)).set 16 (O)).set 17 (.ptr M 3 0 0)).set 19 (ints set)).set 20 (.ptr l 3 0 0)).set 74 (Q)).set 75 (.int .i64 A)).set 76 (.int .i64 E)).set 89 (ints set)).set 90 (.int .i64 (set.length:Nat))).set 91 (.int .i64 t.1))) (fun t=>t.2)
  (fun t=>t.1≤set.length∧aP t.2 (B++[(l,.rows 3 [(FV.rf (iD i n (set.take t.1))).cells])]) []) (fun t=>set.length-t.1) (0,H) ⟨a1X _,hH⟩ Lq b_ ?_
 rintro⟨j,H1⟩ ⟨hj,S⟩;simp only at hj S ⊢;simp only[go_sem,EE,ZV];by_cases hlt:j<set.length
 ·have p:(j:Int)<(set.length:Nat):=Om;have W:(set.map fun x=>[PV.int .i64 x])[j]?=some [.int .i64 set[j]]:=by simp[hlt]
  have hd:=Y _ (a1N hlt);have U:=sT hm hn (set.take j) (by rw[a2A]; omega);have y:iD i n (set.take (j+1))=(oP (iD i n (set.take j)) (jT i set[j])).got:=by rw[a3I hlt,EC]
  obtain⟨Z,-⟩:=LM U (by rw[a2A]; omega);have R:=S.xF;generalize set[j]=d at *
  obtain⟨e,rfl⟩:∃ e:Nat,d=e:=⟨d.toNat,by omega⟩;have w:e<i.length:=Om;have V:(e:Int)<(i.length:Nat):=hd.2;have β:(i.map RF.cells)[e]?=some (i[e]).cells:=by simp[w]
  have γ:jT i e=(i[e]).v:=by unfold jT; simp[a2L,w]
  have u:=Lb.ku (FV.rf (iD i n (set.take j))) i[e] Z (hp _ (a1N w));rw[FV.abA,← γ,QI,← y] at u;generalize iD i n (set.take j)=c at *
  generalize X:iD i n (set.take (j+1))=c' at *
  simp only[go_sem,p,ZW,W,a1K];refine bX .nil (stS 278 (.tup [.agg c'.rf.cells,.int .i64 (oP c (jT i e)).err]) .aB) a_ ?_;simp only[go_sem,ZX,R,V,a1K,β];refine cK rfl u Sq a_ ?_;simp only[go_sem,R];refine⟨a_,?_⟩;simp only[go_sem,ZY,wZz j];refine aK (j+1,_) ⟨hlt,?_⟩ (by simp only; omega) Lq b_;show aP _ (B++[(l,.rows 3 [(FV.rf (iD i n (set.take (j+1)))).cells])]) [];rw[X];exact S.DH _
 ·have p:¬ (j:Int)<(set.length:Nat):=Om;have:j=set.length:=Om;subst this;rw[a2O] at S;simp only[go_sem,p];exact Up.up Lq (hK _ S)
end Go.PM
