/-
  Texts of ours, joined. No condition.
-/
import Derived.Test.YtkknafmijabgaaaGreatDoorFN1
import Derived.Test.YtkknafmijabgaaaGreatDoorFN2
import Derived.Test.YtkknafmijabgaaaGreatDoorFN3
import Derived.Test.YtkknafmijabgaaaGreatDoorFN4
import Derived.Test.YtkknafmijabgaaaGreatDoorRows
import Derived.Test.YtkknafmijabgaaaGreatDoorProg
import Derived.KernelRfl
import Derived.ProofKit
import Derived.WalkKit
import Derived.LaidMore
import Derived.OpenShut
import Derived.Stop.Joined
set_option linter.unusedSimpArgs false
set_option linter.unusedVariables false
open Nat renaming reduceEqDiff → γ, reduceAdd → δ, reduceSub → ε, reduceMul → ζ, reduceLT → η, reduceLeDiff → θ
open Int renaming reduceLT → ι, reduceLE → κ, reduceEq → μ, reduceToNat → ν
open List renaming range → aTI, length_map → aTJ, replicate → aTK, length_append → aTM, getElem_mem → aTN, getElem?_eq_getElem → aTP, getD_eq_getElem?_getD → aTR, length_singleton → aTT, mem_cons → aTW, length_take → aUA, take_of_length_le → aUB, mem_range → aUD, getElem?_map → aUG, all_eq_true → aUH, not_mem_nil → aUJ, mem_map → aUK, getElem?_eq_some_iff → aUN, append_assoc → aUP, map_cons → aUQ, mem_append → aUR, take_length → aUS, drop_zero → aUV, map_append → aUX, mem_singleton → aUY, length_cons → aVA, append_nil → aVC, getElem_of_mem → aVD, length_drop → aVE, getElem?_append_right → aVG, mem_of_getElem? → aVH, getElem?_append_left → aVI, length_set → aVJ, map_congr_left → aVN, Sublist → aVO, getElem_map → aVQ, length_nil → aVR, take_succ_eq_append_getElem → aVS, drop_eq_getElem_cons → aVV, length_range → aVY, map_nil → aVZ, range_succ → aWA, nodup_append → aWG, take_append_drop → aWH, map_map → aWO, nil_append → aWP, mem_cons_of_mem → aWV, mem_filter → aWW, getElem?_set → aXF, sublist_append_left → aXG
open Nat renaming gcd → aTL, le_refl → aTO, zero_le → aTQ, mul_add → aTX, zero_add → aUF, mul_comm → aUL, mul_le_mul_right → aUM, add_zero → aVB, eq_zero_or_pos → aVP, min_eq_left → aVT, succ_mul → aVW, add_assoc → aWB, pos_of_ne_zero → aWD, le_trans → aWI, div_eq_of_lt → aWQ, div_le_self → aWR, mul_le_mul → aWT
open Bool renaming false_and → aTS, not_true → aTV, true_and → aTY, not_false → aTZ, and_eq_true → aUC, and_false → aUU, and_true → aVK, false_eq_true → aWM, and_assoc → aWU
open Option renaming map_some → aUO, some → aVU, getD_some → aWE
open Int renaming toNat_natCast → aWN
namespace Go.Proofs.YtkknafmijabgaaaGreatDoor
open Go Go.PM Go.RowKit Go.ChangeShapes Go.WideShapes
def aJK:List Nat:=[22,78,48,30,26,52,23,51,0,0,0,0,0,0,0,0,0,0,0,0,0,0,0,0,0,0,0,10,21,49,155,163,141,114,113,81,158,157,103,144,167,143,166,171,165,164,139,50,172,108,53,104,105,102,68,101,67,156,80,82,140,106,98,154,138,137,107,36,66,71,65,99,70,64,69,100,63,39,0,0,118,0,57,29,87,40,0,56,145,117,86,0,0,0,0,60,31,89,129,90,131,134,94,130,58,88,95,132,96,133,62,59,61,122,93,92,119,91,125,124,123,127,128,97,153,136,135,147,120,126,150,149,121,152,148,151,170,168,146,181,178,169,180,179,0,0,0,0,0,0,28,0,25,0,55,0,115,85,84,116,83,54,142,112,175,161,162,176,173,160,159,0,0,0,0,0,0,0,0,0,0,0,0,0,0,0,0,0,0,0,0,0,0,0,0,79,0,0,0,0,0,0,0,0,0,0,0,0,0,0,0,0,0,0,0,0,0,0,0,0,0,0,0,0,0,0,0,0,0,0,0,0,0,0,0,0,0,0,0,0,0,0,0,0,0,0,0,0,0,0,0,0,0,0,0,0,0,0,0,0,0,0,0,0,0,0,0,0,0,0,0,0,0,0,0,0,0,0,0,0,0,0,34,35,32,33,12,42,15,17,19,109,72,46,110,111,73,74,41,75,77,47,76,43,38,37,44,13,45,16,18,20,11,14,24,27,3,4,5,6,7,8,9]
def aFE:List (Option Nat):=[none,none,none,some 316,some 317,some 318,some 319,some 320,some 321,some 322,some 27,some 312,some 286,some 307,some 313,some 288,some 309,some 289,some 310,some 290,some 311,some 28,some 0,some 6,some 314,some 152,some 4,some 315,some 150,some 83,some 3,some 96,some 284,some 285,some 282,some 283,some 67,some 305,some 304,some 77,some 85,some 298,some 287,some 303,some 306,some 308,some 293,some 301,some 2,some 29,some 47,some 7,some 5,some 50,some 161,some 154,some 87,some 82,some 104,some 111,some 95,some 112,some 110,some 76,some 73,some 70,some 68,some 56,some 54,some 74,some 72,some 69,some 292,some 296,some 297,some 299,some 302,some 300,some 1,some 195,some 58,some 35,some 59,some 160,some 158,some 157,some 90,some 84,some 105,some 97,some 99,some 117,some 115,some 114,some 102,some 106,some 108,some 123,some 62,some 71,some 75,some 55,some 53,some 38,some 51,some 52,some 61,some 66,some 49,some 291,some 294,some 295,some 163,some 34,some 33,some 156,some 159,some 89,some 80,some 116,some 128,some 132,some 113,some 120,some 119,some 118,some 129,some 121,some 122,some 98,some 103,some 100,some 107,some 109,some 101,some 126,some 125,some 65,some 64,some 46,some 60,some 32,some 162,some 41,some 39,some 88,some 138,some 127,some 134,some 131,some 130,some 135,some 133,some 124,some 63,some 30,some 57,some 37,some 36,some 170,some 169,some 165,some 166,some 31,some 45,some 44,some 42,some 40,some 137,some 141,some 136,some 43,some 48,some 168,none,some 164,some 167,none,some 140,some 143,some 142,some 139]
def num (n:Nat):FuncId:=aJK.getD n 0
def nameOf (f:FuncId):Option Nat:=aFE.getD f none
noncomputable def C:Ctx:=⟨Tryz.prog,num⟩
noncomputable def T (ro:List Nat):Tbl:={ P:=Tryz.prog,num:=num,name:=nameOf,ro:=ro }
theorem bH (T:Tbl) {k:Nat} {fn:Func} {e:aW} (w:C.P.funcs[C.num k]?=some fn) (l:C.P=T.P:=by rfl) (j:C.num=T.num:=by rfl) (y:(fn.name=="runtime.NumGoroutine")=false:=by kernel_rfl) (u:T.func fn=some e:=by kernel_rfl):bG C k e:=fun _ _ _ x h=>amR l j w y u x h
theorem Tryz.own:ownKnob Tryz.prog.godebug=none:=by kernel_rfl
theorem Tryz.laidOut:laidOutB Tryz.prog=true:=by kernel_rfl
theorem itoa:AJ C:=fun n x=>by
 refine⟨⟨Tryz.f79,Tryz.func79,by kernel_rfl,by kernel_rfl⟩,fun E w vs y hW j=>?_⟩;obtain⟨A⟩:=vs;cases j with
 | cons l u =>
 cases u;cases l;refine (Any.strconv_Itoa_small Tryz.aEN n x w).mono fun e B he=>?_;obtain⟨rfl,rfl⟩:=he;exact⟨_,.str (cC n),E,.nil,rfl,hW,.str ⟨(Lib.decDigits n).toArray⟩,.refl _ _ _,rfl,rfl⟩
theorem amG {pv:PV} (h:PV.Ty (.sl [.int .u8]) pv):∃ l:List Nat,pv=.sl 1 (kU l)∧(∀ x∈l,x<256)∧l.length≤9223372036854775807:=by
 obtain⟨xs,rfl,B,j⟩:=Ty.Km h;refine⟨xs.map Int.toNat,?_,?_,?_⟩
 ·unfold aiA kU;rw[aWO];congr 1;refine aVN fun x u=>?_;have:=(j x u).1;simp only[Function.comp];rw[Int.toNat_of_nonneg this]
 ·intro y w;obtain⟨x,e,rfl⟩:=aUK.1 w;have:=(j x e).2;have A:=(j x e).1;have e:IntKind.u8.max=255:=by decide
  rw[e] at this;omega
 ·rw[aTJ];have:maxLen≤9223372036854775807:=by decide
  omega
end Go.Proofs.YtkknafmijabgaaaGreatDoor
namespace Go.PM
open Go Go.Na
theorem gv {f:aD} (h:VF f) {d:Nat} (e:d<f.aRU.length) {lev:Int} (j:0≤lev) (l:lev≤4):jX f d lev<f.aRX.length∧lvl f (jX f d lev)=lev:=by
 unfold jX;obtain⟨a,b⟩:=TD h e (k:=4-lev.toNat) Om;refine⟨a,?_⟩;rw[b]; omega
theorem xt {f:aD} (h:VF f) {i:Nat} (hi:i<f.aRX.length):0≤lvl f i∧lvl f i≤4:=by
 rcases aVP i with e | e
 ·rw[e,h.root.2.1]; omega
 ·have:=h.dom i e hi; omega


theorem Y1 (a b:Nat):mkT (a:Int) (b:Int)=⟨false,aJ (a/aTL a b),aJ (b/aTL a b)⟩:=by
 have e:decide ((a:Int)<0)=false:=decide_eq_false Om;have j:decide ((b:Int)<0)=false:=decide_eq_false Om;unfold mkT nI FV.rf;rw[e,j,Int.natAbs_natCast,Int.natAbs_natCast];rfl
structure SmF (x:RF) (p q:Nat):Prop where
 eq:x=⟨false,aJ (p/aTL p q),aJ (q/aTL p q)⟩
 a:p≤64
 b:q≤64
 pos:0<q
theorem SmF.mk' {a b:Nat} (e:a≤64) (hb:b≤64) (h:0<b):SmF (mkT (a:Int) (b:Int)) a b:=⟨Y1 a b,e,hb,h⟩
theorem SmF.num {x:RF} {a b:Nat} (h:SmF x a b):val x.num=a/aTL a b:=by rw[h.eq,aS]
theorem SmF.den {x:RF} {a b:Nat} (h:SmF x a b):val x.den=b/aTL a b:=by rw[h.eq,aS]
theorem SmF.v {x:RF} {a b:Nat} (h:SmF x a b):x.v=(false,a/aTL a b,b/aTL a b):=by
 unfold RF.v;rw[h.num,h.den,h.eq]
theorem SmF.Od {x:RF} {a b:Nat} (_:SmF x a b):a/aTL a b≤a:=aWR ..
theorem SmF.Fg {x:RF} {a b:Nat} (_:SmF x a b):b/aTL a b≤b:=aWR ..
theorem SmF.den_pos {x:RF} {a b:Nat} (h:SmF x a b):0<b/aTL a b:=Nat.div_pos (Nat.le_of_dvd h.pos (Nat.gcd_dvd_right a b)) (Nat.gcd_pos_of_pos_right a h.pos)
theorem zP {n:Nat} (h:n≤4096):cW n≤32:=(mV n 32).2 Om
theorem T4 {n:Nat} (h:0<n):0<cW n:=by
 rcases aVP (cW n) with e | e
 ·rw[kV] at e; omega
 ·exact e
theorem uS {a b:Nat} (j:a≤4096) (hb:b≤4096) (h:0<b):dC a b=true:=by
 have l:=zP j;have u:=zP hb;have e:=T4 h;unfold dC;rw[decide_eq_true e,decide_eq_true (Om:cW b≤4096),decide_eq_true (Om:cW a≤4096)];rfl
theorem Yi {n:Bool} {a b:Nat} (e:a≤4096) (hb:b≤4096):jN n a b=.ok (n&&decide (a/aTL a b≠0),a/aTL a b,b/aTL a b):=by
 have j:=zP (aWI (aWR a (aTL a b)) e);have l:=zP (aWI (aWR b (aTL a b)) hb);unfold jN;rw[if_neg Om]
theorem SmF.lim {x:RF} {a b:Nat} (h:SmF x a b):dB x=true:=by
 have w:=h.Od;have y:=h.Fg;have e:=h.den_pos;have:=h.a;have:=h.b;have j:x.neg=false:=by rw[h.eq]
 unfold dB pN;rw[h.num,h.den,j,uS Om Om e,if_pos rfl,Yi Om Om];have l:=aWR (a/aTL a b) (aTL (a/aTL a b) (b/aTL a b));have u:=aWR (b/aTL a b) (aTL (a/aTL a b) (b/aTL a b));simp only[aTS,aTZ,aTY,aUC,decide_eq_true_eq];exact⟨zP Om,zP Om⟩
theorem SmF.rU {x:RF} {a b:Nat} (h:SmF x a b) (e:0<a):bJ x=true:=by
 unfold bJ;rw[h.num];exact decide_eq_true (Nat.ne_of_gt (Nat.div_pos (Nat.le_of_dvd e (Nat.gcd_dvd_left a b)) (Nat.gcd_pos_of_pos_right a h.pos)))
theorem SmF.zero {x:RF} {b:Nat} (h:SmF x 0 b):bJ x=false:=by
 unfold bJ;rw[h.num,Nat.zero_div];rfl
theorem SmF.one {x:RF} {a b:Nat} (h:SmF x a b) (e:a≤b):xV x=true:=by
 have u:=h.Od;have w:=h.Fg;have j:=h.den_pos;have:=h.a;have:=h.b;have l:x.neg=false:=by rw[h.eq]
 unfold xV;rw[h.num,h.den,l,uS Om Om j];have:a/aTL a b≤b/aTL a b:=Nat.div_le_div_right e;show (true&&decide (dU (a/aTL a b*1) (1*(b/aTL a b))≤0))=true;rw[Nat.mul_one,Nat.one_mul,aTY];refine decide_eq_true ?_;unfold dU;split
 ·decide
 ·split
  ·omega
  ·decide
theorem SmF.ok {x:RF} {a b:Nat} (h:SmF x a b):x.Ok:=by
 have e:=h.Od;have j:=h.Fg;have:=h.a;have:=h.b;have k1:nl (a/aTL a b)≤1:=(jU _ _).2 Om;have k2:nl (b/aTL a b)≤1:=(jU _ _).2 Om;rw[h.eq];refine⟨aU _,aU _,?_,?_⟩
 ·show (aJ _).length≤_;rw[aY]; omega
 ·show (aJ _).length≤_;rw[aY]; omega
theorem aCR:∀ c:Fin 9,∀ k:Fin 9,c.val+k.val≤8 →
  (c.val/aTL c.val 8*(8/aTL k.val 8)+k.val/aTL k.val 8*(8/aTL c.val 8))/aTL (c.val/aTL c.val 8*(8/aTL k.val 8)+k.val/aTL k.val 8*(8/aTL c.val 8)) (8/aTL c.val 8*(8/aTL k.val 8))=(c.val+k.val)/aTL (c.val+k.val) 8 ∧
  8/aTL c.val 8*(8/aTL k.val 8)/aTL (c.val/aTL c.val 8*(8/aTL k.val 8)+k.val/aTL k.val 8*(8/aTL c.val 8)) (8/aTL c.val 8*(8/aTL k.val 8))=8/aTL (c.val+k.val) 8:=by decide +kernel
abbrev eV (c:Nat):FV:=(false,c/aTL c 8,8/aTL c 8)
theorem VI (c:Nat):0<8/aTL c 8:=Nat.div_pos (Nat.le_of_dvd (by decide) (Nat.gcd_dvd_right c 8)) (Nat.gcd_pos_of_pos_right c (by decide))
theorem Ez {c k:Nat} (h:c+k≤8):iW (eV c) (eV k)=.ok (eV (c+k)):=by
 obtain⟨e,j⟩:=aCR ⟨c,by omega⟩ ⟨k,by omega⟩ h;simp only at e j;have a1:=aWR c (aTL c 8);have a2:=aWR k (aTL k 8);have a3:=aWR 8 (aTL c 8);have a4:=aWR 8 (aTL k 8);have l:=VI c;have u:=VI k;simp only[iW];rw[uS Om Om l,uS Om Om u,Bool.and_self,if_pos rfl,if_pos trivial];have w:c/aTL c 8*(8/aTL k 8)≤8*8:=aWT Om a4;have x:k/aTL k 8*(8/aTL c 8)≤8*8:=aWT Om a3;have y:8/aTL c 8*(8/aTL k 8)≤8*8:=aWT a3 a4;rw[Yi Om Om,e,j];rfl
theorem SR:∀ (l:List Nat) (c:Nat),c+l.sum≤8→(l.map eV).foldlM iW (eV c)=.ok (eV (c+l.sum))
 | [],c,_=>rfl
 | k::l,c,h=>by rw[List.sum_cons] at h;rw[aUQ,List.foldlM_cons,Ez Om,List.sum_cons,← aWB];exact SR l (c+k) Om
theorem aCQ:eV 0=(false,0,1):=by decide +kernel
theorem atU:eV 8=(false,1,1):=by decide +kernel
theorem aGU (l:List Nat) (h:l.sum=8):(match oM (l.map eV) with
  | .ok (n,a,b)=>decide (qE n a b false 1 1=0)
  | .error _=>false)=true:=by
 unfold oM;rw[← aCQ,SR l 0 Om,aUF,h,atU];rfl
def dig (k:Nat):List UInt8:=if k<10 then [UInt8.ofNat (48+k)] else [UInt8.ofNat (48+k/10),UInt8.ofNat (48+k%10)]
def VA:List UInt8→Nat
 | [a]=>a.toNat-48
 | [a,b]=>(a.toNat-48)*10+(b.toNat-48)
 | _=>0
theorem QI {k:Nat} (h:k<100):cC k=dig k:=by
 unfold cC dig;by_cases e:k<10
 ·rw[if_pos e]; exact Lib.decDigits_one e
 ·rw[if_neg e]; exact Lib.decDigits_two e h
theorem Fi:∀ k:Fin 100,VA (dig k.val)=k.val∧(dig k.val).length≤2∧((dig k.val).all fun c=>fY c.toNat)=true:=by decide +kernel
theorem tr {p:List UInt8} {c:UInt8} {t:List UInt8} (e:p=c::t) (l:fJ c.toNat=true) (x:(t.all fun c=>fY c.toNat)=true) (y:p.length≤8) {k:Nat} (u:k<100):isName (p++cC k)=true:=by
 obtain⟨-,w,j⟩:=Fi ⟨k,u⟩;simp only at w j;subst e;rw[QI u];show (decide ((c::t++dig k).length≤16)&&fJ c.toNat&&(c::t++dig k).all fun c=>fY c.toNat)=true;have hi:fY c.toNat=true:=by unfold fY; rw[l]; rfl
 rw[decide_eq_true (by rw[aTM]; omega),l,List.all_append,j,List.all_cons,x,hi];rfl
theorem VH {l:List (List UInt8)} (u:∀ x∈l,isName x=true) (w:l.Nodup):distinct l=true:=by
 unfold distinct;rw[aUH];intro i hi;rw[aUD] at hi;have e:l.getD i []=l[i]:=by simp[aTR,hi]
 rw[e,u _ (aTN hi),aTY];have:¬ l[i]∈l.take i:=by intro A;obtain⟨j,y,e⟩:=aVD A;rw[aUA] at y;rw[List.getElem_take] at e;have:=(List.nodup_iff_pairwise_ne.1 w);rw[List.pairwise_iff_getElem] at this;exact this j i Om hi Om e
 simp[this]
theorem RG {l:List (List UInt8)} {g:List UInt8→Nat} (h:∀ i (hi:i<l.length),g l[i]=i):l.Nodup:=by
 rw[List.nodup_iff_pairwise_ne,List.pairwise_iff_getElem];intro i j hi w hlt e;have u:=h i hi;have x:=h j w;rw[e] at u;omega
theorem tX {l:List (List UInt8)} {p:List UInt8} {c:UInt8} {t:List UInt8} (e:p=c::t) (j:fJ c.toNat=true) (w:(t.all fun c=>fY c.toNat)=true) (u:p.length≤8) (A:l.length≤100) (h:∀ i (hi:i<l.length),l[i]=p++cC i):distinct l=true:=by
 refine VH ?_ (RG (g:=fun s=>VA (s.drop p.length)) ?_)
 ·intro x y;obtain⟨i,hi,rfl⟩:=aVD y;rw[h i hi];exact tr e j w u Om
 ·intro i hi;rw[h i hi];simp only[List.drop_left];rw[QI Om];exact (Fi ⟨i,by omega⟩).1
structure tO (x:RF):Prop where
 lim:dB x=true
 ok:x.Ok
theorem SmF.o {x:RF} {a b:Nat} (h:SmF x a b):tO x:=⟨h.lim,h.ok⟩
theorem qL:SmF kO 0 1:=SmF.mk' (a:=0) (b:=1) (by decide) (by decide) (by decide)
theorem sI (l:List Nat) (a:Nat):tO (fV l a).1∧bJ (fV l a).1=true:=by
 have e:=cS l (show 0<6 by decide) a;have j:=cS l (show 0<8 by decide) (aF l 6 a).2;have:=SmF.mk' (a:=1+(aF l 6 a).1) (b:=1+(aF l 8 (aF l 6 a).2).1) Om Om Om;exact⟨this.o,this.rU Om⟩
theorem atH (l:List Nat) (i j a:Nat):tO (jT l i j a).1∧(j=i→bJ (jT l i j a).1=false)∧(j=i+1→bJ (jT l i j a).1=true):=by
 unfold jT;by_cases e:j=i+1
 ·rw[if_pos e];exact⟨(sI l a).1,fun h=>by omega,fun _=>(sI l a).2⟩
 ·rw[if_neg e];by_cases u:j=i
  ·rw[if_pos u];exact⟨qL.o,fun _=>qL.zero,fun h=>absurd h e⟩
  ·rw[if_neg u];simp only;split
   ·exact⟨(sI l _).1,fun h=>absurd h u,fun h=>absurd h e⟩
   ·exact⟨qL.o,fun h=>absurd h u,fun h=>absurd h e⟩
theorem abZ (l:List Nat) (i a:Nat):∀ n,(dX l i a n).1.length=n∧∀ j (u:j<(dX l i a n).1.length),tO (dX l i a n).1[j]∧(j=i→bJ (dX l i a n).1[j]=false)∧(j=i+1→bJ (dX l i a n).1[j]=true)
 | 0=>⟨rfl,fun j u=>absurd u (by simp[dX])⟩
 | n+1=>by
  obtain⟨w,x⟩:=abZ l i a n;have e:(dX l i a (n+1)).1=(dX l i a n).1++[(jT l i n (dX l i a n).2).1]:=rfl;rw[e];refine⟨by simp[w],fun j u=>?_⟩;by_cases hlt:j<(dX l i a n).1.length
  ·rw[List.getElem_append_left hlt]; exact x j hlt
  ·rw[aTM,aTT] at u;have:j=n:=Om;subst this;rw[List.getElem_append_right Om];simp only[List.getElem_singleton];exact atH l i j _
theorem abY (l:List Nat) (a:Nat):∀ n,(lC l a n).1.length=n∧∀ x∈(lC l a n).1,tO x∧bJ x=true
 | 0=>⟨rfl,fun x j=>by cases j⟩
 | n+1=>by
  obtain⟨u,w⟩:=abY l a n;have e:(lC l a (n+1)).1=(lC l a n).1++[(fV l (lC l a n).2).1]:=rfl;rw[e];refine⟨by simp[u],fun x j=>?_⟩;rw[aUR,aUY] at j;rcases j with j | rfl
  ·exact w x j
  ·exact sI l _
theorem atY (l:List Nat) (n i a:Nat):tO (fL l n i a).1∧(i+1=n→bJ (fL l n i a).1=true):=by
 unfold fL;by_cases h:i+1<n
 ·simp only[if_pos h];refine⟨?_,fun e=>by omega⟩;split
  ·exact qL.o
  ·exact (sI l a).1
 ·simp only[if_neg h];exact⟨(sI l a).1,fun _=>(sI l a).2⟩
def aIM (n:Nat) (aRZ:List (List RF)):Prop:=∀ i (hi:i<aRZ.length),aRZ[i].length=n∧∀ j (e:j<aRZ[i].length),tO aRZ[i][j]∧(j=i→bJ aRZ[i][j]=false)∧(j=i+1→bJ aRZ[i][j]=true)
def aIH (n:Nat) (exit:List RF):Prop:=∀ i (hi:i<exit.length),tO exit[i]∧(i+1=n→bJ exit[i]=true)
structure aOQ (n i:Nat) (s:DK) (cs:List Nat):Prop where
 start:s.start=cs.map fun c=>mkT ((c:Nat):Int) ((8:Nat):Int)
 lens:s.exit.length=i∧s.aRZ.length=i∧cs.length=i
 left:cs.sum+s.left=8∧(i=n→0<n→s.left=0)
 exit:aIH n s.exit
 aRZ:aIM n s.aRZ
theorem sP {α:Type} {P:Nat→α→Prop} {xs:List α} {x:α} (h:∀ i (hi:i<xs.length),P i xs[i]) (e:P xs.length x):∀ i (hi:i<(xs++[x]).length),P i (xs++[x])[i]:=by
 intro i hi;by_cases hlt:i<xs.length
 ·rw[List.getElem_append_left hlt]; exact h i hlt
 ·rw[aTM,aTT] at hi;have:i=xs.length:=Om;subst this;rw[List.getElem_append_right Om];simpa using e
theorem xn (l:List Nat) (n a:Nat):∀ i,i≤n→∃ cs,aOQ n i (gQ l n a i) cs
 | 0,_=>⟨[],rfl,⟨rfl,rfl,rfl⟩,⟨rfl,fun h u=>by omega⟩,fun i hi=>absurd hi (by simp[gQ]),fun i hi=>absurd hi (by simp[gQ])⟩
 | i+1,hi=>by
  obtain⟨cs,y,⟨u,w,A⟩,⟨h5,-⟩,B,h7⟩:=xn l n a i Om;generalize F:gQ l n a i=s at *
  have e:gQ l n a (i+1)=⟨s.start++[mkT ((dW l n i s).1:Nat) 8],s.exit++[(fL l n i (dW l n i s).2).1],s.aRZ++[(dX l i (fL l n i (dW l n i s).2).2 n).1],s.left-(dW l n i s).1,(dX l i (fL l n i (dW l n i s).2).2 n).2⟩:=by simp only[gQ,F]
  rw[e];have E:(dW l n i s).1≤s.left∧(i+1=n→(dW l n i s).1=s.left):=by
   unfold dW;split
   ·exact⟨by have:=cS l (Om:0<s.left+1) s.a; omega,fun h=>by omega⟩
   ·exact⟨aTO _,fun _=>rfl⟩
  refine⟨cs++[(dW l n i s).1],?_,⟨by simp[u],by simp[w],by simp[A]⟩,⟨?_,fun h _=>?_⟩,?_,?_⟩
  ·simp only[y,aUX,aUQ,aVZ]; rfl
  ·simp only[List.sum_append,List.sum_cons,List.sum_nil]; omega
  ·have:=E.2 h;simp only; omega
  ·refine sP (P:=fun i x=>tO x∧(i+1=n→bJ x=true)) B ?_;rw[u]; exact atY l n i _
  ·refine sP (P:=fun i (r:List RF)=>r.length=n∧∀ j (I:j<r.length),tO r[j]∧(j=i→bJ r[j]=false)∧(j=i+1→bJ r[j]=true)) h7 ?_;rw[w]; exact abZ l i _ n
theorem atW {x:cI} {e r:RF} (j:x.exit=[e]) (l:x.aRZ=[[r]]) (u:bJ e=true):pO x=true:=by
 unfold pO;rw[j];show ((dH x 2).all id)=true;simp only[dH,dE,lJ,cT,j,l,aVA,aVR,List.getD_cons_zero,aUQ,aVZ,u];cases bJ r<;>rfl
theorem SF {x:cI} {y A e j l u:RF} (B:x.exit=[y,A]) (E:x.aRZ=[[e,j],[l,u]]) (F:bJ A=true) (I:bJ j=true) (a b:Bool) :
  ∃ c,dE x [a,b] 2=[c,true]∧(b=true→c=true)∧(a=true→c=true):=by
 have J:lJ x [a,b] 0=[((a||bJ y)||bJ e&&(a||bJ y))||b,b]:=by unfold lJ;rw[B,E];simp only[List.getD_cons_zero,aUQ,List.set_cons_zero];generalize (a||bJ y)=c;show cT [c,b] 0 [e,j] 2=_;have:cT [c,b] 0 [e,j] 1=[c||bJ e&&c,b]:=rfl;show (let w:=cT [c,b] 0 [e,j] 1; w.set 0 (w.getD 0 false||([e,j].map bJ).getD 1 false&&w.getD 1 false))=_;rw[this];show [(c||bJ e&&c)||(bJ j&&b),b]=_;rw[I,aTY]
 have K:∀ c,lJ x [c,b] 1=[c,true]:=by intro c;unfold lJ;rw[B,E];have:cT [c,true] 1 [l,u] 1=[c,true||bJ l&&c]:=rfl;show cT [c,b||bJ A] 1 [l,u] 2=_;rw[F,Bool.or_true];show (let w:=cT [c,true] 1 [l,u] 1; w.set 1 (w.getD 1 false||([l,u].map bJ).getD 1 false&&w.getD 1 false))=_;rw[this,Bool.true_or];show [c,true||bJ u&&true]=_;rw[Bool.true_or]
 refine⟨_,by rw[show dE x [a,b] 2=lJ x (lJ x [a,b] 0) 1 from rfl,J,K],?_,?_⟩
 ·rintro rfl; rw[Bool.or_true]
 ·rintro rfl; simp
theorem atX {x:cI} {u I B l E F:RF} (j:x.exit=[u,I]) (w:x.aRZ=[[B,l],[E,F]]) (y:bJ I=true) (A:bJ l=true):pO x=true:=by
 unfold pO;rw[j];show ((dH x 3).all id)=true;have e:∀ r,dH x (r+1)=dE x (dH x r) 2:=fun r=>by rw[dH,j]; rfl
 have u:dH x 0=[false,false]:=by rw[dH,j]; rfl
 obtain⟨J,k1,-,-⟩:=SF j w y A false false;obtain⟨K,k2,R,-⟩:=SF j w y A J true;obtain⟨O,M,N,-⟩:=SF j w y A K true;rw[e,e,e,u,k1,k2,M,N rfl];rfl
theorem Ks {c:Nat}:∀ {cs:List Nat},c∈cs→c≤cs.sum
 | k::t,h=>by
  rw[List.sum_cons];rcases aTW.1 h with rfl | h
  ·omega
  ·have:=Ks h; omega
theorem UL {α:Type} {l:List α} (h:l.length=2):∃ a b,l=[a,b]:=by
 match l,h with
 | [a,b],_=>exact⟨a,b,rfl⟩
theorem aJZ (cs:List Nat) (h:cs.sum=8):(match oM ((cs.map fun c=>mkT ((c:Nat):Int) ((8:Nat):Int)).map RF.v) with
  | .ok (n,a,b)=>decide (qE n a b false 1 1=0)
  | .error _=>false)=true:=by
 have l:∀ c∈cs,c≤8:=fun c j=>by have:=Ks j;omega
 have e:((cs.map fun c=>mkT ((c:Nat):Int) ((8:Nat):Int)).map RF.v)=cs.map eV:=by rw[aWO];refine aVN fun c j=>?_;have:=l c j;exact (SmF.mk' (a:=c) (b:=8) Om (by decide) (by decide)).v
 rw[e];exact aGU cs h
theorem zO {α:Type} {p:α→Bool} {l:List α} (h:∀ i (hi:i<l.length),p l[i]=true):l.all p=true:=by
 rw[aUH];intro x e;obtain⟨i,hi,rfl⟩:=aVD e;exact h i hi
theorem aiC (l:List Nat) (a:Nat) (M:List UInt8):kY { (rK l 2 a).1 with name:=M }=true∧({ (rK l 2 a).1 with name:=M }:cI).Ok:=by
 obtain⟨n,hn⟩:∃ n,n=1+(aF l 2 a).1:=⟨_,rfl⟩;have Y:n=1∨n=2:=by have:=cS l (show 0<2 by decide) a; omega
 obtain⟨cs,R,⟨h2,h3,h4⟩,⟨h5,U⟩,N,h7⟩:=xn l n (aF l 2 a).2 n (aTO _);generalize hs:gQ l n (aF l 2 a).2 n=s at *
 have e:({ (rK l 2 a).1 with name:=M }:cI)=⟨M,s.start,s.aRZ,s.exit⟩:=by simp only[rK,← hn,hs]
 rw[e];have K:cs.sum=8:=by have:=U rfl Om; omega
 have X:∀ c∈cs,c≤8:=fun c V=>by have:=Ks V;omega
 have w:∀ x∈s.start,tO x:=by intro x u;rw[R] at u;obtain⟨c,V,rfl⟩:=aUK.1 u;have:=X c V;exact (SmF.mk' (a:=c) (b:=8) Om (by decide) (by decide)).o
 have β:s.start.length=n:=by rw[R,aTJ,h4]
 have A:pO ⟨M,s.start,s.aRZ,s.exit⟩=true:=by
  rcases Y with rfl | rfl
  ·obtain⟨e,he⟩:=List.length_eq_one_iff.1 h2;obtain⟨η,y⟩:=List.length_eq_one_iff.1 h3;have Z:=(h7 0 Om).1;obtain⟨r,J⟩:=List.length_eq_one_iff.1 Z;have u:=(N 0 Om).2 rfl;simp only[y,List.getElem_cons_zero] at J;simp only[he,List.getElem_cons_zero] at u;exact atW he (by rw[y,J]) u
  ·obtain⟨e0,e1,he⟩:=UL h2;obtain⟨r0,r1,y⟩:=UL h3;have F:=(h7 0 Om).1;have I:=(h7 1 Om).1;have u:=(N 1 Om).2 rfl;have hy:=((h7 0 Om).2 1 Om).2.2 rfl;simp only[he,List.getElem_cons_succ,List.getElem_cons_zero] at u;simp only[y,List.getElem_cons_succ,List.getElem_cons_zero] at F I hy;obtain⟨γ,δ,B⟩:=UL F;obtain⟨ε,ζ,S⟩:=UL I;simp only[B,List.getElem_cons_succ,List.getElem_cons_zero] at hy;exact atX he (by rw[y,B,S]) u hy
 constructor
 ·unfold kY;simp only[aUC];refine⟨⟨⟨⟨⟨⟨⟨?_,?_⟩,?_⟩,?_⟩,?_⟩,?_⟩,?_⟩,A⟩
  ·rw[within_iff]; omega
  ·exact decide_eq_true Om
  ·exact decide_eq_true Om
  ·exact aUH.2 fun x u=>(w x u).lim
  ·exact zO fun i hi=>(N i hi).1.lim
  ·rw[aUH];intro i hi;rw[aUD] at hi;obtain⟨k1,k2⟩:=h7 i hi;have eg:s.aRZ.getD i []=s.aRZ[i]:=by simp[aTR,hi]
   rw[eg,aUC,aUC];refine⟨⟨decide_eq_true Om,zO fun j W=>(k2 j W).1.lim⟩,?_⟩;have E:i<s.aRZ[i].length:=Om;rw[getD_at E,(k2 i E).2.1 rfl];rfl
  ·rw[R]; exact aJZ cs K
 ·have O:∀ m:Nat,m≤2→m≤9223372036854775807:=fun m hm=>by omega
  have α:n≤2:=Om;refine⟨⟨?_,fun x u=>(w x u).ok⟩,⟨?_,fun x u=>?_⟩,?_,fun r y=>⟨?_,fun x u=>?_⟩⟩
  ·exact O s.start.length Om
  ·exact O s.exit.length Om
  ·obtain⟨i,hi,rfl⟩:=aVD u;exact (N i hi).1.ok
  ·exact O s.aRZ.length Om
  ·obtain⟨i,hi,rfl⟩:=aVD y;have:=(h7 i hi).1;exact O (s.aRZ[i]'hi).length Om
  ·obtain⟨i,hi,rfl⟩:=aVD y;obtain⟨j,W,rfl⟩:=aVD u;exact ((h7 i hi).2 j W).1.ok
theorem VQ (l:List Nat) (a:Nat):∀ n,(jK l a n).1.length=n∧∀ i (hi:i<(jK l a n).1.length),(jK l a n).1[i].name=[108,97,119]++cC i∧kY (jK l a n).1[i]=true∧(jK l a n).1[i].Ok
 | 0=>⟨rfl,fun i hi=>absurd hi (by simp[jK])⟩
 | n+1=>by obtain⟨j,u⟩:=VQ l a n;have e:(jK l a (n+1)).1=(jK l a n).1++[{ (rK l 2 (jK l a n).2).1 with name:=[108,97,119]++cC n }]:=rfl;rw[e];refine⟨by simp[j],sP (P:=fun i (x:cI)=>x.name=[108,97,119]++cC i∧kY x=true∧x.Ok) u ?_⟩;rw[j];exact⟨rfl,aiC l _ _⟩
theorem OK (l:List Nat) (aSC:Nat) (u:0<aSC) (a:Nat):∀ n,(eW l aSC a n).1.length=n∧∀ i (hi:i<(eW l aSC a n).1.length),(eW l aSC a n).1[i].name=[109]++cC i∧∃ e p w:Nat,(eW l aSC a n).1[i].aSL=e∧1≤e∧e≤4∧(eW l aSC a n).1[i].port=p∧1≤p∧p≤8∧(eW l aSC a n).1[i].law=w∧w<aSC
 | 0=>⟨rfl,fun i hi=>absurd hi (by simp[eW])⟩
 | n+1=>by
  obtain⟨j,y⟩:=OK l aSC u a n;obtain⟨s,A⟩:∃ s,s=eW l aSC a n:=⟨_,rfl⟩;have e:(eW l aSC a (n+1)).1=(eW l aSC a n).1++[⟨[109]++cC n,(1+(aF l 4 s.2).1:Nat),(1+(aF l 8 (aF l 4 s.2).2).1:Nat),((aF l aSC (aF l 8 (aF l 4 s.2).2).2).1:Nat)⟩]:=by rw[A]; rfl
  rw[e];refine⟨by simp[j],sP (P:=fun i (x:cZ)=>x.name=[109]++cC i∧∃ e p w:Nat,x.aSL=e∧1≤e∧e≤4∧x.port=p∧1≤p∧p≤8∧x.law=w∧w<aSC) y ?_⟩;rw[j];have k1:=cS l (show 0<4 by decide) s.2;have k2:=cS l (show 0<8 by decide) (aF l 4 s.2).2;have B:=cS l u (aF l 8 (aF l 4 s.2).2).2;exact⟨rfl,_,_,_,rfl,by omega,by omega,rfl,by omega,by omega,rfl,B⟩
theorem zA (l:List Nat) (a:Nat):∃ n:Nat,(iU l a).1=n∧n≤3:=by
 have h:=cS l (show 0<3 by decide) (aF l 3 a).2;unfold iU;simp only;split
 ·exact⟨1+(aF l 3 (aF l 3 a).2).1,rfl,by omega⟩
 ·exact⟨0,rfl,by omega⟩
theorem fC {n lo hi:Int} (e:lo≤n) (j:n≤hi):within n lo hi=true:=within_iff.2 ⟨e,j⟩
theorem aJO {E:List UInt8} {k m q s1 s2 s3 s4 g h:Nat} {ms:List Int} {A:List RF} {mc:Nat} (I:1≤k) (J:k≤2) (X:m≤2) (M:k≤q) (N:q≤k+m) (O:s1≤3) (F:s2≤3) (R:s3≤3) (S:s4≤3) (V:g≤8) (W:h≤4)
  (y:A.length=max m 1) (w:∀ x∈A,tO x∧bJ x=true)
  (K:mc≤2) (l:∃ f:Nat,f<mc∧(ms=[(f:Int)]∨mc=2∧ms=[(f:Int),1-(f:Int)])) :
  kC mc ⟨E,(k:Nat),(m:Nat),(q:Nat),0,(s1:Nat),(s2:Nat),(s3:Nat),(s4:Nat),ms,A,mkT (g:Nat) ((8:Nat):Int),mkT (h:Nat) ((1:Nat):Int)⟩=true ∧
  (⟨E,(k:Nat),(m:Nat),(q:Nat),0,(s1:Nat),(s2:Nat),(s3:Nat),(s4:Nat),ms,A,mkT (g:Nat) ((8:Nat):Int),mkT (h:Nat) ((1:Nat):Int)⟩:dD).Ok:=by
 have G:=SmF.mk' (a:=g) (b:=8) Om (by decide) (by decide);have Z:=SmF.mk' (a:=h) (b:=1) Om (by decide) (by decide);obtain⟨f,U,l⟩:=l;constructor
 ·unfold kC KV CS;simp only[aUC,List.all_cons,List.all_nil,aVK];refine⟨⟨⟨⟨⟨⟨⟨⟨fC Om Om,fC Om Om⟩,decide_eq_true Om⟩,fC Om Om⟩,rfl⟩,fC Om Om,fC Om Om,fC Om Om,fC Om Om,fC Om Om⟩,?_⟩,⟨⟨⟨⟨decide_eq_true (by rw[y]; omega),?_⟩,G.lim⟩,G.one Om⟩,Z.lim⟩⟩,?_⟩
  ·rcases l with e | ⟨-,e⟩<;>rw[e]<;>rfl
  ·rw[aUH];intro x u;rw[(w x u).1.lim,(w x u).2];rfl
  ·rw[aUH];rcases l with rfl | ⟨rfl,rfl⟩
   ·intro j B;simp only[aVA,aVR,aUD] at B;have:j=0:=Om;subst this;rw[aUC];exact⟨fC (by simp) (by simp; omega),by simp⟩
   ·intro j B;simp only[aVA,aVR,aUD] at B;have:j=0∨j=1:=Om;rcases this with rfl | rfl
    ·rw[aUC];exact⟨fC (by simp) (by simp; omega),by simp⟩
    ·rw[aUC];refine⟨fC (by simp; omega) (by simp; omega),?_⟩;have:¬ (1-(f:Int)=f):=Om;simp[this]
 ·refine⟨by unfold dN; constructor<;>simp only<;>omega,by unfold dN; constructor<;>simp only<;>omega,by unfold dN; constructor<;>simp only<;>omega,?_,?_,⟨?_,fun x u=>(w x u).1.ok⟩,G.ok,Z.ok⟩
  ·show ms.length≤_;rcases l with e | ⟨-,e⟩<;>rw[e]<;>simp
  ·show ∀ x∈ms,dN x;unfold dN;rcases l with e | ⟨F,e⟩<;>rw[e]<;>intro x u<;>simp only[aTW,aUJ,or_false] at u
   ·subst u; omega
   ·rcases u with rfl | rfl<;>omega
  ·show A.length≤_;rw[y]; omega
theorem Dn (l:List Nat) {mc:Nat} (E:0<mc) (F:mc≤2) (i a:Nat):(mX l mc i a).1.name=[112]++cC i∧kC mc (mX l mc i a).1=true∧(mX l mc i a).1.Ok:=by
 refine⟨rfl,?_⟩;have N:=cS l (show 0<2 by decide) a;have O:=cS l (show 0<3 by decide) (aF l 2 a).2;have M:=cS l (show 0<4 by decide) (aF l 3 (aF l 2 a).2).2;unfold mX;simp only;generalize aF l 2 a=k at *
 generalize aF l 3 k.2=m at *
 generalize aF l 4 m.2=h at *
 have hq:=cS l (Om:0<m.1+1) h.2;generalize aF l (m.1+1) h.2=q at *
 obtain⟨r1,r2⟩:=abY l q.2 (max m.1 1);generalize lC l q.2 (max m.1 1)=r at *
 have K:=cS l (show 0<9 by decide) r.2;generalize aF l 9 r.2=g at *
 obtain⟨R,x,e⟩:=zA l g.2;generalize iU l g.2=s1 at *
 obtain⟨S,y,j⟩:=zA l s1.2;generalize iU l s1.2=s2 at *
 obtain⟨U,A,u⟩:=zA l s2.2;generalize iU l s2.2=s3 at *
 obtain⟨V,B,w⟩:=zA l s3.2;generalize iU l s3.2=s4 at *
 have I:=cS l E s4.2;generalize aF l mc s4.2=f at *
 generalize aF l 2 f.2=b at *
 rw[x,y,A,B];refine aJO Om Om Om Om Om e j u w Om Om r1 r2 F ⟨f.1,I,?_⟩;split
 ·rename_i J;split
  ·exact .inr ⟨by omega,rfl⟩
  ·exact .inl rfl
 ·exact .inl rfl
theorem CR (l:List Nat) {mc:Nat} (j:0<mc) (u:mc≤2) (a:Nat):∀ n,(eA l mc a n).1.length=n∧∀ i (hi:i<(eA l mc a n).1.length),(eA l mc a n).1[i].name=[112]++cC i∧kC mc (eA l mc a n).1[i]=true∧(eA l mc a n).1[i].Ok
 | 0=>⟨rfl,fun i hi=>absurd hi (by simp[eA])⟩
 | n+1=>by obtain⟨k1,k2⟩:=CR l j u a n;have e:(eA l mc a (n+1)).1=(eA l mc a n).1++[(mX l mc n (eA l mc a n).2).1]:=rfl;rw[e];refine⟨by simp[k1],sP (P:=fun i (x:dD)=>x.name=[112]++cC i∧kC mc x=true∧x.Ok) k2 ?_⟩;rw[k1];exact Dn l j u n _
theorem HI (l:List Nat) {pc:Nat} (j:0<pc) (a:Nat):∀ n,(eZ l pc a n).1.length=n∧∀ i (hi:i<(eZ l pc a n).1.length),(eZ l pc a n).1[i].name=[118]++cC i∧∃ p:Nat,(eZ l pc a n).1[i].aSH=p∧p<pc
 | 0=>⟨rfl,fun i hi=>absurd hi (by simp[eZ])⟩
 | n+1=>by obtain⟨k1,k2⟩:=HI l j a n;have e:(eZ l pc a (n+1)).1=(eZ l pc a n).1++[⟨[118]++cC n,((aF l pc (eZ l pc a n).2).1:Nat)⟩]:=rfl;rw[e];refine⟨by simp[k1],sP (P:=fun i (x:fE)=>x.name=[118]++cC i∧∃ p:Nat,x.aSH=p∧p<pc) k2 ?_⟩;rw[k1];exact⟨rfl,_,rfl,cS l j _⟩
abbrev lvs (ds:List cN):List Int:=ds.map cN.level
def aOO (ds:List cN) (i:Nat) (d:cN):Prop:=∃ lev p u:Nat,d.name=[mE lev]++cC (i+1)∧d.level=lev∧1≤lev∧lev≤4∧d.parent=p∧p≤i∧(lvs ds)[p]?=some ((lev:Int)-1)∧d.aSP=u∧1≤u∧u≤16∧tO d.aSK
def aIG (ds:List cN) (mc i:Nat) (d:dQ):Prop:=∃ m c:Nat,d.name=[100]++cC i∧d.model=m∧m<mc∧d.machine=c∧(lvs ds)[c]?=some 4
structure GV (mc aRU:Nat) (s:GS):Prop where
 len:s.aSE.length≤35
 aSO:s.aSO.length≤aRU
 root:s.aSE[0]?=some nE
 dom:∀ i (hi:i+1<s.aSE.length),aOO s.aSE i s.aSE[i+1]
 drv:∀ i (hi:i<s.aSO.length),aIG s.aSE mc i s.aSO[i]
theorem GV.a {mc aRU:Nat} {s:GS} (h:GV mc aRU s) (x:Nat):GV mc aRU { s with a:=x }:=⟨h.len,h.aSO,h.root,h.dom,h.drv⟩
theorem Jo (l:List Nat) {mc aRU dom:Nat} (j:0<mc) {s:GS} (h:GV mc aRU s) (w:(lvs s.aSE)[dom]?=some 4):∀ n,GV mc aRU (kL l mc aRU dom s n)∧(kL l mc aRU dom s n).aSE=s.aSE
 | 0=>⟨h,rfl⟩
 | n+1=>by
  obtain⟨e,u⟩:=Jo l j h w n;simp only[kL];generalize kL l mc aRU dom s n=t at *
  split
  ·rename_i hlt;refine⟨⟨e.len,by simp only[aTM,aTT]; omega,e.root,e.dom,?_⟩,u⟩;refine sP (P:=fun i d=>aIG t.aSE mc i d) e.drv ?_;exact⟨_,dom,rfl,rfl,cS l j _,rfl,by rw[u]; exact w⟩
  ·exact⟨e,u⟩
theorem AA {ds:List cN} {p:Nat} {x:Int} {t:List cN} (h:(lvs ds)[p]?=some x):(lvs (ds++t))[p]?=some x:=by
 unfold lvs at *
 rw[aUX,aVI]
 ·exact h
 ·exact (aUN.1 h).1
theorem aCP (l:List Nat) {mc aRU dom level:Nat} {s:GS} (h:GV mc aRU s) (y:1≤level) (J:level≤4) (B:(lvs s.aSE)[dom]?=some ((level:Int)-1)) (E:qQ aRU s=false) :
  GV mc aRU (oC l level dom s)∧(∃ t,(oC l level dom s).aSE=s.aSE++t)∧(oC l level dom s).aSE.length=s.aSE.length+1∧(lvs (oC l level dom s).aSE)[s.aSE.length]?=some (level:Int):=by
 unfold qQ at E;simp only[Bool.or_eq_false_iff,decide_eq_false_iff_not] at E;have I:dom<s.aSE.length:=by
  have:=(aUN.1 B).1
  rwa [aTJ] at this
 have M:=cS l (show 0<16 by decide) s.a;have K:=cS l (show 0<6 by decide) (aF l 3 (aF l 16 s.a).2).2;unfold oC;simp only;generalize aF l 16 s.a=u at *
 generalize aF l 3 u.2=t at *
 generalize aF l 6 t.2=k at *
 have A:tO (if t.1=0 then (mkT 1 ((2+k.1:Nat):Int),k.2) else (kO,t.2)).1:=by
  split
  ·exact (SmF.mk' (a:=1) (b:=2+k.1) Om Om Om).o
  ·exact qL.o
 generalize (if t.1=0 then (mkT 1 ((2+k.1:Nat):Int),k.2) else (kO,t.2))=sh at *
 refine⟨⟨by simp only[aTM,aTT]; omega,h.aSO,?_,?_,fun i hi=>?_⟩,⟨_,rfl⟩,by simp,?_⟩
 ·rw[aVI Om]; exact h.root
 ·intro i hi;simp only[aTM,aTT] at hi;by_cases hlt:i+1<s.aSE.length
  ·rw[List.getElem_append_left hlt];obtain⟨lev,p,v,e,j,w,x,h5,F,h7,h8⟩:=h.dom i hlt;exact⟨lev,p,v,e,j,w,x,h5,F,AA h7,h8⟩
  ·have:i+1=s.aSE.length:=Om;rw[List.getElem_append_right Om];simp only[List.getElem_singleton];exact⟨level,dom,1+u.1,by rw[this],rfl,y,J,rfl,by omega,AA B,rfl,by omega,by omega,A⟩
 ·obtain⟨m,c,e,j,w,x,h5⟩:=h.drv i hi;exact⟨m,c,e,j,w,x,AA h5⟩
 ·unfold lvs;rw[aUX,aVG (by rw[aTJ]; exact aTO _),aTJ,Nat.sub_self];rfl
theorem Jp (l:List Nat) {mc aRU dom level:Nat} (j:1≤level) (E:level≤4) {rec:Nat→GS→GS}
  (e:∀ d t,GV mc aRU t→(lvs t.aSE)[d]?=some (level:Int)→GV mc aRU (rec d t)∧∃ u,(rec d t).aSE=t.aSE++u) {s:GS} (h:GV mc aRU s) (B:(lvs s.aSE)[dom]?=some ((level:Int)-1)) :
  ∀ n,GV mc aRU (hQ l level aRU dom rec s n)∧∃ u,(hQ l level aRU dom rec s n).aSE=s.aSE++u
 | 0=>⟨h,[],by simp[hQ]⟩
 | n+1=>by
  obtain⟨A,u,x⟩:=Jp l j E e h B n;simp only[hQ];generalize hQ l level aRU dom rec s n=t at *
  split
  ·exact⟨A,u,x⟩
  ·rename_i F;have y:(lvs t.aSE)[dom]?=some ((level:Int)-1):=by rw[x]; exact AA B
   obtain⟨k1,⟨v,k2⟩,I,J⟩:=aCP l A j E y (by simpa using F);obtain⟨K,w,M⟩:=e ((oC l level dom t).aSE.length-1) (oC l level dom t) k1 (by rw[I,Nat.add_sub_cancel]; exact J);exact⟨K,u++(v++w),by rw[M,k2,x]; simp⟩
theorem Jq (l:List Nat) {mc aRU:Nat} (e:0<mc):∀ (k:Nat),k≤4→∀ (dom:Nat) {s:GS},GV mc aRU s→(lvs s.aSE)[dom]?=some (4-(k:Int))→GV mc aRU (fG l mc aRU k dom s)∧∃ u,(fG l mc aRU k dom s).aSE=s.aSE++u
 | 0,_,dom,s,h,j=>by simp only[fG];obtain⟨x,y⟩:=Jo l e (h.a (aF l 2 s.a).2) j (1+(aF l 2 s.a).1);exact⟨x,[],by rw[y]; simp⟩
 | k+1,B,dom,s,h,j=>by
  simp only[fG];refine Jp l Om Om (fun d t A w=>Jq l e k Om d A ?_) (h.a (aF l 2 s.a).2) ?_ _
  ·rw[w]; congr 1; omega
  ·rw[j]; congr 1; omega
theorem xo (lev:Nat) (e:1≤lev) (j:lev≤4):fJ (mE lev).toNat=true∧mE lev≠100:=by
 have:lev=1∨lev=2∨lev=3∨lev=4:=Om;rcases this with rfl | rfl | rfl | rfl<;>decide
theorem np (c:UInt8) {k:Nat} (e:k<100):VA (([c]++cC k).drop 1)=k:=by
 show VA (cC k)=k;rw[QI e];exact (Fi ⟨k,e⟩).1
theorem Ue {mc aRU:Nat} {s:GS} (h:GV mc aRU s) (M:aRU≤60):distinct ((s.aSE.drop 1).map cN.name++s.aSO.map dQ.name)=true:=by
 have E:∀ i (hi:i<((s.aSE.drop 1).map cN.name).length),∃ lev:Nat,1≤lev∧lev≤4∧((s.aSE.drop 1).map cN.name)[i]=[mE lev]++cC (i+1):=by intro i hi;rw[aTJ,aVE] at hi;obtain⟨lev,p,u,l,-,I,w,-⟩:=h.dom i Om;refine⟨lev,I,w,?_⟩;rw[aVQ,List.getElem_drop];simp only[Nat.add_comm 1 i];exact l
 have hB:∀ i (hi:i<(s.aSO.map dQ.name).length),(s.aSO.map dQ.name)[i]=[100]++cC i:=by intro i hi;rw[aTJ] at hi;obtain⟨m,c,l,-⟩:=h.drv i hi;rw[aVQ]; exact l
 have N:((s.aSE.drop 1).map cN.name).length≤40:=by rw[aTJ,aVE]; have:=h.len; omega
 have O:(s.aSO.map dQ.name).length≤60:=by rw[aTJ]; have:=h.aSO; omega
 generalize (s.aSE.drop 1).map cN.name=A at *
 generalize s.aSO.map dQ.name=B at *
 refine VH ?_ ?_
 ·intro x hx;rcases aUR.1 hx with hx | hx
  ·obtain⟨i,hi,rfl⟩:=aVD hx;obtain⟨lev,l,w,e⟩:=E i hi;rw[e];exact tr rfl (xo lev l w).1 rfl (by simp) Om
  ·obtain⟨i,hi,rfl⟩:=aVD hx;rw[hB i hi];exact tr rfl (by decide) rfl (by simp) Om
 ·rw[aWG];refine⟨?_,?_,?_⟩
  ·refine RG (g:=fun s=>VA (s.drop 1)-1) fun i hi=>?_;obtain⟨lev,-,-,e⟩:=E i hi;rw[e,np _ Om];omega
  ·refine RG (g:=fun s=>VA (s.drop 1)) fun i hi=>?_;rw[hB i hi];exact np _ Om
  ·intro x hx y K e;obtain⟨i,hi,rfl⟩:=aVD hx;obtain⟨j,J,rfl⟩:=aVD K;obtain⟨lev,l,w,F⟩:=E i hi;rw[F,hB j J] at e;exact (xo lev l w).2 (List.cons.inj e).1
theorem ayK {mc aRU a:Nat}:GV mc aRU ⟨[nE],[],a⟩ :=
 ⟨by simp,aTQ _,rfl,fun i hi=>absurd hi (by simp),fun i hi=>absurd hi (by simp)⟩
theorem aDZ {mc aRU:Nat} {s:GS} (h:GV mc aRU s) (f:aD) (A:f.aRX=s.aSE):oT f=true:=by
 have x:=h.root;have w:=h.dom;unfold oT;rw[A];cases j:s.aSE with
 | nil=>rw[j] at x; cases x
 | cons r t =>
  rw[j] at x;have:r=nE:=by simpa using x
  subst this;show CC f nE t=true;unfold CC;simp only[aUC];refine⟨⟨⟨⟨⟨⟨rfl,rfl⟩,rfl⟩,rfl⟩,qL.lim⟩,by rw[show nE.aSK=kO from rfl,qL.zero]; rfl⟩,?_⟩;rw[aUH];intro i hi;rw[aUD] at hi;rw[aTP hi];obtain⟨lev,p,u,B,y,F,I,h5,J,h7,h8,K,E,l⟩:=w i (by rw[j]; simp; omega);have e:s.aSE[i+1]'(by rw[j]; simp; omega)=t[i]:=by simp[j]
  rw[e] at B y h5 h8 l;show HX f i t[i]=true;unfold HX;simp only[aUC];refine⟨⟨⟨⟨?_,?_⟩,?_⟩,?_⟩,l.lim⟩
  ·rw[h5]; exact fC Om Om
  ·rw[h5,y,A,aWN,aTR,h7,po Om Om];exact decide_eq_true rfl
  ·rw[y]; exact fC Om Om
  ·rw[h8]; exact fC Om Om
theorem Gf (l:List Nat) (aRU aRW a:Nat) (hd:aRU≤24) (hv:aRW≤12) :
  dA (jQ l aRU aRW a).1=true∧(jQ l aRU aRW a).1.Ok:=by
 unfold jQ;simp only;have he:=cS l (show 0<2 by decide) a;generalize aF l 2 a=e at *
 have γ:=cS l (show 0<2 by decide) e.2;generalize aF l 2 e.2=F at *
 obtain⟨w1,W⟩:=VQ l F.2 (1+F.1);generalize jK l F.2 (1+F.1)=aSC at *
 have δ:=cS l (show 0<2 by decide) aSC.2;generalize aF l 2 aSC.2=B at *
 obtain⟨Z,m2⟩:=OK l (1+F.1) Om B.2 (1+B.1);generalize eW l (1+F.1) B.2 (1+B.1)=aRV at *
 obtain⟨G,-⟩:=Jq l (mc:=1+B.1) (aRU:=aRU) Om 4 (by decide) 0 (s:=⟨[nE],[],aRV.2⟩) ayK rfl;generalize fG l (1+B.1) aRU 4 0 ⟨[nE],[],aRV.2⟩=g at *
 have ε:=cS l (show 0<2 by decide) g.a;generalize aF l 2 g.a=pl at *
 obtain⟨p1,U⟩:=CR l (mc:=1+B.1) Om Om pl.2 (1+pl.1);generalize eA l (1+B.1) pl.2 (1+pl.1)=pols at *
 have ζ:=cS l (Om:0<aRW+1) pols.2;generalize aF l (aRW+1) pols.2=K at *
 obtain⟨v1,V⟩:=HI l (pc:=1+pl.1) Om K.2 K.1;generalize eZ l (1+pl.1) K.2 K.1=vols at *
 have g1:=G.len;have g2:=G.aSO;have S:∀ f:aD,f.aRX=g.aSE→oT f=true:=fun f hf=>aDZ G f hf;have j:∀ n:Nat,n≤1000→n≤9223372036854775807:=fun n h=>by omega
 have E:∀ x∈g.aSO,∃ m c:Nat,x.model=m∧m<1+B.1∧x.machine=c∧c<g.aSE.length∧(lvs g.aSE)[c]?=some 4:=by
  intro x w;obtain⟨i,hi,rfl⟩:=aVD w;obtain⟨m,c,-,R,X,Y,h5⟩:=G.drv i hi;refine⟨m,c,R,X,Y,?_,h5⟩;have:=(aUN.1 h5).1
  rwa [aTJ] at this
 constructor
 ·unfold dA;rw[S _ rfl];simp only[aUC,aVK];refine⟨⟨?_,⟨⟨⟨⟨?_,?_⟩,?_⟩,?_⟩,?_⟩⟩,⟨⟨⟨?_,?_⟩,Ue G Om⟩,?_⟩,?_⟩
  ·unfold oK;simp only[aUC];exact⟨⟨⟨⟨⟨⟨fC Om Om,decide_eq_true Om⟩,decide_eq_true Om⟩,decide_eq_true Om⟩,decide_eq_true Om⟩,decide_eq_true Om⟩,decide_eq_true Om⟩
  ·exact zO fun i hi=>(W i hi).2.1
  ·refine zO fun i hi=>?_;obtain⟨-,x,y,z,A,I,J,M,N,e6,e7,e8⟩:=m2 i hi;unfold kZ;simp only[aUC];rw[A,M,e7,w1];exact⟨⟨fC Om Om,fC Om Om⟩,fC Om Om⟩
  ·rw[aUH];intro x w;obtain⟨m,c,A,I,J,M,N⟩:=E x w;unfold jP;simp only[aUC];rw[A,J,Z,aWN,aTR,N];exact⟨⟨fC Om Om,fC Om Om⟩,rfl⟩
  ·refine zO fun i hi=>?_;rw[Z]; exact (U i hi).2.1
  ·refine zO fun i hi=>?_;obtain⟨-,p,A,I⟩:=V i hi;unfold oZ;rw[A,p1];exact fC Om Om
  ·refine tX (p:=[108,97,119]) rfl (by decide) (by decide) (by decide) (by rw[aTJ]; omega) fun i hi=>?_;rw[aVQ]; exact (W i (by simpa using hi)).1
  ·refine tX (p:=[109]) rfl (by decide) (by decide) (by decide) (by rw[aTJ]; omega) fun i hi=>?_;rw[aVQ]; exact (m2 i (by simpa using hi)).1
  ·refine tX (p:=[112]) rfl (by decide) (by decide) (by decide) (by rw[aTJ]; omega) fun i hi=>?_;rw[aVQ]; exact (U i (by simpa using hi)).1
  ·refine tX (p:=[118]) rfl (by decide) (by decide) (by decide) (by rw[aTJ]; omega) fun i hi=>?_;rw[aVQ]; exact (V i (by simpa using hi)).1
 ·refine⟨j aSC.1.length Om,j aRV.1.length Om,j g.aSE.length Om,j g.aSO.length Om,j pols.1.length Om,j vols.1.length Om,?_,?_,?_,?_,?_⟩
  ·intro x w;obtain⟨i,hi,rfl⟩:=aVD w;exact (W i hi).2.2
  ·intro x w;obtain⟨i,hi,rfl⟩:=aVD w;rcases aVP i with rfl | hp
   ·have:g.aSE[0]=nE:=by have:=G.root; rw[aTP hi] at this; exact aVU.inj this
    rw[this];exact⟨qL.ok,by unfold dN; decide,by unfold dN; decide⟩
   ·obtain⟨k,rfl⟩:∃ k,i=k+1:=⟨i-1,by omega⟩;obtain⟨lev,p,u,h1,R,X,Y,h5,h6,h7,h8,h9,α,O⟩:=G.dom k hi;have β:k+1<g.aSE.length:=hi;rw[R,h5];exact⟨O.ok,by unfold dN; omega,by unfold dN; omega⟩
  ·intro x w;obtain⟨m,c,A,I,J,M,N⟩:=E x w;rw[A,J];unfold dN; omega
  ·intro x w;obtain⟨i,hi,rfl⟩:=aVD w;exact (U i hi).2.2
  ·intro x w;obtain⟨i,hi,rfl⟩:=aVD w;obtain⟨-,p,A,I⟩:=V i hi;rw[A];unfold dN; omega


theorem ayS {C:Ctx} (f:aD) (j:VF f) (v:Nat) (h:v<f.aRW.length) :
  LS.wp C (aR ajY.res (cB (.int .i64 (mR f v)))) (PF.args [.agg f.cells,.int .i64 v]) .nil:=by
 obtain⟨l,he⟩:=nL j h;have e:=j.aSH _ (aTN l);rw[he] at e;have u:IntKind.i64.wrap ((bZ f v).k+(bZ f v).m)=(bZ f v).k+(bZ f v).m:=wrap_i64 Om Om;simp only[go_sem,LS,Pz,ajY];refine bC .nil cX a_ ?_;simp only[go_sem,P0,uT h,j.SB h,pI l,he];refine aO fun o w=>?_;simp only[go_sem,P1,u];refine⟨a_,?_⟩;exact nM (n:=(bZ f v).k+(bZ f v).m) Ev rfl

def fT (l:List Nat) (d v:Nat):aD:=(jQ (l.take 400) d v 0).1
structure sB (f:aD) (L:List (List Int)):Prop where
 len:L.length=f.aRW.length
 row:∀ v (h:v<L.length),((L[v].length:Nat):Int)=mR f v
 home:∀ r∈L,∀ x∈r,-1≤x∧x<f.aRU.length
theorem sB.aMJ {f:aD} {L:List (List Int)} (h:sB f L) (hV:VF f):∀ k,k≤L.length→(L.take k).flatten.length≤k*8:=by
 have y:=h.len;intro k
 induction k with
 | zero=>intro _; simp
 | succ k w =>intro j;rw[amX L j,aTM];have x:=w Om;have l:=h.row k j;obtain⟨u,he⟩:=nL hV (Om:k<f.aRW.length);have e:=hV.aSH _ (aTN u);rw[he] at e;unfold mR at l;omega
theorem sB.ok {f:aD} (hV:VF f) {L:List (List Int)} (h:sB f L):aLF L:=by
 have j:=hV.small.aRW;have e:=h.len;have:=h.aMJ hV L.length (aTO _);rw[aUS] at this;exact⟨by omega,by omega⟩
section
variable {H:PH} {B:List BX} {L:List LI}
end
theorem rQ {k v:Int} {n:Nat} {p:Nat→Bool}:wE k v n p=[]↔∀ i,i<n→p i=false:=by
 unfold wE;rw[List.map_eq_nil_iff,List.filter_eq_nil_iff];constructor
 ·intro h i hi;have:=h i (aUD.2 hi);simpa using this
 ·intro h i hi;rw[h i (aUD.1 hi)];decide
theorem anR {f:aD} {l:List (List Int)} {room:List Int} (j:dA f=true) (e:l.length=f.aRW.length) :
  xF f l room=true↔agS f l l.length=[]∧∀ d,d<f.aRU.length→over f l room d=false:=by
 unfold xF akZ aBU;rw[j,if_pos rfl,if_pos e,aTY,decide_eq_true_eq,List.length_eq_zero_iff,List.append_eq_nil_iff,rQ]
theorem VM {p:Int→Bool}:∀ {l:List Int} {i:Nat},(∀ x∈l,p x=false)→ID p l i=none
 | [],_,_=>rfl
 | y::t,i,h=>by rw[ID,h y (by simp),if_neg (by decide)];exact VM fun x e=>h x (by simp[e])
theorem sB.shape {f:aD} {L:List (List Int)} (h:sB f L) {v:Nat} (j:v<L.length):P2 f L v=none:=by
 have e:L.getD v []=L[v]:=by simp[aTR,j]
 unfold P2;rw[e,if_pos (h.row v j),VM]
 ·rfl
 ·intro x l;have:=h.home _ (aTN j) x l;simp[aIU];omega
section
variable {H:PH} {B:List BX} {L:List LI} {s:Nat} {rows:List (List PV)}
theorem nO.some (s:Nat) (rows:List (List PV)) (G:PH):∃ r H',nO s rows r H'∧lS G .nil H':=by
 obtain⟨o,l⟩:=G.fresh;refine⟨.osl o s 0 rows.length,PH.nil.set o (.rows s rows),.inr ⟨o,rows,rfl,rfl,aTO _,aUS⟩,fun q x j _=>?_⟩;rw[aT] at j;split at j
 ·rename_i e; rw[e]; exact l
 ·cases j
end

section
variable {C:Ctx} {F:PF} {H Hs:PH} {tn a a2:Nat} {raw:List Int} {R:Nat→PV→PH→Prop} {st:Bool} {args:List aN} {d:Option Nat} {K:PF→PH→Prop}
end
section
variable {C:Ctx} {F:PF} {H:PH} {B:List BX} {L:List LI} {args:List aN} {d:Option Nat} {K:PF→PH→Prop}
theorem aM.vG (h:aM H B L) {x:bO} {e:Nat→PV} (j:∀ o H',aM H' (B++[(o,x)]) L→K (F.put d (e o)) H'):nG (some (e,x)) d K F H:=aO fun o l=>j o _ (h.new l x)
end
theorem aqI {f:aD} (hV:VF f) (room:List Int) {d:Nat} (e:d<f.aRU.length):0≤mP f room d∧mP f room d≤ext f d∧1≤ext f d∧ext f d≤16:=by
 obtain⟨j,he⟩:=hV.Ft e;have:=hV.model _ (aTN j);rw[he] at this;unfold mP;split
 ·omega
 ·omega
theorem atZ (l:List Nat) {d v:Nat} (e:d≤24) (j:v≤12):dA (fT l d v)=true∧(fT l d v).Ok:=Gf (l.take 400) d v 0 e j

theorem sB.move {f:aD} {L:List (List Int)} (h:sB f L) {x k d:Nat} (w:x<L.length) (A:d<f.aRU.length):sB f (L.set x (L[x].set k d)):=by
 refine⟨by rw[aVJ]; exact h.len,fun v u=>?_,fun r j=>?_⟩
 ·rw[aVJ] at u;have:=h.row v u;rw[List.getElem_set];split
  ·rename_i e;subst e;rw[aVJ]; exact this
  ·exact this
 ·rcases List.mem_or_eq_of_mem_set j with j | rfl
  ·exact h.home r j
  ·intro y l;rcases List.mem_or_eq_of_mem_set l with l | rfl
   ·exact h.home _ (aTN w) y l
   ·omega


structure D0 (C:Ctx):Prop extends gq C where
 int:∀ n:Int,dN n→aG C 47 [.int .i64 n] .nil (aI (.agg (mkT n 1).cells))
 mul:∀ a b,Lim a→Lim b→a.length≤35184372087808→b.length≤35184372087808→aG C 36 [aK a,aK b] .nil (aI (opV (eI (val a) (val b)) (val a*val b)))
 add:∀ a b,Lim a→Lim b→a.length≤35184372087808→b.length≤35184372087808→aG C 30 [aK a,aK b] .nil (aI (opV (eI (val a) (val b)) (val a+val b)))
 sub:∀ a b,Lim a→Lim b→a.length≤35184372087808→b.length≤35184372087808→aG C 37 [aK a,aK b] .nil (aI (sQ (val a) (val b)))
theorem Bz (a b:Nat):dC a b=(decide (nl b>0)&&(decide (nl b≤128)&&decide (nl a≤128))):=by
 have:=@jL b;refine Bool.eq_iff_iff.2 ?_;rw[gJ];simp only[aUC,decide_eq_true_eq];omega
theorem asB {C:Ctx} (L:D0 C) (neg:Bool) (a b:List Nat) (x:Lim a) (hb:Lim b) (y:a.length≤35184372087808) (w:b.length≤35184372087808) :
  FT.wp C (aR S3.res (aI (.bool (dC (val a) (val b))))) (PF.args [.agg (eT neg a b)]) .nil:=by
 rw[Bz];simp only[go_sem,FT,Cl,Cm,S3];refine aA (L.trim b hb w) rfl ?_;simp only[go_sem,aTJ,aY];by_cases l:nl (val b)>0
 ·have e:((nl (val b):Nat):Int)>0:=Om;simp only[go_sem,e];refine aA (L.trim b hb w) rfl ?_;simp only[go_sem,aTJ,aY];by_cases u:nl (val b)≤128
  ·have j:((nl (val b):Nat):Int)≤128:=Om;simp only[go_sem,j];refine aA (L.trim a x y) rfl ?_;simp only[go_sem,aTJ,aY];refine aQ (.inr rfl) rfl ?_;have:decide (((nl (val a):Nat):Int)≤128)=decide (nl (val a)≤128):=by refine decide_eq_decide.2 ?_;omega
   rw[bQ,this,decide_eq_true l,decide_eq_true u];rfl
  ·have j:¬ ((nl (val b):Nat):Int)≤128:=Om;simp only[go_sem,j];refine aQ (.inr rfl) rfl ?_;rw[bQ,decide_eq_false u,aTS,aUU]
 ·have e:¬ ((nl (val b):Nat):Int)>0:=Om;simp only[go_sem,e];refine aQ (.inr rfl) rfl ?_;rw[bQ,decide_eq_false l,aTS]
theorem an {neg:Bool} {a b:Nat} (h:dC a b=true):jN neg a b=.ok (nI neg a b):=by
 obtain⟨w,e,j⟩:=gJ.1 h;have l:=(mW (a/aTL a b) 128).2 (mb _ j);have u:=(mW (b/aTL a b) 128).2 (mb _ e);unfold jN nI;rw[if_neg Om]
def agC (a b:Nat):Bool:=decide (nl a>128)||decide (nl b>128)
theorem arV {C:Ctx} (neg:Bool) (a b:List Nat) :
  FP.wp C (aR Sg.res (aI (.bool (decide (a.length>128)||decide (b.length>128))))) (PF.args [.agg (eT neg a b)]) .nil:=by
 simp only[go_sem,FP,B5,B6,Sg,aTJ];by_cases c:a.length>128
 ·have e:(a.length:Int)>128:=Om;simp only[go_sem,e];refine aQ (.inr rfl) rfl ?_;rw[bQ,decide_eq_true c,Bool.true_or]
 ·have e:¬ (a.length:Int)>128:=Om;simp only[go_sem,e,aTJ];refine aQ (.inr rfl) rfl ?_;have:decide ((b.length:Int)>128)=decide (b.length>128):=by refine decide_eq_decide.2 ?_;omega
  rw[bQ,this,decide_eq_false c,Bool.false_or]
def F9 (x:FV):FR:=if agC x.2.1 x.2.2 then .error 2 else .ok x
theorem aDD (neg:Bool) (a b:Nat):F9 (nI neg a b)=jN neg a b:=by
 have e:=mW (a/aTL a b) 128;have j:=mW (b/aTL a b) 128;unfold F9 nI jN agC;simp only[Bool.or_eq_true,decide_eq_true_eq];by_cases c:nl (a/aTL a b)>128∨nl (b/aTL a b)>128
 ·rw[if_pos c,if_pos Om]
 ·rw[if_neg c,if_neg Om]
structure gs (C:Ctx):Prop extends D0 C where
 valid:∀ x:RF,x.Ok→aG C 56 [.agg x.cells] .nil (aI (.bool (dC (val x.num) (val x.den))))
 big:∀ x:FV,aG C 48 [.agg x.rf.cells] .nil (aI (.bool (agC x.2.1 x.2.2)))
theorem aAE {C:Ctx} (L:gs C) (x:FV):MV.wp C (aR akX.res (cB (frV (F9 x)))) (PF.args [.agg x.rf.cells]) .nil:=by
 simp only[go_sem,MV,Sa,akX];refine aO fun o e=>?_;simp only[go_sem,Sb];refine aA (L.big x) rfl ?_;unfold F9;cases agC x.2.1 x.2.2 with
 | true =>simp only[go_sem,Sd];refine jJ ?_;simp only[go_sem]
 | false =>obtain⟨n,a,b⟩:=x;simp only[go_sem,Se];exact aV (.inr rfl) .nil (vs:=[.agg (FV.rf (n,a,b)).cells,.int .i64 0]) Sq a_ ⟨.refl _,rfl⟩
theorem alD {C:Ctx} (L:gs C) (x:RF) (j:x.Ok):BR.wp C (aR vi.res (cB (frV (pN x)))) (PF.args [.agg x.cells]) .nil:=by
 simp only[go_sem,BR,oc,vi];refine aO fun o w=>?_;simp only[go_sem,oe];refine aA (L.valid x j) rfl ?_;unfold pN;cases l:dC (val x.num) (val x.den) with
 | false =>simp only[go_sem,aTZ,og];refine jJ ?_;simp only[go_sem]
 | true =>obtain⟨u,y,A⟩:=gJ.1 l;have e:=an (neg:=x.neg) l;rw[if_pos rfl,e];simp only[go_sem,aTV,oi];refine aA (L.lowest x.neg x.num x.den j.1 j.2.1 j.2.2.1 j.2.2.2 Om Om u) rfl ?_;simp only[go_sem];exact aV (.inr rfl) .nil (vs:=[.agg (nI x.neg (val x.num) (val x.den)).rf.cells,.int .i64 0]) Sq a_ ⟨.refl _,rfl⟩
theorem arZ {C:Ctx} (L:D0 C) (a b:List Nat) (e:Lim a) (hb:Lim b) (j:a.length≤35184372087808) (l:b.length≤35184372087808) (u:nl (val a)≤256) (w:nl (val b)≤256) :
  FS.wp C (aR S1.res (aI (aK (aJ (val a*val b))))) (PF.args [aK a,aK b]) .nil:=by
 simp only[go_sem,FS,Ch,Cj,S1];refine aA (L.mul a b e hb j l) rfl ?_;have:=mO u w;rw[jI Om Om,opV,BN Om];simp only[go_sem,Ck];refine aQ (.inr rfl) rfl ?_;rfl
structure Et (C:Ctx):Prop extends gs C where
 fits:∀ x:FV,aG C 57 [.agg x.rf.cells] .nil (aI (frV (F9 x)))
 red:∀ x:RF,x.Ok→aG C 52 [.agg x.cells] .nil (aI (frV (pN x)))
 prod:∀ a b,Lim a→Lim b→a.length≤35184372087808→b.length≤35184372087808→nl (val a)≤256→nl (val b)≤256→aG C 60 [aK a,aK b] .nil (aI (aK (aJ (val a*val b))))
def RF.valid (x:RF):Prop:=dC (val x.num) (val x.den)=true
def qF (x y:RF):Int:=qE x.neg (val x.num) (val x.den) y.neg (val y.num) (val y.den)
def voS:Spec:=fun name vs=>match name,vs with
 | 60,[x,y]=>some ([],fun _=>aI (aK (aJ (val (jY x)*val (jY y)))))
 | _,_=>none
theorem xO (a b:List Nat):voS 60 [aK a,aK b]=some ([],fun _=>aI (aK (aJ (val a*val b)))):=by
 show some _=_; rw[eS,eS]
theorem v6 (a b:Nat):dU b a=- dU a b:=by
 unfold dU;rcases Nat.lt_trichotomy a b with h | h | h
 ·rw[if_neg Om,if_pos h,if_pos h]; rfl
 ·subst h;rw[if_neg Om,if_neg Om]; rfl
 ·rw[if_pos h,if_neg Om,if_pos h]
set_option maxHeartbeats 1000000 in
theorem arX {C : Ctx} (L : Et C) (x y : RF) (hx : x.Ok) (hy : y.Ok) (vx : x.valid) (vy : y.valid) : FQ.wp C (aR Sr.res (aI (.int .i64 (qF x y)))) (PF.args [.agg x.cells, .agg y.cells]) .nil := by
  obtain ⟨n1, a1, b1⟩ := x;obtain ⟨n2, a2, b2⟩ := y;obtain ⟨ha1, hb1, la1, lb1⟩ := hx;obtain ⟨ha2, hb2, la2, lb2⟩ := hy;obtain ⟨v1, v2, v3⟩ := gJ.1 vx;obtain ⟨w1, w2, w3⟩ := gJ.1 vy;simp only at ha1 hb1 la1 lb1 ha2 hb2 la2 lb2 v1 v2 v3 w1 w2 w3;have m1 := mO v3 w2;have m2 := mO w3 v2;have hA : decide (val a1 ≠ 0) = decide (nl (val a1 * val b2) > 0) := by refine decide_eq_decide.2 ?_;have := @jL (val a1 * val b2);rw [Nat.mul_eq_zero] at this;omega
  have hB : decide (val a2 ≠ 0) = decide (nl (val a2 * val b1) > 0) := by refine decide_eq_decide.2 ?_;have := @jL (val a2 * val b1);rw [Nat.mul_eq_zero] at this;omega
  unfold qF qE;simp only [hA, hB];simp only[go_sem,FQ,B7,Sr];refine bC .nil voS a_ ?_;simp only[go_sem,B8];refine bX (xO a1 b2) (L.prod a1 b2 ha1 hb2 la1 lb2 Om Om) rfl a_ ?_;simp only[go_sem];refine bX (xO a2 b1) (L.prod a2 b1 ha2 hb1 la2 lb1 Om Om) rfl a_ ?_;have hc := L.cmp (aJ (val a1 * val b2)) (aJ (val a2 * val b1)) (aU _) (aU _) (by rw [aY]; omega) (by rw [aY]; omega);have hd := L.cmp (aJ (val a2 * val b1)) (aJ (val a1 * val b2)) (aU _) (aU _) (by rw [aY]; omega) (by rw [aY]; omega);rw [aS, aS] at hc hd;rw [v6 (val a1 * val b2)] at hd;generalize val a1 * val b2 = A at *
  generalize val a2 * val b1 = B at *
  have gA : decide (((nl A : Nat) : Int) > 0) = decide (nl A > 0) := decide_eq_decide.2 Om;have gB : decide (((nl B : Nat) : Int) > 0) = decide (nl B > 0) := decide_eq_decide.2 Om;generalize decide (nl A > 0) = p at *
  generalize decide (nl B > 0) = q at *
  cases n1 <;> cases n2 <;> cases p <;> cases q
  all_goals
    simp only[go_sem,B9,aTJ,aY,gA,gB,Ca,Cb,Cc,Cd,Ce,Cf,Cg]
    first
    | (refine aQ (.inr rfl) rfl ?_; rfl)
    | (refine aA hc rfl ?_
       simp only[go_sem];refine aQ (.inr rfl) rfl ?_;rfl)
    | (refine aA hd rfl ?_
       simp only[go_sem];refine aQ (.inr rfl) rfl ?_;rfl)
structure AK (C:Ctx):Prop extends Et C where
 order:∀ x y:RF,x.Ok→y.Ok→x.valid→y.valid→aG C 51 [.agg x.cells,.agg y.cells] .nil (aI (.int .i64 (qF x y)))
theorem aAI {C:Ctx} (L:AK C) (x y:RF) (e:x.Ok) (j:y.Ok) (l:x.valid) (u:y.valid):MX.wp C (aR alA.res (aI (.bool (decide (qF x y<0))))) (PF.args [.agg x.cells,.agg y.cells]) .nil:=by
 simp only[go_sem,MX,Sh,Si,alA];refine aA (L.order x y e j l u) rfl ?_;simp only[go_sem];refine aQ (.inr rfl) rfl ?_;rfl
theorem aAM {C:Ctx} (L:AK C) (x y:RF) (e:x.Ok) (j:y.Ok) (l:x.valid) (u:y.valid):NB.wp C (aR alF.res (aI (.bool (qF x y==0)))) (PF.args [.agg x.cells,.agg y.cells]) .nil:=by
 simp only[go_sem,NB,Ss,St,alF];refine aA (L.order x y e j l u) rfl ?_;simp only[go_sem];refine aQ (.inr rfl) rfl ?_;rfl
theorem GX (n:Int):mkT n 1=⟨decide (n<0),aJ n.natAbs,aJ 1⟩:=by
 unfold mkT nI FV.rf;rw[show (1:Int).natAbs=1 from rfl,Nat.gcd_one_right,Nat.div_one,Nat.div_one,show decide ((1:Int)<0)=false from rfl];congr 1;by_cases h:n<0
 ·have:n.natAbs≠0:=Om;simp[h,this]
 ·simp[h]
theorem GW (n:Int) (h:dN n):(mkT n 1).Ok∧(mkT n 1).valid:=by
 have e:nl n.natAbs≤2:=oX (by unfold dN at h; omega);rw[GX];refine⟨⟨aU _,aU _,?_,?_⟩,?_⟩
 ·simp only[aY]; omega
 ·simp only[xH]; decide
 ·unfold RF.valid;simp only[aS];rw[Bz];have:nl 1=1:=by rw[nl,xH]; rfl
  simp[this];omega
def rZ (x:RF):Int:=if val x.num=0 then 0 else if x.neg then -1 else 1
theorem axW (x:RF):qF x (mkT 0 1)=rZ x:=by
 rw[GX];unfold qF rZ qE;simp only[aS,show (0:Int).natAbs=0 from rfl,Nat.mul_one,Nat.zero_mul];by_cases h:val x.num=0
 ·simp[h,dU]
 ·cases x.neg<;>simp[h,dU]
def viS (r:Int):Spec:=fun name _=>if name=47 then some ([],fun _=>aI (.agg (mkT 0 1).cells)) else some ([],fun _=>aI (.int .i64 r))
theorem aAO {C:Ctx} (L:AK C) (x:RF) (l:x.Ok) (u:x.valid):NC.wp C (aR alG.res (aI (.int .i64 (rZ x)))) (PF.args [.agg x.cells]) .nil:=by
 have e:dN 0:=by unfold dN; omega
 have j:=L.order x (mkT 0 1) l (GW 0 e).1 u (GW 0 e).2;rw[axW] at j;simp only[go_sem,NC,Su,alG];refine bC .nil (viS (rZ x)) a_ ?_;simp only[go_sem,Sv];refine bX rfl (L.int 0 e) rfl a_ ?_;simp only[go_sem];refine bX rfl j rfl a_ ?_;simp only[go_sem];refine aQ (.inr rfl) rfl ?_;rfl
theorem arT {C:Ctx} (L:AK C) (l E:Bool) (a1 u a2 w:List Nat) (U:Lim a1) (N:Lim u) (V:Lim a2) (O:Lim w)
  (W:a1.length≤35184372087808) (R:u.length≤35184372087808) (Z:a2.length≤35184372087808) (S:w.length≤35184372087808) :
  DG.wp C (aR akU.res (cB (frV (iW (l,val a1,val u) (E,val a2,val w))))) (PF.args [.agg (eT l a1 u),.agg (eT E a2 w)]) .nil:=by
 have vx:aG C 56 [.agg (eT l a1 u)] .nil (aI (.bool (dC (val a1) (val u)))):=L.valid ⟨l,a1,u⟩ ⟨U,N,W,R⟩;have vy:aG C 56 [.agg (eT E a2 w)] .nil (aI (.bool (dC (val a2) (val w)))):=L.valid ⟨E,a2,w⟩ ⟨V,O,Z,S⟩;simp only[go_sem,DG,adX,akU];refine aO fun o ho=>?_;simp only[go_sem,adY];refine aA vx rfl ?_;simp only[iW];cases hv:dC (val a1) (val u) with
 | false =>simp only[go_sem,aTZ,vf,aTS];refine jJ ?_;simp only[go_sem]
 | true =>
  obtain⟨v1,v2,v3⟩:=gJ.1 hv;simp only[go_sem,aTV];refine aA vy rfl ?_;cases hw:dC (val a2) (val w) with
  | false =>simp only[go_sem,aTZ,vf,aUU];refine jJ ?_;simp only[go_sem]
  | true =>
   obtain⟨w1,w2,w3⟩:=gJ.1 hw;simp only[go_sem,aTV,aVK];refine bC .nil voS a_ ?_;simp only[go_sem,adZ];refine bX (xO a1 w) (L.prod a1 w U O W S Om Om) rfl a_ ?_;simp only[go_sem];refine bX (xO a2 u) (L.prod a2 u V N Z R Om Om) rfl a_ ?_;simp only[go_sem];refine bX (xO u w) (L.prod u w N O R S Om Om) rfl a_ ?_;simp only[go_sem];have m1:=mO v3 w2;have m2:=mO w3 v2;have m3:=mO v2 w2;have d0:val u*val w≠0:=Nat.mul_ne_zero v1 w1;generalize hA:val a1*val w=A at *
   generalize hB:val a2*val u=B at *
   generalize hD:val u*val w=D at *
   have fin:∀ (F:PF) (H:PH) (r:FR),(∃ j x y e,frV r=.tup [.agg (eT j x y),.int .i64 e]∧F 4=some (.ptr o 3 0 0)∧F 5=some (.int .i64 e)∧H o=some (.rows 3 [eT j x y]))→aR [.cell 4 (some 3),.tmp 5] (cB (frV r)) .ret F H:=by rintro F H r ⟨j,x,y,e,he,f4,f5,hH⟩;rw[he];exact aV (.inr rfl) .nil (vs:=[.agg (eT j x y),.int .i64 e]) (by simp only[go_sem,f4,f5,hH]) a_ ⟨.refl _,rfl⟩
   have eb:(l==E)=decide (l=E):=by cases l<;>cases E<;>rfl
   have low:∀ neg x,nl x≤257→aG C 58 [.bool neg,aK (aJ x),aK (aJ D)] .nil (aI (.agg (nI neg x D).rf.cells)):=by
    intro neg x hx;have h1:(aJ x).length≤35184372087808:=by rw[aY]; omega
    have h2:(aJ D).length≤35184372087808:=by rw[aY]; omega
    have:=L.lowest neg (aJ x) (aJ D) (aU _) (aU _) h1 h2;rw[aS,aS] at this;exact this Om Om d0
   have M:∀ neg x,aG C 57 [.agg (nI neg x D).rf.cells] .nil (aI (frV (jN neg x D))):=fun neg x=>by
    have:=L.fits (nI neg x D)
    rwa [aDD] at this
   have lA:(aJ A).length≤35184372087808:=by rw[aY]; omega
   have lB:(aJ B).length≤35184372087808:=by rw[aY]; omega
   simp only[go_sem,aeA];by_cases c:l=E
   ·rw[if_pos c];have c':(l==E)=true:=by rw[eb,decide_eq_true c]
    simp only[go_sem,c',aeB];have J:=L.add (aJ A) (aJ B) (aU _) (aU _) lA lB;have α:=No m1 m2;rw[aS,aS,jI Om Om,opV,BN Om] at J;refine aA J rfl ?_;simp only[go_sem,aeC];refine aA (low l _ Om) rfl ?_;simp only[go_sem];refine aA (M l _) rfl ?_;obtain⟨j,x,y,e,I⟩:=vI (jN l (A+B) D);rw[I];simp only[go_sem];rw[← I];exact fin _ _ _ ⟨j,x,y,e,I,by simp only[go_sem],by simp only[go_sem],by simp only[go_sem]⟩
   ·rw[if_neg c];have c':(l==E)=false:=by rw[eb,decide_eq_false c]
    simp only[go_sem,c',aeD];have hc:=L.cmp (aJ A) (aJ B) (aU _) (aU _) lA lB;rw[aS,aS] at hc;refine aA hc rfl ?_;have K:∀ X Y:Nat,nl X≤256→nl Y≤256→Y≤X→aG C 37 [aK (aJ X),aK (aJ Y)] .nil (aI (.tup [aK (aJ (X-Y)),.int .i64 0])):=by intro X Y h1 h2 h;have:=L.sub (aJ X) (aJ Y) (aU _) (aU _) (by rw[aY]; omega) (by rw[aY]; omega);have h3:=gT (Om:X-Y≤X);rw[aS,aS,sQ,jI Om Om,if_neg (by decide),if_neg Om,BN Om] at this;exact this
    by_cases g:B≤A
    ·have g':dU A B≥0:=(TZ A B).2 g;rw[if_pos g];simp only[go_sem,g',aeE];refine aA (K A B Om Om g) rfl ?_;simp only[go_sem,aeF];have h3:=gT (Om:A-B≤A);refine aA (low l (A-B) Om) rfl ?_;simp only[go_sem];refine aA (M l _) rfl ?_;obtain⟨j,x,y,e,I⟩:=vI (jN l (A-B) D);rw[I];simp only[go_sem];rw[← I];exact fin _ _ _ ⟨j,x,y,e,I,by simp only[go_sem],by simp only[go_sem],by simp only[go_sem]⟩
    ·have g':¬ dU A B≥0:=fun h=>g ((TZ A B).1 h);rw[if_neg g];simp only[go_sem,g',R7];refine aA (K B A Om Om Om) rfl ?_;simp only[go_sem,R8];have h3:=gT (Om:B-A≤B);refine aA (low E (B-A) Om) rfl ?_;simp only[go_sem];refine aA (M E _) rfl ?_;obtain⟨j,x,y,e,I⟩:=vI (jN E (B-A) D);rw[I];simp only[go_sem];rw[← I];exact fin _ _ _ ⟨j,x,y,e,I,by simp only[go_sem],by simp only[go_sem],by simp only[go_sem]⟩
theorem aHK {C:Ctx} (L:AK C) (x y:RF) (e:x.Ok) (j:y.Ok):DG.wp C (aR akU.res (cB (frV (iW x.v y.v)))) (PF.args [.agg x.cells,.agg y.cells]) .nil :=
 arT L x.neg y.neg x.num x.den y.num y.den e.1 e.2.1 j.1 j.2.1 e.2.2.1 e.2.2.2 j.2.2.1 j.2.2.2
structure afS (C:Ctx):Prop extends AK C where
 less:∀ x y:RF,x.Ok→y.Ok→x.valid→y.valid→aG C 49 [.agg x.cells,.agg y.cells] .nil (aI (.bool (decide (qF x y<0))))
 same:∀ x y:RF,x.Ok→y.Ok→x.valid→y.valid→aG C 53 [.agg x.cells,.agg y.cells] .nil (aI (.bool (qF x y==0)))
 sign:∀ x:RF,x.Ok→x.valid→aG C 54 [.agg x.cells] .nil (aI (.int .i64 (rZ x)))
 plus:∀ x y:RF,x.Ok→y.Ok→aG C 46 [.agg x.cells,.agg y.cells] .nil (aI (frV (iW x.v y.v)))
def vsF (l:List RF) (o2 o4 k:Nat):PF:=((((PF.nil.set 0 (frs l)).set 2 (.ptr o2 3 0 0)).set 4 (.ptr o4 3 0 0)).set 5 (.int .i64 k))
theorem aHO {C:Ctx} (L:afS C) (l:List RF) (hl:∀ x∈l,x.Ok) (Y:l.length≤9223372036854775807) :
  TN.wp C (aR aAS.res (cB (frV (oM (l.map RF.v))))) (PF.args [frs l]) .nil:=by
 have h0:dN 0:=by unfold dN; omega
 have hi:(mkT 0 1).cells=(FV.rf (false,0,1)).cells:=by rw[GX]; rfl
 have B:=L.int 0 h0;rw[hi] at B;simp only[go_sem,TN,aeL,aAS];refine aO fun o2 β=>?_;have h1:aM (PH.nil.set o2 (.rows 3 [[.bool false,.aB,.aB]])) [(o2,.rows 3 [[.bool false,.aB,.aB]])] []:=aM.nil.new (H:=PH.nil) rfl _;generalize (PH.nil.set o2 _)=H1 at *
 simp only[go_sem,aeM];refine aA B rfl ?_;simp only[go_sem];refine aO fun o4 W=>?_;have h2:=h1.new W (.rows 3 [(FV.rf (false,0,1)).cells]);simp only[go_sem,aeN];refine wp_loop (α:=Nat × FV × PH) (fun t=>vsF l o2 o4 t.1) (fun t=>t.2.2) (fun t=>t.1≤l.length∧((l.map RF.v).take t.1).foldlM iW (false,0,1)=.ok t.2.1∧aM t.2.2 [(o2,.rows 3 [[.bool false,.aB,.aB]]),(o4,.rows 3 [(FV.rf t.2.1).cells])] []∧(FV.rf t.2.1).Ok) (fun t=>l.length-t.1)
  (0,(false,0,1),_) ⟨aTQ _,rfl,h2,⟨aU _,aU _,?_,?_⟩⟩ ?_ b_ ?_
 ·show (aJ 0).length≤_;rw[gE]; simp
 ·show (aJ 1).length≤_;rw[xH]; simp
 ·unfold vsF;exact Lq
 rintro⟨k,u,X⟩ ⟨hk,N,F,y⟩;simp only at hk N F y ⊢;simp only[go_sem,aeK,aeO,vsF,aTJ];by_cases hlt:k<l.length
 ·have w:(k:Int)<(l.length:Nat):=Om;have hr:(l.map RF.cells)[k]?=some (l[k]).cells:=by simp[hlt]
  have A:=L.plus (FV.rf u) l[k] y (hl _ (aTN hlt));rw[FV.aJU] at A;have j:=VP (f:=iW) (l.map RF.v) (false,0,1) (k:=k) (by simpa using hlt);rw[N] at j;simp only[Except.bind,aVQ] at j;have R:=F.at 1 rfl;simp only[go_sem,w];refine bC .nil (fun _ _=>some ([],fun _=>aI (frV (iW u (l[k]).v)))) a_ ?_;simp only[go_sem,aeP,R,hr];refine bX rfl A rfl a_ ?_;cases he:iW u (l[k]).v with
  | error e =>
   have V:e≠0:=by
    revert he;obtain⟨n1,a1,b1⟩:=u;obtain⟨n2,a2,b2⟩:=(l[k]).v;simp only[iW,jN]
    repeat' split
    all_goals (intro h; first | (injection h with h; subst h; decide) | cases h)
   rw[he] at j;simp only[go_sem,frV];refine aO fun o6 E=>?_;simp only[go_sem];refine⟨a_,?_⟩;have I:=F.new E (.rows 3 [[.bool false,aK [],aK []]]);have O:=I.at 0 rfl;simp only[go_sem,vj,dK V,aeQ,O];rw[oM,iz _ _ j];refine jJ ?_;simp only[go_sem]
  | ok r =>
   rw[he] at j;obtain⟨M,J,K⟩:=r;simp only[go_sem,frV];refine aO fun o6 E=>?_;simp only[go_sem];refine⟨a_,?_⟩;have I:=F.new E (.rows 3 [(FV.rf (M,J,K)).cells]);have e6:=I.at 2 rfl;have S:=I.at 1 rfl;generalize hG:X.set o6 (.rows 3 [(FV.rf (M,J,K)).cells])=Z at *
   have U:X.set o6 (.rows 3 [[.bool M,aK (aJ J),aK (aJ K)]])=Z:=hG;simp only[go_sem,vj,aeR,U,e6,S,aeS,wZz k];have h7:=(I.set 1 rfl (.rows 3 [(FV.rf (M,J,K)).cells])).wI 2;refine aH (k+1,(M,J,K),_) ⟨hlt,j,h7,rj he⟩ (by simp only; omega) ?_ b_;exact Lq
 ·have w:¬ (k:Int)<(l.length:Nat):=Om;have:k=l.length:=Om;subst this;rw[aUB (by simp)] at N;rw[oM,N];have O:=F.at 0 rfl;have R:=F.at 1 rfl;obtain⟨n,a,b⟩:=u;simp only[go_sem,w,S0,R,O];exact aV (.inr rfl) .nil (vs:=[.agg (FV.rf (n,a,b)).cells,.int .i64 0]) Sq a_ ⟨.refl _,rfl⟩
theorem dge {n:Nat} (k:Nat):decide ((n:Int)≥(k:Int))=decide (k≤n):=decide_eq_decide.2 Om
theorem dle {n:Nat} (k:Nat):decide ((n:Int)≤(k:Int))=decide (n≤k):=decide_eq_decide.2 Om
theorem alM {C:Ctx} (n:Nat):BU.wp C (aR vp.res (aI (.bool (fJ n)))) (PF.args [.int .u8 n]) .nil:=by
 have e:=dge (n:=n) 97;have j:=dle (n:=n) 122;have l:=dge (n:=n) 65;have u:=dle (n:=n) 90;simp only[Int.cast_ofNat_Int] at e j l u;unfold fJ;generalize decide (97≤n)=a at *
 generalize decide (n≤122)=b at *
 generalize decide (65≤n)=c at *
 generalize decide (n≤90)=d at *
 cases a<;>cases b<;>cases c<;>cases d
 all_goals
  simp only[go_sem,BU,pi,pj,vp,e,j,l,u];refine aQ (.inr rfl) rfl ?_;rfl
theorem asD {C:Ctx} (n:Nat):FW.wp C (aR S4.res (aI (.bool (mZ n)))) (PF.args [.int .u8 n]) .nil:=by
 have e:=dge (n:=n) 48;have j:=dle (n:=n) 57;simp only[Int.cast_ofNat_Int] at e j;unfold mZ;generalize decide (48≤n)=a at *
 generalize decide (n≤57)=b at *
 cases a<;>cases b
 all_goals
  simp only[go_sem,FW,Cn,Cp,S4,e,j];refine aQ (.inr rfl) rfl ?_;rfl
theorem alI {C:Ctx} (e:∀ n:Nat,aG C 65 [.int .u8 n] .nil (aI (.bool (fJ n)))) (j:∀ n:Nat,aG C 63 [.int .u8 n] .nil (aI (.bool (mZ n)))) (n:Nat) :
  BS.wp C (aR vm.res (aI (.bool (fY n)))) (PF.args [.int .u8 n]) .nil:=by
 have g1:((n:Int)==45)=decide (n=45):=by by_cases h:n=45<;>simp[h]; omega
 have g2:((n:Int)==46)=decide (n=46):=by by_cases h:n=46<;>simp[h]; omega
 have k1:=e n;have k2:=j n;unfold fY;generalize decide (n=45)=a at *
 generalize decide (n=46)=b at *
 simp only[go_sem,BS,oj,oq,vm];refine aA k1 rfl ?_;cases fJ n with
 | true =>simp only[go_sem];refine aQ (.inr rfl) rfl ?_;rfl
 | false =>
  simp only[go_sem];refine aA k2 rfl ?_;cases mZ n<;>cases a<;>cases b
  all_goals
   simp only[go_sem,g1,g2];refine aQ (.inr rfl) rfl ?_;rfl
theorem alK {C:Ctx} (E:∀ n:Nat,aG C 65 [.int .u8 n] .nil (aI (.bool (fJ n)))) (F:∀ n:Nat,aG C 64 [.int .u8 n] .nil (aI (.bool (fY n)))) (s:List UInt8) :
  BT.wp C (aR vn.res (aI (.bool (isName s)))) (PF.args [.str s]) .nil:=by
 simp only[go_sem,BT,ou,ov,vn];cases s with
 | nil =>have B:decide (((0:Nat):Int)<1)=true:=rfl;simp only[go_sem,zH,aVR,B];refine aQ (.inr rfl) rfl ?_;rfl
 | cons c t =>
  have I:(c::t)[0]?=some c:=rfl;have l:isName (c::t)=(decide ((c::t).length≤16)&&fJ c.toNat&&(c::t).all fun c=>fY c.toNat):=rfl;have j:¬ (((c::t).length:Nat):Int)<1:=by simp only[aVA]; omega
  generalize c::t=s at *
  by_cases A:s.length≤16
  ·have u:¬ (s.length:Int)>16:=Om;rw[decide_eq_true A,aTY] at l;have k1:=E c.toNat;simp only[go_sem,j,u,I,aUO];refine aA k1 rfl ?_;cases y:fJ c.toNat with
   | false =>simp only[go_sem,aTZ,zH];refine aQ (.inr rfl) rfl ?_;rw[bQ,l,y,aTS]
   | true =>
    rw[y,aTY] at l;simp only[go_sem,aTV,ow];refine wp_loop (α:=Nat) (fun k=>((PF.nil.set 0 (.str s)).set 3 (.int .i64 k))) (fun _=>.nil) (fun k=>k≤s.length∧(s.take k).all (fun c=>fY c.toNat)=true) (fun k=>s.length-k) 0 ⟨aTQ _,rfl⟩ Lq a_ ?_;rintro k ⟨J,w⟩;simp only[go_sem,ot,oz];by_cases hlt:k<s.length
    ·have e:(k:Int)<(s.length:Nat):=Om;have x:s[k]?=some s[k]:=aTP hlt;have k2:=F (s[k]).toNat;simp only[go_sem,e,o9,x,aUO];refine aA k2 rfl ?_;cases hi:fY (s[k]).toNat with
     | false =>simp only[go_sem,aTZ,pd];refine aQ (.inr rfl) rfl ?_;rw[bQ,l,pW hlt hi]
     | true =>simp only[go_sem,aTV,pe,wZz k];exact aH (k+1) ⟨hlt,by simpa using pV hlt w hi⟩ Om Lq b_
    ·have e:¬ (k:Int)<(s.length:Nat):=Om;have:k=s.length:=Om;subst this;rw[aUS] at w;simp only[go_sem,e,pg];refine aQ (.inr rfl) rfl ?_;rw[bQ,l,w]
  ·have u:(s.length:Int)>16:=Om;rw[decide_eq_false A,aTS,aTS] at l;simp only[go_sem,j,u,zH];refine aQ (.inr rfl) rfl ?_;rw[bQ,l]
def HS (k m:Int):Bool:=within k 1 6&&(within m 0 4&&decide (k+m≤8))
theorem ayM {C:Ctx} (k m:Int):oY.wp C (aR LP.res (aI (.bool (HS k m)))) (PF.args [.int .i64 k,.int .i64 m]) .nil:=by
 unfold HS within;by_cases e:1≤k
 ·by_cases j:k≤6
  ·by_cases l:0≤m
   ·by_cases u:m≤4
    ·have w:IntKind.i64.wrap (k+m)=k+m:=wrap_i64 Om Om;simp only[go_sem,oY,vY,vZ,LP,ge_iff_le,e,j,l,u,w];refine aQ (.inr rfl) rfl ?_;simp[bQ,e,j,l,u]
    ·simp only[go_sem,oY,vY,vZ,LP,ge_iff_le,e,j,l,u];refine aQ (.inr rfl) rfl ?_;simp[bQ,e,j,l,u]
   ·simp only[go_sem,oY,vY,vZ,LP,ge_iff_le,e,j,l];refine aQ (.inr rfl) rfl ?_;simp[bQ,e,j,l]
  ·simp only[go_sem,oY,vY,vZ,LP,ge_iff_le,e,j];refine aQ (.inr rfl) rfl ?_;simp[bQ,e,j]
 ·simp only[go_sem,oY,vY,vZ,LP,ge_iff_le,e];refine aQ (.inr rfl) rfl ?_;simp[bQ,e]
def Da:Rg:=[iA 1 (.box true (Tm 0)),iT 2 false]
def Db:Rg:=[iO 6 3 1,iK 7 52 6,iM 5 7,iE 8 5 0,iE 9 5 1,iA 3 (.alloc [zB,.aB,.aB]),iS 3 3 8,iM 4 9]
def DI:Rg:=[iM 10 4,iC 11 .eql 10 0,iM 12 11,gF 13 0 3 12 true,gL 14 13 12 true,iG 15 (.un .not (Tm 14)) 12 true,iP 16 12 15,iM 17 16,gF 18 1 3 17 true,gL 19 18 17 true,gN 20 19 17 true,gC 21 .leq 20 1 17 true,iP 22 17 21,iM 23 22,gF 24 2 3 23 true,gL 25 24 23 true,gN 26 25 23 true,gC 27 .leq 26 1 23 true,iP 28 23 27,iM 2 28]
def GD:aC:=(sq Da (sq Db (sq DI .ret)))
def asS:List Nat:=[1]
def T2:aW:=⟨1,29,GD,[.tmp 2]⟩
def pu:Rg:=[iT 4 false]
def pw:Rg:=[iM 6 0,iN 7 6,iM 8 1,iB 9 .neq 7 8]
def p4:Rg:=[iT 4 false]
def p5:Rg:=[iI 5 0]
def p6:Rg:=[iM 10 5,iM 11 1,iB 12 .lss 10 11]
def p7:Rg:=[iM 15 0,iM 16 5,iX 17 3 15 16,iO 18 3 17,iK 19 74 18,iA 20 (.un .not (Tm 19))]
def p8:Rg:=[iT 4 false]
def p9:Rg:=[iM 13 5,iC 14 .add 13 1,iM 5 14]
def pt:aC:=(.seq (sq p6 (.cond (Tm 12) .skip (.exit 0))) (.seq (.block 1 (sq p7 (.cond (Tm 20) (sq p8 .ret) .skip))) (.region p9)))
def qa:Rg:=[iT 4 true]
def BY:aC:=(sq pu (.seq (sq pw (.cond (Tm 9) (sq p4 .ret) .skip)) (.seq (sq p5 (.block 0 (.loop pt))) (sq qa .ret))))
def alT:List Nat:=[]
def vw:aW:=⟨2,21,BY,[.tmp 4]⟩
def aeX:Rg:=[iA 1 (.box true (Tm 0)),iT 2 false]
def aeY:Rg:=[iF 12 1 1,iL 13 12,iN 14 13,iM 3 14]
def aeZ:Rg:=[iM 15 3,iC 16 .lss 15 1,iM 17 16,gM 18 3 17 false,gC 19 .gtr 18 4 17 false,iQ 20 17 19,iM 21 20,gF 22 1 1 21 false,gL 23 22 21 false,gM 24 3 21 false,gK2 25 75 23 24 21 false,iG 26 (.un .not (Tm 25)) 21 false,iQ 27 21 26,iM 28 27,gF 29 3 1 28 false,gL 30 29 28 false,gM 31 3 28 false,gK2 32 75 30 31 28 false,iG 33 (.un .not (Tm 32)) 28 false,iQ 34 28 33,iM 35 34,gF 36 2 1 35 false,gL 37 36 35 false,gN 38 37 35 false,gM 39 3 35 false,gB 40 .neq 38 39 35 false,iQ 41 35 40]
def AH:Rg:=[iT 2 false]
def afA:Rg:=[iI 4 0]
def afB:Rg:=[iM 42 4,iM 43 3,iB 44 .lss 42 43]
def afC:Rg:=[iF 47 2 1,iL 48 47,iM 49 4,iX 50 1 48 49,iL 51 50,iM 52 3,iK2 53 75 51 52,iA 54 (.un .not (Tm 53)),iM 55 54,gF 56 2 1 55 false,gL 57 56 55 false,gM 58 4 55 false,iG 59 (.aSM 1 (Tm 57) (Tm 58)) 55 false,gL 60 59 55 false,gM 61 4 55 false,iG 62 (.aSM 3 (Tm 60) (Tm 61)) 55 false,gO 63 3 62 55 false,gK 64 54 63 55 false,gC 65 .neq 64 0 55 false,iQ 66 55 65]
def vu:Rg:=[iT 2 false]
def afD:Rg:=[iM 45 4,iC 46 .add 45 1,iM 4 46]
def aeW:aC:=(.seq (sq afB (.cond (Tm 44) .skip (.exit 0))) (.seq (.block 1 (sq afC (.cond (Tm 66) (sq vu .ret) .skip))) (.region afD)))
def Te:Rg:=[iF 68 1 1,iL 69 68,iK 70 55 69,iM 67 70,iE 71 67 0,iE 72 67 1,iA 5 (.alloc [zB,.aB,.aB]),iS 3 5 71,iM 6 72]
def fx:Rd:=[(iM 73 6,false),(iC 74 .neq 73 0,false),(iM 75 74,false),(gO 76 3 5 75 false,true),(iG 77 (.call 47 [(Ci 1)]) 75 false,true),(gK2 78 53 76 77 75 false,true),(iG 79 (.un .not (Tm 78)) 75 false,false),(iQ 80 75 79,false)]
def fy:Rg:=[iT 2 false]
def Tf:Rg:=[iM 81 3,iA 82 (.aSD 1 1 [zB] (Tm 81) (Tm 81)),iM 7 82]
def Tg:Rg:=[iI 8 0]
def Th:Rg:=[iM 83 8,iM 84 3,iB 85 .lss 83 84]
def Ti:Rg:=[iI 9 0]
def Tj:Rg:=[iM 88 9,iM 89 3,iB 90 .lss 88 89]
def fz:Rg:=[iM 93 7,iM 94 9,iM 95 7,iM 96 9,iX 97 1 95 96,iL 98 97,iM 99 98,gF 100 3 1 99 false,gL 101 100 99 false,gM 102 9 99 false,iG 103 (.aSM 3 (Tm 101) (Tm 102)) 99 false,gO 104 3 103 99 false,gK 105 54 104 99 false,gC 106 .gtr 105 0 99 false,iQ 107 99 106,iX 108 1 93 94,iS 1 108 107]
def ga:Rg:=[iI 10 0]
def Tk:Rg:=[iM 109 10,iM 110 3,iB 111 .lss 109 110]
def gb:Rg:=[iM 114 7,iM 115 9,iM 116 7,iM 117 9,iX 118 1 116 117,iL 119 118,iM 120 119,gF 121 2 1 120 false,gL 122 121 120 false,gM 123 9 120 false,iG 124 (.aSM 1 (Tm 122) (Tm 123)) 120 false,gL 125 124 120 false,gM 126 10 120 false,iG 127 (.aSM 3 (Tm 125) (Tm 126)) 120 false,gO 128 3 127 120 false,gK 129 54 128 120 false,gC 130 .gtr 129 0 120 false,gM 131 130 120 false,gM 132 7 131 true,gM 133 10 131 true,iG 134 (.aSM 1 (Tm 132) (Tm 133)) 131 true,gL 135 134 131 true,iG 136 (.pick (Tm 131) (Tm 135) (.const zB)) 120 false,iQ 137 120 136,iX 138 1 114 115,iS 1 138 137]
def NJ:Rg:=[iM 112 10,iC 113 .add 112 1,iM 10 113]
def NI:aC:=(.seq (sq Tk (.cond (Tm 111) .skip (.exit 6))) (.seq (.block 7 (.region gb)) (.region NJ)))
def gd:Rg:=[iM 91 9,iC 92 .add 91 1,iM 9 92]
def ft:aC:=(.seq (sq Tj (.cond (Tm 90) .skip (.exit 4))) (.seq (.block 5 (sq fz (sq ga (.block 6 (.loop NI))))) (.region gd)))
def Tl:Rg:=[iM 86 8,iC 87 .add 86 1,iM 8 87]
def fv:aC:=(.seq (sq Th (.cond (Tm 85) .skip (.exit 2))) (.seq (.block 3 (sq Ti (.block 4 (.loop ft)))) (.region Tl)))
def Tn:Rg:=[iI 11 0]
def To:Rg:=[iM 139 11,iM 140 3,iB 141 .lss 139 140]
def ge:Rg:=[iM 144 7,iM 145 11,iX 146 1 144 145,iL 147 146,iA 148 (.un .not (Tm 147))]
def Tq:Rg:=[iT 2 false]
def Tr:Rg:=[iM 142 11,iC 143 .add 142 1,iM 11 143]
def fw:aC:=(.seq (sq To (.cond (Tm 141) .skip (.exit 8))) (.seq (.block 9 (sq ge (.cond (Tm 148) (sq Tq .ret) .skip))) (.region Tr)))
def gf:Rg:=[iT 2 true]
def TT:aC:=(sq aeX (sq aeY (.seq (sq aeZ (.cond (Tm 41) (sq AH .ret) .skip)) (.seq (sq afA (.block 0 (.loop aeW))) (.seq (sq Te (dq fx (.cond (Tm 80) (sq fy .ret) .skip))) (sq Tf (.seq (sq Tg (.block 2 (.loop fv))) (.seq (sq Tn (.block 8 (.loop fw))) (sq gf .ret)))))))))
def aHU:List Nat:=[1]
def aAZ:aW:=⟨1,149,TT,[.tmp 2]⟩
def afF:Rg:=[iT 4 false]
def afG:Rg:=[iM 6 0,iM 7 1,iA 8 (.aSQ true (Tm 7) (Ci 1)),iK2 9 75 6 8,iA 10 (.un .not (Tm 9))]
def afH:Rg:=[iT 4 false]
def afI:Rg:=[iI 5 0]
def afJ:Rg:=[iM 11 5,iM 12 0,iN 13 12,iB 14 .lss 11 13]
def afK:Rg:=[iM 17 0,iM 18 5,iX 19 3 17 18,iO 20 3 19,iK 21 54 20,iC 22 .eql 21 0]
def afL:Rg:=[iT 4 false]
def afM:Rg:=[iM 15 5,iC 16 .add 15 1,iM 5 16]
def afE:aC:=(.seq (sq afJ (.cond (Tm 14) .skip (.exit 0))) (.seq (.block 1 (sq afK (.cond (Tm 22) (sq afL .ret) .skip))) (.region afM)))
def afN:Rg:=[iT 4 true]
def TU:aC:=(sq afF (.seq (sq afG (.cond (Tm 10) (sq afH .ret) .skip)) (.seq (sq afI (.block 0 (.loop afE))) (sq afN .ret))))
def aHW:List Nat:=[]
def aBB:aW:=⟨2,23,TU,[.tmp 4]⟩
def OF:Rg:=[iT 6 false]
def OG:Rg:=[iM 7 0,iM 8 1,iB 9 .geq 7 8,iM 10 9,gM 11 0 10 true,gM 12 2 10 true,gB 13 .leq 11 12 10 true,iP 14 10 13,iM 6 14]
def uZ:aC:=(sq OF (sq OG .ret))
def alV:List Nat:=[]
def VC:aW:=⟨3,15,uZ,[.tmp 6]⟩
def C8:Rg:=[iT 12 false]
def C9:Rg:=[iM 13 0,iC 14 .leq 13 4,iM 15 14,gM 16 1 15 true,gC 17 .leq 16 4 15 true,iP 18 15 17,iM 19 18,gM 20 2 19 true,gC 21 .leq 20 40 19 true,iP 22 19 21,iM 23 22,gM 24 3 23 true,gC 25 .leq 24 24 23 true,iP 26 23 25,iM 27 26,gM 28 4 27 true,gC 29 .leq 28 4 27 true,iP 30 27 29,iM 31 30,gM 32 5 31 true,gC 33 .leq 32 12 31 true,iP 34 31 33,iM 12 34]
def GC:aC:=(sq C8 (sq C9 .ret))
def asQ:List Nat:=[]
def T1:aW:=⟨6,35,GC,[.tmp 12]⟩
def YC:Rg:=[iA 7 (.box true (Tm 3)),iT 8 false]
def YD:Rg:=[iM 10 0,iM 11 1,iK2 12 61 10 11,iA 13 (.un .not (Tm 12)),iM 14 13,gM 15 2 14 false,gM 16 0 14 false,gM 17 0 14 false,gM 18 1 14 false,gB 19 .add 17 18 14 false,iG 20 (.call 76 [(Tm 15),(Tm 16),(Tm 19)]) 14 false,iG 21 (.un .not (Tm 20)) 14 false,iQ 22 14 21,iM 23 22,iG 24 (.idxA 5 1 (Tm 7) (Ci 0)) 23 false,gL 25 24 23 false,gC 26 .neq 25 0 23 false,iQ 27 23 26]
def wW:Rg:=[iT 8 false]
def YE:Rg:=[iI 9 1]
def YF:Rg:=[iM 28 9,iC 29 .lss 28 5]
def GB:Rg:=[iM 32 9,iA 33 (.idxA 5 1 (Tm 7) (Tm 32)),iL 34 33,iA 35 (.call 76 [(Tm 34),(Ci 0),(Ci 8)]),iA 36 (.un .not (Tm 35))]
def YG:Rg:=[iT 8 false]
def YH:Rg:=[iM 30 9,iC 31 .add 30 1,iM 9 31]
def YB:aC:=(.seq (sq YF (.cond (Tm 29) .skip (.exit 0))) (.seq (.block 1 (sq GB (.cond (Tm 36) (sq YG .ret) .skip))) (.region YH)))
def YI:Rg:=[iT 8 true]
def yB:aC:=(sq YC (.seq (sq YD (.cond (Tm 27) (sq wW .ret) .skip)) (.seq (sq YE (.block 0 (.loop YB))) (sq YI .ret))))
def U8:List Nat:=[7]
def gg:aW:=⟨4,37,yB,[.tmp 8]⟩
def aeU:Rg:=[iA 6 (.box true (Tm 2)),iA 7 (.box true (Tm 3)),iT 8 false]
def aeV:Rd:=[(iM 9 1,false),(iM 10 0,false),(iK2 11 66 9 10,true),(iM 12 11,false),(gO 13 3 6 12 true,false),(gK 14 74 13 12 true,true),(iP 15 12 14,false),(iM 16 15,false),(iG 17 (.call 47 [(Ci 1)]) 16 true,true),(gO 18 3 6 16 true,true),(gK2 19 49 17 18 16 true,true),(iG 20 (.un .not (Tm 19)) 16 true,false),(iP 21 16 20,false),(iM 22 21,false),(gO 23 3 7 22 true,false),(gK 24 74 23 22 true,true),(iP 25 22 24,false),(iM 8 25,false)]
def TR:aC:=(sq aeU (dq aeV .ret))
def aHS:List Nat:=[6,7]
def aAV:aW:=⟨4,26,TR,[.tmp 8]⟩
def C2:Rg:=[iI 4 0]
def C3:Rg:=[iI 5 0]
def C4:Rg:=[iM 6 5,iM 7 0,iN 8 7,iB 9 .lss 6 8]
def TS:Rg:=[iM 12 0,iM 13 5,iX 14 1 12 13,iL 15 14,iM 16 1,iB 17 .eql 15 16]
def C5:Rg:=[iM 18 5,iM 4 18]
def C6:Rg:=[iM 10 5,iC 11 .add 10 1,iM 5 11]
def C1:aC:=(.seq (sq C4 (.cond (Tm 9) .skip (.exit 0))) (.seq (.block 1 (sq TS (.cond (Tm 17) (sq C5 .ret) .skip))) (.region C6)))
def C7:Rg:=[iI 4 (-1)]
def GA:aC:=(sq C2 (.seq (sq C3 (.block 0 (.loop C1))) (sq C7 .ret)))
def asN:List Nat:=[]
def Td:aW:=⟨2,19,GA,[.tmp 4]⟩
def Dc:Rg:=[iA 1 (.box true (Tm 0)),iT 2 false]
def Dd:Rg:=[iF 22 0 1,iL 23 22,iA 24 (.call 76 [(Tm 23),(Ci 1),(Ci 4)]),iA 25 (.un .not (Tm 24)),iM 26 25,gF 27 1 1 26 false,gL 28 27 26 false,gN 29 28 26 false,gF 30 2 1 26 false,gL 31 30 26 false,gN 32 31 26 false,gF 33 3 1 26 false,gL 34 33 26 false,gN 35 34 26 false,gF 36 4 1 26 false,gL 37 36 26 false,gN 38 37 26 false,gF 39 5 1 26 false,gL 40 39 26 false,gN 41 40 26 false,gF 42 6 1 26 false,gL 43 42 26 false,gN 44 43 26 false,iG 45 (.call 73 [(Tm 29),(Tm 32),(Tm 35),(Tm 38),(Tm 41),(Tm 44)]) 26 false,iG 46 (.un .not (Tm 45)) 26 false,iQ 47 26 46,iM 48 47,gF 49 3 1 48 false,gL 50 49 48 false,gN 51 50 48 false,gC 52 .eql 51 0 48 false,iQ 53 48 52]
def DJ:Rg:=[iT 2 false]
def De:Rg:=[iZ 3,iZ 4,iZ 5,iZ 6,iZ 7]
def Df:Rg:=[iT 8 true]
def Dg:Rg:=[iI 9 0]
def Dh:Rg:=[iM 54 9,iF 55 1 1,iL 56 55,iN 57 56,iB 58 .lss 54 57,iM 59 58,gM 60 8 59 true,iP 61 59 60]
def Di:Rg:=[iM 65 3,iF 66 1 1,iL 67 66,iM 68 9,iX 69 4 67 68,iF 70 0 69,iL 71 70,iK2 72 70 65 71,iM 64 72,iE 73 64 0,iE 74 64 1,iM 3 73,iM 8 74]
def TV:Rg:=[iM 75 8,iM 76 75,gF 77 1 1 76 true,gL 78 77 76 true,gM 79 9 76 true,iG 80 (.aSM 4 (Tm 78) (Tm 79)) 76 true,gO 81 4 80 76 true,gK 82 68 81 76 true,iP 83 76 82,iM 8 83]
def TW:Rg:=[iM 62 9,iC 63 .add 62 1,iM 9 63]
def NM:aC:=(.seq (sq Dh (.cond (Tm 61) .skip (.exit 0))) (.seq (.block 1 (sq Di (.region TV))) (.region TW)))
def qb:Rg:=[iI 10 0]
def qc:Rg:=[iM 84 10,iF 85 2 1,iL 86 85,iN 87 86,iB 88 .lss 84 87,iM 89 88,gM 90 8 89 true,iP 91 89 90]
def qd:Rg:=[iF 94 2 1,iL 95 94,iM 96 10,iX 97 4 95 96,iO 98 4 97,iA 11 (.alloc [(.str []),zI,zI,zI]),iS 4 11 98]
def qe:Rg:=[iM 100 4,iF 101 0 11,iL 102 101,iK2 103 70 100 102,iM 99 103,iE 104 99 0,iE 105 99 1,iM 4 104,iM 8 105]
def NQ:Rg:=[iM 106 8,iM 107 106,gF 108 1 11 107 true,gL 109 108 107 true,iG 110 (.call 76 [(Tm 109),(Ci 1),(Ci 16)]) 107 true,iP 111 107 110,iM 112 111,gF 113 2 11 112 true,gL 114 113 112 true,iG 115 (.call 76 [(Tm 114),(Ci 1),(Ci 64)]) 112 true,iP 116 112 115,iM 117 116,gF 118 3 11 117 true,gL 119 118 117 true,gF 120 1 1 117 true,gL 121 120 117 true,gN 122 121 117 true,gC 123 .sub 122 1 117 true,iG 124 (.call 76 [(Tm 119),(Ci 0),(Tm 123)]) 117 true,iP 125 117 124,iM 8 125]
def uW:Rg:=[iM 92 10,iC 93 .add 92 1,iM 10 93]
def NN:aC:=(.seq (sq qc (.cond (Tm 91) .skip (.exit 2))) (.seq (.block 3 (sq qd (sq qe (.region NQ)))) (.region uW)))
def qf:Rg:=[iF 126 3 1,iL 127 126,iA 128 (.aSM 7 (Tm 127) (Ci 0)),iO 129 7 128,iA 12 (.alloc [(.str []),zI,zI,zI,zB,.aB,.aB]),iS 7 12 129]
def NR:Rg:=[iM 130 8,iM 131 130,gF 132 0 12 131 true,gL 133 132 131 true,iG 134 (.bin .eql (Tm 133) (.const (.str []))) 131 true,iP 135 131 134,iM 136 135,gF 137 1 12 136 true,gL 138 137 136 true,gC 139 .eql 138 0 136 true,iP 140 136 139,iM 141 140,gF 142 2 12 141 true,gL 143 142 141 true,gC 144 .eql 143 (-1) 141 true,iP 145 141 144,iM 146 145,gF 147 3 12 146 true,gL 148 147 146 true,gC 149 .eql 148 0 146 true,iP 150 146 149,iM 151 150,gF 152 4 12 151 true,gO 153 3 152 151 true,gK 154 56 153 151 true,iP 155 151 154,iM 156 155,gF 157 4 12 156 true,gO 158 3 157 156 true,gK 159 54 158 156 true,gC 160 .eql 159 0 156 true,iP 161 156 160,iM 8 161]
def NS:Rg:=[iI 13 1]
def qg:Rg:=[iM 162 13,iF 163 3 1,iL 164 163,iN 165 164,iB 166 .lss 162 165,iM 167 166,gM 168 8 167 true,iP 169 167 168]
def qh:Rg:=[iF 172 3 1,iL 173 172,iM 174 13,iX 175 7 173 174,iO 176 7 175,iA 14 (.alloc [(.str []),zI,zI,zI,zB,.aB,.aB]),iS 7 14 176]
def qi:Rg:=[iM 178 5,iF 179 0 14,iL 180 179,iK2 181 70 178 180,iM 177 181,iE 182 177 0,iE 183 177 1,iM 5 182,iM 8 183]
def NT:Rd:=[(iM 184 8,false),(iM 185 184,false),(gF 186 1 14 185 true,false),(gL 187 186 185 true,false),(iG 188 (.call 76 [(Tm 187),(Ci 1),(Ci 4)]) 185 true,true),(iP 189 185 188,false),(iM 190 189,false),(gF 191 2 14 190 true,false),(gL 192 191 190 true,false),(gM 193 13 190 true,false),(gC 194 .sub 193 1 190 true,false),(iG 195 (.call 76 [(Tm 192),(Ci 0),(Tm 194)]) 190 true,true),(iP 196 190 195,false),(iM 197 196,false),(gF 198 3 1 197 true,false),(gL 199 198 197 true,false),(gF 200 2 14 197 true,false),(gL 201 200 197 true,false),(iG 202 (.aSM 7 (Tm 199) (Tm 201)) 197 true,false),(gF 203 1 202 197 true,false),(gL 204 203 197 true,false),(gF 205 1 14 197 true,false),(gL 206 205 197 true,false),(gC 207 .sub 206 1 197 true,false),(gB 208 .eql 204 207 197 true,false),(iP 209 197 208,false),(iM 210 209,false),(gF 211 3 14 210 true,false),(gL 212 211 210 true,false),(iG 213 (.call 76 [(Tm 212),(Ci 1),(Ci 64)]) 210 true,true),(iP 214 210 213,false),(iM 215 214,false),(gF 216 4 14 215 true,false),(gO 217 3 216 215 true,false),(gK 218 74 217 215 true,true),(iP 219 215 218,false),(iM 8 219,false)]
def pA:Rg:=[iM 170 13,iC 171 .add 170 1,iM 13 171]
def zJ:aC:=(.seq (sq qg (.cond (Tm 169) .skip (.exit 4))) (.seq (.block 5 (sq qh (sq qi (.draw NT)))) (.region pA)))
def NU:Rg:=[iI 15 0]
def qj:Rg:=[iM 220 15,iF 221 4 1,iL 222 221,iN 223 222,iB 224 .lss 220 223,iM 225 224,gM 226 8 225 true,iP 227 225 226]
def qk:Rg:=[iF 230 4 1,iL 231 230,iM 232 15,iX 233 3 231 232,iO 234 3 233,iA 16 (.alloc [(.str []),zI,zI]),iS 3 16 234]
def ql:Rg:=[iM 236 5,iF 237 0 16,iL 238 237,iK2 239 70 236 238,iM 235 239,iE 240 235 0,iE 241 235 1,iM 5 240,iM 8 241]
def NV:Rg:=[iM 242 8,iM 243 242,gF 244 1 16 243 true,gL 245 244 243 true,gF 246 2 1 243 true,gL 247 246 243 true,gN 248 247 243 true,gC 249 .sub 248 1 243 true,iG 250 (.call 76 [(Tm 245),(Ci 0),(Tm 249)]) 243 true,iP 251 243 250,iM 252 251,gF 253 2 16 252 true,gL 254 253 252 true,gF 255 3 1 252 true,gL 256 255 252 true,gN 257 256 252 true,gC 258 .sub 257 1 252 true,iG 259 (.call 76 [(Tm 254),(Ci 0),(Tm 258)]) 252 true,iP 260 252 259,iM 261 260,gF 262 3 1 261 true,gL 263 262 261 true,gF 264 2 16 261 true,gL 265 264 261 true,iG 266 (.aSM 7 (Tm 263) (Tm 265)) 261 true,gF 267 1 266 261 true,gL 268 267 261 true,gC 269 .eql 268 4 261 true,iP 270 261 269,iM 8 270]
def uX:Rg:=[iM 228 15,iC 229 .add 228 1,iM 15 229]
def zK:aC:=(.seq (sq qj (.cond (Tm 227) .skip (.exit 6))) (.seq (.block 7 (sq qk (sq ql (.region NV)))) (.region uX)))
def NW:Rg:=[iI 17 0]
def qn:Rg:=[iM 271 17,iF 272 5 1,iL 273 272,iN 274 273,iB 275 .lss 271 274,iM 276 275,gM 277 8 276 true,iP 278 276 277]
def qo:Rg:=[iF 281 5 1,iL 282 281,iM 283 17,iX 284 17 282 283,iO 285 17 284,iA 18 (.alloc [(.str []),zI,zI,zI,zI,zI,zI,zI,zI,.aB,.aB,zB,.aB,.aB,zB,.aB,.aB]),iS 17 18 285]
def qp:Rg:=[iM 287 6,iF 288 0 18,iL 289 288,iK2 290 70 287 289,iM 286 290,iE 291 286 0,iE 292 286 1,iM 6 291,iM 8 292]
def NX:Rg:=[iM 293 8,iM 294 293,gF 295 1 18 294 true,gL 296 295 294 true,gF 297 2 18 294 true,gL 298 297 294 true,gF 299 3 18 294 true,gL 300 299 294 true,gF 301 4 18 294 true,gO 302 5 301 294 true,iG 303 (.call 72 [(Tm 296),(Tm 298),(Tm 300),(Tm 302)]) 294 true,iP 304 294 303,iM 305 304,gF 306 2 18 305 true,gL 307 306 305 true,gF 308 10 18 305 true,gL 309 308 305 true,gF 310 11 18 305 true,gO 311 3 310 305 true,gF 312 14 18 305 true,gO 313 3 312 305 true,iG 314 (.call 69 [(Tm 307),(Tm 309),(Tm 311),(Tm 313)]) 305 true,iP 315 305 314,iM 316 315,gF 317 9 18 316 true,gL 318 317 316 true,gN 319 318 316 true,gC 320 .gtr 319 0 316 true,iP 321 316 320,iM 8 321]
def uY:Rg:=[iI 19 0]
def qq:Rg:=[iM 322 19,iF 323 9 18,iL 324 323,iN 325 324,iB 326 .lss 322 325,iM 327 326,gM 328 8 327 true,iP 329 327 328]
def qt:Rd:=[(iF 332 9 18,false),(iL 333 332,false),(iM 334 19,false),(iX 335 1 333 334,false),(iL 336 335,false),(iF 337 2 1,false),(iL 338 337,false),(iN 339 338,false),(iC 340 .sub 339 1,false),(iA 341 (.call 76 [(Tm 336),(Ci 0),(Tm 340)]),true),(iM 8 341,false)]
def qu:Rg:=[iI 20 0]
def qw:Rg:=[iM 342 20,iM 343 19,iB 344 .lss 342 343]
def NY:Rd:=[(iM 347 8,false),(iM 348 347,false),(gF 349 9 18 348 true,false),(gL 350 349 348 true,false),(gM 351 20 348 true,false),(iG 352 (.aSM 1 (Tm 350) (Tm 351)) 348 true,false),(gL 353 352 348 true,false),(gF 354 9 18 348 true,false),(gL 355 354 348 true,false),(gM 356 19 348 true,false),(iG 357 (.aSM 1 (Tm 355) (Tm 356)) 348 true,false),(gL 358 357 348 true,false),(gB 359 .neq 353 358 348 true,false),(iP 360 348 359,false),(iM 8 360,false)]
def NZ:Rg:=[iM 345 20,iC 346 .add 345 1,iM 20 346]
def NP:aC:=(.seq (sq qw (.cond (Tm 344) .skip (.exit 12))) (.seq (.block 13 (.draw NY)) (.region NZ)))
def qx:Rg:=[iM 330 19,iC 331 .add 330 1,iM 19 331]
def zL:aC:=(.seq (sq qq (.cond (Tm 329) .skip (.exit 10))) (.seq (.block 11 (dq qt (sq qu (.block 12 (.loop NP))))) (.region qx)))
def OA:Rg:=[iM 279 17,iC 280 .add 279 1,iM 17 280]
def zM:aC:=(.seq (sq qn (.cond (Tm 278) .skip (.exit 8))) (.seq (.block 9 (sq qo (sq qp (sq NX (sq uY (.block 10 (.loop zL))))))) (.region OA)))
def OB:Rg:=[iI 21 0]
def qy:Rg:=[iM 361 21,iF 362 6 1,iL 363 362,iN 364 363,iB 365 .lss 361 364,iM 366 365,gM 367 8 366 true,iP 368 366 367]
def qz:Rg:=[iM 372 7,iF 373 6 1,iL 374 373,iM 375 21,iX 376 2 374 375,iF 377 0 376,iL 378 377,iK2 379 70 372 378,iM 371 379,iE 380 371 0,iE 381 371 1,iM 7 380,iM 8 381]
def OC:Rd:=[(iM 382 8,false),(iM 383 382,false),(gF 384 6 1 383 true,false),(gL 385 384 383 true,false),(gM 386 21 383 true,false),(iG 387 (.aSM 2 (Tm 385) (Tm 386)) 383 true,false),(gF 388 1 387 383 true,false),(gL 389 388 383 true,false),(gF 390 5 1 383 true,false),(gL 391 390 383 true,false),(gN 392 391 383 true,false),(gC 393 .sub 392 1 383 true,false),(iG 394 (.call 76 [(Tm 389),(Ci 0),(Tm 393)]) 383 true,true),(iP 395 383 394,false),(iM 8 395,false)]
def OD:Rg:=[iM 369 21,iC 370 .add 369 1,iM 21 370]
def zN:aC:=(.seq (sq qy (.cond (Tm 368) .skip (.exit 14))) (.seq (.block 15 (sq qz (.draw OC))) (.region OD)))
def OE:Rg:=[iM 396 8,iM 2 396]
def GF:aC:=(sq Dc (.seq (sq Dd (.cond (Tm 53) (sq DJ .ret) .skip)) (sq De (sq Df (.seq (sq Dg (.block 0 (.loop NM))) (.seq (sq qb (.block 2 (.loop NN))) (sq qf (sq NR (.seq (sq NS (.block 4 (.loop zJ))) (.seq (sq NU (.block 6 (.loop zK))) (.seq (sq NW (.block 8 (.loop zM))) (.seq (sq OB (.block 14 (.loop zN))) (sq OE .ret)))))))))))))
def asW:List Nat:=[1]
def T3:aW:=⟨1,397,GF,[.tmp 2]⟩
def Cz:Rg:=[iZ 4,iT 5 false]
def C0:Rg:=[iM 6 0,iM 7 1,iA 8 (.aSA true 1 1 [(.str [])] [(0,(Tm 7))]),iA 9 (.append 1 16 (Tm 6) (Tm 8)),iM 10 1,iK 11 62 10,iM 12 11,gM 13 0 12 true,gM 14 1 12 true,gK2 15 71 13 14 12 true,gC 16 .lss 15 0 12 true,iP 17 12 16,iM 4 9,iM 5 17]
def FZ:aC:=(sq Cz (sq C0 .ret))
def asL:List Nat:=[8]
def Tc:aW:=⟨2,18,FZ,[.tmp 4,.tmp 5]⟩
theorem alU {C:Ctx} (n lo hi:Int):uZ.wp C (aR VC.res (aI (.bool (within n lo hi)))) (PF.args [.int .i64 n,.int .i64 lo,.int .i64 hi]) .nil:=by
 unfold within;by_cases h:lo≤n
 ·simp only[go_sem,uZ,OF,OG,VC,ge_iff_le,h];refine aQ (.inr rfl) rfl ?_;simp[bQ,h]
 ·simp only[go_sem,uZ,OF,OG,VC,ge_iff_le,h];refine aQ (.inr rfl) rfl ?_;simp[bQ,h]
def qJ (a b c d e f:Nat):Bool:=decide (a≤4)&&(decide (b≤4)&&(decide (c≤40)&&(decide (d≤24)&&(decide (e≤4)&&decide (f≤12)))))
theorem asP {C:Ctx} (a b c d e f:Nat):GC.wp C (aR T1.res (aI (.bool (qJ a b c d e f)))) (PF.args [.int .i64 a,.int .i64 b,.int .i64 c,.int .i64 d,.int .i64 e,.int .i64 f]) .nil:=by
 have g:∀ x k:Nat,decide ((x:Int)≤(k:Int))=decide (x≤k):=fun x k=>decide_eq_decide.2 Om;have j:=g a 4;have l:=g b 4;have u:=g c 40;have w:=g d 24;have h5:=g e 4;have y:=g f 12;simp only[Int.cast_ofNat_Int] at j l u w h5 y;unfold qJ;simp only[go_sem,GC,C8,C9,T1,j];cases decide (a≤4) with
 | false =>simp only[go_sem];refine aQ (.inr rfl) rfl ?_;rfl
 | true =>
  simp only[go_sem,l];cases decide (b≤4) with
  | false =>simp only[go_sem];refine aQ (.inr rfl) rfl ?_;rfl
  | true =>
   simp only[go_sem,u];cases decide (c≤40) with
   | false =>simp only[go_sem];refine aQ (.inr rfl) rfl ?_;rfl
   | true =>
    simp only[go_sem,w];cases decide (d≤24) with
    | false =>simp only[go_sem];refine aQ (.inr rfl) rfl ?_;rfl
    | true =>
     simp only[go_sem,h5];cases decide (e≤4) with
     | false =>simp only[go_sem];refine aQ (.inr rfl) rfl ?_;rfl
     | true =>simp only[go_sem,y];refine aQ (.inr rfl) rfl ?_;rfl
structure gn (C:Ctx):Prop extends afS C where
 sum:∀ l:List RF,(∀ x∈l,x.Ok)→l.length≤9223372036854775807→aG C 55 [frs l] .nil (aI (frV (oM (l.map RF.v))))
 inn:∀ n lo hi:Int,aG C 76 [.int .i64 n,.int .i64 lo,.int .i64 hi] .nil (aI (.bool (within n lo hi)))
 code:∀ k m:Int,aG C 61 [.int .i64 k,.int .i64 m] .nil (aI (.bool (HS k m)))
def KW (k m q s0 s1 s2 s3 s4:Int):Bool:=HS k m&&(within q k (k+m)&&(decide (s0=0)&&(within s1 0 8&&(within s2 0 8&&(within s3 0 8&&within s4 0 8)))))
theorem aFX (p:dD):KV p=KW p.k p.m p.aST p.s0 p.s1 p.s2 p.s3 p.s4:=by
 unfold KV KW HS;have:within p.s0 0 8=true∨p.s0≠0:=by
  by_cases h:p.s0=0
  ·rw[h]; exact .inl rfl
  ·exact .inr h
 simp only[List.all_cons,List.all_nil,aVK];rcases this with h | h
 ·rw[h];simp only[aTY,aWU]
 ·simp only[h,decide_false,aTS,aUU]
def spR (s1 s2 s3 s4:Int) (k:Nat):Int:=match k with
 | 1=>s1
 | 2=>s2
 | 3=>s3
 | _=>s4
theorem U7 {C:Ctx} (L:gn C) (k m q s0 s1 s2 s3 s4:Int) :
  yB.wp C (aR gg.res (aI (.bool (KW k m q s0 s1 s2 s3 s4)))) (PF.args [.int .i64 k,.int .i64 m,.int .i64 q,.agg [.int .i64 s0,.int .i64 s1,.int .i64 s2,.int .i64 s3,.int .i64 s4]]) .nil:=by
 obtain⟨X,w⟩:∃ X,KW k m q s0 s1 s2 s3 s4=X:=⟨_,rfl⟩;rw[w];unfold KW at w;simp only[go_sem,yB,YC,YD,gg];refine aA (L.code k m) rfl ?_;cases I:HS k m with
 | false =>rw[I,aTS] at w;simp only[go_sem,aTZ,wW];refine aQ (.inr rfl) rfl ?_;rw[bQ,w]
 | true =>
  rw[I,aTY] at w;have hb:1≤k∧k≤6∧0≤m∧m≤4:=by simp only[HS,aUC,within_iff] at I;omega
  have U:IntKind.i64.wrap (k+m)=k+m:=wrap_i64 Om Om;simp only[go_sem,aTV,U];refine aA (L.inn q k (k+m)) rfl ?_;cases M:within q k (k+m) with
  | false =>rw[M,aTS] at w;simp only[go_sem,aTZ,wW];refine aQ (.inr rfl) rfl ?_;rw[bQ,w]
  | true =>
   rw[M,aTY] at w;have F:(0:Int)<((5:Nat):Int):=by decide
   by_cases J:s0=0
   ·rw[decide_eq_true J,aTY] at w;simp only[go_sem,aTV,F,bV J,YE];refine wp_loop (α:=Nat) (fun j=>((PF.nil.set 7 (.bN [.int .i64 s0,.int .i64 s1,.int .i64 s2,.int .i64 s3,.int .i64 s4])).set 9 (.int .i64 j))) (fun _=>.nil) (fun j=>1≤j∧j≤5∧∀ i,1≤i→i<j→within (spR s1 s2 s3 s4 i) 0 8=true) (fun j=>5-j) 1 ⟨by decide,by decide,fun i I M=>by omega⟩ Lq a_ ?_;rintro j ⟨O,R,l⟩;simp only[go_sem,YB,YF];by_cases hlt:j<5
    ·have u:(j:Int)<5:=Om;have A:((j:Nat):Int)<((5:Nat):Int):=Om;have y:=L.inn (spR s1 s2 s3 s4 j) 0 8;obtain⟨c,x⟩:∃ c,within (spR s1 s2 s3 s4 j) 0 8=c:=⟨_,rfl⟩;rw[x] at y;have B:c=true→∀ i,1≤i→i<j+1→within (spR s1 s2 s3 s4 i) 0 8=true:=fun E i a b=>by
      by_cases e:i=j
      ·rw[e,x,E]
      ·exact l i a Om
     have K:c=false→X=false:=by intro h;rw[h] at x;have E:j=1∨j=2∨j=3∨j=4:=Om;rw[← w];rcases E with rfl | rfl | rfl | rfl<;>(simp only[spR] at x; rw[x]; simp)
     have E:j=1∨j=2∨j=3∨j=4:=Om;cases c with
     | false =>
      have N:=K rfl;rcases E with rfl | rfl | rfl | rfl
      all_goals
       simp only[spR] at y;simp only[go_sem,u,GB,A];refine aA y rfl ?_;simp only[go_sem,aTZ,YG];refine aQ (.inr rfl) rfl ?_;rw[bQ,N]
     | true =>
      have S:=B rfl;rcases E with rfl | rfl | rfl | rfl
      all_goals
       simp only[spR] at y;simp only[go_sem,u,GB,A];refine aA y rfl ?_;simp only[go_sem,aTV,YH];refine aH (_+1) ⟨by omega,hlt,S⟩ Om Lq b_
    ·have u:¬ (j:Int)<5:=Om;have:j=5:=Om;subst this;simp only[go_sem,u,YI];refine aQ (.inr rfl) rfl ?_;have a1:=l 1 (by decide) (by decide);have a2:=l 2 (by decide) (by decide);have a3:=l 3 (by decide) (by decide);have a4:=l 4 (by decide) (by decide);simp only[spR] at a1 a2 a3 a4;rw[bQ,← w,a1,a2,a3,a4];rfl
   ·rw[decide_eq_false J,aTS] at w;simp only[go_sem,aTV,F,dK J,wW];refine aQ (.inr rfl) rfl ?_;rw[bQ,w]
theorem qS {x:RF} (h:dB x=true):x.valid:=by
 unfold dB pN at h;unfold RF.valid;cases e:dC (val x.num) (val x.den) with
 | true=>rfl
 | false =>rw[e] at h;simp at h
theorem asR {C:Ctx} (L:gn C) (x:RF) (A:x.Ok):GD.wp C (aR T2.res (aI (.bool (dB x)))) (PF.args [.agg x.cells]) .nil:=by
 have y:=L.red x A;unfold dB;simp only[go_sem,GD,Da,Db,T2];refine aA y rfl ?_;cases he:pN x with
 | error e =>have u:=Pj he;simp only[go_sem,frV];refine aO fun o w=>?_;simp only[go_sem,DI,bE u];refine aQ (.inr rfl) rfl ?_;rfl
 | ok r =>
  obtain⟨n,a,b⟩:=r;have B:=mW a 1;have E:=mW b 1;have j:decide (((nl a:Nat):Int)≤1)=decide (cW a≤32):=decide_eq_decide.2 Om;have l:decide (((nl b:Nat):Int)≤1)=decide (cW b≤32):=decide_eq_decide.2 Om;simp only[go_sem,frV];refine aO fun o w=>?_;cases n with
  | true =>simp only[go_sem,DI,aTV];refine aQ (.inr rfl) rfl ?_;rfl
  | false =>
   simp only[go_sem,DI,aTZ,aTJ,aY,j];cases decide (cW a≤32) with
   | false =>simp only[go_sem];refine aQ (.inr rfl) rfl ?_;rfl
   | true =>simp only[go_sem,aTJ,aY,l];refine aQ (.inr rfl) rfl ?_;rfl
structure rc (C:Ctx):Prop extends gn C where
 small:∀ x:RF,x.Ok→aG C 74 [.agg x.cells] .nil (aI (.bool (dB x)))
 nums:∀ k m q s0 s1 s2 s3 s4:Int,aG C 72 [.int .i64 k,.int .i64 m,.int .i64 q,.agg [.int .i64 s0,.int .i64 s1,.int .i64 s2,.int .i64 s3,.int .i64 s4]] .nil (aI (.bool (KW k m q s0 s1 s2 s3 s4)))
 sizes:∀ a b c d e f:Nat,aG C 73 [.int .i64 a,.int .i64 b,.int .i64 c,.int .i64 d,.int .i64 e,.int .i64 f] .nil (aI (.bool (qJ a b c d e f)))
theorem ja {l:List RF} {k:Nat} (h:k<l.length):(l.map RF.cells)[k]?=some (l[k]).cells:=by simp[h]
theorem alS {C:Ctx} (L:rc C) (l:List RF) (w:kR l) (n:Int):BY.wp C (aR vw.res (aI (.bool (decide ((l.length:Int)=n)&&l.all dB)))) (PF.args [frs l,.int .i64 n]) .nil:=by
 have x:=w.fits;unfold Fits at x;simp only[go_sem,BY,pu,pw,vw,aTJ];by_cases h:(l.length:Int)=n
 ·rw[decide_eq_true h,aTY];subst h;simp only[go_sem,bV (show (l.length:Int)=(l.length:Nat) from rfl),p5];refine wp_loop (α:=Nat) (fun k=>(((PF.nil.set 0 (frs l)).set 1 (.int .i64 (l.length:Nat))).set 5 (.int .i64 k))) (fun _=>.nil) (fun k=>k≤l.length∧(l.take k).all dB=true) (fun k=>l.length-k) 0 ⟨aTQ _,rfl⟩ Lq a_ ?_;rintro k ⟨A,j⟩;simp only[go_sem,pt,p6];by_cases hlt:k<l.length
  ·have e:(k:Int)<(l.length:Nat):=Om;have y:=L.small l[k] (w.all _ (aTN hlt));simp only[go_sem,e,p7,ja hlt];refine aA y rfl ?_;cases hi:dB l[k] with
   | false =>simp only[go_sem,aTZ,p8];refine aQ (.inr rfl) rfl ?_;rw[bQ,pW hlt hi]
   | true =>have u:=aUH.1 (pV hlt j hi);simp only[go_sem,aTV,p9,wZz k];exact aH (k+1) ⟨hlt,u⟩ Om Lq b_
  ·have e:¬ (k:Int)<(l.length:Nat):=Om;have:k=l.length:=Om;subst this;rw[aUS] at j;simp only[go_sem,e,qa];refine aQ (.inr rfl) rfl ?_;rw[bQ,j]
 ·rw[decide_eq_false h,aTS];simp only[go_sem,dK h,p4];refine aQ (.inr rfl) rfl ?_;rfl
structure re (C:Ctx):Prop extends rc C where
 smalls:∀ l:List RF,kR l→∀ n:Int,aG C 75 [frs l,.int .i64 n] .nil (aI (.bool (decide ((l.length:Int)=n)&&l.all dB)))
theorem LW (x:RF):(rZ x==0)=!bJ x:=by
 unfold rZ bJ;by_cases h:val x.num=0
 ·simp[h]
 ·cases x.neg<;>simp[h]
def d7 (l:List RF) (m:Int):Bool:=decide ((l.length:Int)=max m 1)&&l.all dB&&l.all bJ
theorem aHV {C:Ctx} (L:re C) (l:List RF) (y:kR l) (m:Int):TU.wp C (aR aBB.res (aI (.bool (d7 l m)))) (PF.args [frs l,.int .i64 m]) .nil:=by
 have B:=y.fits;unfold Fits at B;have F:=L.smalls l y (max m 1);unfold d7;simp only[go_sem,TU,afF,afG,aBB,max_eq];refine aA F rfl ?_;cases h:(decide ((l.length:Int)=max m 1)&&l.all dB) with
 | false =>simp only[go_sem,aTZ,afH];refine aQ (.inr rfl) rfl ?_;rfl
 | true =>
  rw[aUC] at h;have j:=aUH.1 h.2;simp only[go_sem,aTV,afI];refine wp_loop (α:=Nat) (fun k=>((PF.nil.set 0 (frs l)).set 5 (.int .i64 k))) (fun _=>.nil) (fun k=>k≤l.length∧(l.take k).all bJ=true) (fun k=>l.length-k) 0 ⟨aTQ _,rfl⟩ Lq a_ ?_;rintro k ⟨I,w⟩;simp only[go_sem,afE,afJ,aTJ];by_cases hlt:k<l.length
  ·have e:(k:Int)<(l.length:Nat):=Om;have A:=aTN hlt;have E:=L.sign l[k] (y.all _ A) (qS (j _ A));have u:=LW l[k];simp only[go_sem,e,afK,ja hlt];refine aA E rfl ?_;cases hi:bJ l[k] with
   | false =>rw[hi] at u;simp only[go_sem,u,aTZ,afL];refine aQ (.inr rfl) rfl ?_;rw[bQ,pW hlt hi]
   | true =>rw[hi] at u;have x:=aUH.1 (pV hlt w hi);simp only[go_sem,u,aTV,afM,wZz k];exact aH (k+1) ⟨hlt,x⟩ Om Lq b_
  ·have e:¬ (k:Int)<(l.length:Nat):=Om;have:k=l.length:=Om;subst this;rw[aUS] at w;simp only[go_sem,e,afN];refine aQ (.inr rfl) rfl ?_;rw[bQ,w]
structure rg (C:Ctx):Prop extends re C where
 reps:∀ l:List RF,kR l→∀ m:Int,aG C 66 [frs l,.int .i64 m] .nil (aI (.bool (d7 l m)))
def frD:List PV→RF
 | [.bool n,a,b]=>⟨n,jY a,jY b⟩
 | _=>⟨false,[],[]⟩
theorem wr (x:RF):frD x.cells=x:=by
 show (⟨x.neg,jY (aK x.num),jY (aK x.den)⟩:RF)=x;rw[eS,eS]
def zdS (r s:Bool):Spec:=fun name vs=>match name,vs with
 | 66,_=>some ([],fun _=>aI (.bool r))
 | 74,[.agg cs]=>some ([],fun _=>aI (.bool (dB (frD cs))))
 | 47,_=>some ([],fun _=>aI (.agg (mkT 1 1).cells))
 | 49,_=>some ([],fun _=>aI (.bool s))
 | _,_=>none
theorem Cy (r s:Bool) (x:RF):zdS r s 74 [.agg x.cells]=some ([],fun _=>aI (.bool (dB x))):=by
 show some ([],fun _=>aI (.bool (dB (frD x.cells))))=_;rw[wr]
theorem apS (x y:RF):qF y x=- qF x y:=by
 unfold qF qE;have e:=v6 (val x.num*val y.den) (val y.num*val x.den);cases x.neg&&decide (val x.num≠0)<;>cases y.neg&&decide (val y.num≠0)<;>simp only[e,Int.neg_neg]<;>rfl
theorem axU {x:RF} (e:x.valid):decide (qF (mkT 1 1) x<0)=!xV x:=by
 rw[apS x];unfold xV;rw[show dC (val x.num) (val x.den)=true from e,aTY,GX];unfold qF;simp only[aS,show (1:Int).natAbs=1 from rfl,show decide ((1:Int)<0)=false from rfl];by_cases h:qE x.neg (val x.num) (val x.den) false 1 1≤0
 ·rw[decide_eq_true h,decide_eq_false Om]; rfl
 ·rw[decide_eq_false h,decide_eq_true Om]; rfl
def PI (m:Int) (rep:List RF) (t h:RF):Bool:=d7 rep m&&(dB t&&(xV t&&dB h))
theorem aHR {C:Ctx} (L:rg C) (m:Int) (rep:List RF) (x:kR rep) (t h:RF) (u:t.Ok) (w:h.Ok) :
  TR.wp C (aR aAV.res (aI (.bool (PI m rep t h)))) (PF.args [.int .i64 m,frs rep,.agg t.cells,.agg h.cells]) .nil:=by
 have j:dN 1:=by unfold dN; omega
 unfold PI;simp only[go_sem,TR,aeU,aAV];refine bC .nil (zdS (d7 rep m) (!xV t)) a_ ?_;simp only[go_sem,aeV];refine bX rfl (L.reps rep x m) rfl a_ ?_;cases d7 rep m with
 | false =>simp only[go_sem];refine aQ (.inr rfl) rfl ?_;rfl
 | true =>
  simp only[go_sem];refine bX (Cy _ _ t) (L.small t u) rfl a_ ?_;cases l:dB t with
  | false =>simp only[go_sem];refine aQ (.inr rfl) rfl ?_;rfl
  | true =>
   have e:=L.less (mkT 1 1) t (GW 1 j).1 u (GW 1 j).2 (qS l);rw[axU (qS l)] at e;simp only[go_sem];refine bX rfl (L.int 1 j) rfl a_ ?_;simp only[go_sem];refine bX rfl e rfl a_ ?_;cases xV t with
   | false =>simp only[go_sem,aTZ,aTV];refine aQ (.inr rfl) rfl ?_;rfl
   | true =>simp only[go_sem,aTV,aTZ];refine bX (Cy _ _ h) (L.small h w) rfl a_ ?_;simp only[go_sem];refine aQ (.inr rfl) rfl ?_;rfl
theorem aIZ (p:dD):CS p=PI p.m p.repair p.target p.aSF:=by
 unfold CS PI d7;have:(p.repair.all fun x=>dB x&&bJ x)=(p.repair.all dB&&p.repair.all bJ):=by
  induction p.repair with
  | nil=>rfl
  | cons a t e =>simp only[List.all_cons,e];cases dB a<;>cases bJ a<;>simp
 rw[this];simp only[aWU]
section
variable {H:PH} {B:List BX} {L:List LI}
theorem aM.afX (h:aM H B L) (i:Nat) {s b:Nat} {v y:PV} {rows src:List (List PV)} {K:PV→PH→Prop} (hi:L[i]?=some (v,s,rows)) (E:eR H s y=some src) (A:roomFor rows.length src.length b)
  (u:∀ v' H',cA H' s v rows→aM H' B (L.set i (v',s,rows++src))→K v' H'):lM H s b v y K:=by
 rcases h.own i hi with ⟨rfl,rfl⟩ | ⟨q,rs,rfl,h1,h2,h3⟩
 ·exact h.append i hi E A fun v' H' F _=>u v' H' (.inl ⟨rfl,rfl⟩) F
 ·have e:(rows++src).length=rows.length+src.length:=aTM;refine⟨src,E,rfl,rfl,A,rs,h1,h2,?_,fun o l=>?_⟩
  ·rw[h3];refine u _ _ (.inr ⟨q,rows++src,rfl,by rw[cL],by rw[e]; omega,List.take_left' rfl⟩) (h.MF i hi (.inr ⟨q,rows++src,by rw[e],by simp only[aT,if_true],aTO _,aUS⟩) (fun p j=>by cases j; exact .inl rfl) fun p _ j=>?_);rw[aT,if_neg (j q rfl)]
  ·rw[h3];have x:q≠o:=by rintro rfl; rw[h1] at l; cases l
   refine u _ _ (.inr ⟨q,rs,rfl,by rw[aT,if_neg x]; exact h1,h2,h3⟩) (h.MF i hi (.inr ⟨o,rows++src,by rw[e],by simp only[aT,if_true],aTO _,aUS⟩) (fun p j=>by cases j; exact .inr l) fun p w j=>?_);obtain⟨f1,f2⟩:=h.fresh l;have I:p≠o:=by rintro rfl; exact w.elim f1 f2
   rw[aT,if_neg I]
end
abbrev nF (l:List (List UInt8)):List (List PV):=l.map fun s=>[PV.str s]
def BC:List (List UInt8)→List UInt8→Nat→Int
 | [],_,_=>-1
 | x::t,s,i=>if x==s then (i:Int) else BC t s (i+1)
theorem Ki (s:List UInt8):∀ (l:List (List UInt8)) (i:Nat),decide (BC l s i<0)=!l.contains s
 | [],i=>rfl
 | x::t,i=>by
  rw[BC,List.contains_cons,BEq.comm (a:=s)];by_cases h:(x==s)=true
  ·rw[if_pos h,h,Bool.true_or,decide_eq_false Om]; rfl
  ·rw[if_neg h,Ki s t (i+1)];simp only[Bool.not_eq_true] at h;rw[h,Bool.false_or]
theorem asM {C:Ctx} (l:List (List UInt8)) (y:l.length≤1000000) (s:List UInt8):GA.wp C (aR Td.res (aI (.int .i64 (BC l s 0)))) (PF.args [.sl 1 (nF l),.str s]) .nil:=by
 simp only[go_sem,GA,C2,C3,Td];refine wp_loop (α:=Nat) (fun k=>(((PF.nil.set 0 (.sl 1 (nF l))).set 1 (.str s)).set 5 (.int .i64 k))) (fun _=>.nil) (fun k=>k≤l.length∧BC l s 0=BC (l.drop k) s k) (fun k=>l.length-k) 0 ⟨aTQ _,rfl⟩ Lq a_ ?_;rintro k ⟨x,j⟩;simp only[go_sem,C1,C4,aTJ];by_cases hlt:k<l.length
 ·have e:(k:Int)<(l.length:Nat):=Om;have u:(nF l)[k]?=some [.str l[k]]:=by simp[hlt]
  rw[aVV hlt,BC] at j;cases w:l[k]==s with
  | true =>rw[w,if_pos rfl] at j;simp only[go_sem,e,TS,u,w,C5];refine aQ (.inr rfl) rfl ?_;rw[bQ,j]
  | false =>rw[w,if_neg (by decide)] at j;simp only[go_sem,e,TS,u,w,C6,wZz k];exact aH (k+1) ⟨hlt,j⟩ Om Lq b_
 ·have e:¬ (k:Int)<(l.length:Nat):=Om;have:k=l.length:=Om;subst this;rw[List.drop_length,BC] at j;simp only[go_sem,e,C7];refine aQ (.inr rfl) rfl ?_;rw[bQ,j]
structure rh (C:Ctx):Prop extends rg C where
 name:∀ s:List UInt8,aG C 62 [.str s] .nil (aI (.bool (isName s)))
 index:∀ (l:List (List UInt8)),l.length≤1000000→∀ s:List UInt8,aG C 71 [.sl 1 (nF l),.str s] .nil (aI (.int .i64 (BC l s 0)))
def jZ (l:List (List UInt8)) (s:List UInt8):Bool:=isName s&&!l.contains s
def gi (l:List (List UInt8)) (s:List UInt8) (r:PV) (B:List BX) (L:List LI):Prop:=∃ e,r=.tup [e,.bool (jZ l s)]∧B=[]∧L=[(e,1,nF (l++[s]))]
theorem asK {C:Ctx} (L:rh C) (l:List (List UInt8)) (U:l.length≤1000000) (s:List UInt8) (w:PV) (H:PH) (R:aM H [] [(w,1,nF l)]) :
  FZ.wp C (aR Tc.res (fun r H'=>∃ B' L',gi l s r B' L'∧aM H' B' L')) (PF.args [w,.str s]) H:=by
 have y:=L.index l U s;have K:=L.name s;have u:=Ki s l 0;have J:(1:Nat)*1≤16777216:=by decide
 have fin:∀ (F:PF) (H':PH) (j:PV) (b:Bool),F 4=some j→F 5=some (.bool b)→b=jZ l s→aM H' [] [(j,1,nF (l++[s]))]→aR [.tmp 4,.tmp 5] (fun r H'=>∃ B' L',gi l s r B' L'∧aM H' B' L') .ret F H':=fun F H' j b N O e I =>
  aV (vs:=[j,.bool b]) (.inr rfl) H' (by simp only[go_sem,N,O]) b_ ⟨[],_,⟨j,by rw[e]; rfl,rfl,rfl⟩,I⟩
 simp only[go_sem,FZ,Cz,C0,Tc,J];refine R.afX 0 (src:=[[.str s]]) rfl rfl (by unfold roomFor; rw[aTJ]; simp only[aTT,maxLen]; omega) fun j H' S I=>?_;have x:aM H' [] [(j,1,nF (l++[s]))]:=by
  have e:nF (l++[s])=nF l++[[.str s]]:=by simp[nF]
  rw[e]; exact I
 refine aA K rfl ?_;cases M:isName s with
 | false =>simp only[go_sem];exact fin _ _ j false rfl rfl (by unfold jZ; rw[M,aTS]) x
 | true =>
  have A:jZ l s=!l.contains s:=by unfold jZ; rw[M,aTY]
  rcases S with ⟨V,rfl⟩ | ⟨q,rs,rfl,q1,q2,q3⟩
  ·simp only[go_sem];rw[V] at y;have E:aG C 71 [.aB,.str s] .nil (aI (.int .i64 (BC l s 0))):=y.args (.cons (.nil 1) (.cons (.refl _) .nil));refine aA E rfl ?_;simp only[go_sem,u];exact fin _ _ j _ rfl rfl A.symm x
  ·simp only[go_sem];refine Uy (vs:=[.osl q 1 0 (nF l).length,.str s]) (.int .i64 (BC l s 0)) ?_ q1 Sq ?_
   ·rw[aUQ,aUQ,aVZ,vK q2,q3];exact y
   simp only[go_sem,u];exact fin _ _ j _ rfl rfl A.symm x
theorem aqU {x:RF} (h:dB x=true):decide (rZ x>0)=bJ x:=by
 have j:=qS h;unfold dB pN at h;rw[show dC (val x.num) (val x.den)=true from j,if_pos rfl,an j] at h;unfold rZ bJ;by_cases e:val x.num=0
 ·simp[e]
 ·have hq:val x.num/aTL (val x.num) (val x.den)≠0:=by have:=Nat.div_pos (Nat.gcd_le_left (val x.den) (aWD e)) (Nat.gcd_pos_of_pos_left _ (aWD e));omega
  have l:x.neg=false:=by unfold nI at h;simp only[hq,ne_eq,not_false_eq_true,decide_true,aVK,aUC] at h;simpa using h.1
  rw[if_neg e,l];simp[e]
structure El (l:cI):Prop where
 exit:∀ x∈l.exit,dB x=true
 row:∀ r∈l.aRZ,∀ x∈r,dB x=true
structure qM (C:Ctx):Prop extends rh C where
 fresh:∀ (l:List (List UInt8)),l.length≤1000000→∀ (s:List UInt8) (w:PV) (H:PH),aM H [] [(w,1,nF l)]→aG C 70 [w,.str s] H (fun r H'=>∃ B' L',gi l s r B' L'∧aM H' B' L')
theorem qM.pos {C:Ctx} (L:qM C) {x:RF} (e:x.Ok) (h:dB x=true):∃ n:Int,aG C 54 [.agg x.cells] .nil (aI (.int .i64 n))∧decide (n>0)=bJ x:=⟨_,L.sign x e (qS h),aqU h⟩
def zlF (l:cI) (o r i:Nat):PF:=(((((PF.nil.set 1 (.bN l.cells)).set 3 (.int .i64 (l.exit.length:Nat))).set 7 (.osl o 1 0 l.exit.length)).set 8 (.int .i64 r)).set 9 (.int .i64 i))
theorem aAW {C:Ctx} (L:qM C) (l:cI) (o r i:Nat) (row:List RF) (U:(l.aRZ.map fun r=>[frs r])[i]?=some [frs row]) (M:kR row) (J:∀ x∈row,dB x=true) (Y:row.length=l.exit.length) (hi:i<l.exit.length) (hn:l.exit.length≤4) (j:List Bool) (hR:j.length=l.exit.length) (K:cE) [Up K] (F:PF) (H:PH)
  (O:((zlF l o r i).set 10 (.int .i64 0)).le F) (N:(jG o j).le H)
  (X:K (.exit 6) (zlF l o r i) (jG o (cT j i row row.length))):aC.wp C (.loop NI) K F H:=by
 refine wp_loop (α:=Nat) (fun k=>(zlF l o r i).set 10 (.int .i64 k)) (fun k=>jG o (cT j i row k)) (fun k=>k≤row.length) (fun k=>row.length-k) 0 (aTQ _) O N ?_;intro k hk;have W:=uM j i row k;have B:∀ h:k<row.length,cT j i row (k+1)=(cT j i row k).set i ((cT j i row k).getD i false||bJ row[k]&&(cT j i row k).getD k false):=fun h=>by simp only[cT,aTR,aUG,aTP h,aUO,aWE]
 have fin:∀ (b:Bool) (F:PF) (H:PH),k<row.length→bK (cT j i row (k+1))=(bK (cT j i row k)).set i [.bool b]→((zlF l o r i).set 10 (.int .i64 (k+1:Nat))).le F→H o=some (.rows 1 ((bK (cT j i row k)).set i [.bool b])) →
   fN (fun k:Nat=>(zlF l o r i).set 10 (.int .i64 k)) (fun k=>jG o (cT j i row k)) (fun k=>k≤row.length) (fun k=>row.length-k) (row.length-k) K .normal F H:=by
  intro b F H hlt hb O N;refine aH (k+1) hlt Om O ?_;rw[← hb] at N;exact e_ a_ N
 unfold zlF jG at fin;simp only[go_sem,NI,Tk,zlF,jG];by_cases hlt:k<row.length
 ·have e:(k:Int)<(l.exit.length:Nat):=Om;have y:(i:Int)<(l.exit.length:Nat):=Om;have w:=jM (R:=cT j i row k) (i:=i) Om;have E:=jM (R:=cT j i row k) (i:=k) Om;have u:=B hlt;obtain⟨n,V,I⟩:=L.pos (M.all _ (aTN hlt)) (J _ (aTN hlt));have S:=ja hlt;generalize hb:(cT j i row k).getD i false=b at *
  generalize hc:(cT j i row k).getD k false=c at *
  generalize Z:bJ row[k]=A at *
  cases b with
  | true =>simp only[go_sem,e,gb,y,aUF,w,NJ,wZz k];exact fin true _ _ hlt (by rw[u,kW,Bool.true_or]) Lq Sq
  | false =>
   simp only[go_sem,e,gb,y,aUF,w,U,S];refine aA V rfl ?_;cases A with
   | false =>simp only[go_sem,I,y,e,aUF,w,E,NJ,wZz k];exact fin false _ _ hlt (by rw[u,kW,Bool.false_or,aTS]) Lq Sq
   | true =>simp only[go_sem,I,y,e,aUF,w,E,NJ,wZz k];exact fin c _ _ hlt (by rw[u,kW,Bool.false_or,aTY]) Lq Sq
 ·have e:¬ (k:Int)<(l.exit.length:Nat):=Om;have:k=row.length:=Om;subst this;simp only[go_sem,e];refine Up.up ?_ X
  (repeat' (first|exact c_|refine d_ ?_ ?_))<;>first|(simp only[go_sem,zlF]<;>rfl)|rfl
theorem aAY {C:Ctx} (L:qM C) (l:cI) (U:l.Ok) (he:BZ l) (W:El l) (o r:Nat) (R:List Bool) (hR:R.length=l.exit.length) (K:cE) [Up K] (F:PF) (H:PH)
  (M:(zlF l o r 0).le F) (N:(jG o R).le H)
  (Z:K (.exit 4) (zlF l o r l.exit.length) (jG o (dE l R l.exit.length))):aC.wp C (.loop ft) K F H:=by
 refine wp_loop (α:=Nat) (fun i=>zlF l o r i) (fun i=>jG o (dE l R i)) (fun i=>i≤l.exit.length) (fun i=>l.exit.length-i) 0 (aTQ _) M N ?_;intro i hi;have V:=rD l R i;have hn:=he.n;simp only[go_sem,ft,Tj,zlF,jG];by_cases hlt:i<l.exit.length
 ·have e:(i:Int)<(l.exit.length:Nat):=Om;have u:i<l.aRZ.length:=by rw[he.aRZ]; exact hlt
  have y:=jM (R:=dE l R i) (i:=i) Om;have hx:=ja hlt;have I:(l.aRZ.map fun r=>[frs r])[i]?=some [frs l.aRZ[i]]:=by simp[u]
  have O:(l.aRZ[i]).length=l.exit.length:=he.row _ (aTN u);generalize w:(dE l R i).set i ((dE l R i).getD i false||bJ l.exit[i])=J;have B:J.length=l.exit.length:=by rw[← w,aVJ]; omega
  have A:dE l R (i+1)=cT J i l.aRZ[i] (l.aRZ[i]).length:=by
   simp only[dE,lJ];have X:(l.exit.map bJ).getD i false=bJ l.exit[i]:=by simp[aTR,hlt]
   have Y:l.aRZ.getD i []=l.aRZ[i]:=by simp[aTR,u]
   rw[X,Y,w]
  obtain⟨n,S,E⟩:=L.pos (U.exit.all _ (aTN hlt)) (W.exit _ (aTN hlt));have x:∀ (F:PF) (H:PH),(zlF l o r i).le F→H o=some (.rows 1 (bK J)) →
    aC.wp C (.seq (.region ga) (.block 6 (.loop NI))) (fA 5 (jV C (aC.wp C (.region gd)) (fN (fun i:Nat=>zlF l o r i) (fun i=>jG o (dE l R i)) (fun i=>i≤l.exit.length) (fun i=>l.exit.length-i) (l.exit.length-i) K))) F H:=by
   intro F H M N;refine sA _ (fun _ _ _ _ a b=>Up.up a b) M ?_;simp only[go_sem,ga];refine aAW L l o r i l.aRZ[i] I (U.row _ (aTN u)) (W.row _ (aTN u)) O hlt hn J B _ _ _ (by (repeat' (first|exact c_|refine d_ ?_ ?_))<;>first|(simp only[go_sem,zlF]<;>rfl)|rfl) (e_ a_ N) ?_;simp only[go_sem,zlF,gd,wZz i];exact aH (i+1) hlt Om Lq (by rw[A]; exact b_)
  simp only[zlF,jG] at x;have j:=x;simp only[aC.wp,go_sem] at j;generalize hb:(dE l R i).getD i false=b at *
  cases b with
  | true =>simp only[go_sem,e,fz,e,aUF,y];refine j _ _ Lq ?_;rw[← w];simp only[go_sem,kW,Bool.true_or]
  | false =>simp only[go_sem,e,fz,e,aUF,y,hx];refine aA S rfl ?_;simp only[go_sem,e,aUF,y,E];refine j _ _ Lq ?_;rw[← w];simp only[go_sem,kW,Bool.false_or]
 ·have e:¬ (i:Int)<(l.exit.length:Nat):=Om;have:i=l.exit.length:=Om;subst this;simp only[go_sem,e];exact Up.up (by (repeat' (first|exact c_|refine d_ ?_ ?_))<;>first|(simp only[go_sem,zlF]<;>rfl)|rfl) Z
theorem aAX {C:Ctx} (L:qM C) (l:cI) (y:l.Ok) (he:BZ l) (A:El l) (o:Nat) (K:cE) [Up K] (F:PF) (H:PH)
  (u:(((((PF.nil.set 1 (.bN l.cells)).set 3 (.int .i64 (l.exit.length:Nat))).set 7 (.osl o 1 0 l.exit.length)).set 8 (.int .i64 0)):PF).le F) (w:(jG o (dH l 0)).le H)
  (x:K (.exit 2) (((PF.nil.set 3 (.int .i64 (l.exit.length:Nat))).set 7 (.osl o 1 0 l.exit.length))) (jG o (dH l l.exit.length))):aC.wp C (.loop fv) K F H:=by
 have B:=he.n;refine wp_loop (α:=Nat) (fun r=>((((PF.nil.set 1 (.bN l.cells)).set 3 (.int .i64 (l.exit.length:Nat))).set 7 (.osl o 1 0 l.exit.length)).set 8 (.int .i64 r))) (fun r=>jG o (dH l r)) (fun r=>r≤l.exit.length) (fun r=>l.exit.length-r) 0 (aTQ _) u w ?_;intro r E;have j:=rC l r;simp only[go_sem,fv,Th];by_cases hlt:r<l.exit.length
 ·have e:(r:Int)<(l.exit.length:Nat):=Om;simp only[go_sem,e,Ti];refine aAY L l y he A o r (dH l r) j _ _ _ (by (repeat' (first|exact c_|refine d_ ?_ ?_))<;>first|(simp only[go_sem,zlF]<;>rfl)|rfl) b_ ?_;simp only[go_sem,zlF,Tl,wZz r];exact aH (r+1) hlt Om Lq b_
 ·have e:¬ (r:Int)<(l.exit.length:Nat):=Om;have:r=l.exit.length:=Om;subst this;simp only[go_sem,e];exact Up.up Lq x
theorem aKI {C:Ctx} (R:List Bool) (I:R.length≤4) (o:Nat) (X:Bool) (B:X=R.all id) (Q:PV→PH→Prop) (A:Q=aI (.bool X)) (F:PF) (H:PH)
  (x:((((PF.nil.set 3 (.int .i64 (R.length:Nat))).set 7 (.osl o 1 0 R.length)).set 11 (.int .i64 0)):PF).le F) (y:(jG o R).le H):aC.wp C (.loop fw) (fA 8 (jV C (aC.wp C (.seq (.region gf) .ret)) (aR [.tmp 2] Q))) F H:=by
 subst B A;refine wp_loop (α:=Nat) (fun k=>(((PF.nil.set 3 (.int .i64 (R.length:Nat))).set 7 (.osl o 1 0 R.length)).set 11 (.int .i64 k))) (fun _=>jG o R) (fun k=>k≤R.length∧(R.take k).all id=true) (fun k=>R.length-k) 0 ⟨aTQ _,rfl⟩ x y ?_;rintro k ⟨J,u⟩;simp only[go_sem,fw,To,jG];by_cases hlt:k<R.length
 ·have e:(k:Int)<(R.length:Nat):=Om;have j:=jM (R:=R) (i:=k) hlt;have E:R.getD k false=R[k]:=by simp[aTR,hlt]
  rw[E] at j;cases l:R[k] with
  | false =>rw[l] at j;simp only[go_sem,e,ge,aUF,j,aTZ,Tq];refine aQ (.inr rfl) rfl ?_;rw[bQ,pW hlt (p:=id) l]
  | true =>rw[l] at j;have w:=pV hlt u (p:=id) l;simp only[go_sem,e,ge,aUF,j,aTV,Tr,wZz k];exact aH (k+1) ⟨hlt,by simpa using aUH.1 w⟩ Om Lq b_
 ·have e:¬ (k:Int)<(R.length:Nat):=Om;have:k=R.length:=Om;subst this;rw[aUS] at u;simp only[go_sem,e,gf];refine aQ (.inr rfl) rfl ?_;rw[bQ,u]
def Marks (R S:List Bool):Prop:=R.length=S.length∧∀ j:Nat,R[j]?=some true→S[j]?=some true
theorem Marks.aJV (R:List Bool):Marks R R:=⟨rfl,fun _ h=>h⟩
theorem Marks.trans {R S T:List Bool} (h:Marks R S) (k:Marks S T):Marks R T:=⟨h.1.trans k.1,fun j a=>k.2 j (h.2 j a)⟩
theorem Lf (R:List Bool) (i:Nat) (b:Bool):Marks R (R.set i (R.getD i false||b)):=by
 refine⟨by rw[aVJ],fun j h=>?_⟩;rw[aXF];obtain⟨l,he⟩:=aUN.1 h;split
 ·rename_i e;subst e;rw[if_pos l,aTR,h];rfl
 ·exact h
theorem xy (R:List Bool) (i:Nat) (row:List RF):∀ k,Marks R (cT R i row k)
 | 0=>Marks.aJV R
 | k+1=>(xy R i row k).trans (Lf _ _ _)
theorem DY (l:cI) (R:List Bool):∀ i,Marks R (dE l R i)
 | 0=>Marks.aJV R
 | i+1=>(DY l R i).trans ((Lf _ _ _).trans (xy _ _ _ _))
theorem Lg:∀ {R S:List Bool},Marks R S→R≠S→R.count true<S.count true
 | [],[],_,h=>absurd rfl h
 | [],_::_,h,_=>by have:=h.1; simp at this
 | _::_,[],h,_=>by have:=h.1; simp at this
 | a::R,b::S,h,l=>by
  have u:a=true→b=true:=fun e=>by have:=h.2 0 (by rw[e]; rfl);simpa using this
  have x:Marks R S:=⟨by have:=h.1; simpa using this,fun j w=>by have:=h.2 (j+1) (by simpa using w); simpa using this⟩;by_cases e:R=S
  ·subst e;have:a≠b:=fun e=>l (by rw[e]);cases a<;>cases b<;>simp at this u ⊢
  ·have:=Lg x e;cases a<;>cases b<;>simp at u ⊢<;>omega
theorem ij:∀ {R:List Bool},R.length≤R.count true→R.all id=true
 | [],_=>rfl
 | a::R,h=>by
  have e:=List.count_le_length (a:=true) (l:=R);cases a with
  | true =>simp only[List.count_cons_self,aVA] at h;simp only[List.all_cons,id,aTY];exact ij Om
  | false =>simp at h;omega
theorem LG (l:cI) {s:Nat} (h:dH l (s+1)=dH l s):∀ d,dH l (s+d)=dH l s
 | 0=>rfl
 | d+1=>by show dE l (dH l (s+d)) l.exit.length=_;rw[LG l h d];exact h
theorem ml (l:cI):∀ r,(∃ s,s<r∧dH l (s+1)=dH l s)∨r≤(dH l r).count true
 | 0=>.inr (aTQ _)
 | r+1=>by
  rcases ml l r with ⟨s,u,j⟩ | h
  ·exact .inl ⟨s,by omega,j⟩
  ·by_cases e:dH l (r+1)=dH l r
   ·exact .inl ⟨r,by omega,e⟩
   ·have:=Lg (DY l (dH l r) l.exit.length) (fun h=>e h.symm);exact .inr (by show r+1≤(dE l (dH l r) l.exit.length).count true; omega)
theorem aCS (l:cI):pO l=(dH l l.exit.length).all id:=by
 unfold pO;rcases ml l l.exit.length with ⟨s,F,u⟩ | h
 ·obtain⟨d,B⟩:∃ d,l.exit.length=s+d:=⟨l.exit.length-s,by omega⟩;rw[show l.exit.length+1=s+(d+1) by omega,B,LG l u,LG l u]
 ·have w:(dH l l.exit.length).all id=true:=ij (by rw[rC]; exact h);have A:Marks (dH l l.exit.length) (dH l (l.exit.length+1)):=DY l (dH l l.exit.length) l.exit.length;rw[w,aUH];intro x E;obtain⟨j,y,rfl⟩:=aVD E;have e:j<(dH l l.exit.length).length:=by rw[A.1]; exact y
  have:=A.2 j (by rw[aTP e];have:=aUH.1 w _ (aTN e);simpa using this);rw[aTP y] at this;simpa using this
def zsS (s:Bool):Spec:=fun name vs=>match name,vs with
 | 47,_=>some ([],fun _=>aI (.agg (mkT 1 1).cells))
 | 53,_=>some ([],fun _=>aI (.bool s))
 | _,_=>none
theorem avO (l:cI):kY l=(within l.start.length 1 4&&((decide ((l.start.length:Int)=l.start.length)&&l.start.all dB)&&((decide ((l.exit.length:Int)=l.start.length)&&l.exit.all dB)&&(decide (l.aRZ.length=l.start.length)&&((aTI l.aRZ.length).all (sM l)&&(wC l&&pO l)))))):=by
 rw[Yf,decide_eq_true (rfl:(l.start.length:Int)=l.start.length),aTY];have:decide (l.exit.length=l.start.length)=decide ((l.exit.length:Int)=l.start.length):=decide_eq_decide.2 Om;rw[this];cases within l.start.length 1 4<;>cases decide ((l.exit.length:Int)=l.start.length)<;>cases decide (l.aRZ.length=l.start.length)<;>cases l.start.all dB<;>cases l.exit.all dB<;>simp[aWU]
theorem Po (l:cI) {i:Nat} (h:i<l.aRZ.length):sM l i=((decide (((l.aRZ[i]).length:Int)=l.start.length)&&(l.aRZ[i]).all dB)&&!((l.aRZ[i]).map bJ).getD i false):=by
 unfold sM;have:l.aRZ.getD i []=l.aRZ[i]:=by simp[aTR,h]
 rw[this];have:decide ((l.aRZ[i]).length=l.start.length)=decide (((l.aRZ[i]).length:Int)=l.start.length):=decide_eq_decide.2 Om;rw[this]
theorem aHT {C:Ctx} (L:qM C) (l:cI) (R:l.Ok):TT.wp C (aR aAZ.res (aI (.bool (kY l)))) (PF.args [.agg l.cells]) .nil:=by
 have u:=avO l;have fail:∀ (F:PF) (H:PH),kY l=false→F 2=some (.bool false)→aR [.tmp 2] (aI (.bool (kY l))) .ret F H:=fun F H e h=>by rw[e];exact aV (vs:=[.bool false]) (.inr rfl) .nil (by simp only[go_sem,h]) a_ ⟨rfl,rfl⟩
 have e1:=L.smalls l.start R.start l.start.length;have e2:=L.smalls l.exit R.exit l.start.length;simp only[go_sem,TT,aeX,aeY,aAZ,aTJ,aeZ];by_cases c1:(l.start.length:Int)<1
 ·simp only[go_sem,c1,AH];exact fail _ _ (by rw[u,show within l.start.length 1 4=false from by unfold within; rw[decide_eq_false Om,aTS],aTS]) rfl
 by_cases c2:(l.start.length:Int)>4
 ·simp only[go_sem,c1,c2,AH];exact fail _ _ (by rw[u,show within l.start.length 1 4=false from by unfold within; rw[decide_eq_false (Om:¬ (l.start.length:Int)≤4),aUU],aTS]) rfl
 rw[show within l.start.length 1 4=true from by unfold within; rw[decide_eq_true (Om:(1:Int)≤(l.start.length:Nat)),decide_eq_true (Om:(l.start.length:Int)≤4)]; rfl,aTY] at u;simp only[go_sem,c1,c2];refine aA e1 rfl ?_;cases k1:(decide ((l.start.length:Int)=l.start.length)&&l.start.all dB) with
 | false =>rw[k1,aTS] at u;simp only[go_sem,aTZ,AH];exact fail _ _ u rfl
 | true =>
 rw[k1,aTY] at u;simp only[go_sem,aTV];refine aA e2 rfl ?_;cases k2:(decide ((l.exit.length:Int)=l.start.length)&&l.exit.all dB) with
 | false =>rw[k2,aTS] at u;simp only[go_sem,aTZ,AH];exact fail _ _ u rfl
 | true =>
 rw[k2,aTY] at u;rw[aUC,decide_eq_true_eq] at k2;have E:l.exit.length=l.start.length:=Om;have O:=aUH.1 k2.2;by_cases c3:l.aRZ.length=l.start.length
 case neg =>rw[decide_eq_false c3,aTS] at u;simp only[go_sem,aTV,aTJ,dK (Om:(l.aRZ.length:Int)≠(l.start.length:Nat)),AH];exact fail _ _ u rfl
 rw[decide_eq_true c3,aTY] at u;simp only[go_sem,aTV,aTJ,bV (Om:(l.aRZ.length:Int)=(l.start.length:Nat)),afA];refine wp_loop (α:=Nat) (fun i=>(((PF.nil.set 1 (.bN l.cells)).set 3 (.int .i64 (l.start.length:Nat))).set 4 (.int .i64 i))) (fun _=>.nil) (fun i=>i≤l.start.length∧∀ j,j<i→sM l j=true) (fun i=>l.start.length-i) 0 ⟨aTQ _,fun j h=>by omega⟩ Lq a_ ?_;rintro i ⟨hi,y⟩;simp only[go_sem,aeW,afB];by_cases hlt:i<l.start.length
 ·have A:(i:Int)<(l.start.length:Nat):=Om;have B:i<l.aRZ.length:=Om;have J:(l.aRZ.map fun r=>[frs r])[i]?=some [frs l.aRZ[i]]:=by simp[B]
  have Y:=R.row _ (aTN B);have e3:=L.smalls l.aRZ[i] Y l.start.length;have w:=Po l B;have S:sM l i=false→kY l=false:=fun h=>by rw[u,show (aTI l.aRZ.length).all (sM l)=false from List.all_eq_false.2 ⟨i,aUD.2 B,by simp[h]⟩,aTS]
  simp only[go_sem,A,afC,J];refine aA e3 rfl ?_;cases k3:(decide (((l.aRZ[i]).length:Int)=l.start.length)&&(l.aRZ[i]).all dB) with
  | false =>rw[k3,aTS] at w;simp only[go_sem,aTZ,vu];exact fail _ _ (S w) rfl
  | true =>
   rw[k3,aTY] at w;rw[aUC,decide_eq_true_eq] at k3;have κ:(l.aRZ[i]).length=l.start.length:=Om;have K:i<(l.aRZ[i]).length:=Om;have hm:=aTN K;have hs:=L.sign _ (Y.all _ hm) (qS (aUH.1 k3.2 _ hm));have hz:=LW (l.aRZ[i])[i];have hg:((l.aRZ[i]).map bJ).getD i false=bJ (l.aRZ[i])[i]:=by simp[aTR,K]
   rw[hg] at w;have I:(rZ (l.aRZ[i])[i] != 0)=bJ (l.aRZ[i])[i]:=by rw[bne,hz,Bool.not_not]
   simp only[go_sem,aTV,J,ja K];refine aA hs rfl ?_;cases k4:bJ (l.aRZ[i])[i] with
   | true =>rw[k4] at w I;simp only[go_sem,I,vu];exact fail _ _ (S w) rfl
   | false =>
    rw[k4] at w I;simp only[go_sem,I,afD,wZz i];exact aH (i+1) ⟨hlt,fun j hj=>by
     by_cases e:j=i
     ·rw[e]; exact w
     ·exact y j Om⟩ Om Lq b_
 ·have A:¬ (i:Int)<(l.start.length:Nat):=Om;have:i=l.start.length:=Om;subst this;have M:(aTI l.aRZ.length).all (sM l)=true:=aUH.2 fun j hj=>y j (by rw[← c3]; exact aUD.1 hj);rw[M,aTY] at u;have β:∀ r∈l.aRZ,r.length=l.start.length∧∀ x∈r,dB x=true:=fun r X=>by obtain⟨j,hj,rfl⟩:=aVD X;have h:=y j Om;rw[Po l hj,aUC,aUC,decide_eq_true_eq] at h;exact⟨by omega,aUH.1 h.1.2⟩
  have W:El l:=⟨O,fun r X=>(β r X).2⟩;have V:BZ l:=⟨by omega,by omega,fun r X=>by rw[(β r X).1,E]⟩;have γ:=L.sum l.start R.start.all R.start.fits;simp only[go_sem,A,Te];refine aA γ rfl ?_;cases U:oM (l.start.map RF.v) with
  | error e =>
   have ζ:=Qg U;have:wC l=false:=by unfold wC; rw[U]
   rw[this,aTS] at u;simp only[go_sem,frV];refine aO fun o ho=>?_;simp only[go_sem];refine bC .nil cX a_ ?_;simp only[go_sem,fx,dK ζ,fy];exact fail _ _ u rfl
  | ok r =>
   have Z:=acB U;have θ:=my U;obtain⟨n,a,b⟩:=r;have h1:dN 1:=by unfold dN; omega
   have N:=L.same (FV.rf (n,a,b)) (mkT 1 1) Z (GW 1 h1).1 (by unfold RF.valid FV.rf; simp only[aS]; exact θ) (GW 1 h1).2;have hP:wC l=(qF (FV.rf (n,a,b)) (mkT 1 1)==0):=by unfold wC;rw[U,GX];unfold qF FV.rf;simp only[aS,show (1:Int).natAbs=1 from rfl,show decide ((1:Int)<0)=false from rfl];by_cases h:qE n a b false 1 1=0<;>simp[h]
   simp only[go_sem,frV];refine aO fun o ho=>?_;have hH:aM (PH.nil.set o (.rows 3 [(FV.rf (n,a,b)).cells])) [(o,.rows 3 [(FV.rf (n,a,b)).cells])] []:=aM.nil.new (H:=PH.nil) rfl _;simp only[go_sem];refine bC (PH.nil.set o (.rows 3 [(FV.rf (n,a,b)).cells])) (zsS (qF (FV.rf (n,a,b)) (mkT 1 1)==0)) b_ ?_;simp only[go_sem,fx,bV (show (0:Int)=0 from rfl)];refine bX rfl (L.int 1 h1) rfl b_ ?_;simp only[go_sem];refine bX rfl N rfl b_ ?_;rw[← hP];cases hp:wC l with
   | false =>rw[hp,aTS] at u;simp only[go_sem,aTZ,fy];exact fail _ _ u rfl
   | true =>
    rw[hp,aTY,aCS] at u;have δ:(l.start.length:Int)*((1:Nat):Int)≤140737488355328:=Om;have ε:(l.start.length:Int)≤9223372036854775807:=Om;simp only[go_sem,aTV,Tf,δ,ε];refine aO fun q hq=>?_;simp only[go_sem,Tg];have ι:aTK l.start.length [PV.bool false]=bK (dH l 0):=by rw[← E];simp[dH,bK]
    rw[← E];refine aAX L l R V W q _ _ _ Lq ?_ ?_
    ·refine e_ a_ ?_;rw[cL,E,ι]
    simp only[go_sem,Tn];have η:(dH l l.exit.length).length≤4:=by rw[rC]; omega
    refine aKI (dH l l.exit.length) η q (kY l) u _ rfl _ _ ?_ b_;rw[rC];exact Lq
structure sU (C:Ctx):Prop extends qM C where
 law:∀ l:cI,l.Ok→aG C 68 [.agg l.cells] .nil (aI (.bool (kY l)))
def okL (base ns:List (List UInt8)) (P:Nat→Bool) (i:Nat):Bool:=jZ (base++ns.take i) (ns.getD i [])&&P i
theorem sD {p:Nat→Bool} (k:Nat) (b:Bool):(b&&(aTI (k+1)).all p)=((b&&(aTI k).all p)&&p k):=by
 rw[aWA,List.all_append];cases (aTI k).all p<;>cases b<;>simp
theorem sC {p:Nat→Bool} {b:Bool} {i n:Nat} (hi:i≤n) (h:(b&&(aTI i).all p)=false):(b&&(aTI n).all p)=false:=by
 cases b with
 | false=>rfl
 | true =>rw[aTY] at h ⊢;obtain⟨x,j,e⟩:=List.all_eq_false.1 h;exact List.all_eq_false.2 ⟨x,aUD.2 (by have:=aUD.1 j; omega),e⟩
structure jD (H:PH) (w:PV) (base ns:List (List UInt8)) (c:Bool) (i:Nat):Prop where
 ex:∃ names,aM H [] [(w,1,nF names)]∧(c=true→names=base++ns.take i)
section
variable {C:Ctx} {F:PF} {H:PH} {d:Option Nat} {K:PF→PH→Prop}
theorem jD.call (L:qM C) {w:PV} {base ns:List (List UInt8)} {i:Nat} {B:List BX} {e:List (List UInt8)} (h:aM H B [(w,1,nF e)]) (M:base.length≤1000) (hi:i≤1000) (y:e=base++ns.take i) (l:i<ns.length) {a b:Nat} (j:aN.evs F [.tmp a,.tmp b]=some [w,.str ns[i]])
  (E:∀ u H',aM H' B [(u,1,nF (e++[ns[i]]))]→jD H' u base ns true (i+1)→K (F.put d (.tup [u,.bool (jZ (base++ns.take i) (ns.getD i []))])) H'):hC C 70 [.tmp a,.tmp b] [] d K F H:=by
 refine FX (B1:=[]) (B2:=B) (L1:=[(w,1,nF e)]) (L2:=[]) (Q:=gi e ns[i]) h (fun I J=>L.fresh e (by rw[y,aTM,aUA]; omega) ns[i] w I J) j ?_;rintro r B' L' H' ⟨u,rfl,rfl,rfl⟩ A;have x:ns.getD i []=ns[i]:=by simp[aTR,l]
 rw[x,← y] at E;refine E u H' A ⟨e++[ns[i]],A.sub (List.nil_sublist _) (aVO.refl _),fun _=>?_⟩;rw[aVS l,← aUP,y]
end
theorem jD.vk {H:PH} {w:PV} {base ns:List (List UInt8)} {c:Bool} {i:Nat} (h:jD H w base ns true i):jD H w base ns c i:=by
 obtain⟨e,j,l⟩:=h.ex;exact⟨e,j,fun _=>l rfl⟩
def JH (f:aD):Bool:=(aTI f.aSC.length).all (okL [] (f.aSC.map cI.name) fun i=>(f.aSC.map kY).getD i false)
theorem aHY {C:Ctx} (L:sU C) (f:aD) (Z:f.Ok) (hs:f.aSC.length≤4) (K:cE) [Up K] (F:PF) (H:PH)
  (X:(((((((((PF.nil.set 1 (.bN f.cells)).set 3 (.aB)).set 4 (.aB)).set 5 (.aB)).set 6 (.aB)).set 7 (.aB)).set 8 (.bool true)).set 9 (.int .i64 0)):PF).le F)
  (O:∀ H',K (.exit 0) (((((((PF.nil.set 1 (.bN f.cells)).set 4 (.aB)).set 5 (.aB)).set 6 (.aB)).set 7 (.aB)).set 8 (.bool (JH f)))) H'):aC.wp C (.loop NM) K F H:=by
 obtain⟨ok,E⟩:∃ ok,okL [] (f.aSC.map cI.name) (fun i=>(f.aSC.map kY).getD i false)=ok:=⟨_,rfl⟩;unfold JH at O;rw[E] at O;refine wp_loop (α:=Nat × PV × PH) (fun s=>((((((((PF.nil.set 1 (.bN f.cells)).set 3 (s.2.1)).set 4 (.aB)).set 5 (.aB)).set 6 (.aB)).set 7 (.aB)).set 8 (.bool (true&&(aTI s.1).all ok))).set 9 (.int .i64 s.1))) (fun s=>s.2.2) (fun s=>s.1≤f.aSC.length∧jD s.2.2 s.2.1 [] (f.aSC.map cI.name) (true&&(aTI s.1).all ok) s.1) (fun s=>f.aSC.length-s.1)
  (0,.aB,H) ⟨aTQ _,⟨[],aM.nil.kS 1,fun _=>rfl⟩⟩ X b_ ?_
 rintro⟨i,w,U⟩ ⟨hi,V⟩;simp only at hi V ⊢;have fin:∀ (b:Bool) (x:PV) (J:PF) (H':PH),i<f.aSC.length→(true&&(aTI (i+1)).all ok)=b→jD H' x [] (f.aSC.map cI.name) true (i+1) →
   (((((((((PF.nil.set 1 (.bN f.cells)).set 3 (x)).set 4 (.aB)).set 5 (.aB)).set 6 (.aB)).set 7 (.aB)).set 8 (.bool b)).set 9 (.int .i64 (i+1:Nat))):PF).le J →
   fN (fun s:Nat × PV × PH=>((((((((PF.nil.set 1 (.bN f.cells)).set 3 (s.2.1)).set 4 (.aB)).set 5 (.aB)).set 6 (.aB)).set 7 (.aB)).set 8 (.bool (true&&(aTI s.1).all ok))).set 9 (.int .i64 s.1))) (fun s=>s.2.2) (fun s=>s.1≤f.aSC.length∧jD s.2.2 s.2.1 [] (f.aSC.map cI.name) (true&&(aTI s.1).all ok) s.1) (fun s=>f.aSC.length-s.1) (f.aSC.length-i) K .normal J H' :=
  fun b x J H' hlt hb N M=>aH (i+1,x,H') ⟨hlt,N.vk⟩ (by simp only; omega) (by simp only; rw[hb]; exact M) b_
 have j:=sD (p:=ok) i true;have u:(true&&(aTI i).all ok)=(true&&(aTI f.aSC.length).all ok)→K (.exit 0) (((((((PF.nil.set 1 (.bN f.cells)).set 4 (.aB)).set 5 (.aB)).set 6 (.aB)).set 7 (.aB)).set 8 (.bool (true&&(aTI i).all ok)))) U:=fun e=>by rw[e,aTY]; exact O U
 have A:=fun h=>sC (p:=ok) (b:=true) hi h;generalize Y:(true&&(aTI i).all ok)=c at *
 simp only[go_sem,NM,Dh,aTJ];by_cases hlt:i<f.aSC.length
 ·have l:(i:Int)<(f.aSC.length:Nat):=Om;cases c with
  | false =>simp only[go_sem,l];exact Up.up Lq (u (A rfl).symm)
  | true =>
   obtain⟨S,g1,g3⟩:=V.ex;have B:(f.aSC.map cI.cells)[i]?=some (f.aSC[i]).cells:=by simp[hlt]
   have R:i<(f.aSC.map cI.name).length:=by rw[aTJ]; exact hlt
   have I:ok i=(jZ ([]++(f.aSC.map cI.name).take i) ((f.aSC.map cI.name).getD i [])&&kY f.aSC[i]):=by rw[← E];unfold okL;simp[aTR,hlt]
   have hl:=L.law _ (Z.law _ (aTN hlt));rw[I] at j;simp only[go_sem,l,Di,B];refine jD.call L.toqM (ns:=f.aSC.map cI.name) g1 (aTQ _) Om (g3 rfl) R (by simp only[go_sem,aVQ]) fun x H1 h1 y=>?_;generalize jZ ([]++(f.aSC.map cI.name).take i) ((f.aSC.map cI.name).getD i [])=W at *
   cases W with
   | false =>simp only[go_sem,TV,TW,wZz i];exact fin false x _ _ hlt (j.trans rfl) y Lq
   | true =>simp only[go_sem,TV,B];refine aA hl rfl ?_;simp only[go_sem,TW,wZz i];exact fin _ x _ _ hlt (j.trans rfl) y Lq
 ·have l:¬ (i:Int)<(f.aSC.length:Nat):=Om;have:i=f.aSC.length:=Om;subst this;simp only[go_sem,l];exact Up.up Lq (u Y.symm)
theorem SL {a b c d e f:Nat} (h:qJ a b c d e f=true):a≤4∧b≤4∧c≤40∧d≤24∧e≤4∧f≤12:=by
 simp only[qJ,aUC,decide_eq_true_eq] at h;omega
theorem pn {n:Nat} (h:n≤1000):IntKind.i64.wrap ((n:Int)-1)=(n:Int)-1:=wrap_i64 Om Om
def inS:Spec:=fun name vs=>match name,vs with
 | 76,[.int _ n,.int _ lo,.int _ hi]=>some ([],fun _=>aI (.bool (within n lo hi)))
 | _,_=>none
def ti (aSC:Nat) (m:cZ):Bool:=within m.aSL 1 16&&(within m.port 1 64&&within m.law 0 ((aSC:Int)-1))
def So (pols:Nat) (v:fE):Bool:=within v.aSH 0 ((pols:Int)-1)
def AB (f:aD):Bool:=(aTI f.aRV.length).all (okL [] (f.aRV.map cZ.name) fun i=>(f.aRV.map (ti f.aSC.length)).getD i false)
theorem asU {C:Ctx} (L:sU C) (f:aD) (hf:f.Ok) (hz:qJ f.aSC.length f.aRV.length f.aRX.length f.aRU.length f.aRY.length f.aRW.length=true) (b:Bool) (K:cE) [Up K] (F:PF) (H:PH)
  (hF:((((((((PF.nil.set 1 (.bN f.cells)).set 4 (.aB)).set 5 (.aB)).set 6 (.aB)).set 7 (.aB)).set 8 (.bool b)).set 10 (.int .i64 0)):PF).le F)
  (S:∀ H',K (.exit 2) ((((((PF.nil.set 1 (.bN f.cells)).set 5 (.aB)).set 6 (.aB)).set 7 (.aB)).set 8 (.bool (b&&AB f)))) H'):aC.wp C (.loop NN) K F H:=by
 obtain⟨β,γ,δ,ε,ζ,η⟩:=SL hz;obtain⟨ok,E⟩:∃ ok,okL [] (f.aRV.map cZ.name) (fun i=>(f.aRV.map (ti f.aSC.length)).getD i false)=ok:=⟨_,rfl⟩;unfold AB at S;rw[E] at S;refine wp_loop (α:=Nat × PV × PH) (fun s=>(((((((PF.nil.set 1 (.bN f.cells)).set 4 (s.2.1)).set 5 (.aB)).set 6 (.aB)).set 7 (.aB)).set 8 (.bool (b&&(aTI s.1).all ok))).set 10 (.int .i64 s.1))) (fun s=>s.2.2) (fun s=>s.1≤f.aRV.length∧jD s.2.2 s.2.1 [] (f.aRV.map cZ.name) (b&&(aTI s.1).all ok) s.1) (fun s=>f.aRV.length-s.1)
  (0,.aB,H) ⟨aTQ _,⟨[],aM.nil.kS 1,fun _=>rfl⟩⟩ (by
   have e:(b&&(aTI 0).all ok)=b:=by cases b<;>rfl
   simp only[e];exact hF) b_ ?_
 rintro⟨i,w,M⟩ ⟨hi,Y⟩;simp only at hi Y ⊢;have fin:∀ (c:Bool) (x:PV) (J:PF) (H':PH),i<f.aRV.length→(b&&(aTI (i+1)).all ok)=c→jD H' x [] (f.aRV.map cZ.name) true (i+1) →
   ((((((((PF.nil.set 1 (.bN f.cells)).set 4 (x)).set 5 (.aB)).set 6 (.aB)).set 7 (.aB)).set 8 (.bool c)).set 10 (.int .i64 (i+1:Nat))):PF).le J →
   fN (fun s:Nat × PV × PH=>(((((((PF.nil.set 1 (.bN f.cells)).set 4 (s.2.1)).set 5 (.aB)).set 6 (.aB)).set 7 (.aB)).set 8 (.bool (b&&(aTI s.1).all ok))).set 10 (.int .i64 s.1))) (fun s=>s.2.2) (fun s=>s.1≤f.aRV.length∧jD s.2.2 s.2.1 [] (f.aRV.map cZ.name) (b&&(aTI s.1).all ok) s.1) (fun s=>f.aRV.length-s.1) (f.aRV.length-i) K .normal J H' :=
  fun c x J H' hlt hb R O=>aH (i+1,x,H') ⟨hlt,R.vk⟩ (by simp only; omega) (by simp only; rw[hb]; exact O) b_
 have j:=sD (p:=ok) i b;have y:(b&&(aTI i).all ok)=(b&&(aTI f.aRV.length).all ok)→K (.exit 2) ((((((PF.nil.set 1 (.bN f.cells)).set 5 (.aB)).set 6 (.aB)).set 7 (.aB)).set 8 (.bool (b&&(aTI i).all ok)))) M:=fun e=>by rw[e]; exact S M
 have B:=fun h=>sC (p:=ok) (b:=b) hi h;generalize hc:(b&&(aTI i).all ok)=c at *
 simp only[go_sem,NN,qc,aTJ];by_cases hlt:i<f.aRV.length
 ·have l:(i:Int)<(f.aRV.length:Nat):=Om;cases c with
  | false =>simp only[go_sem,l];exact Up.up Lq (y (B rfl).symm)
  | true =>
   obtain⟨X,g1,g3⟩:=Y.ex;have U:(f.aRV.map cZ.cells)[i]?=some (f.aRV[i]).cells:=by simp[hlt]
   have V:i<(f.aRV.map cZ.name).length:=by rw[aTJ]; exact hlt
   have I:ok i=(jZ ([]++(f.aRV.map cZ.name).take i) ((f.aRV.map cZ.name).getD i [])&&(ti f.aSC.length) f.aRV[i]):=by rw[← E];unfold okL;simp[aTR,hlt]
   rw[I] at j;have A:ti f.aSC.length f.aRV[i]=(within (f.aRV[i]).aSL 1 16&&(within (f.aRV[i]).port 1 64&&within (f.aRV[i]).law 0 ((f.aSC.length:Int)-1))):=rfl;rw[A] at j;simp only[go_sem,l,qd,U];refine aO fun o ho=>?_;have g4:=g1.new ho (.rows 4 [(f.aRV[i]).cells]);have g5:=g4.at 0 rfl;simp only[go_sem];generalize M.set o (.rows 4 [(f.aRV[i]).cells])=H2 at *
   simp only[go_sem,qe,g5];refine jD.call L.toqM (ns:=(f.aRV.map cZ.name)) g4 (aTQ _) Om (g3 rfl) V (by simp only[go_sem,aVQ]) fun x H1 h1 u=>?_;have N:=h1.at 0 rfl;generalize jZ ([]++(f.aRV.map cZ.name).take i) ((f.aRV.map cZ.name).getD i [])=Z at *
   cases Z with
   | false =>simp only[go_sem,NQ,uW,wZz i];exact fin false x _ _ hlt (j.trans rfl) u Lq
   | true =>
    simp only[go_sem,NQ,N];refine aA (L.inn (f.aRV[i]).aSL 1 16) rfl ?_;cases W:within (f.aRV[i]).aSL 1 16 with
    | false =>simp only[go_sem,uW,wZz i];exact fin false x _ _ hlt (by rw[j,W]<;>simp) u Lq
    | true =>
     simp only[go_sem,N];refine aA (L.inn (f.aRV[i]).port 1 64) rfl ?_;cases k1:within (f.aRV[i]).port 1 64 with
     | false =>simp only[go_sem,uW,wZz i];exact fin false x _ _ hlt (by rw[j,W,k1]<;>simp) u Lq
     | true =>simp only[go_sem,N,aTJ,pn (Om:f.aSC.length≤1000)];refine aA (L.inn (f.aRV[i]).law 0 ((f.aSC.length:Int)-1)) rfl ?_;simp only[go_sem,uW,wZz i];exact fin _ x _ _ hlt (by rw[j,W,k1]<;>simp) u Lq
 ·have l:¬ (i:Int)<(f.aRV.length:Nat):=Om;have:i=f.aRV.length:=Om;subst this;simp only[go_sem,l];exact Up.up Lq (y hc.symm)
def Eg (f:aD):Bool:=(aTI f.aRW.length).all (okL [] (f.aRW.map fE.name) fun i=>(f.aRW.map (So f.aRY.length)).getD i false)
theorem aIA {C:Ctx} (L:sU C) (f:aD) (hf:f.Ok) (hz:qJ f.aSC.length f.aRV.length f.aRX.length f.aRU.length f.aRY.length f.aRW.length=true) (b:Bool) (K:cE) [Up K] (F:PF) (H:PH)
  (Y:(((((PF.nil.set 1 (.bN f.cells)).set 7 (.aB)).set 8 (.bool b)).set 21 (.int .i64 0)):PF).le F)
  (R:∀ H',K (.exit 14) (((PF.nil.set 1 (.bN f.cells)).set 8 (.bool (b&&Eg f)))) H'):aC.wp C (.loop zN) K F H:=by
 obtain⟨β,γ,δ,ε,ζ,η⟩:=SL hz;obtain⟨ok,I⟩:∃ ok,okL [] (f.aRW.map fE.name) (fun i=>(f.aRW.map (So f.aRY.length)).getD i false)=ok:=⟨_,rfl⟩;unfold Eg at R;rw[I] at R;refine wp_loop (α:=Nat × PV × PH) (fun s=>((((PF.nil.set 1 (.bN f.cells)).set 7 (s.2.1)).set 8 (.bool (b&&(aTI s.1).all ok))).set 21 (.int .i64 s.1))) (fun s=>s.2.2) (fun s=>s.1≤f.aRW.length∧jD s.2.2 s.2.1 [] (f.aRW.map fE.name) (b&&(aTI s.1).all ok) s.1) (fun s=>f.aRW.length-s.1)
  (0,.aB,H) ⟨aTQ _,⟨[],aM.nil.kS 1,fun _=>rfl⟩⟩ (by
   have e:(b&&(aTI 0).all ok)=b:=by cases b<;>rfl
   simp only[e];exact Y) b_ ?_
 rintro⟨i,w,V⟩ ⟨hi,W⟩;simp only at hi W ⊢;have fin:∀ (c:Bool) (y:PV) (M:PF) (H':PH),i<f.aRW.length→(b&&(aTI (i+1)).all ok)=c→jD H' y [] (f.aRW.map fE.name) true (i+1) →
   (((((PF.nil.set 1 (.bN f.cells)).set 7 (y)).set 8 (.bool c)).set 21 (.int .i64 (i+1:Nat))):PF).le M →
   fN (fun s:Nat × PV × PH=>((((PF.nil.set 1 (.bN f.cells)).set 7 (s.2.1)).set 8 (.bool (b&&(aTI s.1).all ok))).set 21 (.int .i64 s.1))) (fun s=>s.2.2) (fun s=>s.1≤f.aRW.length∧jD s.2.2 s.2.1 [] (f.aRW.map fE.name) (b&&(aTI s.1).all ok) s.1) (fun s=>f.aRW.length-s.1) (f.aRW.length-i) K .normal M H' :=
  fun c y M H' hlt hb O N=>aH (i+1,y,H') ⟨hlt,O.vk⟩ (by simp only; omega) (by simp only; rw[hb]; exact N) b_
 have j:=sD (p:=ok) i b;have u:(b&&(aTI i).all ok)=(b&&(aTI f.aRW.length).all ok)→K (.exit 14) (((PF.nil.set 1 (.bN f.cells)).set 8 (.bool (b&&(aTI i).all ok)))) V:=fun e=>by rw[e]; exact R V
 have B:=fun h=>sC (p:=ok) (b:=b) hi h;generalize Z:(b&&(aTI i).all ok)=c at *
 simp only[go_sem,zN,qy,aTJ];by_cases hlt:i<f.aRW.length
 ·have l:(i:Int)<(f.aRW.length:Nat):=Om;cases c with
  | false =>simp only[go_sem,l];exact Up.up Lq (u (B rfl).symm)
  | true =>
   obtain⟨U,g1,g3⟩:=W.ex;have E:(f.aRW.map fE.cells)[i]?=some (f.aRW[i]).cells:=by simp[hlt]
   have S:i<(f.aRW.map fE.name).length:=by rw[aTJ]; exact hlt
   have J:ok i=(jZ ([]++(f.aRW.map fE.name).take i) ((f.aRW.map fE.name).getD i [])&&(So f.aRY.length) f.aRW[i]):=by rw[← I];unfold okL;simp[aTR,hlt]
   rw[J] at j;have x:So f.aRY.length f.aRW[i]=within (f.aRW[i]).aSH 0 ((f.aRY.length:Int)-1):=rfl;rw[x] at j;simp only[go_sem,l,qz,E];refine jD.call L.toqM (ns:=(f.aRW.map fE.name)) g1 (aTQ _) Om (g3 rfl) S (by simp only[go_sem,aVQ]) fun y H1 h1 A=>?_;generalize jZ ([]++(f.aRW.map fE.name).take i) ((f.aRW.map fE.name).getD i [])=X at *
   cases X with
   | false =>simp only[go_sem];refine bC .nil (inS) a_ ?_;simp only[go_sem,OC,OD,wZz i];exact fin false y _ _ hlt (j.trans rfl) A Lq
   | true =>simp only[go_sem];refine bC .nil (inS) a_ ?_;simp only[go_sem,OC,E,aTJ,pn (Om:f.aRY.length≤1000)];refine bX rfl (L.inn (f.aRW[i]).aSH 0 ((f.aRY.length:Int)-1)) rfl a_ ?_;simp only[go_sem,OD,wZz i];exact fin _ y _ _ hlt (j.trans rfl) A Lq
 ·have l:¬ (i:Int)<(f.aRW.length:Nat):=Om;have:i=f.aRW.length:=Om;subst this;simp only[go_sem,l];exact Up.up Lq (u Z.symm)
def ahY:Spec:=fun name vs=>match name,vs with
 | 76,[.int _ n,.int _ lo,.int _ hi]=>some ([],fun _=>aI (.bool (within n lo hi)))
 | 74,[.agg cs]=>some ([],fun _=>aI (.bool (dB (frD cs))))
 | _,_=>none
theorem ahZ (x:RF):ahY 74 [.agg x.cells]=some ([],fun _=>aI (.bool (dB x))):=by
 show some ([],fun _=>aI (.bool (dB (frD x.cells))))=_;rw[wr]
def Fn (f:aD) (i:Nat) (d:cN):Bool :=
 within d.level 1 4&&(within d.parent 0 i&&(((f.aRX.map cN.level).getD d.parent.toNat 0==IntKind.i64.wrap (d.level-1))&&(within d.aSP 1 64&&dB d.aSK)))
theorem aCO (f:aD) (i:Nat) (d:cN):HX f i d=Fn f i d:=by
 unfold HX Fn;have:decide ((f.aRX.map cN.level).getD d.parent.toNat 0=IntKind.i64.wrap (d.level-1))=((f.aRX.map cN.level).getD d.parent.toNat 0==IntKind.i64.wrap (d.level-1)):=by generalize (f.aRX.map cN.level).getD d.parent.toNat 0=u;by_cases h:u=IntKind.i64.wrap (d.level-1)<;>simp[h]
 rw[this];cases within d.parent 0 i<;>cases within d.level 1 4<;>cases within d.aSP 1 64<;>simp
def iY (f:aD):List (List UInt8):=(f.aRX.drop 1).map cN.name
def yE (f:aD) (i:Nat):Bool:=match f.aRX[i+1]? with
 | some d=>Fn f i d
 | none=>false
def yF (f:aD):Bool:=(aTI (f.aRX.length-1)).all (okL [] (iY f) (yE f))
theorem Fm (f:aD):(iY f).length=f.aRX.length-1:=by simp[iY]
theorem aHX {C:Ctx} (L:sU C) (f:aD) (hf:f.Ok) (ν:f.aRX.length≤40) (h0:0<f.aRX.length) (b:Bool) (K:cE) [Up K] (F:PF) (H:PH)
  (hF:(((((((PF.nil.set 1 (.bN f.cells)).set 5 (.aB)).set 6 (.aB)).set 7 (.aB)).set 8 (.bool b)).set 13 (.int .i64 1)):PF).le F)
  (W:∀ w H',jD H' w [] (iY f) (b&&yF f) (f.aRX.length-1)→K (.exit 4) ((((((PF.nil.set 1 (.bN f.cells)).set 5 (w)).set 6 (.aB)).set 7 (.aB)).set 8 (.bool (b&&yF f)))) H'):aC.wp C (.loop zJ) K F H:=by
 obtain⟨ok,O⟩:∃ ok,okL [] (iY f) (yE f)=ok:=⟨_,rfl⟩;unfold yF at W;rw[O] at W;obtain⟨n,hn⟩:∃ n,f.aRX.length=n+1:=⟨f.aRX.length-1,by omega⟩;have θ:=Fm f;have η:f.aRX.length-1=n:=Om;rw[η] at W θ;refine wp_loop (α:=Nat × PV × PH) (fun s=>((((((PF.nil.set 1 (.bN f.cells)).set 5 (s.2.1)).set 6 (.aB)).set 7 (.aB)).set 8 (.bool (b&&(aTI s.1).all ok))).set 13 (.int .i64 (s.1+1:Nat)))) (fun s=>s.2.2) (fun s=>s.1≤n∧jD s.2.2 s.2.1 [] (iY f) (b&&(aTI s.1).all ok) s.1) (fun s=>n-s.1)
  (0,.aB,H) ⟨aTQ _,⟨[],aM.nil.kS 1,fun _=>rfl⟩⟩ (by
   have e:(b&&(aTI 0).all ok)=b:=by cases b<;>rfl
   simp only[e];exact hF) b_ ?_
 rintro⟨i,w,Z⟩ ⟨hi,hG⟩;simp only at hi hG ⊢;have fin:∀ (c:Bool) (A:PV) (Y:PF) (H':PH),i<n→(b&&(aTI (i+1)).all ok)=c→jD H' A [] (iY f) true (i+1) →
   (((((((PF.nil.set 1 (.bN f.cells)).set 5 (A)).set 6 (.aB)).set 7 (.aB)).set 8 (.bool c)).set 13 (.int .i64 (i+1+1:Nat))):PF).le Y →
   fN (fun s:Nat × PV × PH=>((((((PF.nil.set 1 (.bN f.cells)).set 5 (s.2.1)).set 6 (.aB)).set 7 (.aB)).set 8 (.bool (b&&(aTI s.1).all ok))).set 13 (.int .i64 (s.1+1:Nat)))) (fun s=>s.2.2) (fun s=>s.1≤n∧jD s.2.2 s.2.1 [] (iY f) (b&&(aTI s.1).all ok) s.1) (fun s=>n-s.1) (n-i) K .normal Y H' :=
  fun c A Y H' hlt hb γ β=>aH (i+1,A,H') ⟨hlt,γ.vk⟩ (by simp only; omega) (by simp only; rw[hb]; exact β) b_
 have j:=sD (p:=ok) i b;have M:=fun h=>sC (p:=ok) (b:=b) hi h;have E:(b&&(aTI i).all ok)=(b&&(aTI n).all ok)→((b&&(aTI i).all ok)=true→i=n)→K (.exit 4) ((((((PF.nil.set 1 (.bN f.cells)).set 5 (w)).set 6 (.aB)).set 7 (.aB)).set 8 (.bool (b&&(aTI i).all ok)))) Z:=fun e e2=>by
  obtain⟨y,g1,g3⟩:=hG.ex;have:=W w Z ⟨y,g1,fun h=>by have h':=e.trans h;rw[g3 h',e2 h']⟩
  rwa [← e] at this
 generalize hc:(b&&(aTI i).all ok)=c at *
 simp only[go_sem,zJ,qg,aTJ];by_cases hlt:i<n
 ·have u:((i+1:Nat):Int)<(f.aRX.length:Nat):=Om;cases c with
  | false =>simp only[go_sem,u];exact Up.up Lq (E (M rfl).symm (fun h=>by cases h))
  | true =>
   obtain⟨y,g1,g3⟩:=hG.ex;have I:i+1<f.aRX.length:=Om;have δ:=lW I;have ζ:i<(iY f).length:=Om;have ι:(iY f)[i]=(f.aRX[i+1]).name:=by simp[iY,Nat.add_comm]
   have R:ok i=(jZ ([]++(iY f).take i) ((iY f).getD i [])&&Fn f i f.aRX[i+1]):=by rw[← O];unfold okL yE;rw[aTP I]
   have ε:=hf.dom _ (aTN I);rw[R] at j;unfold Fn at j;have e1:IntKind.i64.wrap (((i+1:Nat):Int)-1)=(i:Nat):=by rw[wrap_i64 Om Om]; omega
   have l:IntKind.i64.wrap (((i+1:Nat):Int)+1)=((i+1+1:Nat):Int):=dM Om;have μ:=L.small _ ε.1;simp only[go_sem,u,qh,δ];refine aO fun o ho=>?_;have g4:=g1.new ho (.rows 7 [(f.aRX[i+1]).cells]);have g5:=g4.at 0 rfl;simp only[go_sem];generalize Z.set o (.rows 7 [(f.aRX[i+1]).cells])=H2 at *
   simp only[go_sem,qi,g5];refine jD.call L.toqM (ns:=iY f) g4 (aTQ _) Om (g3 rfl) ζ (by simp only[go_sem,ι]) fun A H1 h1 x=>?_;have J:=h1.at 0 rfl;generalize jZ ([]++(iY f).take i) ((iY f).getD i [])=fb at *
   generalize hd:f.aRX[i+1]=B at *
   cases fb with
   | false =>simp only[go_sem];refine bC .nil ahY a_ ?_;simp only[go_sem,NT,pA,l];exact fin false A _ _ hlt (j.trans rfl) x Lq
   | true =>
    simp only[go_sem];refine bC .nil ahY a_ ?_;simp only[go_sem,NT,J];refine bX rfl (L.inn B.level 1 4) rfl a_ ?_;cases V:within B.level 1 4 with
    | false =>simp only[go_sem,pA,l];exact fin false A _ _ hlt (by rw[j,V]<;>simp) x Lq
    | true =>
     simp only[go_sem,J,e1];refine bX rfl (L.inn B.parent 0 (i:Nat)) rfl a_ ?_;cases k1:within B.parent 0 (i:Nat) with
     | false =>simp only[go_sem,pA,l];exact fin false A _ _ hlt (by rw[j,V,k1]<;>simp) x Lq
     | true =>
      obtain⟨p0,p1⟩:=within_iff.1 k1;obtain⟨p,hp⟩:∃ p:Nat,B.parent=p:=⟨B.parent.toNat,by omega⟩;have U:p<f.aRX.length:=Om;obtain⟨X,N⟩:∃ X,(f.aRX.map cN.level).getD B.parent.toNat 0=X:=⟨_,rfl⟩;have κ:(f.aRX[p]).level=X:=by rw[← N,hp,aWN,getD_at U]
      rw[N] at j;have S:=lW U;simp only[go_sem,J,hp,S,κ];cases k2:X==IntKind.i64.wrap (B.level-1) with
      | false =>simp only[go_sem,pA,l];exact fin false A _ _ hlt (by rw[j,V,k1,k2]<;>simp) x Lq
      | true =>
       simp only[go_sem,J];refine bX rfl (L.inn B.aSP 1 64) rfl a_ ?_;cases k3:within B.aSP 1 64 with
       | false =>simp only[go_sem,pA,l];exact fin false A _ _ hlt (by rw[j,V,k1,k2,k3]<;>simp) x Lq
       | true =>simp only[go_sem,J];refine bX (ahZ _) μ rfl a_ ?_;simp only[go_sem,pA,l];exact fin _ A _ _ hlt (by rw[j,V,k1,k2,k3]<;>simp) x Lq
 ·have u:¬ ((i+1:Nat):Int)<(f.aRX.length:Nat):=Om;have:i=n:=Om;subst this;simp only[go_sem,u];exact Up.up Lq (E hc.symm (fun _=>rfl))
def Fq (f:aD) (d:dQ):Bool:=within d.model 0 ((f.aRV.length:Int)-1)&&(within d.machine 0 ((f.aRX.length:Int)-1)&&((f.aRX.map cN.level).getD d.machine.toNat 0==4))
def mU (f:aD):List (List UInt8):=f.aRU.map dQ.name
def wJ (f:aD) (i:Nat):Bool:=match f.aRU[i]? with
 | some d=>Fq f d
 | none=>false
def zQ (f:aD):Bool:=(aTI f.aRU.length).all (okL (iY f) (mU f) (wJ f))
theorem asT {C:Ctx} (L:sU C) (f:aD) (hf:f.Ok) (κ:f.aRX.length≤40) (h0:0<f.aRX.length) (μ:f.aRU.length≤24) (ι:f.aRV.length≤4) (b:Bool) (w0:PV) (K:cE) [Up K] (F:PF) (H:PH)
  (β:jD H w0 [] (iY f) b (f.aRX.length-1)) (hF:(((((((PF.nil.set 1 (.bN f.cells)).set 5 (w0)).set 6 (.aB)).set 7 (.aB)).set 8 (.bool b)).set 15 (.int .i64 0)):PF).le F)
  (U:∀ H',K (.exit 6) (((((PF.nil.set 1 (.bN f.cells)).set 6 (.aB)).set 7 (.aB)).set 8 (.bool (b&&zQ f)))) H'):aC.wp C (.loop zK) K F H:=by
 obtain⟨ok,N⟩:∃ ok,okL (iY f) (mU f) (wJ f)=ok:=⟨_,rfl⟩;unfold zQ at U;rw[N] at U;obtain⟨n,hn⟩:∃ n,f.aRU.length=n:=⟨_,rfl⟩;have η:=Fm f;have θ:(mU f).length=n:=by simp[mU,hn]
 rw[hn] at U;refine wp_loop (α:=Nat × PV × PH) (fun s=>((((((PF.nil.set 1 (.bN f.cells)).set 5 (s.2.1)).set 6 (.aB)).set 7 (.aB)).set 8 (.bool (b&&(aTI s.1).all ok))).set 15 (.int .i64 s.1))) (fun s=>s.2.2) (fun s=>s.1≤n∧jD s.2.2 s.2.1 (iY f) (mU f) (b&&(aTI s.1).all ok) s.1) (fun s=>n-s.1)
  (0,w0,H) ⟨aTQ _,by
   obtain⟨x,q1,q2⟩:=β.ex;have e:(b&&(aTI 0).all ok)=b:=by cases b<;>rfl
   refine⟨x,q1,fun h=>?_⟩;simp only[e] at h;rw[q2 h,aWP,aUB Om];simp⟩ (by
   have e:(b&&(aTI 0).all ok)=b:=by cases b<;>rfl
   simp only[e];exact hF) b_ ?_
 rintro⟨i,w,W⟩ ⟨hi,hG⟩;simp only at hi hG ⊢;have fin:∀ (c:Bool) (A:PV) (V:PF) (H':PH),i<n→(b&&(aTI (i+1)).all ok)=c→jD H' A (iY f) (mU f) true (i+1) →
   (((((((PF.nil.set 1 (.bN f.cells)).set 5 (A)).set 6 (.aB)).set 7 (.aB)).set 8 (.bool c)).set 15 (.int .i64 (i+1:Nat))):PF).le V →
   fN (fun s:Nat × PV × PH=>((((((PF.nil.set 1 (.bN f.cells)).set 5 (s.2.1)).set 6 (.aB)).set 7 (.aB)).set 8 (.bool (b&&(aTI s.1).all ok))).set 15 (.int .i64 s.1))) (fun s=>s.2.2) (fun s=>s.1≤n∧jD s.2.2 s.2.1 (iY f) (mU f) (b&&(aTI s.1).all ok) s.1) (fun s=>n-s.1) (n-i) K .normal V H' :=
  fun c A V H' hlt hb Z Y=>aH (i+1,A,H') ⟨hlt,Z.vk⟩ (by simp only; omega) (by simp only; rw[hb]; exact Y) b_
 have j:=sD (p:=ok) i b;have I:=fun h=>sC (p:=ok) (b:=b) hi h;have B:(b&&(aTI i).all ok)=(b&&(aTI n).all ok)→K (.exit 6) (((((PF.nil.set 1 (.bN f.cells)).set 6 (.aB)).set 7 (.aB)).set 8 (.bool (b&&(aTI i).all ok)))) W:=fun e=>by rw[e]; exact U W
 generalize hc:(b&&(aTI i).all ok)=c at *
 simp only[go_sem,zK,qj,aTJ];by_cases hlt:i<n
 ·have l:((i:Nat):Int)<(f.aRU.length:Nat):=Om;cases c with
  | false =>simp only[go_sem,l];exact Up.up Lq (B (I rfl).symm)
  | true =>
   obtain⟨x,g1,g3⟩:=hG.ex;have J:i<f.aRU.length:=Om;have γ:=oO J;have δ:i<(mU f).length:=Om;have ε:(mU f)[i]=(f.aRU[i]).name:=by simp[mU]
   have O:ok i=(jZ (iY f++(mU f).take i) ((mU f).getD i [])&&Fq f f.aRU[i]):=by rw[← N];unfold okL wJ;rw[aTP J]
   rw[O] at j;unfold Fq at j;have u:IntKind.i64.wrap ((i:Int)+1)=((i+1:Nat):Int):=dM Om;have e1:=pn (Om:f.aRV.length≤1000);have e2:=pn (Om:f.aRX.length≤1000);simp only[go_sem,l,qk,γ];refine aO fun o ho=>?_;have g4:=g1.new ho (.rows 3 [(f.aRU[i]).cells]);have g5:=g4.at 0 rfl;simp only[go_sem];generalize W.set o (.rows 3 [(f.aRU[i]).cells])=H2 at *
   simp only[go_sem,ql,g5];refine jD.call L.toqM (base:=iY f) (ns:=mU f) g4 Om Om (g3 rfl) δ (by simp only[go_sem,ε]) fun A H1 h1 y=>?_;have X:=h1.at 0 rfl;generalize jZ (iY f++(mU f).take i) ((mU f).getD i [])=fb at *
   generalize hd:f.aRU[i]=E at *
   cases fb with
   | false =>simp only[go_sem,NV,uX,u];exact fin false A _ _ hlt (j.trans rfl) y Lq
   | true =>
    simp only[go_sem,NV,X,aTJ,e1];refine aA (L.inn E.model 0 ((f.aRV.length:Int)-1)) rfl ?_;cases k0:within E.model 0 ((f.aRV.length:Int)-1) with
    | false =>simp only[go_sem,uX,u];exact fin false A _ _ hlt (by rw[j,k0]<;>simp) y Lq
    | true =>
     simp only[go_sem,X,aTJ,e2];refine aA (L.inn E.machine 0 ((f.aRX.length:Int)-1)) rfl ?_;cases k1:within E.machine 0 ((f.aRX.length:Int)-1) with
     | false =>simp only[go_sem,uX,u];exact fin false A _ _ hlt (by rw[j,k0,k1]<;>simp) y Lq
     | true =>
      obtain⟨p0,p1⟩:=within_iff.1 k1;obtain⟨p,hp⟩:∃ p:Nat,E.machine=p:=⟨E.machine.toNat,by omega⟩;have S:p<f.aRX.length:=Om;obtain⟨lv,M⟩:∃ lv,(f.aRX.map cN.level).getD E.machine.toNat 0=lv:=⟨_,rfl⟩;have ζ:(f.aRX[p]).level=lv:=by rw[← M,hp,aWN,getD_at S]
      rw[M] at j;have R:=lW S;simp only[go_sem,X,hp,R,ζ,uX,u];exact fin _ A _ _ hlt (by rw[j,k0,k1]<;>simp) y Lq
 ·have l:¬ ((i:Nat):Int)<(f.aRU.length:Nat):=Om;have:i=n:=Om;subst this;simp only[go_sem,l];exact Up.up Lq (B hc.symm)
theorem ac {xs:List Int} {k:Nat} (h:k<xs.length):(xs.map fun x=>[PV.int .i64 x])[k]?=some [.int .i64 xs[k]]:=by simp[h]
def zpF (f:aD) (w:PV) (o i:Nat) (c:Bool) (j:Nat):PF:=(((((((PF.nil.set 1 (.bN f.cells)).set 6 (w)).set 7 (.aB)).set 8 (.bool c)).set 17 (.int .i64 i)).set 18 (.ptr o 17 0 0)).set 19 (.int .i64 j))
theorem aBA {C:Ctx} (f:aD) (w:PV) (o i:Nat) (p:dD) (N:p.aRV.length≤9223372036854775807) (j:Nat) (I:j<p.aRV.length) (b:Bool) (K:cE) [Up K] (F:PF) (H:PH) (J:H o=some (.rows 17 [p.cells])) (B:((zpF f w o i b j).set 20 (.int .i64 0)).le F)
  (E:K (.exit 12) (zpF f w o i (b&&(p.aRV.take j).all fun x=>x != p.aRV[j]) j) H):aC.wp C (.loop NP) K F H:=by
 refine wp_loop (α:=Nat) (fun k=>(zpF f w o i (b&&(p.aRV.take k).all fun x=>x != p.aRV[j]) j).set 20 (.int .i64 k)) (fun _=>H) (fun k=>k≤j) (fun k=>j-k) 0 (aTQ _) (by
   have e:(b&&(p.aRV.take 0).all fun x=>x != p.aRV[j])=b:=by cases b<;>rfl
   simp only[e];exact B) b_ ?_
 intro k M;have y:∀ h:k<p.aRV.length,(b&&(p.aRV.take (k+1)).all fun x=>x != p.aRV[j])=((b&&(p.aRV.take k).all fun x=>x != p.aRV[j])&&(p.aRV[k] != p.aRV[j])):=fun h=>by rw[aVS h,List.all_append];simp[aWU]
 have fin:∀ (c:Bool) (A:PF),k<j→(b&&(p.aRV.take (k+1)).all fun x=>x != p.aRV[j])=c→((zpF f w o i c j).set 20 (.int .i64 (k+1:Nat))).le A→fN (fun k:Nat=>(zpF f w o i (b&&(p.aRV.take k).all fun x=>x != p.aRV[j]) j).set 20 (.int .i64 k)) (fun _=>H) (fun k=>k≤j) (fun k=>j-k) (j-k) K .normal A H :=
  fun c A hlt e h=>aH (k+1) hlt Om (by rw[e]; exact h) b_
 unfold zpF at fin;simp only[go_sem,NP,qw,zpF];by_cases hlt:k<j
 ·have l:(k:Int)<(j:Nat):=Om;have u:k<p.aRV.length:=Om;have y:=y u;generalize (b&&(p.aRV.take k).all fun x=>x != p.aRV[j])=c at *
  simp only[go_sem,l];refine bC .nil cX a_ ?_;cases c with
  | false =>simp only[go_sem,NY,NZ,wZz k];exact fin false _ hlt (y.trans rfl) Lq
  | true =>simp only[go_sem,NY,J,ac u,ac I,NZ,wZz k];exact fin _ _ hlt (y.trans rfl) Lq
 ·have l:¬ (k:Int)<(j:Nat):=Om;have:k=j:=Om;subst this;simp only[go_sem,l];exact Up.up (by (repeat' (first|exact c_|refine d_ ?_ ?_))<;>first|(simp only[go_sem,zpF]<;>rfl)|rfl) E
def LD (aRV:Nat) (ms:List Int) (j:Nat):Bool:=within (ms.getD j 0) 0 ((aRV:Int)-1)&&(ms.take j).all fun x=>x != ms.getD j 0
theorem asO {C:Ctx} (L:sU C) (f:aD) (W:f.aRV.length≤4) (w:PV) (o i:Nat) (p:dD) (V:p.aRV.length≤9223372036854775807) (b:Bool) (K:cE) [Up K] (F:PF) (H:PH) (I:H o=some (.rows 17 [p.cells])) (O:(zpF f w o i b 0).le F)
  (M:K (.exit 10) ((((((PF.nil.set 1 (.bN f.cells)).set 6 (w)).set 7 (.aB)).set 8 (.bool (b&&(aTI p.aRV.length).all (LD f.aRV.length p.aRV)))).set 17 (.int .i64 i))) H):aC.wp C (.loop zL) K F H:=by
 obtain⟨ok,B⟩:∃ ok,LD f.aRV.length p.aRV=ok:=⟨_,rfl⟩;rw[B] at M;refine wp_loop (α:=Nat) (fun j=>zpF f w o i (b&&(aTI j).all ok) j) (fun _=>H) (fun j=>j≤p.aRV.length) (fun j=>p.aRV.length-j) 0 (aTQ _) (by
   have e:(b&&(aTI 0).all ok)=b:=by cases b<;>rfl
   simp only[e];exact O) b_ ?_
 intro j U;have u:=sD (p:=ok) j b;have A:=fun h=>sC (p:=ok) (b:=b) U h;have fin:∀ (c:Bool) (E:PF),j<p.aRV.length→(b&&(aTI (j+1)).all ok)=c→(zpF f w o i c (j+1)).le E→fN (fun j:Nat=>zpF f w o i (b&&(aTI j).all ok) j) (fun _=>H) (fun j=>j≤p.aRV.length) (fun j=>p.aRV.length-j) (p.aRV.length-j) K .normal E H :=
  fun c E hlt e h=>aH (j+1) hlt Om (by rw[e]; exact h) b_
 unfold zpF at fin;have y:(b&&(aTI j).all ok)=(b&&(aTI p.aRV.length).all ok)→K (.exit 10) ((((((PF.nil.set 1 (.bN f.cells)).set 6 (w)).set 7 (.aB)).set 8 (.bool (b&&(aTI j).all ok))).set 17 (.int .i64 i))) H:=fun e=>by rw[e]; exact M
 generalize R:(b&&(aTI j).all ok)=c at *
 simp only[go_sem,zL,qq,zpF,I,aTJ];by_cases hlt:j<p.aRV.length
 ·have l:(j:Int)<(p.aRV.length:Nat):=Om;cases c with
  | false =>simp only[go_sem,l];exact Up.up Lq (y (A rfl).symm)
  | true =>
   have N:=pn (Om:f.aRV.length≤1000);have S:p.aRV.getD j 0=p.aRV[j]:=by simp[aTR,hlt]
   have J:ok j=(within p.aRV[j] 0 ((f.aRV.length:Int)-1)&&(p.aRV.take j).all fun x=>x != p.aRV[j]):=by rw[← B];unfold LD;rw[S]
   rw[J] at u;simp only[go_sem,l];refine bC .nil ahY a_ ?_;simp only[go_sem,qt,I,ac hlt,aTJ,N];refine bX rfl (L.inn p.aRV[j] 0 ((f.aRV.length:Int)-1)) Sq a_ ?_;simp only[go_sem,qu];refine aBA f w o i p V j hlt (within p.aRV[j] 0 ((f.aRV.length:Int)-1)) _ _ _ I (by (repeat' (first|exact c_|refine d_ ?_ ?_))<;>first|(simp only[go_sem,zpF]<;>rfl)|rfl) ?_;simp only[go_sem,zpF,qx,wZz j];exact fin _ _ hlt (u.trans rfl) Lq
 ·have l:¬ (j:Int)<(p.aRV.length:Nat):=Om;have:j=p.aRV.length:=Om;subst this;simp only[go_sem,l];exact Up.up Lq (y R.symm)
def Ou (aRV:Nat) (p:dD):Bool:=KW p.k p.m p.aST p.s0 p.s1 p.s2 p.s3 p.s4&&(PI p.m p.repair p.target p.aSF&&(decide (p.aRV.length>0)&&(aTI p.aRV.length).all (LD aRV p.aRV)))
theorem aGD (aRV:Nat) (p:dD):kC aRV p=Ou aRV p:=by
 unfold kC Ou;rw[aFX,aIZ];have e:decide (p.aRV.length≠0)=decide (p.aRV.length>0):=decide_eq_decide.2 Om;have l:(aTI p.aRV.length).all (fun j=>within (p.aRV.getD j 0) 0 ((aRV:Int)-1)&&!(p.aRV.take j).contains (p.aRV.getD j 0))=(aTI p.aRV.length).all (LD aRV p.aRV):=by
  congr 1;funext j;unfold LD;congr 1;generalize p.aRV.getD j 0=x
  induction p.aRV.take j with
  | nil=>rfl
  | cons a t u =>rw[List.contains_cons,List.all_cons,← u,Bool.not_or,bne,BEq.comm]
 rw[e,l];cases KW p.k p.m p.aST p.s0 p.s1 p.s2 p.s3 p.s4<;>cases PI p.m p.repair p.target p.aSF<;>cases decide (p.aRV.length>0)<;>simp
structure ri (C:Ctx):Prop extends sU C where
 dur:∀ (m:Int) (rep:List RF),kR rep→∀ t h:RF,t.Ok→h.Ok→aG C 69 [.int .i64 m,frs rep,.agg t.cells,.agg h.cells] .nil (aI (.bool (PI m rep t h)))
def lZ (f:aD):List (List UInt8):=f.aRY.map dD.name
def LC (f:aD) (i:Nat):Bool:=match f.aRY[i]? with
 | some p=>Ou f.aRV.length p
 | none=>false
def mi (f:aD):Bool:=(aTI f.aRY.length).all (okL [] (lZ f) (LC f))
theorem aHZ {C:Ctx} (L:ri C) (f:aD) (hf:f.Ok) (ζ:f.aRY.length≤4) (γ:f.aRV.length≤4) (b:Bool) (K:cE) [Up K] (F:PF) (H:PH)
  (hF:((((((PF.nil.set 1 (.bN f.cells)).set 6 (.aB)).set 7 (.aB)).set 8 (.bool b)).set 17 (.int .i64 0)):PF).le F)
  (V:∀ H',K (.exit 8) ((((PF.nil.set 1 (.bN f.cells)).set 7 (.aB)).set 8 (.bool (b&&mi f)))) H'):aC.wp C (.loop zM) K F H:=by
 obtain⟨ok,J⟩:∃ ok,okL [] (lZ f) (LC f)=ok:=⟨_,rfl⟩;unfold mi at V;rw[J] at V;have ε:(lZ f).length=f.aRY.length:=by simp[lZ]
 refine wp_loop (α:=Nat × PV × PH) (fun s=>(((((PF.nil.set 1 (.bN f.cells)).set 6 (s.2.1)).set 7 (.aB)).set 8 (.bool (b&&(aTI s.1).all ok))).set 17 (.int .i64 s.1))) (fun s=>s.2.2) (fun s=>s.1≤f.aRY.length∧jD s.2.2 s.2.1 [] (lZ f) (b&&(aTI s.1).all ok) s.1) (fun s=>f.aRY.length-s.1)
  (0,.aB,H) ⟨aTQ _,⟨[],aM.nil.kS 1,fun _=>rfl⟩⟩ (by
   have e:(b&&(aTI 0).all ok)=b:=by cases b<;>rfl
   simp only[e];exact hF) b_ ?_
 rintro⟨i,w,R⟩ ⟨hi,hG⟩;simp only at hi hG ⊢;have fin:∀ (c:Bool) (A:PV) (B:PF) (H':PH),i<f.aRY.length→(b&&(aTI (i+1)).all ok)=c→jD H' A [] (lZ f) true (i+1) →
   ((((((PF.nil.set 1 (.bN f.cells)).set 6 (A)).set 7 (.aB)).set 8 (.bool c)).set 17 (.int .i64 (i+1:Nat))):PF).le B →
   fN (fun s:Nat × PV × PH=>(((((PF.nil.set 1 (.bN f.cells)).set 6 (s.2.1)).set 7 (.aB)).set 8 (.bool (b&&(aTI s.1).all ok))).set 17 (.int .i64 s.1))) (fun s=>s.2.2) (fun s=>s.1≤f.aRY.length∧jD s.2.2 s.2.1 [] (lZ f) (b&&(aTI s.1).all ok) s.1) (fun s=>f.aRY.length-s.1) (f.aRY.length-i) K .normal B H' :=
  fun c A B H' hlt hb S E=>aH (i+1,A,H') ⟨hlt,S.vk⟩ (by simp only; omega) (by simp only; rw[hb]; exact E) b_
 have j:=sD (p:=ok) i b;have I:=fun h=>sC (p:=ok) (b:=b) hi h;have y:(b&&(aTI i).all ok)=(b&&(aTI f.aRY.length).all ok)→K (.exit 8) ((((PF.nil.set 1 (.bN f.cells)).set 7 (.aB)).set 8 (.bool (b&&(aTI i).all ok)))) R:=fun e=>by rw[e]; exact V R
 generalize hc:(b&&(aTI i).all ok)=c at *
 simp only[go_sem,zM,qn,aTJ];by_cases hlt:i<f.aRY.length
 ·have l:(i:Int)<(f.aRY.length:Nat):=Om;cases c with
  | false =>simp only[go_sem,l];exact Up.up Lq (y (I rfl).symm)
  | true =>
   obtain⟨δ,g1,g3⟩:=hG.ex;have W:=pI hlt;have Z:i<(lZ f).length:=Om;have β:(lZ f)[i]=(f.aRY[i]).name:=by simp[lZ]
   have M:ok i=(jZ ([]++(lZ f).take i) ((lZ f).getD i [])&&Ou f.aRV.length f.aRY[i]):=by rw[← J];unfold okL LC;rw[aTP hlt]
   have x:=hf.aSH _ (aTN hlt);rw[M] at j;unfold Ou at j;have N:IntKind.i64.wrap ((i:Int)+1)=((i+1:Nat):Int):=dM Om;simp only[go_sem,l,qo,W];refine aO fun o ho=>?_;have g4:=g1.new ho (.rows 17 [(f.aRY[i]).cells]);have g5:=g4.at 0 rfl;simp only[go_sem];generalize R.set o (.rows 17 [(f.aRY[i]).cells])=H2 at *
   simp only[go_sem,qp,g5];refine jD.call L.toqM (ns:=lZ f) g4 (aTQ _) Om (g3 rfl) Z (by simp only[go_sem,β]) fun A H1 h1 U=>?_;have O:=h1.at 0 rfl;generalize jZ ([]++(lZ f).take i) ((lZ f).getD i [])=fb at *
   generalize hd:f.aRY[i]=p at *
   have u:∀ (c:Bool) (B:PF),(zpF f A o i c 0).le B→(c&&(aTI p.aRV.length).all (LD f.aRV.length p.aRV))=(b&&(aTI (i+1)).all ok) →
     aC.wp C (.loop zL) (fA 10 (fA 9 (jV C (aC.wp C (.region OA)) (fN (fun s:Nat × PV × PH=>(((((PF.nil.set 1 (.bN f.cells)).set 6 (s.2.1)).set 7 (.aB)).set 8 (.bool (b&&(aTI s.1).all ok))).set 17 (.int .i64 s.1))) (fun s=>s.2.2) (fun s=>s.1≤f.aRY.length∧jD s.2.2 s.2.1 [] (lZ f) (b&&(aTI s.1).all ok) s.1) (fun s=>f.aRY.length-s.1) (f.aRY.length-i) K)))) B H1:=by
    intro c B E X;refine asO L.tosU f γ A o i p x.aRV c _ _ _ O E ?_;rw[X];simp only[go_sem,OA,N];exact fin _ A _ _ hlt rfl U Lq
   cases fb with
   | false =>simp only[go_sem,NX,uY];exact u false _ (by (repeat' (first|exact c_|refine d_ ?_ ?_))<;>first|(simp only[go_sem,zpF]<;>rfl)|rfl) (by rw[j]; rfl)
   | true =>
    simp only[go_sem,NX,O];refine aA (L.nums p.k p.m p.aST p.s0 p.s1 p.s2 p.s3 p.s4) Sq ?_;cases k0:KW p.k p.m p.aST p.s0 p.s1 p.s2 p.s3 p.s4 with
    | false =>simp only[go_sem,uY];exact u false _ (by (repeat' (first|exact c_|refine d_ ?_ ?_))<;>first|(simp only[go_sem,zpF]<;>rfl)|rfl) (by rw[j,k0]; rfl)
    | true =>
     simp only[go_sem,O];refine aA (L.dur p.m p.repair x.repair p.target p.aSF x.target x.aSF) Sq ?_;cases k1:PI p.m p.repair p.target p.aSF with
     | false =>simp only[go_sem,uY];exact u false _ (by (repeat' (first|exact c_|refine d_ ?_ ?_))<;>first|(simp only[go_sem,zpF]<;>rfl)|rfl) (by rw[j,k0,k1]; rfl)
     | true =>have Y:decide ((p.aRV.length:Int)>0)=decide (p.aRV.length>0):=decide_eq_decide.2 Om;simp only[go_sem,O,aTJ,Y,uY];exact u _ _ (by (repeat' (first|exact c_|refine d_ ?_ ?_))<;>first|(simp only[go_sem,zpF]<;>rfl)|rfl) (by rw[j,k0,k1]; rfl)
 ·have l:¬ (i:Int)<(f.aRY.length:Nat):=Om;have:i=f.aRY.length:=Om;subst this;simp only[go_sem,l];exact Up.up Lq (y hc.symm)
def rE (r:cN):Bool:=(r.name==[])&&((r.level==0)&&((r.parent==-1)&&((r.aSP==0)&&(dC (val r.aSK.num) (val r.aSK.den)&&(rZ r.aSK==0)))))
def ajT (f:aD):Bool:=match f.aRX with
 | []=>false
 | r::_=>rE r
def ayG (f:aD):Bool:=within f.aTA 1 4&&(qJ f.aSC.length f.aRV.length f.aRX.length f.aRU.length f.aRY.length f.aRW.length&&(decide (0<f.aRX.length)&&((((((JH f&&AB f)&&ajT f)&&yF f)&&zQ f)&&mi f)&&Eg f)))
theorem Va (n:Nat) (p q:Nat→Bool):(aTI n).all (fun i=>p i&&q i)=((aTI n).all p&&(aTI n).all q):=by
 induction n with
 | zero=>rfl
 | succ n e =>simp only[aWA,List.all_append,e,List.all_cons,List.all_nil,aVK];cases (aTI n).all p<;>cases (aTI n).all q<;>cases p n<;>simp
theorem AL {α:Type} (l:List α) (p:α→Bool):(aTI l.length).all (fun i=>(l.map p).getD i false)=l.all p:=by
 refine Bool.eq_iff_iff.2 ?_;rw[aUH,aUH];constructor
 ·intro h x e;obtain⟨i,hi,rfl⟩:=aVD e;have:=h i (aUD.2 hi);simpa [aTR,hi] using this
 ·intro h i hi;have hi:=aUD.1 hi;simp[aTR,hi,h _ (aTN hi)]
theorem HB (ns:List (List UInt8)) (n:Nat) (e:ns.length=n) (P:Nat→Bool):(aTI n).all (okL [] ns P)=(distinct ns&&(aTI n).all P):=by
 subst e;have:okL [] ns P=fun i=>(isName (ns.getD i [])&&!(ns.take i).contains (ns.getD i []))&&P i:=by funext i;rfl
 rw[this,Va];rfl
theorem aGA (base ns:List (List UInt8)) (P Q:Nat→Bool):((aTI base.length).all (okL [] base P)&&(aTI ns.length).all (okL base ns Q))=(distinct (base++ns)&&((aTI base.length).all P&&(aTI ns.length).all Q)):=by
 have e:okL base ns Q=fun i=>(isName (ns.getD i [])&&!(base++ns.take i).contains (ns.getD i []))&&Q i:=by funext i;rfl
 have j:distinct (base++ns)=(distinct base&&(aTI ns.length).all fun i=>isName (ns.getD i [])&&!(base++ns.take i).contains (ns.getD i [])):=by
  unfold distinct;rw[aTM,List.range_add,List.all_append,List.all_map];congr 1
  ·refine Bool.eq_iff_iff.2 ?_;rw[aUH,aUH];refine forall_congr' fun i=>forall_congr' fun hi=>?_;have hi:=aUD.1 hi;have a1:(base++ns).getD i []=base.getD i []:=by simp only[aTR];rw[aVI hi]
   have a2:(base++ns).take i=base.take i:=by rw[List.take_append_of_le_length Om]
   rw[a1,a2]
  ·refine Bool.eq_iff_iff.2 ?_;rw[aUH,aUH];refine forall_congr' fun i=>forall_congr' fun _=>?_;have a1:(base++ns).getD (base.length+i) []=ns.getD i []:=by simp only[aTR];rw[aVG Om];congr 2;omega
   have a2:(base++ns).take (base.length+i)=base++ns.take i:=by rw[List.take_append,aUB Om]; congr 2; omega
   simp only[Function.comp,a1,a2]
 rw[HB base base.length rfl P,e,Va,j];cases distinct base<;>cases (aTI base.length).all P<;>simp
theorem ayJ (r:cN):(decide (r.name=[])&&decide (r.level=0)&&decide (r.parent=-1)&&decide (r.aSP=0)&&dB r.aSK&&!bJ r.aSK)=rE r:=by
 have w:decide (r.name=[])=(r.name==[]):=by cases r.name<;>rfl
 have y:decide (r.level=0)=(r.level==0):=by generalize r.level=x; by_cases h:x=0<;>simp[h]
 have A:decide (r.parent=-1)=(r.parent==-1):=by generalize r.parent=x; by_cases h:x=-1<;>simp[h]
 have B:decide (r.aSP=0)=(r.aSP==0):=by generalize r.aSP=x; by_cases h:x=0<;>simp[h]
 have h5:(dB r.aSK&&!bJ r.aSK)=(dC (val r.aSK.num) (val r.aSK.den)&&(rZ r.aSK==0)):=by
  rw[LW];by_cases h:val r.aSK.num=0
  ·have j:bJ r.aSK=false:=by unfold bJ; simp[h]
   rw[j];simp only[aTZ,aVK];cases e:dC (val r.aSK.num) (val r.aSK.den) with
   | false =>unfold dB pN;rw[e];rfl
   | true =>
    obtain⟨E,-,-⟩:=gJ.1 e;unfold dB pN;rw[e,if_pos rfl,an e,h];unfold nI;have hb:val r.aSK.den/aTL 0 (val r.aSK.den)=1:=by rw[Nat.gcd_zero_left,Nat.div_self (aWD E)]
    have l:cW (0/aTL 0 (val r.aSK.den))=0:=by rw[Nat.zero_div]; exact kJ
    have u:cW 1=1:=by rw[pX (by decide),kJ]
    simp only[hb,l,u];simp
  ·have j:bJ r.aSK=true:=by unfold bJ; simp[h]
   rw[j];simp
 unfold rE;rw[w,y,A,B];simp only[aWU] at h5 ⊢;rw[h5]
theorem atT (f:aD) {r:cN} {t:List cN} (h:f.aRX=r::t):CC f r t=(rE r&&(aTI t.length).all (yE f)):=by
 unfold CC;rw[ayJ];congr 2;funext i;unfold yE;rw[h,List.getElem?_cons_succ];cases t[i]? with
 | none=>rfl
 | some d=>exact aCO f i d
theorem amQ (f:aD):f.aRU.all (jP f)=(aTI f.aRU.length).all (wJ f):=by
 have:wJ f=fun i=>(f.aRU.map (jP f)).getD i false:=by
  funext i;unfold wJ;rw[aTR,aUG];cases f.aRU[i]? with
  | none=>rfl
  | some d =>
   show Fq f d=jP f d;unfold Fq jP;have:decide ((f.aRX.map cN.level).getD d.machine.toNat 0=4)=((f.aRX.map cN.level).getD d.machine.toNat 0==4):=by generalize (f.aRX.map cN.level).getD d.machine.toNat 0=u;by_cases h:u=4<;>simp[h]
   rw[this,aWU]
 rw[this,AL]
theorem apU (f:aD):f.aRY.all (kC f.aRV.length)=(aTI f.aRY.length).all (LC f):=by
 have:LC f=fun i=>(f.aRY.map (kC f.aRV.length)).getD i false:=by
  funext i;unfold LC;rw[aTR,aUG];cases f.aRY[i]? with
  | none=>rfl
  | some d=>exact (aGD _ d).symm
 rw[this,AL]
theorem aGK (f:aD):ayG f=dA f:=by
 have O:ti f.aSC.length=kZ f:=by funext m;unfold ti kZ;rw[aWU]
 have B:So f.aRY.length=oZ f:=rfl;have R:(within f.aTA 1 4&&qJ f.aSC.length f.aRV.length f.aRX.length f.aRU.length f.aRY.length f.aRW.length)=oK f:=by unfold oK qJ;simp only[aWU]
 unfold ayG dA JH AB mi Eg;rw[HB _ _ (by rw[aTJ]),HB _ _ (by rw[aTJ]),HB _ _ (by rw[lZ,aTJ]),HB _ _ (by rw[aTJ]),AL,AL,AL,O,B,apU,amQ,← aWU,R];unfold oT ajT;cases l:f.aRX with
 | nil=>simp
 | cons r t =>
  have j:decide (0<f.aRX.length)=true:=by rw[l]; simp
  rw[l] at j;rw[j,aTY];simp only;rw[atT f l];have A:iY f=(f.aRX.drop 1).map cN.name:=rfl;rw[l] at A;have N:(iY f).length=t.length:=by rw[A]; simp
  have two:=aGA (iY f) (mU f) (yE f) (wJ f);rw[N,show (mU f).length=f.aRU.length by simp[mU]] at two;have K:yF f=(aTI t.length).all (okL [] (iY f) (yE f)):=by unfold yF;rw[l];rfl
  have M:zQ f=(aTI f.aRU.length).all (okL (iY f) (mU f) (wJ f)):=rfl;rw[K,M,← A];rw[show f.aRU.map dQ.name=mU f from rfl,show f.aRY.map dD.name=lZ f from rfl];generalize (aTI t.length).all (okL [] (iY f) (yE f))=a at *
  generalize (aTI f.aRU.length).all (okL (iY f) (mU f) (wJ f))=b at *
  generalize distinct (iY f++mU f)=c at *
  generalize (aTI t.length).all (yE f)=d at *
  generalize (aTI f.aRU.length).all (wJ f)=e at *
  generalize oK f=s;generalize rE r=ro;generalize distinct (f.aSC.map cI.name)=u;generalize f.aSC.all kY=w;generalize distinct (f.aRV.map cZ.name)=x;generalize f.aRV.all (kZ f)=y;generalize distinct (lZ f)=E;generalize (aTI f.aRY.length).all (LC f)=F;generalize distinct (f.aRW.map fE.name)=I;generalize f.aRW.all (oZ f)=J;have:(s&&(((((((u&&w)&&(x&&y))&&ro)&&a)&&b)&&(E&&F))&&(I&&J)))=(s&&(ro&&((u&&w)&&((x&&y)&&((a&&b)&&((E&&F)&&(I&&J))))))):=by cases s<;>cases ro<;>cases u<;>cases w<;>cases x<;>cases y<;>simp[aWU]
  rw[this,two];cases s<;>cases ro<;>cases u<;>cases w<;>cases x<;>cases y<;>cases c<;>cases d<;>cases e<;>simp;cases E<;>cases F<;>cases I<;>cases J<;>rfl
theorem ayI (f:aD) (h:0<f.aRX.length):ajT f=rE f.aRX[0]:=by
 obtain⟨a,b,c,d,e,g,i⟩:=f;cases d with
 | nil=>simp at h
 | cons r t=>rfl
theorem asV {C:Ctx} (L:ri C) (f:aD) (x:f.Ok):GF.wp C (aR T3.res (aI (.bool (dA f)))) (PF.args [.agg f.cells]) .nil:=by
 have u:=aGK f;unfold ayG at u;have fail:∀ (F:PF) (H:PH),dA f=false→F 2=some (.bool false)→aR [.tmp 2] (aI (.bool (dA f))) .ret F H:=fun F H e h=>by rw[e];exact aV (vs:=[.bool false]) (.inr rfl) .nil (by simp only[go_sem,h]) a_ ⟨rfl,rfl⟩
 simp only[go_sem,GF,Dc,Dd,T3];refine aA (L.inn f.aTA 1 4) rfl ?_;cases V:within f.aTA 1 4 with
 | false =>rw[V,aTS] at u;simp only[go_sem,aTZ,DJ];exact fail _ _ u.symm rfl
 | true =>
 rw[V,aTY] at u;simp only[go_sem,aTV,aTJ];refine aA (L.sizes f.aSC.length f.aRV.length f.aRX.length f.aRU.length f.aRY.length f.aRW.length) rfl ?_;cases k1:qJ f.aSC.length f.aRV.length f.aRX.length f.aRU.length f.aRY.length f.aRW.length with
 | false =>rw[k1,aTS] at u;simp only[go_sem,aTZ,DJ];exact fail _ _ u.symm rfl
 | true =>
 rw[k1,aTY] at u;obtain⟨N,B,E,O,R,α⟩:=SL k1;by_cases h0:f.aRX.length=0
 ·rw[decide_eq_false Om,aTS] at u;simp only[go_sem,aTV,aTJ,bP (Om:(f.aRX.length:Int)=0),DJ];exact fail _ _ u.symm rfl
 have l:0<f.aRX.length:=Om;rw[decide_eq_true l,aTY] at u;simp only[go_sem,aTV,aTJ,bE (Om:(f.aRX.length:Int)≠0),De,Df,Dg];refine aHY L.tosU f x N _ _ _ Lq fun H1=>?_;simp only[go_sem,qb];refine asU L.tosU f x k1 (JH f) _ _ _ Lq fun H2=>?_;have K:=lW l;have A:=(x.dom _ (aTN l)).1;have M:=ayI f l;rw[M] at u;generalize f.aRX[0]=r at *
 have j:∀ (c:Bool) (F:PF) (H:PH),((((((PF.nil.set 1 (.bN f.cells)).set 5 (.aB)).set 6 (.aB)).set 7 (.aB)).set 8 (.bool c)):PF).le F→c=((JH f&&AB f)&&rE r) →
   aC.wp C (.seq (.seq (.region NS) (.block 4 (.loop zJ))) (.seq (.seq (.region NU) (.block 6 (.loop zK))) (.seq (.seq (.region NW) (.block 8 (.loop zM))) (.seq (.seq (.region OB) (.block 14 (.loop zN))) (.seq (.region OE) .ret))))) (aR [.tmp 2] (aI (.bool (dA f)))) F H:=by
  intro c F H X Z;refine sA _ (fun _ _ _ _ a b=>Up.up a b) X ?_;simp only[go_sem,NS];refine aHX L.tosU f x E l c _ _ _ Lq fun w W Y=>?_;simp only[go_sem,NU];refine asT L.tosU f x E l O B (c&&yF f) w _ _ _ Y Lq fun H4=>?_;simp only[go_sem,NW];refine aHZ L f x R B ((c&&yF f)&&zQ f) _ _ _ Lq fun H5=>?_;simp only[go_sem,OB];refine aIA L.tosU f x k1 (((c&&yF f)&&zQ f)&&mi f) _ _ _ Lq fun H6=>?_;simp only[go_sem,OE];refine aV (vs:=[.bool (dA f)]) (.inr rfl) .nil ?_ a_ ⟨rfl,rfl⟩;rw[← u,Z];simp only[go_sem]
 simp only[aC.wp,go_sem] at j;simp only[go_sem,qf,K];refine aO fun o ho=>?_;have g0:(H2.set o (.rows 7 [r.cells])) o=some (.rows 7 [r.cells]):=cL ..;simp only[go_sem];generalize H2.set o (.rows 7 [r.cells])=W at *
 cases k2:(JH f&&AB f) with
 | false =>simp only[go_sem,NR];exact j false _ _ Lq (by rw[k2]; rfl)
 | true =>
  simp only[go_sem,NR,g0];cases y:r.name==[] with
  | false =>simp only[go_sem];exact j false _ _ Lq (by rw[k2]; unfold rE; rw[y]; rfl)
  | true =>
   simp only[go_sem,g0];cases I:r.level==0 with
   | false =>simp only[go_sem];exact j false _ _ Lq (by rw[k2]; unfold rE; rw[y,I]; rfl)
   | true =>
    simp only[go_sem,g0];cases J:r.parent==-1 with
    | false =>simp only[go_sem];exact j false _ _ Lq (by rw[k2]; unfold rE; rw[y,I,J]; rfl)
    | true =>
     simp only[go_sem,g0];cases S:r.aSP==0 with
     | false =>simp only[go_sem];exact j false _ _ Lq (by rw[k2]; unfold rE; rw[y,I,J,S]; rfl)
     | true =>
      simp only[go_sem,g0];refine aA (L.valid _ A) rfl ?_;cases U:dC (val r.aSK.num) (val r.aSK.den) with
      | false =>simp only[go_sem];exact j false _ _ Lq (by rw[k2]; unfold rE; rw[y,I,J,S,U]; rfl)
      | true =>simp only[go_sem,g0];refine aA (L.sign _ A U) rfl ?_;simp only[go_sem];exact j _ _ _ Lq (by rw[k2]; unfold rE; rw[y,I,J,S,U]; rfl)
def P7:Rg:=[iA 2 (.box true (Tm 0)),iZ 4]
def P8:Rg:=[iO 8 7 2,iK 9 67 8,iA 10 (.un .not (Tm 9))]
def P9:Rg:=[iZ 4]
def Qa:Rg:=[iZ 5]
def Qb:Rg:=[iI 6 0]
def Qc:Rg:=[iM 11 6,iF 12 4 2,iL 13 12,iN 14 13,iB 15 .lss 11 14]
def Qd:Rd:=[(iF 18 2 2,false),(iL 19 18,false),(iF 20 4 2,false),(iL 21 20,false),(iM 22 6,false),(iX 23 3 21 22,false),(iF 24 1 23,false),(iL 25 24,false),(iX 26 4 19 25,false),(iF 27 1 26,false),(iL 28 27,false),(iM 7 28,false)]
def fa:Rg:=[iM 29 1,iN 30 29,iF 31 4 2,iL 32 31,iN 33 32,iB 34 .eql 30 33]
def Qe:Rg:=[iM 35 1,iM 36 6,iX 37 1 35 36,iL 38 37,iM 39 7,iA 40 (.aSQ false (Tm 38) (Tm 39)),iA 41 (.aSQ true (Ci 0) (Tm 40)),iM 7 41]
def fc:Rg:=[iM 42 5,iM 43 7,iA 44 (.aSA true 1 1 [zI] [(0,(Tm 43))]),iA 45 (.append 1 8 (Tm 42) (Tm 44)),iM 5 45]
def SO:Rg:=[iM 16 6,iC 17 .add 16 1,iM 6 17]
def A8:aC:=(.seq (sq Qc (.cond (Tm 15) .skip (.exit 0))) (.seq (.block 1 (dq Qd (.seq (sq fa (.cond (Tm 34) (.region Qe) .skip)) (.region fc)))) (.region SO)))
def SP:Rg:=[iM 46 5,iM 4 46]
def LX:aC:=(sq P7 (.seq (sq P8 (.cond (Tm 10) (sq P9 .ret) .skip)) (sq Qa (.seq (sq Qb (.block 0 (.loop A8))) (sq SP .ret)))))
def ayX:List Nat:=[2,44]
def akE:aW:=⟨2,47,LX,[.tmp 4]⟩
def A1:Rg:=[iA 3 (.box true (Tm 0)),iI 6 0]
def A2:Rg:=[iF 8 4 3,iL 9 8,iM 10 1,iX 11 3 9 10,iF 12 2 11,iL 13 12,iM 7 13]
def A3:Rg:=[iF 14 3 3,iL 15 14,iM 16 7,iX 17 7 15 16,iF 18 1 17,iL 19 18,iM 20 2,iB 21 .gtr 19 20]
def A4:Rg:=[iF 22 3 3,iL 23 22,iM 24 7,iX 25 7 23 24,iF 26 2 25,iL 27 26,iM 7 27]
def A0:aC:=(.seq (sq A3 (.cond (Tm 21) .skip (.exit 0))) (.block 1 (.region A4)))
def A5:Rg:=[iM 28 7,iM 6 28]
def ET:aC:=(sq A1 (sq A2 (.seq (.block 0 (.loop A0)) (sq A5 .ret))))
def aqN:List Nat:=[3]
def Pv:aW:=⟨3,29,ET,[.tmp 6]⟩
def WT:Rg:=[iA 3 (.box true (Tm 0)),iA 4 (.box true (Tm 1)),iT 6 false]
def WU:Rg:=[iI 7 0]
def WV:Rg:=[iM 8 7,iF 9 9 3,iL 10 9,iN 11 10,iB 12 .lss 8 11]
def EU:Rd:=[(iF 15 9 3,false),(iL 16 15,false),(iM 17 7,false),(iX 18 1 16 17,false),(iL 19 18,false),(iF 20 4 4,false),(iL 21 20,false),(iM 22 2,false),(iX 23 3 21 22,false),(iF 24 1 23,false),(iL 25 24,false),(iB 26 .eql 19 25,false)]
def WW:Rg:=[iT 6 true]
def WX:Rg:=[iM 13 7,iC 14 .add 13 1,iM 7 14]
def WS:aC:=(.seq (sq WV (.cond (Tm 12) .skip (.exit 0))) (.seq (.block 1 (dq EU (.cond (Tm 26) (sq WW .ret) .skip))) (.region WX)))
def WY:Rg:=[iT 6 false]
def xY:aC:=(sq WT (.seq (sq WU (.block 0 (.loop WS))) (sq WY .ret)))
def Us:List Nat:=[3,4]
def d9:aW:=⟨3,27,xY,[.tmp 6]⟩
theorem aqM {C:Ctx} (f:aD) (l:VF f) (d:Nat) (h:d<f.aRU.length) (level:Int) (y:0≤level) (A:level≤4) :
  ET.wp C (aR Pv.res (aI (.int .i64 (jX f d level:Nat)))) (PF.args [.agg f.cells,.int .i64 d,.int .i64 level]) .nil:=by
 simp only[go_sem,ET,A1,A2,Pv,oO h,l.ta h];refine wp_loop (α:=Nat) (fun k=>(((PF.nil.set 2 (.int .i64 level)).set 3 (.bN f.cells)).set 7 (.int .i64 (upN f k (eU f d))))) (fun _=>.nil) (fun k=>k≤4-level.toNat) (fun k=>4-level.toNat-k) 0 (aTQ _) (by (repeat' (first|exact c_|refine d_ ?_ ?_))<;>first|(simp only[go_sem,upN]<;>rfl)|rfl) a_ ?_;intro k B;obtain⟨j,x⟩:=TD l h (k:=k) Om;simp only[go_sem,A0,A3,lW j,K8 j];by_cases hlt:k<4-level.toNat
 ·have u:lvl f (upN f k (eU f d))>level:=by rw[x]; omega
  have w:0<upN f k (eU f d):=by
   rcases aVP (upN f k (eU f d)) with e | e
   ·rw[e,l.root.2.1] at x; omega
   ·exact e
  simp only[go_sem,u,A4,lW j,Ol j,l.uq w j];exact aH (k+1) hlt Om (by (repeat' (first|exact c_|refine d_ ?_ ?_))<;>first|(simp only[go_sem,upN]<;>rfl)|rfl) a_
 ·have u:¬ lvl f (upN f k (eU f d))>level:=by rw[x]; omega
  have:k=4-level.toNat:=Om;subst this;simp only[go_sem,u,A5];refine aQ (.inr rfl) Ev ?_;rfl
structure aIK (C:Ctx):Prop where
 valid:∀ f:aD,f.Ok→aG C 67 [.agg f.cells] .nil (aI (.bool (dA f)))
 rU:∀ (f:aD) (d:Nat) (level:Int),VF f→d<f.aRU.length→0≤level→level≤4→aG C 88 [.agg f.cells,.int .i64 d,.int .i64 level] .nil (aI (.int .i64 (jX f d level:Nat)))
structure amB (C:Ctx):Prop extends aIK C where
 Hb:∀ (f:aD) (v:Nat),VF f→v<f.aRW.length→aG C 82 [.agg f.cells,.int .i64 v] .nil (aI (.int .i64 (mR f v)))
theorem aER {r e:Int} (h:0≤e):max 0 (min r e)=min (max r 0) e:=Om
theorem ajS (f:aD) (room:List Int) {k:Nat} (h:k<f.aRU.length):(kM f room).take (k+1)=(kM f room).take k++[mP f room k]:=by
 have e:k<(kM f room).length:=by rw[oP]; exact h
 rw[aVS e,LL]
theorem ayW {C:Ctx} (L:amB C) (f:aD) (O:f.Ok) (room:List Int) :
  LX.wp C (aR akE.res (cB (ints (CV f room)))) (PF.args [.agg f.cells,ints room]) .nil:=by
 simp only[go_sem,LX,P7,P8,akE];refine aA (L.valid f O) Sq ?_;unfold CV;cases S:dA f with
 | false =>simp only[go_sem,aTZ,P9];exact Pn Ev
 | true =>
  have hV:=VF.of S;have J:=hV.small.aRU;have B:=oP f room;simp only[go_sem,aTV,Qa,Qb];refine wp_loop (α:=Nat × PV × PH) (fun t=>((((PF.nil.set 1 (ints room)).set 2 (.bN f.cells)).set 5 (t.2.1)).set 6 (.int .i64 t.1))) (fun t=>t.2.2) (fun t=>t.1≤f.aRU.length∧cA t.2.2 1 t.2.1 (cQ ((kM f room).take t.1))) (fun t=>f.aRU.length-t.1) (0,.aB,.nil) ⟨aTQ _,.nil⟩ Lq a_ ?_;rintro⟨k,v,M⟩ ⟨R,y⟩;simp only at R y ⊢;simp only[go_sem,A8,Qc,aTJ];by_cases hlt:k<f.aRU.length
  ·have e:(k:Int)<(f.aRU.length:Nat):=Om;obtain⟨K,he⟩:=hV.Ft hlt;have E:=hV.model _ (aTN K);rw[he] at E;have A:(1:Nat)*1≤16777216:=by decide
   have l:=ajS f room hlt;have j:∀ (x:Int) (F:PF),x=mP f room k→((((((PF.nil.set 1 (ints room)).set 2 (.bN f.cells)).set 5 (v)).set 6 (.int .i64 k)).set 7 (.int .i64 x)):PF).le F →
     aC.wp C (.region fc) (fA 1 (jV C (aC.wp C (.region SO)) (fN (fun t:Nat × PV × PH=>((((PF.nil.set 1 (ints room)).set 2 (.bN f.cells)).set 5 (t.2.1)).set 6 (.int .i64 t.1))) (fun t=>t.2.2) (fun t=>t.1≤f.aRU.length∧cA t.2.2 1 t.2.1 (cQ ((kM f room).take t.1))) (fun t=>f.aRU.length-t.1) (f.aRU.length-k) (fA 0 (jV C (aC.wp C (.seq (.region SP) .ret)) (aR [.tmp 4] (cB (ints (kM f room))))))))) F M:=by
    intro x F U N;refine sA _ (fun _ _ _ _ a b=>Up.up a b) N ?_;simp only[go_sem,fc,A];refine jF (src:=[[.int .i64 x]]) y Sq (by unfold roomFor; rw[hY,aUA]; simp only[aTT,maxLen]; omega) fun v' H' u _=>?_;rw[aiB,U,← l] at u;simp only[go_sem,SO,wZz k];exact aH (k+1,v',H') ⟨hlt,u⟩ (by simp only; omega) Lq b_
   simp only[aC.wp,go_sem] at j;simp only[go_sem,e];refine bC .nil cX a_ ?_;simp only[go_sem,Qd,oO hlt,hV.QP hlt,yf K,he];by_cases c:room.length=f.aRU.length
   ·have w:k<room.length:=Om;have I:(room.map fun n=>[PV.int .i64 n])[k]?=some [.int .i64 room[k]]:=by simp[w]
    simp only[go_sem,fa,aTJ,bP (Om:(room.length:Int)=(f.aRU.length:Nat)),Qe,I,max_eq,Y0];refine j _ _ ?_ Lq;rw[mP,if_pos c,aER Om,aTR,aTP w,aWE]
   ·simp only[go_sem,fa,aTJ,bE (Om:(room.length:Int)≠(f.aRU.length:Nat))];refine j _ _ ?_ Lq;rw[mP,if_neg c]
  ·have e:¬ (k:Int)<(f.aRU.length:Nat):=Om;have:k=f.aRU.length:=Om;subst this;rw[← B,aUS] at y;simp only[go_sem,e,SP];exact uw y Sq
theorem Ur {C:Ctx} (f:aD) (hV:VF f) (p:dD) (y:Fits p.aRV) (d:Nat) (w:d<f.aRU.length) :
  xY.wp C (aR d9.res (aI (.bool (p.aRV.contains ((mdl f d:Nat):Int))))) (PF.args [.agg p.cells,.agg f.cells,.int .i64 d]) .nil:=by
 have A:p.aRV.length≤9223372036854775807:=y;simp only[go_sem,xY,WT,WU,d9];refine wp_loop (α:=Nat) (fun k=>((((PF.nil.set 2 (.int .i64 d)).set 3 (.bN p.cells)).set 4 (.bN f.cells)).set 7 (.int .i64 k))) (fun _=>.nil) (fun k=>k≤p.aRV.length∧p.aRV.contains ((mdl f d:Nat):Int)=(p.aRV.drop k).contains ((mdl f d:Nat):Int)) (fun k=>p.aRV.length-k) 0 ⟨aTQ _,rfl⟩ Lq a_ ?_;rintro k ⟨B,l⟩;simp only[go_sem,WS,WV,aTJ];by_cases hlt:k<p.aRV.length
 ·have j:(k:Int)<(p.aRV.length:Nat):=Om;have u:(p.aRV.map fun x=>[PV.int .i64 x])[k]?=some [.int .i64 p.aRV[k]]:=by simp[hlt]
  rw[aVV hlt,List.contains_cons] at l;have e:(p.aRV[k]==((mdl f d:Nat):Int))=(((mdl f d:Nat):Int)==p.aRV[k]):=BEq.comm;simp only[go_sem,j];refine bC .nil cX a_ ?_;cases c:((mdl f d:Nat):Int)==p.aRV[k] with
  | true =>rw[c] at e;rw[c,Bool.true_or] at l;simp only[go_sem,EU,u,oO w,hV.QP w,e,WW];refine aQ (.inr rfl) Ev ?_;rw[bQ,l]
  | false =>rw[c] at e;rw[c,Bool.false_or] at l;simp only[go_sem,EU,u,oO w,hV.QP w,e,WX,wZz k];exact aH (k+1) ⟨hlt,l⟩ Om Lq b_
 ·have j:¬ (k:Int)<(p.aRV.length:Nat):=Om;have:k=p.aRV.length:=Om;subst this;rw[List.drop_length] at l;simp only[go_sem,j,WY];refine aQ (.inr rfl) Ev ?_;rw[bQ,l];rfl







structure bF where
 src:Nat
 dst:Nat
 cap:Nat
abbrev bF.cells (a:bF):List PV:=[.int .i64 a.src,.int .i64 a.dst,.int .i64 a.cap,.int .i64 0]
abbrev rk (l:List bF):PV:=.sl 4 (l.map bF.cells)
structure cJ where
 nodes:Nat
 source:Nat
 sink:Nat
 arcs:List bF
abbrev cJ.cells (n:cJ):List PV:=[.int .i64 n.nodes,.int .i64 n.source,.int .i64 n.sink,rk n.arcs]
structure fU (n:cJ):Prop where
 two:2≤n.nodes
 few:n.nodes≤700
 num:n.arcs.length≤2500
 source:n.source<n.nodes
 sink:n.sink<n.nodes
 apart:n.source≠n.sink
 ends:∀ a∈n.arcs,a.src<n.nodes∧a.dst<n.nodes∧a.cap≤2147483647
def gI:List bF→List Nat→Nat→Int
 | a::l,x::xs,v=>(if a.src=v then (x:Int) else 0)-(if a.dst=v then (x:Int) else 0)+gI l xs v
 | _,_,_=>0
def uJ (S:Nat→Bool):List bF→List Nat→Int
 | a::l,x::xs=>(if S a.src=true∧S a.dst=false then (x:Int) else 0)-(if S a.src=false∧S a.dst=true then (x:Int) else 0)+uJ S l xs
 | _,_=>0
def oN (S:Nat→Bool) (g:Nat→Int):Nat→Int
 | 0=>0
 | n+1=>oN S g n+if S n=true then g n else 0
theorem fh (S:Nat→Bool) (g h:Nat→Int):∀ n,oN S (fun v=>g v+h v) n=oN S g n+oN S h n
 | 0=>rfl
 | n+1=>by rw[oN,oN,oN,fh S g h n];split<;>omega
theorem zC {S:Nat→Bool} {g h:Nat→Int}:∀ {n:Nat},(∀ v,v<n→S v=true→g v=h v)→oN S g n=oN S h n
 | 0,_=>rfl
 | n+1,e=>by
  rw[oN,oN,zC (n:=n) fun v j=>e v Om];split
  ·rename_i c; rw[e n Om c]
  ·rfl
theorem DB (S:Nat→Bool):∀ n,oN S (fun _=>0) n=0
 | 0=>rfl
 | n+1=>by rw[oN,DB S n]; split<;>rfl
theorem MA (S:Nat→Bool) (a:Nat) (x:Int):∀ {n:Nat},a<n→oN S (fun v=>if a=v then x else 0) n=if S a=true then x else 0
 | 0,h=>by omega
 | n+1,h=>by
  rw[oN];by_cases e:a=n
  ·subst e;rw[zC (h:=fun _=>0) (n:=a) fun v j _=>by rw[if_neg Om],DB,if_pos rfl];omega
  ·rw[MA S a x (n:=n) Om,if_neg e];split<;>split<;>omega
theorem acD (S:Nat→Bool) {N:Nat}:∀ {l:List bF} {xs:List Nat},(∀ a∈l,a.src<N∧a.dst<N)→oN S (gI l xs) N=uJ S l xs
 | [],_,_=>DB S N
 | _::_,[],_=>DB S N
 | a::l,x::xs,h=>by
  obtain⟨j,u⟩:=h a (by simp);have w:=acD S (l:=l) (xs:=xs) fun b hb=>h b (aWV _ hb);have e:oN S (gI (a::l) (x::xs)) N=oN S (fun v=>if a.src=v then (x:Int) else 0) N+(oN S (fun v=>if a.dst=v then -(x:Int) else 0) N+oN S (gI l xs) N):=by rw[← fh,← fh];refine zC fun v _ _=>?_;rw[gI];split<;>split<;>omega
  rw[e,MA S _ _ j,MA S _ _ u,w,uJ];cases S a.src<;>cases S a.dst<;>simp<;>omega
structure gP (n:cJ) (xs:List Nat):Prop where
 len:xs.length=n.arcs.length
 le:∀ (i:Nat) a x,n.arcs[i]?=some a→xs[i]?=some x→x≤a.cap
 node:∀ v,v<n.nodes→v≠n.source→v≠n.sink→gI n.arcs xs v=0
def jB (n:cJ) (xs:List Nat):Int:=gI n.arcs xs n.source
def dO (S:Nat→Bool):List bF→Nat
 | []=>0
 | a::l=>(if S a.src=true∧S a.dst=false then a.cap else 0)+dO S l
theorem gP.cut {n:cJ} (j:fU n) {xs:List Nat} (h:gP n xs) {S:Nat→Bool} (w:S n.source=true) (x:S n.sink=false):uJ S n.arcs xs=jB n xs:=by
 rw[← acD S (N:=n.nodes) fun a l=>⟨(j.ends a l).1,(j.ends a l).2.1⟩];rw[zC (h:=fun v=>if n.source=v then jB n xs else 0) fun v y u=>?_,MA S _ _ j.source,if_pos w];by_cases e:n.source=v
 ·subst e; rw[if_pos rfl]; rfl
 ·rw[if_neg e];exact h.node v y (fun c=>e c.symm) fun c=>by rw[c,x] at u; cases u
theorem abF (S:Nat→Bool):∀ {l:List bF} {xs:List Nat},(∀ (i:Nat) a x,l[i]?=some a→xs[i]?=some x→x≤a.cap)→uJ S l xs≤dO S l
 | [],_,_=>by simp[uJ,dO]
 | _::_,[],_=>by simp[uJ]
 | a::l,x::xs,h=>by have j:=h 0 a x rfl rfl;have u:=abF S (l:=l) (xs:=xs) fun i b y hb e=>h (i+1) b y (by simpa using hb) (by simpa using e);rw[uJ,dO];split<;>split<;>omega
theorem gP.anY {n:cJ} (l:fU n) {xs:List Nat} (h:gP n xs) {S:Nat→Bool} (e:S n.source=true) (j:S n.sink=false):jB n xs≤dO S n.arcs:=by
 rw[← h.cut l e j];exact abF S h.le
theorem abE (S:Nat→Bool):∀ {l:List bF} {xs:List Nat},xs.length=l.length→(∀ (i:Nat) a x,l[i]?=some a→xs[i]?=some x→(S a.src=true→S a.dst=false→x=a.cap)∧(S a.src=false→S a.dst=true→x=0))→uJ S l xs=dO S l
 | [],_,_,_=>by simp[uJ,dO]
 | _::_,[],h,_=>by simp at h
 | a::l,x::xs,w,h=>by
  have e:=h 0 a x rfl rfl;have B:=abE S (l:=l) (xs:=xs) (by simpa using w) fun i b y hb A=>h (i+1) b y (by simpa using hb) (by simpa using A);rw[uJ,dO,B];cases u:S a.src<;>cases j:S a.dst
  ·simp
  ·have:=e.2 u j;simp; omega
  ·have:=e.1 u j;simp; omega
  ·simp
theorem gP.full {n:cJ} (u:fU n) {xs:List Nat} (h:gP n xs) {S:Nat→Bool} (e:S n.source=true) (j:S n.sink=false)
  (l:∀ (i:Nat) a x,n.arcs[i]?=some a→xs[i]?=some x→(S a.src=true→S a.dst=false→x=a.cap)∧(S a.src=false→S a.dst=true→x=0)):jB n xs=dO S n.arcs:=by
 rw[← h.cut u e j];exact abE S h.len l
theorem aaE:∀ {l:List bF} {xs:List Nat} {i:Nat} {a:bF} {x:Nat} (y:Nat),l[i]?=some a→xs[i]?=some x→∀ v,gI l (xs.set i y) v=gI l xs v+(if a.src=v then (y:Int)-x else 0)-(if a.dst=v then (y:Int)-x else 0)
 | [],_,_,_,_,_,h,_,_=>by simp at h
 | _::_,[],_,_,_,_,_,h,_=>by simp at h
 | b::l,z::xs,0,a,x,y,e,j,v=>by simp only[List.getElem?_cons_zero,aVU.injEq] at e j;subst e; subst j;rw[List.set_cons_zero,gI,gI];split<;>split<;>omega
 | b::l,z::xs,i+1,a,x,y,e,j,v=>by rw[List.set_cons_succ,gI,gI,aaE (l:=l) (xs:=xs) y (by simpa using e) (by simpa using j) v];omega
theorem Nn (l:List bF):∀ (n:Nat) (v:Nat),gI l (aTK n 0) v=0:=by
 induction l with
 | nil=>intro n v; cases n<;>rfl
 | cons a l e =>
  intro n v;cases n with
  | zero=>rfl
  | succ n =>rw[List.replicate_succ,gI,e];split<;>split<;>rfl
theorem PR (n:cJ):gP n (aTK n.arcs.length 0)∧jB n (aTK n.arcs.length 0)=0:=by
 refine⟨⟨by simp,fun i a x _ e=>?_,fun v _ _ _=>Nn _ _ _⟩,Nn _ _ _⟩;have:=aVH e;rw[List.eq_of_mem_replicate this];exact aTQ _
def abA:Rg:=[iA 2 (.box true (Tm 0)),iI 4 0]
def abB:Rg:=[iM 5 1,iA 6 (.bin .add (Ci 2) (Tm 5)),iM 4 6]
def RV:aC:=(sq abA (sq abB .ret))
def aFZ:List Nat:=[2]
def axS:aW:=⟨2,7,RV,[.tmp 4]⟩
def tv:Rg:=[iA 3 (.box true (Tm 0)),iI 6 0]
def tw:Rg:=[iM 7 2,iC 8 .eql 7 0]
def Z9:Rg:=[iO 9 2 3,iM 10 1,iK2 11 282 9 10,iM 6 11]
def aaA:Rg:=[iF 12 0 3,iL 13 12,iA 14 (.bin .add (Ci 2) (Tm 13)),iM 15 1,iF 16 1 3,iL 17 16,iC 18 .sub 17 1,iB 19 .mul 15 18,iB 20 .add 14 19,iM 21 2,iB 22 .add 20 21,iC 23 .sub 22 1,iM 6 23]
def CO:aC:=(sq tv (.seq (sq tw (.cond (Tm 8) (sq Z9 .ret) .skip)) (sq aaA .ret)))
def aFM:List Nat:=[3]
def aiX:aW:=⟨3,24,CO,[.tmp 6]⟩
def aaB:Rg:=[iA 2 (.box true (Tm 0)),iI 4 0]
def aaC:Rg:=[iF 5 0 2,iL 6 5,iF 7 1 2,iL 8 7,iB 9 .mul 6 8,iA 10 (.bin .add (Ci 2) (Tm 9)),iM 11 1,iB 12 .add 10 11,iM 4 12]
def RB:aC:=(sq aaB (sq aaC .ret))
def aFO:List Nat:=[2]
def axF:aW:=⟨2,13,RB,[.tmp 4]⟩
def Zr:Rg:=[iF 7 3 3,iL 8 7,iM 9 0,iM 10 1,iM 11 2,iA 12 (.build [zI,zI,zI,zI] [(0,1,(Tm 9)),(1,1,(Tm 10)),(2,1,(Tm 11))]),iA 13 (.aSA true 4 1 [zI,zI,zI,zI] [(0,(Tm 12))]),iA 14 (.append 4 32 (Tm 8) (Tm 13)),iF 15 3 3,iS 1 15 14]
def QX:aC:=(.region Zr)
def aFG:List Nat:=[13]
def axA:aW:=⟨3,16,QX,[]⟩
def Wk:Rg:=[iA 2 (.box true (Tm 0)),iA 4 (.alloc [zI,zI,zI,.aB]),iI 5 0]
def Wl:Rg:=[iO 22 7 2,iK 23 96 22,iC 24 .neq 23 0]
def Wm:Rg:=[iA 25 (.build [zI,zI,zI,.aB] []),iS 4 4 25,iI 5 1]
def Wn:Rg:=[iF 26 6 2,iL 27 26,iN 28 27,iF 29 3 2,iL 30 29,iN 31 30,iA 32 (.build [zI,zI] [(0,1,(Tm 28)),(1,1,(Tm 31))]),iA 6 (.alloc [zI,zI]),iS 2 6 32]
def Wo:Rg:=[iO 33 2 6,iF 34 4 2,iL 35 34,iN 36 35,iK2 37 284 33 36,iA 38 (.build [zI,zI,zI,.aB] [(0,1,(Tm 37)),(1,1,(Ci 0)),(2,1,(Ci 1))]),iA 7 (.alloc [zI,zI,zI,.aB]),iS 4 7 38]
def Wp:Rg:=[iA 39 (.mkfn 285 [(Tm 7)]),iM 8 39]
def Wq:Rg:=[iF 40 6 2,iL 41 40,iN 42 41,iI 43 0]
def Ws:Rg:=[iB 44 .lss 43 42]
def Wt:Rg:=[iM 45 43,iX 46 2 41 43,iO 47 2 46,iA 10 (.alloc [(.str []),zI]),iM 9 45,iS 2 10 47]
def Wu:Rg:=[iF 48 5 2,iL 49 48,iF 50 1 10,iL 51 50,iX 52 17 49 51,iO 53 17 52,iA 11 (.alloc [(.str []),zI,zI,zI,zI,zI,zI,zI,zI,.aB,.aB,zB,.aB,.aB,zB,.aB,.aB]),iS 17 11 53]
def Gl:Rg:=[iF 54 2 2,iL 55 54,iN 56 55,iA 57 (.aSD 1 1 [zB] (Tm 56) (Tm 56)),iM 12 57]
def Gm:Rg:=[iF 58 9 11,iL 59 58,iN 60 59,iI 61 0]
def Gn:Rg:=[iB 62 .lss 61 60]
def Gp:Rg:=[iX 63 1 59 61,iL 64 63,iM 14 64]
def Gq:Rg:=[iM 65 12,iM 66 14,iX 67 1 65 66,⟨none,.store 1 (Tm 67) (.const (.bool true)),none⟩]
def Gr:Rg:=[iC 68 .add 61 1,iM 61 68]
def YQ:aC:=(sq Gn (.seq (.cond (Tm 62) .skip (.exit 2)) (.seq (.block 3 (sq Gp (.region Gq))) (.region Gr))))
def Gs:Rd:=[(iM 69 8,true),(iO 70 2 6,false),(iM 71 9,false),(iK2 72 282 70 71,true),(iF 73 1 11,true),(iL 74 73,true),(iF 75 2 11,true),(iL 76 75,true),(iB 77 .add 74 76,true),(iA 78 (.aSY (Tm 69) [(Ci 0),(Tm 72),(Tm 77)]),true)]
def Gt:Rg:=[iF 79 3 2,iL 80 79,iN 81 80,iI 82 0]
def Gu:Rg:=[iB 83 .lss 82 81]
def Gv:Rg:=[iM 84 82,iX 85 7 80 82,iO 86 7 85,iA 16 (.alloc [(.str []),zI,zI,zI,zB,.aB,.aB]),iM 15 84,iS 7 16 86]
def YV:Rg:=[iM 87 15,iC 88 .eql 87 0]
def YW:Rg:=[iF 89 1 16,iL 90 89,iF 91 4 11,iA 92 (.idxA 5 1 (Tm 91) (Tm 90)),iL 93 92,iM 17 93]
def YX:Rg:=[iM 94 17,iC 95 .eql 94 0]
def Gw:Rg:=[iF 96 1 11,iL 97 96,iF 98 2 11,iL 99 98,iB 100 .add 97 99,iM 17 100]
def YY:Rd:=[(iM 101 8,true),(iO 102 2 6,false),(iM 103 9,false),(iF 104 2 16,false),(iL 105 104,false),(iA 106 (.call 283 [(Tm 102),(Tm 103),(Tm 105)]),true),(iO 107 2 6,true),(iM 108 9,true),(iM 109 15,true),(iA 110 (.call 283 [(Tm 107),(Tm 108),(Tm 109)]),true),(iM 111 17,true),(iA 112 (.aSY (Tm 101) [(Tm 106),(Tm 110),(Tm 111)]),true)]
def IH:Rg:=[iC 113 .add 82 1,iM 82 113]
def YR:aC:=(sq Gu (.seq (.cond (Tm 83) .skip (.exit 4)) (.seq (.block 5 (sq Gv (.seq (sq YV (.cond (Tm 88) (.exit 5) .skip)) (sq YW (.seq (sq YX (.cond (Tm 95) (.region Gw) .skip)) (.draw YY)))))) (.region IH))))
def Gx:Rg:=[iF 114 4 2,iL 115 114,iN 116 115,iI 117 0]
def Gy:Rg:=[iB 118 .lss 117 116]
def Gz:Rg:=[iM 119 117,iX 120 3 115 117,iO 121 3 120,iA 19 (.alloc [(.str []),zI,zI]),iM 18 119,iS 3 19 121]
def G0:Rg:=[iM 122 12,iF 123 1 19,iL 124 123,iX 125 1 122 124,iL 126 125]
def G1:Rd:=[(iM 127 8,true),(iO 128 2 6,false),(iM 129 9,false),(iF 130 2 19,false),(iL 131 130,false),(iA 132 (.call 283 [(Tm 128),(Tm 129),(Tm 131)]),true),(iO 133 2 6,true),(iM 134 18,true),(iK2 135 284 133 134,true),(iA 136 (.aSY (Tm 127) [(Tm 132),(Tm 135),(Ci 1)]),true)]
def YZ:Rg:=[iC 137 .add 117 1,iM 117 137]
def YS:aC:=(sq Gy (.seq (.cond (Tm 118) .skip (.exit 6)) (.seq (.block 7 (sq Gz (sq G0 (.cond (Tm 126) (.draw G1) .skip)))) (.region YZ))))
def G2:Rg:=[iC 138 .add 43 1,iM 43 138]
def YT:aC:=(sq Ws (.seq (.cond (Tm 44) .skip (.exit 0)) (.seq (.block 1 (sq Wt (sq Wu (sq Gl (.seq (sq Gm (.block 2 (.loop YQ))) (dq Gs (.seq (sq Gt (.block 4 (.loop YR))) (sq Gx (.block 6 (.loop YS)))))))))) (.region G2))))
def G3:Rg:=[iO 139 7 2,iM 140 1,iK2 141 152 139 140,iN 142 141,iI 143 0]
def G4:Rg:=[iB 144 .lss 143 142]
def G5:Rg:=[iM 145 143,iX 146 1 141 143,iL 147 146,iM 20 145,iM 21 147]
def G6:Rg:=[iM 148 8,iO 149 2 6,iM 150 20,iK2 151 284 149 150,iM 152 21,iA 153 (.aSY (Tm 148) [(Tm 151),(Ci 1),(Tm 152)])]
def G7:Rg:=[iC 154 .add 143 1,iM 143 154]
def YU:aC:=(sq G4 (.seq (.cond (Tm 144) .skip (.exit 8)) (.seq (.block 9 (sq G5 (.region G6))) (.region G7))))
def G8:Rg:=[iO 155 4 7,iS 4 4 155,iI 5 0]
def PT:aC:=(sq Wk (.seq (sq Wl (.cond (Tm 24) (sq Wm .ret) .skip)) (sq Wn (sq Wo (sq Wp (.seq (sq Wq (.block 0 (.loop YT))) (.seq (sq G3 (.block 8 (.loop YU))) (sq G8 .ret))))))))
def aDG:List Nat:=[2]
def auI:aW:=⟨2,156,PT,[.cell 4 (some 4),.tmp 5]⟩
def Wd:Rg:=[iA 1 (.box true (Tm 0)),iI 2 0]
def We:Rg:=[iI 3 0]
def Wf:Rg:=[iF 6 6 1,iL 7 6,iN 8 7,iI 9 0]
def Wg:Rg:=[iB 10 .lss 9 8]
def Wh:Rg:=[iX 11 2 7 9,iO 12 2 11,iA 5 (.alloc [(.str []),zI]),iS 2 5 12]
def Wi:Rd:=[(iM 13 3,false),(iF 14 5 1,false),(iL 15 14,false),(iF 16 1 5,false),(iL 17 16,false),(iX 18 17 15 17,false),(iF 19 1 18,false),(iL 20 19,false),(iF 21 5 1,false),(iL 22 21,false),(iF 23 1 5,false),(iL 24 23,false),(iX 25 17 22 24,false),(iF 26 2 25,false),(iL 27 26,false),(iB 28 .add 20 27,false),(iB 29 .add 13 28,false),(iM 3 29,false)]
def se:Rg:=[iC 30 .add 9 1,iM 9 30]
def Wc:aC:=(sq Wg (.seq (.cond (Tm 10) .skip (.exit 0)) (.seq (.block 1 (sq Wh (.draw Wi))) (.region se))))
def Wj:Rg:=[iM 31 3,iM 2 31]
def PP:aC:=(sq Wd (sq We (.seq (sq Wf (.block 0 (.loop Wc))) (sq Wj .ret))))
def aDC:List Nat:=[1]
def auD:aW:=⟨1,32,PP,[.tmp 2]⟩
def we:Rg:=[iA 2 (.box true (Tm 0)),iZ 4,iI 5 0]
def wg:Rg:=[iO 18 7 2,iM 19 1,iK2 20 286 18 19,iM 17 20,iE 21 17 0,iE 22 17 1,iA 6 (.alloc [zI,zI,zI,.aB]),iS 4 6 21,iM 7 22]
def PU:Rg:=[iM 23 7,iC 24 .neq 23 0]
def wh:Rg:=[iM 25 7,iZ 4,iM 5 25]
def wi:Rg:=[iO 27 4 6,iK 28 298 27,iM 26 28,iE 29 26 0,iE 30 26 1,iE 31 26 2,iE 32 26 3,iM 8 29,iM 9 30,iM 10 31,iM 11 32]
def wj:Rg:=[iM 33 9,iO 34 7 2,iK 35 287 34,iB 36 .lss 33 35]
def wk:Rg:=[iZ 4,iI 5 12]
def wm:Rg:=[iF 37 6 2,iL 38 37,iN 39 38,iF 40 3 2,iL 41 40,iN 42 41,iA 43 (.build [zI,zI] [(0,1,(Tm 39)),(1,1,(Tm 42))]),iA 12 (.alloc [zI,zI]),iS 2 12 43]
def wn:Rg:=[iF 44 6 2,iL 45 44,iN 46 45,iA 47 (.aSD 1 24 [.aB] (Tm 46) (Tm 46)),iM 13 47]
def wq:Rg:=[iF 48 3 6,iL 49 48,iN 50 49,iI 51 0]
def i0:Rg:=[iB 52 .lss 51 50]
def i5:Rg:=[iM 53 51,iX 54 4 49 51,iO 55 4 54,iA 15 (.alloc [zI,zI,zI,zI]),iM 14 53,iS 4 15 55]
def IJ:Rd:=[(iF 56 1 15,true),(iL 57 56,true),(iO 58 2 12,false),(iA 59 (.call 284 [(Tm 58),(Ci 0)]),true),(iB 60 .lss 57 59,false),(iM 61 60,false),(gM 62 8 61 false,false),(gM 63 14 61 false,false),(iG 64 (.aSM 1 (Tm 62) (Tm 63)) 61 false,false),(gL 65 64 61 false,false),(gC 66 .eql 65 0 61 false,false),(iQ 67 61 66,false)]
def i6:Rg:=[iF 68 0 15,iL 69 68,iC 70 .sub 69 2,iF 71 0 12,iL 72 71,iB 73 .sub 70 72,iF 74 1 12,iL 75 74,iC 76 .sub 75 1,iB 77 .quo 73 76,iM 16 77]
def i7:Rd:=[(iM 78 13,true),(iM 79 16,true),(iM 80 13,true),(iM 81 16,true),(iX 82 1 80 81,true),(iL 83 82,true),(iF 84 1 15,true),(iL 85 84,true),(iO 86 2 12,false),(iA 87 (.call 284 [(Tm 86),(Ci 0)]),true),(iB 88 .sub 85 87,false),(iA 89 (.aSA true 1 1 [zI] [(0,(Tm 88))]),false),(iA 90 (.append 1 8 (Tm 83) (Tm 89)),true),(iX 91 1 78 79,false)]
def i8:Rd:=[(iS 1 91 90,true)]
def yH:Rg:=[iC 92 .add 51 1,iM 51 92]
def II:aC:=(sq i0 (.seq (.cond (Tm 52) .skip (.exit 0)) (.seq (.block 1 (sq i5 (.seq (dq IJ (.cond (Tm 67) (.exit 1) .skip)) (sq i6 (dq i7 (.draw i8)))))) (.region yH))))
def i9:Rg:=[iM 93 13,iM 4 93,iI 5 0]
def DP:aC:=(sq we (sq wg (.seq (sq PU (.cond (Tm 24) (sq wh .ret) .skip)) (sq wi (.seq (sq wj (.cond (Tm 36) (sq wk .ret) .skip)) (sq wm (sq wn (.seq (sq wq (.block 0 (.loop II))) (sq i9 .ret)))))))))
def anC:List Nat:=[2,89]
def G9:aW:=⟨2,94,DP,[.tmp 4,.tmp 5]⟩
def W4:Rg:=[iA 2 (.box true (Tm 0)),iA 4 (.alloc [.aB,.aB,.aB]),iT 5 false]
def W5:Rg:=[iO 19 7 2,iM 20 1,iK2 21 286 19 20,iM 18 21,iE 22 18 0,iE 23 18 1,iA 6 (.alloc [zI,zI,zI,.aB]),iS 4 6 22,iM 7 23]
def sm:Rg:=[iM 24 7,iC 25 .neq 24 0]
def W6:Rg:=[iA 26 (.build [.aB,.aB,.aB] []),iS 3 4 26,iT 5 false]
def W7:Rg:=[iO 28 4 6,iK 29 298 28,iM 27 29,iE 30 27 0,iE 31 27 1,iE 32 27 2,iE 33 27 3,iM 8 30,iM 9 31,iM 10 32,iM 11 33]
def W8:Rg:=[iM 34 9,iO 35 7 2,iK 36 287 35,iB 37 .eql 34 36]
def W9:Rg:=[iA 38 (.build [.aB,.aB,.aB] []),iS 3 4 38,iT 5 false]
def Xa:Rg:=[iF 39 6 2,iL 40 39,iN 41 40,iF 42 3 2,iL 43 42,iN 44 43,iA 45 (.build [zI,zI] [(0,1,(Tm 41)),(1,1,(Tm 44))]),iA 12 (.alloc [zI,zI]),iS 2 12 45]
def Xb:Rg:=[iA 13 (.alloc [.aB,.aB,.aB])]
def Xc:Rg:=[iF 46 6 2,iL 47 46,iN 48 47,iI 49 0]
def Hh:Rg:=[iB 50 .lss 49 48]
def Hi:Rg:=[iM 51 49,iM 14 51]
def Hj:Rd:=[(iF 52 0 13,true),(iL 53 52,true),(iM 54 10,true),(iO 55 2 12,false),(iM 56 14,false),(iK2 57 282 55 56,true),(iX 58 1 54 57,false),(iL 59 58,false),(iA 60 (.aSA true 1 1 [zB] [(0,(Tm 59))]),false),(iA 61 (.append 1 1 (Tm 53) (Tm 60)),true),(iF 62 0 13,false)]
def Hk:Rd:=[(iS 1 62 61,true)]
def Hl:Rg:=[iF 63 3 2,iL 64 63,iN 65 64,iA 66 (.aSD 1 1 [zB] (Ci 0) (Tm 65)),iM 15 66]
def Hm:Rg:=[iI 16 1]
def Hn:Rg:=[iM 67 16,iF 68 3 2,iL 69 68,iN 70 69,iB 71 .lss 67 70]
def Ho:Rg:=[iM 74 15,iM 75 10,iO 76 2 12,iM 77 14,iM 78 16,iA 79 (.call 283 [(Tm 76),(Tm 77),(Tm 78)]),iX 80 1 75 79,iL 81 80,iA 82 (.aSA true 1 1 [zB] [(0,(Tm 81))]),iA 83 (.append 1 1 (Tm 74) (Tm 82)),iM 15 83]
def Hp:Rg:=[iM 72 16,iC 73 .add 72 1,iM 16 73]
def ZD:aC:=(.seq (sq Hn (.cond (Tm 71) .skip (.exit 2))) (.seq (.block 3 (.region Ho)) (.region Hp)))
def Hq:Rg:=[iF 84 1 13,iL 85 84,iM 86 15,iA 87 (.aSA true 1 1 [.aB] [(0,(Tm 86))]),iA 88 (.append 1 24 (Tm 85) (Tm 87)),iF 89 1 13,iS 1 89 88]
def Hr:Rg:=[iC 90 .add 49 1,iM 49 90]
def ZE:aC:=(sq Hh (.seq (.cond (Tm 50) .skip (.exit 0)) (.seq (.block 1 (sq Hi (.seq (dq Hj (.draw Hk)) (sq Hl (.seq (sq Hm (.block 2 (.loop ZD))) (.region Hq)))))) (.region Hr))))
def Ht:Rg:=[iF 91 4 2,iL 92 91,iN 93 92,iI 94 0]
def Hu:Rg:=[iB 95 .lss 94 93]
def Hv:Rg:=[iM 96 94,iM 17 96]
def Hw:Rd:=[(iF 97 2 13,true),(iL 98 97,true),(iM 99 10,true),(iO 100 2 12,false),(iM 101 17,false),(iK2 102 284 100 101,true),(iX 103 1 99 102,false),(iL 104 103,false),(iA 105 (.aSA true 1 1 [zB] [(0,(Tm 104))]),false),(iA 106 (.append 1 1 (Tm 98) (Tm 105)),true),(iF 107 2 13,false)]
def Hx:Rd:=[(iS 1 107 106,true)]
def Hy:Rg:=[iC 108 .add 94 1,iM 94 108]
def ZF:aC:=(sq Hu (.seq (.cond (Tm 95) .skip (.exit 4)) (.seq (.block 5 (sq Hv (dq Hw (.draw Hx)))) (.region Hy))))
def Hz:Rg:=[iO 109 3 13,iS 3 4 109,iT 5 true]
def PX:aC:=(sq W4 (sq W5 (.seq (sq sm (.cond (Tm 25) (sq W6 .ret) .skip)) (sq W7 (.seq (sq W8 (.cond (Tm 37) (sq W9 .ret) .skip)) (sq Xa (sq Xb (.seq (sq Xc (.block 0 (.loop ZE))) (.seq (sq Ht (.block 4 (.loop ZF))) (sq Hz .ret))))))))))
def aDM:List Nat:=[2,60,82,87,105]
def auK:aW:=⟨2,110,PX,[.cell 4 (some 3),.tmp 5]⟩
def V0:Rg:=[iA 3 (.box true (Tm 0)),iA 5 (.box true (Tm 2)),iT 6 false]
def V1:Rg:=[iO 15 7 3,iM 16 1,iK2 17 286 15 16,iM 14 17,iE 18 14 0,iE 19 14 1,iA 7 (.alloc [zI,zI,zI,.aB]),iS 4 7 18,iM 8 19]
def zR:Rg:=[iM 20 8,iC 21 .neq 20 0,iM 22 21,gF 23 0 5 22 false,gL 24 23 22 false,gN 25 24 22 false,gF 26 6 3 22 false,gL 27 26 22 false,gN 28 27 22 false,gB 29 .neq 25 28 22 false,iQ 30 22 29,iM 31 30,gF 32 1 5 31 false,gL 33 32 31 false,gN 34 33 31 false,gF 35 6 3 31 false,gL 36 35 31 false,gN 37 36 31 false,gB 38 .neq 34 37 31 false,iQ 39 31 38,iM 40 39,gF 41 2 5 40 false,gL 42 41 40 false,gN 43 42 40 false,gF 44 4 3 40 false,gL 45 44 40 false,gN 46 45 40 false,gB 47 .neq 43 46 40 false,iQ 48 40 47]
def GM:Rg:=[iT 6 false]
def V2:Rg:=[iA 49 (.aSA false 1 2 [zB] [(0,(.const (.bool true))),(1,(.const zB))]),iF 50 0 5,iL 51 50,iA 52 (.append 1 1 (Tm 49) (Tm 51)),iM 9 52]
def V3:Rg:=[iF 53 1 5,iL 54 53,iN 55 54,iI 56 0]
def V4:Rg:=[iB 57 .lss 56 55]
def V5:Rg:=[iX 58 1 54 56,iL 59 58,iM 11 59]
def V6:Rg:=[iM 60 11,iN 61 60,iF 62 3 3,iL 63 62,iN 64 63,iC 65 .sub 64 1,iB 66 .neq 61 65]
def V7:Rg:=[iT 6 false]
def Fy:Rg:=[iM 67 9,iM 68 11,iA 69 (.append 1 1 (Tm 67) (Tm 68)),iM 9 69]
def F0:Rg:=[iC 70 .add 56 1,iM 56 70]
def Fw:aC:=(sq V4 (.seq (.cond (Tm 57) .skip (.exit 0)) (.seq (.block 1 (sq V5 (.seq (sq V6 (.cond (Tm 66) (sq V7 .ret) .skip)) (.region Fy)))) (.region F0))))
def F6:Rd:=[(iO 72 4 7,true),(iM 73 9,false),(iF 74 2 5,false),(iL 75 74,false),(iA 76 (.append 1 1 (Tm 73) (Tm 75)),true),(iK2 77 293 72 76,true),(iM 71 77,false),(iE 78 71 0,false),(iE 79 71 1,false),(iM 12 78,false),(iM 13 79,false)]
def F7:Rg:=[iM 80 13,iM 81 80,gM 82 12 81 true,gO 83 7 3 81 true,gK 84 287 83 81 true,gB 85 .lss 82 84 81 true,iP 86 81 85,iM 6 86]
def PN:aC:=(sq V0 (sq V1 (.seq (sq zR (.cond (Tm 48) (sq GM .ret) .skip)) (sq V2 (.seq (sq V3 (.block 0 (.loop Fw))) (dq F6 (sq F7 .ret)))))))
def aCY:List Nat:=[3,5]
def auB:aW:=⟨3,87,PN,[.tmp 6]⟩
def Mr:Rg:=[iT 3 false]
def Ms:Rg:=[iM 4 0,iC 5 .geq 4 0,iM 6 5,gM 7 0 6 true,gF 8 0 1 6 true,gL 9 8 6 true,gB 10 .lss 7 9 6 true,iP 11 6 10,iM 3 11]
def KI:aC:=(sq Mr (sq Ms .ret))
def awX:List Nat:=[]
def aiN:aW:=⟨1,12,KI,[.tmp 3]⟩
def y7:Rg:=[iA 1 (.box false (Tm 0)),iT 2 false]
def y8:Rg:=[iA 6 (.mkfn 291 [(Tm 1)]),iM 3 6]
def y9:Rg:=[iF 7 0 1,iL 8 7,iC 9 .lss 8 2,iM 10 9,gF 11 0 1 10 false,gL 12 11 10 false,gC 13 .gtr 12 700 10 false,iQ 14 10 13,iM 15 14,gF 16 3 1 15 false,gL 17 16 15 false,gN 18 17 15 false,gC 19 .gtr 18 2500 15 false,iQ 20 15 19,iM 21 20,gM 22 3 21 false,gF 23 1 1 21 false,gL 24 23 21 false,iG 25 (.aSY (Tm 22) [(Tm 24)]) 21 false,iG 26 (.un .not (Tm 25)) 21 false,iQ 27 21 26,iM 28 27,gM 29 3 28 false,gF 30 2 1 28 false,gL 31 30 28 false,iG 32 (.aSY (Tm 29) [(Tm 31)]) 28 false,iG 33 (.un .not (Tm 32)) 28 false,iQ 34 28 33,iM 35 34,gF 36 1 1 35 false,gL 37 36 35 false,gF 38 2 1 35 false,gL 39 38 35 false,gB 40 .eql 37 39 35 false,iQ 41 35 40]
def aoR:Rg:=[iT 2 false]
def za:Rg:=[iF 42 3 1,iL 43 42,iN 44 43,iI 45 0]
def zb:Rg:=[iB 46 .lss 45 44]
def zc:Rg:=[iX 47 4 43 45,iO 48 4 47,iA 5 (.alloc [zI,zI,zI,zI]),iS 4 5 48]
def zd:Rg:=[iM 49 3,iF 50 0 5,iL 51 50,iA 52 (.aSY (Tm 49) [(Tm 51)]),iA 53 (.un .not (Tm 52)),iM 54 53,gM 55 3 54 false,gF 56 1 5 54 false,gL 57 56 54 false,iG 58 (.aSY (Tm 55) [(Tm 57)]) 54 false,iG 59 (.un .not (Tm 58)) 54 false,iQ 60 54 59,iM 61 60,gF 62 2 5 61 false,gL 63 62 61 false,gC 64 .lss 63 0 61 false,iQ 65 61 64,iM 66 65,gF 67 2 5 66 false,gL 68 67 66 false,gC 69 .gtr 68 2147483647 66 false,iQ 70 66 69]
def aoS:Rg:=[iT 2 false]
def ze:Rg:=[iC 71 .add 45 1,iM 45 71]
def lj:aC:=(sq zb (.seq (.cond (Tm 46) .skip (.exit 0)) (.seq (.block 1 (sq zc (sq zd (.cond (Tm 70) (sq aoS .ret) .skip)))) (.region ze))))
def lk:Rg:=[iT 2 true]
def EC:aC:=(sq y7 (sq y8 (.seq (sq y9 (.cond (Tm 41) (sq aoR .ret) .skip)) (.seq (sq za (.block 0 (.loop lj))) (sq lk .ret)))))
def aoT:List Nat:=[]
def Mv:aW:=⟨1,72,EC,[.tmp 2]⟩
def Yr:Rg:=[iA 2 (.box true (Tm 0)),iI 4 0,iT 5 false]
def Ys:Rg:=[iO 9 4 2,iK 10 292 9,iA 11 (.un .not (Tm 10)),iM 12 11,gM 13 1 12 false,gN 14 13 12 false,gF 15 0 2 12 false,gL 16 15 12 false,gB 17 .neq 14 16 12 false,iQ 18 12 17,iM 19 18,gM 20 1 19 false,gF 21 1 2 19 false,gL 22 21 19 false,iG 23 (.aSM 1 (Tm 20) (Tm 22)) 19 false,gL 24 23 19 false,iG 25 (.un .not (Tm 24)) 19 false,iQ 26 19 25,iM 27 26,gM 28 1 27 false,gF 29 2 2 27 false,gL 30 29 27 false,iG 31 (.aSM 1 (Tm 28) (Tm 30)) 27 false,gL 32 31 27 false,iQ 33 27 32]
def aET:Rg:=[iI 4 0,iT 5 false]
def Yt:Rg:=[iI 6 0]
def Yu:Rg:=[iF 34 3 2,iL 35 34,iN 36 35,iI 37 0]
def Yv:Rg:=[iB 38 .lss 37 36]
def Yw:Rg:=[iX 39 4 35 37,iO 40 4 39,iA 8 (.alloc [zI,zI,zI,zI]),iS 4 8 40]
def Yx:Rg:=[iM 41 1,iF 42 0 8,iL 43 42,iX 44 1 41 43,iL 45 44,iM 46 45,gM 47 1 46 true,gF 48 1 8 46 true,gL 49 48 46 true,iG 50 (.aSM 1 (Tm 47) (Tm 49)) 46 true,gL 51 50 46 true,iG 52 (.un .not (Tm 51)) 46 true,iP 53 46 52]
def Yy:Rg:=[iM 54 6,iF 55 2 8,iL 56 55,iB 57 .add 54 56,iM 6 57]
def UP:Rg:=[iC 58 .add 37 1,iM 37 58]
def Lr:aC:=(sq Yv (.seq (.cond (Tm 38) .skip (.exit 0)) (.seq (.block 1 (sq Yw (sq Yx (.cond (Tm 53) (.region Yy) .skip)))) (.region UP))))
def Ls:Rg:=[iM 59 6,iM 4 59,iT 5 true]
def QN:aC:=(sq Yr (.seq (sq Ys (.cond (Tm 33) (sq aET .ret) .skip)) (sq Yt (.seq (sq Yu (.block 0 (.loop Lr))) (sq Ls .ret)))))
def aEU:List Nat:=[2]
def awC:aW:=⟨2,60,QN,[.tmp 4,.tmp 5]⟩
def ba:Rg:=[iI 4 0,iI 5 0]
def bb:Rg:=[iM 6 1,iC 7 .geq 6 0]
def Lt:Rd:=[(iM 8 0,false),(iA 9 (.aSI (Tm 8)),false),(iF 10 0 9,false),(iF 11 3 10,false),(iL 12 11,false),(iM 13 1,false),(iX 14 4 12 13,false),(iF 15 1 14,false),(iL 16 15,false),(iM 17 0,false),(iA 18 (.aSI (Tm 17)),false),(iF 19 0 18,false),(iF 20 3 19,false),(iL 21 20,false),(iM 22 1,false),(iX 23 4 21 22,false),(iF 24 2 23,false),(iL 25 24,false),(iM 26 0,false),(iA 27 (.aSI (Tm 26)),false),(iF 28 4 27,false),(iL 29 28,false),(iM 30 1,false),(iX 31 1 29 30,false),(iL 32 31,false),(iB 33 .sub 25 32,false),(iM 4 16,false),(iM 5 33,false)]
def Lu:Rd:=[(iM 34 0,false),(iA 35 (.aSI (Tm 34)),false),(iF 36 0 35,false),(iF 37 3 36,false),(iL 38 37,false),(iM 39 1,false),(iA 40 (.bin .sub (Ci (-1)) (Tm 39)),false),(iX 41 4 38 40,false),(iF 42 0 41,false),(iL 43 42,false),(iM 44 0,false),(iA 45 (.aSI (Tm 44)),false),(iF 46 4 45,false),(iL 47 46,false),(iM 48 1,false),(iA 49 (.bin .sub (Ci (-1)) (Tm 48)),false),(iX 50 1 47 49,false),(iL 51 50,false),(iM 4 43,false),(iM 5 51,false)]
def yL:aC:=(sq ba (.seq (sq bb (.cond (Tm 7) (dq Lt .ret) .skip)) (dq Lu .ret)))
def awE:List Nat:=[]
def D6:aW:=⟨2,52,yL,[.tmp 4,.tmp 5]⟩
def aw:Rg:=[iI 4 0]
def ay:Rg:=[iM 5 1,iC 6 .geq 5 0]
def Lo:Rg:=[iM 7 0,iA 8 (.aSI (Tm 7)),iF 9 0 8,iF 10 3 9,iL 11 10,iM 12 1,iX 13 4 11 12,iF 14 0 13,iL 15 14,iM 4 15]
def Lp:Rg:=[iM 16 0,iA 17 (.aSI (Tm 16)),iF 18 0 17,iF 19 3 18,iL 20 19,iM 21 1,iA 22 (.bin .sub (Ci (-1)) (Tm 21)),iX 23 4 20 22,iF 24 1 23,iL 25 24,iM 4 25]
def yK:aC:=(sq aw (.seq (sq ay (.cond (Tm 6) (sq Lo .ret) .skip)) (sq Lp .ret)))
def awB:List Nat:=[]
def D5:aW:=⟨2,26,yK,[.tmp 4]⟩
def yg:Rg:=[iZ 2,iZ 3]
def yh:Rd:=[(iM 11 0,false),(iA 12 (.aSI (Tm 11)),false),(iF 13 0 12,false),(iF 14 0 13,false),(iL 15 14,false),(iA 16 (.aSD 1 8 [zI] (Tm 15) (Tm 15)),true),(iM 17 0,false),(iA 18 (.aSI (Tm 17)),false),(iF 19 0 18,false),(iF 20 0 19,false),(iL 21 20,false),(iA 22 (.aSD 1 1 [zB] (Tm 21) (Tm 21)),true),(iM 4 16,false),(iM 5 22,false)]
def yi:Rg:=[iM 23 5,iM 24 0,iA 25 (.aSI (Tm 24)),iF 26 0 25,iF 27 1 26,iL 28 27,iX 29 1 23 28,⟨none,.store 1 (Tm 29) (.const (.bool true)),none⟩]
def yj:Rg:=[iM 30 0,iA 31 (.aSI (Tm 30)),iF 32 0 31,iF 33 1 32,iL 34 33,iA 35 (.aSA false 1 1 [zI] [(0,(Tm 34))]),iM 6 35]
def yk:Rg:=[iM 36 6,iN 37 36,iC 38 .gtr 37 0]
def yl:Rd:=[(iM 41 0,false),(iA 42 (.aSI (Tm 41)),false),(iF 43 5 42,false),(iL 44 43,false),(iM 45 6,false),(iA 46 (.aSM 1 (Tm 45) (Ci 0)),false),(iL 47 46,false),(iX 48 1 44 47,false),(iL 49 48,false),(iN 50 49,false),(iI 51 0,false)]
def ym:Rg:=[iB 52 .lss 51 50]
def yn:Rg:=[iX 53 1 49 51,iL 54 53,iM 8 54]
def yo:Rg:=[iM 56 0,iM 57 8,iK2 58 294 56 57,iM 55 58,iE 59 55 0,iE 60 55 1,iM 9 59,iM 10 60]
def CN:Rg:=[iM 61 10,iC 62 .gtr 61 0,iM 63 62,gM 64 5 63 true,gM 65 9 63 true,iG 66 (.aSM 1 (Tm 64) (Tm 65)) 63 true,gL 67 66 63 true,iG 68 (.un .not (Tm 67)) 63 true,iP 69 63 68]
def kq:Rg:=[iM 70 5,iM 71 9,iM 72 4,iM 73 9,iM 74 8,iX 75 1 70 71,⟨none,.store 1 (Tm 75) (.const (.bool true)),none⟩,iX 76 1 72 73,iS 1 76 74]
def kr:Rg:=[iM 77 6,iM 78 9,iA 79 (.aSA true 1 1 [zI] [(0,(Tm 78))]),iA 80 (.append 1 8 (Tm 77) (Tm 79)),iM 6 80]
def yU:Rg:=[iC 81 .add 51 1,iM 51 81]
def ko:aC:=(sq ym (.seq (.cond (Tm 52) .skip (.exit 2)) (.seq (.block 3 (sq yn (sq yo (sq CN (.cond (Tm 69) (sq kq (.region kr)) .skip))))) (.region yU))))
def ku:Rg:=[iM 39 6,iA 40 (.slice 1 (Tm 39) (some (Ci 1)) none none),iM 6 40]
def kp:aC:=(.seq (sq yk (.cond (Tm 38) .skip (.exit 0))) (.seq (.block 1 (dq yl (.block 2 (.loop ko)))) (.region ku)))
def kw:Rg:=[iM 82 4,iM 83 5,iM 2 82,iM 3 83]
def EA:aC:=(sq yg (dq yh (sq yi (.seq (sq yj (.block 0 (.loop kp))) (sq kw .ret)))))
def aoM:List Nat:=[79]
def Mt:aW:=⟨1,84,EA,[.tmp 2,.tmp 3]⟩
def Yl:Rg:=[iI 4 0]
def Ym:Rg:=[iI 5 (-1)]
def Yn:Rg:=[iM 11 0,iA 12 (.aSI (Tm 11)),iF 13 0 12,iF 14 2 13,iL 15 14,iM 6 15]
def Yo:Rg:=[iM 16 6,iM 17 0,iA 18 (.aSI (Tm 17)),iF 19 0 18,iF 20 1 19,iL 21 20,iB 22 .neq 16 21]
def Yp:Rg:=[iM 30 0,iM 31 1,iM 32 6,iX 33 1 31 32,iL 34 33,iK2 35 294 30 34,iM 29 35,iE 36 29 0,iE 37 29 1,iM 7 36,iM 8 37]
def UN:Rg:=[iM 38 5,iC 39 .lss 38 0,iM 40 39,gM 41 8 40 false,gM 42 5 40 false,gB 43 .lss 41 42 40 false,iQ 44 40 43]
def tb:Rg:=[iM 45 8,iM 5 45]
def UO:Rg:=[iM 23 0,iM 24 1,iM 25 6,iX 26 1 24 25,iL 27 26,iK2 28 295 23 27,iM 6 28]
def Yk:aC:=(.seq (sq Yo (.cond (Tm 22) .skip (.exit 0))) (.seq (.block 1 (sq Yp (sq UN (.cond (Tm 44) (.region tb) .skip)))) (.region UO)))
def Yq:Rg:=[iM 46 0,iA 47 (.aSI (Tm 46)),iF 48 0 47,iF 49 2 48,iL 50 49,iM 9 50]
def Lk:Rg:=[iM 51 9,iM 52 0,iA 53 (.aSI (Tm 52)),iF 54 0 53,iF 55 1 54,iL 56 55,iB 57 .neq 51 56]
def ap:Rg:=[iM 64 1,iM 65 9,iX 66 1 64 65,iL 67 66,iM 10 67]
def au:Rg:=[iM 68 10,iC 69 .geq 68 0]
def Ll:Rg:=[iM 70 0,iA 71 (.aSI (Tm 70)),iF 72 4 71,iL 73 72,iM 74 10,iX 75 1 73 74,iL 76 75,iM 77 5,iB 78 .add 76 77,iX 79 1 73 74,iS 1 79 78]
def Lm:Rg:=[iM 80 0,iA 81 (.aSI (Tm 80)),iF 82 4 81,iL 83 82,iM 84 10,iA 85 (.bin .sub (Ci (-1)) (Tm 84)),iX 86 1 83 85,iL 87 86,iM 88 5,iB 89 .sub 87 88,iX 90 1 83 85,iS 1 90 89]
def av:Rg:=[iM 58 0,iM 59 1,iM 60 9,iX 61 1 59 60,iL 62 61,iK2 63 295 58 62,iM 9 63]
def Lj:aC:=(.seq (sq Lk (.cond (Tm 57) .skip (.exit 2))) (.seq (.block 3 (sq ap (sq au (.cond (Tm 69) (.region Ll) (.region Lm))))) (.region av)))
def Ln:Rg:=[iM 91 5,iM 4 91]
def QM:aC:=(sq Yl (sq Ym (.seq (sq Yn (.block 0 (.loop Yk))) (.seq (sq Yq (.block 2 (.loop Lj))) (sq Ln .ret)))))
def aEQ:List Nat:=[]
def avY:aW:=⟨2,92,QM,[.tmp 4]⟩
def yq:Rg:=[iA 1 (.box true (Tm 0)),iZ 2,iI 3 0,iZ 4,iI 5 0]
def yr:Rg:=[iO 12 4 1,iK 13 292 12,iA 14 (.un .not (Tm 13))]
def aoO:Rg:=[iZ 2,iI 3 0,iZ 4,iI 5 1]
def yu:Rd:=[(iO 15 4 1,false),(iF 16 3 1,false),(iL 17 16,false),(iN 18 17,false),(iA 19 (.aSD 1 8 [zI] (Tm 18) (Tm 18)),true),(iF 20 0 1,false),(iL 21 20,false),(iA 22 (.aSD 1 24 [.aB] (Tm 21) (Tm 21)),true),(iA 23 (.build [zI,zI,zI,.aB,.aB,.aB] [(0,4,(Tm 15)),(4,1,(Tm 19)),(5,1,(Tm 22))]),false),(iA 24 (.box false (Tm 23)),true),(iM 6 24,false)]
def yv:Rg:=[iF 25 3 1,iL 26 25,iN 27 26,iI 28 0]
def yw:Rg:=[iB 29 .lss 28 27]
def yx:Rg:=[iM 30 28,iX 31 4 26 28,iO 32 4 31,iA 8 (.alloc [zI,zI,zI,zI]),iM 7 30,iS 4 8 32]
def yy:Rd:=[(iM 33 6,true),(iA 34 (.aSI (Tm 33)),true),(iF 35 5 34,true),(iL 36 35,true),(iF 37 0 8,true),(iL 38 37,true),(iM 39 6,false),(iA 40 (.aSI (Tm 39)),false),(iF 41 5 40,false),(iL 42 41,false),(iF 43 0 8,false),(iL 44 43,false),(iX 45 1 42 44,false),(iL 46 45,false),(iM 47 7,false),(iA 48 (.aSA true 1 1 [zI] [(0,(Tm 47))]),false),(iA 49 (.append 1 8 (Tm 46) (Tm 48)),true),(iX 50 1 36 38,false)]
def yz:Rd:=[(iS 1 50 49,true)]
def y6:Rd:=[(iM 51 6,true),(iA 52 (.aSI (Tm 51)),true),(iF 53 5 52,true),(iL 54 53,true),(iF 55 1 8,true),(iL 56 55,true),(iM 57 6,false),(iA 58 (.aSI (Tm 57)),false),(iF 59 5 58,false),(iL 60 59,false),(iF 61 1 8,false),(iL 62 61,false),(iX 63 1 60 62,false),(iL 64 63,false),(iM 65 7,false),(iA 66 (.bin .sub (Ci (-1)) (Tm 65)),false),(iA 67 (.aSA true 1 1 [zI] [(0,(Tm 66))]),false),(iA 68 (.append 1 8 (Tm 64) (Tm 67)),true),(iX 69 1 54 56,false)]
def kz:Rd:=[(iS 1 69 68,true)]
def k6:Rg:=[iC 70 .add 28 1,iM 28 70]
def kx:aC:=(sq yw (.seq (.cond (Tm 29) .skip (.exit 0)) (.seq (.block 1 (sq yx (.seq (dq yy (.draw yz)) (dq y6 (.draw kz))))) (.region k6))))
def k7:Rg:=[iI 9 0]
def lf:Rg:=[iM 72 6,iK 73 296 72,iM 71 73,iE 74 71 0,iE 75 71 1,iM 10 74,iM 11 75]
def KK:Rg:=[iM 76 11,iF 77 2 1,iL 78 77,iX 79 1 76 78,iL 80 79,iA 81 (.un .not (Tm 80))]
def lg:Rg:=[iM 82 6,iA 83 (.aSI (Tm 82)),iF 84 4 83,iL 85 84,iM 86 9,iM 87 11,iM 2 85,iM 3 86,iM 4 87,iI 5 0]
def lh:Rg:=[iM 88 9,iM 89 6,iM 90 10,iK2 91 297 89 90,iB 92 .add 88 91,iM 9 92]
def ky:aC:=(.block 3 (sq lf (.seq (sq KK (.cond (Tm 81) (sq lg .ret) .skip)) (.region lh))))
def EB:aC:=(sq yq (.seq (sq yr (.cond (Tm 14) (sq aoO .ret) .skip)) (dq yu (.seq (sq yv (.block 0 (.loop kx))) (sq k7 (.block 2 (.loop ky)))))))
def aoP:List Nat:=[1,48,67]
def Mu:aW:=⟨1,93,EB,[.tmp 2,.tmp 3,.tmp 4,.tmp 5]⟩
def dt:Rg:=[iA 3 (.box true (Tm 0)),iI 6 0]
def du:Rg:=[iM 7 2,iC 8 .eql 7 0]
def Pb:Rg:=[iM 9 1,iA 10 (.bin .add (Ci 2) (Tm 9)),iM 6 10]
def Pc:Rg:=[iF 11 6 3,iL 12 11,iN 13 12,iA 14 (.bin .add (Ci 2) (Tm 13)),iM 15 1,iF 16 3 3,iL 17 16,iN 18 17,iC 19 .sub 18 1,iB 20 .mul 15 19,iB 21 .add 14 20,iM 22 2,iB 23 .add 21 22,iC 24 .sub 23 1,iM 6 24]
def yX:aC:=(sq dt (.seq (sq du (.cond (Tm 8) (sq Pb .ret) .skip)) (sq Pc .ret)))
def ayE:List Nat:=[3]
def D9:aW:=⟨3,25,yX,[.tmp 6]⟩
def abK:Rg:=[iA 2 (.box true (Tm 0)),iI 4 0]
def abL:Rg:=[iF 5 6 2,iL 6 5,iN 7 6,iF 8 3 2,iL 9 8,iN 10 9,iB 11 .mul 7 10,iA 12 (.bin .add (Ci 2) (Tm 11)),iM 13 1,iB 14 .add 12 13,iM 4 14]
def SD:aC:=(sq abK (sq abL .ret))
def aGG:List Nat:=[2]
def ayC:aW:=⟨2,15,SD,[.tmp 4]⟩
def Ak:Rg:=[iA 1 (.box true (Tm 0)),iI 2 0]
def Al:Rg:=[iI 3 0]
def Am:Rg:=[iI 4 0]
def An:Rg:=[iM 5 4,iF 6 6 1,iL 7 6,iN 8 7,iB 9 .lss 5 8]
def Ao:Rg:=[iM 12 3,iO 13 7 1,iM 14 4,iK2 15 82 13 14,iB 16 .add 12 15,iM 3 16]
def Ap:Rg:=[iM 10 4,iC 11 .add 10 1,iM 4 11]
def Aj:aC:=(.seq (sq An (.cond (Tm 9) .skip (.exit 0))) (.seq (.block 1 (.region Ao)) (.region Ap)))
def Aq:Rg:=[iM 17 3,iM 2 17]
def ES:aC:=(sq Ak (sq Al (.seq (sq Am (.block 0 (.loop Aj))) (sq Aq .ret))))
def aqC:List Nat:=[1]
def Pd:aW:=⟨1,18,ES,[.tmp 2]⟩
def abM:Rg:=[iA 2 (.box true (Tm 0)),iA 4 (.alloc [zI,zI,zI,.aB]),iI 5 0]
def abN:Rg:=[iO 14 7 2,iK 15 67 14,iA 16 (.un .not (Tm 15))]
def abO:Rg:=[iA 17 (.build [zI,zI,zI,.aB] []),iS 4 4 17,iI 5 1]
def abP:Rg:=[iO 18 7 2,iF 19 4 2,iL 20 19,iN 21 20,iK2 22 305 18 21,iA 23 (.build [zI,zI,zI,.aB] [(0,1,(Tm 22)),(2,1,(Ci 1))]),iA 6 (.alloc [zI,zI,zI,.aB]),iS 4 6 23]
def abQ:Rg:=[iI 7 0]
def abR:Rg:=[iM 24 7,iF 25 6 2,iL 26 25,iN 27 26,iB 28 .lss 24 27]
def abS:Rd:=[(iF 31 5 2,false),(iL 32 31,false),(iF 33 6 2,false),(iL 34 33,false),(iM 35 7,false),(iX 36 2 34 35,false),(iF 37 1 36,false),(iL 38 37,false),(iX 39 17 32 38,false),(iO 40 17 39,false),(iA 8 (.alloc [(.str []),zI,zI,zI,zI,zI,zI,zI,zI,.aB,.aB,zB,.aB,.aB,zB,.aB,.aB]),true),(iS 17 8 40,true)]
def abT:Rd:=[(iF 41 3 6,true),(iL 42 41,true),(iO 43 7 2,false),(iM 44 7,false),(iA 45 (.call 304 [(Tm 43),(Tm 44),(Ci 0)]),true),(iF 46 1 8,true),(iL 47 46,true),(iF 48 2 8,true),(iL 49 48,true),(iB 50 .add 47 49,true),(iA 51 (.build [zI,zI,zI,zI] [(1,1,(Tm 45)),(2,1,(Tm 50))]),false),(iA 52 (.aSA true 4 1 [zI,zI,zI,zI] [(0,(Tm 51))]),false),(iA 53 (.append 4 32 (Tm 42) (Tm 52)),true),(iF 54 3 6,false)]
def abU:Rd:=[(iS 1 54 53,true)]
def abV:Rg:=[iI 9 1]
def Ow:Rg:=[iM 55 9,iF 56 3 2,iL 57 56,iN 58 57,iB 59 .lss 55 58]
def dh:Rg:=[iF 62 3 2,iL 63 62,iM 64 9,iX 65 7 63 64,iF 66 1 65,iL 67 66,iF 68 4 8,iA 69 (.idxA 5 1 (Tm 68) (Tm 67)),iL 70 69,iM 10 70]
def di:Rg:=[iM 71 10,iC 72 .eql 71 0]
def Ox:Rg:=[iF 73 1 8,iL 74 73,iF 75 2 8,iL 76 75,iB 77 .add 74 76,iM 10 77]
def dj:Rd:=[(iF 78 3 6,true),(iL 79 78,true),(iO 80 7 2,false),(iM 81 7,false),(iF 82 3 2,false),(iL 83 82,false),(iM 84 9,false),(iX 85 7 83 84,false),(iF 86 2 85,false),(iL 87 86,false),(iA 88 (.call 304 [(Tm 80),(Tm 81),(Tm 87)]),true),(iO 89 7 2,true),(iM 90 7,true),(iM 91 9,true),(iA 92 (.call 304 [(Tm 89),(Tm 90),(Tm 91)]),true),(iM 93 10,true),(iA 94 (.build [zI,zI,zI,zI] [(0,1,(Tm 88)),(1,1,(Tm 92)),(2,1,(Tm 93))]),false),(iA 95 (.aSA true 4 1 [zI,zI,zI,zI] [(0,(Tm 94))]),false),(iA 96 (.append 4 32 (Tm 79) (Tm 95)),true),(iF 97 3 6,false)]
def dl:Rd:=[(iS 1 97 96,true)]
def dp:Rg:=[iM 60 9,iC 61 .add 60 1,iM 9 61]
def dd:aC:=(.seq (sq Ow (.cond (Tm 59) .skip (.exit 2))) (.seq (.block 3 (sq dh (.seq (sq di (.cond (Tm 72) (.region Ox) .skip)) (dq dj (.draw dl))))) (.region dp)))
def Oy:Rg:=[iI 11 0]
def Oz:Rg:=[iM 98 11,iF 99 4 2,iL 100 99,iN 101 100,iB 102 .lss 98 101]
def O0:Rg:=[iO 105 17 8,iO 106 7 2,iM 107 11,iA 108 (.call 77 [(Tm 105),(Tm 106),(Tm 107)])]
def O1:Rd:=[(iF 109 3 6,true),(iL 110 109,true),(iO 111 7 2,false),(iM 112 7,false),(iF 113 4 2,false),(iL 114 113,false),(iM 115 11,false),(iX 116 3 114 115,false),(iF 117 2 116,false),(iL 118 117,false),(iA 119 (.call 304 [(Tm 111),(Tm 112),(Tm 118)]),true),(iO 120 7 2,true),(iM 121 11,true),(iK2 122 305 120 121,true),(iA 123 (.build [zI,zI,zI,zI] [(0,1,(Tm 119)),(1,1,(Tm 122)),(2,1,(Ci 1))]),false),(iA 124 (.aSA true 4 1 [zI,zI,zI,zI] [(0,(Tm 123))]),false),(iA 125 (.append 4 32 (Tm 110) (Tm 124)),true),(iF 126 3 6,false)]
def O2:Rd:=[(iS 1 126 125,true)]
def dr:Rg:=[iM 103 11,iC 104 .add 103 1,iM 11 104]
def de:aC:=(.seq (sq Oz (.cond (Tm 102) .skip (.exit 4))) (.seq (.block 5 (sq O0 (.cond (Tm 108) (dq O1 (.draw O2)) .skip))) (.region dr)))
def O3:Rg:=[iM 29 7,iC 30 .add 29 1,iM 7 30]
def df:aC:=(.seq (sq abR (.cond (Tm 28) .skip (.exit 0))) (.seq (.block 1 (dq abS (.seq (dq abT (.draw abU)) (.seq (sq abV (.block 2 (.loop dd))) (sq Oy (.block 4 (.loop de))))))) (.region O3)))
def O4:Rg:=[iO 127 7 2,iM 128 1,iK2 129 85 127 128,iM 12 129]
def O5:Rg:=[iI 13 0]
def O6:Rg:=[iM 130 13,iF 131 4 2,iL 132 131,iN 133 132,iB 134 .lss 130 133]
def O7:Rd:=[(iF 137 3 6,true),(iL 138 137,true),(iO 139 7 2,false),(iM 140 13,false),(iK2 141 305 139 140,true),(iM 142 12,true),(iM 143 13,true),(iX 144 1 142 143,true),(iL 145 144,true),(iA 146 (.build [zI,zI,zI,zI] [(0,1,(Tm 141)),(1,1,(Ci 1)),(2,1,(Tm 145))]),false),(iA 147 (.aSA true 4 1 [zI,zI,zI,zI] [(0,(Tm 146))]),false),(iA 148 (.append 4 32 (Tm 138) (Tm 147)),true),(iF 149 3 6,false)]
def O8:Rd:=[(iS 1 149 148,true)]
def O9:Rg:=[iM 135 13,iC 136 .add 135 1,iM 13 136]
def dg:aC:=(.seq (sq O6 (.cond (Tm 134) .skip (.exit 6))) (.seq (.block 7 (dq O7 (.draw O8))) (.region O9)))
def Pa:Rg:=[iO 150 4 6,iS 4 4 150,iI 5 0]
def SE:aC:=(sq abM (.seq (sq abN (.cond (Tm 16) (sq abO .ret) .skip)) (sq abP (.seq (sq abQ (.block 0 (.loop df))) (sq O4 (.seq (sq O5 (.block 6 (.loop dg))) (sq Pa .ret)))))))
def aGI:List Nat:=[2,52,95,124,147]
def ut:aW:=⟨2,151,SE,[.cell 4 (some 4),.tmp 5]⟩
def Cs:Rg:=[iT 0 false]
def Ct:Rg:=[iA 8 (.call 27 [(.const .aB),(Ci 1),(Ci 0)]),iA 1 (.alloc [zI,.aB,.aB,.aB,.aB,.aB,.aB]),iS 7 1 8]
def Cu:Rg:=[iA 9 (.build [(.str []),zI] [(0,1,(.const (.str [118,48])))]),iA 10 (.aSA true 2 1 [(.str []),zI] [(0,(Tm 9))]),iF 11 6 1,iS 1 11 10]
def TQ:Rg:=[iO 13 7 1,iA 14 (.call 288 [(Tm 13),(.const .aB)]),iM 12 14,iE 15 12 0,iE 16 12 1,iM 2 15,iM 3 16]
def Cv:Rg:=[iO 18 7 1,iA 19 (.aSA true 1 1 [zI] [(0,(Ci 0))]),iK2 20 288 18 19,iM 17 20,iE 21 17 0,iE 22 17 1,iM 4 21,iM 5 22]
def Cw:Rg:=[iO 24 7 1,iA 25 (.aSA true 1 1 [zI] [(0,(Ci 0))]),iK2 26 289 24 25,iM 23 26,iE 27 23 0,iE 28 23 1,iA 6 (.alloc [.aB,.aB,.aB]),iS 3 6 27,iM 7 28]
def Cx:Rg:=[iM 29 3,iC 30 .eql 29 0,iM 31 30,gM 32 2 31 true,gN 33 32 31 true,gC 34 .eql 33 1 31 true,iP 35 31 34,iM 36 35,gM 37 2 36 true,iG 38 (.aSM 1 (Tm 37) (Ci 0)) 36 true,gL 39 38 36 true,gN 40 39 36 true,gC 41 .eql 40 1 36 true,iP 42 36 41,iM 43 42,gM 44 2 43 true,iG 45 (.aSM 1 (Tm 44) (Ci 0)) 43 true,gL 46 45 43 true,iG 47 (.aSM 1 (Tm 46) (Ci 0)) 43 true,gL 48 47 43 true,gC 49 .eql 48 0 43 true,iP 50 43 49,iM 51 50,gM 52 5 51 true,gC 53 .eql 52 12 51 true,iP 54 51 53,iM 55 54,gM 56 7 55 true,iP 57 55 56,iM 58 57,gO 59 7 1 58 true,iG 60 (.aSA true 1 1 [zI] [(0,(Ci 0))]) 58 true,gO 61 3 6 58 true,iG 62 (.call 290 [(Tm 59),(Tm 60),(Tm 61)]) 58 true,iP 63 58 62,iM 64 63,gO 65 7 1 64 true,gO 66 3 6 64 true,iG 67 (.call 290 [(Tm 65),(.const .aB),(Tm 66)]) 64 true,iG 68 (.un .not (Tm 67)) 64 true,iP 69 64 68,iM 0 69]
def FY:aC:=(sq Cs (sq Ct (sq Cu (sq TQ (sq Cv (sq Cw (sq Cx .ret)))))))
def asJ:List Nat:=[10,19,25,60]
def Ta:aW:=⟨0,70,FY,[.tmp 0]⟩
def Tt:Rg:=[iA 2 (.box true (Tm 0)),iA 3 (.box true (Tm 1)),iT 4 false]
def Tu:Rg:=[iF 6 0 2,iL 7 6,iF 8 0 3,iL 9 8,iB 10 .neq 7 9,iM 11 10,gF 12 1 2 11 false,gL 13 12 11 false,gF 14 1 3 11 false,gL 15 14 11 false,gB 16 .neq 13 15 11 false,iQ 17 11 16,iM 18 17,gF 19 2 2 18 false,gL 20 19 18 false,gF 21 2 3 18 false,gL 22 21 18 false,gB 23 .neq 20 22 18 false,iQ 24 18 23,iM 25 24,gF 26 3 2 25 false,gL 27 26 25 false,gN 28 27 25 false,gF 29 3 3 25 false,gL 30 29 25 false,gN 31 30 25 false,gB 32 .neq 28 31 25 false,iQ 33 25 32]
def aBD:Rg:=[iT 4 false]
def Tv:Rg:=[iI 5 0]
def Tw:Rg:=[iM 34 5,iF 35 3 2,iL 36 35,iN 37 36,iB 38 .lss 34 37]
def Tx:Rd:=[(iF 41 3 2,false),(iL 42 41,false),(iM 43 5,false),(iX 44 4 42 43,false),(iO 45 4 44,false),(iF 46 3 3,false),(iL 47 46,false),(iM 48 5,false),(iX 49 4 47 48,false),(iO 50 4 49,false),(iA 51 (.eqs true [.int,.int,.int,.int] (Tm 45) (Tm 50)),false)]
def aBE:Rg:=[iT 4 false]
def Tz:Rg:=[iM 39 5,iC 40 .add 39 1,iM 5 40]
def Ts:aC:=(.seq (sq Tw (.cond (Tm 38) .skip (.exit 0))) (.seq (.block 1 (dq Tx (.cond (Tm 51) (sq aBE .ret) .skip))) (.region Tz)))
def T0:Rg:=[iT 4 true]
def NL:aC:=(sq Tt (.seq (sq Tu (.cond (Tm 33) (sq aBD .ret) .skip)) (.seq (sq Tv (.block 0 (.loop Ts))) (sq T0 .ret))))
def aBF:List Nat:=[2,3]
def alR:aW:=⟨2,52,NL,[.tmp 4]⟩
def XT:Rg:=[iT 4 false]
def XU:Rg:=[iM 10 0,iA 11 (.call 27 [(Tm 10),(Ci 10),(Ci 4)]),iA 5 (.alloc [zI,.aB,.aB,.aB,.aB,.aB,.aB]),iS 7 5 11]
def XV:Rg:=[iM 12 1,iN 13 12,iC 14 .gtr 13 30]
def XW:Rg:=[iA 15 (.call 312 []),iM 4 15]
def XY:Rg:=[iO 17 7 5,iM 18 1,iK2 19 286 17 18,iM 16 19,iE 20 16 0,iE 21 16 1,iA 6 (.alloc [zI,zI,zI,.aB]),iS 4 6 20,iM 7 21]
def XZ:Rg:=[iO 23 7 5,iM 24 1,iK2 25 307 23 24,iM 22 25,iE 26 22 0,iE 27 22 1,iA 8 (.alloc [zI,zI,zI,.aB]),iS 4 8 26,iM 9 27]
def YA:Rg:=[iM 28 7,iM 29 9,iB 30 .eql 28 29,iM 31 30,gO 32 4 6 31 true,gO 33 4 8 31 true,gK2 34 313 32 33 31 true,iP 35 31 34,iM 36 35,iG 37 (.call 312 []) 36 true,iP 38 36 37,iM 4 38]
def yA:aC:=(sq XT (sq XU (.seq (sq XV (.cond (Tm 14) (sq XW .ret) .skip)) (sq XY (sq XZ (sq YA .ret))))))
def U6:List Nat:=[]
def NK:aW:=⟨2,39,yA,[.tmp 4]⟩
def tR (H:PH) (s:Nat) (q:Nat) (v:PV) (rows:List (List PV)):Prop :=
 ∃ rs e,v=.osl q s e rows.length∧H q=some (.rows s rs)∧e+rows.length≤rs.length∧(rs.drop e).take rows.length=rows
section
variable {H:PH} {s b q:Nat} {v y:PV} {rows src:List (List PV)}
theorem tR.ext {H':PH} (h:tR H s q v rows) (A:∀ x,H q=some x→H' q=some x):tR H' s q v rows:=by
 obtain⟨rs,e,j,l,u,w⟩:=h;exact⟨rs,e,j,A _ l,u,w⟩
theorem tR.tail {r:List PV} (h:tR H s q v (r::rows)):∃ v',PV.slice s v 1 ((rows.length+1:Nat):Int) none=some v'∧tR H s q v' rows:=by
 obtain⟨rs,e,rfl,l,u,j⟩:=h;rw[aVA] at u j;refine⟨.osl q s (e+1) rows.length,?_,rs,e+1,rfl,l,by omega,?_⟩
 ·unfold PV.slice;show (if s=s∧(0:Int)≤1∧(1:Int)≤((rows.length+1:Nat):Int)∧((rows.length+1:Nat):Int)≤((r::rows).length:Nat)∧((none:Option Int)=none∨(none:Option Int)=some ((rows.length+1:Nat):Int)) then some (PV.osl q s (e+(1:Int).toNat) (((rows.length+1:Nat):Int).toNat-(1:Int).toNat)) else none)=_;rw[if_pos ⟨rfl,by omega,by omega,by rw[aVA]; omega,.inl rfl⟩];rfl
 ·have:=congrArg (List.drop 1) j;rw[List.drop_take,List.drop_drop,Nat.add_sub_cancel] at this;exact this
theorem tR.append {K:PV→PH→Prop} (h:tR H s q v rows) (R:eR H s y=some src) (O:roomFor rows.length src.length b)
  (N:∀ J v' H',tR H' s J v' (rows++src)→(J=q∨H J=none)→(∀ o x,o≠q→H o=some x→H' o=some x)→(∀ o,o≠J→H o=none→H' o=none)→K v' H'):lM H s b v y K:=by
 obtain⟨rs,j,rfl,M,I,E⟩:=h;have A:(rows++src).length=rows.length+src.length:=aTM;have F:∀ j,j+rows.length≤rs.length→(rs.drop j).take rows.length=rows→K (.osl q s j (rows.length+src.length)) (H.set q (.rows s (rs.take (j+rows.length)++src))):=fun j I E=>by
  refine N q _ _ ⟨rs.take (j+rows.length)++src,j,by rw[A],by simp only[aT,if_true],by rw[aTM,aTM,aUA]; omega,?_⟩ (.inl rfl) (fun o x l w=>by simp only[aT,if_neg l,w]) fun o l w=>by simp only[aT,if_neg l,w]
  have e:(rs.take (j+rows.length)).drop j=rows:=by rw[List.drop_take,Nat.add_sub_cancel_left,E]
  rw[List.drop_append_of_le_length (by rw[aUA]; omega),e];exact aUS
 have B:∀ o,H o=none→K (.osl o s 0 (rows.length+src.length)) (H.set o (.rows s (rows++src))):=fun o w=>by
  refine N o _ _ ⟨rows++src,0,by rw[A],by simp only[aT,if_true],by omega,by rw[aUV,aUS]⟩ (.inr w) (fun S x l u=>?_) fun S l u=>by simp only[aT,if_neg l,u]
  have:S≠o:=by rintro rfl; rw[w] at u; cases u
  simp only[aT,if_neg this,u]
 cases j with
 | zero =>
  refine⟨src,R,rfl,rfl,O,rs,M,by omega,?_,fun o w=>?_⟩
  ·have:=F 0 I E
   rwa [aUF] at this
  ·rw[aUV] at E;rw[E];exact B o w
 | succ j =>refine⟨src,R,rfl,O,rs,M,I,F _ I E,fun o w=>?_⟩;rw[E];exact B o w
end
section
variable {C:Ctx} {F:PF} {H:PH}
theorem XR {name:Nat} {vs cs:List PV} {e:PH} {R:PV→PH→Prop} {args:List aN} {d:Option Nat} {K:PF→PH→Prop} (h:aG C name (vs++cs) e R) (l:aN.evs F args=some vs) (j:e.le H)
  (u:∀ r H',R r H'→lS H e H'→K (F.put d r) (H.over e H')):hC C name args cs d K F H :=
 .inl ⟨vs++cs,e,R,by rw[l]; rfl,j,h,u⟩
theorem S7 {name o:Nat} {x y:bO} {r:PV} {vs cs:List PV} {args:List aN} {d:Option Nat} {K:PF→PH→Prop} (h:aG C name (vs++cs) (PH.nil.set o x) (fun e H'=>e=r∧H'=PH.nil.set o y)) (u:H o=some x) (j:aN.evs F args=some vs)
  (l:K (F.put d r) (H.set o y)):hC C name args cs d K F H:=by
 refine XR h j (e_ a_ u) ?_;rintro e H' ⟨rfl,rfl⟩ -;rw[PH.qH];exact l
theorem S6 {name:Nat} {vs cs:List PV} {args:List aN} {d:Option Nat} {K:PF→PH→Prop} {B1 B2:List BX} {L1 L2:List LI} {Q:PV→List BX→List LI→Prop} (h:aM H (B1++B2) (L1++L2))
  (w:∀ j,aM j B1 L1→aG C name (vs++cs) j (fun r H'=>∃ B' L',Q r B' L'∧aM H' B' L')) (u:aN.evs F args=some vs)
  (x:∀ r B' L' H',Q r B' L'→aM H' (B'++B2) (L'++L2)→K (F.put d r) H'):hC C name args cs d K F H:=by
 refine XR (w (H.only (eD B1++dP L1)) (h.only (aXG ..) (aXG ..))) u (UV H _) ?_;rintro r H' ⟨B',L',hq,l⟩ e;exact x r B' L' _ hq (h.frame l e)
theorem uU {name o:Nat} {x:bO} {r:PV} {vs cs:List PV} {args:List aN} {d:Option Nat} {K:PF→PH→Prop} (h:aG C name (vs++cs) (PH.nil.set o x) (fun u H'=>u=r∧H'=PH.nil.set o x)) (e:H o=some x) (j:aN.evs F args=some vs)
  (l:K (F.put d r) H):hC C name args cs d K F H:=by
 refine S7 h e j ?_;rw[PH.ayR e];exact l
end
theorem TY {l:List bF} {k:Nat} (h:k<l.length):(l.map bF.cells)[k]?=some (l[k]).cells:=by simp[h]
abbrev pR (n:cJ):bO:=.rows 4 [n.cells]
theorem awW {C:Ctx} (n:cJ) (o x:Nat) (l:x<n.nodes):KI.wp C (aR aiN.res (fun r H'=>r=.bool true∧H'=PH.nil.set o (pR n))) (PF.args [.int .i64 (x:Nat),.ptr o 4 0 0]) (PH.nil.set o (pR n)):=by
 have e:(0:Int)≤(x:Int):=Om;have j:(x:Int)<(n.nodes:Nat):=Om;simp only[go_sem,KI,Mr,aiN,Ms,e,j];exact aV (vs:=[.bool true]) (.inr rfl) _ Ev (fun _ _ h=>h) ⟨rfl,rfl⟩
theorem aoQ {C:Ctx} (y:∀ (n:cJ) (o x:Nat),x<n.nodes→aG C 291 [.int .i64 (x:Nat),.ptr o 4 0 0] (PH.nil.set o (pR n)) (fun r H'=>r=.bool true∧H'=PH.nil.set o (pR n))) (n:cJ) (w:fU n) :
  EC.wp C (aR Mv.res (aI (.bool true))) (PF.args [.agg n.cells]) .nil:=by
 have a1:¬ (n.nodes:Int)<2:=by have:=w.two; omega
 have a2:¬ (n.nodes:Int)>700:=by have:=w.few; omega
 have a3:¬ (n.arcs.length:Int)>2500:=by have:=w.num; omega
 have a4:¬ (n.source:Int)=n.sink:=by have:=w.apart; omega
 have M:=w.num;simp only[go_sem,EC,y7,Mv];refine aO fun o N=>?_;simp only[go_sem,y8,y9,a1,a2,a3,aTJ];refine uU (vs:=[.int .i64 (n.source:Nat)]) (cs:=[.ptr o 4 0 0]) (y n o n.source w.source) (by rw[cL]) Ev ?_;simp only[go_sem];refine uU (vs:=[.int .i64 (n.sink:Nat)]) (cs:=[.ptr o 4 0 0]) (y n o n.sink w.sink) (by rw[cL]) Ev ?_;simp only[go_sem,bE a4,za,aTJ];refine wp_loop (α:=Nat) (fun k=>(((((PF.nil.set 1 (.ptr o 4 0 0)).set 3 (.fn 291 [.ptr o 4 0 0])).set 43 (rk n.arcs)).set 44 (.int .i64 (n.arcs.length:Nat))).set 45 (.int .i64 (k:Nat)))) (fun _=>PH.nil.set o (pR n)) (fun k=>k≤n.arcs.length) (fun k=>n.arcs.length-k) 0 (aTQ _) Lq (fun _ _ h=>h) ?_;intro k J;simp only[go_sem,lj,zb];by_cases hlt:k<n.arcs.length
 ·have u:(k:Int)<(n.arcs.length:Nat):=Om;obtain⟨F,I,K⟩:=w.ends _ (aTN hlt);simp only[go_sem,u,zc,TY hlt];refine aO fun p A=>?_;have l:¬ p=o:=fun e=>by rw[e,cL] at A; cases A
  have j:¬ o=p:=fun e=>l e.symm;simp only[go_sem,l,j,zd];refine uU (vs:=[.int .i64 ((n.arcs[k]).src:Nat)]) (cs:=[.ptr o 4 0 0]) (y n o _ F) (by simp only[go_sem,l,j]) Ev ?_;simp only[go_sem];refine uU (vs:=[.int .i64 ((n.arcs[k]).dst:Nat)]) (cs:=[.ptr o 4 0 0]) (y n o _ I) (by simp only[go_sem,l,j]) Ev ?_;have B:¬ ((n.arcs[k]).cap:Int)<0:=Om;have E:¬ ((n.arcs[k]).cap:Int)>2147483647:=Om;simp only[go_sem,l,j,B,E,ze,wZz k];exact aH (k+1) hlt Om Lq (e_ a_ (by simp only[go_sem,l,j]))
 ·have u:¬ (k:Int)<(n.arcs.length:Nat):=Om;simp only[go_sem,u,lk];refine aQ (.inr rfl) Ev ?_;rfl
structure afO (n:cJ) (cut:List Bool):Prop where
 len:cut.length=n.nodes
 src:cut.getD n.source false=true
 snk:cut.getD n.sink false=false
theorem amI (S:Nat→Bool) (l:List bF) {k:Nat} (h:k<l.length):dO S (l.take (k+1))=dO S (l.take k)+if S (l[k]).src=true∧S (l[k]).dst=false then (l[k]).cap else 0:=by
 have e:∀ (a b:List bF),dO S (a++b)=dO S a+dO S b:=by
  intro a
  induction a with
  | nil=>intro b; simp[dO]
  | cons x a j=>intro b; rw[List.cons_append,dO,dO,j]; omega
 rw[aVS h,e];simp[dO]
theorem rx (S:Nat→Bool) {M:Nat}:∀ {l:List bF},(∀ a∈l,a.cap≤M)→dO S l≤l.length*M
 | [],_=>aTQ _
 | a::l,h=>by have e:=h a (by simp);have j:=rx S (l:=l) fun b hb=>h b (by simp[hb]);rw[dO,aVA,aVW];split<;>omega
theorem amJ {n:cJ} (e:fU n) (S:Nat→Bool) (k:Nat):dO S (n.arcs.take k)≤5368709117500:=by
 have w:=rx S (M:=2147483647) (l:=n.arcs.take k) fun a u=>(e.ends a (List.mem_of_mem_take u)).2.2;have j:(n.arcs.take k).length≤2500:=aWI (by rw[aUA]; omega) e.num;have x:(n.arcs.take k).length*2147483647≤2500*2147483647:=aUM _ j;omega
theorem aES {C:Ctx} (O:∀ n:cJ,fU n→aG C 292 [.agg n.cells] .nil (aI (.bool true))) (n:cJ) (u:fU n) (cut:List Bool) (l:afO n cut) :
  QN.wp C (aR awC.res (aI (.tup [.int .i64 ((dO (fun w=>cut.getD w false) n.arcs:Nat):Int),.bool true]))) (PF.args [.agg n.cells,lD cut]) .nil:=by
 have a1:(cut.length:Int)=n.nodes:=by have:=l.len; omega
 have I:n.source<cut.length:=by rw[l.len]; exact u.source
 have J:n.sink<cut.length:=by rw[l.len]; exact u.sink
 have U:=u.num;have x:lD cut=.sl 1 (bK cut):=rfl;rw[x];simp only[go_sem,QN,Yr,awC,Ys];refine aA (O n u) Ev ?_;simp only[go_sem,jO,bV a1,jM I,jM J,l.src,l.snk,Yt,Yu,aTJ];refine wp_loop (α:=Nat) (fun k=>((((((PF.nil.set 1 (.sl 1 (bK cut))).set 2 (.bN n.cells)).set 6 (.int .i64 ((dO (fun w=>cut.getD w false) (n.arcs.take k):Nat):Int))).set 35 (rk n.arcs)).set 36 (.int .i64 (n.arcs.length:Nat))).set 37 (.int .i64 (k:Nat)))) (fun _=>.nil) (fun k=>k≤n.arcs.length) (fun k=>n.arcs.length-k) 0 (aTQ _) Lq a_ ?_;intro k R;simp only[go_sem,Lr,Yv];by_cases hlt:k<n.arcs.length
 ·have j:(k:Int)<(n.arcs.length:Nat):=Om;obtain⟨M,N,S⟩:=u.ends _ (aTN hlt);have K:(n.arcs[k]).src<cut.length:=by rw[l.len]; exact M
  have B:(n.arcs[k]).dst<cut.length:=by rw[l.len]; exact N
  have y:=amI (fun w=>cut.getD w false) n.arcs hlt;have hb:=amJ u (fun w=>cut.getD w false) (k+1);simp only[go_sem,j,Yw,TY hlt];refine aO fun p V=>?_;simp only[go_sem,Yx,jM K,jM B];cases E:cut.getD (n.arcs[k]).src false with
  | false =>rw[if_neg (by rw[E]; rintro⟨h,-⟩; cases h),aVB] at y;simp only[go_sem,UP,wZz k];exact aH (k+1) hlt Om (by (repeat' (first|exact c_|refine d_ ?_ ?_))<;>first|(simp only[go_sem,y]<;>rfl)|rfl) a_
  | true =>
   simp only[go_sem,jM B];cases F:cut.getD (n.arcs[k]).dst false with
   | true =>rw[if_neg (by rw[F]; rintro⟨-,h⟩; cases h),aVB] at y;simp only[go_sem,UP,wZz k];exact aH (k+1) hlt Om (by (repeat' (first|exact c_|refine d_ ?_ ?_))<;>first|(simp only[go_sem,y]<;>rfl)|rfl) a_
   | false =>
    rw[if_pos ⟨E,F⟩] at y;have e:IntKind.i64.wrap (((dO (fun w=>cut.getD w false) (n.arcs.take k):Nat):Int)+((n.arcs[k]).cap:Int))=((dO (fun w=>cut.getD w false) (n.arcs.take (k+1)):Nat):Int):=by rw[wrap_i64 Om Om]; omega
    simp only[go_sem,Yy,e,UP,wZz k];exact aH (k+1) hlt Om Lq a_
 ·have j:¬ (k:Int)<(n.arcs.length:Nat):=Om;have A:n.arcs.take k=n.arcs:=aUB Om;simp only[go_sem,j,Ls,A];refine aQ (.inr rfl) Ev ?_;rfl
abbrev bY (N:Nat) (v:PV):bO:=.rows 4 [[.int .i64 (N:Nat),.int .i64 0,.int .i64 1,v]]
theorem aFF {C:Ctx} (o N x y z:Nat) (v:PV) (l:List bF) (F:l.length≤1000000) (H:PH) (w:aM H [(o,bY N v)] [(v,4,l.map bF.cells)]) :
  QX.wp C (aR axA.res (fun r H'=>∃ (B':List BX) (L':List LI),(r=.tup []∧∃ v',B'=[(o,bY N v')]∧L'=[(v',4,(l++[(⟨x,y,z⟩:bF)]).map bF.cells)])∧aM H' B' L')) (PF.args [.int .i64 (x:Nat),.int .i64 (y:Nat),.int .i64 (z:Nat),.ptr o 4 0 0]) H:=by
 have E:=w.at 0 rfl;simp only[go_sem,QX,Zr,axA,E];refine w.append 0 rfl (src:=[bF.cells ⟨x,y,z⟩]) rfl ?_ fun v' H' u j=>?_
 ·unfold roomFor;rw[aTJ,aTT];simp only[maxLen];omega
 obtain⟨q,hq⟩:=j (by simp);have e:=u.at 0 rfl;have B:=u.set 0 rfl (bY N v');generalize ((l.map bF.cells++[bF.cells ⟨x,y,z⟩]).length)=len at hq;subst hq;simp only[go_sem,e];refine⟨H'.set o (bY N (.osl q 4 0 len)),if_pos (fun x A=>by rw[aUY] at A; subst A; rfl),?_⟩;refine aV (vs:=[]) (.inl rfl) (H'.set o (bY N (.osl q 4 0 len))) rfl (fun _ _ h=>h) ⟨[(o,bY N (.osl q 4 0 len))],_,⟨rfl,_,rfl,rfl⟩,?_⟩;rw[aUX];exact B
def CP (n:Nat):List Nat→Option (List Nat)
 | []=>none
 | x::t=>match CP n t with
  | some u=>some (x::u)
  | none=>if x+1+t.length=n then none else some (List.range' (x+1) (t.length+1))
theorem zi {n:Nat}:∀ {s u:List Nat},CP n s=some u→u.length=s.length
 | [],_,h=>by cases h
 | x::t,u,h=>by
  rw[CP] at h;split at h
  ·rename_i v e;cases h;simp[zi e]
  ·split at h
   ·cases h
   ·cases h;simp
inductive YK (n:Nat):List Nat→List (List Nat)→Prop
 | last {s:List Nat} (h:CP n s=none):YK n s [s]
 | step {s t:List Nat} {l:List (List Nat)} (h:CP n s=some t) (w:YK n t l):YK n s (s::l)
theorem YK.map {n x k:Nat} {e:List (List Nat)} (y:(x+1+k=n∧e=[])∨(x+1+k≠n∧YK n (List.range' (x+1) (k+1)) e)) {t:List Nat} {l:List (List Nat)} (w:YK n t l) (j:t.length=k):YK n (x::t) (l.map (x::·)++e):=by
 induction w with
 | @last s h =>
  rcases y with ⟨u,rfl⟩ | ⟨u,h2⟩
  ·exact .last (by rw[CP,h]; simp only; rw[if_pos (by rw[j]; exact u)])
  ·exact .step (by rw[CP,h]; simp only; rw[if_neg (by rw[j]; exact u),j]) h2
 | @step s t l h _ A=>exact .step (by rw[CP,h]) (A (by rw[zi h,j]))
def aIP (f:aD) (p:dD) (d:Int):Bool:=p.aRV.contains ((mdl f d.toNat:Nat):Int)
def M0 (s:List Nat):List Int:=s.map fun (x:Nat)=>(x:Int)
def cK (g:Nat→Nat):Nat→Nat
 | 0=>0
 | n+1=>cK g n+g n
theorem wA (g h:Nat→Nat):∀ n,cK (fun k=>g k+h k) n=cK g n+cK h n
 | 0=>rfl
 | n+1=>by rw[cK,cK,cK,wA g h n]; omega
theorem wB {g h:Nat→Nat}:∀ {n:Nat},(∀ k,k<n→g k≤h k)→cK g n≤cK h n
 | 0,_=>aTO _
 | n+1,e=>by rw[cK,cK];exact Nat.add_le_add (wB fun k j=>e k Om) (e n Om)
theorem eM {g h:Nat→Nat}:∀ {n:Nat},(∀ k,k<n→g k=h k)→cK g n=cK h n
 | 0,_=>rfl
 | n+1,e=>by rw[cK,cK,eM (n:=n) fun k j=>e k Om,e n Om]
theorem oQ:∀ n,cK (fun _=>0) n=0
 | 0=>rfl
 | n+1=>by rw[cK,oQ n]
theorem DA (g:Nat→Nat→Nat) (n:Nat):∀ m,cK (fun v=>cK (g v) n) m=cK (fun d=>cK (fun v=>g v d) m) n
 | 0=>by rw[cK];exact (oQ n).symm
 | m+1=>by rw[cK,DA g n m,← wA]; rfl
theorem acC {g:Nat→Nat}:∀ {n k:Nat},k<n→g k≤cK g n
 | 0,_,h=>by omega
 | n+1,k,h=>by
  rw[cK];by_cases e:k=n
  ·subst e; omega
  ·have:=acC (g:=g) (n:=n) (k:=k) Om; omega
theorem LZ (c:Nat) (g:Nat→Nat):∀ n,cK (fun k=>c*g k) n=c*cK g n
 | 0=>rfl
 | n+1=>by rw[cK,cK,LZ c g n,aTX]
def one (b:Bool):Nat:=if b=true then 1 else 0
theorem wR:one true=1:=rfl
theorem wQ:one false=0:=rfl
def fH (p:Nat→Bool) (n:Nat):Nat:=cK (fun k=>one (p k)) n
theorem ii (p:Nat→Bool):∀ n,fH p n=(aTI n).countP p
 | 0=>rfl
 | n+1=>by rw[aWA,List.countP_append,← ii p n,fH,cK];cases h:p n<;>simp[one,h,fH]
def cP (f:aD) (v i:Nat):Nat:=if i=0 then 2+v else 2+f.aRW.length+v*(f.aRX.length-1)+i-1
def bL (f:aD) (d:Nat):Nat:=2+f.aRW.length*f.aRX.length+d
def eJ (f:aD) (v:Nat):Nat:=(mR f v).toNat
def qW (f:aD) (v i:Nat):Nat:=if fD f (bZ f v) i=0 then eJ f v else (fD f (bZ f v) i).toNat
def LM (f:aD) (room:List Int) (d:Nat):Nat:=(mP f room d).toNat
def okD (f:aD) (v d:Nat):Bool:=aIP f (bZ f v) d
def iR (f:aD) (v k:Nat):bF:=⟨cP f v (gX f (k+1)),cP f v (k+1),qW f v (k+1)⟩
def dZ (f:aD) (v d:Nat):bF:=⟨cP f v (eU f d),bL f d,1⟩
def eN (f:aD) (v:Nat):List bF:=⟨0,2+v,eJ f v⟩::((aTI (f.aRX.length-1)).map (iR f v)++((aTI f.aRU.length).filter (okD f v)).map (dZ f v))
def lF (f:aD) (room:List Int) (d:Nat):bF:=⟨bL f d,1,LM f room d⟩
def fR (f:aD) (room:List Int):List bF:=(aTI f.aRW.length).flatMap (eN f)++(aTI f.aRU.length).map (lF f room)
def eE (f:aD) (room:List Int):cJ:=⟨bL f f.aRU.length,0,1,fR f room⟩
def nY (f:aD):Nat:=cK (eJ f) f.aRW.length
theorem kG {f:aD} (h:VF f) {v:Nat} (l:v<f.aRW.length):eJ f v≤8∧1≤eJ f v∧(eJ f v:Int)=mR f v∧∀ i,qW f v i≤8:=by
 obtain⟨j,he⟩:=nL h l;have e:=h.aSH _ (aTN j);rw[he] at e;have u:mR f v=(bZ f v).k+(bZ f v).m:=rfl;unfold qW eJ;refine⟨by omega,by omega,by omega,fun i=>?_⟩;have:=e.2.2.2.2.2.2.1 (lvl f i).toNat;unfold fD;split<;>omega
theorem uN {f:aD} (h:VF f) (room:List Int) {d:Nat} (e:d<f.aRU.length):LM f room d≤16∧(LM f room d:Int)=mP f room d:=by
 have:=aqI h room e;unfold LM;omega
theorem iJ {f:aD} (h:VF f) {v i:Nat} (j:v<f.aRW.length) (hi:i<f.aRX.length):2≤cP f v i∧cP f v i<bL f 0:=by
 have u:=h.root.1;have e:(v+1)*(f.aRX.length-1)≤f.aRW.length*(f.aRX.length-1):=aUM _ j;rw[aVW] at e;have l:f.aRW.length*f.aRX.length=f.aRW.length*(f.aRX.length-1)+f.aRW.length:=by
  conv=>lhs; rw[show f.aRX.length=(f.aRX.length-1)+1 by omega,Nat.mul_succ]
 unfold cP bL;split<;>omega
theorem Sn (f:aD) (v:Nat):(eN f v).length≤f.aRX.length+f.aRU.length+1:=by
 unfold eN;rw[aVA,aTM,aTJ,aTJ,aVY];have:=List.length_filter_le (okD f v) (aTI f.aRU.length);rw[aVY] at this;omega
theorem axG (f:aD) (room:List Int):(fR f room).length≤f.aRW.length*(f.aRX.length+f.aRU.length+1)+f.aRU.length:=by
 unfold fR;rw[aTM,aTJ,aVY];have e:∀ n,((aTI n).flatMap (eN f)).length≤n*(f.aRX.length+f.aRU.length+1):=by
  intro n
  induction n with
  | zero=>simp
  | succ n j =>rw[aWA,List.flatMap_append,aTM,aVW];have:=Sn f n;simp only[List.flatMap_cons,List.flatMap_nil,aVC];omega
 have:=e f.aRW.length;omega
theorem GZ {f:aD} (h:VF f) (room:List Int):fU (eE f room):=by
 obtain⟨s1,s2,s3,s4,N,O⟩:=h.small;have I:bL f f.aRU.length=bL f 0+f.aRU.length:=by unfold bL; omega
 have K:f.aRW.length*f.aRX.length≤12*40:=aWT Om Om;have A:=h.root.1;have hb:bL f 0=2+f.aRW.length*f.aRX.length:=rfl;refine⟨?_,?_,?_,?_,?_,(show (0:Nat)≠1 by decide),fun a ha=>?_⟩
 ·show 2≤bL f f.aRU.length;omega
 ·show bL f f.aRU.length≤700;omega
 ·refine aWI (axG f room) ?_;have:f.aRW.length*(f.aRX.length+f.aRU.length+1)≤12*(40+24+1):=aWT Om Om;omega
 ·show 0<bL f f.aRU.length;omega
 ·show 1<bL f f.aRU.length;omega
 ·show a.src<bL f f.aRU.length∧a.dst<bL f f.aRU.length∧a.cap≤2147483647;have u:∀ d,d<f.aRU.length→bL f d<bL f f.aRU.length:=fun d u=>by unfold bL; omega
  rcases aUR.1 (show a∈fR f room from ha) with ha | ha
  ·obtain⟨v,l,ha⟩:=List.mem_flatMap.1 ha;have l:=aUD.1 l;obtain⟨B,E,F,x⟩:=kG h l;rcases aTW.1 ha with rfl | ha
   ·have:=(iJ h l A).2;simp only[cP,if_true] at this;simp only;exact⟨by omega,by omega,by omega⟩
   ·rcases aUR.1 ha with ha | ha
    ·obtain⟨k,w,rfl⟩:=aUK.1 ha;have w:=aUD.1 w;have M:=(h.dom (k+1) Om Om).2.1;have y:=(iJ h l (i:=gX f (k+1)) Om).2;have J:=(iJ h l (i:=k+1) Om).2;have:=x (k+1);simp only[iR];exact⟨by omega,by omega,by omega⟩
    ·obtain⟨d,j,rfl⟩:=aUK.1 ha;have e:=aUD.1 (aWW.1 j).1;have y:=(iJ h l (i:=eU f d) (h.drive d e).2.2.2.1).2;have:=u d e;simp only[dZ];exact⟨by omega,this,by omega⟩
  ·obtain⟨d,j,rfl⟩:=aUK.1 ha;have e:=aUD.1 j;have:=u d e;have:=uN h room e;simp only[lF];exact⟨by omega,by omega,by omega⟩
def inD (f:aD) (i d:Nat):Bool:=decide (jX f d (lvl f i)=i)
structure tL (f:aD) (room:List Int) (u:Nat→Nat→Bool):Prop where
 num:∀ v,v<f.aRW.length→fH (u v) f.aRU.length=eJ f v
 ok:∀ v d,v<f.aRW.length→d<f.aRU.length→u v d=true→okD f v d=true
 bound:∀ v i,v<f.aRW.length→0<i→i<f.aRX.length→fD f (bZ f v) i≠0→fH (fun d=>u v d&&inD f i d) f.aRU.length≤(fD f (bZ f v) i).toNat
 room:∀ d,d<f.aRU.length→fH (fun v=>u v d) f.aRW.length≤LM f room d
theorem mA (S:Nat→Bool):∀ l m:List bF,dO S (l++m)=dO S l+dO S m
 | [],m=>by simp[dO]
 | a::l,m=>by rw[List.cons_append,dO,dO,mA S l m]; omega
def iV (S:Nat→Bool) (a:bF):Nat:=if S a.src=true∧S a.dst=false then a.cap else 0
theorem AP (S:Nat→Bool) (F:Nat→bF):∀ n,dO S ((aTI n).map F)=cK (fun k=>iV S (F k)) n
 | 0=>rfl
 | n+1=>by rw[aWA,aUX,mA,AP S F n,cK]; rfl
theorem PC (S:Nat→Bool) (F:Nat→List bF):∀ n,dO S ((aTI n).flatMap F)=cK (fun k=>dO S (F k)) n
 | 0=>rfl
 | n+1=>by rw[aWA,List.flatMap_append,mA,PC S F n,cK];simp
theorem DM (S:Nat→Bool) (F:Nat→bF) (p:Nat→Bool):∀ n,dO S (((aTI n).filter p).map F)=cK (fun k=>if p k=true then iV S (F k) else 0) n
 | 0=>rfl
 | n+1=>by rw[aWA,List.filter_append,aUX,mA,DM S F p n,cK];cases h:p n<;>simp[h,dO,iV]
theorem ajJ (a b:Bool) (h:a=true→b=true):one a≤one b:=by
 cases a<;>cases b<;>simp_all [one]
theorem abD (a b:Bool):one (a&&b)=one a*one b:=by cases a<;>cases b<;>rfl
theorem amK {f:aD} (h:VF f) {d:Nat} (x:d<f.aRU.length) (S:Nat→Bool) (D:Nat→Nat) (w:S (D 0)=true):∀ k,k≤4→S (D (upN f k (eU f d)))=false→∃ i,0<i∧i<f.aRX.length∧inD f i d=true∧S (D (gX f i))=true∧S (D i)=false:=by
 have u:upN f 4 (eU f d)=0:=by
  obtain⟨a,b⟩:=TD h x (k:=4) (aTO _);rcases aVP (upN f 4 (eU f d)) with e | e
  ·exact e
  ·have:=(h.dom _ e a).2.2.2.1;omega
 intro k A j;obtain⟨m,E⟩:∃ m,m=4-k:=⟨_,rfl⟩
 induction m generalizing k with
 | zero =>have:k=4:=Om;subst this;rw[u,w] at j;cases j
 | succ m B =>
  cases y:S (D (upN f (k+1) (eU f d))) with
  | false=>exact B (k+1) Om y Om
  | true =>
   obtain⟨a,b⟩:=TD h x A;have l:0<upN f k (eU f d):=by
    rcases aVP (upN f k (eU f d)) with e | e
    ·rw[e,w] at j; cases j
    ·exact e
   refine⟨upN f k (eU f d),l,a,?_,y,j⟩;unfold inD jX;rw[b,decide_eq_true_eq];congr 1;omega
theorem tL.vol {f:aD} (h:VF f) {room:List Int} {u:Nat→Nat→Bool} (A:tL f room u) (S:Nat→Bool) (K:S 0=true) {v:Nat} (B:v<f.aRW.length) :
  eJ f v≤dO S (eN f v)+cK (fun d=>one (u v d)*one (S (bL f d))) f.aRU.length:=by
 have N:dO S (eN f v)=iV S ⟨0,2+v,eJ f v⟩+(cK (fun k=>iV S (iR f v k)) (f.aRX.length-1)+cK (fun d=>if okD f v d=true then iV S (dZ f v d) else 0) f.aRU.length):=by unfold eN;rw[dO,mA,AP,DM]; rfl
 rw[N];cases J:S (2+v) with
 | false =>
  have:iV S ⟨0,2+v,eJ f v⟩=eJ f v:=by unfold iV; simp[K,J]
  omega
 | true =>
  have j:S (cP f v 0)=true:=J;have each:∀ d,d<f.aRU.length→one (u v d)≤one (u v d)*one (S (bL f d))+((if okD f v d=true then iV S (dZ f v d) else 0)+cK (fun k=>one (u v d&&inD f (k+1) d)*one (S (cP f v (gX f (k+1)))&&!S (cP f v (k+1)))) (f.aRX.length-1)):=by
   intro d F;cases R:u v d with
   | false=>exact aTQ _
   | true =>
    have y:=A.ok v d B F R;cases M:S (bL f d) with
    | true=>rw[wR]; omega
    | false =>
     cases E:S (cP f v (eU f d)) with
     | true =>
      have:iV S (dZ f v d)=1:=by unfold iV dZ; simp[M,E]
      rw[if_pos y,this,wR,wQ]; omega
     | false =>obtain⟨i,X,Y,U,V,W⟩:=amK h F S (cP f v) j 0 Om E;have I:=acC (g:=fun k=>one (true&&inD f (k+1) d)*one (S (cP f v (gX f (k+1)))&&!S (cP f v (k+1)))) (n:=f.aRX.length-1) (k:=i-1) Om;simp only[show i-1+1=i by omega,U,V,W,wR,Bool.and_self,aTZ] at I;rw[wR,wQ];omega
  have l:=A.num v B;have w:=wB (n:=f.aRU.length) each;rw[wA,wA,DA] at w;have x:cK (fun k=>cK (fun d=>one (u v d&&inD f (k+1) d)*one (S (cP f v (gX f (k+1)))&&!S (cP f v (k+1)))) f.aRU.length) (f.aRX.length-1)≤cK (fun k=>iV S (iR f v k)) (f.aRX.length-1):=by
   refine wB fun k I=>?_;have e:cK (fun d=>one (u v d&&inD f (k+1) d)*one (S (cP f v (gX f (k+1)))&&!S (cP f v (k+1)))) f.aRU.length=one (S (cP f v (gX f (k+1)))&&!S (cP f v (k+1)))*fH (fun d=>u v d&&inD f (k+1) d) f.aRU.length:=by unfold fH;rw[← LZ];exact eM fun d _=>aUL _ _
   rw[e];unfold iV iR;simp only;cases g1:S (cP f v (gX f (k+1)))<;>cases g2:S (cP f v (k+1))<;>simp only[wR,wQ,aUU,aTS,aTZ,aTV,Bool.and_self,aWM,if_false,if_true,Nat.zero_mul,Nat.one_mul,and_false,false_and,and_self,aTO,aTQ,reduceCtorEq];unfold qW;split
   ·have:fH (fun d=>u v d&&inD f (k+1) d) f.aRU.length≤fH (u v) f.aRU.length:=wB fun d _=>ajJ _ _ fun h=>by rw[aUC] at h; exact h.1
    omega
   ·rename_i O;exact A.bound v (k+1) B Om Om O
  unfold fH at l;omega
theorem tL.cut {f:aD} (h:VF f) {room:List Int} {u:Nat→Nat→Bool} (A:tL f room u) (S:Nat→Bool) (l:S 0=true) (w:S 1=false):nY f≤dO S (fR f room):=by
 unfold fR;rw[mA,PC,AP];have j:nY f≤cK (fun v=>dO S (eN f v)+cK (fun d=>one (u v d)*one (S (bL f d))) f.aRU.length) f.aRW.length:=wB fun v y=>A.vol h S l y;rw[wA,DA] at j;have B:cK (fun d=>cK (fun v=>one (u v d)*one (S (bL f d))) f.aRW.length) f.aRU.length≤cK (fun k=>iV S (lF f room k)) f.aRU.length:=by
  refine wB fun d x=>?_;have e:cK (fun v=>one (u v d)*one (S (bL f d))) f.aRW.length=one (S (bL f d))*fH (fun v=>u v d) f.aRW.length:=by unfold fH;rw[← LZ];exact eM fun v _=>aUL _ _
  rw[e];have:=A.room d x;unfold iV lF;simp only[w];cases S (bL f d) with
  | false=>simp[wQ]
  | true=>simp[wR]; exact this
 omega
def eH (g:Nat→Int):Nat→Int
 | 0=>0
 | n+1=>eH g n+g n
theorem Qh (g h:Nat→Int):∀ n,eH (fun k=>g k+h k) n=eH g n+eH h n
 | 0=>rfl
 | n+1=>by rw[eH,eH,eH,Qh g h n]; omega
theorem eK {g h:Nat→Int}:∀ {n:Nat},(∀ k,k<n→g k=h k)→eH g n=eH h n
 | 0,_=>rfl
 | n+1,e=>by rw[eH,eH,eK (n:=n) fun k j=>e k Om,e n Om]
theorem mD:∀ n,eH (fun _=>0) n=0
 | 0=>rfl
 | n+1=>by rw[eH,mD n]; rfl
theorem BM (g:Nat→Int) (a:Nat):∀ {n:Nat},a<n→eH (fun k=>if k=a then g k else 0) n=g a
 | 0,h=>by omega
 | n+1,h=>by
  rw[eH];by_cases e:n=a
  ·subst e;rw[eK (h:=fun _=>0) (n:=n) fun k j=>by rw[if_neg Om],mD,if_pos rfl];omega
  ·rw[BM g a (n:=n) Om,if_neg e];omega
theorem BL (g:Nat→Nat):∀ n,eH (fun k=>(g k:Int)) n=(cK g n:Int)
 | 0=>rfl
 | n+1=>by rw[eH,cK,BL g n]; simp
theorem fg (g:Nat→Int):∀ n,eH (fun k=>- g k) n=- eH g n
 | 0=>rfl
 | n+1=>by rw[eH,eH,fg g n]; omega
def gW (a:bF) (x:Nat) (w:Nat):Int:=(if a.src=w then (x:Int) else 0)-(if a.dst=w then (x:Int) else 0)
theorem yV (w:Nat):∀ {l:List bF} {xs:List Nat} (m:List bF) (e:List Nat),l.length=xs.length→gI (l++m) (xs++e) w=gI l xs w+gI m e w
 | [],[],m,e,_=>by simp[gI]
 | [],_::_,_,_,h=>by simp at h
 | _::_,[],_,_,h=>by simp at h
 | a::l,x::xs,m,e,h=>by rw[List.cons_append,List.cons_append,gI,gI,yV w m e (by simpa using h)];omega
theorem tz (w:Nat) (L:List Nat) (F:Nat→bF) (y:Nat→Nat):gI (L.map F) (L.map y) w=(L.map fun k=>gW (F k) (y k) w).sum:=by
 induction L with
 | nil=>rfl
 | cons a L e=>rw[aUQ,aUQ,gI,e,aUQ,List.sum_cons]; rfl
theorem SS (g:Nat→Int):∀ n,((aTI n).map g).sum=eH g n
 | 0=>rfl
 | n+1=>by rw[aWA,aUX,List.sum_append,SS g n,eH]; simp
theorem mz (g:Nat→Int) (p:Nat→Bool):∀ n,(((aTI n).filter p).map g).sum=eH (fun k=>if p k=true then g k else 0) n
 | 0=>rfl
 | n+1=>by rw[aWA,List.filter_append,aUX,List.sum_append,mz g p n,eH];cases h:p n<;>simp[h]
theorem Nm (w:Nat) (F:Nat→List bF) (X:Nat→List Nat):∀ n,(∀ v,v<n→(F v).length=(X v).length)→gI ((aTI n).flatMap F) ((aTI n).flatMap X) w=eH (fun v=>gI (F v) (X v) w) n
 | 0,_=>rfl
 | n+1,h=>by
  have j:((aTI n).flatMap F).length=((aTI n).flatMap X).length:=by rw[List.length_flatMap,List.length_flatMap];congr 1;exact aVN fun v e=>h v (by have:=aUD.1 e; omega)
  rw[aWA,List.flatMap_append,List.flatMap_append,yV w _ _ j,Nm w F X n fun v e=>h v Om,eH];simp
theorem JJ:∀ {L:List Nat} {Y:List Nat},L.Nodup→Y.length=L.length→∃ h:Nat→Nat,Y=L.map h
 | [],[],_,_=>⟨fun _=>0,rfl⟩
 | [],_::_,_,h=>by simp at h
 | _::_,[],_,h=>by simp at h
 | a::L,y::Y,x,w=>by obtain⟨j,l⟩:=List.nodup_cons.1 x;obtain⟨h,rfl⟩:=JJ l (show Y.length=L.length by simpa using w);refine⟨fun d=>if d=a then y else h d,?_⟩;rw[aUQ];refine List.cons_eq_cons.2 ⟨(if_pos rfl).symm,aVN fun d u=>?_⟩;have:¬ d=a:=fun e=>j (by rw[← e]; exact u);exact (if_neg this).symm
theorem Ge (F:Nat→List bF):∀ (n:Nat) (xs:List Nat),xs.length=((aTI n).flatMap F).length→∃ X:Nat→List Nat,xs=(aTI n).flatMap X∧∀ v,v<n→(X v).length=(F v).length
 | 0,xs,h=>⟨fun _=>[],by
   have:xs=[]:=by simpa using h
   rw[this]; rfl,fun v j=>by omega⟩
 | n+1,xs,h=>by
  rw[aWA,List.flatMap_append,aTM] at h;have l:([n].flatMap F).length=(F n).length:=by simp
  rw[l] at h;obtain⟨X,u,w⟩:=Ge F n (xs.take ((aTI n).flatMap F).length) (by rw[aUA]; omega);refine⟨fun v=>if v=n then xs.drop ((aTI n).flatMap F).length else X v,?_,fun v j=>?_⟩
  ·rw[aWA,List.flatMap_append];have e:(aTI n).flatMap (fun v=>if v=n then xs.drop ((aTI n).flatMap F).length else X v)=(aTI n).flatMap X:=by rw[List.flatMap_def,List.flatMap_def];congr 1;exact aVN fun v j=>by rw[if_neg (by have:=aUD.1 j; omega)]
   rw[e,← u];simp
  ·by_cases e:v=n
   ·subst e;simp only[if_true];rw[aVE]; omega
   ·simp only[if_neg e];exact w v Om
def qK (f:aD) (s:Nat→Nat) (g h:Nat→Nat→Nat) (v:Nat):List Nat:=s v::((aTI (f.aRX.length-1)).map (g v)++((aTI f.aRU.length).filter (okD f v)).map (h v))
def oV (f:aD) (s:Nat→Nat) (g h:Nat→Nat→Nat) (t:Nat→Nat):List Nat:=(aTI f.aRW.length).flatMap (qK f s g h)++(aTI f.aRU.length).map t
theorem wF (f:aD) (s:Nat→Nat) (g h:Nat→Nat→Nat) (v:Nat):(eN f v).length=(qK f s g h v).length:=by
 unfold eN qK;simp
theorem ir (f:aD) (room:List Int) {xs:List Nat} (y:xs.length=(fR f room).length):∃ s g h t,xs=oV f s g h t:=by
 unfold fR at y;rw[aTM,aTJ,aVY] at y;obtain⟨X,B,x⟩:=Ge (eN f) f.aRW.length (xs.take ((aTI f.aRW.length).flatMap (eN f)).length) (by rw[aUA]; omega);obtain⟨t,I⟩:=JJ (L:=aTI f.aRU.length) (Y:=xs.drop ((aTI f.aRW.length).flatMap (eN f)).length) List.nodup_range (by rw[aVE,aVY]; omega);have each:∀ v,v<f.aRW.length→∃ s0 g0 w,X v=s0::((aTI (f.aRX.length-1)).map g0++((aTI f.aRU.length).filter (okD f v)).map w):=by
  intro v u;have j:=x v u;unfold eN at j;rw[aVA,aTM,aTJ,aTJ,aVY] at j;cases A:X v with
  | nil=>rw[A] at j; simp at j
  | cons s0 Y =>rw[A,aVA] at j;obtain⟨g0,E⟩:=JJ (L:=aTI (f.aRX.length-1)) (Y:=Y.take (f.aRX.length-1)) List.nodup_range (by rw[aUA,aVY]; omega);obtain⟨w,F⟩:=JJ (L:=(aTI f.aRU.length).filter (okD f v)) (Y:=Y.drop (f.aRX.length-1)) (List.nodup_range.filter _) (by rw[aVE]; omega);exact⟨s0,g0,w,by rw[← E,← F,aWH]⟩
 have l:∀ v,∃ q:Nat × (Nat→Nat) × (Nat→Nat),v<f.aRW.length→X v=q.1::((aTI (f.aRX.length-1)).map q.2.1++((aTI f.aRU.length).filter (okD f v)).map q.2.2):=fun v=>by
  by_cases u:v<f.aRW.length
  ·obtain⟨a,b,c,e⟩:=each v u;exact⟨(a,b,c),fun _=>e⟩
  ·exact⟨(0,fun _=>0,fun _=>0),fun h=>absurd h u⟩
 refine⟨fun v=>(Classical.choose (l v)).1,fun v=>(Classical.choose (l v)).2.1,fun v=>(Classical.choose (l v)).2.2,t,?_⟩;unfold oV;rw[← I];have e:(aTI f.aRW.length).flatMap (qK f (fun v=>(Classical.choose (l v)).1) (fun v=>(Classical.choose (l v)).2.1) (fun v=>(Classical.choose (l v)).2.2))=(aTI f.aRW.length).flatMap X:=by rw[List.flatMap_def,List.flatMap_def];congr 1;exact aVN fun v u=>(Classical.choose_spec (l v) (aUD.1 u)).symm
 rw[e,← B,aWH]
theorem qB {f:aD} {v i v' j:Nat} (F:v<f.aRW.length) (y:v'<f.aRW.length) (hi:i<f.aRX.length) (x:j<f.aRX.length) (e:cP f v i=cP f v' j):v=v'∧i=j:=by
 unfold cP at e;split at e<;>split at e
 ·omega
 ·omega
 ·omega
 ·rename_i B E;have l:0<f.aRX.length-1:=Om;have w:v*(f.aRX.length-1)+(i-1)=v'*(f.aRX.length-1)+(j-1):=Om;have u:(v*(f.aRX.length-1)+(i-1))/(f.aRX.length-1)=v:=by rw[aUL,Nat.mul_add_div l,aWQ Om,aVB]
  have A:(v'*(f.aRX.length-1)+(j-1))/(f.aRX.length-1)=v':=by rw[aUL,Nat.mul_add_div l,aWQ Om,aVB]
  rw[w,A] at u;subst u;exact⟨rfl,by omega⟩
theorem UU (f:aD) (s:Nat→Nat) (g h:Nat→Nat→Nat) (v w:Nat):gI (eN f v) (qK f s g h v) w=gW ⟨0,2+v,eJ f v⟩ (s v) w+(eH (fun k=>gW (iR f v k) (g v k) w) (f.aRX.length-1)+eH (fun d=>if okD f v d=true then gW (dZ f v d) (h v d) w else 0) f.aRU.length):=by
 unfold eN qK;rw[gI,yV _ _ _ (by simp),tz,tz,SS,mz]; rfl
theorem ch (f:aD) (room:List Int) (s:Nat→Nat) (g h:Nat→Nat→Nat) (t:Nat→Nat) (w:Nat):gI (fR f room) (oV f s g h t) w=eH (fun v=>gI (eN f v) (qK f s g h v) w) f.aRW.length+eH (fun d=>gW (lF f room d) (t d) w) f.aRU.length:=by
 unfold fR oV;rw[yV,Nm _ _ _ _ fun v _=>wF f s g h v,tz,SS];rw[List.length_flatMap,List.length_flatMap];congr 1;exact aVN fun v _=>wF f s g h v
theorem aiZ {f:aD} (hV:VF f) (room:List Int) (s:Nat→Nat) (g h:Nat→Nat→Nat) (t:Nat→Nat):gI (fR f room) (oV f s g h t) 0=(cK s f.aRW.length:Nat):=by
 rw[ch,← BL];have l:eH (fun d=>gW (lF f room d) (t d) 0) f.aRU.length=0:=by rw[eK (h:=fun _=>0) fun d j=>?_,mD];unfold gW lF bL;simp only;rw[if_neg Om,if_neg Om]; rfl
 rw[l,Int.add_zero];refine eK fun v e=>?_;rw[UU];have u:eH (fun k=>gW (iR f v k) (g v k) 0) (f.aRX.length-1)=0:=by rw[eK (h:=fun _=>0) fun k A=>?_,mD];have x:=(iJ hV e (i:=gX f (k+1)) (by have:=(hV.dom (k+1) Om Om).2.1; omega)).1;have y:=(iJ hV e (i:=k+1) Om).1;unfold gW iR;simp only;rw[if_neg Om,if_neg Om]; rfl
 have w:eH (fun d=>if okD f v d=true then gW (dZ f v d) (h v d) 0 else 0) f.aRU.length=0:=by
  rw[eK (h:=fun _=>0) fun d j=>?_,mD];have x:=(iJ hV e (i:=eU f d) (hV.drive d j).2.2.2.1).1;have z:gW (dZ f v d) (h v d) 0=0:=by unfold gW dZ bL;simp only;rw[if_neg Om,if_neg Om]; rfl
  rw[z];split<;>rfl
 rw[u,w];unfold gW;simp only;rw[if_pos trivial,if_neg Om];omega
theorem aFP {f:aD} (hV:VF f) (room:List Int) (s:Nat→Nat) (g h:Nat→Nat→Nat) (t:Nat→Nat) {v i:Nat} (j:v<f.aRW.length) (hi:i<f.aRX.length) :
  gI (fR f room) (oV f s g h t) (cP f v i)=eH (fun k=>if gX f (k+1)=i then (g v k:Int) else 0) (f.aRX.length-1)+eH (fun d=>if okD f v d=true∧eU f d=i then (h v d:Int) else 0) f.aRU.length-(if i=0 then (s v:Int) else (g v (i-1):Int)):=by
 obtain⟨S,B⟩:=iJ hV j hi;rw[ch];have M:eH (fun d=>gW (lF f room d) (t d) (cP f v i)) f.aRU.length=0:=by rw[eK (h:=fun _=>0) fun d u=>?_,mD];unfold gW lF;unfold bL at B ⊢;simp only;rw[if_neg Om,if_neg Om]; rfl
 have N:eH (fun v'=>gI (eN f v') (qK f s g h v') (cP f v i)) f.aRW.length=gI (eN f v) (qK f s g h v) (cP f v i):=by
  have:=BM (fun v'=>gI (eN f v') (qK f s g h v') (cP f v i)) v j;rw[← this];refine eK fun v' l=>?_;by_cases e:v'=v
  ·rw[if_pos e]
  rw[if_neg e,UU];have a1:gW ⟨0,2+v',eJ f v'⟩ (s v') (cP f v i)=0:=by have O:cP f v' 0≠cP f v i:=fun h=>e (qB l j hV.root.1 hi h).1;have y:2+v'≠cP f v i:=O;unfold gW;simp only;rw[if_neg Om,if_neg y]; rfl
  have a2:eH (fun k=>gW (iR f v' k) (g v' k) (cP f v i)) (f.aRX.length-1)=0:=by rw[eK (h:=fun _=>0) fun k A=>?_,mD];have R:=(hV.dom (k+1) Om Om).2.1;unfold gW iR;simp only;rw[if_neg fun h=>e (qB l j Om hi h).1,if_neg fun h=>e (qB l j Om hi h).1]; rfl
  have a3:eH (fun d=>if okD f v' d=true then gW (dZ f v' d) (h v' d) (cP f v i) else 0) f.aRU.length=0:=by
   rw[eK (h:=fun _=>0) fun d u=>?_,mD];have z:gW (dZ f v' d) (h v' d) (cP f v i)=0:=by unfold gW dZ;simp only;rw[if_neg fun h=>e (qB l j (hV.drive d u).2.2.2.1 hi h).1,if_neg (show ¬ bL f d=cP f v i by unfold bL at B ⊢; omega)]; rfl
   rw[z];split<;>rfl
  rw[a1,a2,a3]; rfl
 rw[M,N,Int.add_zero,UU];have E:gW ⟨0,2+v,eJ f v⟩ (s v) (cP f v i)=- if i=0 then (s v:Int) else 0:=by
  unfold gW;simp only;rw[if_neg Om];by_cases e:i=0
  ·subst e;rw[if_pos rfl,if_pos (show 2+v=cP f v 0 from rfl)];omega
  ·have:¬ 2+v=cP f v i:=fun h=>e ((qB j j hV.root.1 hi (show cP f v 0=cP f v i from h)).2).symm;rw[if_neg e,if_neg this]; rfl
 have F:eH (fun k=>gW (iR f v k) (g v k) (cP f v i)) (f.aRX.length-1)=eH (fun k=>if gX f (k+1)=i then (g v k:Int) else 0) (f.aRX.length-1)-(if i=0 then 0 else (g v (i-1):Int)):=by
  have w:eH (fun k=>if k+1=i then (g v k:Int) else 0) (f.aRX.length-1)=if i=0 then 0 else (g v (i-1):Int):=by
   by_cases e:i=0
   ·subst e;rw[if_pos rfl,eK (h:=fun _=>0) fun k A=>by rw[if_neg Om],mD]
   ·rw[if_neg e,← BM (fun k=>(g v k:Int)) (i-1) (n:=f.aRX.length-1) Om];refine eK fun k A=>?_;by_cases c:k+1=i
    ·rw[if_pos c,if_pos Om]
    ·rw[if_neg c,if_neg Om]
  have:eH (fun k=>gW (iR f v k) (g v k) (cP f v i)) (f.aRX.length-1)=eH (fun k=>(if gX f (k+1)=i then (g v k:Int) else 0)+- (if k+1=i then (g v k:Int) else 0)) (f.aRX.length-1):=by refine eK fun k A=>?_;have R:=(hV.dom (k+1) Om Om).2.1;unfold gW iR;simp only;have x:cP f v (gX f (k+1))=cP f v i↔gX f (k+1)=i:=⟨fun h=>(qB j j Om hi h).2,fun h=>by rw[h]⟩;have K:cP f v (k+1)=cP f v i↔k+1=i:=⟨fun h=>(qB j j Om hi h).2,fun h=>by rw[h]⟩;simp only[x,K];omega
  rw[this,Qh,fg,w]; rfl
 have I:eH (fun d=>if okD f v d=true then gW (dZ f v d) (h v d) (cP f v i) else 0) f.aRU.length=eH (fun d=>if okD f v d=true∧eU f d=i then (h v d:Int) else 0) f.aRU.length:=by refine eK fun d u=>?_;have x:cP f v (eU f d)=cP f v i↔eU f d=i:=⟨fun h=>(qB j j (hV.drive d u).2.2.2.1 hi h).2,fun h=>by rw[h]⟩;unfold gW dZ;simp only[x];rw[if_neg (show ¬ bL f d=cP f v i by unfold bL at B ⊢; omega)];by_cases w:okD f v d=true<;>by_cases J:eU f d=i<;>simp[w,J]
 rw[E,F,I];split<;>omega
theorem aFQ {f:aD} (hV:VF f) (room:List Int) (s:Nat→Nat) (g h:Nat→Nat→Nat) (t:Nat→Nat) {d:Nat} (x:d<f.aRU.length) :
  gI (fR f room) (oV f s g h t) (bL f d)=(t d:Int)-eH (fun v=>if okD f v d=true then (h v d:Int) else 0) f.aRW.length:=by
 rw[ch];have u:∀ v i,v<f.aRW.length→i<f.aRX.length→cP f v i≠bL f d:=fun v i l hi e=>by have:=(iJ hV l hi).2;unfold bL at this e;omega
 have y:eH (fun j=>gW (lF f room j) (t j) (bL f d)) f.aRU.length=(t d:Int):=by
  rw[← BM (fun j=>(t j:Int)) d x];refine eK fun j _=>?_;unfold gW lF bL;simp only;rw[if_neg (Om:¬ 1=2+f.aRW.length*f.aRX.length+d)];by_cases e:j=d
  ·rw[if_pos e,if_pos Om]; omega
  ·rw[if_neg e,if_neg Om]; rfl
 have A:eH (fun v=>gI (eN f v) (qK f s g h v) (bL f d)) f.aRW.length=eH (fun v=>- (if okD f v d=true then (h v d:Int) else 0)) f.aRW.length:=by
  refine eK fun v l=>?_;rw[UU];have a1:gW ⟨0,2+v,eJ f v⟩ (s v) (bL f d)=0:=by have B:2+v≠bL f d:=u v 0 l hV.root.1;unfold gW;simp only;rw[if_neg (by unfold bL; omega),if_neg B]; rfl
  have a2:eH (fun k=>gW (iR f v k) (g v k) (bL f d)) (f.aRX.length-1)=0:=by rw[eK (h:=fun _=>0) fun k E=>?_,mD];have F:=(hV.dom (k+1) Om Om).2.1;unfold gW iR;simp only;rw[if_neg (u v _ l Om),if_neg (u v _ l Om)]; rfl
  have a3:eH (fun j=>if okD f v j=true then gW (dZ f v j) (h v j) (bL f d) else 0) f.aRU.length=- (if okD f v d=true then (h v d:Int) else 0):=by
   have:=BM (fun j=>- (if okD f v j=true then (h v j:Int) else 0)) d x;rw[← this];refine eK fun j w=>?_;unfold gW dZ;simp only;rw[if_neg (u v _ l (hV.drive j w).2.2.2.1)];by_cases e:j=d
   ·subst e;rw[if_pos rfl,if_pos rfl];split<;>omega
   ·rw[if_neg (show ¬ bL f j=bL f d by unfold bL; omega),if_neg e];split<;>rfl
  rw[a1,a2,a3]; omega
 rw[y,A,fg]; omega
theorem afT {f:aD} (h:VF f) {d:Nat} (e:d<f.aRU.length):jX f d 4=eU f d:=by
 unfold jX;rfl
theorem azC {f:aD} (h:VF f) {d i:Nat} (l:d<f.aRU.length) (hi:i<f.aRX.length):one (inD f i d)=cK (fun k=>one (decide (gX f (k+1)=i)&&inD f (k+1) d)) (f.aRX.length-1)+one (decide (eU f d=i)):=by
 have N:=h.xt hi;have I:=h.drive d l;by_cases c:lvl f i=4
 ·have j:cK (fun k=>one (decide (gX f (k+1)=i)&&inD f (k+1) d)) (f.aRX.length-1)=0:=by
   rw[eM (h:=fun _=>0) fun k A=>?_,oQ];obtain⟨g1,g2,g3,g4,F⟩:=h.dom (k+1) Om Om;have:¬ gX f (k+1)=i:=fun e=>by rw[e] at g3; omega
   rw[decide_eq_false this,aTS]; rfl
  rw[j,aUF];unfold inD;rw[c,afT h l]
 ·have j:¬ eU f d=i:=fun e=>c (by rw[← e]; exact I.2.2.2.2);obtain⟨a1,a2⟩:=gv h l (lev:=lvl f i+1) Om Om;have M:0<jX f d (lvl f i+1):=by
   rcases aVP (jX f d (lvl f i+1)) with e | e
   ·rw[e,h.root.2.1] at a2; omega
   ·exact e
  have J:gX f (jX f d (lvl f i+1))=jX f d (lvl f i):=by unfold jX;rw[show 4-(lvl f i).toNat=(4-(lvl f i+1).toNat)+1 by omega,upN]
  rw[decide_eq_false j,show one false=0 from rfl,aVB];have B:∀ k,k<f.aRX.length-1→one (decide (gX f (k+1)=i)&&inD f (k+1) d)=if k=jX f d (lvl f i+1)-1 then one (inD f i d) else 0:=by
   intro k A;obtain⟨g1,g2,g3,g4,F⟩:=h.dom (k+1) Om Om;by_cases e:k=jX f d (lvl f i+1)-1
   ·rw[if_pos e];have y:k+1=jX f d (lvl f i+1):=Om;have t:inD f (k+1) d=true:=by unfold inD;rw[y,a2,decide_eq_true_eq]
    rw[t,aVK,y,J]; rfl
   ·rw[if_neg e];by_cases w:gX f (k+1)=i
    ·have:inD f (k+1) d=false:=by unfold inD;rw[decide_eq_false_iff_not];intro E;rw[w] at g3;rw[show lvl f (k+1)=lvl f i+1 by omega] at E;omega
     rw[this,aUU]; rfl
    ·rw[decide_eq_false w,aTS]; rfl
  rw[eM B];have u:∀ (n a x:Nat),a<n→cK (fun k=>if k=a then x else 0) n=x:=by
   intro n
   induction n with
   | zero=>intro a x h; omega
   | succ n K =>
    intro a x h;rw[cK];by_cases e:n=a
    ·subst e;rw[eM (h:=fun _=>0) fun k A=>by rw[if_neg Om],oQ,if_pos rfl]; omega
    ·rw[K a x Om,if_neg e]; rfl
  rw[u _ _ _ Om]
structure aBW (f:aD) (room:List Int) (s:Nat→Nat) (g h:Nat→Nat→Nat) (t:Nat→Nat):Prop where
 s:∀ v,v<f.aRW.length→s v≤eJ f v
 g:∀ v k,v<f.aRW.length→k<f.aRX.length-1→g v k≤qW f v (k+1)
 h:∀ v d,v<f.aRW.length→d<f.aRU.length→okD f v d=true→h v d≤1
 t:∀ d,d<f.aRU.length→t d≤LM f room d
theorem QJ {l m:List bF} {xs u:List Nat} (w:l.length=xs.length) (h:∀ (i:Nat) a x,(l++m)[i]?=some a→(xs++u)[i]?=some x→x≤a.cap) :
  (∀ (i:Nat) a x,l[i]?=some a→xs[i]?=some x→x≤a.cap)∧∀ (i:Nat) a x,m[i]?=some a→u[i]?=some x→x≤a.cap:=by
 constructor
 ·intro i a x e j;have y:=(aUN.1 e).1;exact h i a x (by rw[aVI y]; exact e) (by rw[aVI Om]; exact j)
 ·intro i a x e j;exact h (l.length+i) a x (by rw[aVG Om,Nat.add_sub_cancel_left]; exact e) (by rw[aVG Om,w,Nat.add_sub_cancel_left]; exact j)
theorem Kr {L:List Nat} {F:Nat→bF} {y:Nat→Nat} (h:∀ (i:Nat) a x,(L.map F)[i]?=some a→(L.map y)[i]?=some x→x≤a.cap):∀ k∈L,y k≤(F k).cap:=by
 intro k e;obtain⟨i,hi,rfl⟩:=aVD e;exact h i _ _ (by rw[aUG,aTP hi]; rfl) (by rw[aUG,aTP hi]; rfl)
theorem Yg {F:Nat→List bF} {X:Nat→List Nat}:∀ {n:Nat},(∀ v,v<n→(F v).length=(X v).length)→(∀ (i:Nat) a x,((aTI n).flatMap F)[i]?=some a→((aTI n).flatMap X)[i]?=some x→x≤a.cap)→∀ v,v<n→∀ (i:Nat) a x,(F v)[i]?=some a→(X v)[i]?=some x→x≤a.cap
 | 0,_,_,v,l=>by omega
 | n+1,u,h,v,l=>by
  rw[aWA,List.flatMap_append,List.flatMap_append] at h;have j:((aTI n).flatMap F).length=((aTI n).flatMap X).length:=by rw[List.length_flatMap,List.length_flatMap];congr 1;exact aVN fun v l=>u v (by have:=aUD.1 l; omega)
  obtain⟨w,y⟩:=QJ j h;by_cases e:v=n
  ·subst e;simpa using y
  ·exact Yg (fun v l=>u v Om) w v Om
theorem axX {f:aD} {room:List Int} {s:Nat→Nat} {g h:Nat→Nat→Nat} {t:Nat→Nat} (l:∀ (i:Nat) a x,(fR f room)[i]?=some a→(oV f s g h t)[i]?=some x→x≤a.cap):aBW f room s g h t:=by
 unfold fR oV at l;have u:((aTI f.aRW.length).flatMap (eN f)).length=((aTI f.aRW.length).flatMap (qK f s g h)).length:=by rw[List.length_flatMap,List.length_flatMap];congr 1;exact aVN fun v _=>wF f s g h v
 obtain⟨A,B⟩:=QJ u l;have E:=Yg (fun v _=>wF f s g h v) A;have F:=Kr B;have each:∀ v,v<f.aRW.length→s v≤eJ f v∧(∀ k,k<f.aRX.length-1→g v k≤qW f v (k+1))∧∀ d,d<f.aRU.length→okD f v d=true→h v d≤1:=by intro v e;have h5:=E v e;unfold eN qK at h5;refine⟨h5 0 _ _ rfl rfl,?_⟩;have I:∀ (i:Nat) a x,((aTI (f.aRX.length-1)).map (iR f v)++((aTI f.aRU.length).filter (okD f v)).map (dZ f v))[i]?=some a→((aTI (f.aRX.length-1)).map (g v)++((aTI f.aRU.length).filter (okD f v)).map (h v))[i]?=some x→x≤a.cap:=fun i a x J M=>h5 (i+1) a x (by simpa using J) (by simpa using M);obtain⟨h7,h8⟩:=QJ (by simp) I;exact⟨fun k w=>Kr h7 k (aUD.2 w),fun d j y=>Kr h8 d (aWW.2 ⟨aUD.2 j,y⟩)⟩
 exact⟨fun v e=>(each v e).1,fun v k e w=>(each v e).2.1 k w,fun v d e j K=>(each v e).2.2 d j K,fun d j=>F d (aUD.2 j)⟩
def lH (f:aD) (h:Nat→Nat→Nat) (v d:Nat):Bool:=okD f v d&&decide (h v d≠0)
theorem Gg {f:aD} (hV:VF f) {room:List Int} {s:Nat→Nat} {g h:Nat→Nat→Nat} {t:Nat→Nat} (M:gP (eE f room) (oV f s g h t)) (y:(nY f:Int)≤jB (eE f room) (oV f s g h t)):tL f room (lH f h):=by
 have P:=axX M.le;have I:∀ v,v<f.aRW.length→s v=eJ f v:=by
  have u:jB (eE f room) (oV f s g h t)=(cK s f.aRW.length:Nat):=aiZ hV room s g h t;rw[u] at y;have B:nY f≤cK s f.aRW.length:=Om;clear y u;unfold nY at B;have F:=P.s;generalize f.aRW.length=n at *
  induction n with
  | zero=>intro v j; omega
  | succ n K =>
   rw[cK,cK] at B;have Y:=F n Om;have Z:cK s n≤cK (eJ f) n:=wB fun v j=>F v Om;intro v j;by_cases e:v=n
   ·subst e; omega
   ·exact K Om (fun v j=>F v Om) v Om
 have nodes:∀ w,2≤w→w<bL f f.aRU.length→gI (fR f room) (oV f s g h t) w=0:=fun w u B=>M.node w B (by show w≠0; omega) (by show w≠1; omega);have x:∀ v d,v<f.aRW.length→d<f.aRU.length→one (lH f h v d)=if okD f v d=true then h v d else 0:=by
  intro v d j l;unfold lH;cases W:okD f v d with
  | false=>rfl
  | true =>
   have:=P.h v d j l W;simp only[aTY,if_true];by_cases e:h v d=0
   ·rw[e]; rfl
   ·rw[decide_eq_true e];have:h v d=1:=Om;rw[this]; rfl
 have below:∀ v,v<f.aRW.length→∀ (m i:Nat),f.aRX.length-i=m→i<f.aRX.length→(if i=0 then s v else g v (i-1))=fH (fun d=>lH f h v d&&inD f i d) f.aRU.length:=by
  intro v j m
  induction m using Nat.strongRecOn with
  | ind m K =>
   intro i N hi;have A:=nodes (cP f v i) (iJ hV j hi).1 (by have:=(iJ hV j hi).2; unfold bL at this ⊢; omega);rw[aFP hV room s g h t j hi] at A;have E:eH (fun k=>if gX f (k+1)=i then (g v k:Int) else 0) (f.aRX.length-1)=(cK (fun k=>if gX f (k+1)=i then fH (fun d=>lH f h v d&&inD f (k+1) d) f.aRU.length else 0) (f.aRX.length-1):Nat):=by
    rw[← BL];refine eK fun k V=>?_;by_cases c:gX f (k+1)=i
    ·have hp:=(hV.dom (k+1) Om Om).2.1;have:=K (f.aRX.length-(k+1)) Om (k+1) rfl Om;rw[if_neg Om,Nat.add_sub_cancel] at this;rw[if_pos c,if_pos c,this]
    ·rw[if_neg c,if_neg c]; rfl
   have S:eH (fun d=>if okD f v d=true∧eU f d=i then (h v d:Int) else 0) f.aRU.length=(cK (fun d=>one (lH f h v d)*one (decide (eU f d=i))) f.aRU.length:Nat):=by rw[← BL];refine eK fun d l=>?_;rw[x v d j l];by_cases O:okD f v d=true<;>by_cases R:eU f d=i<;>simp[O,R,wR,wQ]
   have U:fH (fun d=>lH f h v d&&inD f i d) f.aRU.length=cK (fun k=>if gX f (k+1)=i then fH (fun d=>lH f h v d&&inD f (k+1) d) f.aRU.length else 0) (f.aRX.length-1)+cK (fun d=>one (lH f h v d)*one (decide (eU f d=i))) f.aRU.length:=by
    have a1:fH (fun d=>lH f h v d&&inD f i d) f.aRU.length=cK (fun d=>cK (fun k=>one (lH f h v d)*one (decide (gX f (k+1)=i)&&inD f (k+1) d)) (f.aRX.length-1)+one (lH f h v d)*one (decide (eU f d=i))) f.aRU.length:=by unfold fH;refine eM fun d l=>?_;rw[abD,azC hV l hi,aTX,LZ]
    rw[a1,wA,DA];congr 1;refine eM fun k V=>?_;by_cases c:gX f (k+1)=i
    ·rw[if_pos c,decide_eq_true c];unfold fH;exact eM fun d _=>by rw[aTY]; exact (abD _ _).symm
    ·rw[if_neg c,decide_eq_false c,eM (h:=fun _=>0) fun d _=>by rw[aTS]; rfl,oQ]
   rw[E,S] at A;rw[U];split<;>rename_i c
   ·rw[if_pos c] at A; omega
   ·rw[if_neg c] at A; omega
 have root:∀ d,d<f.aRU.length→inD f 0 d=true:=fun d l=>by
  unfold inD;rw[hV.root.2.1,decide_eq_true_eq];obtain⟨a,b⟩:=gv hV l (lev:=0) Om Om;rcases aVP (jX f d 0) with e | e
  ·exact e
  ·have:=(hV.dom _ e a).2.2.2.1;omega
 refine⟨fun v j=>?_,fun v d j l J=>?_,fun v i j X hi N=>?_,fun d l=>?_⟩
 ·have:=below v j _ 0 rfl hV.root.1;rw[if_pos rfl,I v j] at this;rw[this];unfold fH;exact eM fun d l=>by show one _=one (lH f h v d&&inD f 0 d); rw[root d l,aVK]
 ·unfold lH at J;rw[aUC] at J;exact J.1
 ·have:=below v j _ i rfl hi;rw[if_neg Om] at this;rw[← this];have u:=P.g v (i-1) j Om;rw[show i-1+1=i by omega] at u;unfold qW at u;rw[if_neg N] at u;exact u
 ·have A:=nodes (bL f d) (by unfold bL; omega) (by unfold bL; omega);rw[aFQ hV room s g h t l] at A;have E:eH (fun v=>if okD f v d=true then (h v d:Int) else 0) f.aRW.length=(fH (fun v=>lH f h v d) f.aRW.length:Nat):=by unfold fH;rw[← BL];refine eK fun v j=>?_;rw[x v d j l];split<;>rfl
  rw[E] at A;have:=P.t d l;omega
theorem VB {f:aD} {p:dD} {v:Nat} {row:List Int}:TM f p v row=[]↔(∀ i,i<row.length→0≤row.getD i 0)∧(∀ d,d<f.aRU.length→row.count (d:Int)≤1)∧(∀ i,i<row.length→0≤row.getD i 0→p.aRV.contains ((mdl f (row.getD i 0).toNat:Nat):Int)=true)∧∀ i,i<f.aRX.length→fD f p i>0→rz f row i≤fD f p i:=by
 have e:∀ d,d<f.aRU.length→(Fc f.aRU.length row).getD d 0=(row.count (d:Int):Nat):=fun d h=>by simp[Fc,aTR,h]
 have j:∀ i,i<f.aRX.length→(agL f row).getD i 0=rz f row i:=fun i h=>by simp[agL,aTR,h]
 unfold TM;rw[List.append_eq_nil_iff,List.append_eq_nil_iff,List.append_eq_nil_iff,rQ,rQ,rQ,rQ,and_assoc,and_assoc];refine and_congr ?_ (and_congr ?_ (and_congr ?_ ?_))
 ·refine forall_congr' fun i=>forall_congr' fun hi=>?_;unfold home;rw[decide_eq_false_iff_not]; omega
 ·refine forall_congr' fun d=>forall_congr' fun l=>?_;unfold aBT;rw[e d l,decide_eq_false_iff_not]; omega
 ·refine forall_congr' fun i=>forall_congr' fun hi=>?_;unfold me;by_cases c:0≤row.getD i 0<;>simp[c]
 ·refine forall_congr' fun i=>forall_congr' fun hi=>?_;unfold aBM;rw[j i hi,Bool.and_eq_false_iff,decide_eq_false_iff_not,decide_eq_false_iff_not];omega
theorem Sf {f:aD} (j:dA f=true) {l:List (List Int)} (u:sB f l) (room:List Int):xF f l room=true↔(∀ v (h:v<l.length),TM f (bZ f v) v l[v]=[])∧∀ d,d<f.aRU.length→((l.flatten.count (d:Int):Nat):Int)≤mP f room d:=by
 rw[anR j u.len];refine and_congr ?_ ?_
 ·unfold agS;rw[List.flatMap_eq_nil_iff];constructor
  ·intro h v j;have:=h v (aUD.2 j);unfold axT at this;rw[u.shape j] at this;have e:l.getD v []=l[v]:=by simp[aTR,j]
   rw[e] at this;exact this
  ·intro h v A;have j:=aUD.1 A;unfold axT;rw[u.shape j];have e:l.getD v []=l[v]:=by simp[aTR,j]
   simp only;rw[e];exact h v j
 ·refine forall_congr' fun d=>forall_congr' fun w=>?_;have x:(K3 f l).getD d 0=(l.flatten.count (d:Int):Nat):=by simp[K3,Fc,aTR,w]
  have y:(kM f room).getD d 0=mP f room d:=by simp[kM,aTR,w]
  unfold over;rw[x,y,decide_eq_false_iff_not];omega
theorem count_flatten (d:Int):∀ l:List (List Int),l.flatten.count d=cK (fun v=>(l.getD v []).count d) l.length:=by
 intro l;obtain⟨r,rfl⟩:∃ r,l=List.reverse r:=⟨l.reverse,by simp⟩
 induction r with
 | nil=>rfl
 | cons x r j =>
  rw[List.reverse_cons,List.flatten_append,List.count_append,j,aTM,aTT,cK];congr 1
  ·refine eM fun v e=>?_;rw[aTR,aTR,aVI e]
  ·rw[aTR,aVG (aTO _)];simp
theorem SI {n:Nat} {row:List Int} (u:∀ x∈row,0≤x∧x<n) (J:∀ d:Nat,d<n→row.count (d:Int)≤1) (p:Int→Bool):row.countP p=fH (fun d=>row.contains (d:Int)&&p d) n:=by
 have E:∀ m:Nat,row.countP (fun x=>decide (x<(m:Int))&&p x)=fH (fun d=>row.contains (d:Int)&&p d) (min m n):=by
  intro m
  induction m with
  | zero =>rw[Nat.zero_min];show _=0;rw[List.countP_eq_zero];intro x l;have:=(u x l).1;simp only[aUC,decide_eq_true_eq];omega
  | succ m A =>
   by_cases c:m<n
   ·rw[aVT Om] at A ⊢;have e:row.countP (fun x=>decide (x<((m+1:Nat):Int))&&p x)=row.countP (fun x=>decide (x<(m:Int))&&p x)+row.countP (fun x=>decide (x=(m:Int))&&p x):=by
     clear A J u
     induction row with
     | nil=>rfl
     | cons y t B =>
      rw[List.countP_cons,List.countP_cons,List.countP_cons,B];have:((if (decide (y<((m+1:Nat):Int))&&p y)=true then 1 else 0):Nat)=(if (decide (y<(m:Int))&&p y)=true then 1 else 0)+(if (decide (y=(m:Int))&&p y)=true then 1 else 0):=by
       cases p y with
       | false=>simp
       | true =>
        simp only[aVK,decide_eq_true_eq];by_cases F:y<(m:Int)
        ·rw[if_pos F,if_pos Om,if_neg Om]
        ·rw[if_neg F];by_cases I:y=(m:Int)
         ·rw[if_pos I,if_pos Om]
         ·rw[if_neg I,if_neg Om]
      omega
    rw[e,A,fH,fH,cK];congr 1;have K:=J m c;by_cases j:p m=true
    ·have:row.countP (fun x=>decide (x=(m:Int))&&p x)=row.count (m:Int):=by unfold List.count;refine List.countP_congr fun x _=>?_;simp only[aUC,decide_eq_true_eq,beq_iff_eq];exact⟨fun h=>h.1,fun h=>⟨h,by rw[h]; exact j⟩⟩
     rw[this,j,aVK];by_cases w:(m:Int)∈row
     ·have M:=List.count_pos_iff.2 w;have h5:row.contains (m:Int)=true:=by simpa using w
      rw[h5,wR]; omega
     ·have h5:row.contains (m:Int)=false:=by simpa using w
      rw[h5,wQ,List.count_eq_zero_of_not_mem w]
    ·have j:p m=false:=by simpa using j
     rw[j,aUU,wQ,List.countP_eq_zero];intro x l;simp only[aUC,decide_eq_true_eq];rintro⟨rfl,h⟩;rw[j] at h; cases h
   ·have e:row.countP (fun x=>decide (x<((m+1:Nat):Int))&&p x)=row.countP (fun x=>decide (x<(m:Int))&&p x):=by refine List.countP_congr fun x l=>?_;have:=u x l;simp only[aUC,decide_eq_true_eq];exact⟨fun h=>⟨by omega,h.2⟩,fun h=>⟨by omega,h.2⟩⟩
    rw[e,A,Nat.min_eq_right Om,Nat.min_eq_right Om]
 have:=E n;rw[Nat.min_self] at this;rw[← this];refine List.countP_congr fun x l=>?_;have:=u x l;simp only[aUC,decide_eq_true_eq];exact⟨fun h=>⟨by omega,h⟩,fun h=>h.2⟩
theorem xk (f:aD) (i d:Nat):JE f i (d:Int)=inD f i d:=by
 unfold JE inD;rw[decide_eq_true (Om:(0:Int)≤(d:Int)),aTY,aWN]
def YL (l:List (List Int)) (v d:Nat):Bool:=(l.getD v []).contains (d:Int)
theorem aEM {f:aD} (V:dA f=true) {l:List (List Int)} (I:sB f l) {room:List Int} (h:xF f l room=true):tL f room (YL l):=by
 have hV:=VF.of V;obtain⟨y,A⟩:=(Sf V I room).1 h;have O:∀ v,v<f.aRW.length→∃ row,l.getD v []=row∧(∀ x∈row,0≤x∧x<(f.aRU.length:Nat))∧(∀ d:Nat,d<f.aRU.length→row.count (d:Int)≤1)∧TM f (bZ f v) v row=[]∧(row.length:Int)=mR f v:=by
  intro v j;have u:v<l.length:=by rw[I.len]; exact j
  have e:l.getD v []=l[v]:=by simp[aTR,u]
  obtain⟨a1,a2,-,-⟩:=VB.1 (y v u);refine⟨l[v],e,fun x W=>?_,a2,y v u,I.row v u⟩;obtain⟨i,hi,rfl⟩:=aVD W;have:=a1 i hi;have g:l[v].getD i 0=l[v][i]:=by simp[aTR,hi]
  rw[g] at this;exact⟨this,(I.home _ (aTN u) _ W).2⟩
 refine⟨fun v j=>?_,fun v d j N R=>?_,fun v i j h0 hi U=>?_,fun d N=>?_⟩
 ·obtain⟨row,e,E,B,F,J⟩:=O v j;have:=SI E B fun _=>true;rw[List.countP_true] at this;unfold YL eJ;rw[← J,aWN,this,e];unfold fH;exact eM fun d _=>by dsimp only; rw[aVK]
 ·obtain⟨row,e,E,B,F,J⟩:=O v j;obtain⟨-,-,a3,-⟩:=VB.1 F;unfold YL at R;rw[e] at R;have U:(d:Int)∈row:=by simpa using R
  obtain⟨i,hi,he⟩:=aVD U;have g:row.getD i 0=(d:Int):=by simp[aTR,hi,he]
  have:=a3 i hi (by rw[g]; omega);rw[g] at this;exact this
 ·obtain⟨row,e,E,B,F,J⟩:=O v j;obtain⟨-,-,-,a4⟩:=VB.1 F;obtain⟨hp,he⟩:=nL hV j;have w:=hV.aSH _ (aTN hp);rw[he] at w;have Z:0≤fD f (bZ f v) i:=(w.2.2.2.2.2.2.1 _).1;have K:=a4 i hi Om;have h5:=SI E B (JE f i);unfold rz at K;rw[if_neg Om,h5] at K;have Y:fH (fun d=>row.contains (d:Int)&&JE f i d) f.aRU.length=fH (fun d=>YL l v d&&inD f i d) f.aRU.length:=by unfold fH YL;rw[e];exact eM fun d _=>by dsimp only; rw[xk]
  rw[Y] at K;omega
 ·have S:=A d N;rw[count_flatten,I.len] at S;have X:cK (fun v=>(l.getD v []).count (d:Int)) f.aRW.length=fH (fun v=>YL l v d) f.aRW.length:=by
   unfold fH YL;refine eM fun v j=>?_;obtain⟨row,e,E,B,F,J⟩:=O v j;dsimp only;rw[e];by_cases M:(d:Int)∈row
   ·have K:=List.count_pos_iff.2 M;have h5:row.contains (d:Int)=true:=by simpa using M
    have:=B d N;rw[h5,wR]; omega
   ·have h5:row.contains (d:Int)=false:=by simpa using M
    rw[h5,wQ,List.count_eq_zero_of_not_mem M]
  rw[X] at S;have:=uN hV room N;omega
def oJ (f:aD) (u:Nat→Nat→Bool) (v:Nat):List Int:=M0 ((aTI f.aRU.length).filter (u v))
def sK (f:aD) (u:Nat→Nat→Bool):List (List Int):=(aTI f.aRW.length).map (oJ f u)
theorem Pq (f:aD) (u:Nat→Nat→Bool) (v:Nat) {d:Nat} (j:d<f.aRU.length):(oJ f u v).contains (d:Int)=u v d:=by
 refine Bool.eq_iff_iff.2 ?_;simp only[List.contains_iff_mem];unfold oJ M0;rw[aUK];constructor
 ·rintro⟨e,he,h⟩;have:e=d:=Om;subst this;exact (aWW.1 he).2
 ·intro h;exact⟨d,aWW.2 ⟨aUD.2 j,h⟩,rfl⟩
theorem UY (f:aD) (u:Nat→Nat→Bool) (v:Nat):(∀ x∈oJ f u v,0≤x∧x<(f.aRU.length:Nat))∧(oJ f u v).Nodup∧(oJ f u v).length=fH (u v) f.aRU.length:=by
 refine⟨fun x l=>?_,?_,?_⟩
 ·obtain⟨d,j,rfl⟩:=aUK.1 l;have:=aUD.1 (aWW.1 j).1;omega
 ·exact List.Pairwise.map _ (fun a b h e=>h Om) (List.nodup_range.filter (u v))
 ·unfold oJ M0;rw[aTJ,ii,List.countP_eq_length_filter]
theorem aCA {f:aD} (O:dA f=true) {room:List Int} {u:Nat→Nat→Bool} (A:tL f room u):sB f (sK f u)∧xF f (sK f u) room=true:=by
 have hV:=VF.of O;have y:(sK f u).length=f.aRW.length:=by unfold sK; rw[aTJ,aVY]
 have J:∀ v (h:v<(sK f u).length),(sK f u)[v]=oJ f u v:=fun v h=>(aVQ _).trans (by rw[List.getElem_range]);have N:sB f (sK f u):=by
  refine⟨y,fun v h=>?_,fun r W x I=>?_⟩
  ·have j:v<f.aRW.length:=by rw[← y]; exact h
   rw[J v h,(UY f u v).2.2,A.num v j,(kG hV j).2.2.1]
  ·obtain⟨v,-,rfl⟩:=aUK.1 W;have:=(UY f u v).1 x I;omega
 refine⟨N,(Sf O N room).2 ⟨fun v h=>?_,fun d l=>?_⟩⟩
 ·have j:v<f.aRW.length:=by rw[← y]; exact h
  rw[J v h];obtain⟨B,E,S⟩:=UY f u v;have K:∀ i (h:i<(oJ f u v).length),(oJ f u v).getD i 0=(oJ f u v)[i]:=fun i h=>by simp[aTR,h]
  refine VB.2 ⟨fun i hi=>?_,fun d l=>List.nodup_iff_count.1 E _,fun i hi X=>?_,fun i hi Z=>?_⟩
  ·rw[K i hi];exact (B _ (aTN hi)).1
  ·rw[K i hi];have I:=aTN hi;have hb:=B _ I;obtain⟨d,l,he⟩:=aUK.1 I;have w:=aWW.1 l;have:=A.ok v d j (aUD.1 w.1) w.2;rw[← he];exact this
  ·by_cases R:i=0
   ·unfold rz;rw[if_pos R]; omega
   ·unfold rz;rw[if_neg R,SI B (fun d _=>List.nodup_iff_count.1 E _) (JE f i)];have h5:=A.bound v i j Om hi Om;have V:fH (fun d=>(oJ f u v).contains (d:Int)&&JE f i d) f.aRU.length=fH (fun d=>u v d&&inD f i d) f.aRU.length:=by unfold fH;exact eM fun d l=>by dsimp only; rw[Pq f u v l,xk]
    rw[V];omega
 ·rw[count_flatten,y];have U:cK (fun v=>((sK f u).getD v []).count (d:Int)) f.aRW.length=fH (fun v=>u v d) f.aRW.length:=by
   unfold fH;refine eM fun v j=>?_;have e:(sK f u).getD v []=oJ f u v:=by rw[aTR,aTP (by rw[y]; exact j),aWE,J]
   dsimp only;rw[e];obtain⟨B,E,S⟩:=UY f u v;have M:=Pq f u v l;by_cases F:(d:Int)∈oJ f u v
   ·have Y:=List.count_pos_iff.2 F;have h5:(oJ f u v).contains (d:Int)=true:=by simpa using F
    have:=List.nodup_iff_count.1 E (d:Int);rw[← M,h5,wR]; omega
   ·have h5:(oJ f u v).contains (d:Int)=false:=by simpa using F
    rw[← M,h5,wQ,List.count_eq_zero_of_not_mem F]
  rw[U];have h7:=A.room d l;have:=uN hV room l;omega
def AI (f:aD) (room:List Int):Prop:=∃ u,tL f room u
theorem auE {f:aD} (e:dA f=true) {room:List Int}:AI f room↔∃ l,sB f l∧xF f l room=true :=
 ⟨fun ⟨_,A⟩=>⟨_,aCA e A⟩,fun ⟨_,j,h⟩=>⟨_,aEM e j h⟩⟩
theorem wb {f:aD} (hV:VF f) {room:List Int} {xs:List Nat} (e:gP (eE f room) xs) {S:Nat→Bool} (j:S 0=true) (l:S 1=false) (x:jB (eE f room) xs=dO S (fR f room)):(nY f:Int)≤jB (eE f room) xs↔AI f room:=by
 constructor
 ·intro h;obtain⟨s,g,w,t,rfl⟩:=ir f room e.len;exact⟨_,Gg hV e h⟩
 ·rintro⟨u,A⟩;have:=A.cut hV S j l;omega
theorem akC {f:aD} (hV:VF f) (room:List Int):dO (fun w=>decide (w=0)) (fR f room)=nY f:=by
 unfold fR;rw[mA,PC,AP];have l:cK (fun k=>iV (fun w=>decide (w=0)) (lF f room k)) f.aRU.length=0:=by rw[eM (h:=fun _=>0) fun d e=>?_,oQ];unfold iV lF bL;simp
 rw[l,aVB];refine eM fun v j=>?_;unfold eN;rw[dO,mA,AP,DM];have u:cK (fun k=>iV (fun w=>decide (w=0)) (iR f v k)) (f.aRX.length-1)=0:=by rw[eM (h:=fun _=>0) fun k A=>?_,oQ];have y:=(iJ hV j (i:=gX f (k+1)) (by have:=(hV.dom (k+1) Om Om).2.1; omega)).1;unfold iV iR;simp only;rw[if_neg fun h=>by have:=of_decide_eq_true h.1; omega]
 have x:cK (fun d=>if okD f v d=true then iV (fun w=>decide (w=0)) (dZ f v d) else 0) f.aRU.length=0:=by
  rw[eM (h:=fun _=>0) fun d e=>?_,oQ];have y:=(iJ hV j (i:=eU f d) (hV.drive d e).2.2.2.1).1;have z:iV (fun w=>decide (w=0)) (dZ f v d)=0:=by unfold iV dZ;simp only;rw[if_neg fun h=>by have:=of_decide_eq_true h.1; omega]
  rw[z];split<;>rfl
 rw[u,x];simp
theorem aKD {f:aD} (hV:VF f) {room:List Int} {xs:List Nat} (e:gP (eE f room) xs):jB (eE f room) xs≤nY f:=by
 have:=e.anY (GZ hV room) (S:=fun w=>decide (w=0)) rfl rfl;rw[show dO (fun w=>decide (w=0)) (eE f room).arcs=nY f from akC hV room] at this;exact this

def zG (f:aD) (a:bF):Nat:=(a.src-2-f.aRW.length)/(f.aRX.length-1)
def SC (f:aD) (v:Nat) (a:bF) (x:Nat):Bool:=decide (bL f 0≤a.dst)&&(decide (x≠0)&&decide (zG f a=v))
def uK (f:aD) (v:Nat) (a:bF) (x:Nat):List Int:=if SC f v a x=true then [((a.dst-bL f 0:Nat):Int)] else []
def kN (f:aD) (v:Nat):List bF→List Nat→List Int
 | a::l,x::xs=>uK f v a x++kN f v l xs
 | _,_=>[]
def s8 (f:aD) (l:List bF) (xs:List Nat):List (List Int):=(aTI f.aRW.length).map fun v=>kN f v l xs
theorem qI (f:aD) (v:Nat):∀ {u:List bF} {w:List Nat} (e:List bF) (j:List Nat),u.length=w.length→kN f v (u++e) (w++j)=kN f v u w++kN f v e j
 | [],[],e,j,_=>rfl
 | a::l,x::xs,e,j,h=>by rw[List.cons_append,List.cons_append,kN,kN,qI f v e j (by simpa using h),aUP]
theorem CW {α:Type} (f:aD) (v:Nat) (a:α→bF) (x:α→Nat):∀ (L:List α),kN f v (L.map a) (L.map x)=L.flatMap fun k=>uK f v (a k) (x k)
 | []=>rfl
 | k::L=>by rw[aUQ,aUQ,kN,CW f v a x L,List.flatMap_cons]
theorem flatMap_nil {α β:Type} {g:α→List β}:∀ {L:List α},(∀ k∈L,g k=[])→L.flatMap g=[]
 | [],_=>rfl
 | k::L,h=>by rw[List.flatMap_cons,h k (by simp),flatMap_nil fun j e=>h j (by simp[e])]; rfl
theorem VN {β:Type} {R:List β} {v:Nat}:∀ {n:Nat},v<n→((aTI n).flatMap fun k=>if k=v then R else [])=R
 | 0,h=>by omega
 | n+1,h=>by
  rw[aWA,List.flatMap_append];by_cases e:v=n
  ·subst e;rw[flatMap_nil fun k j=>if_neg (by have:=aUD.1 j; omega)];simp
  ·rw[VN (n:=n) Om];simp[show n≠v by omega]
theorem db {f:aD} {v:Nat} {a:bF} {x:Nat} (h:a.dst<bL f 0):uK f v a x=[]:=by
 unfold uK SC;rw[decide_eq_false Om,aTS]; rfl
theorem Sp {f:aD} (h:VF f) {v d:Nat} (j:d<f.aRU.length):zG f (dZ f v d)=v:=by
 have w:=(h.drive d j).2.2.2;have x:=w.2;have y:=h.root;have l:eU f d≠0:=fun e=>by have u:=(h.drive d j).2.2.2.2;rw[e] at u;have:=y.2.1;omega
 have hlt:eU f d<f.aRX.length:=by have:=(h.drive d j).2.2;omega
 unfold zG dZ cP;simp only;rw[if_neg l,show 2+f.aRW.length+v*(f.aRX.length-1)+eU f d-1-2-f.aRW.length=(eU f d-1)+v*(f.aRX.length-1) by omega,Nat.add_mul_div_right _ _ Om,aWQ Om,aUF]
theorem aGL {f:aD} (h:VF f) (s:Nat→Nat) (g l:Nat→Nat→Nat) {v w:Nat} (A:w<f.aRW.length):kN f v (eN f w) (qK f s g l w)=if w=v then oJ f (lH f l) v else []:=by
 unfold eN qK;rw[kN,db (by have:=iJ h A h.root.1; simp only[cP,if_true] at this; exact this.2),aWP,qI _ _ _ _ (by simp),CW,CW];rw[flatMap_nil fun k B=>db (by have:=aUD.1 B; exact (iJ (i:=k+1) h A Om).2),aWP];by_cases e:w=v
 ·subst e;rw[if_pos rfl];unfold oJ M0;have:∀ L:List Nat,(∀ d∈L,d<f.aRU.length)→((L.filter (okD f w)).flatMap fun d=>uK f w (dZ f w d) (l w d))=(L.filter (lH f l w)).map (fun d:Nat=>(d:Int)):=by
   intro L
   induction L with
   | nil=>intro _; rfl
   | cons d L u =>
    intro x;have j:=x d (by simp);have u:=u fun d j=>x d (by simp[j]);rw[List.filter_cons,List.filter_cons];cases y:okD f w d with
    | false=>rw[show lH f l w d=false by unfold lH; rw[y]; rfl]; exact u
    | true =>
     have E:SC f w (dZ f w d) (l w d)=lH f l w d:=by unfold SC lH;rw[Sp h j,y,decide_eq_true rfl,aVK,decide_eq_true (show bL f 0≤(dZ f w d).dst by show bL f 0≤bL f d; unfold bL; omega)]
     rw[if_pos rfl,List.flatMap_cons,u];unfold uK;rw[E];cases lH f l w d with
     | false=>rfl
     | true =>rw[if_pos rfl,if_pos rfl,aUQ,show (dZ f w d).dst-bL f 0=d by show bL f d-bL f 0=d; unfold bL; omega]; rfl
  exact this _ fun d j=>aUD.1 j
 ·rw[if_neg e];refine flatMap_nil fun d j=>?_;have j:=aUD.1 (aWW.1 j).1;unfold uK SC;rw[Sp h j,decide_eq_false e,aUU,aUU]; rfl
theorem avS {f:aD} (h:VF f) (room:List Int) (s:Nat→Nat) (g e:Nat→Nat→Nat) (t:Nat→Nat):s8 f (fR f room) (oV f s g e t)=sK f (lH f e):=by
 unfold s8 sK;refine aVN fun v j=>?_;have j:=aUD.1 j;have u:∀ L:List Nat,(∀ w∈L,w<f.aRW.length)→(L.flatMap (eN f)).length=(L.flatMap (qK f s g e)).length∧kN f v (L.flatMap (eN f)) (L.flatMap (qK f s g e))=L.flatMap fun w=>if w=v then oJ f (lH f e) v else []:=by
  intro L
  induction L with
  | nil=>intro _; exact⟨rfl,rfl⟩
  | cons w L B =>
   intro x;obtain⟨y,A⟩:=B fun w l=>x w (by simp[l]);refine⟨?_,?_⟩
   ·rw[List.flatMap_cons,List.flatMap_cons,aTM,aTM,y,wF f s g e w]
   ·rw[List.flatMap_cons,List.flatMap_cons,List.flatMap_cons,qI _ _ _ _ (wF f s g e w),A,aGL h s g e (x w (by simp))]
 obtain⟨k1,k2⟩:=u (aTI f.aRW.length) fun w l=>aUD.1 l;unfold fR oV;rw[qI _ _ _ _ k1,k2,VN j,CW,flatMap_nil,aVC];intro d _;exact db (by show 1<bL f 0; unfold bL; omega)
structure fS where
 vols:List Bool
 aSE:List (List Bool)
 aSO:List Bool
def fS.shape (f:aD) (c:fS):Bool:=decide (c.vols.length=f.aRW.length)&&(decide (c.aSE.length=f.aRW.length)&&(decide (c.aSO.length=f.aRU.length)&&c.aSE.all fun r=>decide (r.length=f.aRX.length-1)))
def oA (c:fS):List Bool:=true::false::(c.vols++(c.aSE.flatten++c.aSO))
def HT (c:fS) (w:Nat):Bool:=(oA c).getD w false
def qA (f:aD) (room:List Int) (c:fS):Bool:=c.shape f&&decide (dO (HT c) (fR f room)<nY f)
def wH (f:aD) (S:Nat→Bool):fS:=⟨(aTI f.aRW.length).map fun v=>S (cP f v 0),(aTI f.aRW.length).map fun v=>(aTI (f.aRX.length-1)).map fun i=>S (cP f v (i+1)),(aTI f.aRU.length).map fun d=>S (bL f d)⟩
structure Shape (f:aD) (c:fS):Prop where
 v:c.vols.length=f.aRW.length
 i:c.aSE.length=f.aRW.length
 d:c.aSO.length=f.aRU.length
 r:∀ r∈c.aSE,r.length=f.aRX.length-1
theorem CZ {f:aD} {c:fS}:c.shape f=true↔Shape f c:=by
 unfold fS.shape;simp only[aUC,decide_eq_true_eq,aUH];exact⟨fun ⟨a,b,d,e⟩=>⟨a,b,d,e⟩,fun ⟨a,b,d,e⟩=>⟨a,b,d,e⟩⟩
theorem xC {α:Type} {n:Nat}:∀ {l:List (List α)},(∀ r∈l,r.length=n)→l.flatten.length=l.length*n
 | [],_=>by simp
 | r::l,h=>by rw[List.flatten_cons,aTM,h r (by simp),xC fun r e=>h r (by simp[e]),aVA,aVW];omega
theorem wd {α:Type} {z:α} {n:Nat}:∀ {l:List (List α)} {v i:Nat},(∀ r∈l,r.length=n)→v<l.length→i<n→l.flatten.getD (v*n+i) z=(l.getD v []).getD i z
 | [],v,i,_,e,_=>by simp at e
 | r::l,0,i,h,_,hi=>by have:=h r (by simp);rw[List.flatten_cons,aTR,aVI Om,Nat.zero_mul,aUF,← aTR]; rfl
 | r::l,v+1,i,h,e,hi=>by have u:=h r (by simp);rw[List.flatten_cons,aTR,aVG (by rw[aVW]; omega),show (v+1)*n+i-r.length=v*n+i by rw[aVW]; omega,← aTR,wd (fun r j=>h r (by simp[j])) (by simpa using e) hi]; rfl
theorem aCK (c:fS):HT c 0=true:=rfl
theorem aCJ (c:fS):HT c 1=false:=rfl
theorem aCL {f:aD} {c:fS} (h:Shape f c) {v:Nat} (e:v<f.aRW.length):HT c (cP f v 0)=c.vols.getD v false:=by
 show (oA c).getD (2+v) false=_;rw[show 2+v=v+1+1 by omega];show (c.vols++(c.aSE.flatten++c.aSO)).getD v false=_;rw[aTR,aVI (by rw[h.v]; exact e),← aTR]
theorem aCH {f:aD} {c:fS} (h:Shape f c) {v i:Nat} (e:v<f.aRW.length) (hi:i<f.aRX.length-1):HT c (cP f v (i+1))=(c.aSE.getD v []).getD i false:=by
 show (oA c).getD (cP f v (i+1)) false=_;unfold cP;rw[if_neg Om,show 2+f.aRW.length+v*(f.aRX.length-1)+(i+1)-1=(f.aRW.length+(v*(f.aRX.length-1)+i))+1+1 by omega];show (c.vols++(c.aSE.flatten++c.aSO)).getD _ false=_;have j:=xC h.r;rw[h.i] at j;have hb:(v+1)*(f.aRX.length-1)≤f.aRW.length*(f.aRX.length-1):=aUM _ e;rw[aVW] at hb;rw[aTR,aVG (by rw[h.v]; omega),h.v,Nat.add_sub_cancel_left,aVI Om,← aTR];exact wd h.r (by rw[h.i]; exact e) hi
theorem aCI {f:aD} (hV:VF f) {c:fS} (h:Shape f c) {d:Nat}:HT c (bL f d)=c.aSO.getD d false:=by
 show (oA c).getD (bL f d) false=_;have l:=hV.root.1;have j:f.aRW.length*f.aRX.length=f.aRW.length*(f.aRX.length-1)+f.aRW.length:=by
  conv=>lhs; rw[show f.aRX.length=(f.aRX.length-1)+1 by omega,Nat.mul_succ]
 unfold bL;rw[show 2+f.aRW.length*f.aRX.length+d=(f.aRW.length+(f.aRW.length*(f.aRX.length-1)+d))+1+1 by omega];show (c.vols++(c.aSE.flatten++c.aSO)).getD _ false=_;have e:=xC h.r;rw[h.i] at e;rw[aTR,aVG (by rw[h.v]; omega),h.v,Nat.add_sub_cancel_left,aVG Om,e,Nat.add_sub_cancel_left,← aTR]
theorem atM {f:aD} (hV:VF f) {c:fS} (h:Shape f c):(oA c).length=bL f f.aRU.length:=by
 have j:=hV.root.1;have e:f.aRW.length*f.aRX.length=f.aRW.length*(f.aRX.length-1)+f.aRW.length:=by
  conv=>lhs; rw[show f.aRX.length=(f.aRX.length-1)+1 by omega,Nat.mul_succ]
 unfold oA bL;rw[aVA,aVA,aTM,aTM,xC h.r,h.v,h.i,h.d];omega
theorem P3 (f:aD) (S:Nat→Bool):Shape f (wH f S):=by
 refine⟨by simp[wH],by simp[wH],by simp[wH],fun r e=>?_⟩;obtain⟨v,-,rfl⟩:=aUK.1 e;simp
theorem ia {S T:Nat→Bool}:∀ {l:List bF},(∀ a∈l,S a.src=T a.src∧S a.dst=T a.dst)→dO S l=dO T l
 | [],_=>rfl
 | a::l,h=>by rw[dO,dO,(h a (by simp)).1,(h a (by simp)).2,ia fun b hb=>h b (by simp[hb])]
theorem atE {f:aD} (hV:VF f) (room:List Int) {S T:Nat→Bool} (x:S 0=T 0) (y:S 1=T 1) (u:∀ v i,v<f.aRW.length→i<f.aRX.length→S (cP f v i)=T (cP f v i)) (w:∀ d,d<f.aRU.length→S (bL f d)=T (bL f d)):dO S (fR f room)=dO T (fR f room):=by
 have j:=hV.root.1;refine ia fun a ha=>?_;rcases aUR.1 ha with ha | ha
 ·obtain⟨v,l,ha⟩:=List.mem_flatMap.1 ha;have l:=aUD.1 l;rcases aTW.1 ha with rfl | ha
  ·exact⟨x,u v 0 l j⟩
  rcases aUR.1 ha with ha | ha
  ·obtain⟨k,e,rfl⟩:=aUK.1 ha;have e:=aUD.1 e;exact⟨u v _ l (by have:=(hV.dom (k+1) Om Om).2.1; omega),u v (k+1) l Om⟩
  ·obtain⟨d,e,rfl⟩:=aUK.1 ha;have e:=aUD.1 (aWW.1 e).1;exact⟨u v _ l (by have:=(hV.drive d e).2.2; omega),w d e⟩
 ·obtain⟨d,e,rfl⟩:=aUK.1 ha;exact⟨w d (aUD.1 e),y⟩
theorem aIW {f:aD} (hV:VF f) (room:List Int) {S:Nat→Bool} (l:S 0=true) (u:S 1=false):dO (HT (wH f S)) (fR f room)=dO S (fR f room):=by
 have j:=P3 f S;refine atE hV room (by rw[l]; rfl) (by rw[u]; rfl) (fun v i e hi=>?_) fun d w=>?_
 ·cases i with
  | zero=>rw[aCL j e]; simp[wH,e]
  | succ i =>rw[aCH j e Om];have:i<f.aRX.length-1:=Om;simp[wH,e,this]
 ·rw[aCI hV j]; simp[wH,w]
theorem check_sound {f:aD} (hV:VF f) {room:List Int} {c:fS} (h:qA f room c=true):¬ AI f room:=by
 rintro⟨u,A⟩;unfold qA at h;rw[aUC,decide_eq_true_eq] at h;have:=A.cut hV (HT c) (aCK c) (aCJ c);omega
theorem asF {f:aD} (hV:VF f) {room:List Int} {xs:List Nat} (l:gP (eE f room) xs) {S:Nat→Bool} (e:S 0=true) (j:S 1=false) (u:jB (eE f room) xs=dO S (fR f room)) (w:¬ AI f room):qA f room (wH f S)=true:=by
 have h:=mt (wb hV l e j u).1 w;unfold qA;rw[CZ.2 (P3 f S),aIW hV room e j,aTY,decide_eq_true_eq];omega
end Go.PM
