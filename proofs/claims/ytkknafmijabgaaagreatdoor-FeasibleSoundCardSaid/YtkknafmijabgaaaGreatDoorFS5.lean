/-
  Texts of ours, joined. No condition.
-/
import Derived.Test.YtkknafmijabgaaaGreatDoorFS1
import Derived.Test.YtkknafmijabgaaaGreatDoorFS2
import Derived.Test.YtkknafmijabgaaaGreatDoorFS3
import Derived.Test.YtkknafmijabgaaaGreatDoorFS4
import Derived.Test.YtkknafmijabgaaaGreatDoorRows
import Derived.Test.YtkknafmijabgaaaGreatDoorProg
import Derived.KernelRfl
import Derived.ProofKit
import Derived.WalkKit
import Derived.LaidMore
import Derived.OpenShut
import Derived.Stop.Joined
import Derived.Shelf.Sort.Plain
import Derived.Shelf.Slices.CompactI
import Derived.Shelf.Slices.In.SortNone
set_option linter.unusedSimpArgs false
set_option linter.unusedVariables false
open Nat renaming reduceEqDiff → γ, reduceAdd → δ, reduceSub → ε, reduceMul → ζ, reduceLT → η, reduceLeDiff → θ, reduceBEq → τ
open Int renaming reduceLT → ι, reduceLE → κ, reduceEq → μ, reduceToNat → ν, reduceAdd → ξ, reduceNeg → ο, reduceBEq → ρ, reduceBNe → σ
open List renaming reduceReplicate → υ
open List renaming length_map → aGK, range → aGL, replicate → aGM, length_append → aGO, getElem_mem → aGP, length_singleton → aGR, getElem?_eq_getElem → aGS, getD_eq_getElem?_getD → aGU, mem_cons → aGV, length_take → aGY, take_of_length_le → aGZ, getElem?_map → aHF, mem_range → aHG, not_mem_nil → aHH, mem_map → aHJ, append_assoc → aHN, getElem?_eq_some_iff → aHP, mem_append → aHQ, map_cons → aHR, mem_singleton → aHU, take_length → aHV, drop_zero → aHW, map_append → aHX, append_nil → aHY, getElem?_eq_none → aHZ, all_eq_true → aIA, length_drop → aIE, length_cons → aIF, getElem_of_mem → aIH, mem_of_getElem? → aII, getElem?_append_right → aIJ, getElem?_append_left → aIK, getElem_map → aIN, length_set → aIO, map_congr_left → aIP, Sublist → aIQ, take_succ_eq_append_getElem → aIR, length_nil → aIV, map_nil → aIW, range_succ → aJA, Perm → aJG, take_append_drop → aJH, getElem?_range → aJI, getElem?_take → aJJ, nodup_append → aJK, length_range → aJO, map_map → aJQ, ext_getElem → aJV, mem_cons_of_mem → aJW, nil_append → aJX, mem_filter → aJY, getElem?_drop → aJZ, mem_append_left → aKA, flatMap_append → aKH, sublist_append_left → aKI, length_replicate → aKK, getElem_append_right → aKL
open Nat renaming gcd → aGN, le_refl → aGQ, zero_le → aGW, mul_add → aGX, lt_or_ge → aHD, zero_add → aHE, mul_comm → aHL, mul_le_mul_right → aHO, add_zero → aIC, mod_lt → aIG, eq_zero_or_pos → aIS, min_eq_left → aIT, succ_mul → aIX, add_assoc → aJB, le_trans → aJC, pos_of_ne_zero → aJE, div_eq_of_lt → aJR, div_le_self → aJS, mul_le_mul → aJU
open Option renaming map_some → aHS, some → aIU, getD_some → aJF
open Bool renaming false_and → aHA, not_true → aHB, and_eq_true → aHC, true_and → aHK, not_false → aHM, and_false → aID, and_true → aIY, false_eq_true → aJP
open Int renaming toNat_natCast → aJN
namespace Go.Proofs.YtkknafmijabgaaaGreatDoor
open Go Go.PM Go.RowKit Go.ChangeShapes Go.WideShapes
def awD:List Nat:=[22,78,48,30,26,52,23,51,0,0,0,0,0,0,0,0,0,0,0,0,0,0,0,0,0,0,0,10,21,49,155,163,141,114,113,81,158,157,103,144,167,143,166,171,165,164,139,50,172,108,53,104,105,102,68,101,67,156,80,82,140,106,98,154,138,137,107,36,66,71,65,99,70,64,69,100,63,39,0,0,118,0,57,29,87,40,0,56,145,117,86,0,0,0,0,60,31,89,129,90,131,134,94,130,58,88,95,132,96,133,62,59,61,122,93,92,119,91,125,124,123,127,128,97,153,136,135,147,120,126,150,149,121,152,148,151,170,168,146,181,178,169,180,179,0,0,0,0,0,0,28,0,25,0,55,0,115,85,84,116,83,54,142,112,175,161,162,176,173,160,159,0,0,0,0,0,0,0,0,0,0,0,0,0,0,0,0,0,0,0,0,0,0,0,0,79,0,0,0,0,0,0,0,0,0,0,0,0,0,0,0,0,0,0,0,0,0,0,0,0,0,0,0,0,0,0,0,0,0,0,0,0,0,0,0,0,0,0,0,0,0,0,0,0,0,0,0,0,0,0,0,0,0,0,0,0,0,0,0,0,0,0,0,0,0,0,0,0,0,0,0,0,0,0,0,0,0,0,0,0,0,0,34,35,32,33,12,42,15,17,19,109,72,46,110,111,73,74,41,75,77,47,76,43,38,37,44,13,45,16,18,20,11,14,24,27,3,4,5,6,7,8,9]
def asS:List (Option Nat):=[none,none,none,some 316,some 317,some 318,some 319,some 320,some 321,some 322,some 27,some 312,some 286,some 307,some 313,some 288,some 309,some 289,some 310,some 290,some 311,some 28,some 0,some 6,some 314,some 152,some 4,some 315,some 150,some 83,some 3,some 96,some 284,some 285,some 282,some 283,some 67,some 305,some 304,some 77,some 85,some 298,some 287,some 303,some 306,some 308,some 293,some 301,some 2,some 29,some 47,some 7,some 5,some 50,some 161,some 154,some 87,some 82,some 104,some 111,some 95,some 112,some 110,some 76,some 73,some 70,some 68,some 56,some 54,some 74,some 72,some 69,some 292,some 296,some 297,some 299,some 302,some 300,some 1,some 195,some 58,some 35,some 59,some 160,some 158,some 157,some 90,some 84,some 105,some 97,some 99,some 117,some 115,some 114,some 102,some 106,some 108,some 123,some 62,some 71,some 75,some 55,some 53,some 38,some 51,some 52,some 61,some 66,some 49,some 291,some 294,some 295,some 163,some 34,some 33,some 156,some 159,some 89,some 80,some 116,some 128,some 132,some 113,some 120,some 119,some 118,some 129,some 121,some 122,some 98,some 103,some 100,some 107,some 109,some 101,some 126,some 125,some 65,some 64,some 46,some 60,some 32,some 162,some 41,some 39,some 88,some 138,some 127,some 134,some 131,some 130,some 135,some 133,some 124,some 63,some 30,some 57,some 37,some 36,some 170,some 169,some 165,some 166,some 31,some 45,some 44,some 42,some 40,some 137,some 141,some 136,some 43,some 48,some 168,none,some 164,some 167,none,some 140,some 143,some 142,some 139]
def num (n:Nat):FuncId:=awD.getD n 0
def nameOf (f:FuncId):Option Nat:=asS.getD f none
noncomputable def C:Ctx:=⟨Tryz.prog,num⟩
noncomputable def T (ro:List Nat):Tbl:={ P:=Tryz.prog,num:=num,name:=nameOf,ro:=ro }
theorem bR (T:Tbl) {k:Nat} {fn:Func} {e:bC} (w:C.P.funcs[C.num k]?=some fn) (l:C.P=T.P:=by rfl) (j:C.num=T.num:=by rfl) (y:(fn.name=="runtime.NumGoroutine")=false:=by kernel_rfl) (u:T.func fn=some e:=by kernel_rfl):bO C k e:=fun _ _ _ x h=>abD l j w y u x h
theorem Tryz.own:ownKnob Tryz.prog.godebug=none:=by kernel_rfl
theorem Tryz.laidOut:laidOutB Tryz.prog=true:=by kernel_rfl
theorem itoa:xQ C:=fun n x=>by
 refine⟨⟨Tryz.f79,Tryz.func79,by kernel_rfl,by kernel_rfl⟩,fun E w vs y hW j=>?_⟩;obtain⟨A⟩:=vs;cases j with
 | cons l u =>
 cases u;cases l;refine (Any.strconv_Itoa_small Tryz.arY n x w).mono fun e B he=>?_;obtain⟨rfl,rfl⟩:=he;exact⟨_,.str (bW n),E,.nil,rfl,hW,.str ⟨(Lib.decDigits n).toArray⟩,.refl _ _ _,rfl,rfl⟩
theorem aaQ {pv:PV} (h:PV.Ty (.sl [.int .u8]) pv):∃ l:List Nat,pv=.sl 1 (kB l)∧(∀ x∈l,x<256)∧l.length≤9223372036854775807:=by
 obtain⟨xs,rfl,B,j⟩:=Ty.ajI h;refine⟨xs.map Int.toNat,?_,?_,?_⟩
 ·unfold Xx kB;rw[aJQ];congr 1;refine aIP fun x u=>?_;have:=(j x u).1;simp only[Function.comp];rw[Int.toNat_of_nonneg this]
 ·intro y w;obtain⟨x,e,rfl⟩:=aHJ.1 w;have:=(j x e).2;have A:=(j x e).1;have e:IntKind.u8.max=255:=by decide
  rw[e] at this;omega
 ·rw[aGK];have:maxLen≤9223372036854775807:=by decide
  omega
end Go.Proofs.YtkknafmijabgaaaGreatDoor
namespace Go.PM
open Go Go.Na
theorem bd {f:aC} (h:VF f) {d:Nat} (e:d<f.aEW.length) {lev:Int} (j:0≤lev) (l:lev≤4):iU f d lev<f.aEZ.length∧lvl f (iU f d lev)=lev:=by
 unfold iU;obtain⟨a,b⟩:=GP h e (k:=4-lev.toNat) Om;refine⟨a,?_⟩;rw[b]; omega
theorem qB {f:aC} (h:VF f) {i:Nat} (hi:i<f.aEZ.length):0≤lvl f i∧lvl f i≤4:=by
 rcases aIS i with e | e
 ·rw[e,h.root.2.1]; omega
 ·have:=h.dom i e hi; omega


theorem St (a b:Nat):mkT (a:Int) (b:Int)=⟨false,aK (a/aGN a b),aK (b/aGN a b)⟩:=by
 have e:decide ((a:Int)<0)=false:=decide_eq_false Om;have j:decide ((b:Int)<0)=false:=decide_eq_false Om;unfold mkT vL FV.rf;rw[e,j,Int.natAbs_natCast,Int.natAbs_natCast];rfl
structure SmF (x:RF) (p q:Nat):Prop where
 eq:x=⟨false,aK (p/aGN p q),aK (q/aGN p q)⟩
 a:p≤64
 b:q≤64
 pos:0<q
theorem SmF.mk' {a b:Nat} (e:a≤64) (hb:b≤64) (h:0<b):SmF (mkT (a:Int) (b:Int)) a b:=⟨St a b,e,hb,h⟩
theorem SmF.num {x:RF} {a b:Nat} (h:SmF x a b):val x.num=a/aGN a b:=by rw[h.eq,aY]
theorem SmF.den {x:RF} {a b:Nat} (h:SmF x a b):val x.den=b/aGN a b:=by rw[h.eq,aY]
theorem SmF.v {x:RF} {a b:Nat} (h:SmF x a b):x.v=(false,a/aGN a b,b/aGN a b):=by
 unfold RF.v;rw[h.num,h.den,h.eq]
theorem SmF.Jh {x:RF} {a b:Nat} (_:SmF x a b):a/aGN a b≤a:=aJS ..
theorem SmF.Al {x:RF} {a b:Nat} (_:SmF x a b):b/aGN a b≤b:=aJS ..
theorem SmF.den_pos {x:RF} {a b:Nat} (h:SmF x a b):0<b/aGN a b:=Nat.div_pos (Nat.le_of_dvd h.pos (Nat.gcd_dvd_right a b)) (Nat.gcd_pos_of_pos_right a h.pos)
theorem zL {n:Nat} (h:n≤4096):cN n≤32:=(mX n 32).2 Om
theorem Nv {n:Nat} (h:0<n):0<cN n:=by
 rcases aIS (cN n) with e | e
 ·rw[kG] at e; omega
 ·exact e
theorem uU {a b:Nat} (j:a≤4096) (hb:b≤4096) (h:0<b):dZ a b=true:=by
 have l:=zL j;have u:=zL hb;have e:=Nv h;unfold dZ;rw[decide_eq_true e,decide_eq_true (Om:cN b≤4096),decide_eq_true (Om:cN a≤4096)];rfl
theorem R8 {n:Bool} {a b:Nat} (e:a≤4096) (hb:b≤4096):lL n a b=.ok (n&&decide (a/aGN a b≠0),a/aGN a b,b/aGN a b):=by
 have j:=zL (aJC (aJS a (aGN a b)) e);have l:=zL (aJC (aJS b (aGN a b)) hb);unfold lL;rw[if_neg Om]
theorem SmF.lim {x:RF} {a b:Nat} (h:SmF x a b):fP x=true:=by
 have w:=h.Jh;have y:=h.Al;have e:=h.den_pos;have:=h.a;have:=h.b;have j:x.neg=false:=by rw[h.eq]
 unfold fP vQ;rw[h.num,h.den,j,uU Om Om e,if_pos rfl,R8 Om Om];have l:=aJS (a/aGN a b) (aGN (a/aGN a b) (b/aGN a b));have u:=aJS (b/aGN a b) (aGN (a/aGN a b) (b/aGN a b));simp only[aHA,aHM,aHK,aHC,decide_eq_true_eq];exact⟨zL Om,zL Om⟩
theorem SmF.wC {x:RF} {a b:Nat} (h:SmF x a b) (e:0<a):bT x=true:=by
 unfold bT;rw[h.num];exact decide_eq_true (Nat.ne_of_gt (Nat.div_pos (Nat.le_of_dvd e (Nat.gcd_dvd_left a b)) (Nat.gcd_pos_of_pos_right a h.pos)))
theorem SmF.zero {x:RF} {b:Nat} (h:SmF x 0 b):bT x=false:=by
 unfold bT;rw[h.num,Nat.zero_div];rfl
theorem SmF.one {x:RF} {a b:Nat} (h:SmF x a b) (e:a≤b):ZI x=true:=by
 have u:=h.Jh;have w:=h.Al;have j:=h.den_pos;have:=h.a;have:=h.b;have l:x.neg=false:=by rw[h.eq]
 unfold ZI;rw[h.num,h.den,l,uU Om Om j];have:a/aGN a b≤b/aGN a b:=Nat.div_le_div_right e;show (true&&decide (eP (a/aGN a b*1) (1*(b/aGN a b))≤0))=true;rw[Nat.mul_one,Nat.one_mul,aHK];refine decide_eq_true ?_;unfold eP;split
 ·decide
 ·split
  ·omega
  ·decide
theorem SmF.ok {x:RF} {a b:Nat} (h:SmF x a b):x.Ok:=by
 have e:=h.Jh;have j:=h.Al;have:=h.a;have:=h.b;have k1:nl (a/aGN a b)≤1:=(jM _ _).2 Om;have k2:nl (b/aGN a b)≤1:=(jM _ _).2 Om;rw[h.eq];refine⟨bE _,bE _,?_,?_⟩
 ·show (aK _).length≤_;rw[bJ]; omega
 ·show (aK _).length≤_;rw[bJ]; omega
theorem aqD:∀ c:Fin 9,∀ k:Fin 9,c.val+k.val≤8 →
  (c.val/aGN c.val 8*(8/aGN k.val 8)+k.val/aGN k.val 8*(8/aGN c.val 8))/aGN (c.val/aGN c.val 8*(8/aGN k.val 8)+k.val/aGN k.val 8*(8/aGN c.val 8)) (8/aGN c.val 8*(8/aGN k.val 8))=(c.val+k.val)/aGN (c.val+k.val) 8 ∧
  8/aGN c.val 8*(8/aGN k.val 8)/aGN (c.val/aGN c.val 8*(8/aGN k.val 8)+k.val/aGN k.val 8*(8/aGN c.val 8)) (8/aGN c.val 8*(8/aGN k.val 8))=8/aGN (c.val+k.val) 8:=by decide +kernel
abbrev eV (c:Nat):FV:=(false,c/aGN c 8,8/aGN c 8)
theorem TK (c:Nat):0<8/aGN c 8:=Nat.div_pos (Nat.le_of_dvd (by decide) (Nat.gcd_dvd_right c 8)) (Nat.gcd_pos_of_pos_right c (by decide))
theorem zz {c k:Nat} (h:c+k≤8):kS (eV c) (eV k)=.ok (eV (c+k)):=by
 obtain⟨e,j⟩:=aqD ⟨c,by omega⟩ ⟨k,by omega⟩ h;simp only at e j;have a1:=aJS c (aGN c 8);have a2:=aJS k (aGN k 8);have a3:=aJS 8 (aGN c 8);have a4:=aJS 8 (aGN k 8);have l:=TK c;have u:=TK k;simp only[kS];rw[uU Om Om l,uU Om Om u,Bool.and_self,if_pos rfl,if_pos trivial];have w:c/aGN c 8*(8/aGN k 8)≤8*8:=aJU Om a4;have x:k/aGN k 8*(8/aGN c 8)≤8*8:=aJU Om a3;have y:8/aGN c 8*(8/aGN k 8)≤8*8:=aJU a3 a4;rw[R8 Om Om,e,j];rfl
theorem QN:∀ (l:List Nat) (c:Nat),c+l.sum≤8→(l.map eV).foldlM kS (eV c)=.ok (eV (c+l.sum))
 | [],c,_=>rfl
 | k::l,c,h=>by rw[List.sum_cons] at h;rw[aHR,List.foldlM_cons,zz Om,List.sum_cons,← aJB];exact QN l (c+k) Om
theorem aqC:eV 0=(false,0,1):=by decide +kernel
theorem ahN:eV 8=(false,1,1):=by decide +kernel
theorem auD (l:List Nat) (h:l.sum=8):(match rI (l.map eV) with
  | .ok (n,a,b)=>decide (xV n a b false 1 1=0)
  | .error _=>false)=true:=by
 unfold rI;rw[← aqC,QN l 0 Om,aHE,h,ahN];rfl
def dig (k:Nat):List UInt8:=if k<10 then [UInt8.ofNat (48+k)] else [UInt8.ofNat (48+k/10),UInt8.ofNat (48+k%10)]
def TE:List UInt8→Nat
 | [a]=>a.toNat-48
 | [a,b]=>(a.toNat-48)*10+(b.toNat-48)
 | _=>0
theorem OH {k:Nat} (h:k<100):bW k=dig k:=by
 unfold bW dig;by_cases e:k<10
 ·rw[if_pos e]; exact Lib.decDigits_one e
 ·rw[if_neg e]; exact Lib.decDigits_two e h
theorem An:∀ k:Fin 100,TE (dig k.val)=k.val∧(dig k.val).length≤2∧((dig k.val).all fun c=>jI c.toNat)=true:=by decide +kernel
theorem l6 {p:List UInt8} {c:UInt8} {t:List UInt8} (e:p=c::t) (l:jJ c.toNat=true) (x:(t.all fun c=>jI c.toNat)=true) (y:p.length≤8) {k:Nat} (u:k<100):isName (p++bW k)=true:=by
 obtain⟨-,w,j⟩:=An ⟨k,u⟩;simp only at w j;subst e;rw[OH u];show (decide ((c::t++dig k).length≤16)&&jJ c.toNat&&(c::t++dig k).all fun c=>jI c.toNat)=true;have hi:jI c.toNat=true:=by unfold jI; rw[l]; rfl
 rw[decide_eq_true (by rw[aGO]; omega),l,List.all_append,j,List.all_cons,x,hi];rfl
theorem TJ {l:List (List UInt8)} (u:∀ x∈l,isName x=true) (w:l.Nodup):distinct l=true:=by
 unfold distinct;rw[aIA];intro i hi;rw[aHG] at hi;have e:l.getD i []=l[i]:=by simp[aGU,hi]
 rw[e,u _ (aGP hi),aHK];have:¬ l[i]∈l.take i:=by intro A;obtain⟨j,y,e⟩:=aIH A;rw[aGY] at y;rw[List.getElem_take] at e;have:=(List.nodup_iff_pairwise_ne.1 w);rw[List.pairwise_iff_getElem] at this;exact this j i Om hi Om e
 simp[this]
theorem PD {l:List (List UInt8)} {g:List UInt8→Nat} (h:∀ i (hi:i<l.length),g l[i]=i):l.Nodup:=by
 rw[List.nodup_iff_pairwise_ne,List.pairwise_iff_getElem];intro i j hi w hlt e;have u:=h i hi;have x:=h j w;rw[e] at u;omega
theorem tY {l:List (List UInt8)} {p:List UInt8} {c:UInt8} {t:List UInt8} (e:p=c::t) (j:jJ c.toNat=true) (w:(t.all fun c=>jI c.toNat)=true) (u:p.length≤8) (A:l.length≤100) (h:∀ i (hi:i<l.length),l[i]=p++bW i):distinct l=true:=by
 refine TJ ?_ (PD (g:=fun s=>TE (s.drop p.length)) ?_)
 ·intro x y;obtain⟨i,hi,rfl⟩:=aIH y;rw[h i hi];exact l6 e j w u Om
 ·intro i hi;rw[h i hi];simp only[List.drop_left];rw[OH Om];exact (An ⟨i,by omega⟩).1
structure tN (x:RF):Prop where
 lim:fP x=true
 ok:x.Ok
theorem SmF.o {x:RF} {a b:Nat} (h:SmF x a b):tN x:=⟨h.lim,h.ok⟩
theorem qK:SmF kC 0 1:=SmF.mk' (a:=0) (b:=1) (by decide) (by decide) (by decide)
theorem sF (l:List Nat) (a:Nat):tN (fV l a).1∧bT (fV l a).1=true:=by
 have e:=bU l (show 0<6 by decide) a;have j:=bU l (show 0<8 by decide) (aD l 6 a).2;have:=SmF.mk' (a:=1+(aD l 6 a).1) (b:=1+(aD l 8 (aD l 6 a).2).1) Om Om Om;exact⟨this.o,this.wC Om⟩
theorem ahC (l:List Nat) (i j a:Nat):tN (jL l i j a).1∧(j=i→bT (jL l i j a).1=false)∧(j=i+1→bT (jL l i j a).1=true):=by
 unfold jL;by_cases e:j=i+1
 ·rw[if_pos e];exact⟨(sF l a).1,fun h=>by omega,fun _=>(sF l a).2⟩
 ·rw[if_neg e];by_cases u:j=i
  ·rw[if_pos u];exact⟨qK.o,fun _=>qK.zero,fun h=>absurd h e⟩
  ·rw[if_neg u];simp only;split
   ·exact⟨(sF l _).1,fun h=>absurd h u,fun h=>absurd h e⟩
   ·exact⟨qK.o,fun h=>absurd h u,fun h=>absurd h e⟩
theorem U9 (l:List Nat) (i a:Nat):∀ n,(dT l i a n).1.length=n∧∀ j (u:j<(dT l i a n).1.length),tN (dT l i a n).1[j]∧(j=i→bT (dT l i a n).1[j]=false)∧(j=i+1→bT (dT l i a n).1[j]=true)
 | 0=>⟨rfl,fun j u=>absurd u (by simp[dT])⟩
 | n+1=>by
  obtain⟨w,x⟩:=U9 l i a n;have e:(dT l i a (n+1)).1=(dT l i a n).1++[(jL l i n (dT l i a n).2).1]:=rfl;rw[e];refine⟨by simp[w],fun j u=>?_⟩;by_cases hlt:j<(dT l i a n).1.length
  ·rw[List.getElem_append_left hlt]; exact x j hlt
  ·rw[aGO,aGR] at u;have:j=n:=Om;subst this;rw[aKL Om];simp only[List.getElem_singleton];exact ahC l i j _
theorem U8 (l:List Nat) (a:Nat):∀ n,(kK l a n).1.length=n∧∀ x∈(kK l a n).1,tN x∧bT x=true
 | 0=>⟨rfl,fun x j=>by cases j⟩
 | n+1=>by
  obtain⟨u,w⟩:=U8 l a n;have e:(kK l a (n+1)).1=(kK l a n).1++[(fV l (kK l a n).2).1]:=rfl;rw[e];refine⟨by simp[u],fun x j=>?_⟩;rw[aHQ,aHU] at j;rcases j with j | rfl
  ·exact w x j
  ·exact sF l _
theorem ahR (l:List Nat) (n i a:Nat):tN (fG l n i a).1∧(i+1=n→bT (fG l n i a).1=true):=by
 unfold fG;by_cases h:i+1<n
 ·simp only[if_pos h];refine⟨?_,fun e=>by omega⟩;split
  ·exact qK.o
  ·exact (sF l a).1
 ·simp only[if_neg h];exact⟨(sF l a).1,fun _=>(sF l a).2⟩
def avG (n:Nat) (aFB:List (List RF)):Prop:=∀ i (hi:i<aFB.length),aFB[i].length=n∧∀ j (e:j<aFB[i].length),tN aFB[i][j]∧(j=i→bT aFB[i][j]=false)∧(j=i+1→bT aFB[i][j]=true)
def auX (n:Nat) (exit:List RF):Prop:=∀ i (hi:i<exit.length),tN exit[i]∧(i+1=n→bT exit[i]=true)
structure aBK (n i:Nat) (s:CY) (cs:List Nat):Prop where
 start:s.start=cs.map fun c=>mkT ((c:Nat):Int) ((8:Nat):Int)
 lens:s.exit.length=i∧s.aFB.length=i∧cs.length=i
 left:cs.sum+s.left=8∧(i=n→0<n→s.left=0)
 exit:auX n s.exit
 aFB:avG n s.aFB
theorem sO {α:Type} {P:Nat→α→Prop} {xs:List α} {x:α} (h:∀ i (hi:i<xs.length),P i xs[i]) (e:P xs.length x):∀ i (hi:i<(xs++[x]).length),P i (xs++[x])[i]:=by
 intro i hi;by_cases hlt:i<xs.length
 ·rw[List.getElem_append_left hlt]; exact h i hlt
 ·rw[aGO,aGR] at hi;have:i=xs.length:=Om;subst this;rw[aKL Om];simpa using e
theorem qd (l:List Nat) (n a:Nat):∀ i,i≤n→∃ cs,aBK n i (gI l n a i) cs
 | 0,_=>⟨[],rfl,⟨rfl,rfl,rfl⟩,⟨rfl,fun h u=>by omega⟩,fun i hi=>absurd hi (by simp[gI]),fun i hi=>absurd hi (by simp[gI])⟩
 | i+1,hi=>by
  obtain⟨cs,y,⟨u,w,A⟩,⟨h5,-⟩,B,h7⟩:=qd l n a i Om;generalize F:gI l n a i=s at *
  have e:gI l n a (i+1)=⟨s.start++[mkT ((dS l n i s).1:Nat) 8],s.exit++[(fG l n i (dS l n i s).2).1],s.aFB++[(dT l i (fG l n i (dS l n i s).2).2 n).1],s.left-(dS l n i s).1,(dT l i (fG l n i (dS l n i s).2).2 n).2⟩:=by simp only[gI,F]
  rw[e];have E:(dS l n i s).1≤s.left∧(i+1=n→(dS l n i s).1=s.left):=by
   unfold dS;split
   ·exact⟨by have:=bU l (Om:0<s.left+1) s.a; omega,fun h=>by omega⟩
   ·exact⟨aGQ _,fun _=>rfl⟩
  refine⟨cs++[(dS l n i s).1],?_,⟨by simp[u],by simp[w],by simp[A]⟩,⟨?_,fun h _=>?_⟩,?_,?_⟩
  ·simp only[y,aHX,aHR,aIW]; rfl
  ·simp only[List.sum_append,List.sum_cons,List.sum_nil]; omega
  ·have:=E.2 h;simp only; omega
  ·refine sO (P:=fun i x=>tN x∧(i+1=n→bT x=true)) B ?_;rw[u]; exact ahR l n i _
  ·refine sO (P:=fun i (r:List RF)=>r.length=n∧∀ j (I:j<r.length),tN r[j]∧(j=i→bT r[j]=false)∧(j=i+1→bT r[j]=true)) h7 ?_;rw[w]; exact U9 l i _ n
theorem ahP {x:dA} {e r:RF} (j:x.exit=[e]) (l:x.aFB=[[r]]) (u:bT e=true):uB x=true:=by
 unfold uB;rw[j];show ((iW x 2).all id)=true;simp only[iW,fJ,mQ,eH,j,l,aIF,aIV,List.getD_cons_zero,aHR,aIW,u];cases bT r<;>rfl
theorem QD {x:dA} {y A e j l u:RF} (B:x.exit=[y,A]) (E:x.aFB=[[e,j],[l,u]]) (F:bT A=true) (I:bT j=true) (a b:Bool) :
  ∃ c,fJ x [a,b] 2=[c,true]∧(b=true→c=true)∧(a=true→c=true):=by
 have J:mQ x [a,b] 0=[((a||bT y)||bT e&&(a||bT y))||b,b]:=by unfold mQ;rw[B,E];simp only[List.getD_cons_zero,aHR,List.set_cons_zero];generalize (a||bT y)=c;show eH [c,b] 0 [e,j] 2=_;have:eH [c,b] 0 [e,j] 1=[c||bT e&&c,b]:=rfl;show (let w:=eH [c,b] 0 [e,j] 1; w.set 0 (w.getD 0 false||([e,j].map bT).getD 1 false&&w.getD 1 false))=_;rw[this];show [(c||bT e&&c)||(bT j&&b),b]=_;rw[I,aHK]
 have K:∀ c,mQ x [c,b] 1=[c,true]:=by intro c;unfold mQ;rw[B,E];have:eH [c,true] 1 [l,u] 1=[c,true||bT l&&c]:=rfl;show eH [c,b||bT A] 1 [l,u] 2=_;rw[F,Bool.or_true];show (let w:=eH [c,true] 1 [l,u] 1; w.set 1 (w.getD 1 false||([l,u].map bT).getD 1 false&&w.getD 1 false))=_;rw[this,Bool.true_or];show [c,true||bT u&&true]=_;rw[Bool.true_or]
 refine⟨_,by rw[show fJ x [a,b] 2=mQ x (mQ x [a,b] 0) 1 from rfl,J,K],?_,?_⟩
 ·rintro rfl; rw[Bool.or_true]
 ·rintro rfl; simp
theorem ahQ {x:dA} {u I B l E F:RF} (j:x.exit=[u,I]) (w:x.aFB=[[B,l],[E,F]]) (y:bT I=true) (A:bT l=true):uB x=true:=by
 unfold uB;rw[j];show ((iW x 3).all id)=true;have e:∀ r,iW x (r+1)=fJ x (iW x r) 2:=fun r=>by rw[iW,j]; rfl
 have u:iW x 0=[false,false]:=by rw[iW,j]; rfl
 obtain⟨J,k1,-,-⟩:=QD j w y A false false;obtain⟨K,k2,R,-⟩:=QD j w y A J true;obtain⟨O,M,N,-⟩:=QD j w y A K true;rw[e,e,e,u,k1,k2,M,N rfl];rfl
theorem Ff {c:Nat}:∀ {cs:List Nat},c∈cs→c≤cs.sum
 | k::t,h=>by
  rw[List.sum_cons];rcases aGV.1 h with rfl | h
  ·omega
  ·have:=Ff h; omega
theorem SK {α:Type} {l:List α} (h:l.length=2):∃ a b,l=[a,b]:=by
 match l,h with
 | [a,b],_=>exact⟨a,b,rfl⟩
theorem awS (cs:List Nat) (h:cs.sum=8):(match rI ((cs.map fun c=>mkT ((c:Nat):Int) ((8:Nat):Int)).map RF.v) with
  | .ok (n,a,b)=>decide (xV n a b false 1 1=0)
  | .error _=>false)=true:=by
 have l:∀ c∈cs,c≤8:=fun c j=>by have:=Ff j;omega
 have e:((cs.map fun c=>mkT ((c:Nat):Int) ((8:Nat):Int)).map RF.v)=cs.map eV:=by rw[aJQ];refine aIP fun c j=>?_;have:=l c j;exact (SmF.mk' (a:=c) (b:=8) Om (by decide) (by decide)).v
 rw[e];exact auD cs h
theorem zK {α:Type} {p:α→Bool} {l:List α} (h:∀ i (hi:i<l.length),p l[i]=true):l.all p=true:=by
 rw[aIA];intro x e;obtain⟨i,hi,rfl⟩:=aIH e;exact h i hi
theorem Xz (l:List Nat) (a:Nat) (M:List UInt8):sJ { (rF l 2 a).1 with name:=M }=true∧({ (rF l 2 a).1 with name:=M }:dA).Ok:=by
 obtain⟨n,hn⟩:∃ n,n=1+(aD l 2 a).1:=⟨_,rfl⟩;have Y:n=1∨n=2:=by have:=bU l (show 0<2 by decide) a; omega
 obtain⟨cs,R,⟨h2,h3,h4⟩,⟨h5,U⟩,N,h7⟩:=qd l n (aD l 2 a).2 n (aGQ _);generalize hs:gI l n (aD l 2 a).2 n=s at *
 have e:({ (rF l 2 a).1 with name:=M }:dA)=⟨M,s.start,s.aFB,s.exit⟩:=by simp only[rF,← hn,hs]
 rw[e];have K:cs.sum=8:=by have:=U rfl Om; omega
 have X:∀ c∈cs,c≤8:=fun c V=>by have:=Ff V;omega
 have w:∀ x∈s.start,tN x:=by intro x u;rw[R] at u;obtain⟨c,V,rfl⟩:=aHJ.1 u;have:=X c V;exact (SmF.mk' (a:=c) (b:=8) Om (by decide) (by decide)).o
 have β:s.start.length=n:=by rw[R,aGK,h4]
 have A:uB ⟨M,s.start,s.aFB,s.exit⟩=true:=by
  rcases Y with rfl | rfl
  ·obtain⟨e,he⟩:=List.length_eq_one_iff.1 h2;obtain⟨η,y⟩:=List.length_eq_one_iff.1 h3;have Z:=(h7 0 Om).1;obtain⟨r,J⟩:=List.length_eq_one_iff.1 Z;have u:=(N 0 Om).2 rfl;simp only[y,List.getElem_cons_zero] at J;simp only[he,List.getElem_cons_zero] at u;exact ahP he (by rw[y,J]) u
  ·obtain⟨e0,e1,he⟩:=SK h2;obtain⟨r0,r1,y⟩:=SK h3;have F:=(h7 0 Om).1;have I:=(h7 1 Om).1;have u:=(N 1 Om).2 rfl;have hy:=((h7 0 Om).2 1 Om).2.2 rfl;simp only[he,List.getElem_cons_succ,List.getElem_cons_zero] at u;simp only[y,List.getElem_cons_succ,List.getElem_cons_zero] at F I hy;obtain⟨γ,δ,B⟩:=SK F;obtain⟨ε,ζ,S⟩:=SK I;simp only[B,List.getElem_cons_succ,List.getElem_cons_zero] at hy;exact ahQ he (by rw[y,B,S]) u hy
 constructor
 ·unfold sJ;simp only[aHC];refine⟨⟨⟨⟨⟨⟨⟨?_,?_⟩,?_⟩,?_⟩,?_⟩,?_⟩,?_⟩,A⟩
  ·rw[within_iff]; omega
  ·exact decide_eq_true Om
  ·exact decide_eq_true Om
  ·exact aIA.2 fun x u=>(w x u).lim
  ·exact zK fun i hi=>(N i hi).1.lim
  ·rw[aIA];intro i hi;rw[aHG] at hi;obtain⟨k1,k2⟩:=h7 i hi;have eg:s.aFB.getD i []=s.aFB[i]:=by simp[aGU,hi]
   rw[eg,aHC,aHC];refine⟨⟨decide_eq_true Om,zK fun j W=>(k2 j W).1.lim⟩,?_⟩;have E:i<s.aFB[i].length:=Om;rw[getD_at E,(k2 i E).2.1 rfl];rfl
  ·rw[R]; exact awS cs K
 ·have O:∀ m:Nat,m≤2→m≤9223372036854775807:=fun m hm=>by omega
  have α:n≤2:=Om;refine⟨⟨?_,fun x u=>(w x u).ok⟩,⟨?_,fun x u=>?_⟩,?_,fun r y=>⟨?_,fun x u=>?_⟩⟩
  ·exact O s.start.length Om
  ·exact O s.exit.length Om
  ·obtain⟨i,hi,rfl⟩:=aIH u;exact (N i hi).1.ok
  ·exact O s.aFB.length Om
  ·obtain⟨i,hi,rfl⟩:=aIH y;have:=(h7 i hi).1;exact O (s.aFB[i]'hi).length Om
  ·obtain⟨i,hi,rfl⟩:=aIH y;obtain⟨j,W,rfl⟩:=aIH u;exact ((h7 i hi).2 j W).1.ok
theorem TQ (l:List Nat) (a:Nat):∀ n,(iJ l a n).1.length=n∧∀ i (hi:i<(iJ l a n).1.length),(iJ l a n).1[i].name=[108,97,119]++bW i∧sJ (iJ l a n).1[i]=true∧(iJ l a n).1[i].Ok
 | 0=>⟨rfl,fun i hi=>absurd hi (by simp[iJ])⟩
 | n+1=>by obtain⟨j,u⟩:=TQ l a n;have e:(iJ l a (n+1)).1=(iJ l a n).1++[{ (rF l 2 (iJ l a n).2).1 with name:=[108,97,119]++bW n }]:=rfl;rw[e];refine⟨by simp[j],sO (P:=fun i (x:dA)=>x.name=[108,97,119]++bW i∧sJ x=true∧x.Ok) u ?_⟩;rw[j];exact⟨rfl,Xz l _ _⟩
theorem MK (l:List Nat) (aFE:Nat) (u:0<aFE) (a:Nat):∀ n,(eQ l aFE a n).1.length=n∧∀ i (hi:i<(eQ l aFE a n).1.length),(eQ l aFE a n).1[i].name=[109]++bW i∧∃ e p w:Nat,(eQ l aFE a n).1[i].aFN=e∧1≤e∧e≤4∧(eQ l aFE a n).1[i].port=p∧1≤p∧p≤8∧(eQ l aFE a n).1[i].law=w∧w<aFE
 | 0=>⟨rfl,fun i hi=>absurd hi (by simp[eQ])⟩
 | n+1=>by
  obtain⟨j,y⟩:=MK l aFE u a n;obtain⟨s,A⟩:∃ s,s=eQ l aFE a n:=⟨_,rfl⟩;have e:(eQ l aFE a (n+1)).1=(eQ l aFE a n).1++[⟨[109]++bW n,(1+(aD l 4 s.2).1:Nat),(1+(aD l 8 (aD l 4 s.2).2).1:Nat),((aD l aFE (aD l 8 (aD l 4 s.2).2).2).1:Nat)⟩]:=by rw[A]; rfl
  rw[e];refine⟨by simp[j],sO (P:=fun i (x:dX)=>x.name=[109]++bW i∧∃ e p w:Nat,x.aFN=e∧1≤e∧e≤4∧x.port=p∧1≤p∧p≤8∧x.law=w∧w<aFE) y ?_⟩;rw[j];have k1:=bU l (show 0<4 by decide) s.2;have k2:=bU l (show 0<8 by decide) (aD l 4 s.2).2;have B:=bU l u (aD l 8 (aD l 4 s.2).2).2;exact⟨rfl,_,_,_,rfl,by omega,by omega,rfl,by omega,by omega,rfl,B⟩
theorem yY (l:List Nat) (a:Nat):∃ n:Nat,(iR l a).1=n∧n≤3:=by
 have h:=bU l (show 0<3 by decide) (aD l 3 a).2;unfold iR;simp only;split
 ·exact⟨1+(aD l 3 (aD l 3 a).2).1,rfl,by omega⟩
 ·exact⟨0,rfl,by omega⟩
theorem eW {n lo hi:Int} (e:lo≤n) (j:n≤hi):within n lo hi=true:=within_iff.2 ⟨e,j⟩
theorem awH {E:List UInt8} {k m q s1 s2 s3 s4 g h:Nat} {ms:List Int} {A:List RF} {mc:Nat} (I:1≤k) (J:k≤2) (X:m≤2) (M:k≤q) (N:q≤k+m) (O:s1≤3) (F:s2≤3) (R:s3≤3) (S:s4≤3) (V:g≤8) (W:h≤4)
  (y:A.length=max m 1) (w:∀ x∈A,tN x∧bT x=true)
  (K:mc≤2) (l:∃ f:Nat,f<mc∧(ms=[(f:Int)]∨mc=2∧ms=[(f:Int),1-(f:Int)])) :
  kX mc ⟨E,(k:Nat),(m:Nat),(q:Nat),0,(s1:Nat),(s2:Nat),(s3:Nat),(s4:Nat),ms,A,mkT (g:Nat) ((8:Nat):Int),mkT (h:Nat) ((1:Nat):Int)⟩=true ∧
  (⟨E,(k:Nat),(m:Nat),(q:Nat),0,(s1:Nat),(s2:Nat),(s3:Nat),(s4:Nat),ms,A,mkT (g:Nat) ((8:Nat):Int),mkT (h:Nat) ((1:Nat):Int)⟩:cW).Ok:=by
 have G:=SmF.mk' (a:=g) (b:=8) Om (by decide) (by decide);have Z:=SmF.mk' (a:=h) (b:=1) Om (by decide) (by decide);obtain⟨f,U,l⟩:=l;constructor
 ·unfold kX ZG SX;simp only[aHC,List.all_cons,List.all_nil,aIY];refine⟨⟨⟨⟨⟨⟨⟨⟨eW Om Om,eW Om Om⟩,decide_eq_true Om⟩,eW Om Om⟩,rfl⟩,eW Om Om,eW Om Om,eW Om Om,eW Om Om,eW Om Om⟩,?_⟩,⟨⟨⟨⟨decide_eq_true (by rw[y]; omega),?_⟩,G.lim⟩,G.one Om⟩,Z.lim⟩⟩,?_⟩
  ·rcases l with e | ⟨-,e⟩<;>rw[e]<;>rfl
  ·rw[aIA];intro x u;rw[(w x u).1.lim,(w x u).2];rfl
  ·rw[aIA];rcases l with rfl | ⟨rfl,rfl⟩
   ·intro j B;simp only[aIF,aIV,aHG] at B;have:j=0:=Om;subst this;rw[aHC];exact⟨eW (by simp) (by simp; omega),by simp⟩
   ·intro j B;simp only[aIF,aIV,aHG] at B;have:j=0∨j=1:=Om;rcases this with rfl | rfl
    ·rw[aHC];exact⟨eW (by simp) (by simp; omega),by simp⟩
    ·rw[aHC];refine⟨eW (by simp; omega) (by simp; omega),?_⟩;have:¬ (1-(f:Int)=f):=Om;simp[this]
 ·refine⟨by unfold dV; constructor<;>simp only<;>omega,by unfold dV; constructor<;>simp only<;>omega,by unfold dV; constructor<;>simp only<;>omega,?_,?_,⟨?_,fun x u=>(w x u).1.ok⟩,G.ok,Z.ok⟩
  ·show ms.length≤_;rcases l with e | ⟨-,e⟩<;>rw[e]<;>simp
  ·show ∀ x∈ms,dV x;unfold dV;rcases l with e | ⟨F,e⟩<;>rw[e]<;>intro x u<;>simp only[aGV,aHH,or_false] at u
   ·subst u; omega
   ·rcases u with rfl | rfl<;>omega
  ·show A.length≤_;rw[y]; omega
theorem ye (l:List Nat) {mc:Nat} (E:0<mc) (F:mc≤2) (i a:Nat):(mY l mc i a).1.name=[112]++bW i∧kX mc (mY l mc i a).1=true∧(mY l mc i a).1.Ok:=by
 refine⟨rfl,?_⟩;have N:=bU l (show 0<2 by decide) a;have O:=bU l (show 0<3 by decide) (aD l 2 a).2;have M:=bU l (show 0<4 by decide) (aD l 3 (aD l 2 a).2).2;unfold mY;simp only;generalize aD l 2 a=k at *
 generalize aD l 3 k.2=m at *
 generalize aD l 4 m.2=h at *
 have hq:=bU l (Om:0<m.1+1) h.2;generalize aD l (m.1+1) h.2=q at *
 obtain⟨r1,r2⟩:=U8 l q.2 (max m.1 1);generalize kK l q.2 (max m.1 1)=r at *
 have K:=bU l (show 0<9 by decide) r.2;generalize aD l 9 r.2=g at *
 obtain⟨R,x,e⟩:=yY l g.2;generalize iR l g.2=s1 at *
 obtain⟨S,y,j⟩:=yY l s1.2;generalize iR l s1.2=s2 at *
 obtain⟨U,A,u⟩:=yY l s2.2;generalize iR l s2.2=s3 at *
 obtain⟨V,B,w⟩:=yY l s3.2;generalize iR l s3.2=s4 at *
 have I:=bU l E s4.2;generalize aD l mc s4.2=f at *
 generalize aD l 2 f.2=b at *
 rw[x,y,A,B];refine awH Om Om Om Om Om e j u w Om Om r1 r2 F ⟨f.1,I,?_⟩;split
 ·rename_i J;split
  ·exact .inr ⟨by omega,rfl⟩
  ·exact .inl rfl
 ·exact .inl rfl
theorem BZ (l:List Nat) {mc:Nat} (j:0<mc) (u:mc≤2) (a:Nat):∀ n,(dY l mc a n).1.length=n∧∀ i (hi:i<(dY l mc a n).1.length),(dY l mc a n).1[i].name=[112]++bW i∧kX mc (dY l mc a n).1[i]=true∧(dY l mc a n).1[i].Ok
 | 0=>⟨rfl,fun i hi=>absurd hi (by simp[dY])⟩
 | n+1=>by obtain⟨k1,k2⟩:=BZ l j u a n;have e:(dY l mc a (n+1)).1=(dY l mc a n).1++[(mY l mc n (dY l mc a n).2).1]:=rfl;rw[e];refine⟨by simp[k1],sO (P:=fun i (x:cW)=>x.name=[112]++bW i∧kX mc x=true∧x.Ok) k2 ?_⟩;rw[k1];exact ye l j u n _
theorem GR (l:List Nat) {pc:Nat} (j:0<pc) (a:Nat):∀ n,(eT l pc a n).1.length=n∧∀ i (hi:i<(eT l pc a n).1.length),(eT l pc a n).1[i].name=[118]++bW i∧∃ p:Nat,(eT l pc a n).1[i].aFJ=p∧p<pc
 | 0=>⟨rfl,fun i hi=>absurd hi (by simp[eT])⟩
 | n+1=>by obtain⟨k1,k2⟩:=GR l j a n;have e:(eT l pc a (n+1)).1=(eT l pc a n).1++[⟨[118]++bW n,((aD l pc (eT l pc a n).2).1:Nat)⟩]:=rfl;rw[e];refine⟨by simp[k1],sO (P:=fun i (x:iY)=>x.name=[118]++bW i∧∃ p:Nat,x.aFJ=p∧p<pc) k2 ?_⟩;rw[k1];exact⟨rfl,_,rfl,bU l j _⟩
abbrev lvs (ds:List cU):List Int:=ds.map cU.level
def aBI (ds:List cU) (i:Nat) (d:cU):Prop:=∃ lev p u:Nat,d.name=[mD lev]++bW (i+1)∧d.level=lev∧1≤lev∧lev≤4∧d.parent=p∧p≤i∧(lvs ds)[p]?=some ((lev:Int)-1)∧d.aFR=u∧1≤u∧u≤16∧tN d.aFM
def auW (ds:List cU) (mc i:Nat) (d:dQ):Prop:=∃ m c:Nat,d.name=[100]++bW i∧d.model=m∧m<mc∧d.machine=c∧(lvs ds)[c]?=some 4
structure GV (mc aEW:Nat) (s:GS):Prop where
 len:s.aFG.length≤35
 aFQ:s.aFQ.length≤aEW
 root:s.aFG[0]?=some mV
 dom:∀ i (hi:i+1<s.aFG.length),aBI s.aFG i s.aFG[i+1]
 drv:∀ i (hi:i<s.aFQ.length),auW s.aFG mc i s.aFQ[i]
theorem GV.a {mc aEW:Nat} {s:GS} (h:GV mc aEW s) (x:Nat):GV mc aEW { s with a:=x }:=⟨h.len,h.aFQ,h.root,h.dom,h.drv⟩
theorem D9 (l:List Nat) {mc aEW dom:Nat} (j:0<mc) {s:GS} (h:GV mc aEW s) (w:(lvs s.aFG)[dom]?=some 4):∀ n,GV mc aEW (jZ l mc aEW dom s n)∧(jZ l mc aEW dom s n).aFG=s.aFG
 | 0=>⟨h,rfl⟩
 | n+1=>by
  obtain⟨e,u⟩:=D9 l j h w n;simp only[jZ];generalize jZ l mc aEW dom s n=t at *
  split
  ·rename_i hlt;refine⟨⟨e.len,by simp only[aGO,aGR]; omega,e.root,e.dom,?_⟩,u⟩;refine sO (P:=fun i d=>auW t.aFG mc i d) e.drv ?_;exact⟨_,dom,rfl,rfl,bU l j _,rfl,by rw[u]; exact w⟩
  ·exact⟨e,u⟩
theorem zW {ds:List cU} {p:Nat} {x:Int} {t:List cU} (h:(lvs ds)[p]?=some x):(lvs (ds++t))[p]?=some x:=by
 unfold lvs at *
 rw[aHX,aIK]
 ·exact h
 ·exact (aHP.1 h).1
theorem aqA (l:List Nat) {mc aEW dom level:Nat} {s:GS} (h:GV mc aEW s) (y:1≤level) (J:level≤4) (B:(lvs s.aFG)[dom]?=some ((level:Int)-1)) (E:qP aEW s=false) :
  GV mc aEW (oC l level dom s)∧(∃ t,(oC l level dom s).aFG=s.aFG++t)∧(oC l level dom s).aFG.length=s.aFG.length+1∧(lvs (oC l level dom s).aFG)[s.aFG.length]?=some (level:Int):=by
 unfold qP at E;simp only[Bool.or_eq_false_iff,decide_eq_false_iff_not] at E;have I:dom<s.aFG.length:=by
  have:=(aHP.1 B).1
  rwa [aGK] at this
 have M:=bU l (show 0<16 by decide) s.a;have K:=bU l (show 0<6 by decide) (aD l 3 (aD l 16 s.a).2).2;unfold oC;simp only;generalize aD l 16 s.a=u at *
 generalize aD l 3 u.2=t at *
 generalize aD l 6 t.2=k at *
 have A:tN (if t.1=0 then (mkT 1 ((2+k.1:Nat):Int),k.2) else (kC,t.2)).1:=by
  split
  ·exact (SmF.mk' (a:=1) (b:=2+k.1) Om Om Om).o
  ·exact qK.o
 generalize (if t.1=0 then (mkT 1 ((2+k.1:Nat):Int),k.2) else (kC,t.2))=sh at *
 refine⟨⟨by simp only[aGO,aGR]; omega,h.aFQ,?_,?_,fun i hi=>?_⟩,⟨_,rfl⟩,by simp,?_⟩
 ·rw[aIK Om]; exact h.root
 ·intro i hi;simp only[aGO,aGR] at hi;by_cases hlt:i+1<s.aFG.length
  ·rw[List.getElem_append_left hlt];obtain⟨lev,p,v,e,j,w,x,h5,F,h7,h8⟩:=h.dom i hlt;exact⟨lev,p,v,e,j,w,x,h5,F,zW h7,h8⟩
  ·have:i+1=s.aFG.length:=Om;rw[aKL Om];simp only[List.getElem_singleton];exact⟨level,dom,1+u.1,by rw[this],rfl,y,J,rfl,by omega,zW B,rfl,by omega,by omega,A⟩
 ·obtain⟨m,c,e,j,w,x,h5⟩:=h.drv i hi;exact⟨m,c,e,j,w,x,zW h5⟩
 ·unfold lvs;rw[aHX,aIJ (by rw[aGK]; exact aGQ _),aGK,Nat.sub_self];rfl
theorem Ea (l:List Nat) {mc aEW dom level:Nat} (j:1≤level) (E:level≤4) {rec:Nat→GS→GS}
  (e:∀ d t,GV mc aEW t→(lvs t.aFG)[d]?=some (level:Int)→GV mc aEW (rec d t)∧∃ u,(rec d t).aFG=t.aFG++u) {s:GS} (h:GV mc aEW s) (B:(lvs s.aFG)[dom]?=some ((level:Int)-1)) :
  ∀ n,GV mc aEW (gZ l level aEW dom rec s n)∧∃ u,(gZ l level aEW dom rec s n).aFG=s.aFG++u
 | 0=>⟨h,[],by simp[gZ]⟩
 | n+1=>by
  obtain⟨A,u,x⟩:=Ea l j E e h B n;simp only[gZ];generalize gZ l level aEW dom rec s n=t at *
  split
  ·exact⟨A,u,x⟩
  ·rename_i F;have y:(lvs t.aFG)[dom]?=some ((level:Int)-1):=by rw[x]; exact zW B
   obtain⟨k1,⟨v,k2⟩,I,J⟩:=aqA l A j E y (by simpa using F);obtain⟨K,w,M⟩:=e ((oC l level dom t).aFG.length-1) (oC l level dom t) k1 (by rw[I,Nat.add_sub_cancel]; exact J);exact⟨K,u++(v++w),by rw[M,k2,x]; simp⟩
theorem Eb (l:List Nat) {mc aEW:Nat} (e:0<mc):∀ (k:Nat),k≤4→∀ (dom:Nat) {s:GS},GV mc aEW s→(lvs s.aFG)[dom]?=some (4-(k:Int))→GV mc aEW (fA l mc aEW k dom s)∧∃ u,(fA l mc aEW k dom s).aFG=s.aFG++u
 | 0,_,dom,s,h,j=>by simp only[fA];obtain⟨x,y⟩:=D9 l e (h.a (aD l 2 s.a).2) j (1+(aD l 2 s.a).1);exact⟨x,[],by rw[y]; simp⟩
 | k+1,B,dom,s,h,j=>by
  simp only[fA];refine Ea l Om Om (fun d t A w=>Eb l e k Om d A ?_) (h.a (aD l 2 s.a).2) ?_ _
  ·rw[w]; congr 1; omega
  ·rw[j]; congr 1; omega
theorem qf (lev:Nat) (e:1≤lev) (j:lev≤4):jJ (mD lev).toNat=true∧mD lev≠100:=by
 have:lev=1∨lev=2∨lev=3∨lev=4:=Om;rcases this with rfl | rfl | rfl | rfl<;>decide
theorem jc (c:UInt8) {k:Nat} (e:k<100):TE (([c]++bW k).drop 1)=k:=by
 show TE (bW k)=k;rw[OH e];exact (An ⟨k,e⟩).1
theorem N6 {mc aEW:Nat} {s:GS} (h:GV mc aEW s) (M:aEW≤60):distinct ((s.aFG.drop 1).map cU.name++s.aFQ.map dQ.name)=true:=by
 have E:∀ i (hi:i<((s.aFG.drop 1).map cU.name).length),∃ lev:Nat,1≤lev∧lev≤4∧((s.aFG.drop 1).map cU.name)[i]=[mD lev]++bW (i+1):=by intro i hi;rw[aGK,aIE] at hi;obtain⟨lev,p,u,l,-,I,w,-⟩:=h.dom i Om;refine⟨lev,I,w,?_⟩;rw[aIN,List.getElem_drop];simp only[Nat.add_comm 1 i];exact l
 have hB:∀ i (hi:i<(s.aFQ.map dQ.name).length),(s.aFQ.map dQ.name)[i]=[100]++bW i:=by intro i hi;rw[aGK] at hi;obtain⟨m,c,l,-⟩:=h.drv i hi;rw[aIN]; exact l
 have N:((s.aFG.drop 1).map cU.name).length≤40:=by rw[aGK,aIE]; have:=h.len; omega
 have O:(s.aFQ.map dQ.name).length≤60:=by rw[aGK]; have:=h.aFQ; omega
 generalize (s.aFG.drop 1).map cU.name=A at *
 generalize s.aFQ.map dQ.name=B at *
 refine TJ ?_ ?_
 ·intro x hx;rcases aHQ.1 hx with hx | hx
  ·obtain⟨i,hi,rfl⟩:=aIH hx;obtain⟨lev,l,w,e⟩:=E i hi;rw[e];exact l6 rfl (qf lev l w).1 rfl (by simp) Om
  ·obtain⟨i,hi,rfl⟩:=aIH hx;rw[hB i hi];exact l6 rfl (by decide) rfl (by simp) Om
 ·rw[aJK];refine⟨?_,?_,?_⟩
  ·refine PD (g:=fun s=>TE (s.drop 1)-1) fun i hi=>?_;obtain⟨lev,-,-,e⟩:=E i hi;rw[e,jc _ Om];omega
  ·refine PD (g:=fun s=>TE (s.drop 1)) fun i hi=>?_;rw[hB i hi];exact jc _ Om
  ·intro x hx y K e;obtain⟨i,hi,rfl⟩:=aIH hx;obtain⟨j,J,rfl⟩:=aIH K;obtain⟨lev,l,w,F⟩:=E i hi;rw[F,hB j J] at e;exact (qf lev l w).2 (List.cons.inj e).1
theorem amF {mc aEW a:Nat}:GV mc aEW ⟨[mV],[],a⟩ :=
 ⟨by simp,aGW _,rfl,fun i hi=>absurd hi (by simp),fun i hi=>absurd hi (by simp)⟩
theorem arJ {mc aEW:Nat} {s:GS} (h:GV mc aEW s) (f:aC) (A:f.aEZ=s.aFG):pL f=true:=by
 have x:=h.root;have w:=h.dom;unfold pL;rw[A];cases j:s.aFG with
 | nil=>rw[j] at x; cases x
 | cons r t =>
  rw[j] at x;have:r=mV:=by simpa using x
  subst this;show SA f mV t=true;unfold SA;simp only[aHC];refine⟨⟨⟨⟨⟨⟨rfl,rfl⟩,rfl⟩,rfl⟩,qK.lim⟩,by rw[show mV.aFM=kC from rfl,qK.zero]; rfl⟩,?_⟩;rw[aIA];intro i hi;rw[aHG] at hi;rw[aGS hi];obtain⟨lev,p,u,B,y,F,I,h5,J,h7,h8,K,E,l⟩:=w i (by rw[j]; simp; omega);have e:s.aFG[i+1]'(by rw[j]; simp; omega)=t[i]:=by simp[j]
  rw[e] at B y h5 h8 l;show VV f i t[i]=true;unfold VV;simp only[aHC];refine⟨⟨⟨⟨?_,?_⟩,?_⟩,?_⟩,l.lim⟩
  ·rw[h5]; exact eW Om Om
  ·rw[h5,y,A,aJN,aGU,h7,jr Om Om];exact decide_eq_true rfl
  ·rw[y]; exact eW Om Om
  ·rw[h8]; exact eW Om Om
theorem NQ (l:List Nat) (aEW aEY a:Nat) (hd:aEW≤24) (hv:aEY≤12) :
  dE (hC l aEW aEY a).1=true∧(hC l aEW aEY a).1.Ok:=by
 unfold hC;simp only;have he:=bU l (show 0<2 by decide) a;generalize aD l 2 a=e at *
 have γ:=bU l (show 0<2 by decide) e.2;generalize aD l 2 e.2=F at *
 obtain⟨w1,W⟩:=TQ l F.2 (1+F.1);generalize iJ l F.2 (1+F.1)=aFE at *
 have δ:=bU l (show 0<2 by decide) aFE.2;generalize aD l 2 aFE.2=B at *
 obtain⟨Z,m2⟩:=MK l (1+F.1) Om B.2 (1+B.1);generalize eQ l (1+F.1) B.2 (1+B.1)=aEX at *
 obtain⟨G,-⟩:=Eb l (mc:=1+B.1) (aEW:=aEW) Om 4 (by decide) 0 (s:=⟨[mV],[],aEX.2⟩) amF rfl;generalize fA l (1+B.1) aEW 4 0 ⟨[mV],[],aEX.2⟩=g at *
 have ε:=bU l (show 0<2 by decide) g.a;generalize aD l 2 g.a=pl at *
 obtain⟨p1,U⟩:=BZ l (mc:=1+B.1) Om Om pl.2 (1+pl.1);generalize dY l (1+B.1) pl.2 (1+pl.1)=pols at *
 have ζ:=bU l (Om:0<aEY+1) pols.2;generalize aD l (aEY+1) pols.2=K at *
 obtain⟨v1,V⟩:=GR l (pc:=1+pl.1) Om K.2 K.1;generalize eT l (1+pl.1) K.2 K.1=vols at *
 have g1:=G.len;have g2:=G.aFQ;have S:∀ f:aC,f.aEZ=g.aFG→pL f=true:=fun f hf=>arJ G f hf;have j:∀ n:Nat,n≤1000→n≤9223372036854775807:=fun n h=>by omega
 have E:∀ x∈g.aFQ,∃ m c:Nat,x.model=m∧m<1+B.1∧x.machine=c∧c<g.aFG.length∧(lvs g.aFG)[c]?=some 4:=by
  intro x w;obtain⟨i,hi,rfl⟩:=aIH w;obtain⟨m,c,-,R,X,Y,h5⟩:=G.drv i hi;refine⟨m,c,R,X,Y,?_,h5⟩;have:=(aHP.1 h5).1
  rwa [aGK] at this
 constructor
 ·unfold dE;rw[S _ rfl];simp only[aHC,aIY];refine⟨⟨?_,⟨⟨⟨⟨?_,?_⟩,?_⟩,?_⟩,?_⟩⟩,⟨⟨⟨?_,?_⟩,N6 G Om⟩,?_⟩,?_⟩
  ·unfold rN;simp only[aHC];exact⟨⟨⟨⟨⟨⟨eW Om Om,decide_eq_true Om⟩,decide_eq_true Om⟩,decide_eq_true Om⟩,decide_eq_true Om⟩,decide_eq_true Om⟩,decide_eq_true Om⟩
  ·exact zK fun i hi=>(W i hi).2.1
  ·refine zK fun i hi=>?_;obtain⟨-,x,y,z,A,I,J,M,N,e6,e7,e8⟩:=m2 i hi;unfold nG;simp only[aHC];rw[A,M,e7,w1];exact⟨⟨eW Om Om,eW Om Om⟩,eW Om Om⟩
  ·rw[aIA];intro x w;obtain⟨m,c,A,I,J,M,N⟩:=E x w;unfold lF;simp only[aHC];rw[A,J,Z,aJN,aGU,N];exact⟨⟨eW Om Om,eW Om Om⟩,rfl⟩
  ·refine zK fun i hi=>?_;rw[Z]; exact (U i hi).2.1
  ·refine zK fun i hi=>?_;obtain⟨-,p,A,I⟩:=V i hi;unfold qI;rw[A,p1];exact eW Om Om
  ·refine tY (p:=[108,97,119]) rfl (by decide) (by decide) (by decide) (by rw[aGK]; omega) fun i hi=>?_;rw[aIN]; exact (W i (by simpa using hi)).1
  ·refine tY (p:=[109]) rfl (by decide) (by decide) (by decide) (by rw[aGK]; omega) fun i hi=>?_;rw[aIN]; exact (m2 i (by simpa using hi)).1
  ·refine tY (p:=[112]) rfl (by decide) (by decide) (by decide) (by rw[aGK]; omega) fun i hi=>?_;rw[aIN]; exact (U i (by simpa using hi)).1
  ·refine tY (p:=[118]) rfl (by decide) (by decide) (by decide) (by rw[aGK]; omega) fun i hi=>?_;rw[aIN]; exact (V i (by simpa using hi)).1
 ·refine⟨j aFE.1.length Om,j aEX.1.length Om,j g.aFG.length Om,j g.aFQ.length Om,j pols.1.length Om,j vols.1.length Om,?_,?_,?_,?_,?_⟩
  ·intro x w;obtain⟨i,hi,rfl⟩:=aIH w;exact (W i hi).2.2
  ·intro x w;obtain⟨i,hi,rfl⟩:=aIH w;rcases aIS i with rfl | hp
   ·have:g.aFG[0]=mV:=by have:=G.root; rw[aGS hi] at this; exact aIU.inj this
    rw[this];exact⟨qK.ok,by unfold dV; decide,by unfold dV; decide⟩
   ·obtain⟨k,rfl⟩:∃ k,i=k+1:=⟨i-1,by omega⟩;obtain⟨lev,p,u,h1,R,X,Y,h5,h6,h7,h8,h9,α,O⟩:=G.dom k hi;have β:k+1<g.aFG.length:=hi;rw[R,h5];exact⟨O.ok,by unfold dV; omega,by unfold dV; omega⟩
  ·intro x w;obtain⟨m,c,A,I,J,M,N⟩:=E x w;rw[A,J];unfold dV; omega
  ·intro x w;obtain⟨i,hi,rfl⟩:=aIH w;exact (U i hi).2.2
  ·intro x w;obtain⟨i,hi,rfl⟩:=aIH w;obtain⟨-,p,A,I⟩:=V i hi;rw[A];unfold dV; omega


theorem amL {C:Ctx} (f:aC) (j:VF f) (v:Nat) (h:v<f.aEY.length) :
  KO.wp C (aT Ze.res (cD (.int .i64 (fR f v)))) (PF.args [.agg f.cells,.int .i64 v]) .nil:=by
 obtain⟨l,he⟩:=mP j h;have e:=j.aFJ _ (aGP l);rw[he] at e;have u:IntKind.i64.wrap ((cL f v).k+(cL f v).m)=(cL f v).k+(cL f v).m:=wrap_i64 Om Om;simp only[go_sem,KO,Ke,Ze];refine bP .nil dD a_ ?_;simp only[go_sem,Kf,uV h,j.QB h,rM l,he];refine aQ fun o w=>?_;simp only[go_sem,Kg,u];refine⟨a_,?_⟩;exact nO (n:=(cL f v).k+(cL f v).m) Ev rfl
abbrev iiv (l:List Int):List (List PV):=l.map fun x=>[PV.int .i64 x]
def aoL (l:List Nat) (v:PV) (o a:Nat) (f:aC) (r:PV) (H:PH):Prop:=Co r (ints (pQ l f a).1)∧H=PH.nil.set o (aR v (pQ l f a).2)
theorem ui (l:List Nat) {a:Nat} (h:a≤l.length):∀ k,(nI l a k).2≤l.length∧(nI l a k).1.length=k
 | 0=>⟨h,rfl⟩
 | k+1=>by obtain⟨e,j⟩:=ui l h k;exact⟨bD l 7 e,by simp only[nI,aGO,aGR,j]⟩
def Hg (f:aC) (o:Nat) (w:PV) (i:Nat):PF:=((((PF.nil.set 0 (.ptr o 2 0 0)).set 3 (.cS f.cells)).set 5 (w)).set 6 (.int .i64 i))
theorem akX {C:Ctx} (M:tO C) {l:List Nat} {v:PV} (T:Tp l v) (o a:Nat) (f:aC) (Y:f.aEW.length≤1000) (O:a≤l.length):JQ.wp C (aT Ye.res (aoL l v o a f)) (PF.args [.ptr o 2 0 0,.agg f.cells]) (PH.nil.set o (aR v a)):=by
 have N:aL (PH.nil.set o (aR v a)) [(o,aR v a)] []:=aL.nil.new (H:=PH.nil) rfl (aR v a);simp only[go_sem,JQ,Hi,Ye,Hj];refine cR M T (o:=o) (n:=4) (a:=a) (by decide) O (by simp only[go_sem]; rfl) (N.at 0 rfl) ?_;have A:=N.set 0 rfl (aR v (aD l 4 a).2);rw[PH.set_set] at A;have J:=bD l 4 O;have y:pQ l f a=if (aD l 4 a).1=0 then ([],(aD l 4 a).2) else nI l (aD l 4 a).2 f.aEW.length:=rfl
 have I:∀ r H,aoL l v o a f r H↔Co r (ints (pQ l f a).1)∧H=PH.nil.set o (aR v (pQ l f a).2):=fun _ _=>Iff.rfl;generalize aD l 4 a=t at *
 by_cases R:t.1=0
 ·rw[if_pos R] at y;simp only[go_sem,bM (Om:(t.1:Int)=0),Hk];refine aU (vs:=[.aA]) (.inr rfl) (PH.nil.set o (aR v t.2)) Sq (e_ a_ (A.at 0 rfl)) ?_;rw[cZ,I,y];exact⟨.nil 1,rfl⟩
 rw[if_neg R] at y;have U:=A.mO 1;simp only[go_sem,bB (Om:(t.1:Int)≠0),Hl,Hm];refine wp_loop (α:=Nat × PV × PH) (fun s=>Hg f o s.2.1 s.1) (fun s=>s.2.2) (fun s=>s.1≤f.aEW.length∧aL s.2.2 [(o,aR v (nI l t.2 s.1).2)] [(s.2.1,1,iiv (nI l t.2 s.1).1)]) (fun s=>f.aEW.length-s.1) (0,.aA,_) ⟨aGW _,U⟩ ?_ b_ ?_
 ·unfold Hg;exact Lq
 rintro⟨k,w,X⟩ ⟨V,j⟩;simp only at V j ⊢;obtain⟨k1,k2⟩:=ui l J k;simp only[go_sem,Hh,Hn,Hg,aGK];by_cases hlt:k<f.aEW.length
 ·have e:(k:Int)<(f.aEW.length:Nat):=Om;have u:nI l t.2 (k+1)=((nI l t.2 k).1++[((aD l 7 (nI l t.2 k).2).1:Int)-1],(aD l 7 (nI l t.2 k).2).2):=rfl;have hz:=bU l (show 0<7 by decide) (nI l t.2 k).2;generalize Z:nI l t.2 k=s at *
  have K:IntKind.i64.wrap (((aD l 7 s.2).1:Int)-1)=((aD l 7 s.2).1:Int)-1:=wrap_i64 Om Om;have E:(1:Nat)*1≤16777216:=by decide
  simp only[go_sem,e,Ho];refine cR M T (o:=o) (n:=7) (a:=s.2) (by decide) k1 (by simp only[go_sem]; rfl) (j.at 0 rfl) ?_;have F:=j.set 0 rfl (aR v (aD l 7 s.2).2);simp only[go_sem,K,E];refine F.append 0 (src:=[[PV.int .i64 (((aD l 7 s.2).1:Int)-1)]]) rfl Sq (by unfold roomFor; rw[aGK,k2]; simp only[aGR,maxLen]; omega) fun W H' S _=>?_;simp only[go_sem,Hp,wZz k];refine aH (k+1,W,H') ⟨hlt,?_⟩ (by simp only; omega) ?_ b_
  ·simp only;rw[u];have:iiv (s.1++[((aD l 7 s.2).1:Int)-1])=iiv s.1++[[PV.int .i64 (((aD l 7 s.2).1:Int)-1)]]:=by simp[iiv]
   rw[this];exact S
  ·exact Lq
 ·have e:¬ (k:Int)<(f.aEW.length:Nat):=Om;have:k=f.aEW.length:=Om;subst this;rw[← y] at j;simp only[go_sem,e,Hq];rcases j.own 0 rfl with ⟨B,rfl⟩ | ⟨q,rs,rfl,_⟩
  ·refine aU (vs:=[.aA]) (.inr rfl) (PH.nil.set o (aR v (pQ l f a).2)) Sq (e_ a_ (j.at 0 rfl)) ?_;rw[cZ,I];refine⟨?_,rfl⟩;unfold ints;rw[show (pQ l f a).1.map (fun x=>[PV.int .i64 x])=[] from B];exact .nil 1
  ·obtain⟨rs,g1,g2,g3,-,g4⟩:=j.frz 0 rfl;refine oI (vs:=[.osl q 1 0 (iiv (pQ l f a).1).length]) (.inr rfl) Sq (.step g1 (.done (H2:=PH.nil.set o (aR v (pQ l f a).2)) ?_ (e_ a_ ?_)))
   ·rw[cZ,g3,I];exact⟨.refl _,rfl⟩
   ·have:=g4.at 0 rfl;rw[this];simp only[bG.frz,aHR,aIW,T.frz];rfl
abbrev nE (l:List (List Int)):List (List PV):=l.map fun r=>[ints r]
theorem asA (l:List (List Int)):Flat (nE l):=oV fun r j c e=>by
 obtain⟨x,_,rfl⟩:=aHJ.1 j;rw[aHU] at e;subst e;rfl
theorem ajE (l:List Nat) (aEW at_ i:Nat) {a:Nat} (h:a≤l.length):(pM l aEW at_ i a).2≤l.length:=by
 unfold pM;split
 ·exact h
 ·have:=bD l 6 h;simp only;split
  ·exact bD l aEW this
  ·split
   ·exact bD l (aEW+1) this
   ·exact this
theorem AQ (l:List Nat) (aEW at_:Nat) {a:Nat} (h:a≤l.length):∀ k,(kN l aEW at_ a k).2≤l.length∧(kN l aEW at_ a k).1.length=k
 | 0=>⟨h,rfl⟩
 | k+1=>by obtain⟨e,j⟩:=AQ l aEW at_ h k;exact⟨ajE l aEW at_ k e,by simp only[kN,aGO,aGR,j]⟩
theorem yE (l:List Nat) (f:aC) {a:Nat} (h:a≤l.length):∀ k,(cY l f a k).2≤l.length∧(cY l f a k).1.length=k
 | 0=>⟨h,rfl⟩
 | k+1=>by obtain⟨e,j⟩:=yE l f h k;exact⟨(AQ l _ _ (bD l _ e) _).1,by simp only[cY,aGO,aGR,j]⟩
def akM (f:aC) (o:Nat) (w:PV) (i:Nat):PF:=((((PF.nil.set 0 (.ptr o 2 0 0)).set 3 (.cS f.cells)).set 5 (w)).set 6 (.int .i64 i))
def jN (f:aC) (o:Nat) (w:PV) (i:Nat) (e:PV) (at_ k:Nat):PF:=(((((((PF.nil.set 0 (.ptr o 2 0 0)).set 3 (.cS f.cells)).set 5 (w)).set 6 (.int .i64 i)).set 7 (e)).set 8 (.int .i64 at_)).set 9 (.int .i64 k))
def akN:aE:=(.seq (.region JL) (.seq (.seq (.region JM) (.cond (.tmp 34) (.seq (.region DN) (.seq (.region DO) (.block 4 (.seq (.region DP) (.cond (.tmp 44) (.region DQ) (.seq (.region wJ) (.cond (.tmp 51) (.region DR) .skip))))))) .skip)) (.region wK)))
theorem asJ:DM=.seq (.seq (.region JK) (.cond (.tmp 28) .skip (.exit 2))) (.seq (.block 3 akN) (.region DS)):=rfl
theorem akO {C:Ctx} (O:tO C) {l:List Nat} {v:PV} (T:Tp l v) (o:Nat) (f:aC) (hd:f.aEW.length≤1000) (w K:PV) (i at_ k a:Nat) (α:at_≤2000) (hk:k≤2000) (X:a≤l.length) (L:List LI) (S:cG) (F:PF) (H:PH)
  (A:(jN f o w i K at_ k).le F) (R:aL H [(o,aR v a)] L)
  (N:∀ j H',(jN f o w i K at_ k).le j→j 10=some (.int .i64 (pM l f.aEW.length at_ k a).1)→aL H' [(o,aR v (pM l f.aEW.length at_ k a).2)] L→aE.wp C (.region wK) S j H') :
  aE.wp C akN S F H:=by
 unfold akN;have f0:F 0=some (.ptr o 2 0 0):=A 0 _ (by unfold jN; simp only[go_sem]);have x:F 3=some (.cS f.cells):=A 3 _ (by unfold jN; simp only[go_sem]);have M:F 5=some w:=A 5 _ (by unfold jN; simp only[go_sem]);have f6:F 6=some (.int .i64 i):=A 6 _ (by unfold jN; simp only[go_sem]);have f7:F 7=some K:=A 7 _ (by unfold jN; simp only[go_sem]);have B:F 8=some (.int .i64 at_):=A 8 _ (by unfold jN; simp only[go_sem]);have E:F 9=some (.int .i64 k):=A 9 _ (by unfold jN; simp only[go_sem]);have u:∀ j:PF,j 0=some (.ptr o 2 0 0)→j 3=some (.cS f.cells)→j 5=some w→j 6=some (.int .i64 i)→j 7=some K→j 8=some (.int .i64 at_)→j 9=some (.int .i64 k)→(jN f o w i K at_ k).le j:=fun j Z a3 a5 a6 a7 a8 a9=>by
  unfold jN
  (repeat' (first|exact d_|refine c_ ?_ ?_))<;>first|(simp only[go_sem,Z,a3,a5,a6,a7,a8,a9]<;>rfl)|rfl
 have e:pM l f.aEW.length at_ k a=if f.aEW.length=0 then (-1,a) else if (aD l 6 a).1=0 then (((aD l f.aEW.length (aD l 6 a).2).1:Int),(aD l f.aEW.length (aD l 6 a).2).2) else if (aD l 6 a).1=1 then (((aD l (f.aEW.length+1) (aD l 6 a).2).1:Int)-1,(aD l (f.aEW.length+1) (aD l 6 a).2).2) else ((((at_+k)%f.aEW.length:Nat):Int),(aD l 6 a).2):=rfl
 simp only[go_sem,JL,JM,x,aGK];by_cases W:f.aEW.length=0
 ·rw[if_pos W] at e;have y:¬ (f.aEW.length:Int)>0:=Om;simp only[go_sem,y];refine N _ _ (u _ (by simp only[go_sem,f0]) (by simp only[go_sem,x]) (by simp only[go_sem,M]) (by simp only[go_sem,f6]) (by simp only[go_sem,f7]) (by simp only[go_sem,B]) (by simp only[go_sem,E])) ?_ ?_
  ·rw[e]; simp only[go_sem]
  ·rw[e]; exact R
 rw[if_neg W] at e;have y:(f.aEW.length:Int)>0:=Om;have e1:IntKind.i64.wrap ((at_:Int)+(k:Int))=((at_+k:Nat):Int):=by rw[wrap_i64 Om Om]; omega
 have Y:=bD l 6 X;have β:=bU l (show 0<6 by decide) a;have hz:¬ (f.aEW.length:Int)=0:=Om;have em:Int.tmod ((at_+k:Nat):Int) (f.aEW.length:Nat)=(((at_+k)%f.aEW.length:Nat):Int):=Int.ofNat_tmod _ _;have e2:IntKind.i64.wrap ((f.aEW.length:Int)+1)=((f.aEW.length+1:Nat):Int):=dJ Om;simp only[go_sem,y,DN,B,E,x,aGK,e1,hz,em,DO,f0];refine cR O T (o:=o) (n:=6) (a:=a) (by decide) X (by simp only[go_sem,f0]; rfl) (R.at 0 rfl) ?_;have I:=R.set 0 rfl (aR v (aD l 6 a).2);generalize aD l 6 a=t at *
 simp only[go_sem,DP];by_cases U:t.1=0
 ·rw[if_pos U] at e;simp only[go_sem,bM (Om:(t.1:Int)=0),DQ,f0,x,aGK];refine cR O T (o:=o) (n:=f.aEW.length) (a:=t.2) Om Y (by simp only[go_sem,f0]) (I.at 0 rfl) ?_;have J:=I.set 0 rfl (aR v (aD l f.aEW.length t.2).2);rw[PH.set_set] at J;simp only[go_sem];refine N _ _ (u _ (by simp only[go_sem,f0]) (by simp only[go_sem,x]) (by simp only[go_sem,M]) (by simp only[go_sem,f6]) (by simp only[go_sem,f7]) (by simp only[go_sem,B]) (by simp only[go_sem,E])) ?_ ?_
  ·rw[e]; simp only[go_sem]
  ·rw[e]; exact J
 rw[if_neg U] at e;by_cases V:t.1=1
 ·rw[if_pos V] at e;have nd:=bU l (Om:0<f.aEW.length+1) t.2;have e3:IntKind.i64.wrap (((aD l (f.aEW.length+1) t.2).1:Int)-1)=((aD l (f.aEW.length+1) t.2).1:Int)-1:=wrap_i64 Om Om;simp only[go_sem,bB (Om:(t.1:Int)≠0),wJ,bM (Om:(t.1:Int)=1),DR,f0,x,aGK,e2];refine cR O T (o:=o) (n:=f.aEW.length+1) (a:=t.2) Om Y (by simp only[go_sem,f0]) (I.at 0 rfl) ?_;have J:=I.set 0 rfl (aR v (aD l (f.aEW.length+1) t.2).2);rw[PH.set_set] at J;simp only[go_sem,e3];refine N _ _ (u _ (by simp only[go_sem,f0]) (by simp only[go_sem,x]) (by simp only[go_sem,M]) (by simp only[go_sem,f6]) (by simp only[go_sem,f7]) (by simp only[go_sem,B]) (by simp only[go_sem,E])) ?_ ?_
  ·rw[e]; simp only[go_sem]
  ·rw[e]; exact J
 ·rw[if_neg V] at e;simp only[go_sem,bB (Om:(t.1:Int)≠0),wJ,bB (Om:(t.1:Int)≠1)];refine N _ _ (u _ (by simp only[go_sem,f0]) (by simp only[go_sem,x]) (by simp only[go_sem,M]) (by simp only[go_sem,f6]) (by simp only[go_sem,f7]) (by simp only[go_sem,B]) (by simp only[go_sem,E])) ?_ ?_
  ·rw[e]; simp only[go_sem]
  ·rw[e]; exact I
theorem asK {C:Ctx} (M:tO C) {l:List Nat} {v:PV} (T:Tp l v) (o:Nat) (f:aC) (hd:f.aEW.length≤1000) (i n:Nat) (hn:n≤1000) (I:aG C 82 [.agg f.cells,.int .i64 i] .nil (aM (.int .i64 n))) (w:PV) (R:List (List PV)) (at_ a:Nat) (β:at_≤1000) (Z:a≤l.length) (K:cG) (F:PF) (H:PH)
  (X:(jN f o w i .aA at_ 0).le F) (A:aL H [(o,aR v a)] [(w,1,R),(.aA,1,iiv [])])
  (Y:∀ y J H',(jN f o w i y at_ n).le J→aL H' [(o,aR v (kN l f.aEW.length at_ a n).2)] [(w,1,R),(y,1,iiv (kN l f.aEW.length at_ a n).1)]→K (.exit 2) J H') :
  aE.wp C (.loop DM) K F H:=by
 refine wp_loop (α:=Nat × PV × PH) (fun s=>jN f o w i s.2.1 at_ s.1) (fun s=>s.2.2) (fun s=>s.1≤n∧aL s.2.2 [(o,aR v (kN l f.aEW.length at_ a s.1).2)] [(w,1,R),(s.2.1,1,iiv (kN l f.aEW.length at_ a s.1).1)]) (fun s=>n-s.1) (0,.aA,H) ⟨aGW _,A⟩ X b_ ?_;rintro⟨k,y,H0⟩ ⟨hk,A⟩;simp only at hk A ⊢;obtain⟨k1,k2⟩:=AQ l f.aEW.length at_ Z k;have x:kN l f.aEW.length at_ a (k+1)=((kN l f.aEW.length at_ a k).1++[(pM l f.aEW.length at_ k (kN l f.aEW.length at_ a k).2).1],(pM l f.aEW.length at_ k (kN l f.aEW.length at_ a k).2).2):=rfl;generalize hs:kN l f.aEW.length at_ a k=s at *
 rw[asJ];simp only[go_sem,JK,jN];refine aB I Sq ?_;by_cases hlt:k<n
 ·have j:(k:Int)<(n:Nat):=Om;have E:(1:Nat)*1≤16777216:=by decide
  simp only[go_sem,j];refine akO (C:=C) M T o f hd w y i at_ k s.2 Om Om k1 _ _ _ _ (by unfold jN; exact Lq) A ?_;intro u H1 e B W;have f0:u 0=some (.ptr o 2 0 0):=e 0 _ (by unfold jN; simp only[go_sem]);have N:u 3=some (.cS f.cells):=e 3 _ (by unfold jN; simp only[go_sem]);have O:u 5=some w:=e 5 _ (by unfold jN; simp only[go_sem]);have f6:u 6=some (.int .i64 i):=e 6 _ (by unfold jN; simp only[go_sem]);have f7:u 7=some y:=e 7 _ (by unfold jN; simp only[go_sem]);have S:u 8=some (.int .i64 at_):=e 8 _ (by unfold jN; simp only[go_sem]);have U:u 9=some (.int .i64 k):=e 9 _ (by unfold jN; simp only[go_sem]);simp only[go_sem,wK,f7,B,E];refine W.append 1 (src:=[[PV.int .i64 (pM l f.aEW.length at_ k s.2).1]]) rfl Sq (by unfold roomFor; rw[aGK,k2]; simp only[aGR,maxLen]; omega) fun w' H' V _=>?_;simp only[go_sem,DS,U,wZz k];refine aH (k+1,w',H') ⟨hlt,?_⟩ (by simp only; omega) ?_ b_
  ·simp only;rw[x];have:iiv (s.1++[(pM l f.aEW.length at_ k s.2).1])=iiv s.1++[[PV.int .i64 (pM l f.aEW.length at_ k s.2).1]]:=by simp[iiv]
   rw[this];exact V
  ·(repeat' (first|exact d_|refine c_ ?_ ?_))<;>first|(simp only[go_sem,f0,N,O,f6,S]<;>rfl)|rfl
 ·have j:¬ (k:Int)<(n:Nat):=Om;have:k=n:=Om;subst this;simp only[go_sem,j];refine Y y _ _ ?_ (by rw[hs]; exact A);unfold jN;exact Lq
def Ou (l:List Nat) (v:PV) (o a:Nat) (f:aC) (r:PV) (H:PH):Prop:=Co r (lay (cY l f a f.aEY.length).1)∧H=PH.nil.set o (aR v (cY l f a f.aEY.length).2)
theorem X9 {C:Ctx} (N:tO C) {l:List Nat} {v:PV} (T:Tp l v) (o a:Nat) (f:aC) (hV:VF f) (J:∀ i,i<f.aEY.length→aG C 82 [.agg f.cells,.int .i64 i] .nil (aM (.int .i64 (fR f i)))) (ha:a≤l.length) :
  AS.wp C (aT lk.res (Ou l v o a f)) (PF.args [.ptr o 2 0 0,.agg f.cells]) (PH.nil.set o (aR v a)):=by
 have hd:=hV.small.aEW;have γ:=hV.small.aEY;have h0:aL (PH.nil.set o (aR v a)) [(o,aR v a)] [(.aA,1,nE [])]:=(aL.nil.new (H:=PH.nil) rfl (aR v a)).mO 1;have R:∀ r H,Ou l v o a f r H↔Co r (lay (cY l f a f.aEY.length).1)∧H=PH.nil.set o (aR v (cY l f a f.aEY.length).2):=fun _ _=>Iff.rfl;simp only[go_sem,AS,fh,lk,fi,fj];refine wp_loop (α:=Nat × PV × PH) (fun s=>akM f o s.2.1 s.1) (fun s=>s.2.2) (fun s=>s.1≤f.aEY.length∧aL s.2.2 [(o,aR v (cY l f a s.1).2)] [(s.2.1,1,nE (cY l f a s.1).1)]) (fun s=>f.aEY.length-s.1) (0,.aA,_) ⟨aGW _,h0⟩ ?_ b_ ?_
 ·unfold akM;exact Lq
 rintro⟨i,w,H0⟩ ⟨hi,x⟩;simp only at hi x ⊢;obtain⟨k1,k2⟩:=yE l f ha i;simp only[go_sem,TU,fk,akM,aGK];by_cases hlt:i<f.aEY.length
 ·have j:(i:Int)<(f.aEY.length:Nat):=Om;obtain⟨hp,he⟩:=mP hV hlt;have B:=hV.aFJ _ (aGP hp);rw[he] at B;obtain⟨n,K⟩:∃ n:Nat,fR f i=n:=⟨(fR f i).toNat,by unfold fR; omega⟩;have β:1≤n∧n≤8:=by unfold fR at K; omega
  have A:=J i hlt;rw[K] at A;have u:cY l f a (i+1)=((cY l f a i).1++[(kN l f.aEW.length (aD l (f.aEW.length+1) (cY l f a i).2).1 (aD l (f.aEW.length+1) (cY l f a i).2).2 (fR f i).toNat).1],(kN l f.aEW.length (aD l (f.aEW.length+1) (cY l f a i).2).1 (aD l (f.aEW.length+1) (cY l f a i).2).2 (fR f i).toNat).2):=rfl;rw[K,aJN] at u;generalize hs:cY l f a i=s at *
  have W:IntKind.i64.wrap ((f.aEW.length:Int)+1)=((f.aEW.length+1:Nat):Int):=dJ Om;have δ:=bU l (Om:0<f.aEW.length+1) s.2;have E:=bD l (f.aEW.length+1) k1;simp only[go_sem,j,fl,fm,aGK,W];refine cR N T (o:=o) (n:=f.aEW.length+1) (a:=s.2) Om k1 Sq (x.at 0 rfl) ?_;have h1:=(x.set 0 rfl (aR v (aD l (f.aEW.length+1) s.2).2)).mO 1;generalize aD l (f.aEW.length+1) s.2=t at *
  obtain⟨r1,r2⟩:=AQ l f.aEW.length t.1 E n;simp only[go_sem,fp];refine asK (C:=C) N T o f Om i n Om A w (nE s.1) t.1 t.2 Om E _ _ _ (by unfold jN; exact Lq) h1 ?_;intro w7 y H1 e O;generalize S:kN l f.aEW.length t.1 t.2 n=row at *
  obtain⟨q,rfl⟩:=(O.own 1 rfl).one (by rw[aGK]; omega);have f0:y 0=some (.ptr o 2 0 0):=e 0 _ (by unfold jN; simp only[go_sem]);have f3:y 3=some (.cS f.cells):=e 3 _ (by unfold jN; simp only[go_sem]);have f5:y 5=some w:=e 5 _ (by unfold jN; simp only[go_sem]);have f6:y 6=some (.int .i64 i):=e 6 _ (by unfold jN; simp only[go_sem]);have f7:y 7=some (.osl q 1 0 (iiv row.1).length):=e 7 _ (by unfold jN; simp only[go_sem]);have I:(1:Nat)*1≤16777216:=by decide
  simp only[go_sem,TV,f5,f7,I];refine O.append 0 (src:=[[.osl q 1 0 (iiv row.1).length]]) rfl Sq (by unfold roomFor; rw[aGK,k2]; simp only[aGR,maxLen]; omega) fun w' H' h3 hw=>?_;obtain⟨M,rfl⟩:=hw (by simp);obtain⟨rs,z1,z2,z3,z4,z5⟩:=h3.frz 1 rfl;have U:=z4 0 _ (by decide) rfl;simp only at U;have y0:=T.frz q 1 rs;have V:PV.frz q 1 rs (PV.osl M 1 0 (nE s.1++[[PV.osl q 1 0 (iiv row.1).length]]).length)=PV.osl M 1 0 (nE s.1++[[PV.osl q 1 0 (iiv row.1).length]]).length:=U;simp only[go_sem,TW,f6,wZz i];refine BT (i+1,PV.osl M 1 0 (nE s.1++[[PV.osl q 1 0 (iiv row.1).length]]).length,H'.frz q 1 rs) z1 ⟨hlt,?_⟩ (by simp only; omega) ?_ b_
  ·simp only;rw[u];have Z:([(o,aR v row.2)]:List BX).map (fun b=>(b.1,b.2.frz q 1 rs))=[(o,aR v row.2)]:=by show [(o,bG.rows 2 [[PV.bV q 1 rs v,.int .i64 row.2]])]=_;rw[y0]
   have X:(nE s.1++[[PV.osl q 1 0 (iiv row.1).length]]).map (fun r=>r.map (PV.bV q 1 rs))=nE (s.1++[row.1]):=by rw[aHX,asA];show nE s.1++[[PV.bV q 1 rs (.osl q 1 0 (iiv row.1).length)]]=_;rw[z2];simp[nE]
   rw[← Z,← X];exact z5
  ·have Y:(nE s.1++[[PV.osl q 1 0 (iiv row.1).length]]).length=(nE s.1++[[PV.osl q 1 0 row.1.length]]).length:=by simp
   rw[Y] at V ⊢
   (repeat' (first|exact d_|refine c_ ?_ ?_))<;>first|(simp only[go_sem,f0,f3,V]<;>rfl)|rfl
 ·have j:¬ (i:Int)<(f.aEY.length:Nat):=Om;have:i=f.aEY.length:=Om;subst this;simp only[go_sem,j,TX];rcases x.own 0 rfl with ⟨F,rfl⟩ | ⟨q,rs,rfl,_⟩
  ·refine aU (vs:=[.aA]) (.inr rfl) (PH.nil.set o (aR v (cY l f a f.aEY.length).2)) Sq (e_ a_ (x.at 0 rfl)) ?_;rw[cZ,R];refine⟨?_,rfl⟩;unfold lay;rw[show (cY l f a f.aEY.length).1.map (fun r=>[ints r])=[] from F];exact .nil 1
  ·obtain⟨rs,g1,g2,g3,-,g4⟩:=x.frz 0 rfl;refine oI (vs:=[.osl q 1 0 (nE (cY l f a f.aEY.length).1).length]) (.inr rfl) Sq (.step g1 (.done (H2:=PH.nil.set o (aR v (cY l f a f.aEY.length).2)) ?_ (e_ a_ ?_)))
   ·rw[cZ,g3,R];exact⟨.refl _,rfl⟩
   ·have:=g4.at 0 rfl;rw[this];simp only[bG.frz,aHR,aIW,T.frz];rfl
theorem O9 {C:Ctx} {name:Nat} {args:List PV} {H H2:PH} {v:PV} (h:aG C name args H (fun r H'=>Co r v∧H'=H2)):aG C name args H (fun r H'=>r=v∧H'=H2) :=
 h.post fun r H' e=>⟨_,e.1,rfl,e.2⟩
def fT (l:List Nat) (d v:Nat):aC:=(hC (l.take 400) d v 0).1
def faT (l:List Nat) (d v:Nat):Nat:=(hC (l.take 400) d v 0).2
def lT (l:List Nat) (d v:Nat):List (List Int):=(cY (l.take 400) (fT l d v) (faT l d v) (fT l d v).aEY.length).1
def laT (l:List Nat) (d v:Nat):Nat:=(cY (l.take 400) (fT l d v) (faT l d v) (fT l d v).aEY.length).2
def rT (l:List Nat) (d v:Nat):List Int:=(pQ (l.take 400) (fT l d v) (laT l d v)).1
theorem oc (l:List Nat) (aEW aEY:Nat) {a:Nat} (h:a≤l.length):(hC l aEW aEY a).2≤l.length:=by
 have x:=bD l 2 h;have u:=bD l 2 x;obtain⟨j,-⟩:=IM l u (1+(aD l 2 (aD l 2 a).2).1);have w:=bD l 2 j;obtain⟨e,-⟩:=yQ l (1+(aD l 2 (aD l 2 a).2).1) w (1+(aD l 2 (iJ l (aD l 2 (aD l 2 a).2).2 (1+(aD l 2 (aD l 2 a).2).1)).2).1);obtain⟨y,-⟩:=IC (mc:=1+(aD l 2 (iJ l (aD l 2 (aD l 2 a).2).2 (1+(aD l 2 (aD l 2 a).2).1)).2).1) 4 0 (⟨by simp,aGW _,e⟩:GOk l aEW ⟨[mV],[],_⟩);exact (FN l _ (bD l (aEY+1) (uM l _ (bD l 2 y.a) _).1) _).1
theorem ajD (l:List Nat) (aEW at_ i a:Nat):-1≤(pM l aEW at_ i a).1∧(pM l aEW at_ i a).1<aEW:=by
 unfold pM;split
 ·simp only; omega
 ·rename_i h;have e:=bU l (Om:0<aEW) (aD l 6 a).2;have j:=bU l (Om:0<aEW+1) (aD l 6 a).2;have u:=aIG (at_+i) (Om:0<aEW);simp only;split
  ·simp only; omega
  ·split
   ·simp only; omega
   ·simp only; omega
theorem Ft (l:List Nat) (aEW at_ a:Nat):∀ k,∀ x∈(kN l aEW at_ a k).1,-1≤x∧x<aEW
 | 0,x,h=>by cases h
 | k+1,x,h=>by
  rcases aHQ.1 h with h | h
  ·exact Ft l aEW at_ a k x h
  ·rw[aHU] at h;subst h;exact ajD l aEW at_ k _
structure rD (f:aC) (L:List (List Int)):Prop where
 len:L.length=f.aEY.length
 row:∀ v (h:v<L.length),((L[v].length:Nat):Int)=fR f v
 home:∀ r∈L,∀ x∈r,-1≤x∧x<f.aEW.length
theorem qe (l:List Nat) {f:aC} (hV:VF f) {a:Nat} (A:a≤l.length):∀ k,k≤f.aEY.length→(cY l f a k).1.length=k∧(∀ v (h:v<(cY l f a k).1.length),(((cY l f a k).1[v].length:Nat):Int)=fR f v)∧∀ r∈(cY l f a k).1,∀ x∈r,-1≤x∧x<f.aEW.length
 | 0,_=>⟨rfl,fun v h=>absurd h (by simp[cY]),fun r h=>by cases h⟩
 | k+1,M=>by
  obtain⟨y,E,F⟩:=qe l hV A k Om;obtain⟨J,he⟩:=mP hV (Om:k<f.aEY.length);have j:=hV.aFJ _ (aGP J);rw[he] at j;have I:((fR f k).toNat:Int)=fR f k:=by unfold fR; omega
  have u:=(yE l f A k).1;have K:=(AQ l f.aEW.length (aD l (f.aEW.length+1) (cY l f a k).2).1 (bD l (f.aEW.length+1) u) (fR f k).toNat).2;have hi:=Ft l f.aEW.length (aD l (f.aEW.length+1) (cY l f a k).2).1 (aD l (f.aEW.length+1) (cY l f a k).2).2 (fR f k).toNat;have e:(cY l f a (k+1)).1=(cY l f a k).1++[(kN l f.aEW.length (aD l (f.aEW.length+1) (cY l f a k).2).1 (aD l (f.aEW.length+1) (cY l f a k).2).2 (fR f k).toNat).1]:=rfl;rw[e];generalize (kN l f.aEW.length (aD l (f.aEW.length+1) (cY l f a k).2).1 (aD l (f.aEW.length+1) (cY l f a k).2).2 (fR f k).toNat).1=row at *
  generalize (cY l f a k).1=L at *
  refine⟨by simp[y],fun v h=>?_,fun r h=>?_⟩
  ·by_cases B:v<L.length
   ·rw[List.getElem_append_left B]; exact E v B
   ·have w:v=k:=by simp at h; omega
    subst w;rw[aKL Om];simp only[y,Nat.sub_self,List.getElem_cons_zero];rw[K,I]
  ·rcases aHQ.1 h with h | h
   ·exact F r h
   ·rw[aHU] at h;subst h;exact hi
theorem rD.azC {f:aC} {L:List (List Int)} (h:rD f L) (hV:VF f):∀ k,k≤L.length→(L.take k).flatten.length≤k*8:=by
 have y:=h.len;intro k
 induction k with
 | zero=>intro _; simp
 | succ k w =>intro j;rw[BK L j,aGO];have x:=w Om;have l:=h.row k j;obtain⟨u,he⟩:=mP hV (Om:k<f.aEY.length);have e:=hV.aFJ _ (aGP u);rw[he] at e;unfold fR at l;omega
theorem rD.ok {f:aC} (hV:VF f) {L:List (List Int)} (h:rD f L):rR L:=by
 have j:=hV.small.aEY;have e:=h.len;have:=h.azC hV L.length (aGQ _);rw[aHV] at this;exact⟨by omega,by omega⟩
theorem aCD (l:List Nat) {d v:Nat} (w:d≤24) (x:v≤12):rD (fT l d v) (lT l d v):=by
 obtain⟨e,j,u⟩:=qe (l.take 400) (VF.of (NQ (l.take 400) d v 0 w x).1) (oc (l.take 400) d v (aGW _)) (fT l d v).aEY.length (aGQ _);exact⟨e,j,u⟩
section
variable {H:PH} {B:List BX} {L:List LI}
end
theorem rO {k v:Int} {n:Nat} {p:Nat→Bool}:cT k v n p=[]↔∀ i,i<n→p i=false:=by
 unfold cT;rw[List.map_eq_nil_iff,List.filter_eq_nil_iff];constructor
 ·intro h i hi;have:=h i (aHG.2 hi);simpa using this
 ·intro h i hi;rw[h i (aHG.1 hi)];decide
theorem acF {f:aC} {l:List (List Int)} {room:List Int} (j:dE f=true) (e:l.length=f.aEY.length) :
  oX f l room=true↔rU f l l.length=[]∧∀ d,d<f.aEW.length→over f l room d=false:=by
 unfold oX zE aoZ;rw[j,if_pos rfl,if_pos e,aHK,decide_eq_true_eq,List.length_eq_zero_iff,List.append_eq_nil_iff,rO]
theorem TN {p:Int→Bool}:∀ {l:List Int} {i:Nat},(∀ x∈l,p x=false)→kV p l i=none
 | [],_,_=>rfl
 | y::t,i,h=>by rw[kV,h y (by simp),if_neg (by decide)];exact TN fun x e=>h x (by simp[e])
theorem rD.shape {f:aC} {L:List (List Int)} (h:rD f L) {v:Nat} (j:v<L.length):uQ f L v=none:=by
 have e:L.getD v []=L[v]:=by simp[aGU,j]
 unfold uQ;rw[e,if_pos (h.row v j),TN]
 ·rfl
 ·intro x l;have:=h.home _ (aGP j) x l;simp[tU];omega
section
variable {H:PH} {B:List BX} {L:List LI} {s:Nat} {rows:List (List PV)}
theorem nP.some (s:Nat) (rows:List (List PV)) (G:PH):∃ r H',nP s rows r H'∧lI G .nil H':=by
 obtain⟨o,l⟩:=G.fresh;refine⟨.osl o s 0 rows.length,PH.nil.set o (.rows s rows),.inr ⟨o,rows,rfl,rfl,aGQ _,aHV⟩,fun q x j _=>?_⟩;rw[aP] at j;split at j
 ·rename_i e; rw[e]; exact l
 ·cases j
end

section
variable {C:Ctx} {F:PF} {H Hs:PH} {tn a a2:Nat} {raw:List Int} {R:Nat→PV→PH→Prop} {st:Bool} {args:List aN} {d:Option Nat} {K:PF→PH→Prop}
end
section
variable {C:Ctx} {F:PF} {H:PH} {B:List BX} {L:List LI} {args:List aN} {d:Option Nat} {K:PF→PH→Prop}
theorem aL.anA (h:aL H B L) (i:Nat) {o name:Nat} {x y:bG} {r:PV} {vs:List PV} (hi:B[i]?=some (o,x)) (j:aG C name vs (PH.nil.set o x) (fun u H'=>u=r∧H'=PH.nil.set o y)) (e:aN.evs F args=some vs)
  (l:∀ H',aL H' (B.set i (o,y)) L→K (F.put d r) H'):gA C name args [] d K F H:=mC j (h.at i hi) e (l _ (h.set i hi y))
theorem aL.vE (h:aL H B L) {x:bG} {e:Nat→PV} (j:∀ o H',aL H' (B++[(o,x)]) L→K (F.put d (e o)) H'):nM (some (e,x)) d K F H:=aQ fun o l=>j o _ (h.new l x)
end
theorem aeP {f:aC} (hV:VF f) (room:List Int) {d:Nat} (e:d<f.aEW.length):0≤qF f room d∧qF f room d≤ext f d∧1≤ext f d∧ext f d≤16:=by
 obtain⟨j,he⟩:=hV.abH e;have:=hV.model _ (aGP j);rw[he] at this;unfold qF;split
 ·omega
 ·omega
theorem ahS (l:List Nat) {d v:Nat} (e:d≤24) (j:v≤12):dE (fT l d v)=true∧(fT l d v).Ok:=NQ (l.take 400) d v 0 e j

theorem rD.move {f:aC} {L:List (List Int)} (h:rD f L) {x k d:Nat} (w:x<L.length) (A:d<f.aEW.length):rD f (L.set x (L[x].set k d)):=by
 refine⟨by rw[aIO]; exact h.len,fun v u=>?_,fun r j=>?_⟩
 ·rw[aIO] at u;have:=h.row v u;rw[List.getElem_set];split
  ·rename_i e;subst e;rw[aIO]; exact this
  ·exact this
 ·rcases List.mem_or_eq_of_mem_set j with j | rfl
  ·exact h.home r j
  ·intro y l;rcases List.mem_or_eq_of_mem_set l with l | rfl
   ·exact h.home _ (aGP w) y l
   ·omega


structure ayA (C:Ctx):Prop extends ba C where
 int:∀ n:Int,dV n→aG C 47 [.int .i64 n] .nil (aM (.agg (mkT n 1).cells))
 mul:∀ a b,Lim a→Lim b→a.length≤35184372087808→b.length≤35184372087808→aG C 36 [aJ a,aJ b] .nil (aM (opV (fO (val a) (val b)) (val a*val b)))
 add:∀ a b,Lim a→Lim b→a.length≤35184372087808→b.length≤35184372087808→aG C 30 [aJ a,aJ b] .nil (aM (opV (fO (val a) (val b)) (val a+val b)))
 sub:∀ a b,Lim a→Lim b→a.length≤35184372087808→b.length≤35184372087808→aG C 37 [aJ a,aJ b] .nil (aM (xY (val a) (val b)))
theorem ajT {neg:Bool} {a b:Nat} (h:dZ a b=true):lL neg a b=.ok (vL neg a b):=by
 obtain⟨w,e,j⟩:=nK.1 h;have l:=(sT (a/aGN a b) 128).2 (gz _ j);have u:=(sT (b/aGN a b) 128).2 (gz _ e);unfold lL vL;rw[if_neg Om]
def avN (a b:Nat):Bool:=decide (nl a>128)||decide (nl b>128)
def aBX (x:FV):FR:=if avN x.2.1 x.2.2 then .error 2 else .ok x
structure avC (C:Ctx):Prop extends ayA C where
 valid:∀ x:RF,x.Ok→aG C 56 [.agg x.cells] .nil (aM (.bool (dZ (val x.num) (val x.den))))
 big:∀ x:FV,aG C 48 [.agg x.rf.cells] .nil (aM (.bool (avN x.2.1 x.2.2)))
structure avD (C:Ctx):Prop extends avC C where
 fits:∀ x:FV,aG C 57 [.agg x.rf.cells] .nil (aM (frV (aBX x)))
 red:∀ x:RF,x.Ok→aG C 52 [.agg x.cells] .nil (aM (frV (vQ x)))
 prod:∀ a b,Lim a→Lim b→a.length≤35184372087808→b.length≤35184372087808→nl (val a)≤256→nl (val b)≤256→aG C 60 [aJ a,aJ b] .nil (aM (aJ (aK (val a*val b))))
def RF.valid (x:RF):Prop:=dZ (val x.num) (val x.den)=true
def alV (x y:RF):Int:=xV x.neg (val x.num) (val x.den) y.neg (val y.num) (val y.den)
structure avE (C:Ctx):Prop extends avD C where
 order:∀ x y:RF,x.Ok→y.Ok→x.valid→y.valid→aG C 51 [.agg x.cells,.agg y.cells] .nil (aM (.int .i64 (alV x y)))
def Zg (x:RF):Int:=if val x.num=0 then 0 else if x.neg then -1 else 1
structure axZ (C:Ctx):Prop extends avE C where
 less:∀ x y:RF,x.Ok→y.Ok→x.valid→y.valid→aG C 49 [.agg x.cells,.agg y.cells] .nil (aM (.bool (decide (alV x y<0))))
 same:∀ x y:RF,x.Ok→y.Ok→x.valid→y.valid→aG C 53 [.agg x.cells,.agg y.cells] .nil (aM (.bool (alV x y==0)))
 sign:∀ x:RF,x.Ok→x.valid→aG C 54 [.agg x.cells] .nil (aM (.int .i64 (Zg x)))
 plus:∀ x y:RF,x.Ok→y.Ok→aG C 46 [.agg x.cells,.agg y.cells] .nil (aM (frV (kS x.v y.v)))
def aoR (k m:Int):Bool:=within k 1 6&&(within m 0 4&&decide (k+m≤8))

def awR (a b c d e f:Nat):Bool:=decide (a≤4)&&(decide (b≤4)&&(decide (c≤40)&&(decide (d≤24)&&(decide (e≤4)&&decide (f≤12)))))
structure avB (C:Ctx):Prop extends axZ C where
 sum:∀ l:List RF,(∀ x∈l,x.Ok)→l.length≤9223372036854775807→aG C 55 [frs l] .nil (aM (frV (rI (l.map RF.v))))
 inn:∀ n lo hi:Int,aG C 76 [.int .i64 n,.int .i64 lo,.int .i64 hi] .nil (aM (.bool (within n lo hi)))
 code:∀ k m:Int,aG C 61 [.int .i64 k,.int .i64 m] .nil (aM (.bool (aoR k m)))
def aCH (k m q s0 s1 s2 s3 s4:Int):Bool:=aoR k m&&(within q k (k+m)&&(decide (s0=0)&&(within s1 0 8&&(within s2 0 8&&(within s3 0 8&&within s4 0 8)))))
theorem de {x:RF} (h:fP x=true):x.valid:=by
 unfold fP vQ at h;unfold RF.valid;cases e:dZ (val x.num) (val x.den) with
 | true=>rfl
 | false =>rw[e] at h;simp at h
structure apC (C:Ctx):Prop extends avB C where
 small:∀ x:RF,x.Ok→aG C 74 [.agg x.cells] .nil (aM (.bool (fP x)))
 nums:∀ k m q s0 s1 s2 s3 s4:Int,aG C 72 [.int .i64 k,.int .i64 m,.int .i64 q,.agg [.int .i64 s0,.int .i64 s1,.int .i64 s2,.int .i64 s3,.int .i64 s4]] .nil (aM (.bool (aCH k m q s0 s1 s2 s3 s4)))
 sizes:∀ a b c d e f:Nat,aG C 73 [.int .i64 a,.int .i64 b,.int .i64 c,.int .i64 d,.int .i64 e,.int .i64 f] .nil (aM (.bool (awR a b c d e f)))
structure apD (C:Ctx):Prop extends apC C where
 smalls:∀ l:List RF,pB l→∀ n:Int,aG C 75 [frs l,.int .i64 n] .nil (aM (.bool (decide ((l.length:Int)=n)&&l.all fP)))
def aCK (l:List RF) (m:Int):Bool:=decide ((l.length:Int)=max m 1)&&l.all fP&&l.all bT
structure apE (C:Ctx):Prop extends apD C where
 reps:∀ l:List RF,pB l→∀ m:Int,aG C 66 [frs l,.int .i64 m] .nil (aM (.bool (aCK l m)))
section
variable {H:PH} {B:List BX} {L:List LI}
end
abbrev KQ (l:List (List UInt8)):List (List PV):=l.map fun s=>[PV.str s]
def avV:List (List UInt8)→List UInt8→Nat→Int
 | [],_,_=>-1
 | x::t,s,i=>if x==s then (i:Int) else avV t s (i+1)
structure apF (C:Ctx):Prop extends apE C where
 name:∀ s:List UInt8,aG C 62 [.str s] .nil (aM (.bool (isName s)))
 index:∀ (l:List (List UInt8)),l.length≤1000000→∀ s:List UInt8,aG C 71 [.sl 1 (KQ l),.str s] .nil (aM (.int .i64 (avV l s 0)))
def abQ (l:List (List UInt8)) (s:List UInt8):Bool:=isName s&&!l.contains s
def aaG (l:List (List UInt8)) (s:List UInt8) (r:PV) (B:List BX) (L:List LI):Prop:=∃ e,r=.tup [e,.bool (abQ l s)]∧B=[]∧L=[(e,1,KQ (l++[s]))]
theorem afB {x:RF} (h:fP x=true):decide (Zg x>0)=bT x:=by
 have j:=de h;unfold fP vQ at h;rw[show dZ (val x.num) (val x.den)=true from j,if_pos rfl,ajT j] at h;unfold Zg bT;by_cases e:val x.num=0
 ·simp[e]
 ·have hq:val x.num/aGN (val x.num) (val x.den)≠0:=by have:=Nat.div_pos (Nat.gcd_le_left (val x.den) (aJE e)) (Nat.gcd_pos_of_pos_left _ (aJE e));omega
  have l:x.neg=false:=by unfold vL at h;simp only[hq,ne_eq,not_false_eq_true,decide_true,aIY,aHC] at h;simpa using h.1
  rw[if_neg e,l];simp[e]
structure jw (C:Ctx):Prop extends apF C where
 fresh:∀ (l:List (List UInt8)),l.length≤1000000→∀ (s:List UInt8) (w:PV) (H:PH),aL H [] [(w,1,KQ l)]→aG C 70 [w,.str s] H (fun r H'=>∃ B' L',aaG l s r B' L'∧aL H' B' L')
theorem jw.pos {C:Ctx} (L:jw C) {x:RF} (e:x.Ok) (h:fP x=true):∃ n:Int,aG C 54 [.agg x.cells] .nil (aM (.int .i64 n))∧decide (n>0)=bT x:=⟨_,L.sign x e (de h),afB h⟩
def Marks (R S:List Bool):Prop:=R.length=S.length∧∀ j:Nat,R[j]?=some true→S[j]?=some true
theorem Marks.trans {R S T:List Bool} (h:Marks R S) (k:Marks S T):Marks R T:=⟨h.1.trans k.1,fun j a=>k.2 j (h.2 j a)⟩

structure auY (H:PH) (w:PV) (base ns:List (List UInt8)) (c:Bool) (i:Nat):Prop where
 ex:∃ names,aL H [] [(w,1,KQ names)]∧(c=true→names=base++ns.take i)
section
variable {C:Ctx} {F:PF} {H:PH} {d:Option Nat} {K:PF→PH→Prop}
theorem auY.call (L:jw C) {w:PV} {base j:List (List UInt8)} {i:Nat} {B:List BX} {e:List (List UInt8)} (h:aL H B [(w,1,KQ e)]) (N:base.length≤1000) (hi:i≤1000) (A:e=base++j.take i) (u:i<j.length) {a b:Nat} (l:aN.evs F [.tmp a,.tmp b]=some [w,.str j[i]])
  (I:∀ x H',aL H' B [(x,1,KQ (e++[j[i]]))]→auY H' x base j true (i+1)→K (F.put d (.tup [x,.bool (abQ (base++j.take i) (j.getD i []))])) H'):gA C 70 [.tmp a,.tmp b] [] d K F H:=by
 refine FP (B1:=[]) (B2:=B) (L1:=[(w,1,KQ e)]) (L2:=[]) (Q:=aaG e j[i]) h (fun J M=>L.fresh e (by rw[A,aGO,aGY]; omega) j[i] w J M) l ?_;rintro r B' L' H' ⟨x,rfl,rfl,rfl⟩ E;have y:j.getD i []=j[i]:=by simp[aGU,u]
 rw[y,← A] at I;refine I x H' E ⟨e++[j[i]],E.sub (List.nil_sublist _) (aIQ.refl _),fun _=>?_⟩;rw[aIR u,← aHN,A]
end
















structure bK where
 src:Nat
 dst:Nat
 cap:Nat
abbrev bK.cells (a:bK):List PV:=[.int .i64 a.src,.int .i64 a.dst,.int .i64 a.cap,.int .i64 0]
abbrev jx (l:List bK):PV:=.sl 4 (l.map bK.cells)
structure cC where
 nodes:Nat
 source:Nat
 sink:Nat
 arcs:List bK
abbrev cC.cells (n:cC):List PV:=[.int .i64 n.nodes,.int .i64 n.source,.int .i64 n.sink,jx n.arcs]
structure fU (n:cC):Prop where
 two:2≤n.nodes
 few:n.nodes≤700
 num:n.arcs.length≤2500
 source:n.source<n.nodes
 sink:n.sink<n.nodes
 apart:n.source≠n.sink
 ends:∀ a∈n.arcs,a.src<n.nodes∧a.dst<n.nodes∧a.cap≤2147483647
def gE:List bK→List Nat→Nat→Int
 | a::l,x::xs,v=>(if a.src=v then (x:Int) else 0)-(if a.dst=v then (x:Int) else 0)+gE l xs v
 | _,_,_=>0
def uL (S:Nat→Bool):List bK→List Nat→Int
 | a::l,x::xs=>(if S a.src=true∧S a.dst=false then (x:Int) else 0)-(if S a.src=false∧S a.dst=true then (x:Int) else 0)+uL S l xs
 | _,_=>0
def oM (S:Nat→Bool) (g:Nat→Int):Nat→Int
 | 0=>0
 | n+1=>oM S g n+if S n=true then g n else 0
theorem ZW (S:Nat→Bool) (g h:Nat→Int):∀ n,oM S (fun v=>g v+h v) n=oM S g n+oM S h n
 | 0=>rfl
 | n+1=>by rw[oM,oM,oM,ZW S g h n];split<;>omega
theorem yZ {S:Nat→Bool} {g h:Nat→Int}:∀ {n:Nat},(∀ v,v<n→S v=true→g v=h v)→oM S g n=oM S h n
 | 0,_=>rfl
 | n+1,e=>by
  rw[oM,oM,yZ (n:=n) fun v j=>e v Om];split
  ·rename_i c; rw[e n Om c]
  ·rfl
theorem CG (S:Nat→Bool):∀ n,oM S (fun _=>0) n=0
 | 0=>rfl
 | n+1=>by rw[oM,CG S n]; split<;>rfl
theorem KU (S:Nat→Bool) (a:Nat) (x:Int):∀ {n:Nat},a<n→oM S (fun v=>if a=v then x else 0) n=if S a=true then x else 0
 | 0,h=>by omega
 | n+1,h=>by
  rw[oM];by_cases e:a=n
  ·subst e;rw[yZ (h:=fun _=>0) (n:=a) fun v j _=>by rw[if_neg Om],CG,if_pos rfl];omega
  ·rw[KU S a x (n:=n) Om,if_neg e];split<;>split<;>omega
theorem Vc (S:Nat→Bool) {N:Nat}:∀ {l:List bK} {xs:List Nat},(∀ a∈l,a.src<N∧a.dst<N)→oM S (gE l xs) N=uL S l xs
 | [],_,_=>CG S N
 | _::_,[],_=>CG S N
 | a::l,x::xs,h=>by
  obtain⟨j,u⟩:=h a (by simp);have w:=Vc S (l:=l) (xs:=xs) fun b hb=>h b (aJW _ hb);have e:oM S (gE (a::l) (x::xs)) N=oM S (fun v=>if a.src=v then (x:Int) else 0) N+(oM S (fun v=>if a.dst=v then -(x:Int) else 0) N+oM S (gE l xs) N):=by rw[← ZW,← ZW];refine yZ fun v _ _=>?_;rw[gE];split<;>split<;>omega
  rw[e,KU S _ _ j,KU S _ _ u,w,uL];cases S a.src<;>cases S a.dst<;>simp<;>omega
structure gG (n:cC) (xs:List Nat):Prop where
 len:xs.length=n.arcs.length
 le:∀ (i:Nat) a x,n.arcs[i]?=some a→xs[i]?=some x→x≤a.cap
 node:∀ v,v<n.nodes→v≠n.source→v≠n.sink→gE n.arcs xs v=0
def jB (n:cC) (xs:List Nat):Int:=gE n.arcs xs n.source
def dB (S:Nat→Bool):List bK→Nat
 | []=>0
 | a::l=>(if S a.src=true∧S a.dst=false then a.cap else 0)+dB S l
theorem gG.cut {n:cC} (j:fU n) {xs:List Nat} (h:gG n xs) {S:Nat→Bool} (w:S n.source=true) (x:S n.sink=false):uL S n.arcs xs=jB n xs:=by
 rw[← Vc S (N:=n.nodes) fun a l=>⟨(j.ends a l).1,(j.ends a l).2.1⟩];rw[yZ (h:=fun v=>if n.source=v then jB n xs else 0) fun v y u=>?_,KU S _ _ j.source,if_pos w];by_cases e:n.source=v
 ·subst e; rw[if_pos rfl]; rfl
 ·rw[if_neg e];exact h.node v y (fun c=>e c.symm) fun c=>by rw[c,x] at u; cases u
theorem U2 (S:Nat→Bool):∀ {l:List bK} {xs:List Nat},(∀ (i:Nat) a x,l[i]?=some a→xs[i]?=some x→x≤a.cap)→uL S l xs≤dB S l
 | [],_,_=>by simp[uL,dB]
 | _::_,[],_=>by simp[uL]
 | a::l,x::xs,h=>by have j:=h 0 a x rfl rfl;have u:=U2 S (l:=l) (xs:=xs) fun i b y hb e=>h (i+1) b y (by simpa using hb) (by simpa using e);rw[uL,dB];split<;>split<;>omega
theorem gG.acM {n:cC} (l:fU n) {xs:List Nat} (h:gG n xs) {S:Nat→Bool} (e:S n.source=true) (j:S n.sink=false):jB n xs≤dB S n.arcs:=by
 rw[← h.cut l e j];exact U2 S h.le
theorem U1 (S:Nat→Bool):∀ {l:List bK} {xs:List Nat},xs.length=l.length→(∀ (i:Nat) a x,l[i]?=some a→xs[i]?=some x→(S a.src=true→S a.dst=false→x=a.cap)∧(S a.src=false→S a.dst=true→x=0))→uL S l xs=dB S l
 | [],_,_,_=>by simp[uL,dB]
 | _::_,[],h,_=>by simp at h
 | a::l,x::xs,w,h=>by
  have e:=h 0 a x rfl rfl;have B:=U1 S (l:=l) (xs:=xs) (by simpa using w) fun i b y hb A=>h (i+1) b y (by simpa using hb) (by simpa using A);rw[uL,dB,B];cases u:S a.src<;>cases j:S a.dst
  ·simp
  ·have:=e.2 u j;simp; omega
  ·have:=e.1 u j;simp; omega
  ·simp
theorem gG.full {n:cC} (u:fU n) {xs:List Nat} (h:gG n xs) {S:Nat→Bool} (e:S n.source=true) (j:S n.sink=false)
  (l:∀ (i:Nat) a x,n.arcs[i]?=some a→xs[i]?=some x→(S a.src=true→S a.dst=false→x=a.cap)∧(S a.src=false→S a.dst=true→x=0)):jB n xs=dB S n.arcs:=by
 rw[← h.cut u e j];exact U1 S h.len l
theorem T9:∀ {l:List bK} {xs:List Nat} {i:Nat} {a:bK} {x:Nat} (y:Nat),l[i]?=some a→xs[i]?=some x→∀ v,gE l (xs.set i y) v=gE l xs v+(if a.src=v then (y:Int)-x else 0)-(if a.dst=v then (y:Int)-x else 0)
 | [],_,_,_,_,_,h,_,_=>by simp at h
 | _::_,[],_,_,_,_,_,h,_=>by simp at h
 | b::l,z::xs,0,a,x,y,e,j,v=>by simp only[List.getElem?_cons_zero,aIU.injEq] at e j;subst e; subst j;rw[List.set_cons_zero,gE,gE];split<;>split<;>omega
 | b::l,z::xs,i+1,a,x,y,e,j,v=>by rw[List.set_cons_succ,gE,gE,T9 (l:=l) (xs:=xs) y (by simpa using e) (by simpa using j) v];omega
theorem It (l:List bK):∀ (n:Nat) (v:Nat),gE l (aGM n 0) v=0:=by
 induction l with
 | nil=>intro n v; cases n<;>rfl
 | cons a l e =>
  intro n v;cases n with
  | zero=>rfl
  | succ n =>rw[List.replicate_succ,gE,e];split<;>split<;>rfl
theorem NR (n:cC):gG n (aGM n.arcs.length 0)∧jB n (aGM n.arcs.length 0)=0:=by
 refine⟨⟨by simp,fun i a x _ e=>?_,fun v _ _ _=>It _ _ _⟩,It _ _ _⟩;have:=aII e;rw[List.eq_of_mem_replicate this];exact aGW _
def Uw:Rg:=[iA 2 (.box true (Tm 0)),iI 4 0]
def Ux:Rg:=[iM 5 1,iA 6 (.bin .add (Ci 2) (Tm 5)),iM 4 6]
def PU:aE:=(sq Uw (sq Ux .ret))
def atN:List Nat:=[2]
def alT:bC:=⟨2,7,PU,[.tmp 4]⟩
def l9:Rg:=[iA 3 (.box true (Tm 0)),iI 6 0]
def ma:Rg:=[iM 7 2,iC 8 .eql 7 0]
def T4:Rg:=[iO 9 2 3,iM 10 1,iK2 11 282 9 10,iM 6 11]
def T5:Rg:=[iF 12 0 3,iL 13 12,iA 14 (.bin .add (Ci 2) (Tm 13)),iM 15 1,iF 16 1 3,iL 17 16,iC 18 .sub 17 1,iB 19 .mul 15 18,iB 20 .add 14 19,iM 21 2,iB 22 .add 20 21,iC 23 .sub 22 1,iM 6 23]
def BV:aE:=(sq l9 (.seq (sq ma (.cond (Tm 8) (sq T4 .ret) .skip)) (sq T5 .ret)))
def atA:List Nat:=[3]
def Yn:bC:=⟨3,24,BV,[.tmp 6]⟩
def T6:Rg:=[iA 2 (.box true (Tm 0)),iI 4 0]
def T7:Rg:=[iF 5 0 2,iL 6 5,iF 7 1 2,iL 8 7,iB 9 .mul 6 8,iA 10 (.bin .add (Ci 2) (Tm 9)),iM 11 1,iB 12 .add 10 11,iM 4 12]
def OY:aE:=(sq T6 (sq T7 .ret))
def atC:List Nat:=[2]
def alF:bC:=⟨2,13,OY,[.tmp 4]⟩
def Tk:Rg:=[iF 7 3 3,iL 8 7,iM 9 0,iM 10 1,iM 11 2,iA 12 (.build [zI,zI,zI,zI] [(0,1,(Tm 9)),(1,1,(Tm 10)),(2,1,(Tm 11))]),iA 13 (.aFC true 4 1 [zI,zI,zI,zI] [(0,(Tm 12))]),iA 14 (.append 4 32 (Tm 8) (Tm 13)),iF 15 3 3,iS 1 15 14]
def OU:aE:=(.region Tk)
def asU:List Nat:=[13]
def alA:bC:=⟨3,16,OU,[]⟩
def P8:Rg:=[iA 2 (.box true (Tm 0)),iA 4 (.alloc [zI,zI,zI,.aA]),iI 5 0]
def P9:Rg:=[iO 22 7 2,iK 23 96 22,iC 24 .neq 23 0]
def Qa:Rg:=[iA 25 (.build [zI,zI,zI,.aA] []),iS 4 4 25,iI 5 1]
def Qb:Rg:=[iF 26 6 2,iL 27 26,iN 28 27,iF 29 3 2,iL 30 29,iN 31 30,iA 32 (.build [zI,zI] [(0,1,(Tm 28)),(1,1,(Tm 31))]),iA 6 (.alloc [zI,zI]),iS 2 6 32]
def Qc:Rg:=[iO 33 2 6,iF 34 4 2,iL 35 34,iN 36 35,iK2 37 284 33 36,iA 38 (.build [zI,zI,zI,.aA] [(0,1,(Tm 37)),(1,1,(Ci 0)),(2,1,(Ci 1))]),iA 7 (.alloc [zI,zI,zI,.aA]),iS 4 7 38]
def Qd:Rg:=[iA 39 (.mkfn 285 [(Tm 7)]),iM 8 39]
def Qe:Rg:=[iF 40 6 2,iL 41 40,iN 42 41,iI 43 0]
def Qf:Rg:=[iB 44 .lss 43 42]
def Qg:Rg:=[iM 45 43,iX 46 2 41 43,iO 47 2 46,iA 10 (.alloc [(.str []),zI]),iM 9 45,iS 2 10 47]
def Qh:Rg:=[iF 48 5 2,iL 49 48,iF 50 1 10,iL 51 50,iX 52 17 49 51,iO 53 17 52,iA 11 (.alloc [(.str []),zI,zI,zI,zI,zI,zI,zI,zI,.aA,.aA,zB,.aA,.aA,zB,.aA,.aA]),iS 17 11 53]
def Bd:Rg:=[iF 54 2 2,iL 55 54,iN 56 55,iA 57 (.aFF 1 1 [zB] (Tm 56) (Tm 56)),iM 12 57]
def Be:Rg:=[iF 58 9 11,iL 59 58,iN 60 59,iI 61 0]
def Bf:Rg:=[iB 62 .lss 61 60]
def Bg:Rg:=[iX 63 1 59 61,iL 64 63,iM 14 64]
def Bh:Rg:=[iM 65 12,iM 66 14,iX 67 1 65 66,⟨none,.store 1 (Tm 67) (.const (.bool true)),none⟩]
def Bi:Rg:=[iC 68 .add 61 1,iM 61 68]
def VZ:aE:=(sq Bf (.seq (.cond (Tm 62) .skip (.exit 2)) (.seq (.block 3 (sq Bg (.region Bh))) (.region Bi))))
def Bj:Rd:=[(iM 69 8,true),(iO 70 2 6,false),(iM 71 9,false),(iK2 72 282 70 71,true),(iF 73 1 11,true),(iL 74 73,true),(iF 75 2 11,true),(iL 76 75,true),(iB 77 .add 74 76,true),(iA 78 (.aGA (Tm 69) [(Ci 0),(Tm 72),(Tm 77)]),true)]
def Bk:Rg:=[iF 79 3 2,iL 80 79,iN 81 80,iI 82 0]
def Bl:Rg:=[iB 83 .lss 82 81]
def Bm:Rg:=[iM 84 82,iX 85 7 80 82,iO 86 7 85,iA 16 (.alloc [(.str []),zI,zI,zI,zB,.aA,.aA]),iM 15 84,iS 7 16 86]
def WE:Rg:=[iM 87 15,iC 88 .eql 87 0]
def WF:Rg:=[iF 89 1 16,iL 90 89,iF 91 4 11,iA 92 (.idxA 5 1 (Tm 91) (Tm 90)),iL 93 92,iM 17 93]
def WG:Rg:=[iM 94 17,iC 95 .eql 94 0]
def Bn:Rg:=[iF 96 1 11,iL 97 96,iF 98 2 11,iL 99 98,iB 100 .add 97 99,iM 17 100]
def WH:Rd:=[(iM 101 8,true),(iO 102 2 6,false),(iM 103 9,false),(iF 104 2 16,false),(iL 105 104,false),(iA 106 (.call 283 [(Tm 102),(Tm 103),(Tm 105)]),true),(iO 107 2 6,true),(iM 108 9,true),(iM 109 15,true),(iA 110 (.call 283 [(Tm 107),(Tm 108),(Tm 109)]),true),(iM 111 17,true),(iA 112 (.aGA (Tm 101) [(Tm 106),(Tm 110),(Tm 111)]),true)]
def HO:Rg:=[iC 113 .add 82 1,iM 82 113]
def WA:aE:=(sq Bl (.seq (.cond (Tm 83) .skip (.exit 4)) (.seq (.block 5 (sq Bm (.seq (sq WE (.cond (Tm 88) (.exit 5) .skip)) (sq WF (.seq (sq WG (.cond (Tm 95) (.region Bn) .skip)) (.draw WH)))))) (.region HO))))
def Bo:Rg:=[iF 114 4 2,iL 115 114,iN 116 115,iI 117 0]
def Bp:Rg:=[iB 118 .lss 117 116]
def Bq:Rg:=[iM 119 117,iX 120 3 115 117,iO 121 3 120,iA 19 (.alloc [(.str []),zI,zI]),iM 18 119,iS 3 19 121]
def Br:Rg:=[iM 122 12,iF 123 1 19,iL 124 123,iX 125 1 122 124,iL 126 125]
def Bs:Rd:=[(iM 127 8,true),(iO 128 2 6,false),(iM 129 9,false),(iF 130 2 19,false),(iL 131 130,false),(iA 132 (.call 283 [(Tm 128),(Tm 129),(Tm 131)]),true),(iO 133 2 6,true),(iM 134 18,true),(iK2 135 284 133 134,true),(iA 136 (.aGA (Tm 127) [(Tm 132),(Tm 135),(Ci 1)]),true)]
def WI:Rg:=[iC 137 .add 117 1,iM 117 137]
def WB:aE:=(sq Bp (.seq (.cond (Tm 118) .skip (.exit 6)) (.seq (.block 7 (sq Bq (sq Br (.cond (Tm 126) (.draw Bs) .skip)))) (.region WI))))
def Bt:Rg:=[iC 138 .add 43 1,iM 43 138]
def WC:aE:=(sq Qf (.seq (.cond (Tm 44) .skip (.exit 0)) (.seq (.block 1 (sq Qg (sq Qh (sq Bd (.seq (sq Be (.block 2 (.loop VZ))) (dq Bj (.seq (sq Bk (.block 4 (.loop WA))) (sq Bo (.block 6 (.loop WB)))))))))) (.region Bt))))
def Bu:Rg:=[iO 139 7 2,iM 140 1,iK2 141 152 139 140,iN 142 141,iI 143 0]
def Bv:Rg:=[iB 144 .lss 143 142]
def Bw:Rg:=[iM 145 143,iX 146 1 141 143,iL 147 146,iM 20 145,iM 21 147]
def Bx:Rg:=[iM 148 8,iO 149 2 6,iM 150 20,iK2 151 284 149 150,iM 152 21,iA 153 (.aGA (Tm 148) [(Tm 151),(Ci 1),(Tm 152)])]
def By:Rg:=[iC 154 .add 143 1,iM 143 154]
def WD:aE:=(sq Bv (.seq (.cond (Tm 144) .skip (.exit 8)) (.seq (.block 9 (sq Bw (.region Bx))) (.region By))))
def Bz:Rg:=[iO 155 4 7,iS 4 4 155,iI 5 0]
def NT:aE:=(sq P8 (.seq (sq P9 (.cond (Tm 24) (sq Qa .ret) .skip)) (sq Qb (sq Qc (sq Qd (.seq (sq Qe (.block 0 (.loop WC))) (.seq (sq Bu (.block 8 (.loop WD))) (sq Bz .ret))))))))
def aqQ:List Nat:=[2]
def aiA:bC:=⟨2,156,NT,[.cell 4 (some 4),.tmp 5]⟩
def P1:Rg:=[iA 1 (.box true (Tm 0)),iI 2 0]
def P2:Rg:=[iI 3 0]
def P3:Rg:=[iF 6 6 1,iL 7 6,iN 8 7,iI 9 0]
def P4:Rg:=[iB 10 .lss 9 8]
def P5:Rg:=[iX 11 2 7 9,iO 12 2 11,iA 5 (.alloc [(.str []),zI]),iS 2 5 12]
def P6:Rd:=[(iM 13 3,false),(iF 14 5 1,false),(iL 15 14,false),(iF 16 1 5,false),(iL 17 16,false),(iX 18 17 15 17,false),(iF 19 1 18,false),(iL 20 19,false),(iF 21 5 1,false),(iL 22 21,false),(iF 23 1 5,false),(iL 24 23,false),(iX 25 17 22 24,false),(iF 26 2 25,false),(iL 27 26,false),(iB 28 .add 20 27,false),(iB 29 .add 13 28,false),(iM 3 29,false)]
def kf:Rg:=[iC 30 .add 9 1,iM 9 30]
def P0:aE:=(sq P4 (.seq (.cond (Tm 10) .skip (.exit 0)) (.seq (.block 1 (sq P5 (.draw P6))) (.region kf))))
def P7:Rg:=[iM 31 3,iM 2 31]
def NL:aE:=(sq P1 (sq P2 (.seq (sq P3 (.block 0 (.loop P0))) (sq P7 .ret))))
def aqN:List Nat:=[1]
def ahW:bC:=⟨1,32,NL,[.tmp 2]⟩
def oe:Rg:=[iA 2 (.box true (Tm 0)),iZ 4,iI 5 0]
def og:Rg:=[iO 18 7 2,iM 19 1,iK2 20 286 18 19,iM 17 20,iE 21 17 0,iE 22 17 1,iA 6 (.alloc [zI,zI,zI,.aA]),iS 4 6 21,iM 7 22]
def NU:Rg:=[iM 23 7,iC 24 .neq 23 0]
def oi:Rg:=[iM 25 7,iZ 4,iM 5 25]
def oj:Rg:=[iO 27 4 6,iK 28 298 27,iM 26 28,iE 29 26 0,iE 30 26 1,iE 31 26 2,iE 32 26 3,iM 8 29,iM 9 30,iM 10 31,iM 11 32]
def oq:Rg:=[iM 33 9,iO 34 7 2,iK 35 287 34,iB 36 .lss 33 35]
def ot:Rg:=[iZ 4,iI 5 12]
def ou:Rg:=[iF 37 6 2,iL 38 37,iN 39 38,iF 40 3 2,iL 41 40,iN 42 41,iA 43 (.build [zI,zI] [(0,1,(Tm 39)),(1,1,(Tm 42))]),iA 12 (.alloc [zI,zI]),iS 2 12 43]
def ov:Rg:=[iF 44 6 2,iL 45 44,iN 46 45,iA 47 (.aFF 1 24 [.aA] (Tm 46) (Tm 46)),iM 13 47]
def ow:Rg:=[iF 48 3 6,iL 49 48,iN 50 49,iI 51 0]
def ch:Rg:=[iB 52 .lss 51 50]
def ci:Rg:=[iM 53 51,iX 54 4 49 51,iO 55 4 54,iA 15 (.alloc [zI,zI,zI,zI]),iM 14 53,iS 4 15 55]
def HQ:Rd:=[(iF 56 1 15,true),(iL 57 56,true),(iO 58 2 12,false),(iA 59 (.call 284 [(Tm 58),(Ci 0)]),true),(iB 60 .lss 57 59,false),(iM 61 60,false),(gM 62 8 61 false,false),(gM 63 14 61 false,false),(iG 64 (.aFO 1 (Tm 62) (Tm 63)) 61 false,false),(gL 65 64 61 false,false),(gC 66 .eql 65 0 61 false,false),(iQ 67 61 66,false)]
def cj:Rg:=[iF 68 0 15,iL 69 68,iC 70 .sub 69 2,iF 71 0 12,iL 72 71,iB 73 .sub 70 72,iF 74 1 12,iL 75 74,iC 76 .sub 75 1,iB 77 .quo 73 76,iM 16 77]
def ck:Rd:=[(iM 78 13,true),(iM 79 16,true),(iM 80 13,true),(iM 81 16,true),(iX 82 1 80 81,true),(iL 83 82,true),(iF 84 1 15,true),(iL 85 84,true),(iO 86 2 12,false),(iA 87 (.call 284 [(Tm 86),(Ci 0)]),true),(iB 88 .sub 85 87,false),(iA 89 (.aFC true 1 1 [zI] [(0,(Tm 88))]),false),(iA 90 (.append 1 8 (Tm 83) (Tm 89)),true),(iX 91 1 78 79,false)]
def cl:Rd:=[(iS 1 91 90,true)]
def yC:Rg:=[iC 92 .add 51 1,iM 51 92]
def HP:aE:=(sq ch (.seq (.cond (Tm 52) .skip (.exit 0)) (.seq (.block 1 (sq ci (.seq (dq HQ (.cond (Tm 67) (.exit 1) .skip)) (sq cj (dq ck (.draw cl)))))) (.region yC))))
def cn:Rg:=[iM 93 13,iM 4 93,iI 5 0]
def DD:aE:=(sq oe (sq og (.seq (sq NU (.cond (Tm 24) (sq oi .ret) .skip)) (sq oj (.seq (sq oq (.cond (Tm 36) (sq ot .ret) .skip)) (sq ou (sq ov (.seq (sq ow (.block 0 (.loop HP))) (sq cn .ret)))))))))
def abP:List Nat:=[2,89]
def B0:bC:=⟨2,94,DD,[.tmp 4,.tmp 5]⟩
def Qs:Rg:=[iA 2 (.box true (Tm 0)),iA 4 (.alloc [.aA,.aA,.aA]),iT 5 false]
def Qt:Rg:=[iO 19 7 2,iM 20 1,iK2 21 286 19 20,iM 18 21,iE 22 18 0,iE 23 18 1,iA 6 (.alloc [zI,zI,zI,.aA]),iS 4 6 22,iM 7 23]
def kj:Rg:=[iM 24 7,iC 25 .neq 24 0]
def Qu:Rg:=[iA 26 (.build [.aA,.aA,.aA] []),iS 3 4 26,iT 5 false]
def Qv:Rg:=[iO 28 4 6,iK 29 298 28,iM 27 29,iE 30 27 0,iE 31 27 1,iE 32 27 2,iE 33 27 3,iM 8 30,iM 9 31,iM 10 32,iM 11 33]
def Qw:Rg:=[iM 34 9,iO 35 7 2,iK 36 287 35,iB 37 .eql 34 36]
def Qx:Rg:=[iA 38 (.build [.aA,.aA,.aA] []),iS 3 4 38,iT 5 false]
def Qy:Rg:=[iF 39 6 2,iL 40 39,iN 41 40,iF 42 3 2,iL 43 42,iN 44 43,iA 45 (.build [zI,zI] [(0,1,(Tm 41)),(1,1,(Tm 44))]),iA 12 (.alloc [zI,zI]),iS 2 12 45]
def Qz:Rg:=[iA 13 (.alloc [.aA,.aA,.aA])]
def Q0:Rg:=[iF 46 6 2,iL 47 46,iN 48 47,iI 49 0]
def Cb:Rg:=[iB 50 .lss 49 48]
def Cc:Rg:=[iM 51 49,iM 14 51]
def Cd:Rd:=[(iF 52 0 13,true),(iL 53 52,true),(iM 54 10,true),(iO 55 2 12,false),(iM 56 14,false),(iK2 57 282 55 56,true),(iX 58 1 54 57,false),(iL 59 58,false),(iA 60 (.aFC true 1 1 [zB] [(0,(Tm 59))]),false),(iA 61 (.append 1 1 (Tm 53) (Tm 60)),true),(iF 62 0 13,false)]
def Ce:Rd:=[(iS 1 62 61,true)]
def Cf:Rg:=[iF 63 3 2,iL 64 63,iN 65 64,iA 66 (.aFF 1 1 [zB] (Ci 0) (Tm 65)),iM 15 66]
def Cg:Rg:=[iI 16 1]
def Ch:Rg:=[iM 67 16,iF 68 3 2,iL 69 68,iN 70 69,iB 71 .lss 67 70]
def Cj:Rg:=[iM 74 15,iM 75 10,iO 76 2 12,iM 77 14,iM 78 16,iA 79 (.call 283 [(Tm 76),(Tm 77),(Tm 78)]),iX 80 1 75 79,iL 81 80,iA 82 (.aFC true 1 1 [zB] [(0,(Tm 81))]),iA 83 (.append 1 1 (Tm 74) (Tm 82)),iM 15 83]
def Ck:Rg:=[iM 72 16,iC 73 .add 72 1,iM 16 73]
def WM:aE:=(.seq (sq Ch (.cond (Tm 71) .skip (.exit 2))) (.seq (.block 3 (.region Cj)) (.region Ck)))
def Cl:Rg:=[iF 84 1 13,iL 85 84,iM 86 15,iA 87 (.aFC true 1 1 [.aA] [(0,(Tm 86))]),iA 88 (.append 1 24 (Tm 85) (Tm 87)),iF 89 1 13,iS 1 89 88]
def Cm:Rg:=[iC 90 .add 49 1,iM 49 90]
def WN:aE:=(sq Cb (.seq (.cond (Tm 50) .skip (.exit 0)) (.seq (.block 1 (sq Cc (.seq (dq Cd (.draw Ce)) (sq Cf (.seq (sq Cg (.block 2 (.loop WM))) (.region Cl)))))) (.region Cm))))
def Cn:Rg:=[iF 91 4 2,iL 92 91,iN 93 92,iI 94 0]
def Cp:Rg:=[iB 95 .lss 94 93]
def Cq:Rg:=[iM 96 94,iM 17 96]
def Cr:Rd:=[(iF 97 2 13,true),(iL 98 97,true),(iM 99 10,true),(iO 100 2 12,false),(iM 101 17,false),(iK2 102 284 100 101,true),(iX 103 1 99 102,false),(iL 104 103,false),(iA 105 (.aFC true 1 1 [zB] [(0,(Tm 104))]),false),(iA 106 (.append 1 1 (Tm 98) (Tm 105)),true),(iF 107 2 13,false)]
def Cs:Rd:=[(iS 1 107 106,true)]
def Ct:Rg:=[iC 108 .add 94 1,iM 94 108]
def WP:aE:=(sq Cp (.seq (.cond (Tm 95) .skip (.exit 4)) (.seq (.block 5 (sq Cq (dq Cr (.draw Cs)))) (.region Ct))))
def Cu:Rg:=[iO 109 3 13,iS 3 4 109,iT 5 true]
def NW:aE:=(sq Qs (sq Qt (.seq (sq kj (.cond (Tm 25) (sq Qu .ret) .skip)) (sq Qv (.seq (sq Qw (.cond (Tm 37) (sq Qx .ret) .skip)) (sq Qy (sq Qz (.seq (sq Q0 (.block 0 (.loop WN))) (.seq (sq Cn (.block 4 (.loop WP))) (sq Cu .ret))))))))))
def aqW:List Nat:=[2,60,82,87,105]
def aiD:bC:=⟨2,110,NW,[.cell 4 (some 3),.tmp 5]⟩
def Pn:Rg:=[iA 3 (.box true (Tm 0)),iA 5 (.box true (Tm 2)),iT 6 false]
def Po:Rg:=[iO 15 7 3,iM 16 1,iK2 17 286 15 16,iM 14 17,iE 18 14 0,iE 19 14 1,iA 7 (.alloc [zI,zI,zI,.aA]),iS 4 7 18,iM 8 19]
def zM:Rg:=[iM 20 8,iC 21 .neq 20 0,iM 22 21,gF 23 0 5 22 false,gL 24 23 22 false,gN 25 24 22 false,gF 26 6 3 22 false,gL 27 26 22 false,gN 28 27 22 false,gB 29 .neq 25 28 22 false,iQ 30 22 29,iM 31 30,gF 32 1 5 31 false,gL 33 32 31 false,gN 34 33 31 false,gF 35 6 3 31 false,gL 36 35 31 false,gN 37 36 31 false,gB 38 .neq 34 37 31 false,iQ 39 31 38,iM 40 39,gF 41 2 5 40 false,gL 42 41 40 false,gN 43 42 40 false,gF 44 4 3 40 false,gL 45 44 40 false,gN 46 45 40 false,gB 47 .neq 43 46 40 false,iQ 48 40 47]
def GA:Rg:=[iT 6 false]
def Pp:Rg:=[iA 49 (.aFC false 1 2 [zB] [(0,(.const (.bool true))),(1,(.const zB))]),iF 50 0 5,iL 51 50,iA 52 (.append 1 1 (Tm 49) (Tm 51)),iM 9 52]
def Pq:Rg:=[iF 53 1 5,iL 54 53,iN 55 54,iI 56 0]
def Ps:Rg:=[iB 57 .lss 56 55]
def Pt:Rg:=[iX 58 1 54 56,iL 59 58,iM 11 59]
def Pu:Rg:=[iM 60 11,iN 61 60,iF 62 3 3,iL 63 62,iN 64 63,iC 65 .sub 64 1,iB 66 .neq 61 65]
def Pv:Rg:=[iT 6 false]
def Ax:Rg:=[iM 67 9,iM 68 11,iA 69 (.append 1 1 (Tm 67) (Tm 68)),iM 9 69]
def Ay:Rg:=[iC 70 .add 56 1,iM 56 70]
def Aw:aE:=(sq Ps (.seq (.cond (Tm 57) .skip (.exit 0)) (.seq (.block 1 (sq Pt (.seq (sq Pu (.cond (Tm 66) (sq Pv .ret) .skip)) (.region Ax)))) (.region Ay))))
def Az:Rd:=[(iO 72 4 7,true),(iM 73 9,false),(iF 74 2 5,false),(iL 75 74,false),(iA 76 (.append 1 1 (Tm 73) (Tm 75)),true),(iK2 77 293 72 76,true),(iM 71 77,false),(iE 78 71 0,false),(iE 79 71 1,false),(iM 12 78,false),(iM 13 79,false)]
def A0:Rg:=[iM 80 13,iM 81 80,gM 82 12 81 true,gO 83 7 3 81 true,gK 84 287 83 81 true,gB 85 .lss 82 84 81 true,iP 86 81 85,iM 6 86]
def NJ:aE:=(sq Pn (sq Po (.seq (sq zM (.cond (Tm 48) (sq GA .ret) .skip)) (sq Pp (.seq (sq Pq (.block 0 (.loop Aw))) (dq Az (sq A0 .ret)))))))
def aqJ:List Nat:=[3,5]
def ahU:bC:=⟨3,87,NJ,[.tmp 6]⟩
def Hd:Rg:=[iT 3 false]
def He:Rg:=[iM 4 0,iC 5 .geq 4 0,iM 6 5,gM 7 0 6 true,gF 8 0 1 6 true,gL 9 8 6 true,gB 10 .lss 7 9 6 true,iP 11 6 10,iM 3 11]
def JP:aE:=(sq Hd (sq He .ret))
def akV:List Nat:=[]
def Yc:bC:=⟨1,12,JP,[.tmp 3]⟩
def sn:Rg:=[iA 1 (.box false (Tm 0)),iT 2 false]
def sr:Rg:=[iA 6 (.mkfn 291 [(Tm 1)]),iM 3 6]
def ss:Rg:=[iF 7 0 1,iL 8 7,iC 9 .lss 8 2,iM 10 9,gF 11 0 1 10 false,gL 12 11 10 false,gC 13 .gtr 12 700 10 false,iQ 14 10 13,iM 15 14,gF 16 3 1 15 false,gL 17 16 15 false,gN 18 17 15 false,gC 19 .gtr 18 2500 15 false,iQ 20 15 19,iM 21 20,gM 22 3 21 false,gF 23 1 1 21 false,gL 24 23 21 false,iG 25 (.aGA (Tm 22) [(Tm 24)]) 21 false,iG 26 (.un .not (Tm 25)) 21 false,iQ 27 21 26,iM 28 27,gM 29 3 28 false,gF 30 2 1 28 false,gL 31 30 28 false,iG 32 (.aGA (Tm 29) [(Tm 31)]) 28 false,iG 33 (.un .not (Tm 32)) 28 false,iQ 34 28 33,iM 35 34,gF 36 1 1 35 false,gL 37 36 35 false,gF 38 2 1 35 false,gL 39 38 35 false,gB 40 .eql 37 39 35 false,iQ 41 35 40]
def adG:Rg:=[iT 2 false]
def su:Rg:=[iF 42 3 1,iL 43 42,iN 44 43,iI 45 0]
def sv:Rg:=[iB 46 .lss 45 44]
def sw:Rg:=[iX 47 4 43 45,iO 48 4 47,iA 5 (.alloc [zI,zI,zI,zI]),iS 4 5 48]
def sx:Rg:=[iM 49 3,iF 50 0 5,iL 51 50,iA 52 (.aGA (Tm 49) [(Tm 51)]),iA 53 (.un .not (Tm 52)),iM 54 53,gM 55 3 54 false,gF 56 1 5 54 false,gL 57 56 54 false,iG 58 (.aGA (Tm 55) [(Tm 57)]) 54 false,iG 59 (.un .not (Tm 58)) 54 false,iQ 60 54 59,iM 61 60,gF 62 2 5 61 false,gL 63 62 61 false,gC 64 .lss 63 0 61 false,iQ 65 61 64,iM 66 65,gF 67 2 5 66 false,gL 68 67 66 false,gC 69 .gtr 68 2147483647 66 false,iQ 70 66 69]
def adH:Rg:=[iT 2 false]
def sy:Rg:=[iC 71 .add 45 1,iM 45 71]
def gj:aE:=(sq sv (.seq (.cond (Tm 46) .skip (.exit 0)) (.seq (.block 1 (sq sw (sq sx (.cond (Tm 70) (sq adH .ret) .skip)))) (.region sy))))
def gk:Rg:=[iT 2 true]
def DW:aE:=(sq sn (sq sr (.seq (sq ss (.cond (Tm 41) (sq adG .ret) .skip)) (.seq (sq su (.block 0 (.loop gj))) (sq gk .ret)))))
def adI:List Nat:=[]
def Ht:bC:=⟨1,72,DW,[.tmp 2]⟩
def Sj:Rg:=[iA 2 (.box true (Tm 0)),iI 4 0,iT 5 false]
def Sk:Rg:=[iO 9 4 2,iK 10 292 9,iA 11 (.un .not (Tm 10)),iM 12 11,gM 13 1 12 false,gN 14 13 12 false,gF 15 0 2 12 false,gL 16 15 12 false,gB 17 .neq 14 16 12 false,iQ 18 12 17,iM 19 18,gM 20 1 19 false,gF 21 1 2 19 false,gL 22 21 19 false,iG 23 (.aFO 1 (Tm 20) (Tm 22)) 19 false,gL 24 23 19 false,iG 25 (.un .not (Tm 24)) 19 false,iQ 26 19 25,iM 27 26,gM 28 1 27 false,gF 29 2 2 27 false,gL 30 29 27 false,iG 31 (.aFO 1 (Tm 28) (Tm 30)) 27 false,gL 32 31 27 false,iQ 33 27 32]
def asE:Rg:=[iI 4 0,iT 5 false]
def Sl:Rg:=[iI 6 0]
def Sm:Rg:=[iF 34 3 2,iL 35 34,iN 36 35,iI 37 0]
def Sn:Rg:=[iB 38 .lss 37 36]
def So:Rg:=[iX 39 4 35 37,iO 40 4 39,iA 8 (.alloc [zI,zI,zI,zI]),iS 4 8 40]
def Sp:Rg:=[iM 41 1,iF 42 0 8,iL 43 42,iX 44 1 41 43,iL 45 44,iM 46 45,gM 47 1 46 true,gF 48 1 8 46 true,gL 49 48 46 true,iG 50 (.aFO 1 (Tm 47) (Tm 49)) 46 true,gL 51 50 46 true,iG 52 (.un .not (Tm 51)) 46 true,iP 53 46 52]
def Sr:Rg:=[iM 54 6,iF 55 2 8,iL 56 55,iB 57 .add 54 56,iM 6 57]
def SO:Rg:=[iC 58 .add 37 1,iM 37 58]
def Gg:aE:=(sq Sn (.seq (.cond (Tm 38) .skip (.exit 0)) (.seq (.block 1 (sq So (sq Sp (.cond (Tm 53) (.region Sr) .skip)))) (.region SO))))
def Gh:Rg:=[iM 59 6,iM 4 59,iT 5 true]
def OM:aE:=(sq Sj (.seq (sq Sk (.cond (Tm 33) (sq asE .ret) .skip)) (sq Sl (.seq (sq Sm (.block 0 (.loop Gg))) (sq Gh .ret)))))
def asF:List Nat:=[2]
def ajY:bC:=⟨2,60,OM,[.tmp 4,.tmp 5]⟩
def XR:Rg:=[iI 4 0,iI 5 0]
def XS:Rg:=[iM 6 1,iC 7 .geq 6 0]
def Gi:Rd:=[(iM 8 0,false),(iA 9 (.aFK (Tm 8)),false),(iF 10 0 9,false),(iF 11 3 10,false),(iL 12 11,false),(iM 13 1,false),(iX 14 4 12 13,false),(iF 15 1 14,false),(iL 16 15,false),(iM 17 0,false),(iA 18 (.aFK (Tm 17)),false),(iF 19 0 18,false),(iF 20 3 19,false),(iL 21 20,false),(iM 22 1,false),(iX 23 4 21 22,false),(iF 24 2 23,false),(iL 25 24,false),(iM 26 0,false),(iA 27 (.aFK (Tm 26)),false),(iF 28 4 27,false),(iL 29 28,false),(iM 30 1,false),(iX 31 1 29 30,false),(iL 32 31,false),(iB 33 .sub 25 32,false),(iM 4 16,false),(iM 5 33,false)]
def Gj:Rd:=[(iM 34 0,false),(iA 35 (.aFK (Tm 34)),false),(iF 36 0 35,false),(iF 37 3 36,false),(iL 38 37,false),(iM 39 1,false),(iA 40 (.bin .sub (Ci (-1)) (Tm 39)),false),(iX 41 4 38 40,false),(iF 42 0 41,false),(iL 43 42,false),(iM 44 0,false),(iA 45 (.aFK (Tm 44)),false),(iF 46 4 45,false),(iL 47 46,false),(iM 48 1,false),(iA 49 (.bin .sub (Ci (-1)) (Tm 48)),false),(iX 50 1 47 49,false),(iL 51 50,false),(iM 4 43,false),(iM 5 51,false)]
def yH:aE:=(sq XR (.seq (sq XS (.cond (Tm 7) (dq Gi .ret) .skip)) (dq Gj .ret)))
def akA:List Nat:=[]
def yz:bC:=⟨2,52,yH,[.tmp 4,.tmp 5]⟩
def XP:Rg:=[iI 4 0]
def XQ:Rg:=[iM 5 1,iC 6 .geq 5 0]
def Ge:Rg:=[iM 7 0,iA 8 (.aFK (Tm 7)),iF 9 0 8,iF 10 3 9,iL 11 10,iM 12 1,iX 13 4 11 12,iF 14 0 13,iL 15 14,iM 4 15]
def Gf:Rg:=[iM 16 0,iA 17 (.aFK (Tm 16)),iF 18 0 17,iF 19 3 18,iL 20 19,iM 21 1,iA 22 (.bin .sub (Ci (-1)) (Tm 21)),iX 23 4 20 22,iF 24 1 23,iL 25 24,iM 4 25]
def yG:aE:=(sq XP (.seq (sq XQ (.cond (Tm 6) (sq Ge .ret) .skip)) (sq Gf .ret)))
def ajX:List Nat:=[]
def yy:bC:=⟨2,26,yG,[.tmp 4]⟩
def rj:Rg:=[iZ 2,iZ 3]
def rk:Rd:=[(iM 11 0,false),(iA 12 (.aFK (Tm 11)),false),(iF 13 0 12,false),(iF 14 0 13,false),(iL 15 14,false),(iA 16 (.aFF 1 8 [zI] (Tm 15) (Tm 15)),true),(iM 17 0,false),(iA 18 (.aFK (Tm 17)),false),(iF 19 0 18,false),(iF 20 0 19,false),(iL 21 20,false),(iA 22 (.aFF 1 1 [zB] (Tm 21) (Tm 21)),true),(iM 4 16,false),(iM 5 22,false)]
def rp:Rg:=[iM 23 5,iM 24 0,iA 25 (.aFK (Tm 24)),iF 26 0 25,iF 27 1 26,iL 28 27,iX 29 1 23 28,⟨none,.store 1 (Tm 29) (.const (.bool true)),none⟩]
def rt:Rg:=[iM 30 0,iA 31 (.aFK (Tm 30)),iF 32 0 31,iF 33 1 32,iL 34 33,iA 35 (.aFC false 1 1 [zI] [(0,(Tm 34))]),iM 6 35]
def ru:Rg:=[iM 36 6,iN 37 36,iC 38 .gtr 37 0]
def rx:Rd:=[(iM 41 0,false),(iA 42 (.aFK (Tm 41)),false),(iF 43 5 42,false),(iL 44 43,false),(iM 45 6,false),(iA 46 (.aFO 1 (Tm 45) (Ci 0)),false),(iL 47 46,false),(iX 48 1 44 47,false),(iL 49 48,false),(iN 50 49,false),(iI 51 0,false)]
def ry:Rg:=[iB 52 .lss 51 50]
def rz:Rg:=[iX 53 1 49 51,iL 54 53,iM 8 54]
def r8:Rg:=[iM 56 0,iM 57 8,iK2 58 294 56 57,iM 55 58,iE 59 55 0,iE 60 55 1,iM 9 59,iM 10 60]
def BU:Rg:=[iM 61 10,iC 62 .gtr 61 0,iM 63 62,gM 64 5 63 true,gM 65 9 63 true,iG 66 (.aFO 1 (Tm 64) (Tm 65)) 63 true,gL 67 66 63 true,iG 68 (.un .not (Tm 67)) 63 true,iP 69 63 68]
def fv:Rg:=[iM 70 5,iM 71 9,iM 72 4,iM 73 9,iM 74 8,iX 75 1 70 71,⟨none,.store 1 (Tm 75) (.const (.bool true)),none⟩,iX 76 1 72 73,iS 1 76 74]
def fw:Rg:=[iM 77 6,iM 78 9,iA 79 (.aFC true 1 1 [zI] [(0,(Tm 78))]),iA 80 (.append 1 8 (Tm 77) (Tm 79)),iM 6 80]
def yR:Rg:=[iC 81 .add 51 1,iM 51 81]
def fq:aE:=(sq ry (.seq (.cond (Tm 52) .skip (.exit 2)) (.seq (.block 3 (sq rz (sq r8 (sq BU (.cond (Tm 69) (sq fv (.region fw)) .skip))))) (.region yR))))
def fx:Rg:=[iM 39 6,iA 40 (.slice 1 (Tm 39) (some (Ci 1)) none none),iM 6 40]
def ft:aE:=(.seq (sq ru (.cond (Tm 38) .skip (.exit 0))) (.seq (.block 1 (dq rx (.block 2 (.loop fq)))) (.region fx)))
def fy:Rg:=[iM 82 4,iM 83 5,iM 2 82,iM 3 83]
def DT:aE:=(sq rj (dq rk (sq rp (.seq (sq rt (.block 0 (.loop ft))) (sq fy .ret)))))
def adB:List Nat:=[79]
def Hf:bC:=⟨1,84,DT,[.tmp 2,.tmp 3]⟩
def Sd:Rg:=[iI 4 0]
def Se:Rg:=[iI 5 (-1)]
def Sf:Rg:=[iM 11 0,iA 12 (.aFK (Tm 11)),iF 13 0 12,iF 14 2 13,iL 15 14,iM 6 15]
def Sg:Rg:=[iM 16 6,iM 17 0,iA 18 (.aFK (Tm 17)),iF 19 0 18,iF 20 1 19,iL 21 20,iB 22 .neq 16 21]
def Sh:Rg:=[iM 30 0,iM 31 1,iM 32 6,iX 33 1 31 32,iL 34 33,iK2 35 294 30 34,iM 29 35,iE 36 29 0,iE 37 29 1,iM 7 36,iM 8 37]
def SM:Rg:=[iM 38 5,iC 39 .lss 38 0,iM 40 39,gM 41 8 40 false,gM 42 5 40 false,gB 43 .lss 41 42 40 false,iQ 44 40 43]
def k7:Rg:=[iM 45 8,iM 5 45]
def SN:Rg:=[iM 23 0,iM 24 1,iM 25 6,iX 26 1 24 25,iL 27 26,iK2 28 295 23 27,iM 6 28]
def Sb:aE:=(.seq (sq Sg (.cond (Tm 22) .skip (.exit 0))) (.seq (.block 1 (sq Sh (sq SM (.cond (Tm 44) (.region k7) .skip)))) (.region SN)))
def Si:Rg:=[iM 46 0,iA 47 (.aFK (Tm 46)),iF 48 0 47,iF 49 2 48,iL 50 49,iM 9 50]
def Ga:Rg:=[iM 51 9,iM 52 0,iA 53 (.aFK (Tm 52)),iF 54 0 53,iF 55 1 54,iL 56 55,iB 57 .neq 51 56]
def XM:Rg:=[iM 64 1,iM 65 9,iX 66 1 64 65,iL 67 66,iM 10 67]
def XN:Rg:=[iM 68 10,iC 69 .geq 68 0]
def Gb:Rg:=[iM 70 0,iA 71 (.aFK (Tm 70)),iF 72 4 71,iL 73 72,iM 74 10,iX 75 1 73 74,iL 76 75,iM 77 5,iB 78 .add 76 77,iX 79 1 73 74,iS 1 79 78]
def Gc:Rg:=[iM 80 0,iA 81 (.aFK (Tm 80)),iF 82 4 81,iL 83 82,iM 84 10,iA 85 (.bin .sub (Ci (-1)) (Tm 84)),iX 86 1 83 85,iL 87 86,iM 88 5,iB 89 .sub 87 88,iX 90 1 83 85,iS 1 90 89]
def XO:Rg:=[iM 58 0,iM 59 1,iM 60 9,iX 61 1 59 60,iL 62 61,iK2 63 295 58 62,iM 9 63]
def F9:aE:=(.seq (sq Ga (.cond (Tm 57) .skip (.exit 2))) (.seq (.block 3 (sq XM (sq XN (.cond (Tm 69) (.region Gb) (.region Gc))))) (.region XO)))
def Gd:Rg:=[iM 91 5,iM 4 91]
def OL:aE:=(sq Sd (sq Se (.seq (sq Sf (.block 0 (.loop Sb))) (.seq (sq Si (.block 2 (.loop F9))) (sq Gd .ret)))))
def asC:List Nat:=[]
def ajU:bC:=⟨2,92,OL,[.tmp 4]⟩
def r9:Rg:=[iA 1 (.box true (Tm 0)),iZ 2,iI 3 0,iZ 4,iI 5 0]
def sa:Rg:=[iO 12 4 1,iK 13 292 12,iA 14 (.un .not (Tm 13))]
def adD:Rg:=[iZ 2,iI 3 0,iZ 4,iI 5 1]
def sb:Rd:=[(iO 15 4 1,false),(iF 16 3 1,false),(iL 17 16,false),(iN 18 17,false),(iA 19 (.aFF 1 8 [zI] (Tm 18) (Tm 18)),true),(iF 20 0 1,false),(iL 21 20,false),(iA 22 (.aFF 1 24 [.aA] (Tm 21) (Tm 21)),true),(iA 23 (.build [zI,zI,zI,.aA,.aA,.aA] [(0,4,(Tm 15)),(4,1,(Tm 19)),(5,1,(Tm 22))]),false),(iA 24 (.box false (Tm 23)),true),(iM 6 24,false)]
def sd:Rg:=[iF 25 3 1,iL 26 25,iN 27 26,iI 28 0]
def se:Rg:=[iB 29 .lss 28 27]
def sf:Rg:=[iM 30 28,iX 31 4 26 28,iO 32 4 31,iA 8 (.alloc [zI,zI,zI,zI]),iM 7 30,iS 4 8 32]
def sg:Rd:=[(iM 33 6,true),(iA 34 (.aFK (Tm 33)),true),(iF 35 5 34,true),(iL 36 35,true),(iF 37 0 8,true),(iL 38 37,true),(iM 39 6,false),(iA 40 (.aFK (Tm 39)),false),(iF 41 5 40,false),(iL 42 41,false),(iF 43 0 8,false),(iL 44 43,false),(iX 45 1 42 44,false),(iL 46 45,false),(iM 47 7,false),(iA 48 (.aFC true 1 1 [zI] [(0,(Tm 47))]),false),(iA 49 (.append 1 8 (Tm 46) (Tm 48)),true),(iX 50 1 36 38,false)]
def sk:Rd:=[(iS 1 50 49,true)]
def sm:Rd:=[(iM 51 6,true),(iA 52 (.aFK (Tm 51)),true),(iF 53 5 52,true),(iL 54 53,true),(iF 55 1 8,true),(iL 56 55,true),(iM 57 6,false),(iA 58 (.aFK (Tm 57)),false),(iF 59 5 58,false),(iL 60 59,false),(iF 61 1 8,false),(iL 62 61,false),(iX 63 1 60 62,false),(iL 64 63,false),(iM 65 7,false),(iA 66 (.bin .sub (Ci (-1)) (Tm 65)),false),(iA 67 (.aFC true 1 1 [zI] [(0,(Tm 66))]),false),(iA 68 (.append 1 8 (Tm 64) (Tm 67)),true),(iX 69 1 54 56,false)]
def gb:Rd:=[(iS 1 69 68,true)]
def ge:Rg:=[iC 70 .add 28 1,iM 28 70]
def fz:aE:=(sq se (.seq (.cond (Tm 29) .skip (.exit 0)) (.seq (.block 1 (sq sf (.seq (dq sg (.draw sk)) (dq sm (.draw gb))))) (.region ge))))
def gf:Rg:=[iI 9 0]
def gg:Rg:=[iM 72 6,iK 73 296 72,iM 71 73,iE 74 71 0,iE 75 71 1,iM 10 74,iM 11 75]
def JR:Rg:=[iM 76 11,iF 77 2 1,iL 78 77,iX 79 1 76 78,iL 80 79,iA 81 (.un .not (Tm 80))]
def gh:Rg:=[iM 82 6,iA 83 (.aFK (Tm 82)),iF 84 4 83,iL 85 84,iM 86 9,iM 87 11,iM 2 85,iM 3 86,iM 4 87,iI 5 0]
def gi:Rg:=[iM 88 9,iM 89 6,iM 90 10,iK2 91 297 89 90,iB 92 .add 88 91,iM 9 92]
def ga:aE:=(.block 3 (sq gg (.seq (sq JR (.cond (Tm 81) (sq gh .ret) .skip)) (.region gi))))
def DU:aE:=(sq r9 (.seq (sq sa (.cond (Tm 14) (sq adD .ret) .skip)) (dq sb (.seq (sq sd (.block 0 (.loop fz))) (sq gf (.block 2 (.loop ga)))))))
def adE:List Nat:=[1,48,67]
def Hr:bC:=⟨1,93,DU,[.tmp 2,.tmp 3,.tmp 4,.tmp 5]⟩
def xu:Rg:=[iT 0 false]
def xv:Rg:=[iA 8 (.call 27 [(.const .aA),(Ci 1),(Ci 0)]),iA 1 (.alloc [zI,.aA,.aA,.aA,.aA,.aA,.aA]),iS 7 1 8]
def xw:Rg:=[iA 9 (.build [(.str []),zI] [(0,1,(.const (.str [118,48])))]),iA 10 (.aFC true 2 1 [(.str []),zI] [(0,(Tm 9))]),iF 11 6 1,iS 1 11 10]
def RW:Rg:=[iO 13 7 1,iA 14 (.call 288 [(Tm 13),(.const .aA)]),iM 12 14,iE 15 12 0,iE 16 12 1,iM 2 15,iM 3 16]
def xx:Rg:=[iO 18 7 1,iA 19 (.aFC true 1 1 [zI] [(0,(Ci 0))]),iK2 20 288 18 19,iM 17 20,iE 21 17 0,iE 22 17 1,iM 4 21,iM 5 22]
def xy:Rg:=[iO 24 7 1,iA 25 (.aFC true 1 1 [zI] [(0,(Ci 0))]),iK2 26 289 24 25,iM 23 26,iE 27 23 0,iE 28 23 1,iA 6 (.alloc [.aA,.aA,.aA]),iS 3 6 27,iM 7 28]
def xz:Rg:=[iM 29 3,iC 30 .eql 29 0,iM 31 30,gM 32 2 31 true,gN 33 32 31 true,gC 34 .eql 33 1 31 true,iP 35 31 34,iM 36 35,gM 37 2 36 true,iG 38 (.aFO 1 (Tm 37) (Ci 0)) 36 true,gL 39 38 36 true,gN 40 39 36 true,gC 41 .eql 40 1 36 true,iP 42 36 41,iM 43 42,gM 44 2 43 true,iG 45 (.aFO 1 (Tm 44) (Ci 0)) 43 true,gL 46 45 43 true,iG 47 (.aFO 1 (Tm 46) (Ci 0)) 43 true,gL 48 47 43 true,gC 49 .eql 48 0 43 true,iP 50 43 49,iM 51 50,gM 52 5 51 true,gC 53 .eql 52 12 51 true,iP 54 51 53,iM 55 54,gM 56 7 55 true,iP 57 55 56,iM 58 57,gO 59 7 1 58 true,iG 60 (.aFC true 1 1 [zI] [(0,(Ci 0))]) 58 true,gO 61 3 6 58 true,iG 62 (.call 290 [(Tm 59),(Tm 60),(Tm 61)]) 58 true,iP 63 58 62,iM 64 63,gO 65 7 1 64 true,gO 66 3 6 64 true,iG 67 (.call 290 [(Tm 65),(.const .aA),(Tm 66)]) 64 true,iG 68 (.un .not (Tm 67)) 64 true,iP 69 64 68,iM 0 69]
def FQ:aE:=(sq xu (sq xv (sq xw (sq RW (sq xx (sq xy (sq xz .ret)))))))
def agO:List Nat:=[10,19,25,60]
def Nt:bC:=⟨0,70,FQ,[.tmp 0]⟩
def x2:Rg:=[iT 2 false]
def x3:Rg:=[iM 11 0,iK 12 28 11,iM 3 12]
def x4:Rg:=[iM 13 3,iA 14 (.call 0 [(Tm 13),(Ci 8),(Ci 3)]),iA 4 (.alloc [zI,.aA,.aA,.aA,.aA,.aA,.aA]),iS 7 4 14]
def x5:Rg:=[iM 15 3,iO 16 7 4,iK2 17 3 15 16,iM 5 17]
def x6:Rg:=[iM 18 3,iO 19 7 4,iK2 20 6 18 19,iM 6 20]
def x7:Rg:=[iO 22 7 4,iM 23 6,iK2 24 288 22 23,iM 21 24,iE 25 21 0,iE 26 21 1,iM 7 25,iM 8 26]
def x8:Rg:=[iO 28 7 4,iM 29 6,iK2 30 289 28 29,iM 27 30,iE 31 27 0,iE 32 27 1,iA 9 (.alloc [.aA,.aA,.aA]),iS 3 9 31,iM 10 32]
def x9:Rg:=[iO 33 7 4,iM 34 5,iM 35 6,iA 36 (.call 150 [(Tm 33),(Tm 34),(Tm 35)]),iA 37 (.un .not (Tm 36)),iM 38 37,gM 39 8 38 false,gC 40 .eql 39 0 38 false,gM 41 40 38 false,gM 42 10 41 true,iG 43 (.un .not (Tm 42)) 41 true,iG 44 (.pick (Tm 41) (Tm 43) (.const zB)) 38 false,iQ 45 38 44,iM 46 45,iG 47 (.call 312 []) 46 true,iP 48 46 47,iM 2 48]
def FS:aE:=(sq x2 (sq x3 (sq x4 (sq x5 (sq x6 (sq x7 (sq x8 (sq x9 .ret))))))))
def agR:List Nat:=[]
def jt:bC:=⟨1,49,FS,[.tmp 2]⟩
def qL (H:PH) (s:Nat) (q:Nat) (v:PV) (rows:List (List PV)):Prop :=
 ∃ rs e,v=.osl q s e rows.length∧H q=some (.rows s rs)∧e+rows.length≤rs.length∧(rs.drop e).take rows.length=rows
section
variable {H:PH} {s b q:Nat} {v y:PV} {rows src:List (List PV)}
theorem qL.aoA (h:qL H s q v rows):dH H s v=some rows:=by
 obtain⟨rs,u,rfl,e,j,l⟩:=h;simp only[dH,if_true,e,true_and,if_pos j,l]
theorem qL.ext {H':PH} (h:qL H s q v rows) (A:∀ x,H q=some x→H' q=some x):qL H' s q v rows:=by
 obtain⟨rs,e,j,l,u,w⟩:=h;exact⟨rs,e,j,A _ l,u,w⟩
theorem qL.tail {r:List PV} (h:qL H s q v (r::rows)):∃ v',PV.slice s v 1 ((rows.length+1:Nat):Int) none=some v'∧qL H s q v' rows:=by
 obtain⟨rs,e,rfl,l,u,j⟩:=h;rw[aIF] at u j;refine⟨.osl q s (e+1) rows.length,?_,rs,e+1,rfl,l,by omega,?_⟩
 ·unfold PV.slice;show (if s=s∧(0:Int)≤1∧(1:Int)≤((rows.length+1:Nat):Int)∧((rows.length+1:Nat):Int)≤((r::rows).length:Nat)∧((none:Option Int)=none∨(none:Option Int)=some ((rows.length+1:Nat):Int)) then some (PV.osl q s (e+(1:Int).toNat) (((rows.length+1:Nat):Int).toNat-(1:Int).toNat)) else none)=_;rw[if_pos ⟨rfl,by omega,by omega,by rw[aIF]; omega,.inl rfl⟩];rfl
 ·have:=congrArg (List.drop 1) j;rw[List.drop_take,List.drop_drop,Nat.add_sub_cancel] at this;exact this
theorem qL.append {K:PV→PH→Prop} (h:qL H s q v rows) (R:dH H s y=some src) (O:roomFor rows.length src.length b)
  (N:∀ J v' H',qL H' s J v' (rows++src)→(J=q∨H J=none)→(∀ o x,o≠q→H o=some x→H' o=some x)→(∀ o,o≠J→H o=none→H' o=none)→K v' H'):mS H s b v y K:=by
 obtain⟨rs,j,rfl,M,I,E⟩:=h;have A:(rows++src).length=rows.length+src.length:=aGO;have F:∀ j,j+rows.length≤rs.length→(rs.drop j).take rows.length=rows→K (.osl q s j (rows.length+src.length)) (H.set q (.rows s (rs.take (j+rows.length)++src))):=fun j I E=>by
  refine N q _ _ ⟨rs.take (j+rows.length)++src,j,by rw[A],by simp only[aP,if_true],by rw[aGO,aGO,aGY]; omega,?_⟩ (.inl rfl) (fun o x l w=>by simp only[aP,if_neg l,w]) fun o l w=>by simp only[aP,if_neg l,w]
  have e:(rs.take (j+rows.length)).drop j=rows:=by rw[List.drop_take,Nat.add_sub_cancel_left,E]
  rw[List.drop_append_of_le_length (by rw[aGY]; omega),e];exact aHV
 have B:∀ o,H o=none→K (.osl o s 0 (rows.length+src.length)) (H.set o (.rows s (rows++src))):=fun o w=>by
  refine N o _ _ ⟨rows++src,0,by rw[A],by simp only[aP,if_true],by omega,by rw[aHW,aHV]⟩ (.inr w) (fun S x l u=>?_) fun S l u=>by simp only[aP,if_neg l,u]
  have:S≠o:=by rintro rfl; rw[w] at u; cases u
  simp only[aP,if_neg this,u]
 cases j with
 | zero =>
  refine⟨src,R,rfl,rfl,O,rs,M,by omega,?_,fun o w=>?_⟩
  ·have:=F 0 I E
   rwa [aHE] at this
  ·rw[aHW] at E;rw[E];exact B o w
 | succ j =>refine⟨src,R,rfl,O,rs,M,I,F _ I E,fun o w=>?_⟩;rw[E];exact B o w
end
section
variable {C:Ctx} {F:PF} {H:PH}
theorem VN {name:Nat} {vs cs:List PV} {e:PH} {R:PV→PH→Prop} {args:List aN} {d:Option Nat} {K:PF→PH→Prop} (h:aG C name (vs++cs) e R) (l:aN.evs F args=some vs) (j:e.le H)
  (u:∀ r H',R r H'→lI H e H'→K (F.put d r) (H.over e H')):gA C name args cs d K F H :=
 .inl ⟨vs++cs,e,R,by rw[l]; rfl,j,h,u⟩
theorem Nq {name o:Nat} {x y:bG} {r:PV} {vs cs:List PV} {args:List aN} {d:Option Nat} {K:PF→PH→Prop} (h:aG C name (vs++cs) (PH.nil.set o x) (fun e H'=>e=r∧H'=PH.nil.set o y)) (u:H o=some x) (j:aN.evs F args=some vs)
  (l:K (F.put d r) (H.set o y)):gA C name args cs d K F H:=by
 refine VN h j (e_ a_ u) ?_;rintro e H' ⟨rfl,rfl⟩ -;rw[PH.qE];exact l
theorem Np {name:Nat} {vs cs:List PV} {args:List aN} {d:Option Nat} {K:PF→PH→Prop} {B1 B2:List BX} {L1 L2:List LI} {Q:PV→List BX→List LI→Prop} (h:aL H (B1++B2) (L1++L2))
  (w:∀ j,aL j B1 L1→aG C name (vs++cs) j (fun r H'=>∃ B' L',Q r B' L'∧aL H' B' L')) (u:aN.evs F args=some vs)
  (x:∀ r B' L' H',Q r B' L'→aL H' (B'++B2) (L'++L2)→K (F.put d r) H'):gA C name args cs d K F H:=by
 refine VN (w (H.only (eC B1++dC L1)) (h.only (aKI ..) (aKI ..))) u (SW H _) ?_;rintro r H' ⟨B',L',hq,l⟩ e;exact x r B' L' _ hq (h.frame l e)
theorem uW {name o:Nat} {x:bG} {r:PV} {vs cs:List PV} {args:List aN} {d:Option Nat} {K:PF→PH→Prop} (h:aG C name (vs++cs) (PH.nil.set o x) (fun u H'=>u=r∧H'=PH.nil.set o x)) (e:H o=some x) (j:aN.evs F args=some vs)
  (l:K (F.put d r) H):gA C name args cs d K F H:=by
 refine Nq h e j ?_;rw[PH.amK e];exact l
end
theorem jy {l:List bK} {k:Nat} (h:k<l.length):(l.map bK.cells)[k]?=some (l[k]).cells:=by simp[h]
abbrev pP (n:cC):bG:=.rows 4 [n.cells]
theorem akU {C:Ctx} (n:cC) (o x:Nat) (l:x<n.nodes):JP.wp C (aT Yc.res (fun r H'=>r=.bool true∧H'=PH.nil.set o (pP n))) (PF.args [.int .i64 (x:Nat),.ptr o 4 0 0]) (PH.nil.set o (pP n)):=by
 have e:(0:Int)≤(x:Int):=Om;have j:(x:Int)<(n.nodes:Nat):=Om;simp only[go_sem,JP,Hd,Yc,He,e,j];exact aU (vs:=[.bool true]) (.inr rfl) _ Ev (fun _ _ h=>h) ⟨rfl,rfl⟩
theorem adF {C:Ctx} (y:∀ (n:cC) (o x:Nat),x<n.nodes→aG C 291 [.int .i64 (x:Nat),.ptr o 4 0 0] (PH.nil.set o (pP n)) (fun r H'=>r=.bool true∧H'=PH.nil.set o (pP n))) (n:cC) (w:fU n) :
  DW.wp C (aT Ht.res (aM (.bool true))) (PF.args [.agg n.cells]) .nil:=by
 have a1:¬ (n.nodes:Int)<2:=by have:=w.two; omega
 have a2:¬ (n.nodes:Int)>700:=by have:=w.few; omega
 have a3:¬ (n.arcs.length:Int)>2500:=by have:=w.num; omega
 have a4:¬ (n.source:Int)=n.sink:=by have:=w.apart; omega
 have M:=w.num;simp only[go_sem,DW,sn,Ht];refine aQ fun o N=>?_;simp only[go_sem,sr,ss,a1,a2,a3,aGK];refine uW (vs:=[.int .i64 (n.source:Nat)]) (cs:=[.ptr o 4 0 0]) (y n o n.source w.source) (by rw[cM]) Ev ?_;simp only[go_sem];refine uW (vs:=[.int .i64 (n.sink:Nat)]) (cs:=[.ptr o 4 0 0]) (y n o n.sink w.sink) (by rw[cM]) Ev ?_;simp only[go_sem,bB a4,su,aGK];refine wp_loop (α:=Nat) (fun k=>(((((PF.nil.set 1 (.ptr o 4 0 0)).set 3 (.fn 291 [.ptr o 4 0 0])).set 43 (jx n.arcs)).set 44 (.int .i64 (n.arcs.length:Nat))).set 45 (.int .i64 (k:Nat)))) (fun _=>PH.nil.set o (pP n)) (fun k=>k≤n.arcs.length) (fun k=>n.arcs.length-k) 0 (aGW _) Lq (fun _ _ h=>h) ?_;intro k J;simp only[go_sem,gj,sv];by_cases hlt:k<n.arcs.length
 ·have u:(k:Int)<(n.arcs.length:Nat):=Om;obtain⟨F,I,K⟩:=w.ends _ (aGP hlt);simp only[go_sem,u,sw,jy hlt];refine aQ fun p A=>?_;have l:¬ p=o:=fun e=>by rw[e,cM] at A; cases A
  have j:¬ o=p:=fun e=>l e.symm;simp only[go_sem,l,j,sx];refine uW (vs:=[.int .i64 ((n.arcs[k]).src:Nat)]) (cs:=[.ptr o 4 0 0]) (y n o _ F) (by simp only[go_sem,l,j]) Ev ?_;simp only[go_sem];refine uW (vs:=[.int .i64 ((n.arcs[k]).dst:Nat)]) (cs:=[.ptr o 4 0 0]) (y n o _ I) (by simp only[go_sem,l,j]) Ev ?_;have B:¬ ((n.arcs[k]).cap:Int)<0:=Om;have E:¬ ((n.arcs[k]).cap:Int)>2147483647:=Om;simp only[go_sem,l,j,B,E,sy,wZz k];exact aH (k+1) hlt Om Lq (e_ a_ (by simp only[go_sem,l,j]))
 ·have u:¬ (k:Int)<(n.arcs.length:Nat):=Om;simp only[go_sem,u,gk];refine cE (.inr rfl) Ev ?_;rfl
structure Wa (n:cC) (cut:List Bool):Prop where
 len:cut.length=n.nodes
 src:cut.getD n.source false=true
 snk:cut.getD n.sink false=false
theorem aaS (S:Nat→Bool) (l:List bK) {k:Nat} (h:k<l.length):dB S (l.take (k+1))=dB S (l.take k)+if S (l[k]).src=true∧S (l[k]).dst=false then (l[k]).cap else 0:=by
 have e:∀ (a b:List bK),dB S (a++b)=dB S a+dB S b:=by
  intro a
  induction a with
  | nil=>intro b; simp[dB]
  | cons x a j=>intro b; rw[List.cons_append,dB,dB,j]; omega
 rw[aIR h,e];simp[dB]
theorem j7 (S:Nat→Bool) {M:Nat}:∀ {l:List bK},(∀ a∈l,a.cap≤M)→dB S l≤l.length*M
 | [],_=>aGW _
 | a::l,h=>by have e:=h a (by simp);have j:=j7 S (l:=l) fun b hb=>h b (by simp[hb]);rw[dB,aIF,aIX];split<;>omega
theorem aaT {n:cC} (e:fU n) (S:Nat→Bool) (k:Nat):dB S (n.arcs.take k)≤5368709117500:=by
 have w:=j7 S (M:=2147483647) (l:=n.arcs.take k) fun a u=>(e.ends a (List.mem_of_mem_take u)).2.2;have j:(n.arcs.take k).length≤2500:=aJC (by rw[aGY]; omega) e.num;have x:(n.arcs.take k).length*2147483647≤2500*2147483647:=aHO _ j;omega
theorem asD {C:Ctx} (O:∀ n:cC,fU n→aG C 292 [.agg n.cells] .nil (aM (.bool true))) (n:cC) (u:fU n) (cut:List Bool) (l:Wa n cut) :
  OM.wp C (aT ajY.res (aM (.tup [.int .i64 ((dB (fun w=>cut.getD w false) n.arcs:Nat):Int),.bool true]))) (PF.args [.agg n.cells,kM cut]) .nil:=by
 have a1:(cut.length:Int)=n.nodes:=by have:=l.len; omega
 have I:n.source<cut.length:=by rw[l.len]; exact u.source
 have J:n.sink<cut.length:=by rw[l.len]; exact u.sink
 have U:=u.num;have x:kM cut=.sl 1 (bF cut):=rfl;rw[x];simp only[go_sem,OM,Sj,ajY,Sk];refine aB (O n u) Ev ?_;simp only[go_sem,jC,cK a1,mG I,mG J,l.src,l.snk,Sl,Sm,aGK];refine wp_loop (α:=Nat) (fun k=>((((((PF.nil.set 1 (.sl 1 (bF cut))).set 2 (.cS n.cells)).set 6 (.int .i64 ((dB (fun w=>cut.getD w false) (n.arcs.take k):Nat):Int))).set 35 (jx n.arcs)).set 36 (.int .i64 (n.arcs.length:Nat))).set 37 (.int .i64 (k:Nat)))) (fun _=>.nil) (fun k=>k≤n.arcs.length) (fun k=>n.arcs.length-k) 0 (aGW _) Lq a_ ?_;intro k R;simp only[go_sem,Gg,Sn];by_cases hlt:k<n.arcs.length
 ·have j:(k:Int)<(n.arcs.length:Nat):=Om;obtain⟨M,N,S⟩:=u.ends _ (aGP hlt);have K:(n.arcs[k]).src<cut.length:=by rw[l.len]; exact M
  have B:(n.arcs[k]).dst<cut.length:=by rw[l.len]; exact N
  have y:=aaS (fun w=>cut.getD w false) n.arcs hlt;have hb:=aaT u (fun w=>cut.getD w false) (k+1);simp only[go_sem,j,So,jy hlt];refine aQ fun p V=>?_;simp only[go_sem,Sp,mG K,mG B];cases E:cut.getD (n.arcs[k]).src false with
  | false =>rw[if_neg (by rw[E]; rintro⟨h,-⟩; cases h),aIC] at y;simp only[go_sem,SO,wZz k];exact aH (k+1) hlt Om (by (repeat' (first|exact d_|refine c_ ?_ ?_))<;>first|(simp only[go_sem,y]<;>rfl)|rfl) a_
  | true =>
   simp only[go_sem,mG B];cases F:cut.getD (n.arcs[k]).dst false with
   | true =>rw[if_neg (by rw[F]; rintro⟨-,h⟩; cases h),aIC] at y;simp only[go_sem,SO,wZz k];exact aH (k+1) hlt Om (by (repeat' (first|exact d_|refine c_ ?_ ?_))<;>first|(simp only[go_sem,y]<;>rfl)|rfl) a_
   | false =>
    rw[if_pos ⟨E,F⟩] at y;have e:IntKind.i64.wrap (((dB (fun w=>cut.getD w false) (n.arcs.take k):Nat):Int)+((n.arcs[k]).cap:Int))=((dB (fun w=>cut.getD w false) (n.arcs.take (k+1)):Nat):Int):=by rw[wrap_i64 Om Om]; omega
    simp only[go_sem,Sr,e,SO,wZz k];exact aH (k+1) hlt Om Lq a_
 ·have j:¬ (k:Int)<(n.arcs.length:Nat):=Om;have A:n.arcs.take k=n.arcs:=aGZ Om;simp only[go_sem,j,Gh,A];refine cE (.inr rfl) Ev ?_;rfl
abbrev dO (N:Nat) (v:PV):bG:=.rows 4 [[.int .i64 (N:Nat),.int .i64 0,.int .i64 1,v]]
theorem asT {C:Ctx} (o N x y z:Nat) (v:PV) (l:List bK) (F:l.length≤1000000) (H:PH) (w:aL H [(o,dO N v)] [(v,4,l.map bK.cells)]) :
  OU.wp C (aT alA.res (fun r H'=>∃ (B':List BX) (L':List LI),(r=.tup []∧∃ v',B'=[(o,dO N v')]∧L'=[(v',4,(l++[(⟨x,y,z⟩:bK)]).map bK.cells)])∧aL H' B' L')) (PF.args [.int .i64 (x:Nat),.int .i64 (y:Nat),.int .i64 (z:Nat),.ptr o 4 0 0]) H:=by
 have E:=w.at 0 rfl;simp only[go_sem,OU,Tk,alA,E];refine w.append 0 rfl (src:=[bK.cells ⟨x,y,z⟩]) rfl ?_ fun v' H' u j=>?_
 ·unfold roomFor;rw[aGK,aGR];simp only[maxLen];omega
 obtain⟨q,hq⟩:=j (by simp);have e:=u.at 0 rfl;have B:=u.set 0 rfl (dO N v');generalize ((l.map bK.cells++[bK.cells ⟨x,y,z⟩]).length)=len at hq;subst hq;simp only[go_sem,e];refine⟨H'.set o (dO N (.osl q 4 0 len)),if_pos (fun x A=>by rw[aHU] at A; subst A; rfl),?_⟩;refine aU (vs:=[]) (.inl rfl) (H'.set o (dO N (.osl q 4 0 len))) rfl (fun _ _ h=>h) ⟨[(o,dO N (.osl q 4 0 len))],_,⟨rfl,_,rfl,rfl⟩,?_⟩;rw[aHX];exact B
def BW (n:Nat):List Nat→Option (List Nat)
 | []=>none
 | x::t=>match BW n t with
  | some u=>some (x::u)
  | none=>if x+1+t.length=n then none else some (List.range' (x+1) (t.length+1))
theorem ta {n:Nat}:∀ {s u:List Nat},BW n s=some u→u.length=s.length
 | [],_,h=>by cases h
 | x::t,u,h=>by
  rw[BW] at h;split at h
  ·rename_i v e;cases h;simp[ta e]
  ·split at h
   ·cases h
   ·cases h;simp
inductive VQ (n:Nat):List Nat→List (List Nat)→Prop
 | last {s:List Nat} (h:BW n s=none):VQ n s [s]
 | step {s t:List Nat} {l:List (List Nat)} (h:BW n s=some t) (w:VQ n t l):VQ n s (s::l)
theorem VQ.map {n x k:Nat} {e:List (List Nat)} (y:(x+1+k=n∧e=[])∨(x+1+k≠n∧VQ n (List.range' (x+1) (k+1)) e)) {t:List Nat} {l:List (List Nat)} (w:VQ n t l) (j:t.length=k):VQ n (x::t) (l.map (x::·)++e):=by
 induction w with
 | @last s h =>
  rcases y with ⟨u,rfl⟩ | ⟨u,h2⟩
  ·exact .last (by rw[BW,h]; simp only; rw[if_pos (by rw[j]; exact u)])
  ·exact .step (by rw[BW,h]; simp only; rw[if_neg (by rw[j]; exact u),j]) h2
 | @step s t l h _ A=>exact .step (by rw[BW,h]) (A (by rw[ta h,j]))
def avI (f:aC) (p:cW) (d:Int):Bool:=p.aEX.contains ((mdl f d.toNat:Nat):Int)
def Hy (s:List Nat):List Int:=s.map fun (x:Nat)=>(x:Int)
def cH (g:Nat→Nat):Nat→Nat
 | 0=>0
 | n+1=>cH g n+g n
theorem vX (g h:Nat→Nat):∀ n,cH (fun k=>g k+h k) n=cH g n+cH h n
 | 0=>rfl
 | n+1=>by rw[cH,cH,cH,vX g h n]; omega
theorem vY {g h:Nat→Nat}:∀ {n:Nat},(∀ k,k<n→g k≤h k)→cH g n≤cH h n
 | 0,_=>aGQ _
 | n+1,e=>by rw[cH,cH];exact Nat.add_le_add (vY fun k j=>e k Om) (e n Om)
theorem eJ {g h:Nat→Nat}:∀ {n:Nat},(∀ k,k<n→g k=h k)→cH g n=cH h n
 | 0,_=>rfl
 | n+1,e=>by rw[cH,cH,eJ (n:=n) fun k j=>e k Om,e n Om]
theorem oO:∀ n,cH (fun _=>0) n=0
 | 0=>rfl
 | n+1=>by rw[cH,oO n]
theorem CF (g:Nat→Nat→Nat) (n:Nat):∀ m,cH (fun v=>cH (g v) n) m=cH (fun d=>cH (fun v=>g v d) m) n
 | 0=>by rw[cH];exact (oO n).symm
 | m+1=>by rw[cH,CF g n m,← vX]; rfl
theorem Vb {g:Nat→Nat}:∀ {n k:Nat},k<n→g k≤cH g n
 | 0,_,h=>by omega
 | n+1,k,h=>by
  rw[cH];by_cases e:k=n
  ·subst e; omega
  ·have:=Vb (g:=g) (n:=n) (k:=k) Om; omega
theorem KT (c:Nat) (g:Nat→Nat):∀ n,cH (fun k=>c*g k) n=c*cH g n
 | 0=>rfl
 | n+1=>by rw[cH,cH,KT c g n,aGX]
def one (b:Bool):Nat:=if b=true then 1 else 0
theorem wQ:one true=1:=rfl
theorem wP:one false=0:=rfl
def fB (p:Nat→Bool) (n:Nat):Nat:=cH (fun k=>one (p k)) n
theorem bs (p:Nat→Bool):∀ n,fB p n=(aGL n).countP p
 | 0=>rfl
 | n+1=>by rw[aJA,List.countP_append,← bs p n,fB,cH];cases h:p n<;>simp[one,h,fB]
def cO (f:aC) (v i:Nat):Nat:=if i=0 then 2+v else 2+f.aEY.length+v*(f.aEZ.length-1)+i-1
def bH (f:aC) (d:Nat):Nat:=2+f.aEY.length*f.aEZ.length+d
def fW (f:aC) (v:Nat):Nat:=(fR f v).toNat
def wL (f:aC) (v i:Nat):Nat:=if eN f (cL f v) i=0 then fW f v else (eN f (cL f v) i).toNat
def KJ (f:aC) (room:List Int) (d:Nat):Nat:=(qF f room d).toNat
def okD (f:aC) (v d:Nat):Bool:=avI f (cL f v) d
def jY (f:aC) (v k:Nat):bK:=⟨cO f v (gY f (k+1)),cO f v (k+1),wL f v (k+1)⟩
def eO (f:aC) (v d:Nat):bK:=⟨cO f v (dL f d),bH f d,1⟩
def fD (f:aC) (v:Nat):List bK:=⟨0,2+v,fW f v⟩::((aGL (f.aEZ.length-1)).map (jY f v)++((aGL f.aEW.length).filter (okD f v)).map (eO f v))
def nJ (f:aC) (room:List Int) (d:Nat):bK:=⟨bH f d,1,KJ f room d⟩
def fQ (f:aC) (room:List Int):List bK:=(aGL f.aEY.length).flatMap (fD f)++(aGL f.aEW.length).map (nJ f room)
def eD (f:aC) (room:List Int):cC:=⟨bH f f.aEW.length,0,1,fQ f room⟩
def pK (f:aC):Nat:=cH (fW f) f.aEY.length
theorem nL {f:aC} (h:VF f) {v:Nat} (l:v<f.aEY.length):fW f v≤8∧1≤fW f v∧(fW f v:Int)=fR f v∧∀ i,wL f v i≤8:=by
 obtain⟨j,he⟩:=mP h l;have e:=h.aFJ _ (aGP j);rw[he] at e;have u:fR f v=(cL f v).k+(cL f v).m:=rfl;unfold wL fW;refine⟨by omega,by omega,by omega,fun i=>?_⟩;have:=e.2.2.2.2.2.2.1 (lvl f i).toNat;unfold eN;split<;>omega
theorem yV {f:aC} (h:VF f) (room:List Int) {d:Nat} (e:d<f.aEW.length):KJ f room d≤16∧(KJ f room d:Int)=qF f room d:=by
 have:=aeP h room e;unfold KJ;omega
theorem iH {f:aC} (h:VF f) {v i:Nat} (j:v<f.aEY.length) (hi:i<f.aEZ.length):2≤cO f v i∧cO f v i<bH f 0:=by
 have u:=h.root.1;have e:(v+1)*(f.aEZ.length-1)≤f.aEY.length*(f.aEZ.length-1):=aHO _ j;rw[aIX] at e;have l:f.aEY.length*f.aEZ.length=f.aEY.length*(f.aEZ.length-1)+f.aEY.length:=by
  conv=>lhs; rw[show f.aEZ.length=(f.aEZ.length-1)+1 by omega,Nat.mul_succ]
 unfold cO bH;split<;>omega
theorem Ni (f:aC) (v:Nat):(fD f v).length≤f.aEZ.length+f.aEW.length+1:=by
 unfold fD;rw[aIF,aGO,aGK,aGK,aJO];have:=List.length_filter_le (okD f v) (aGL f.aEW.length);rw[aJO] at this;omega
theorem alG (f:aC) (room:List Int):(fQ f room).length≤f.aEY.length*(f.aEZ.length+f.aEW.length+1)+f.aEW.length:=by
 unfold fQ;rw[aGO,aGK,aJO];have e:∀ n,((aGL n).flatMap (fD f)).length≤n*(f.aEZ.length+f.aEW.length+1):=by
  intro n
  induction n with
  | zero=>simp
  | succ n j =>rw[aJA,aKH,aGO,aIX];have:=Ni f n;simp only[List.flatMap_cons,List.flatMap_nil,aHY];omega
 have:=e f.aEY.length;omega
theorem OZ {f:aC} (h:VF f) (room:List Int):fU (eD f room):=by
 obtain⟨s1,s2,s3,s4,N,O⟩:=h.small;have I:bH f f.aEW.length=bH f 0+f.aEW.length:=by unfold bH; omega
 have K:f.aEY.length*f.aEZ.length≤12*40:=aJU Om Om;have A:=h.root.1;have hb:bH f 0=2+f.aEY.length*f.aEZ.length:=rfl;refine⟨?_,?_,?_,?_,?_,(show (0:Nat)≠1 by decide),fun a ha=>?_⟩
 ·show 2≤bH f f.aEW.length;omega
 ·show bH f f.aEW.length≤700;omega
 ·refine aJC (alG f room) ?_;have:f.aEY.length*(f.aEZ.length+f.aEW.length+1)≤12*(40+24+1):=aJU Om Om;omega
 ·show 0<bH f f.aEW.length;omega
 ·show 1<bH f f.aEW.length;omega
 ·show a.src<bH f f.aEW.length∧a.dst<bH f f.aEW.length∧a.cap≤2147483647;have u:∀ d,d<f.aEW.length→bH f d<bH f f.aEW.length:=fun d u=>by unfold bH; omega
  rcases aHQ.1 (show a∈fQ f room from ha) with ha | ha
  ·obtain⟨v,l,ha⟩:=List.mem_flatMap.1 ha;have l:=aHG.1 l;obtain⟨B,E,F,x⟩:=nL h l;rcases aGV.1 ha with rfl | ha
   ·have:=(iH h l A).2;simp only[cO,if_true] at this;simp only;exact⟨by omega,by omega,by omega⟩
   ·rcases aHQ.1 ha with ha | ha
    ·obtain⟨k,w,rfl⟩:=aHJ.1 ha;have w:=aHG.1 w;have M:=(h.dom (k+1) Om Om).2.1;have y:=(iH h l (i:=gY f (k+1)) Om).2;have J:=(iH h l (i:=k+1) Om).2;have:=x (k+1);simp only[jY];exact⟨by omega,by omega,by omega⟩
    ·obtain⟨d,j,rfl⟩:=aHJ.1 ha;have e:=aHG.1 (aJY.1 j).1;have y:=(iH h l (i:=dL f d) (h.drive d e).2.2.2.1).2;have:=u d e;simp only[eO];exact⟨by omega,this,by omega⟩
  ·obtain⟨d,j,rfl⟩:=aHJ.1 ha;have e:=aHG.1 j;have:=u d e;have:=yV h room e;simp only[nJ];exact⟨by omega,by omega,by omega⟩
def inD (f:aC) (i d:Nat):Bool:=decide (iU f d (lvl f i)=i)
structure tJ (f:aC) (room:List Int) (u:Nat→Nat→Bool):Prop where
 num:∀ v,v<f.aEY.length→fB (u v) f.aEW.length=fW f v
 ok:∀ v d,v<f.aEY.length→d<f.aEW.length→u v d=true→okD f v d=true
 bound:∀ v i,v<f.aEY.length→0<i→i<f.aEZ.length→eN f (cL f v) i≠0→fB (fun d=>u v d&&inD f i d) f.aEW.length≤(eN f (cL f v) i).toNat
 room:∀ d,d<f.aEW.length→fB (fun v=>u v d) f.aEY.length≤KJ f room d
theorem lW (S:Nat→Bool):∀ l m:List bK,dB S (l++m)=dB S l+dB S m
 | [],m=>by simp[dB]
 | a::l,m=>by rw[List.cons_append,dB,dB,lW S l m]; omega
def iV (S:Nat→Bool) (a:bK):Nat:=if S a.src=true∧S a.dst=false then a.cap else 0
theorem AE (S:Nat→Bool) (F:Nat→bK):∀ n,dB S ((aGL n).map F)=cH (fun k=>iV S (F k)) n
 | 0=>rfl
 | n+1=>by rw[aJA,aHX,lW,AE S F n,cH]; rfl
theorem NC (S:Nat→Bool) (F:Nat→List bK):∀ n,dB S ((aGL n).flatMap F)=cH (fun k=>dB S (F k)) n
 | 0=>rfl
 | n+1=>by rw[aJA,aKH,lW,NC S F n,cH];simp
theorem DA (S:Nat→Bool) (F:Nat→bK) (p:Nat→Bool):∀ n,dB S (((aGL n).filter p).map F)=cH (fun k=>if p k=true then iV S (F k) else 0) n
 | 0=>rfl
 | n+1=>by rw[aJA,List.filter_append,aHX,lW,DA S F p n,cH];cases h:p n<;>simp[h,dB,iV]
theorem Yy (a b:Bool) (h:a=true→b=true):one a≤one b:=by
 cases a<;>cases b<;>simp_all [one]
theorem Uz (a b:Bool):one (a&&b)=one a*one b:=by cases a<;>cases b<;>rfl
theorem aaU {f:aC} (h:VF f) {d:Nat} (x:d<f.aEW.length) (S:Nat→Bool) (D:Nat→Nat) (w:S (D 0)=true):∀ k,k≤4→S (D (upN f k (dL f d)))=false→∃ i,0<i∧i<f.aEZ.length∧inD f i d=true∧S (D (gY f i))=true∧S (D i)=false:=by
 have u:upN f 4 (dL f d)=0:=by
  obtain⟨a,b⟩:=GP h x (k:=4) (aGQ _);rcases aIS (upN f 4 (dL f d)) with e | e
  ·exact e
  ·have:=(h.dom _ e a).2.2.2.1;omega
 intro k A j;obtain⟨m,E⟩:∃ m,m=4-k:=⟨_,rfl⟩
 induction m generalizing k with
 | zero =>have:k=4:=Om;subst this;rw[u,w] at j;cases j
 | succ m B =>
  cases y:S (D (upN f (k+1) (dL f d))) with
  | false=>exact B (k+1) Om y Om
  | true =>
   obtain⟨a,b⟩:=GP h x A;have l:0<upN f k (dL f d):=by
    rcases aIS (upN f k (dL f d)) with e | e
    ·rw[e,w] at j; cases j
    ·exact e
   refine⟨upN f k (dL f d),l,a,?_,y,j⟩;unfold inD iU;rw[b,decide_eq_true_eq];congr 1;omega
theorem tJ.vol {f:aC} (h:VF f) {room:List Int} {u:Nat→Nat→Bool} (A:tJ f room u) (S:Nat→Bool) (K:S 0=true) {v:Nat} (B:v<f.aEY.length) :
  fW f v≤dB S (fD f v)+cH (fun d=>one (u v d)*one (S (bH f d))) f.aEW.length:=by
 have N:dB S (fD f v)=iV S ⟨0,2+v,fW f v⟩+(cH (fun k=>iV S (jY f v k)) (f.aEZ.length-1)+cH (fun d=>if okD f v d=true then iV S (eO f v d) else 0) f.aEW.length):=by unfold fD;rw[dB,lW,AE,DA]; rfl
 rw[N];cases J:S (2+v) with
 | false =>
  have:iV S ⟨0,2+v,fW f v⟩=fW f v:=by unfold iV; simp[K,J]
  omega
 | true =>
  have j:S (cO f v 0)=true:=J;have each:∀ d,d<f.aEW.length→one (u v d)≤one (u v d)*one (S (bH f d))+((if okD f v d=true then iV S (eO f v d) else 0)+cH (fun k=>one (u v d&&inD f (k+1) d)*one (S (cO f v (gY f (k+1)))&&!S (cO f v (k+1)))) (f.aEZ.length-1)):=by
   intro d F;cases R:u v d with
   | false=>exact aGW _
   | true =>
    have y:=A.ok v d B F R;cases M:S (bH f d) with
    | true=>rw[wQ]; omega
    | false =>
     cases E:S (cO f v (dL f d)) with
     | true =>
      have:iV S (eO f v d)=1:=by unfold iV eO; simp[M,E]
      rw[if_pos y,this,wQ,wP]; omega
     | false =>obtain⟨i,X,Y,U,V,W⟩:=aaU h F S (cO f v) j 0 Om E;have I:=Vb (g:=fun k=>one (true&&inD f (k+1) d)*one (S (cO f v (gY f (k+1)))&&!S (cO f v (k+1)))) (n:=f.aEZ.length-1) (k:=i-1) Om;simp only[show i-1+1=i by omega,U,V,W,wQ,Bool.and_self,aHM] at I;rw[wQ,wP];omega
  have l:=A.num v B;have w:=vY (n:=f.aEW.length) each;rw[vX,vX,CF] at w;have x:cH (fun k=>cH (fun d=>one (u v d&&inD f (k+1) d)*one (S (cO f v (gY f (k+1)))&&!S (cO f v (k+1)))) f.aEW.length) (f.aEZ.length-1)≤cH (fun k=>iV S (jY f v k)) (f.aEZ.length-1):=by
   refine vY fun k I=>?_;have e:cH (fun d=>one (u v d&&inD f (k+1) d)*one (S (cO f v (gY f (k+1)))&&!S (cO f v (k+1)))) f.aEW.length=one (S (cO f v (gY f (k+1)))&&!S (cO f v (k+1)))*fB (fun d=>u v d&&inD f (k+1) d) f.aEW.length:=by unfold fB;rw[← KT];exact eJ fun d _=>aHL _ _
   rw[e];unfold iV jY;simp only;cases g1:S (cO f v (gY f (k+1)))<;>cases g2:S (cO f v (k+1))<;>simp only[wQ,wP,aID,aHA,aHM,aHB,Bool.and_self,aJP,if_false,if_true,Nat.zero_mul,Nat.one_mul,and_false,false_and,and_self,aGQ,aGW,reduceCtorEq];unfold wL;split
   ·have:fB (fun d=>u v d&&inD f (k+1) d) f.aEW.length≤fB (u v) f.aEW.length:=vY fun d _=>Yy _ _ fun h=>by rw[aHC] at h; exact h.1
    omega
   ·rename_i O;exact A.bound v (k+1) B Om Om O
  unfold fB at l;omega
theorem tJ.cut {f:aC} (h:VF f) {room:List Int} {u:Nat→Nat→Bool} (A:tJ f room u) (S:Nat→Bool) (l:S 0=true) (w:S 1=false):pK f≤dB S (fQ f room):=by
 unfold fQ;rw[lW,NC,AE];have j:pK f≤cH (fun v=>dB S (fD f v)+cH (fun d=>one (u v d)*one (S (bH f d))) f.aEW.length) f.aEY.length:=vY fun v y=>A.vol h S l y;rw[vX,CF] at j;have B:cH (fun d=>cH (fun v=>one (u v d)*one (S (bH f d))) f.aEY.length) f.aEW.length≤cH (fun k=>iV S (nJ f room k)) f.aEW.length:=by
  refine vY fun d x=>?_;have e:cH (fun v=>one (u v d)*one (S (bH f d))) f.aEY.length=one (S (bH f d))*fB (fun v=>u v d) f.aEY.length:=by unfold fB;rw[← KT];exact eJ fun v _=>aHL _ _
  rw[e];have:=A.room d x;unfold iV nJ;simp only[w];cases S (bH f d) with
  | false=>simp[wP]
  | true=>simp[wQ]; exact this
 omega
def eG (g:Nat→Int):Nat→Int
 | 0=>0
 | n+1=>eG g n+g n
theorem Ko (g h:Nat→Int):∀ n,eG (fun k=>g k+h k) n=eG g n+eG h n
 | 0=>rfl
 | n+1=>by rw[eG,eG,eG,Ko g h n]; omega
theorem eI {g h:Nat→Int}:∀ {n:Nat},(∀ k,k<n→g k=h k)→eG g n=eG h n
 | 0,_=>rfl
 | n+1,e=>by rw[eG,eG,eI (n:=n) fun k j=>e k Om,e n Om]
theorem mA:∀ n,eG (fun _=>0) n=0
 | 0=>rfl
 | n+1=>by rw[eG,mA n]; rfl
theorem BB (g:Nat→Int) (a:Nat):∀ {n:Nat},a<n→eG (fun k=>if k=a then g k else 0) n=g a
 | 0,h=>by omega
 | n+1,h=>by
  rw[eG];by_cases e:n=a
  ·subst e;rw[eI (h:=fun _=>0) (n:=n) fun k j=>by rw[if_neg Om],mA,if_pos rfl];omega
  ·rw[BB g a (n:=n) Om,if_neg e];omega
theorem BA (g:Nat→Nat):∀ n,eG (fun k=>(g k:Int)) n=(cH g n:Int)
 | 0=>rfl
 | n+1=>by rw[eG,cH,BA g n]; simp
theorem ZU (g:Nat→Int):∀ n,eG (fun k=>- g k) n=- eG g n
 | 0=>rfl
 | n+1=>by rw[eG,eG,ZU g n]; omega
def gS (a:bK) (x:Nat) (w:Nat):Int:=(if a.src=w then (x:Int) else 0)-(if a.dst=w then (x:Int) else 0)
theorem yS (w:Nat):∀ {l:List bK} {xs:List Nat} (m:List bK) (e:List Nat),l.length=xs.length→gE (l++m) (xs++e) w=gE l xs w+gE m e w
 | [],[],m,e,_=>by simp[gE]
 | [],_::_,_,_,h=>by simp at h
 | _::_,[],_,_,h=>by simp at h
 | a::l,x::xs,m,e,h=>by rw[List.cons_append,List.cons_append,gE,gE,yS w m e (by simpa using h)];omega
theorem mb (w:Nat) (L:List Nat) (F:Nat→bK) (y:Nat→Nat):gE (L.map F) (L.map y) w=(L.map fun k=>gS (F k) (y k) w).sum:=by
 induction L with
 | nil=>rfl
 | cons a L e=>rw[aHR,aHR,gE,e,aHR,List.sum_cons]; rfl
theorem QO (g:Nat→Int):∀ n,((aGL n).map g).sum=eG g n
 | 0=>rfl
 | n+1=>by rw[aJA,aHX,List.sum_append,QO g n,eG]; simp
theorem iq (g:Nat→Int) (p:Nat→Bool):∀ n,(((aGL n).filter p).map g).sum=eG (fun k=>if p k=true then g k else 0) n
 | 0=>rfl
 | n+1=>by rw[aJA,List.filter_append,aHX,List.sum_append,iq g p n,eG];cases h:p n<;>simp[h]
theorem Is (w:Nat) (F:Nat→List bK) (X:Nat→List Nat):∀ n,(∀ v,v<n→(F v).length=(X v).length)→gE ((aGL n).flatMap F) ((aGL n).flatMap X) w=eG (fun v=>gE (F v) (X v) w) n
 | 0,_=>rfl
 | n+1,h=>by
  have j:((aGL n).flatMap F).length=((aGL n).flatMap X).length:=by rw[List.length_flatMap,List.length_flatMap];congr 1;exact aIP fun v e=>h v (by have:=aHG.1 e; omega)
  rw[aJA,aKH,aKH,yS w _ _ j,Is w F X n fun v e=>h v Om,eG];simp
theorem IP:∀ {L:List Nat} {Y:List Nat},L.Nodup→Y.length=L.length→∃ h:Nat→Nat,Y=L.map h
 | [],[],_,_=>⟨fun _=>0,rfl⟩
 | [],_::_,_,h=>by simp at h
 | _::_,[],_,h=>by simp at h
 | a::L,y::Y,x,w=>by obtain⟨j,l⟩:=List.nodup_cons.1 x;obtain⟨h,rfl⟩:=IP l (show Y.length=L.length by simpa using w);refine⟨fun d=>if d=a then y else h d,?_⟩;rw[aHR];refine List.cons_eq_cons.2 ⟨(if_pos rfl).symm,aIP fun d u=>?_⟩;have:¬ d=a:=fun e=>j (by rw[← e]; exact u);exact (if_neg this).symm
theorem A7 (F:Nat→List bK):∀ (n:Nat) (xs:List Nat),xs.length=((aGL n).flatMap F).length→∃ X:Nat→List Nat,xs=(aGL n).flatMap X∧∀ v,v<n→(X v).length=(F v).length
 | 0,xs,h=>⟨fun _=>[],by
   have:xs=[]:=by simpa using h
   rw[this]; rfl,fun v j=>by omega⟩
 | n+1,xs,h=>by
  rw[aJA,aKH,aGO] at h;have l:([n].flatMap F).length=(F n).length:=by simp
  rw[l] at h;obtain⟨X,u,w⟩:=A7 F n (xs.take ((aGL n).flatMap F).length) (by rw[aGY]; omega);refine⟨fun v=>if v=n then xs.drop ((aGL n).flatMap F).length else X v,?_,fun v j=>?_⟩
  ·rw[aJA,aKH];have e:(aGL n).flatMap (fun v=>if v=n then xs.drop ((aGL n).flatMap F).length else X v)=(aGL n).flatMap X:=by rw[List.flatMap_def,List.flatMap_def];congr 1;exact aIP fun v j=>by rw[if_neg (by have:=aHG.1 j; omega)]
   rw[e,← u];simp
  ·by_cases e:v=n
   ·subst e;simp only[if_true];rw[aIE]; omega
   ·simp only[if_neg e];exact w v Om
def qJ (f:aC) (s:Nat→Nat) (g h:Nat→Nat→Nat) (v:Nat):List Nat:=s v::((aGL (f.aEZ.length-1)).map (g v)++((aGL f.aEW.length).filter (okD f v)).map (h v))
def oS (f:aC) (s:Nat→Nat) (g h:Nat→Nat→Nat) (t:Nat→Nat):List Nat:=(aGL f.aEY.length).flatMap (qJ f s g h)++(aGL f.aEW.length).map t
theorem wA (f:aC) (s:Nat→Nat) (g h:Nat→Nat→Nat) (v:Nat):(fD f v).length=(qJ f s g h v).length:=by
 unfold fD qJ;simp
theorem ca (f:aC) (room:List Int) {xs:List Nat} (y:xs.length=(fQ f room).length):∃ s g h t,xs=oS f s g h t:=by
 unfold fQ at y;rw[aGO,aGK,aJO] at y;obtain⟨X,B,x⟩:=A7 (fD f) f.aEY.length (xs.take ((aGL f.aEY.length).flatMap (fD f)).length) (by rw[aGY]; omega);obtain⟨t,I⟩:=IP (L:=aGL f.aEW.length) (Y:=xs.drop ((aGL f.aEY.length).flatMap (fD f)).length) List.nodup_range (by rw[aIE,aJO]; omega);have each:∀ v,v<f.aEY.length→∃ s0 g0 w,X v=s0::((aGL (f.aEZ.length-1)).map g0++((aGL f.aEW.length).filter (okD f v)).map w):=by
  intro v u;have j:=x v u;unfold fD at j;rw[aIF,aGO,aGK,aGK,aJO] at j;cases A:X v with
  | nil=>rw[A] at j; simp at j
  | cons s0 Y =>rw[A,aIF] at j;obtain⟨g0,E⟩:=IP (L:=aGL (f.aEZ.length-1)) (Y:=Y.take (f.aEZ.length-1)) List.nodup_range (by rw[aGY,aJO]; omega);obtain⟨w,F⟩:=IP (L:=(aGL f.aEW.length).filter (okD f v)) (Y:=Y.drop (f.aEZ.length-1)) (List.nodup_range.filter _) (by rw[aIE]; omega);exact⟨s0,g0,w,by rw[← E,← F,aJH]⟩
 have l:∀ v,∃ q:Nat × (Nat→Nat) × (Nat→Nat),v<f.aEY.length→X v=q.1::((aGL (f.aEZ.length-1)).map q.2.1++((aGL f.aEW.length).filter (okD f v)).map q.2.2):=fun v=>by
  by_cases u:v<f.aEY.length
  ·obtain⟨a,b,c,e⟩:=each v u;exact⟨(a,b,c),fun _=>e⟩
  ·exact⟨(0,fun _=>0,fun _=>0),fun h=>absurd h u⟩
 refine⟨fun v=>(Classical.choose (l v)).1,fun v=>(Classical.choose (l v)).2.1,fun v=>(Classical.choose (l v)).2.2,t,?_⟩;unfold oS;rw[← I];have e:(aGL f.aEY.length).flatMap (qJ f (fun v=>(Classical.choose (l v)).1) (fun v=>(Classical.choose (l v)).2.1) (fun v=>(Classical.choose (l v)).2.2))=(aGL f.aEY.length).flatMap X:=by rw[List.flatMap_def,List.flatMap_def];congr 1;exact aIP fun v u=>(Classical.choose_spec (l v) (aHG.1 u)).symm
 rw[e,← B,aJH]
theorem pY {f:aC} {v i v' j:Nat} (F:v<f.aEY.length) (y:v'<f.aEY.length) (hi:i<f.aEZ.length) (x:j<f.aEZ.length) (e:cO f v i=cO f v' j):v=v'∧i=j:=by
 unfold cO at e;split at e<;>split at e
 ·omega
 ·omega
 ·omega
 ·rename_i B E;have l:0<f.aEZ.length-1:=Om;have w:v*(f.aEZ.length-1)+(i-1)=v'*(f.aEZ.length-1)+(j-1):=Om;have u:(v*(f.aEZ.length-1)+(i-1))/(f.aEZ.length-1)=v:=by rw[aHL,Nat.mul_add_div l,aJR Om,aIC]
  have A:(v'*(f.aEZ.length-1)+(j-1))/(f.aEZ.length-1)=v':=by rw[aHL,Nat.mul_add_div l,aJR Om,aIC]
  rw[w,A] at u;subst u;exact⟨rfl,by omega⟩
theorem SV (f:aC) (s:Nat→Nat) (g h:Nat→Nat→Nat) (v w:Nat):gE (fD f v) (qJ f s g h v) w=gS ⟨0,2+v,fW f v⟩ (s v) w+(eG (fun k=>gS (jY f v k) (g v k) w) (f.aEZ.length-1)+eG (fun d=>if okD f v d=true then gS (eO f v d) (h v d) w else 0) f.aEW.length):=by
 unfold fD qJ;rw[gE,yS _ _ _ (by simp),mb,mb,QO,iq]; rfl
theorem YU (f:aC) (room:List Int) (s:Nat→Nat) (g h:Nat→Nat→Nat) (t:Nat→Nat) (w:Nat):gE (fQ f room) (oS f s g h t) w=eG (fun v=>gE (fD f v) (qJ f s g h v) w) f.aEY.length+eG (fun d=>gS (nJ f room d) (t d) w) f.aEW.length:=by
 unfold fQ oS;rw[yS,Is _ _ _ _ fun v _=>wA f s g h v,mb,QO];rw[List.length_flatMap,List.length_flatMap];congr 1;exact aIP fun v _=>wA f s g h v
theorem Yo {f:aC} (hV:VF f) (room:List Int) (s:Nat→Nat) (g h:Nat→Nat→Nat) (t:Nat→Nat):gE (fQ f room) (oS f s g h t) 0=(cH s f.aEY.length:Nat):=by
 rw[YU,← BA];have l:eG (fun d=>gS (nJ f room d) (t d) 0) f.aEW.length=0:=by rw[eI (h:=fun _=>0) fun d j=>?_,mA];unfold gS nJ bH;simp only;rw[if_neg Om,if_neg Om]; rfl
 rw[l,Int.add_zero];refine eI fun v e=>?_;rw[SV];have u:eG (fun k=>gS (jY f v k) (g v k) 0) (f.aEZ.length-1)=0:=by rw[eI (h:=fun _=>0) fun k A=>?_,mA];have x:=(iH hV e (i:=gY f (k+1)) (by have:=(hV.dom (k+1) Om Om).2.1; omega)).1;have y:=(iH hV e (i:=k+1) Om).1;unfold gS jY;simp only;rw[if_neg Om,if_neg Om]; rfl
 have w:eG (fun d=>if okD f v d=true then gS (eO f v d) (h v d) 0 else 0) f.aEW.length=0:=by
  rw[eI (h:=fun _=>0) fun d j=>?_,mA];have x:=(iH hV e (i:=dL f d) (hV.drive d j).2.2.2.1).1;have z:gS (eO f v d) (h v d) 0=0:=by unfold gS eO bH;simp only;rw[if_neg Om,if_neg Om]; rfl
  rw[z];split<;>rfl
 rw[u,w];unfold gS;simp only;rw[if_pos trivial,if_neg Om];omega
theorem atE {f:aC} (hV:VF f) (room:List Int) (s:Nat→Nat) (g h:Nat→Nat→Nat) (t:Nat→Nat) {v i:Nat} (j:v<f.aEY.length) (hi:i<f.aEZ.length) :
  gE (fQ f room) (oS f s g h t) (cO f v i)=eG (fun k=>if gY f (k+1)=i then (g v k:Int) else 0) (f.aEZ.length-1)+eG (fun d=>if okD f v d=true∧dL f d=i then (h v d:Int) else 0) f.aEW.length-(if i=0 then (s v:Int) else (g v (i-1):Int)):=by
 obtain⟨S,B⟩:=iH hV j hi;rw[YU];have M:eG (fun d=>gS (nJ f room d) (t d) (cO f v i)) f.aEW.length=0:=by rw[eI (h:=fun _=>0) fun d u=>?_,mA];unfold gS nJ;unfold bH at B ⊢;simp only;rw[if_neg Om,if_neg Om]; rfl
 have N:eG (fun v'=>gE (fD f v') (qJ f s g h v') (cO f v i)) f.aEY.length=gE (fD f v) (qJ f s g h v) (cO f v i):=by
  have:=BB (fun v'=>gE (fD f v') (qJ f s g h v') (cO f v i)) v j;rw[← this];refine eI fun v' l=>?_;by_cases e:v'=v
  ·rw[if_pos e]
  rw[if_neg e,SV];have a1:gS ⟨0,2+v',fW f v'⟩ (s v') (cO f v i)=0:=by have O:cO f v' 0≠cO f v i:=fun h=>e (pY l j hV.root.1 hi h).1;have y:2+v'≠cO f v i:=O;unfold gS;simp only;rw[if_neg Om,if_neg y]; rfl
  have a2:eG (fun k=>gS (jY f v' k) (g v' k) (cO f v i)) (f.aEZ.length-1)=0:=by rw[eI (h:=fun _=>0) fun k A=>?_,mA];have R:=(hV.dom (k+1) Om Om).2.1;unfold gS jY;simp only;rw[if_neg fun h=>e (pY l j Om hi h).1,if_neg fun h=>e (pY l j Om hi h).1]; rfl
  have a3:eG (fun d=>if okD f v' d=true then gS (eO f v' d) (h v' d) (cO f v i) else 0) f.aEW.length=0:=by
   rw[eI (h:=fun _=>0) fun d u=>?_,mA];have z:gS (eO f v' d) (h v' d) (cO f v i)=0:=by unfold gS eO;simp only;rw[if_neg fun h=>e (pY l j (hV.drive d u).2.2.2.1 hi h).1,if_neg (show ¬ bH f d=cO f v i by unfold bH at B ⊢; omega)]; rfl
   rw[z];split<;>rfl
  rw[a1,a2,a3]; rfl
 rw[M,N,Int.add_zero,SV];have E:gS ⟨0,2+v,fW f v⟩ (s v) (cO f v i)=- if i=0 then (s v:Int) else 0:=by
  unfold gS;simp only;rw[if_neg Om];by_cases e:i=0
  ·subst e;rw[if_pos rfl,if_pos (show 2+v=cO f v 0 from rfl)];omega
  ·have:¬ 2+v=cO f v i:=fun h=>e ((pY j j hV.root.1 hi (show cO f v 0=cO f v i from h)).2).symm;rw[if_neg e,if_neg this]; rfl
 have F:eG (fun k=>gS (jY f v k) (g v k) (cO f v i)) (f.aEZ.length-1)=eG (fun k=>if gY f (k+1)=i then (g v k:Int) else 0) (f.aEZ.length-1)-(if i=0 then 0 else (g v (i-1):Int)):=by
  have w:eG (fun k=>if k+1=i then (g v k:Int) else 0) (f.aEZ.length-1)=if i=0 then 0 else (g v (i-1):Int):=by
   by_cases e:i=0
   ·subst e;rw[if_pos rfl,eI (h:=fun _=>0) fun k A=>by rw[if_neg Om],mA]
   ·rw[if_neg e,← BB (fun k=>(g v k:Int)) (i-1) (n:=f.aEZ.length-1) Om];refine eI fun k A=>?_;by_cases c:k+1=i
    ·rw[if_pos c,if_pos Om]
    ·rw[if_neg c,if_neg Om]
  have:eG (fun k=>gS (jY f v k) (g v k) (cO f v i)) (f.aEZ.length-1)=eG (fun k=>(if gY f (k+1)=i then (g v k:Int) else 0)+- (if k+1=i then (g v k:Int) else 0)) (f.aEZ.length-1):=by refine eI fun k A=>?_;have R:=(hV.dom (k+1) Om Om).2.1;unfold gS jY;simp only;have x:cO f v (gY f (k+1))=cO f v i↔gY f (k+1)=i:=⟨fun h=>(pY j j Om hi h).2,fun h=>by rw[h]⟩;have K:cO f v (k+1)=cO f v i↔k+1=i:=⟨fun h=>(pY j j Om hi h).2,fun h=>by rw[h]⟩;simp only[x,K];omega
  rw[this,Ko,ZU,w]; rfl
 have I:eG (fun d=>if okD f v d=true then gS (eO f v d) (h v d) (cO f v i) else 0) f.aEW.length=eG (fun d=>if okD f v d=true∧dL f d=i then (h v d:Int) else 0) f.aEW.length:=by refine eI fun d u=>?_;have x:cO f v (dL f d)=cO f v i↔dL f d=i:=⟨fun h=>(pY j j (hV.drive d u).2.2.2.1 hi h).2,fun h=>by rw[h]⟩;unfold gS eO;simp only[x];rw[if_neg (show ¬ bH f d=cO f v i by unfold bH at B ⊢; omega)];by_cases w:okD f v d=true<;>by_cases J:dL f d=i<;>simp[w,J]
 rw[E,F,I];split<;>omega
theorem atF {f:aC} (hV:VF f) (room:List Int) (s:Nat→Nat) (g h:Nat→Nat→Nat) (t:Nat→Nat) {d:Nat} (x:d<f.aEW.length) :
  gE (fQ f room) (oS f s g h t) (bH f d)=(t d:Int)-eG (fun v=>if okD f v d=true then (h v d:Int) else 0) f.aEY.length:=by
 rw[YU];have u:∀ v i,v<f.aEY.length→i<f.aEZ.length→cO f v i≠bH f d:=fun v i l hi e=>by have:=(iH hV l hi).2;unfold bH at this e;omega
 have y:eG (fun j=>gS (nJ f room j) (t j) (bH f d)) f.aEW.length=(t d:Int):=by
  rw[← BB (fun j=>(t j:Int)) d x];refine eI fun j _=>?_;unfold gS nJ bH;simp only;rw[if_neg (Om:¬ 1=2+f.aEY.length*f.aEZ.length+d)];by_cases e:j=d
  ·rw[if_pos e,if_pos Om]; omega
  ·rw[if_neg e,if_neg Om]; rfl
 have A:eG (fun v=>gE (fD f v) (qJ f s g h v) (bH f d)) f.aEY.length=eG (fun v=>- (if okD f v d=true then (h v d:Int) else 0)) f.aEY.length:=by
  refine eI fun v l=>?_;rw[SV];have a1:gS ⟨0,2+v,fW f v⟩ (s v) (bH f d)=0:=by have B:2+v≠bH f d:=u v 0 l hV.root.1;unfold gS;simp only;rw[if_neg (by unfold bH; omega),if_neg B]; rfl
  have a2:eG (fun k=>gS (jY f v k) (g v k) (bH f d)) (f.aEZ.length-1)=0:=by rw[eI (h:=fun _=>0) fun k E=>?_,mA];have F:=(hV.dom (k+1) Om Om).2.1;unfold gS jY;simp only;rw[if_neg (u v _ l Om),if_neg (u v _ l Om)]; rfl
  have a3:eG (fun j=>if okD f v j=true then gS (eO f v j) (h v j) (bH f d) else 0) f.aEW.length=- (if okD f v d=true then (h v d:Int) else 0):=by
   have:=BB (fun j=>- (if okD f v j=true then (h v j:Int) else 0)) d x;rw[← this];refine eI fun j w=>?_;unfold gS eO;simp only;rw[if_neg (u v _ l (hV.drive j w).2.2.2.1)];by_cases e:j=d
   ·subst e;rw[if_pos rfl,if_pos rfl];split<;>omega
   ·rw[if_neg (show ¬ bH f j=bH f d by unfold bH; omega),if_neg e];split<;>rfl
  rw[a1,a2,a3]; omega
 rw[y,A,ZU]; omega
theorem We {f:aC} (h:VF f) {d:Nat} (e:d<f.aEW.length):iU f d 4=dL f d:=by
 unfold iU;rfl
theorem amW {f:aC} (h:VF f) {d i:Nat} (l:d<f.aEW.length) (hi:i<f.aEZ.length):one (inD f i d)=cH (fun k=>one (decide (gY f (k+1)=i)&&inD f (k+1) d)) (f.aEZ.length-1)+one (decide (dL f d=i)):=by
 have N:=h.qB hi;have I:=h.drive d l;by_cases c:lvl f i=4
 ·have j:cH (fun k=>one (decide (gY f (k+1)=i)&&inD f (k+1) d)) (f.aEZ.length-1)=0:=by
   rw[eJ (h:=fun _=>0) fun k A=>?_,oO];obtain⟨g1,g2,g3,g4,F⟩:=h.dom (k+1) Om Om;have:¬ gY f (k+1)=i:=fun e=>by rw[e] at g3; omega
   rw[decide_eq_false this,aHA]; rfl
  rw[j,aHE];unfold inD;rw[c,We h l]
 ·have j:¬ dL f d=i:=fun e=>c (by rw[← e]; exact I.2.2.2.2);obtain⟨a1,a2⟩:=bd h l (lev:=lvl f i+1) Om Om;have M:0<iU f d (lvl f i+1):=by
   rcases aIS (iU f d (lvl f i+1)) with e | e
   ·rw[e,h.root.2.1] at a2; omega
   ·exact e
  have J:gY f (iU f d (lvl f i+1))=iU f d (lvl f i):=by unfold iU;rw[show 4-(lvl f i).toNat=(4-(lvl f i+1).toNat)+1 by omega,upN]
  rw[decide_eq_false j,show one false=0 from rfl,aIC];have B:∀ k,k<f.aEZ.length-1→one (decide (gY f (k+1)=i)&&inD f (k+1) d)=if k=iU f d (lvl f i+1)-1 then one (inD f i d) else 0:=by
   intro k A;obtain⟨g1,g2,g3,g4,F⟩:=h.dom (k+1) Om Om;by_cases e:k=iU f d (lvl f i+1)-1
   ·rw[if_pos e];have y:k+1=iU f d (lvl f i+1):=Om;have t:inD f (k+1) d=true:=by unfold inD;rw[y,a2,decide_eq_true_eq]
    rw[t,aIY,y,J]; rfl
   ·rw[if_neg e];by_cases w:gY f (k+1)=i
    ·have:inD f (k+1) d=false:=by unfold inD;rw[decide_eq_false_iff_not];intro E;rw[w] at g3;rw[show lvl f (k+1)=lvl f i+1 by omega] at E;omega
     rw[this,aID]; rfl
    ·rw[decide_eq_false w,aHA]; rfl
  rw[eJ B];have u:∀ (n a x:Nat),a<n→cH (fun k=>if k=a then x else 0) n=x:=by
   intro n
   induction n with
   | zero=>intro a x h; omega
   | succ n K =>
    intro a x h;rw[cH];by_cases e:n=a
    ·subst e;rw[eJ (h:=fun _=>0) fun k A=>by rw[if_neg Om],oO,if_pos rfl]; omega
    ·rw[K a x Om,if_neg e]; rfl
  rw[u _ _ _ Om]
structure apB (f:aC) (room:List Int) (s:Nat→Nat) (g h:Nat→Nat→Nat) (t:Nat→Nat):Prop where
 s:∀ v,v<f.aEY.length→s v≤fW f v
 g:∀ v k,v<f.aEY.length→k<f.aEZ.length-1→g v k≤wL f v (k+1)
 h:∀ v d,v<f.aEY.length→d<f.aEW.length→okD f v d=true→h v d≤1
 t:∀ d,d<f.aEW.length→t d≤KJ f room d
theorem OI {l m:List bK} {xs u:List Nat} (w:l.length=xs.length) (h:∀ (i:Nat) a x,(l++m)[i]?=some a→(xs++u)[i]?=some x→x≤a.cap) :
  (∀ (i:Nat) a x,l[i]?=some a→xs[i]?=some x→x≤a.cap)∧∀ (i:Nat) a x,m[i]?=some a→u[i]?=some x→x≤a.cap:=by
 constructor
 ·intro i a x e j;have y:=(aHP.1 e).1;exact h i a x (by rw[aIK y]; exact e) (by rw[aIK Om]; exact j)
 ·intro i a x e j;exact h (l.length+i) a x (by rw[aIJ Om,Nat.add_sub_cancel_left]; exact e) (by rw[aIJ Om,w,Nat.add_sub_cancel_left]; exact j)
theorem Fd {L:List Nat} {F:Nat→bK} {y:Nat→Nat} (h:∀ (i:Nat) a x,(L.map F)[i]?=some a→(L.map y)[i]?=some x→x≤a.cap):∀ k∈L,y k≤(F k).cap:=by
 intro k e;obtain⟨i,hi,rfl⟩:=aIH e;exact h i _ _ (by rw[aHF,aGS hi]; rfl) (by rw[aHF,aGS hi]; rfl)
theorem R6 {F:Nat→List bK} {X:Nat→List Nat}:∀ {n:Nat},(∀ v,v<n→(F v).length=(X v).length)→(∀ (i:Nat) a x,((aGL n).flatMap F)[i]?=some a→((aGL n).flatMap X)[i]?=some x→x≤a.cap)→∀ v,v<n→∀ (i:Nat) a x,(F v)[i]?=some a→(X v)[i]?=some x→x≤a.cap
 | 0,_,_,v,l=>by omega
 | n+1,u,h,v,l=>by
  rw[aJA,aKH,aKH] at h;have j:((aGL n).flatMap F).length=((aGL n).flatMap X).length:=by rw[List.length_flatMap,List.length_flatMap];congr 1;exact aIP fun v l=>u v (by have:=aHG.1 l; omega)
  obtain⟨w,y⟩:=OI j h;by_cases e:v=n
  ·subst e;simpa using y
  ·exact R6 (fun v l=>u v Om) w v Om
theorem alW {f:aC} {room:List Int} {s:Nat→Nat} {g h:Nat→Nat→Nat} {t:Nat→Nat} (l:∀ (i:Nat) a x,(fQ f room)[i]?=some a→(oS f s g h t)[i]?=some x→x≤a.cap):apB f room s g h t:=by
 unfold fQ oS at l;have u:((aGL f.aEY.length).flatMap (fD f)).length=((aGL f.aEY.length).flatMap (qJ f s g h)).length:=by rw[List.length_flatMap,List.length_flatMap];congr 1;exact aIP fun v _=>wA f s g h v
 obtain⟨A,B⟩:=OI u l;have E:=R6 (fun v _=>wA f s g h v) A;have F:=Fd B;have each:∀ v,v<f.aEY.length→s v≤fW f v∧(∀ k,k<f.aEZ.length-1→g v k≤wL f v (k+1))∧∀ d,d<f.aEW.length→okD f v d=true→h v d≤1:=by intro v e;have h5:=E v e;unfold fD qJ at h5;refine⟨h5 0 _ _ rfl rfl,?_⟩;have I:∀ (i:Nat) a x,((aGL (f.aEZ.length-1)).map (jY f v)++((aGL f.aEW.length).filter (okD f v)).map (eO f v))[i]?=some a→((aGL (f.aEZ.length-1)).map (g v)++((aGL f.aEW.length).filter (okD f v)).map (h v))[i]?=some x→x≤a.cap:=fun i a x J M=>h5 (i+1) a x (by simpa using J) (by simpa using M);obtain⟨h7,h8⟩:=OI (by simp) I;exact⟨fun k w=>Fd h7 k (aHG.2 w),fun d j y=>Fd h8 d (aJY.2 ⟨aHG.2 j,y⟩)⟩
 exact⟨fun v e=>(each v e).1,fun v k e w=>(each v e).2.1 k w,fun v d e j K=>(each v e).2.2 d j K,fun d j=>F d (aHG.2 j)⟩
def kT (f:aC) (h:Nat→Nat→Nat) (v d:Nat):Bool:=okD f v d&&decide (h v d≠0)
theorem A8 {f:aC} (hV:VF f) {room:List Int} {s:Nat→Nat} {g h:Nat→Nat→Nat} {t:Nat→Nat} (M:gG (eD f room) (oS f s g h t)) (y:(pK f:Int)≤jB (eD f room) (oS f s g h t)):tJ f room (kT f h):=by
 have P:=alW M.le;have I:∀ v,v<f.aEY.length→s v=fW f v:=by
  have u:jB (eD f room) (oS f s g h t)=(cH s f.aEY.length:Nat):=Yo hV room s g h t;rw[u] at y;have B:pK f≤cH s f.aEY.length:=Om;clear y u;unfold pK at B;have F:=P.s;generalize f.aEY.length=n at *
  induction n with
  | zero=>intro v j; omega
  | succ n K =>
   rw[cH,cH] at B;have Y:=F n Om;have Z:cH s n≤cH (fW f) n:=vY fun v j=>F v Om;intro v j;by_cases e:v=n
   ·subst e; omega
   ·exact K Om (fun v j=>F v Om) v Om
 have nodes:∀ w,2≤w→w<bH f f.aEW.length→gE (fQ f room) (oS f s g h t) w=0:=fun w u B=>M.node w B (by show w≠0; omega) (by show w≠1; omega);have x:∀ v d,v<f.aEY.length→d<f.aEW.length→one (kT f h v d)=if okD f v d=true then h v d else 0:=by
  intro v d j l;unfold kT;cases W:okD f v d with
  | false=>rfl
  | true =>
   have:=P.h v d j l W;simp only[aHK,if_true];by_cases e:h v d=0
   ·rw[e]; rfl
   ·rw[decide_eq_true e];have:h v d=1:=Om;rw[this]; rfl
 have below:∀ v,v<f.aEY.length→∀ (m i:Nat),f.aEZ.length-i=m→i<f.aEZ.length→(if i=0 then s v else g v (i-1))=fB (fun d=>kT f h v d&&inD f i d) f.aEW.length:=by
  intro v j m
  induction m using Nat.strongRecOn with
  | ind m K =>
   intro i N hi;have A:=nodes (cO f v i) (iH hV j hi).1 (by have:=(iH hV j hi).2; unfold bH at this ⊢; omega);rw[atE hV room s g h t j hi] at A;have E:eG (fun k=>if gY f (k+1)=i then (g v k:Int) else 0) (f.aEZ.length-1)=(cH (fun k=>if gY f (k+1)=i then fB (fun d=>kT f h v d&&inD f (k+1) d) f.aEW.length else 0) (f.aEZ.length-1):Nat):=by
    rw[← BA];refine eI fun k V=>?_;by_cases c:gY f (k+1)=i
    ·have hp:=(hV.dom (k+1) Om Om).2.1;have:=K (f.aEZ.length-(k+1)) Om (k+1) rfl Om;rw[if_neg Om,Nat.add_sub_cancel] at this;rw[if_pos c,if_pos c,this]
    ·rw[if_neg c,if_neg c]; rfl
   have S:eG (fun d=>if okD f v d=true∧dL f d=i then (h v d:Int) else 0) f.aEW.length=(cH (fun d=>one (kT f h v d)*one (decide (dL f d=i))) f.aEW.length:Nat):=by rw[← BA];refine eI fun d l=>?_;rw[x v d j l];by_cases O:okD f v d=true<;>by_cases R:dL f d=i<;>simp[O,R,wQ,wP]
   have U:fB (fun d=>kT f h v d&&inD f i d) f.aEW.length=cH (fun k=>if gY f (k+1)=i then fB (fun d=>kT f h v d&&inD f (k+1) d) f.aEW.length else 0) (f.aEZ.length-1)+cH (fun d=>one (kT f h v d)*one (decide (dL f d=i))) f.aEW.length:=by
    have a1:fB (fun d=>kT f h v d&&inD f i d) f.aEW.length=cH (fun d=>cH (fun k=>one (kT f h v d)*one (decide (gY f (k+1)=i)&&inD f (k+1) d)) (f.aEZ.length-1)+one (kT f h v d)*one (decide (dL f d=i))) f.aEW.length:=by unfold fB;refine eJ fun d l=>?_;rw[Uz,amW hV l hi,aGX,KT]
    rw[a1,vX,CF];congr 1;refine eJ fun k V=>?_;by_cases c:gY f (k+1)=i
    ·rw[if_pos c,decide_eq_true c];unfold fB;exact eJ fun d _=>by rw[aHK]; exact (Uz _ _).symm
    ·rw[if_neg c,decide_eq_false c,eJ (h:=fun _=>0) fun d _=>by rw[aHA]; rfl,oO]
   rw[E,S] at A;rw[U];split<;>rename_i c
   ·rw[if_pos c] at A; omega
   ·rw[if_neg c] at A; omega
 have root:∀ d,d<f.aEW.length→inD f 0 d=true:=fun d l=>by
  unfold inD;rw[hV.root.2.1,decide_eq_true_eq];obtain⟨a,b⟩:=bd hV l (lev:=0) Om Om;rcases aIS (iU f d 0) with e | e
  ·exact e
  ·have:=(hV.dom _ e a).2.2.2.1;omega
 refine⟨fun v j=>?_,fun v d j l J=>?_,fun v i j X hi N=>?_,fun d l=>?_⟩
 ·have:=below v j _ 0 rfl hV.root.1;rw[if_pos rfl,I v j] at this;rw[this];unfold fB;exact eJ fun d l=>by show one _=one (kT f h v d&&inD f 0 d); rw[root d l,aIY]
 ·unfold kT at J;rw[aHC] at J;exact J.1
 ·have:=below v j _ i rfl hi;rw[if_neg Om] at this;rw[← this];have u:=P.g v (i-1) j Om;rw[show i-1+1=i by omega] at u;unfold wL at u;rw[if_neg N] at u;exact u
 ·have A:=nodes (bH f d) (by unfold bH; omega) (by unfold bH; omega);rw[atF hV room s g h t l] at A;have E:eG (fun v=>if okD f v d=true then (h v d:Int) else 0) f.aEY.length=(fB (fun v=>kT f h v d) f.aEY.length:Nat):=by unfold fB;rw[← BA];refine eI fun v j=>?_;rw[x v d j l];split<;>rfl
  rw[E] at A;have:=P.t d l;omega
theorem TF {f:aC} {p:cW} {v:Nat} {row:List Int}:oZ f p v row=[]↔(∀ i,i<row.length→0≤row.getD i 0)∧(∀ d,d<f.aEW.length→row.count (d:Int)≤1)∧(∀ i,i<row.length→0≤row.getD i 0→p.aEX.contains ((mdl f (row.getD i 0).toNat:Nat):Int)=true)∧∀ i,i<f.aEZ.length→eN f p i>0→mW f row i≤eN f p i:=by
 have e:∀ d,d<f.aEW.length→(eZ f.aEW.length row).getD d 0=(row.count (d:Int):Nat):=fun d h=>by simp[eZ,aGU,h]
 have j:∀ i,i<f.aEZ.length→(eX f row).getD i 0=mW f row i:=fun i h=>by simp[eX,aGU,h]
 unfold oZ;rw[List.append_eq_nil_iff,List.append_eq_nil_iff,List.append_eq_nil_iff,rO,rO,rO,rO,and_assoc,and_assoc];refine and_congr ?_ (and_congr ?_ (and_congr ?_ ?_))
 ·refine forall_congr' fun i=>forall_congr' fun hi=>?_;unfold home;rw[decide_eq_false_iff_not]; omega
 ·refine forall_congr' fun d=>forall_congr' fun l=>?_;unfold qZ;rw[e d l,decide_eq_false_iff_not]; omega
 ·refine forall_congr' fun i=>forall_congr' fun hi=>?_;unfold fI;by_cases c:0≤row.getD i 0<;>simp[c]
 ·refine forall_congr' fun i=>forall_congr' fun hi=>?_;unfold wD;rw[j i hi,Bool.and_eq_false_iff,decide_eq_false_iff_not,decide_eq_false_iff_not];omega
theorem Nc {f:aC} (j:dE f=true) {l:List (List Int)} (u:rD f l) (room:List Int):oX f l room=true↔(∀ v (h:v<l.length),oZ f (cL f v) v l[v]=[])∧∀ d,d<f.aEW.length→((l.flatten.count (d:Int):Nat):Int)≤qF f room d:=by
 rw[acF j u.len];refine and_congr ?_ ?_
 ·unfold rU;rw[List.flatMap_eq_nil_iff];constructor
  ·intro h v j;have:=h v (aHG.2 j);unfold EN at this;rw[u.shape j] at this;have e:l.getD v []=l[v]:=by simp[aGU,j]
   rw[e] at this;exact this
  ·intro h v A;have j:=aHG.1 A;unfold EN;rw[u.shape j];have e:l.getD v []=l[v]:=by simp[aGU,j]
   simp only;rw[e];exact h v j
 ·refine forall_congr' fun d=>forall_congr' fun w=>?_;have x:(lG f l).getD d 0=(l.flatten.count (d:Int):Nat):=by simp[lG,eZ,aGU,w]
  have y:(lO f room).getD d 0=qF f room d:=by simp[lO,aGU,w]
  unfold over;rw[x,y,decide_eq_false_iff_not];omega
theorem count_flatten (d:Int):∀ l:List (List Int),l.flatten.count d=cH (fun v=>(l.getD v []).count d) l.length:=by
 intro l;obtain⟨r,rfl⟩:∃ r,l=List.reverse r:=⟨l.reverse,by simp⟩
 induction r with
 | nil=>rfl
 | cons x r j =>
  rw[List.reverse_cons,List.flatten_append,List.count_append,j,aGO,aGR,cH];congr 1
  ·refine eJ fun v e=>?_;rw[aGU,aGU,aIK e]
  ·rw[aGU,aIJ (aGQ _)];simp
theorem QH {n:Nat} {row:List Int} (u:∀ x∈row,0≤x∧x<n) (J:∀ d:Nat,d<n→row.count (d:Int)≤1) (p:Int→Bool):row.countP p=fB (fun d=>row.contains (d:Int)&&p d) n:=by
 have E:∀ m:Nat,row.countP (fun x=>decide (x<(m:Int))&&p x)=fB (fun d=>row.contains (d:Int)&&p d) (min m n):=by
  intro m
  induction m with
  | zero =>rw[Nat.zero_min];show _=0;rw[List.countP_eq_zero];intro x l;have:=(u x l).1;simp only[aHC,decide_eq_true_eq];omega
  | succ m A =>
   by_cases c:m<n
   ·rw[aIT Om] at A ⊢;have e:row.countP (fun x=>decide (x<((m+1:Nat):Int))&&p x)=row.countP (fun x=>decide (x<(m:Int))&&p x)+row.countP (fun x=>decide (x=(m:Int))&&p x):=by
     clear A J u
     induction row with
     | nil=>rfl
     | cons y t B =>
      rw[List.countP_cons,List.countP_cons,List.countP_cons,B];have:((if (decide (y<((m+1:Nat):Int))&&p y)=true then 1 else 0):Nat)=(if (decide (y<(m:Int))&&p y)=true then 1 else 0)+(if (decide (y=(m:Int))&&p y)=true then 1 else 0):=by
       cases p y with
       | false=>simp
       | true =>
        simp only[aIY,decide_eq_true_eq];by_cases F:y<(m:Int)
        ·rw[if_pos F,if_pos Om,if_neg Om]
        ·rw[if_neg F];by_cases I:y=(m:Int)
         ·rw[if_pos I,if_pos Om]
         ·rw[if_neg I,if_neg Om]
      omega
    rw[e,A,fB,fB,cH];congr 1;have K:=J m c;by_cases j:p m=true
    ·have:row.countP (fun x=>decide (x=(m:Int))&&p x)=row.count (m:Int):=by unfold List.count;refine List.countP_congr fun x _=>?_;simp only[aHC,decide_eq_true_eq,beq_iff_eq];exact⟨fun h=>h.1,fun h=>⟨h,by rw[h]; exact j⟩⟩
     rw[this,j,aIY];by_cases w:(m:Int)∈row
     ·have M:=List.count_pos_iff.2 w;have h5:row.contains (m:Int)=true:=by simpa using w
      rw[h5,wQ]; omega
     ·have h5:row.contains (m:Int)=false:=by simpa using w
      rw[h5,wP,List.count_eq_zero_of_not_mem w]
    ·have j:p m=false:=by simpa using j
     rw[j,aID,wP,List.countP_eq_zero];intro x l;simp only[aHC,decide_eq_true_eq];rintro⟨rfl,h⟩;rw[j] at h; cases h
   ·have e:row.countP (fun x=>decide (x<((m+1:Nat):Int))&&p x)=row.countP (fun x=>decide (x<(m:Int))&&p x):=by refine List.countP_congr fun x l=>?_;have:=u x l;simp only[aHC,decide_eq_true_eq];exact⟨fun h=>⟨by omega,h.2⟩,fun h=>⟨by omega,h.2⟩⟩
    rw[e,A,Nat.min_eq_right Om,Nat.min_eq_right Om]
 have:=E n;rw[Nat.min_self] at this;rw[← this];refine List.countP_congr fun x l=>?_;have:=u x l;simp only[aHC,decide_eq_true_eq];exact⟨fun h=>⟨by omega,h⟩,fun h=>h.2⟩
theorem qa (f:aC) (i d:Nat):rV f i (d:Int)=inD f i d:=by
 unfold rV inD;rw[decide_eq_true (Om:(0:Int)≤(d:Int)),aHK,aJN]
def VR (l:List (List Int)) (v d:Nat):Bool:=(l.getD v []).contains (d:Int)
theorem arX {f:aC} (V:dE f=true) {l:List (List Int)} (I:rD f l) {room:List Int} (h:oX f l room=true):tJ f room (VR l):=by
 have hV:=VF.of V;obtain⟨y,A⟩:=(Nc V I room).1 h;have O:∀ v,v<f.aEY.length→∃ row,l.getD v []=row∧(∀ x∈row,0≤x∧x<(f.aEW.length:Nat))∧(∀ d:Nat,d<f.aEW.length→row.count (d:Int)≤1)∧oZ f (cL f v) v row=[]∧(row.length:Int)=fR f v:=by
  intro v j;have u:v<l.length:=by rw[I.len]; exact j
  have e:l.getD v []=l[v]:=by simp[aGU,u]
  obtain⟨a1,a2,-,-⟩:=TF.1 (y v u);refine⟨l[v],e,fun x W=>?_,a2,y v u,I.row v u⟩;obtain⟨i,hi,rfl⟩:=aIH W;have:=a1 i hi;have g:l[v].getD i 0=l[v][i]:=by simp[aGU,hi]
  rw[g] at this;exact⟨this,(I.home _ (aGP u) _ W).2⟩
 refine⟨fun v j=>?_,fun v d j N R=>?_,fun v i j h0 hi U=>?_,fun d N=>?_⟩
 ·obtain⟨row,e,E,B,F,J⟩:=O v j;have:=QH E B fun _=>true;rw[List.countP_true] at this;unfold VR fW;rw[← J,aJN,this,e];unfold fB;exact eJ fun d _=>by dsimp only; rw[aIY]
 ·obtain⟨row,e,E,B,F,J⟩:=O v j;obtain⟨-,-,a3,-⟩:=TF.1 F;unfold VR at R;rw[e] at R;have U:(d:Int)∈row:=by simpa using R
  obtain⟨i,hi,he⟩:=aIH U;have g:row.getD i 0=(d:Int):=by simp[aGU,hi,he]
  have:=a3 i hi (by rw[g]; omega);rw[g] at this;exact this
 ·obtain⟨row,e,E,B,F,J⟩:=O v j;obtain⟨-,-,-,a4⟩:=TF.1 F;obtain⟨hp,he⟩:=mP hV j;have w:=hV.aFJ _ (aGP hp);rw[he] at w;have Z:0≤eN f (cL f v) i:=(w.2.2.2.2.2.2.1 _).1;have K:=a4 i hi Om;have h5:=QH E B (rV f i);unfold mW at K;rw[if_neg Om,h5] at K;have Y:fB (fun d=>row.contains (d:Int)&&rV f i d) f.aEW.length=fB (fun d=>VR l v d&&inD f i d) f.aEW.length:=by unfold fB VR;rw[e];exact eJ fun d _=>by dsimp only; rw[qa]
  rw[Y] at K;omega
 ·have S:=A d N;rw[count_flatten,I.len] at S;have X:cH (fun v=>(l.getD v []).count (d:Int)) f.aEY.length=fB (fun v=>VR l v d) f.aEY.length:=by
   unfold fB VR;refine eJ fun v j=>?_;obtain⟨row,e,E,B,F,J⟩:=O v j;dsimp only;rw[e];by_cases M:(d:Int)∈row
   ·have K:=List.count_pos_iff.2 M;have h5:row.contains (d:Int)=true:=by simpa using M
    have:=B d N;rw[h5,wQ]; omega
   ·have h5:row.contains (d:Int)=false:=by simpa using M
    rw[h5,wP,List.count_eq_zero_of_not_mem M]
  rw[X] at S;have:=yV hV room N;omega
def oK (f:aC) (u:Nat→Nat→Bool) (v:Nat):List Int:=Hy ((aGL f.aEW.length).filter (u v))
def sK (f:aC) (u:Nat→Nat→Bool):List (List Int):=(aGL f.aEY.length).map (oK f u)
theorem J7 (f:aC) (u:Nat→Nat→Bool) (v:Nat) {d:Nat} (j:d<f.aEW.length):(oK f u v).contains (d:Int)=u v d:=by
 refine Bool.eq_iff_iff.2 ?_;simp only[List.contains_iff_mem];unfold oK Hy;rw[aHJ];constructor
 ·rintro⟨e,he,h⟩;have:e=d:=Om;subst this;exact (aJY.1 he).2
 ·intro h;exact⟨d,aJY.2 ⟨aHG.2 j,h⟩,rfl⟩
theorem TB (f:aC) (u:Nat→Nat→Bool) (v:Nat):(∀ x∈oK f u v,0≤x∧x<(f.aEW.length:Nat))∧(oK f u v).Nodup∧(oK f u v).length=fB (u v) f.aEW.length:=by
 refine⟨fun x l=>?_,?_,?_⟩
 ·obtain⟨d,j,rfl⟩:=aHJ.1 l;have:=aHG.1 (aJY.1 j).1;omega
 ·exact List.Pairwise.map _ (fun a b h e=>h Om) (List.nodup_range.filter (u v))
 ·unfold oK Hy;rw[aGK,bs,List.countP_eq_length_filter]
theorem apK {f:aC} (O:dE f=true) {room:List Int} {u:Nat→Nat→Bool} (A:tJ f room u):rD f (sK f u)∧oX f (sK f u) room=true:=by
 have hV:=VF.of O;have y:(sK f u).length=f.aEY.length:=by unfold sK; rw[aGK,aJO]
 have J:∀ v (h:v<(sK f u).length),(sK f u)[v]=oK f u v:=fun v h=>(aIN _).trans (by rw[List.getElem_range]);have N:rD f (sK f u):=by
  refine⟨y,fun v h=>?_,fun r W x I=>?_⟩
  ·have j:v<f.aEY.length:=by rw[← y]; exact h
   rw[J v h,(TB f u v).2.2,A.num v j,(nL hV j).2.2.1]
  ·obtain⟨v,-,rfl⟩:=aHJ.1 W;have:=(TB f u v).1 x I;omega
 refine⟨N,(Nc O N room).2 ⟨fun v h=>?_,fun d l=>?_⟩⟩
 ·have j:v<f.aEY.length:=by rw[← y]; exact h
  rw[J v h];obtain⟨B,E,S⟩:=TB f u v;have K:∀ i (h:i<(oK f u v).length),(oK f u v).getD i 0=(oK f u v)[i]:=fun i h=>by simp[aGU,h]
  refine TF.2 ⟨fun i hi=>?_,fun d l=>List.nodup_iff_count.1 E _,fun i hi X=>?_,fun i hi Z=>?_⟩
  ·rw[K i hi];exact (B _ (aGP hi)).1
  ·rw[K i hi];have I:=aGP hi;have hb:=B _ I;obtain⟨d,l,he⟩:=aHJ.1 I;have w:=aJY.1 l;have:=A.ok v d j (aHG.1 w.1) w.2;rw[← he];exact this
  ·by_cases R:i=0
   ·unfold mW;rw[if_pos R]; omega
   ·unfold mW;rw[if_neg R,QH B (fun d _=>List.nodup_iff_count.1 E _) (rV f i)];have h5:=A.bound v i j Om hi Om;have V:fB (fun d=>(oK f u v).contains (d:Int)&&rV f i d) f.aEW.length=fB (fun d=>u v d&&inD f i d) f.aEW.length:=by unfold fB;exact eJ fun d l=>by dsimp only; rw[J7 f u v l,qa]
    rw[V];omega
 ·rw[count_flatten,y];have U:cH (fun v=>((sK f u).getD v []).count (d:Int)) f.aEY.length=fB (fun v=>u v d) f.aEY.length:=by
   unfold fB;refine eJ fun v j=>?_;have e:(sK f u).getD v []=oK f u v:=by rw[aGU,aGS (by rw[y]; exact j),aJF,J]
   dsimp only;rw[e];obtain⟨B,E,S⟩:=TB f u v;have M:=J7 f u v l;by_cases F:(d:Int)∈oK f u v
   ·have Y:=List.count_pos_iff.2 F;have h5:(oK f u v).contains (d:Int)=true:=by simpa using F
    have:=List.nodup_iff_count.1 E (d:Int);rw[← M,h5,wQ]; omega
   ·have h5:(oK f u v).contains (d:Int)=false:=by simpa using F
    rw[← M,h5,wP,List.count_eq_zero_of_not_mem F]
  rw[U];have h7:=A.room d l;have:=yV hV room l;omega
def tK (f:aC) (room:List Int):Prop:=∃ u,tJ f room u
theorem A1 {f:aC} (e:dE f=true) {room:List Int}:tK f room↔∃ l,rD f l∧oX f l room=true :=
 ⟨fun ⟨_,A⟩=>⟨_,apK e A⟩,fun ⟨_,j,h⟩=>⟨_,arX e j h⟩⟩
theorem n8 {f:aC} (hV:VF f) {room:List Int} {xs:List Nat} (e:gG (eD f room) xs) {S:Nat→Bool} (j:S 0=true) (l:S 1=false) (x:jB (eD f room) xs=dB S (fQ f room)):(pK f:Int)≤jB (eD f room) xs↔tK f room:=by
 constructor
 ·intro h;obtain⟨s,g,w,t,rfl⟩:=ca f room e.len;exact⟨_,A8 hV e h⟩
 ·rintro⟨u,A⟩;have:=A.cut hV S j l;omega
theorem Zj {f:aC} (hV:VF f) (room:List Int):dB (fun w=>decide (w=0)) (fQ f room)=pK f:=by
 unfold fQ;rw[lW,NC,AE];have l:cH (fun k=>iV (fun w=>decide (w=0)) (nJ f room k)) f.aEW.length=0:=by rw[eJ (h:=fun _=>0) fun d e=>?_,oO];unfold iV nJ bH;simp
 rw[l,aIC];refine eJ fun v j=>?_;unfold fD;rw[dB,lW,AE,DA];have u:cH (fun k=>iV (fun w=>decide (w=0)) (jY f v k)) (f.aEZ.length-1)=0:=by rw[eJ (h:=fun _=>0) fun k A=>?_,oO];have y:=(iH hV j (i:=gY f (k+1)) (by have:=(hV.dom (k+1) Om Om).2.1; omega)).1;unfold iV jY;simp only;rw[if_neg fun h=>by have:=of_decide_eq_true h.1; omega]
 have x:cH (fun d=>if okD f v d=true then iV (fun w=>decide (w=0)) (eO f v d) else 0) f.aEW.length=0:=by
  rw[eJ (h:=fun _=>0) fun d e=>?_,oO];have y:=(iH hV j (i:=dL f d) (hV.drive d e).2.2.2.1).1;have z:iV (fun w=>decide (w=0)) (eO f v d)=0:=by unfold iV eO;simp only;rw[if_neg fun h=>by have:=of_decide_eq_true h.1; omega]
  rw[z];split<;>rfl
 rw[u,x];simp
theorem awW {f:aC} (hV:VF f) {room:List Int} {xs:List Nat} (e:gG (eD f room) xs):jB (eD f room) xs≤pK f:=by
 have:=e.acM (OZ hV room) (S:=fun w=>decide (w=0)) rfl rfl;rw[show dB (fun w=>decide (w=0)) (eD f room).arcs=pK f from Zj hV room] at this;exact this

def zG (f:aC) (a:bK):Nat:=(a.src-2-f.aEY.length)/(f.aEZ.length-1)
def QC (f:aC) (v:Nat) (a:bK) (x:Nat):Bool:=decide (bH f 0≤a.dst)&&(decide (x≠0)&&decide (zG f a=v))
def uN (f:aC) (v:Nat) (a:bK) (x:Nat):List Int:=if QC f v a x=true then [((a.dst-bH f 0:Nat):Int)] else []
def kA (f:aC) (v:Nat):List bK→List Nat→List Int
 | a::l,x::xs=>uN f v a x++kA f v l xs
 | _,_=>[]
def ky (f:aC) (l:List bK) (xs:List Nat):List (List Int):=(aGL f.aEY.length).map fun v=>kA f v l xs
theorem qG (f:aC) (v:Nat):∀ {u:List bK} {w:List Nat} (e:List bK) (j:List Nat),u.length=w.length→kA f v (u++e) (w++j)=kA f v u w++kA f v e j
 | [],[],e,j,_=>rfl
 | a::l,x::xs,e,j,h=>by rw[List.cons_append,List.cons_append,kA,kA,qG f v e j (by simpa using h),aHN]
theorem CB {α:Type} (f:aC) (v:Nat) (a:α→bK) (x:α→Nat):∀ (L:List α),kA f v (L.map a) (L.map x)=L.flatMap fun k=>uN f v (a k) (x k)
 | []=>rfl
 | k::L=>by rw[aHR,aHR,kA,CB f v a x L,List.flatMap_cons]
theorem flatMap_nil {α β:Type} {g:α→List β}:∀ {L:List α},(∀ k∈L,g k=[])→L.flatMap g=[]
 | [],_=>rfl
 | k::L,h=>by rw[List.flatMap_cons,h k (by simp),flatMap_nil fun j e=>h j (by simp[e])]; rfl
theorem TO {β:Type} {R:List β} {v:Nat}:∀ {n:Nat},v<n→((aGL n).flatMap fun k=>if k=v then R else [])=R
 | 0,h=>by omega
 | n+1,h=>by
  rw[aJA,aKH];by_cases e:v=n
  ·subst e;rw[flatMap_nil fun k j=>if_neg (by have:=aHG.1 j; omega)];simp
  ·rw[TO (n:=n) Om];simp[show n≠v by omega]
theorem ZM {f:aC} {v:Nat} {a:bK} {x:Nat} (h:a.dst<bH f 0):uN f v a x=[]:=by
 unfold uN QC;rw[decide_eq_false Om,aHA]; rfl
theorem Nj {f:aC} (h:VF f) {v d:Nat} (j:d<f.aEW.length):zG f (eO f v d)=v:=by
 have w:=(h.drive d j).2.2.2;have x:=w.2;have y:=h.root;have l:dL f d≠0:=fun e=>by have u:=(h.drive d j).2.2.2.2;rw[e] at u;have:=y.2.1;omega
 have hlt:dL f d<f.aEZ.length:=by have:=(h.drive d j).2.2;omega
 unfold zG eO cO;simp only;rw[if_neg l,show 2+f.aEY.length+v*(f.aEZ.length-1)+dL f d-1-2-f.aEY.length=(dL f d-1)+v*(f.aEZ.length-1) by omega,Nat.add_mul_div_right _ _ Om,aJR Om,aHE]
theorem atT {f:aC} (h:VF f) (s:Nat→Nat) (g l:Nat→Nat→Nat) {v w:Nat} (A:w<f.aEY.length):kA f v (fD f w) (qJ f s g l w)=if w=v then oK f (kT f l) v else []:=by
 unfold fD qJ;rw[kA,ZM (by have:=iH h A h.root.1; simp only[cO,if_true] at this; exact this.2),aJX,qG _ _ _ _ (by simp),CB,CB];rw[flatMap_nil fun k B=>ZM (by have:=aHG.1 B; exact (iH (i:=k+1) h A Om).2),aJX];by_cases e:w=v
 ·subst e;rw[if_pos rfl];unfold oK Hy;have:∀ L:List Nat,(∀ d∈L,d<f.aEW.length)→((L.filter (okD f w)).flatMap fun d=>uN f w (eO f w d) (l w d))=(L.filter (kT f l w)).map (fun d:Nat=>(d:Int)):=by
   intro L
   induction L with
   | nil=>intro _; rfl
   | cons d L u =>
    intro x;have j:=x d (by simp);have u:=u fun d j=>x d (by simp[j]);rw[List.filter_cons,List.filter_cons];cases y:okD f w d with
    | false=>rw[show kT f l w d=false by unfold kT; rw[y]; rfl]; exact u
    | true =>
     have E:QC f w (eO f w d) (l w d)=kT f l w d:=by unfold QC kT;rw[Nj h j,y,decide_eq_true rfl,aIY,decide_eq_true (show bH f 0≤(eO f w d).dst by show bH f 0≤bH f d; unfold bH; omega)]
     rw[if_pos rfl,List.flatMap_cons,u];unfold uN;rw[E];cases kT f l w d with
     | false=>rfl
     | true =>rw[if_pos rfl,if_pos rfl,aHR,show (eO f w d).dst-bH f 0=d by show bH f d-bH f 0=d; unfold bH; omega]; rfl
  exact this _ fun d j=>aHG.1 j
 ·rw[if_neg e];refine flatMap_nil fun d j=>?_;have j:=aHG.1 (aJY.1 j).1;unfold uN QC;rw[Nj h j,decide_eq_false e,aID,aID]; rfl
theorem ajN {f:aC} (h:VF f) (room:List Int) (s:Nat→Nat) (g e:Nat→Nat→Nat) (t:Nat→Nat):ky f (fQ f room) (oS f s g e t)=sK f (kT f e):=by
 unfold ky sK;refine aIP fun v j=>?_;have j:=aHG.1 j;have u:∀ L:List Nat,(∀ w∈L,w<f.aEY.length)→(L.flatMap (fD f)).length=(L.flatMap (qJ f s g e)).length∧kA f v (L.flatMap (fD f)) (L.flatMap (qJ f s g e))=L.flatMap fun w=>if w=v then oK f (kT f e) v else []:=by
  intro L
  induction L with
  | nil=>intro _; exact⟨rfl,rfl⟩
  | cons w L B =>
   intro x;obtain⟨y,A⟩:=B fun w l=>x w (by simp[l]);refine⟨?_,?_⟩
   ·rw[List.flatMap_cons,List.flatMap_cons,aGO,aGO,y,wA f s g e w]
   ·rw[List.flatMap_cons,List.flatMap_cons,List.flatMap_cons,qG _ _ _ _ (wA f s g e w),A,atT h s g e (x w (by simp))]
 obtain⟨k1,k2⟩:=u (aGL f.aEY.length) fun w l=>aHG.1 l;unfold fQ oS;rw[qG _ _ _ _ k1,k2,TO j,CB,flatMap_nil,aHY];intro d _;exact ZM (by show 1<bH f 0; unfold bH; omega)
structure fN where
 vols:List Bool
 aFG:List (List Bool)
 aFQ:List Bool
def fN.shape (f:aC) (c:fN):Bool:=decide (c.vols.length=f.aEY.length)&&(decide (c.aFG.length=f.aEY.length)&&(decide (c.aFQ.length=f.aEW.length)&&c.aFG.all fun r=>decide (r.length=f.aEZ.length-1)))
def oA (c:fN):List Bool:=true::false::(c.vols++(c.aFG.flatten++c.aFQ))
def HC (c:fN) (w:Nat):Bool:=(oA c).getD w false
def pX (f:aC) (room:List Int) (c:fN):Bool:=c.shape f&&decide (dB (HC c) (fQ f room)<pK f)
def wE (f:aC) (S:Nat→Bool):fN:=⟨(aGL f.aEY.length).map fun v=>S (cO f v 0),(aGL f.aEY.length).map fun v=>(aGL (f.aEZ.length-1)).map fun i=>S (cO f v (i+1)),(aGL f.aEW.length).map fun d=>S (bH f d)⟩
structure Shape (f:aC) (c:fN):Prop where
 v:c.vols.length=f.aEY.length
 i:c.aFG.length=f.aEY.length
 d:c.aFQ.length=f.aEW.length
 r:∀ r∈c.aFG,r.length=f.aEZ.length-1
theorem CE {f:aC} {c:fN}:c.shape f=true↔Shape f c:=by
 unfold fN.shape;simp only[aHC,decide_eq_true_eq,aIA];exact⟨fun ⟨a,b,d,e⟩=>⟨a,b,d,e⟩,fun ⟨a,b,d,e⟩=>⟨a,b,d,e⟩⟩
theorem xC {α:Type} {n:Nat}:∀ {l:List (List α)},(∀ r∈l,r.length=n)→l.flatten.length=l.length*n
 | [],_=>by simp
 | r::l,h=>by rw[List.flatten_cons,aGO,h r (by simp),xC fun r e=>h r (by simp[e]),aIF,aIX];omega
theorem oa {α:Type} {z:α} {n:Nat}:∀ {l:List (List α)} {v i:Nat},(∀ r∈l,r.length=n)→v<l.length→i<n→l.flatten.getD (v*n+i) z=(l.getD v []).getD i z
 | [],v,i,_,e,_=>by simp at e
 | r::l,0,i,h,_,hi=>by have:=h r (by simp);rw[List.flatten_cons,aGU,aIK Om,Nat.zero_mul,aHE,← aGU]; rfl
 | r::l,v+1,i,h,e,hi=>by have u:=h r (by simp);rw[List.flatten_cons,aGU,aIJ (by rw[aIX]; omega),show (v+1)*n+i-r.length=v*n+i by rw[aIX]; omega,← aGU,oa (fun r j=>h r (by simp[j])) (by simpa using e) hi]; rfl
theorem apU (c:fN):HC c 0=true:=rfl
theorem apT (c:fN):HC c 1=false:=rfl
theorem apV {f:aC} {c:fN} (h:Shape f c) {v:Nat} (e:v<f.aEY.length):HC c (cO f v 0)=c.vols.getD v false:=by
 show (oA c).getD (2+v) false=_;rw[show 2+v=v+1+1 by omega];show (c.vols++(c.aFG.flatten++c.aFQ)).getD v false=_;rw[aGU,aIK (by rw[h.v]; exact e),← aGU]
theorem apR {f:aC} {c:fN} (h:Shape f c) {v i:Nat} (e:v<f.aEY.length) (hi:i<f.aEZ.length-1):HC c (cO f v (i+1))=(c.aFG.getD v []).getD i false:=by
 show (oA c).getD (cO f v (i+1)) false=_;unfold cO;rw[if_neg Om,show 2+f.aEY.length+v*(f.aEZ.length-1)+(i+1)-1=(f.aEY.length+(v*(f.aEZ.length-1)+i))+1+1 by omega];show (c.vols++(c.aFG.flatten++c.aFQ)).getD _ false=_;have j:=xC h.r;rw[h.i] at j;have hb:(v+1)*(f.aEZ.length-1)≤f.aEY.length*(f.aEZ.length-1):=aHO _ e;rw[aIX] at hb;rw[aGU,aIJ (by rw[h.v]; omega),h.v,Nat.add_sub_cancel_left,aIK Om,← aGU];exact oa h.r (by rw[h.i]; exact e) hi
theorem apS {f:aC} (hV:VF f) {c:fN} (h:Shape f c) {d:Nat}:HC c (bH f d)=c.aFQ.getD d false:=by
 show (oA c).getD (bH f d) false=_;have l:=hV.root.1;have j:f.aEY.length*f.aEZ.length=f.aEY.length*(f.aEZ.length-1)+f.aEY.length:=by
  conv=>lhs; rw[show f.aEZ.length=(f.aEZ.length-1)+1 by omega,Nat.mul_succ]
 unfold bH;rw[show 2+f.aEY.length*f.aEZ.length+d=(f.aEY.length+(f.aEY.length*(f.aEZ.length-1)+d))+1+1 by omega];show (c.vols++(c.aFG.flatten++c.aFQ)).getD _ false=_;have e:=xC h.r;rw[h.i] at e;rw[aGU,aIJ (by rw[h.v]; omega),h.v,Nat.add_sub_cancel_left,aIJ Om,e,Nat.add_sub_cancel_left,← aGU]
theorem ahH {f:aC} (hV:VF f) {c:fN} (h:Shape f c):(oA c).length=bH f f.aEW.length:=by
 have j:=hV.root.1;have e:f.aEY.length*f.aEZ.length=f.aEY.length*(f.aEZ.length-1)+f.aEY.length:=by
  conv=>lhs; rw[show f.aEZ.length=(f.aEZ.length-1)+1 by omega,Nat.mul_succ]
 unfold oA bH;rw[aIF,aIF,aGO,aGO,xC h.r,h.v,h.i,h.d];omega
theorem Kh (f:aC) (S:Nat→Bool):Shape f (wE f S):=by
 refine⟨by simp[wE],by simp[wE],by simp[wE],fun r e=>?_⟩;obtain⟨v,-,rfl⟩:=aHJ.1 e;simp
theorem bj {S T:Nat→Bool}:∀ {l:List bK},(∀ a∈l,S a.src=T a.src∧S a.dst=T a.dst)→dB S l=dB T l
 | [],_=>rfl
 | a::l,h=>by rw[dB,dB,(h a (by simp)).1,(h a (by simp)).2,bj fun b hb=>h b (by simp[hb])]
theorem agZ {f:aC} (hV:VF f) (room:List Int) {S T:Nat→Bool} (x:S 0=T 0) (y:S 1=T 1) (u:∀ v i,v<f.aEY.length→i<f.aEZ.length→S (cO f v i)=T (cO f v i)) (w:∀ d,d<f.aEW.length→S (bH f d)=T (bH f d)):dB S (fQ f room)=dB T (fQ f room):=by
 have j:=hV.root.1;refine bj fun a ha=>?_;rcases aHQ.1 ha with ha | ha
 ·obtain⟨v,l,ha⟩:=List.mem_flatMap.1 ha;have l:=aHG.1 l;rcases aGV.1 ha with rfl | ha
  ·exact⟨x,u v 0 l j⟩
  rcases aHQ.1 ha with ha | ha
  ·obtain⟨k,e,rfl⟩:=aHJ.1 ha;have e:=aHG.1 e;exact⟨u v _ l (by have:=(hV.dom (k+1) Om Om).2.1; omega),u v (k+1) l Om⟩
  ·obtain⟨d,e,rfl⟩:=aHJ.1 ha;have e:=aHG.1 (aJY.1 e).1;exact⟨u v _ l (by have:=(hV.drive d e).2.2; omega),w d e⟩
 ·obtain⟨d,e,rfl⟩:=aHJ.1 ha;exact⟨w d (aHG.1 e),y⟩
theorem avP {f:aC} (hV:VF f) (room:List Int) {S:Nat→Bool} (l:S 0=true) (u:S 1=false):dB (HC (wE f S)) (fQ f room)=dB S (fQ f room):=by
 have j:=Kh f S;refine agZ hV room (by rw[l]; rfl) (by rw[u]; rfl) (fun v i e hi=>?_) fun d w=>?_
 ·cases i with
  | zero=>rw[apV j e]; simp[wE,e]
  | succ i =>rw[apR j e Om];have:i<f.aEZ.length-1:=Om;simp[wE,e,this]
 ·rw[apS hV j]; simp[wE,w]
theorem check_sound {f:aC} (hV:VF f) {room:List Int} {c:fN} (h:pX f room c=true):¬ tK f room:=by
 rintro⟨u,A⟩;unfold pX at h;rw[aHC,decide_eq_true_eq] at h;have:=A.cut hV (HC c) (apU c) (apT c);omega
theorem agK {f:aC} (hV:VF f) {room:List Int} {xs:List Nat} (l:gG (eD f room) xs) {S:Nat→Bool} (e:S 0=true) (j:S 1=false) (u:jB (eD f room) xs=dB S (fQ f room)) (w:¬ tK f room):pX f room (wE f S)=true:=by
 have h:=mt (n8 hV l e j u).1 w;unfold pX;rw[CE.2 (Kh f S),avP hV room e j,aHK,decide_eq_true_eq];omega

abbrev rZ (f:aC):List PV:=[.int .i64 (f.aEY.length:Nat),.int .i64 (f.aEZ.length:Nat)]
theorem atM {C:Ctx} (f:aC) (v:Nat) (j:v≤100):PU.wp C (aT alT.res (aM (.int .i64 ((2+v:Nat):Int)))) (PF.args [.agg (rZ f),.int .i64 (v:Nat)]) .nil:=by
 have e:IntKind.i64.wrap (2+(v:Int))=((2+v:Nat):Int):=by rw[wrap_i64 Om Om]; omega
 simp only[go_sem,PU,Uw,Ux,alT,e];refine cE (.inr rfl) Ev ?_;rfl
theorem Td {a b:Nat} (j:a≤100) (hb:b≤100):IntKind.i64.wrap ((a:Int)*(b:Int))=((a*b:Nat):Int)∧a*b≤10000:=by
 have e:a*b≤100*100:=aJU j hb;rw[← Int.natCast_mul,wrap_i64 Om Om];exact⟨rfl,e⟩
theorem alO {f:aC} (u:Small f) {v i:Nat} (w:v≤100) (hi:i≤100) (e:i≠0) (y:0<f.aEZ.length) :
  IntKind.i64.wrap (IntKind.i64.wrap (IntKind.i64.wrap (IntKind.i64.wrap (2+(f.aEY.length:Int))+IntKind.i64.wrap ((v:Int)*IntKind.i64.wrap ((f.aEZ.length:Int)-1)))+(i:Int))-1)=((cO f v i:Nat):Int):=by
 obtain⟨s1,s2,s3,s4,A,B⟩:=u;rw[wrap_i64 (n:=(f.aEZ.length:Int)-1) Om Om,show (f.aEZ.length:Int)-1=((f.aEZ.length-1:Nat):Int) by omega];obtain⟨j,x⟩:=Td (a:=v) (b:=f.aEZ.length-1) w Om;rw[j];have l:cO f v i=2+f.aEY.length+v*(f.aEZ.length-1)+i-1:=by unfold cO; rw[if_neg e]
 rw[l];generalize v*(f.aEZ.length-1)=z at *
 rw[wrap_i64 (n:=2+(f.aEY.length:Int)) Om Om,wrap_i64 (n:=2+(f.aEY.length:Int)+(z:Int)) Om Om,wrap_i64 (n:=2+(f.aEY.length:Int)+(z:Int)+(i:Int)) Om Om,wrap_i64 Om Om];omega
theorem aqB {f:aC} (j:Small f) {d:Nat} (u:d≤100) :
  IntKind.i64.wrap (IntKind.i64.wrap (2+IntKind.i64.wrap ((f.aEY.length:Int)*(f.aEZ.length:Int)))+(d:Int))=((bH f d:Nat):Int):=by
 obtain⟨s1,s2,s3,s4,w,x⟩:=j;obtain⟨e,l⟩:=Td (a:=f.aEY.length) (b:=f.aEZ.length) Om Om;rw[e];unfold bH;generalize f.aEY.length*f.aEZ.length=z at *
 rw[wrap_i64 (n:=2+(z:Int)) Om Om,wrap_i64 Om Om];omega
theorem aaV (f:aC) (v:Nat):cO f v 0=2+v:=rfl
theorem asZ {C:Ctx} (u:∀ (f:aC) (v:Nat),v≤100→aG C 282 [.agg (rZ f),.int .i64 (v:Nat)] .nil (aM (.int .i64 ((2+v:Nat):Int)))) (f:aC) (x:Small f) (w:0<f.aEZ.length) (v i:Nat) (l:v≤100) (hi:i≤100) :
  BV.wp C (aT Yn.res (aM (.int .i64 ((cO f v i:Nat):Int)))) (PF.args [.agg (rZ f),.int .i64 (v:Nat),.int .i64 (i:Nat)]) .nil:=by
 by_cases j:i=0
 ·subst j;simp only[go_sem,BV,l9,ma,Yn,T4,Int.natCast_zero,bM (show ((0:Nat):Int)=0 from rfl)];refine aB (u f v l) Ev ?_;simp only[go_sem];refine cE (.inr rfl) Ev ?_;rfl
 ·have e:=alO x l hi j w;simp only[go_sem,BV,l9,ma,Yn,bB (Om:¬ ((i:Nat):Int)=0),T5,e];refine cE (.inr rfl) Ev ?_;rfl
theorem atB {C:Ctx} (f:aC) (l:Small f) (d:Nat) (j:d≤100):OY.wp C (aT alF.res (aM (.int .i64 ((bH f d:Nat):Int)))) (PF.args [.agg (rZ f),.int .i64 (d:Nat)]) .nil:=by
 have e:=aqB l j;simp only[go_sem,OY,T6,T7,alF,e];refine cE (.inr rfl) Ev ?_;rfl
theorem apH {f:aC} (hV:VF f) (k:Nat) (j:k≤f.aEY.length):cH (fW f) k≤8*k:=by
 induction k with
 | zero=>exact aGQ _
 | succ k e =>have:=(nL hV (v:=k) Om).1;have:=e Om;rw[cH];omega








theorem oN {t:Nat} {b j:Bool} {F:PF} {H:PH} (h:F t=some (.bool b)) (e:b=j):aT [.tmp t] (aM (.bool j)) .ret F H:=by
 subst e;exact aU (.inr rfl) .nil (vs:=[.bool b]) (by rw[kY,oJ,h,pH]) a_ ⟨rfl,rfl⟩
abbrev fC (f:aC):bG:=.rows 2 [rZ f]
abbrev lC:bG:=.rows 4 [[.int .i64 0,.int .i64 0,.int .i64 0,.aA]]
abbrev EO (p:cW):bG:=.rows 17 [p.cells]
def ju (o N:Nat) (l:List bK) (a:bK) (r:PV) (H':PH):Prop:=∃ (B':List BX) (L':List LI),(r=.tup []∧∃ v',B'=[(o,dO N v')]∧L'=[(v',4,(l++[a]).map bK.cells)])∧aL H' B' L'
structure mE (C:Ctx):Prop where
 vol:∀ (f:aC) (v:Nat),v≤100→aG C 282 [.agg (rZ f),.int .i64 (v:Nat)] .nil (aM (.int .i64 ((2+v:Nat):Int)))
 dom:∀ (f:aC),Small f→0<f.aEZ.length→∀ v i:Nat,v≤100→i≤100→aG C 283 [.agg (rZ f),.int .i64 (v:Nat),.int .i64 (i:Nat)] .nil (aM (.int .i64 ((cO f v i:Nat):Int)))
 drv:∀ (f:aC),Small f→∀ d:Nat,d≤100→aG C 284 [.agg (rZ f),.int .i64 (d:Nat)] .nil (aM (.int .i64 ((bH f d:Nat):Int)))
 arc:∀ (o N:Nat) (a:bK) (v:PV) (l:List bK),l.length≤1000000→∀ H,aL H [(o,dO N v)] [(v,4,l.map bK.cells)]→aG C 285 [.int .i64 (a.src:Nat),.int .i64 (a.dst:Nat),.int .i64 (a.cap:Nat),.ptr o 4 0 0] H (ju o N l a)
 valid:∀ f:aC,f.Ok→aG C 96 [.agg f.cells] .nil (aM (.int .i64 (xZ f)))
 roomM:∀ (f:aC) (room:List Int),f.Ok→aG C 152 [.agg f.cells,ints room] .nil (nP 1 (bY (TA f room)))
theorem avJ (o N:Nat) (l:List bK) (a:bK) (G A:PH) (D:List Nat) (hD:o∈D) (J:∃ x,A o=some x):∃ r H',ju o N l a r H'∧lI G (A.only D) H':=by
 obtain⟨q,u,w⟩:=PH.aiC G o;have I:=(aL.nil.new (H:=PH.nil) (o:=o) rfl (dO N (.osl q 4 0 ((l++[a]).map bK.cells).length))).me (s:=4) (rows:=(l++[a]).map bK.cells) (o:=q) (by rw[aP,if_neg w]; rfl);refine⟨.tup [],_,⟨_,_,⟨rfl,_,rfl,rfl⟩,I⟩,fun p x j E=>?_⟩;rw[aP] at j;by_cases e:p=q
 ·subst e; exact u
 ·rw[if_neg e,aP] at j;by_cases B:p=o
  ·subst B;obtain⟨y,M⟩:=J;rw[qX,if_pos hD,M] at E;cases E
  ·rw[if_neg B] at j; cases j
def AC (f:aC) (D:List Nat) (Q:PV→PH→Prop):Spec:=fun name vs=>match name,vs with
 | 285,_=>some (D,fun _=>Q)
 | 282,[_,.int _ v]=>some ([],fun _=>aM (.int .i64 ((2+v.toNat:Nat):Int)))
 | 283,[_,.int _ v,.int _ i]=>some ([],fun _=>aM (.int .i64 ((cO f v.toNat i.toNat:Nat):Int)))
 | 284,[_,.int _ d]=>some ([],fun _=>aM (.int .i64 ((bH f d.toNat:Nat):Int)))
 | _,_=>none
section
variable {C:Ctx} {F:PF} {H Hs:PH} {st:Bool} {f:aC} {D:List Nat} {Q:PV→PH→Prop} {args:List aN} {d:Option Nat} {K:PF→PH→Prop}
theorem Ak (j:mE C) {v:Nat} (w:v≤100) (l:aN.evs F args=some [.agg (rZ f),.int .i64 (v:Nat)]) (e:Hs.le H) (u:K (F.put d (.int .i64 ((2+v:Nat):Int))) H):dOp C Hs (AC f D Q) st (.call 282 args) d K F H :=
 dP (v:=.int .i64 ((2+v:Nat):Int)) (by rfl) (j.vol f v w) l e u
theorem VT (j:mE C) (x:Small f) (l:0<f.aEZ.length) {v i:Nat} (y:v≤100) (hi:i≤100) (u:aN.evs F args=some [.agg (rZ f),.int .i64 (v:Nat),.int .i64 (i:Nat)]) (e:Hs.le H) (w:K (F.put d (.int .i64 ((cO f v i:Nat):Int))) H):dOp C Hs (AC f D Q) st (.call 283 args) d K F H :=
 dP (v:=.int .i64 ((cO f v i:Nat):Int)) (by rfl) (j.dom f x l v i y hi) u e w
theorem AF (j:mE C) (w:Small f) {i:Nat} (hi:i≤100) (l:aN.evs F args=some [.agg (rZ f),.int .i64 (i:Nat)]) (e:Hs.le H) (u:K (F.put d (.int .i64 ((bH f i:Nat):Int))) H):dOp C Hs (AC f D Q) st (.call 284 args) d K F H :=
 dP (v:=.int .i64 ((bH f i:Nat):Int)) (by rfl) (j.drv f w i hi) l e u
theorem j8 (y:mE C) {o N:Nat} {v:PV} {l:List bK} (a:bK) (E:l.length≤1000000) {B2:List BX} (h:aL H ((o,dO N v)::B2) [(v,4,l.map bK.cells)]) {x:aN} (J:x.ev F=some (.fn 285 [.ptr o 4 0 0]))
  (A:aN.evs F args=some [.int .i64 (a.src:Nat),.int .i64 (a.dst:Nat),.int .i64 (a.cap:Nat)])
  (B:∀ v' H',aL H' ((o,dO N v')::B2) [(v',4,(l++[a]).map bK.cells)]→Hs.le H'∧K (F.put d (.tup [])) H') :
  dOp C Hs (AC f (eC [(o,dO N v)]++dC [(v,4,l.map bK.cells)]) (ju o N l a)) st (.aGA x args) d K F H:=by
 have w:aL H ([(o,dO N v)]++B2) ([(v,4,l.map bK.cells)]++[]):=h;have I:H o=some (dO N v):=h.at 0 rfl;have e:POp.kind (.aGA x args) F=.call 285 (some [.int .i64 (a.src:Nat),.int .i64 (a.dst:Nat),.int .i64 (a.cap:Nat),.ptr o 4 0 0]):=by simp only[POp.kind,J,A,aHS,List.cons_append,aJX]
 unfold dOp;rw[e];refine⟨_,_,_,rfl,rfl,fun q hq=>?_,y.arc o N a v l E _ (w.only (aKI ..) (aKI ..)),fun G=>avJ o N l a G H _ (by simp[eC]) ⟨_,I⟩,?_⟩
 ·rcases aHQ.1 hq with hq | hq
  ·exact h.AA (.inl (by simp only[eC,aHR,aGV]; left; simpa [eC] using hq))
  ·exact h.AA (.inr hq)
 ·rintro r H' ⟨B',L',⟨rfl,v',rfl,rfl⟩,j⟩ u;exact B v' _ (w.frame j u)
theorem aaA (j:mE C) {o N:Nat} {v:PV} {l:List bK} (a:bK) (A:l.length≤1000000) {B2:List BX} (h:aL H ((o,dO N v)::B2) [(v,4,l.map bK.cells)])
  (x:aN.evs F args=some [.int .i64 (a.src:Nat),.int .i64 (a.dst:Nat),.int .i64 (a.cap:Nat)])
  (y:∀ v' H',aL H' ((o,dO N v')::B2) [(v',4,(l++[a]).map bK.cells)]→K (F.put d (.tup [])) H'):gA C 285 args [.ptr o 4 0 0] d K F H:=by
 refine Np (B1:=[(o,dO N v)]) (B2:=B2) (L1:=[(v,4,l.map bK.cells)]) (L2:=[]) h (Q:=fun r B' L'=>r=.tup []∧∃ v',B'=[(o,dO N v')]∧L'=[(v',4,(l++[a]).map bK.cells)]) (fun e w=>j.arc o N a v l A e w) x ?_;rintro r B' L' H' ⟨rfl,v',rfl,rfl⟩ u;exact y v' H' u
end
theorem E6 {a b:Nat} {x y:bG} (h:¬ a=b):∃ Hs:PH,Hs a=some x∧Hs b=some y∧∀ H':PH,H' a=some x→H' b=some y→Hs.le H' :=
 ⟨(PH.nil.set a x).set b y,by rw[aP,if_neg h,cM],cM _ _,fun H' e j=>e_ (e_ a_ e) j⟩
structure NO where
 o:Nat
 n:Nat
 z:Nat
 p:Nat
 m:Nat
def gJ (f:aC) (room:List Int) (e:NO) (k:Nat):PF:=(((((((((PF.nil.set 1 (ints room)).set 2 (.cS f.cells)).set 4 (.ptr e.z 4 0 0)).set 6 (.ptr e.n 2 0 0)).set 7 (.ptr e.o 4 0 0)).set 8 (.fn 285 [.ptr e.o 4 0 0])).set 41 (.sl 2 (f.aEY.map iY.cells))).set 42 (.int .i64 (f.aEY.length:Nat))).set 43 (.int .i64 (k:Nat)))
def nH (f:aC) (room:List Int) (e:NO) (k:Nat):PF:=(((gJ f room e k).set 9 (.int .i64 (k:Nat))).set 11 (.ptr e.p 17 0 0)).set 12 (.osl e.m 1 0 f.aEX.length)
def ST (f:aC) (room:List Int) (e:NO) (k:Nat) (p:cW) (j:Nat):PF:=(((nH f room e k).set 59 (ints p.aEX)).set 60 (.int .i64 (p.aEX.length:Nat))).set 61 (.int .i64 (j:Nat))
def rY (f:aC) (room:List Int) (e:NO) (k i:Nat):PF:=(((nH f room e k).set 80 (.sl 7 (f.aEZ.map cU.cells))).set 81 (.int .i64 (f.aEZ.length:Nat))).set 82 (.int .i64 (i:Nat))
def JT (f:aC) (room:List Int) (e:NO) (k i:Nat):PF:=((((((gJ f room e k).set 9 (.int .i64 (k:Nat))).set 12 (.osl e.m 1 0 f.aEX.length))).set 115 (.sl 3 (f.aEW.map dQ.cells))).set 116 (.int .i64 (f.aEW.length:Nat))).set 117 (.int .i64 (i:Nat))
theorem W4 {C:Ctx} {K:cG} [Up K] (f:aC) (room:List Int) (e:NO) (k:Nat) (p:cW) (hp:∀ m∈p.aEX,0≤m∧m<f.aEX.length) (V:p.aEX.length≤9223372036854775807) {F:PF} {H:PH} {B:List BX} {L:List LI} (b:Nat)
  (hb:B[b]?=some (e.m,.rows 1 (bF (marks f.aEX.length [])))) (w:aL H B L) (X:(ST f room e k p 0).le F)
  (Y:∀ H',aL H' (B.set b (e.m,.rows 1 (bF (marks f.aEX.length p.aEX)))) L→K (.exit 2) (nH f room e k) H'):aE.wp C (.loop VZ) K F H:=by
 refine wp_loop (α:=Nat × PH) (fun s=>ST f room e k p s.1) (fun s=>s.2) (fun s=>s.1≤p.aEX.length∧aL s.2 (B.set b (e.m,.rows 1 (bF (marks f.aEX.length (p.aEX.take s.1))))) L) (fun s=>p.aEX.length-s.1) (0,H) ⟨aGW _,?_⟩ X b_ ?_
 ·rw[List.take_zero];have W:B.set b (e.m,.rows 1 (bF (marks f.aEX.length [])))=B:=by obtain⟨h1,A⟩:=aHP.1 hb;rw[← A,List.set_getElem_self]
  rw[W]; exact w
 rintro⟨j,U⟩ ⟨Z,w⟩;simp only at Z w;have E:b<B.length:=(aHP.1 hb).1;have x:(B.set b (e.m,bG.rows 1 (bF (marks f.aEX.length (p.aEX.take j)))))[b]?=some (e.m,.rows 1 (bF (marks f.aEX.length (p.aEX.take j)))):=List.getElem?_set_self E;simp only[go_sem,VZ,Bf,ST,nH,gJ];by_cases hlt:j<p.aEX.length
 ·have u:(j:Int)<(p.aEX.length:Nat):=Om;have N:(p.aEX.map fun n=>[PV.int .i64 n])[j]?=some [.int .i64 p.aEX[j]]:=by simp[hlt]
  obtain⟨R,S⟩:=hp _ (aGP hlt);have O:p.aEX.take (j+1)=p.aEX.take j++[p.aEX[j]]:=aIR hlt;have J:(p.aEX[j]).toNat<(bF (marks f.aEX.length (p.aEX.take j))).length:=by rw[jC,qo]; omega
  have I:(bF (marks f.aEX.length (p.aEX.take j)))[(p.aEX[j]).toNat]?=some [.bool ((p.aEX.take j).contains p.aEX[j])]:=by unfold bF;rw[aHF,AR R S]; rfl
  have M:=w.at b x;have A:=w.set b x (.rows 1 (bF (marks f.aEX.length (p.aEX.take (j+1)))));rw[List.set_set] at A;have y:=OJ (l:=p.aEX.take j) R S;rw[← O] at y;simp only[go_sem,u,Bg,N,Bh,R,S,aHE,M,I,J,pV,y,Bi,wZz j];exact aH (j+1,U.set e.m (.rows 1 (bF (marks f.aEX.length (p.aEX.take (j+1)))))) ⟨hlt,A⟩ (by simp only; omega) (by (repeat' (first|exact d_|refine c_ ?_ ?_))<;>first|(simp only[go_sem,ST,nH,gJ]<;>rfl)|rfl) b_
 ·have u:¬ (j:Int)<(p.aEX.length:Nat):=Om;have:j=p.aEX.length:=Om;subst this;rw[aHV] at w;simp only[go_sem,u];exact Up.up (by (repeat' (first|exact d_|refine c_ ?_ ?_))<;>first|(simp only[go_sem,ST,nH,gJ]<;>rfl)|rfl) (Y U w)
theorem Ad (pre:List bK) (g:Nat→bK) (k:Nat):pre++(aGL (k+1)).map g=pre++(aGL k).map g++[g k]:=by
 rw[aJA,aHX,aHN]; rfl
theorem Fe {G F:PF} {i:Nat} {v:PV} (h:G.le F) (hi:G i=none):G.le (F.set i v):=fun j x l=>by
 rw[mR];by_cases e:j=i
 ·subst e; rw[hi] at l; cases l
 ·rw[if_neg e]; exact h j x l
theorem Yp {C:Ctx} (f:aC) (p:cW) {i:Nat} (hi:i<f.aEZ.length) (I:0≤lvl f i) (J:lvl f i<5) {q op:Nat} (K:PF→PH→Prop) (F:PF) (H:PH) (u:F 16=some (.ptr q 7 0 0)) (hq:H q=some (.rows 7 [(f.aEZ[i]).cells])) (l:F 11=some (.ptr op 17 0 0)) (x:H op=some (EO p))
  (y:∀ e:PF,e 17=some (.int .i64 (p.spread (lvl f i).toNat))→(∀ G:PF,G.le F→(∀ j,89≤j→j<94→G j=none)→G 17=none→G.le e)→K e H):wpOps C WF K F H:=by
 have h5:lvl f i<((5:Nat):Int):=Om;simp only[go_sem,WF,u,hq,l,acR hi,I,h5,Nat.mul_one];have B:lvl f i=0∨lvl f i=1∨lvl f i=2∨lvl f i=3∨lvl f i=4:=Om;have fin:∀ e:PF,e 17=some (.int .i64 (p.spread (lvl f i).toNat))→(∀ G:PF,G.le F→(∀ j,89≤j→j<94→G j=none)→G 17=none→G.le e)→K e H:=y;clear y;rcases B with h | h | h | h | h
 all_goals
  rw[h] at fin ⊢;simp only[go_sem,x];refine fin _ (by simp only[go_sem]; rfl) fun G A E w=>?_
  repeat' (first | exact A | exact w | (exact E _ (by decide) (by decide)) | refine Fe ?_ ?_)
theorem abL {C:Ctx} (Lb:mE C) {K:cG} [Up K] (f:aC) (hV:VF f) (room:List Int) (e:NO) (N k:Nat) (hk:k<f.aEY.length) (pre:List bK) (η:pre.length≤900000) {F:PF} {H:PH} {B:List BX} (v:PV)
  (h6:B[0]?=some (e.n,fC f)) (M:B[1]?=some (e.p,EO (cL f k)))
  (R:aL H ((e.o,dO N v)::B) [(v,4,pre.map bK.cells)]) (hF:(rY f room e k 0).le F)
  (hK:∀ v' H',aL H' ((e.o,dO N v')::B) [(v',4,(pre++(aGL (f.aEZ.length-1)).map (jY f k)).map bK.cells)]→K (.exit 4) (nH f room e k) H'):aE.wp C (.loop WA) K F H:=by
 have Y:=hV.small;have hr:=hV.root;have θ:=Y.aEZ;have ι:=Y.aEY;have ε:¬ e.n=e.p:=R.ne 1 2 h6 M (by decide);obtain⟨Hs,s6,μ,E⟩:=E6 (x:=fC f) (y:=EO (cL f k)) ε;refine wp_loop (α:=Nat × PV × PH) (fun s=>rY f room e k s.1) (fun s=>s.2.2) (fun s=>s.1≤f.aEZ.length∧aL s.2.2 ((e.o,dO N s.2.1)::B) [(s.2.1,4,(pre++(aGL (s.1-1)).map (jY f k)).map bK.cells)]) (fun s=>f.aEZ.length-s.1) (0,v,H) ⟨aGW _,by simpa using R⟩ hF b_ ?_;rintro⟨i,v,H0⟩ ⟨hi,R⟩;simp only at hi R;simp only[go_sem,WA,Bl,rY,nH,gJ];by_cases hlt:i<f.aEZ.length
 ·have A:(i:Int)<(f.aEZ.length:Nat):=Om;have δ:=wZz i;simp only[go_sem,A,Bm,HG hlt];refine R.vE fun q H1 h1=>?_;have q1:=h1.nB;have O:=h1.tA (.rows 7 [(f.aEZ[i]).cells]);simp only[go_sem,q1];generalize H1.set q (.rows 7 [(f.aEZ[i]).cells])=H2 at *
  have S:=O.nB;by_cases h0:i=0
  ·subst h0;simp only[go_sem,WE,Int.natCast_zero,bM (show (0:Int)=0 from rfl),HO];exact aH (1,v,H2) ⟨hr.1,O.dropLast⟩ (by simp only; omega) (by (repeat' (first|exact d_|refine c_ ?_ ?_))<;>first|(simp only[go_sem,rY,nH,gJ]<;>rfl)|rfl) b_
  ·have c0:=bB (Om:¬ ((i:Nat):Int)=0);obtain⟨l,rfl⟩:∃ l,i=l+1:=⟨i-1,by omega⟩;obtain⟨d1,d2,d3,d4,d5⟩:=hV.dom (l+1) Om hlt;have ζ:=hV.U3 (Om:0<l+1) hlt;have h5:lvl f (l+1)<((5:Nat):Int):=Om;have l0:(0:Int)≤lvl f (l+1):=Om;have w:H2 e.p=some (EO (cL f k)):=O.box _ (by refine aKA _ (aJW _ (aII M)))
   have X:H2 e.n=some (fC f):=O.box _ (by refine aKA _ (aJW _ (aII h6)));obtain⟨b1,b2,b3,b4⟩:=nL hV hk;obtain⟨hp,he⟩:=mP hV hk;have I:=hV.aFJ _ (aGP hp);rw[he] at I;have β:IntKind.i64.wrap ((cL f k).k+(cL f k).m)=((fW f k:Nat):Int):=by rw[b3]; exact wrap_i64 Om Om
   have κ:=I.2.2.2.2.2.2.1 (lvl f (l+1)).toNat;have u:((wL f k (l+1):Nat):Int)=if (cL f k).spread (lvl f (l+1)).toNat=0 then ((fW f k:Nat):Int) else (cL f k).spread (lvl f (l+1)).toNat:=by
    unfold wL eN;split
    ·rfl
    ·omega
   simp only[go_sem,WE,c0];refine Yp f (cL f k) hlt l0 Om (q:=q) (op:=e.p) _ _ _ Sq S Sq w fun F1 J V=>?_;have hG:=V (((rY f room e k (l+1)).set 15 (.int .i64 ((l+1:Nat):Int))).set 16 (.ptr q 7 0 0)) (by (repeat' (first|exact d_|refine c_ ?_ ?_))<;>first|(simp only[go_sem,rY,nH,gJ]<;>rfl)|rfl) (fun j h1 O=>by have:j=89∨j=90∨j=91∨j=92∨j=93:=Om;rcases this with rfl | rfl | rfl | rfl | rfl<;>rfl) rfl
   clear V;have U:∀ Z:PF,((((rY f room e k (l+1)).set 15 (.int .i64 ((l+1:Nat):Int))).set 16 (.ptr q 7 0 0)).set 17 (.int .i64 ((wL f k (l+1):Nat):Int))).le Z →
     aE.wp C (.draw WH) (fF 5 (kL C (aE.wp C (.region HO)) (jE (fun s:Nat × PV × PH=>rY f room e k s.1) (fun s=>s.2.2) (fun s=>s.1≤f.aEZ.length∧aL s.2.2 ((e.o,dO N s.2.1)::B) [(s.2.1,4,(pre++(aGL (s.1-1)).map (jY f k)).map bK.cells)]) (fun s=>f.aEZ.length-s.1) (f.aEZ.length-(l+1)) K))) Z H2:=by
    intro Z γ;refine CW _ (fun _ _ _ _ a b=>Up.up a b) γ ?_;refine bP Hs (AC f (eC [(e.o,dO N v)]++dC [(v,4,(pre++(aGL l).map (jY f k)).map bK.cells)]) (ju e.o N (pre++(aGL l).map (jY f k)) (jY f k l))) (E _ X w) ?_;simp only[go_sem,WH,rY,nH,gJ,X,S,s6];refine VT Lb Y hr.1 (v:=k) (i:=gY f (l+1)) Om Om (by simp only[go_sem,aeH hlt,ζ]) (E _ X w) ?_;simp only[go_sem,s6];refine VT Lb Y hr.1 (v:=k) (i:=l+1) Om Om Sq (E _ X w) ?_;simp only[go_sem];refine j8 Lb (jY f k l) (v:=v) (B2:=B++[(q,.rows 7 [(f.aEZ[l+1]).cells])]) (by rw[aGO,aGK,aJO]; omega) O Sq (by simp only[go_sem]; rfl) fun v' H' h'=>⟨E _ (h'.box _ (aJW _ (aKA _ (aII h6)))) (h'.box _ (aJW _ (aKA _ (aII M)))),?_⟩;simp only[go_sem,HO,δ];refine aH (l+1+1,v',H') ⟨hlt,?_⟩ (by simp only; omega) (by (repeat' (first|exact d_|refine c_ ?_ ?_))<;>first|(simp only[go_sem,rY,nH,gJ]<;>rfl)|rfl) b_;simp only;rw[show l+1+1-1=l+1 from rfl,Ad];exact aL.dropLast (B:=(e.o,dO N v')::B) h'
   by_cases W:(cL f k).spread (lvl f (l+1)).toNat=0
   ·rw[if_pos W] at u;have f11:=hG 11 _ rfl;simp only[go_sem,WG,J,bM W,Bn,f11,w,β];refine U _ (c_ ?_ (by simp only[go_sem,u]))
    repeat' (first | exact hG | refine Fe ?_ rfl)
   ·rw[if_neg W] at u;simp only[go_sem,WG,J,bB W];refine U _ (c_ ?_ (by simp only[go_sem,J,u]))
    repeat' (first | exact hG | refine Fe ?_ rfl)
 ·have A:¬ (i:Int)<(f.aEZ.length:Nat):=Om;have:i=f.aEZ.length:=Om;subst this;simp only[go_sem,A];exact Up.up (by (repeat' (first|exact d_|refine c_ ?_ ?_))<;>first|(simp only[go_sem,rY,nH,gJ]<;>rfl)|rfl) (hK v H0 R)
theorem N1 (p:Nat→Bool) (k:Nat):(aGL (k+1)).filter p=(aGL k).filter p++if p k=true then [k] else []:=by
 rw[aJA,List.filter_append,List.filter_cons,List.filter_nil]
theorem abM {C:Ctx} (J:mE C) {K:cG} [Up K] (f:aC) (hV:VF f) (room:List Int) (e:NO) (N k:Nat) (hk:k<f.aEY.length) (pre:List bK) (Z:pre.length≤900000) {F:PF} {H:PH} {B:List BX} (v:PV)
  (Y:B[0]?=some (e.n,fC f)) (O:B[1]?=some (e.m,.rows 1 (bF (marks f.aEX.length (cL f k).aEX))))
  (y:aL H ((e.o,dO N v)::B) [(v,4,pre.map bK.cells)]) (hF:(JT f room e k 0).le F)
  (hK:∀ v' H',aL H' ((e.o,dO N v')::B) [(v',4,(pre++((aGL f.aEW.length).filter (okD f k)).map (eO f k)).map bK.cells)]→K (.exit 6) (gJ f room e k) H'):aE.wp C (.loop WB) K F H:=by
 have E:=hV.small;have hr:=hV.root;have β:=E.aEZ;have γ:=E.aEW;have δ:=E.aEY;refine wp_loop (α:=Nat × PV × PH) (fun s=>JT f room e k s.1) (fun s=>s.2.2) (fun s=>s.1≤f.aEW.length∧aL s.2.2 ((e.o,dO N s.2.1)::B) [(s.2.1,4,(pre++((aGL s.1).filter (okD f k)).map (eO f k)).map bK.cells)]) (fun s=>f.aEW.length-s.1) (0,v,H) ⟨aGW _,by simpa using y⟩ hF b_ ?_;rintro⟨i,v,H0⟩ ⟨hi,y⟩;simp only at hi y;simp only[go_sem,WB,Bp,JT,gJ];by_cases hlt:i<f.aEW.length
 ·have j:(i:Int)<(f.aEW.length:Nat):=Om;have A:=wZz i;obtain⟨d1,d2,d3,d4,d5⟩:=hV.drive i hlt;have S:(bF (marks f.aEX.length (cL f k).aEX))[mdl f i]?=some [.bool ((cL f k).aEX.contains ((mdl f i:Nat):Int))]:=by have:=AR (n:=f.aEX.length) (l:=(cL f k).aEX) (m:=((mdl f i:Nat):Int)) Om Om;rw[aJN] at this;unfold bF;rw[aHF,this]; rfl
  have V:okD f k i=(cL f k).aEX.contains ((mdl f i:Nat):Int):=rfl;have U:((mdl f i:Nat):Int)<(f.aEX.length:Nat):=Om;simp only[go_sem,j,Bq,xB hlt];refine y.vE fun q H1 X=>?_;have q1:=X.nB;have w:=X.tA (.rows 3 [(f.aEW[i]).cells]);simp only[go_sem,q1];generalize H1.set q (.rows 3 [(f.aEW[i]).cells])=H2 at *
  have x:=w.nB;have M:H2 e.m=some _:=w.box _ (aKA _ (aJW _ (aII O)));have I:H2 e.n=some (fC f):=w.box _ (aKA _ (aJW _ (aII Y)));have u:=N1 (okD f k) i;simp only[go_sem,Br,x,hV.dj hlt,U,M,aHE,S];rw[← V];cases hb:okD f k i with
  | false =>rw[hb,if_neg (by decide),aHY] at u;rw[← u] at w;simp only[go_sem,WI,A];exact aH (i+1,v,H2) ⟨hlt,w.dropLast⟩ (by simp only; omega) (by (repeat' (first|exact d_|refine c_ ?_ ?_))<;>first|(simp only[go_sem,JT,gJ]<;>rfl)|rfl) b_
  | true =>
   rw[hb,if_pos rfl] at u;simp only[go_sem];refine bP (PH.nil.set e.n (fC f)) (AC f (eC [(e.o,dO N v)]++dC [(v,4,(pre++((aGL i).filter (okD f k)).map (eO f k)).map bK.cells)]) (ju e.o N (pre++((aGL i).filter (okD f k)).map (eO f k)) (eO f k i))) (e_ a_ I) ?_;have R:=List.length_filter_le (okD f k) (aGL i);rw[aJO] at R;simp only[go_sem,Bs,I,x];refine VT J E hr.1 (v:=k) (i:=dL f i) Om Om (by simp only[go_sem,hV.Sa hlt]) (e_ a_ I) ?_;simp only[go_sem];refine AF J E (i:=i) Om Sq (e_ a_ I) ?_;simp only[go_sem];refine j8 J (eO f k i) (v:=v) (B2:=B++[(q,.rows 3 [(f.aEW[i]).cells])]) (by rw[aGO,aGK]; omega) w Sq (by simp only[go_sem]; rfl) fun v' H' W=>⟨e_ a_ (W.box _ (aJW _ (aKA _ (aII Y)))),?_⟩;simp only[go_sem,WI,A];refine aH (i+1,v',H') ⟨hlt,?_⟩ (by simp only; omega) (by (repeat' (first|exact d_|refine c_ ?_ ?_))<;>first|(simp only[go_sem,JT,gJ]<;>rfl)|rfl) b_;simp only;have e2:pre++((aGL (i+1)).filter (okD f k)).map (eO f k)=pre++((aGL i).filter (okD f k)).map (eO f k)++[eO f k i]:=by rw[u,aHX,← aHN]; rfl
   rw[e2];exact aL.dropLast (B:=(e.o,dO N v')::B) W
 ·have j:¬ (i:Int)<(f.aEW.length:Nat):=Om;have:i=f.aEW.length:=Om;subst this;simp only[go_sem,j];exact Up.up (by (repeat' (first|exact d_|refine c_ ?_ ?_))<;>first|(simp only[go_sem,JT,gJ]<;>rfl)|rfl) (hK v H0 y)
theorem ji (f:aC) (k:Nat):(aGL (k+1)).flatMap (fD f)=(aGL k).flatMap (fD f)++fD f k:=by
 rw[aJA,aKH,List.flatMap_cons,List.flatMap_nil,aHY]
theorem RR {f:aC} (e:Small f):∀ k,((aGL k).flatMap (fD f)).length≤k*65
 | 0=>aGQ _
 | k+1=>by have j:=RR e k;have l:=Ni f k;have u:=e.aEZ;have w:=e.aEW;rw[ji,aGO];omega
theorem abN {C:Ctx} (S:mE C) {K:cG} [Up K] (f:aC) (hf:f.Ok) (hV:VF f) (room:List Int) (o n z:Nat) (N:Nat) {F:PF} {H:PH}
  (J:aL H [(o,dO N .aA),(n,fC f),(z,lC)] [(.aA,4,[])]) (hF:(gJ f room ⟨o,n,z,0,0⟩ 0).le F)
  (hK:∀ v' H',aL H' [(o,dO N v'),(n,fC f),(z,lC)] [(v',4,((aGL f.aEY.length).flatMap (fD f)).map bK.cells)]→K (.exit 0) (gJ f room ⟨o,n,z,0,0⟩ f.aEY.length) H'):aE.wp C (.loop WC) K F H:=by
 have I:=hV.small;have hr:=hV.root;have η:=I.aEZ;have θ:=I.aEW;have ι:=I.aEY;have Z:(f.aEX.length:Int)*((1:Nat):Int)≤140737488355328:=by have:=I.aEX; omega
 have β:(f.aEX.length:Int)≤9223372036854775807:=by have:=I.aEX; omega
 have γ:(0:Int)≤(f.aEX.length:Int):=Om;refine wp_loop (α:=Nat × PV × PH) (fun s=>gJ f room ⟨o,n,z,0,0⟩ s.1) (fun s=>s.2.2) (fun s=>s.1≤f.aEY.length∧aL s.2.2 [(o,dO N s.2.1),(n,fC f),(z,lC)] [(s.2.1,4,((aGL s.1).flatMap (fD f)).map bK.cells)]) (fun s=>f.aEY.length-s.1) (0,.aA,H) ⟨aGW _,by simpa using J⟩ hF b_ ?_;rintro⟨k,v,H0⟩ ⟨hk,J⟩;simp only at hk J;simp only[go_sem,WC,Qf,gJ];by_cases hlt:k<f.aEY.length
 ·have u:(k:Int)<(f.aEY.length:Nat):=Om;have δ:=wZz k;obtain⟨hp,he⟩:=mP hV hlt;have A:=hV.aFJ _ (aGP hp);have l:=(hf.aFJ _ (aGP hp)).aEX;rw[he] at A l;have l:(cL f k).aEX.length≤9223372036854775807:=by first | exact l | (have:=l; omega)
  obtain⟨b1,b2,b3,b4⟩:=nL hV hlt;have X:IntKind.i64.wrap ((cL f k).k+(cL f k).m)=((fW f k:Nat):Int):=by rw[b3]; exact wrap_i64 Om Om
  have ζ:=RR I k;simp only[go_sem,u,Qg,uV hlt];refine J.vE fun O H1 h1=>?_;have g1:=h1.nB;have h2:=h1.tA (.rows 2 [(f.aEY[k]).cells]);simp only[go_sem,g1];generalize H1.set O (.rows 2 [(f.aEY[k]).cells])=H2 at *
  have V:=h2.nB;simp only[go_sem,Qh,V,hV.QB hlt,rM hp,he];refine h2.vE fun e H3 h3=>?_;have g2:=h3.nB;have h4:=h3.tA (EO (cL f k));simp only[go_sem,g2];generalize H3.set e (.rows 17 [(cL f k).cells])=H4 at *
  simp only[go_sem,Bd,aGK,Z,β,γ,Int.le_refl,aJN];refine aQ fun j M=>?_;rw[MZ];have h5:=h4.new M (.rows 1 (bF (marks f.aEX.length [])));generalize H4.set j (.rows 1 (bF (marks f.aEX.length [])))=H5 at *
  have w:=h5.at 4 rfl;simp only[go_sem,Be,w];refine W4 f room ⟨o,n,z,e,j⟩ k (cL f k) A.2.2.2.2.2.2.2 l 5 rfl h5 (by (repeat' (first|exact d_|refine c_ ?_ ?_))<;>first|(simp only[go_sem,ST,nH,gJ]<;>rfl)|rfl) fun H6 U=>?_;have U:aL H6 [(o,dO N v),(n,fC f),(z,lC),(O,.rows 2 [(f.aEY[k]).cells]),(e,EO (cL f k)),(j,.rows 1 (bF (marks f.aEX.length (cL f k).aEX)))] [(v,4,((aGL k).flatMap (fD f)).map bK.cells)]:=U;have h7:aL H6 [(o,dO N v),(n,fC f),(e,EO (cL f k)),(j,.rows 1 (bF (marks f.aEX.length (cL f k).aEX))),(z,lC)] [(v,4,((aGL k).flatMap (fD f)).map bK.cells)]:=by refine (U.BI 3).perm ?_ (aJG.refl _);show aJG [_,_,_,_,_] _;exact .cons _ (.cons _ (((List.perm_append_comm (l₁:=[(z,lC)]) (l₂:=[(e,EO (cL f k)),(j,.rows 1 (bF (marks f.aEX.length (cL f k).aEX)))])))))
  clear U;have W:=h7.at 1 rfl;have w:=h7.at 2 rfl;have ε:¬ n=e:=h7.ne 1 2 rfl rfl (by decide);obtain⟨Hs,s6,R,E⟩:=E6 (x:=fC f) (y:=EO (cL f k)) ε;simp only[go_sem];refine bP Hs (AC f (eC [(o,dO N v)]++dC [(v,4,((aGL k).flatMap (fD f)).map bK.cells)]) (ju o N ((aGL k).flatMap (fD f)) ⟨0,2+k,fW f k⟩)) (E _ W w) ?_;simp only[go_sem,Bj,nH,gJ,W,R];refine Ak S (v:=k) Om Sq (E _ W w) ?_;simp only[go_sem,R,X];refine j8 S ⟨0,2+k,fW f k⟩ (v:=v) (B2:=[(n,fC f),(e,EO (cL f k)),(j,.rows 1 (bF (marks f.aEX.length (cL f k).aEX))),(z,lC)]) Om h7 Sq (by simp only[go_sem]; rfl) fun v1 H7 h8=>⟨E _ (h8.at 1 rfl) (h8.at 2 rfl),?_⟩;simp only[go_sem,Bk];refine abL S f hV room ⟨o,n,z,e,j⟩ N k hlt ((aGL k).flatMap (fD f)++[(⟨0,2+k,fW f k⟩:bK)]) (by rw[aGO,aGR]; omega) v1 rfl rfl h8 (by (repeat' (first|exact d_|refine c_ ?_ ?_))<;>first|(simp only[go_sem,rY,nH,gJ]<;>rfl)|rfl) fun v2 H8 h9=>?_;simp only[go_sem,Bo,nH,gJ];refine abM S f hV room ⟨o,n,z,e,j⟩ N k hlt ((aGL k).flatMap (fD f)++[(⟨0,2+k,fW f k⟩:bK)]++(aGL (f.aEZ.length-1)).map (jY f k)) (by rw[aGO,aGO,aGR,aGK,aJO]; omega) (B:=[(n,fC f),(j,.rows 1 (bF (marks f.aEX.length (cL f k).aEX))),(z,lC)]) v2 rfl rfl (h9.BI 2) (by (repeat' (first|exact d_|refine c_ ?_ ?_))<;>first|(simp only[go_sem,JT,gJ]<;>rfl)|rfl) fun v3 H9 Y=>?_;simp only[go_sem,Bt,gJ,δ];refine aH (k+1,v3,H9) ⟨hlt,?_⟩ (by simp only; omega) (by (repeat' (first|exact d_|refine c_ ?_ ?_))<;>first|(simp only[go_sem,gJ]<;>rfl)|rfl) b_;simp only;have ev:(aGL (k+1)).flatMap (fD f)=(aGL k).flatMap (fD f)++[(⟨0,2+k,fW f k⟩:bK)]++(aGL (f.aEZ.length-1)).map (jY f k)++((aGL f.aEW.length).filter (okD f k)).map (eO f k):=by rw[ji];unfold fD;simp
  rw[ev];exact Y.BI 2
 ·have u:¬ (k:Int)<(f.aEY.length:Nat):=Om;have:k=f.aEY.length:=Om;subst this;simp only[go_sem,u];exact Up.up (by (repeat' (first|exact d_|refine c_ ?_ ?_))<;>first|(simp only[go_sem,gJ]<;>rfl)|rfl) (hK v H0 J)
def EJ (f:aC) (room:List Int):cC:=if dE f=true then eD f room else ⟨0,0,0,[]⟩
def alH (f:aC):Int:=if dE f=true then 0 else 1
def YT (f:aC) (room:List Int):PV:=.tup [.agg (EJ f room).cells,.int .i64 (alH f)]
theorem SU {f:aC} (h:dE f=true) (room:List Int):EJ f room=eD f room:=if_pos h
theorem vN {f:aC} (h:dE f=true):alH f=0:=if_pos h
theorem SS {f:aC} (h:dE f=false):alH f=1:=if_neg (by rw[h]; decide)
theorem atD {f:aC} (h:dE f=false) (room:List Int):EJ f room=⟨0,0,0,[]⟩:=if_neg (by rw[h]; decide)
theorem coL {a b:PV} (h:Co a b) (x y z w:PV):Co (.tup [.agg [x,y,z,a],w]) (.tup [.agg [x,y,z,b],w]):=by
 refine .tup rfl fun j p q e hq=>?_
 match j with
 | 0 =>
  cases e; cases hq;refine .agg rfl fun j p q e hq=>?_
  match j with
  | 0=>cases e; cases hq; exact .refl _
  | 1=>cases e; cases hq; exact .refl _
  | 2=>cases e; cases hq; exact .refl _
  | 3=>cases e; cases hq; exact h
  | j+4=>cases e
 | 1=>cases e; cases hq; exact .refl _
 | j+2=>cases e
theorem Qi {H:PH} {B:List BX} {v:PV} {rows:List (List PV)} {a b c e:Int} (h:aL H B [(v,4,rows)]):oP (.tup [.agg [.int .i64 a,.int .i64 b,.int .i64 c,v],.int .i64 e]) H (cD (.tup [.agg [.int .i64 a,.int .i64 b,.int .i64 c,.sl 4 rows],.int .i64 e])):=by
 rcases h.own 0 rfl with ⟨j,rfl⟩ | ⟨q,rs,rfl,_⟩
 ·subst j;exact .done (H2:=.nil) ⟨coL (.nil 4) _ _ _ _,rfl⟩ a_
 ·obtain⟨rs,l,u,-,-,-⟩:=h.frz 0 rfl;refine .step l ?_;show oP (.tup [.agg [.int .i64 a,.int .i64 b,.int .i64 c,PV.bV q 4 rs (.osl q 4 0 rows.length)],.int .i64 e]) _ _;rw[u];exact .done (H2:=.nil) ⟨.refl _,rfl⟩ a_
theorem W5 {C:Ctx} (x:mE C) {K:cG} [Up K] (f:aC) (hV:VF f) (room:List Int) (o n z N:Nat) (pre:List bK) (y:pre.length≤900000) {F:PF} {H:PH} (v:PV)
  (j:aL H [(o,dO N v),(n,fC f),(z,lC)] [(v,4,pre.map bK.cells)])
  (J:((((((((PF.nil.set 4 (.ptr z 4 0 0)).set 6 (.ptr n 2 0 0)).set 7 (.ptr o 4 0 0)).set 8 (.fn 285 [.ptr o 4 0 0])).set 141 (.sl 1 (bY (lO f room)))).set 142 (.int .i64 (f.aEW.length:Nat))).set 143 (.int .i64 0))).le F)
  (M:∀ v' H',aL H' [(o,dO N v'),(n,fC f),(z,lC)] [(v',4,(pre++(aGL f.aEW.length).map (nJ f room)).map bK.cells)]→K (.exit 8) (((PF.nil.set 4 (.ptr z 4 0 0)).set 7 (.ptr o 4 0 0))) H'):aE.wp C (.loop WD) K F H:=by
 have A:=hV.small;have O:=A.aEW;refine wp_loop (α:=Nat × PV × PH) (fun s=>(((((((PF.nil.set 4 (.ptr z 4 0 0)).set 6 (.ptr n 2 0 0)).set 7 (.ptr o 4 0 0)).set 8 (.fn 285 [.ptr o 4 0 0])).set 141 (.sl 1 (bY (lO f room)))).set 142 (.int .i64 (f.aEW.length:Nat))).set 143 (.int .i64 (s.1:Nat)))) (fun s=>s.2.2) (fun s=>s.1≤f.aEW.length∧aL s.2.2 [(o,dO N s.2.1),(n,fC f),(z,lC)] [(s.2.1,4,(pre++(aGL s.1).map (nJ f room)).map bK.cells)]) (fun s=>f.aEW.length-s.1) (0,v,H) ⟨aGW _,by simpa using j⟩ J b_ ?_;rintro⟨i,v,B⟩ ⟨hi,j⟩;simp only at hi j;simp only[go_sem,WD,Bv];by_cases hlt:i<f.aEW.length
 ·have e:(i:Int)<(f.aEW.length:Nat):=Om;have u:=wZz i;have w:i<(lO f room).length:=by rw[xK]; exact hlt
  have l:=sI w;obtain⟨r1,r2⟩:=yV hV room hlt;rw[J5,← r2] at l;have E:=j.at 1 rfl;simp only[go_sem,e,Bw,l,Bx,E];refine aB (x.drv f A i Om) Sq ?_;simp only[go_sem];refine aaA x (nJ f room i) (by rw[aGO,aGK,aJO]; omega) j (by simp only[go_sem]; rfl) fun v' H' I=>?_;simp only[go_sem,By,u];refine aH (i+1,v',H') ⟨hlt,?_⟩ (by simp only; omega) Lq b_;simp only;rw[Ad];exact I
 ·have e:¬ (i:Int)<(f.aEW.length:Nat):=Om;have:i=f.aEW.length:=Om;subst this;simp only[go_sem,e];exact Up.up Lq (M v B j)
theorem aqP {C:Ctx} (l:mE C) (f:aC) (A:f.Ok) (room:List Int) :
  NT.wp C (aT aiA.res (cD (YT f room))) (PF.args [.agg f.cells,ints room]) .nil:=by
 simp only[go_sem,NT,P8,aiA];refine aQ fun z S=>?_;simp only[go_sem,P9];refine aB (l.valid f A) Sq ?_;have y:aL (PH.nil.set z lC) [(z,lC)] []:=aL.nil.new S lC;generalize (PH.nil.set z lC)=V at *
 have M:=y.at 0 rfl;cases j:dE f with
 | false =>simp only[go_sem,jh j,Qa,M];rw[YT,atD j,SS j];have w:=(y.set 0 rfl lC).mO 4;refine oI (vs:=[.agg [.int .i64 0,.int .i64 0,.int .i64 0,.aA],.int .i64 1]) (.inr rfl) Sq ?_;exact Qi w
 | true =>
  have hV:=VF.of j;have x:=hV.small;have B:xZ f=0:=by rw[xZ,j]; rfl
  rw[YT,SU j,vN j];simp only[go_sem,B,Qb,aGK];refine y.vE fun n H2 w=>?_;have g2:=w.at 1 rfl;have E:=w.set 1 rfl (fC f);simp only[go_sem,g2];generalize H2.set n (.rows 2 [[.int .i64 (f.aEY.length:Nat),.int .i64 (f.aEZ.length:Nat)]])=W at *
  have N:=E.at 1 rfl;simp only[go_sem,Qc,N,aGK];refine aB (l.drv f x f.aEW.length (by have:=x.aEW; omega)) Sq ?_;simp only[go_sem];refine E.vE fun o J F=>?_;have g4:=F.at 2 rfl;have h5:=F.set 2 rfl (dO (bH f f.aEW.length) .aA);simp only[go_sem,g4];generalize J.set o (.rows 4 [[.int .i64 ((bH f f.aEW.length:Nat):Int),.int .i64 0,.int .i64 1,.aA]])=K at *
  have O:aL K [(o,dO (bH f f.aEW.length) .aA),(n,fC f),(z,lC)] [(.aA,4,[])]:=by refine (h5.mO 4).perm ?_ (aJG.refl _);exact (List.reverse_perm _).symm
  simp only[go_sem,Qd,Qe];refine abN l f A hV room o n z _ O (by (repeat' (first|exact d_|refine c_ ?_ ?_))<;>first|(simp only[go_sem,gJ]<;>rfl)|rfl) fun U X h7=>?_;have u:=(l.roomM f room A).freeze;rw[TA,if_pos j] at u;simp only[go_sem,Bu,gJ];refine aB u Sq ?_;simp only[go_sem,hJ,xK];refine W5 l f hV room o n z _ ((aGL f.aEY.length).flatMap (fD f)) (by have:=RR x f.aEY.length; have:=x.aEY; omega) U h7 (by (repeat' (first|exact d_|refine c_ ?_ ?_))<;>first|(simp only[go_sem,hJ,xK]<;>rfl)|rfl) fun I Y h8=>?_;have a7:=h8.at 0 rfl;have a4:=h8.at 2 rfl;have R:=h8.set 2 rfl (dO (bH f f.aEW.length) I);simp only[go_sem,Bz,a7,a4];refine⟨_,if_pos ?_,?_⟩
  ·rcases h8.own 0 rfl with ⟨_,e⟩ | ⟨q,rs,e,_⟩<;>rw[e]
  refine oI (vs:=[.agg [.int .i64 ((bH f f.aEW.length:Nat):Int),.int .i64 0,.int .i64 1,I],.int .i64 0]) (.inr rfl) Sq ?_;exact Qi R

abbrev cJ:=Nat × Bool
def noA:bK:=⟨0,0,0⟩
def dR (n:cC) (i:Nat):bK:=n.arcs.getD i noA
def eS (n:cC) (s:cJ):Nat:=if s.2=true then (dR n s.1).dst else (dR n s.1).src
def dK (n:cC) (s:cJ):Nat:=if s.2=true then (dR n s.1).src else (dR n s.1).dst
def eF (n:cC) (xs:List Nat) (s:cJ):Nat:=if s.2=true then (dR n s.1).cap-xs.getD s.1 0 else xs.getD s.1 0
structure nY (n:cC) (xs:List Nat) (Q:List Nat) (way:Nat→cJ):Prop where
 first:∃ t,Q=n.source::t
 nd:Q.Nodup
 lt:∀ v∈Q,v<n.nodes
 way:∀ v∈Q,v≠n.source→(way v).1<n.arcs.length∧eS n (way v)=v∧0<eF n xs (way v)∧dK n (way v)∈Q∧Q.idxOf (dK n (way v))<Q.idxOf v
def GU (n:cC) (xs:List Nat) (Q:List Nat) (k:Nat):Prop:=∀ v∈Q.take k,∀ s:cJ,s.1<n.arcs.length→dK n s=v→0<eF n xs s→eS n s∈Q
theorem sA {n:cC} {i:Nat} {a:bK} (h:n.arcs[i]?=some a):dR n i=a:=by unfold dR; rw[aGU,h]; rfl
theorem amJ {n:cC} (B:fU n) {xs:List Nat} (w:gG n xs) {Q:List Nat} {way:Nat→cJ} (y:nY n xs Q way) (hD:GU n xs Q Q.length) (E:n.sink ∉ Q):jB n xs=dB (fun v=>Q.contains v) n.arcs:=by
 obtain⟨t,F⟩:=y.first;refine w.full B (by rw[F]; simp) (by simpa using E) fun i a x e u=>⟨fun j l=>?_,fun j l=>?_⟩
 ·have hi:=(aHP.1 e).1;have j:a.src∈Q:=by simpa using j
  have l:a.dst ∉ Q:=by simpa using l
  have A:=w.le i a x e u;rcases aHD x a.cap with c | c
  ·refine absurd (hD a.src (by rw[aHV]; exact j) (i,true) hi ?_ ?_) ?_
   ·unfold dK; rw[if_pos rfl,sA e]
   ·unfold eF;rw[if_pos rfl,sA e,aGU,u];simp only[aJF]; omega
   ·unfold eS;rw[if_pos rfl,sA e]; exact l
  ·omega
 ·have hi:=(aHP.1 e).1;have j:a.src ∉ Q:=by simpa using j
  have l:a.dst∈Q:=by simpa using l
  rcases aIS x with c | c
  ·exact c
  ·refine absurd (hD a.dst (by rw[aHV]; exact l) (i,false) hi ?_ ?_) ?_
   ·unfold dK; rw[if_neg (show ¬ (false=true) by decide),sA e]
   ·unfold eF;rw[if_neg (show ¬ (false=true) by decide),aGU,u];exact c
   ·unfold eS;rw[if_neg (show ¬ (false=true) by decide),sA e]; exact j
inductive uY (n:cC) (Q:List Nat) (way:Nat→cJ):Nat→List cJ→Prop
 | nil:uY n Q way n.source []
 | cons {v:Nat} {L:List cJ} (hv:v∈Q) (hne:v≠n.source) (h:uY n Q way (dK n (way v)) L):uY n Q way v (way v::L)
theorem aaO {n:cC} {xs Q:List Nat} {way:Nat→cJ} (w:nY n xs Q way):∀ (m v:Nat),Q.idxOf v=m→v∈Q→∃ L,uY n Q way v L∧L.length≤m:=by
 intro m
 induction m using Nat.strongRecOn with
 | ind m x =>
  intro v F j;by_cases e:v=n.source
  ·subst e;exact⟨[],.nil,aGW _⟩
  ·obtain⟨y,A,B,l,h5⟩:=w.way v j e;obtain⟨L,u,E⟩:=x _ Om (dK n (way v)) rfl l;exact⟨way v::L,.cons j e u,by simp; omega⟩
theorem uY.aCG {n:cC} {xs Q:List Nat} {way:Nat→cJ} (x:nY n xs Q way):∀ {v:Nat} {L:List cJ},uY n Q way v L→v∈Q→∀ s∈L,s.1<n.arcs.length∧0<eF n xs s∧Q.idxOf (dK n s)<Q.idxOf (eS n s)∧Q.idxOf (eS n s)≤Q.idxOf v:=by
 intro v L h
 induction h with
 | nil=>intro _ s hs; cases hs
 | @cons v L y e h A =>
  intro _ s hs;obtain⟨l,j,u,w,h5⟩:=x.way v y e;rcases aGV.1 hs with rfl | hs
  ·exact⟨l,u,by rw[j]; exact h5,by rw[j]; exact aGQ _⟩
  ·obtain⟨g1,g2,g3,g4⟩:=A w s hs;exact⟨g1,g2,g3,by omega⟩
theorem uY.apart {n:cC} {xs Q:List Nat} {way:Nat→cJ} (w:nY n xs Q way) {v:Nat} {s:cJ} {L:List cJ} (h:uY n Q way v (s::L)) (B:v∈Q):∀ s'∈L,s'.1≠s.1:=by
 intro s' u e;cases h with
 | cons _ l h =>
  obtain⟨E,y,F,A,h5⟩:=w.way v B l;obtain⟨g1,g2,g3,g4⟩:=h.aCG w A s' u;have x:Q.idxOf (dK n (way v))<Q.idxOf (eS n (way v)):=by rw[y]; exact h5
  unfold eS dK at x g3 g4;rw[e] at g3 g4;have I:=g4;cases hb:(way v).2<;>cases j:s'.2<;>simp only[hb,j,aJP,if_true,if_false] at x g3 g4<;>omega
def push (e:Nat) (j:List Nat) (s:cJ):List Nat:=j.set s.1 (if s.2=true then j.getD s.1 0+e else j.getD s.1 0-e)
theorem ZL (e:Nat) (j:List Nat) (s:cJ):(push e j s).length=j.length:=by unfold push; rw[aIO]
structure au (n:cC) (xs ys:List Nat) (amt v:Nat) (L:List cJ):Prop where
 len:ys.length=n.arcs.length
 le:∀ (i:Nat) a x,n.arcs[i]?=some a→ys[i]?=some x→x≤a.cap
 net:∀ w,gE n.arcs ys w=gE n.arcs xs w-(if w=n.sink then (amt:Int) else 0)+(if w=v then (amt:Int) else 0)
 same:∀ s∈L,ys.getD s.1 0=xs.getD s.1 0
theorem acW {n:cC} {xs:List Nat} (j:gG n xs) (e:Nat) (L:List cJ):au n xs xs e n.sink L:=⟨j.len,j.le,fun w=>by split<;>omega,fun _ _=>rfl⟩
theorem akI {n:cC} {xs K Q:List Nat} {way:Nat→cJ} (R:nY n xs Q way) {j v:Nat} {s:cJ} {L:List cJ} (l:au n xs K j v (s::L)) (hB:uY n Q way v (s::L)) (U:v∈Q) (E:j≤eF n xs s) :
  dK n s∈Q∧uY n Q way (dK n s) L∧au n xs (push j K s) j (dK n s) L:=by
 have M:=hB.apart R U;cases hB with
 | cons _ N hB =>
  obtain⟨O,B,W,V,h5⟩:=R.way v U N;generalize way v=s at *
  have u:n.arcs[s.1]?=some (dR n s.1):=by unfold dR; rw[aGU,aGS O]; rfl
  have I:s.1<K.length:=by rw[l.len]; exact O
  have F:K[s.1]?=some (K.getD s.1 0):=by rw[aGU,aGS I]; rfl
  have y:=l.same s (by simp);have S:=l.le _ _ _ u F;unfold eF at E;rw[← y] at E;refine⟨V,hB,by rw[ZL]; exact l.len,fun i a x hi A=>?_,fun w=>?_,fun s' J=>?_⟩
  ·unfold push at A;by_cases e:i=s.1
   ·subst e;rw[List.getElem?_set_self I] at A;rw[u] at hi;cases hi;simp only[aIU.injEq] at A;subst A;cases hb:s.2 with
    | true=>rw[hb,if_pos rfl] at E; rw[if_pos rfl]; omega
    | false=>rw[if_neg (by decide)]; omega
   ·rw[List.getElem?_set_ne (fun h=>e h.symm)] at A;exact l.le i a x hi A
  ·unfold push;rw[T9 _ u F,l.net];unfold eS at B;unfold dK;cases hb:s.2 with
   | true =>rw[hb,if_pos rfl] at E B;simp only[if_true];rw[B];split<;>split<;>split<;>split<;>omega
   | false =>rw[hb,if_neg (by decide)] at E B;simp only[aJP,if_false];rw[B];split<;>split<;>split<;>split<;>omega
  ·unfold push;have:=M s' J;rw[aGU,List.getElem?_set_ne (fun h=>this h.symm),← aGU];exact l.same s' (aJW _ J)
theorem akH {n:cC} (y:fU n) {xs l:List Nat} (x:gG n xs) {e:Nat} {L:List cJ} (j:au n xs l e n.source L):gG n l∧jB n l=jB n xs+e:=by
 refine⟨⟨j.len,j.le,fun v A u w=>?_⟩,?_⟩
 ·rw[j.net,x.node v A u w,if_neg w,if_neg u]; rfl
 ·unfold jB;rw[j.net,if_neg y.apart,if_pos rfl]; omega
abbrev gP (xs:List Nat):List (List PV):=xs.map fun x=>[PV.int .i64 ((x:Nat):Int)]
theorem AW {xs:List Nat} {i:Nat} (h:i<xs.length):(gP xs)[i]?=some [.int .i64 ((xs.getD i 0:Nat):Int)]:=by
 rw[aHF,aGS h,aGU,aGS h]; rfl
abbrev sN (n:cC) (fo m:Nat) (out:PV):bG:=.rows 6 [[.int .i64 (n.nodes:Nat),.int .i64 (n.source:Nat),.int .i64 (n.sink:Nat),jx n.arcs,.osl fo 1 0 m,out]]
abbrev sH (n:cC) (e fo:Nat) (xs:List Nat) (out:PV):PH:=(PH.nil.set e (sN n fo xs.length out)).set fo (.rows 1 (gP xs))
def stI (s:cJ):Int:=if s.2=true then (s.1:Int) else -1-(s.1:Int)
structure tM (n:cC) (xs:List Nat):Prop where
 len:xs.length=n.arcs.length
 le:∀ i,i<n.arcs.length→xs.getD i 0≤(dR n i).cap
theorem sS {n:cC} {i:Nat} (h:i<n.arcs.length):n.arcs[i]=dR n i:=(sA (aGS h)).symm
theorem vC {n:cC} {i:Nat} (h:i<n.arcs.length):(n.arcs.map bK.cells)[i]?=some (dR n i).cells:=by rw[jy h,sS h]
theorem ajZ {C:Ctx} (n:cC) (K:fU n) (w fo:Nat) (u:¬ w=fo) (xs:List Nat) (M:tM n xs) (out:PV) (s:cJ) (l:s.1<n.arcs.length) :
  yH.wp C (aT yz.res (fun r H'=>r=.tup [.int .i64 ((eS n s:Nat):Int),.int .i64 ((eF n xs s:Nat):Int)]∧H'=sH n w fo xs out)) (PF.args [.ptr w 6 0 0,.int .i64 (stI s)]) (sH n w fo xs out):=by
 have j:¬ fo=w:=fun e=>u e.symm;obtain⟨i,b⟩:=s;have l:i<n.arcs.length:=l;have A:i<xs.length:=by rw[M.len]; exact l
 have y:(i:Int)<(xs.length:Nat):=Om;have N:=M.le i l;have x:=(K.ends _ (aGP l)).2.2;rw[sS l] at x;have O:=K.num;cases b with
 | true =>
  have E:stI (i,true)=(i:Int):=rfl;have F:eS n (i,true)=(dR n i).dst:=rfl;have I:eF n xs (i,true)=(dR n i).cap-xs.getD i 0:=rfl;rw[E,F,I];have B:(i:Int)≥0:=Om;have J:IntKind.i64.wrap (((dR n i).cap:Int)-((xs.getD i 0:Nat):Int))=(((dR n i).cap-xs.getD i 0:Nat):Int):=by rw[wrap_i64 Om Om]; omega
  simp only[go_sem,yH,XR,yz,XS,B];refine bP .nil dD a_ ?_;simp only[go_sem,Gi,u,j,vC l,y,AW A,J];exact aU (vs:=[.int .i64 (((dR n i).dst:Nat):Int),.int .i64 (((dR n i).cap-xs.getD i 0:Nat):Int)]) (.inr rfl) (sH n w fo xs out) Ev (fun _ _ h=>h) ⟨rfl,rfl⟩
 | false =>
  have E:stI (i,false)=-1-(i:Int):=rfl;have F:eS n (i,false)=(dR n i).src:=rfl;have I:eF n xs (i,false)=xs.getD i 0:=rfl;rw[E,F,I];have B:¬ (-1-(i:Int))≥0:=Om;have J:IntKind.i64.wrap (-1-(-1-(i:Int)))=(i:Int):=by rw[wrap_i64 Om Om]; omega
  simp only[go_sem,yH,XR,yz,XS,B];refine bP .nil dD a_ ?_;simp only[go_sem,Gj,u,j,J,vC l,y,AW A];exact aU (vs:=[.int .i64 (((dR n i).src:Nat):Int),.int .i64 ((xs.getD i 0:Nat):Int)]) (.inr rfl) (sH n w fo xs out) Ev (fun _ _ h=>h) ⟨rfl,rfl⟩
theorem ajW {C:Ctx} (n:cC) (E:fU n) (u fo:Nat) (l:¬ u=fo) (xs:List Nat) (out:PV) (s:cJ) (w:s.1<n.arcs.length) :
  yG.wp C (aT yy.res (fun r H'=>r=.int .i64 ((dK n s:Nat):Int)∧H'=sH n u fo xs out)) (PF.args [.ptr u 6 0 0,.int .i64 (stI s)]) (sH n u fo xs out):=by
 have j:¬ fo=u:=fun e=>l e.symm;obtain⟨i,b⟩:=s;have w:i<n.arcs.length:=w;have F:=E.num;cases b with
 | true =>have y:stI (i,true)=(i:Int):=rfl;have A:dK n (i,true)=(dR n i).src:=rfl;rw[y,A];have x:(i:Int)≥0:=Om;simp only[go_sem,yG,XP,yy,XQ,x,Ge,l,j,vC w];exact aU (vs:=[.int .i64 (((dR n i).src:Nat):Int)]) (.inr rfl) (sH n u fo xs out) Ev (fun _ _ h=>h) ⟨rfl,rfl⟩
 | false =>
  have y:stI (i,false)=-1-(i:Int):=rfl;have A:dK n (i,false)=(dR n i).dst:=rfl;rw[y,A];have x:¬ (-1-(i:Int))≥0:=Om;have B:IntKind.i64.wrap (-1-(-1-(i:Int)))=(i:Int):=by rw[wrap_i64 Om Om]; omega
  simp only[go_sem,yG,XP,yy,XQ,x,Gf,l,j,B,vC w];exact aU (vs:=[.int .i64 (((dR n i).dst:Nat):Int)]) (.inr rfl) (sH n u fo xs out) Ev (fun _ _ h=>h) ⟨rfl,rfl⟩
def MB (way:Nat→cJ) (v:Nat) (s:cJ):Nat→cJ:=fun w=>if w=v then s else way w
theorem Zd {n:cC} (l:fU n) (xs:List Nat) (way:Nat→cJ):nY n xs [n.source] way:=by
 refine⟨⟨[],rfl⟩,by simp,fun v e=>?_,fun v e j=>?_⟩
 ·rw[aHU] at e;subst e;exact l.source
 ·exact absurd (aHU.1 e) j
theorem XJ {Q:List Nat} {v a:Nat} (h:v∈Q):(Q++[a]).idxOf v=Q.idxOf v:=by
 rw[List.idxOf_append,if_pos h]
theorem aeY {n:cC} (N:fU n) {xs Q:List Nat} {way:Nat→cJ} (j:nY n xs Q way) {s:cJ} (w:s.1<n.arcs.length) (l:dK n s∈Q) (x:eS n s ∉ Q) (O:0<eF n xs s) :
  nY n xs (Q++[eS n s]) (MB way (eS n s) s):=by
 obtain⟨t,K⟩:=j.first;have y:eS n s<n.nodes:=by have:=N.ends _ (aGP w);rw[show n.arcs[s.1]=dR n s.1 from (sA (aGS w)).symm] at this;unfold eS;split<;>omega
 refine⟨⟨t++[eS n s],by rw[K]; rfl⟩,?_,fun v A=>?_,fun v A u=>?_⟩
 ·rw[aJK];refine⟨j.nd,by simp,fun a M b hb=>?_⟩;rw[aHU] at hb;subst hb;rintro rfl;exact x M
 ·rcases aHQ.1 A with h | h
  ·exact j.lt v h
  ·rw[aHU] at h;subst h;exact y
 ·rcases aHQ.1 A with h | h
  ·have B:v≠eS n s:=fun e=>x (e ▸ h);obtain⟨E,I,J,F,h5⟩:=j.way v h u;unfold MB;rw[if_neg B];exact⟨E,I,J,aKA _ F,by rw[XJ F,XJ h]; exact h5⟩
  ·rw[aHU] at h;subst h;unfold MB;rw[if_pos rfl];refine⟨w,rfl,O,aKA _ l,?_⟩;rw[XJ l];have E:=List.idxOf_lt_length_of_mem l;rw[List.idxOf_append,if_neg x];omega
theorem Fu:∀ (n:Nat) (Q:List Nat),Q.Nodup→(∀ v∈Q,v<n)→Q.length≤n
 | 0,[],_,_=>aGQ _
 | 0,v::Q,_,h=>absurd (h v (by simp)) Om
 | n+1,Q,l,h=>by
  by_cases e:n∈Q
  ·have u:=Fu n (Q.erase n) (l.erase n) fun v j=>by have x:=(l.mem_erase_iff).1 j;have:=h v x.2;omega
   rw[List.length_erase_of_mem e] at u;omega
  ·have u:=Fu n Q l fun v j=>by have:=h v j;have:v≠n:=fun w=>e (w ▸ j);omega
   omega
theorem ZP {n:cC} {xs Q:List Nat} {way:Nat→cJ} (e:nY n xs Q way):Q.length≤n.nodes:=Fu _ _ e.nd e.lt
theorem abB (n:cC) (xs Q:List Nat):GU n xs Q 0:=fun v e=>by simp at e
theorem aaZ {n:cC} {xs Q:List Nat} {k:Nat} (h:GU n xs Q k) (w:k≤Q.length) (a:Nat):GU n xs (Q++[a]) k:=fun v e s j l u=>by
 rw[List.take_append_of_le_length w] at e;exact aKA _ (h v e s j l u)
theorem abA {n:cC} {xs Q:List Nat} {k v:Nat} (h:GU n xs Q k) (B:Q[k]?=some v) (j:∀ s:cJ,s.1<n.arcs.length→dK n s=v→0<eF n xs s→eS n s∈Q):GU n xs Q (k+1):=fun w y s l u x=>by
 obtain⟨A,e⟩:=aHP.1 B;rw[aIR A,e] at y;rcases aHQ.1 y with g | g
 ·exact h w g s l u x
 ·rw[aHU] at g;subst g;exact j s l u x
structure yr (n:cC) (outL:List (List Int)):Prop where
 len:outL.length=n.nodes
 all:∀ s:cJ,s.1<n.arcs.length→stI s∈outL.getD (dK n s) []
 only:∀ v c,c∈outL.getD v []→∃ s:cJ,s.1<n.arcs.length∧dK n s=v∧c=stI s
 few:∀ v,(outL.getD v []).length≤1000000
def byL (e:cJ→Int) (n:cC) (Q:List Nat) (way:Nat→cJ):List Int:=(aGL n.nodes).map fun v=>if v∈Q∧v≠n.source then e (way v) else 0
def seL (n:cC) (Q:List Nat):List Bool:=(aGL n.nodes).map fun v=>Q.contains v
theorem rX {α:Type} (g h:Nat→α) (N t:Nat) (x:α) (w:h t=x) (u:∀ v,v≠t→h v=g v):((aGL N).map g).set t x=(aGL N).map h:=by
 refine List.ext_getElem? fun i=>?_;rw[List.getElem?_set,aGK,aJO,aHF,aHF];by_cases e:t=i
 ·subst e;rw[if_pos rfl];by_cases l:t<N
  ·rw[if_pos l,aJI l,← w]; rfl
  ·rw[if_neg l,aHZ (by simpa using l)]; rfl
 ·rw[if_neg e];by_cases l:i<N
  ·rw[aJI l,aHS,aHS,u i fun j=>e j.symm]
  ·rw[aHZ (by simpa using l)]; rfl
theorem apN {j:cJ→Int} {n:cC} {Q:List Nat} {way:Nat→cJ} {t:Nat} {s:cJ} (u:n.source∈Q) (w:t ∉ Q):(byL j n Q way).set t (j s)=byL j n (Q++[t]) (MB way t s):=by
 refine rX _ _ _ _ _ ?_ fun v l=>?_
 ·have:t≠n.source:=fun e=>w (e ▸ u);rw[if_pos ⟨by simp,this⟩,MB,if_pos rfl]
 ·rw[MB,if_neg l];have:(v∈Q++[t])↔v∈Q:=by simp[l]
  simp only[this]
theorem atU (n:cC) (Q:List Nat) (t:Nat):(seL n Q).set t true=seL n (Q++[t]):=by
 refine rX _ _ _ _ _ ?_ fun v e=>?_
 ·simp
 ·simp[e]
theorem agW (e:cJ→Int) (n:cC) (way:Nat→cJ):aGM n.nodes [PV.int .i64 0]=bY (byL e n [n.source] way):=by
 refine List.ext_getElem? fun i=>?_;unfold bY byL;rw[List.getElem?_replicate,aHF,aHF];by_cases l:i<n.nodes
 ·rw[if_pos l,aJI l,aHS,aHS,if_neg (by simp)]
 ·rw[if_neg l,aHZ (by simpa using l)]; rfl
theorem amI (n:cC):(aGM n.nodes [PV.bool false]).set n.source [PV.bool true]=bF (seL n [n.source]):=by
 have w:aGM n.nodes [PV.bool false]=(aGL n.nodes).map fun _=>[PV.bool false]:=by
  refine List.ext_getElem? fun i=>?_;rw[List.getElem?_replicate,aHF];by_cases l:i<n.nodes
  ·rw[if_pos l,aJI l]; rfl
  ·rw[if_neg l,aHZ (by simpa using l)]; rfl
 have j:[n.source].contains n.source=true:=by simp
 have u:∀ v,v≠n.source→[n.source].contains v=false:=by intro v e; simp[e]
 have x:=rX (fun _=>[PV.bool false]) (fun v=>[PV.bool ([n.source].contains v)]) n.nodes n.source [PV.bool true] (by rw[j]) (fun v e=>by rw[u v e]);rw[w,x];unfold bF seL;rw[aJQ]; rfl
theorem Oy (e:cJ→Int) (n:cC) (Q:List Nat) (way:Nat→cJ):(byL e n Q way).length=n.nodes:=by simp[byL]
theorem m7 (n:cC) (Q:List Nat):(seL n Q).length=n.nodes:=by simp[seL]
theorem Va {n:cC} {Q:List Nat} {v:Nat} (h:v<n.nodes):(seL n Q).getD v false=Q.contains v:=by
 unfold seL;rw[aGU,aHF,aJI h]; rfl
structure RS where
 Q:List Nat
 k:Nat
 way:Nat→cJ
 v:PV
 q:Nat
 H:PH
 d:Nat
structure xS (n:cC) (xs:List Nat) (X:PH) (cd:cJ→Int) (b e:Nat) (a:RS):Prop where
 seen:nY n xs a.Q a.way
 done:GU n xs a.Q a.d
 dk:a.d≤a.k
 k:a.k≤a.Q.length
 base:X.le a.H
 hb:a.H b=some (.rows 1 (bY (byL cd n a.Q a.way)))
 he:a.H e=some (.rows 1 (bF (seL n a.Q)))
 hq:qL a.H 1 a.q a.v (gP (a.Q.drop a.k))
 ne:X a.q=none∧a.q≠b∧a.q≠e
theorem IN {X H:PH} {o:Nat} {y:bG} (h:X.le H) (j:X o=none):X.le (H.set o y):=fun q x hq=>by
 rw[aP,if_neg (fun e=>by subst e; rw[j] at hq; cases hq)];exact h q x hq
def aaL (n:cC) (e fo:Nat) (xs:List Nat) (out:PV) (r:PV) (H:PH):Prop :=
 ∃ Q way,nY n xs Q way∧GU n xs Q Q.length∧r=.tup [ints (byL stI n Q way),.sl 1 (bF (seL n Q))]∧H=sH n e fo xs out
theorem xS.step {n:cC} (V:fU n) {xs:List Nat} {X:PH} {F:cJ→Int} {b e:Nat} {a:RS} (h:xS n xs X F b e a) (hd:X b=none∧X e=none∧¬ b=e) {s:cJ} (hs:s.1<n.arcs.length) (hf:dK n s∈a.Q) (ht:eS n s ∉ a.Q) (hr:0<eF n xs s)
  {K:PV→PH→Prop} (hK:∀ w:RS,xS n xs X F b e w→w.Q=a.Q++[eS n s]→w.k=a.k→w.d=a.d→K w.v w.H) :
  mS ((a.H.set e (.rows 1 (bF (seL n (a.Q++[eS n s]))))).set b (.rows 1 (bY (byL F n (a.Q++[eS n s]) (MB a.way (eS n s) s))))) 1 8 a.v (.sl 1 [[.int .i64 ((eS n s:Nat):Int)]]) K:=by
 obtain⟨Y,Z,d5⟩:=hd;obtain⟨W,O,R⟩:=h.ne;have S:=aeY V h.seen hs hf ht hr;have y:=ZP S;rw[aGO,aGR] at y;have U:=V.few;have hq:qL ((a.H.set e (.rows 1 (bF (seL n (a.Q++[eS n s]))))).set b (.rows 1 (bY (byL F n (a.Q++[eS n s]) (MB a.way (eS n s) s))))) 1 a.q a.v (gP (a.Q.drop a.k)):=h.hq.ext fun x j=>by rw[aP,if_neg O,aP,if_neg R]; exact j
 refine hq.append (src:=[[.int .i64 ((eS n s:Nat):Int)]]) rfl ?_ fun E v' H' g1 g2 g3 g4=>?_
 ·unfold roomFor;rw[aGK,aIE,aGR];simp only[maxLen];omega
 have M:∀ o x,o≠a.q→a.H o=some x→o≠b→o≠e→H' o=some x:=fun o x hq N hb he=>g3 o x hq (by rw[aP,if_neg hb,aP,if_neg he]; exact N);have J:gP (a.Q.drop a.k)++[[PV.int .i64 ((eS n s:Nat):Int)]]=gP ((a.Q++[eS n s]).drop a.k):=by rw[List.drop_append_of_le_length h.k,show ∀ A B:List Nat,gP (A++B)=gP A++gP B from fun A B=>aHX]; rfl
 rw[J] at g1;have u:∀ o x,a.H o=some x→o≠a.q→E≠o:=fun o x N hq l=>by
  subst l;rcases g2 with g | g
  ·exact hq g
  ·rw[aP] at g;split at g
   ·cases g
   ·rw[aP] at g;split at g
    ·cases g
    ·rw[N] at g; cases g
 have I:X E=none:=by
  cases j:X E with
  | none=>rfl
  | some x=>exact absurd rfl (u E x (h.base _ _ j) fun l=>by rw[l,W] at j; cases j)
 refine hK ⟨a.Q++[eS n s],a.k,MB a.way (eS n s) s,v',E,H',a.d⟩ ⟨S,aaZ h.done (aJC h.dk h.k) _,h.dk,?_,fun o x j=>M o x (fun l=>by rw[l,W] at j; cases j) (h.base _ _ j) (fun l=>by rw[l,Y] at j; cases j) (fun l=>by rw[l,Z] at j; cases j),?_,?_,g1,?_⟩ rfl rfl rfl
 ·have:=h.k;show a.k≤(a.Q++[eS n s]).length;rw[aGO];omega
 ·exact g3 b _ O.symm (by rw[cM])
 ·exact g3 e _ R.symm (by rw[aP,if_neg (fun l=>d5 l.symm),cM])
 ·exact⟨I,u _ _ h.hb O.symm,u _ _ h.he R.symm⟩

def aoU (c:UInt8) (n:Nat):List UInt8:=[c,UInt8.ofNat (97+n/26%26),UInt8.ofNat (97+n%26)]
def Aq (ds:List cU) (level parent aFR:Nat):List cU:=ds++[⟨aoU 110 ds.length,(level:Nat),(parent:Nat),(aFR:Nat),kC⟩]
theorem akJ (a b:Nat) (l:a<4294967296) (hb:b<4294967296):(mkT (a:Int) (b:Int)).Ok:=by
 rw[St];have e:=aJS a (aGN a b);have j:=aJS b (aGN a b);have k1:nl (a/aGN a b)≤1:=(jM _ _).2 Om;have k2:nl (b/aGN a b)≤1:=(jM _ _).2 Om;refine⟨bE _,bE _,?_,?_⟩
 ·show (aK _).length≤_;rw[bJ]; omega
 ·show (aK _).length≤_;rw[bJ]; omega
theorem E9 {n:Nat} (h:n≤1000000):dV (n:Int):=by unfold dV; omega
def zh (ds:List cU):Prop:=∀ x∈ds,x.aFM.Ok∧dV x.level∧dV x.parent
theorem zh.dom {ds:List cU} (h:zh ds) {level parent aFR:Nat} (j:level≤1000) (l:parent≤1000):zh (Aq ds level parent aFR):=fun x e=>by
 unfold Aq at e;rw[aHQ,aHU] at e;rcases e with e | rfl
 ·exact h x e
 ·exact⟨akJ 0 1 (by decide) (by decide),E9 Om,E9 Om⟩
structure FM (f:aC):Prop where
 ok:f.Ok
 km:∀ p∈f.aFA,1≤p.k∧p.k≤2∧0≤p.m∧p.m≤2
 aEW:f.aEW.length≤9
 pols:1≤f.aFA.length∧f.aFA.length≤2
 vols:∀ x∈f.aEY,0≤x.aFJ∧x.aFJ<f.aFA.length
theorem FM.pol {f:aC} (h:FM f) {v:Nat} (j:v<f.aEY.length):xX f v<f.aFA.length∧cL f v∈f.aFA:=by
 have l:=h.vols _ (aGP j);have u:xX f v=(f.aEY[v]).aFJ.toNat:=by rw[xX,getD_at j]
 have e:xX f v<f.aFA.length:=Om;refine⟨e,?_⟩;unfold cL;rw[aGU,aGS e,aJF];exact aGP e
theorem FM.aiB {f:aC} (h:FM f) {v:Nat} (e:v<f.aEY.length):1≤fR f v∧fR f v≤4:=by
 have:=h.km _ (h.pol e).2;unfold fR;omega
abbrev azK (l:List Int) (a:Nat):bG:=.rows 2 [[ints l,.int .i64 (a:Nat)]]
section
variable {C:Ctx} {F:PF} {H Hs:PH} {l:List Int} {o a:Nat}
end
structure ME where
 o:Nat
 o4:Nat
 o5:Nat
 vols:Nat
abbrev ME.boxes (E:ME) (l:List Int) (ext e j u w wp wv:PV) (a:Nat):List BX:=[(E.o5,flB ext e j u w wp wv),(E.o,azK l a),(E.o4,flZ)]





def aBJ (ds:List cU) (i:Nat) (d:cU):Prop:=∃ lev p u:Nat,d.name=aoU 110 (i+1)∧d.level=lev∧1≤lev∧lev≤4∧d.parent=p∧p≤i∧(lvs ds)[p]?=some ((lev:Int)-1)∧d.aFR=u∧1≤u∧u≤64∧d.aFM=kC
structure DV (ds:List cU):Prop where
 root:ds[0]?=some mV
 dom:∀ i (hi:i+1<ds.length),aBJ ds i ds[i+1]
theorem DV.new {ds:List cU} (h:DV ds) {level parent up:Nat} (x:1≤level) (y:level≤4) (e:(lvs ds)[parent]?=some ((level:Int)-1)) (B:1≤up) (E:up≤64) :
  DV (Aq ds level parent up)∧(lvs (Aq ds level parent up))[ds.length]?=some (level:Int):=by
 have A:parent<ds.length:=by
  have:=(aHP.1 e).1
  rwa [aGK] at this
 unfold Aq;refine⟨⟨by rw[aIK Om]; exact h.root,fun i hi=>?_⟩,?_⟩
 ·simp only[aGO,aGR] at hi;by_cases hlt:i+1<ds.length
  ·rw[List.getElem_append_left hlt];obtain⟨lev,p,v,g1,g2,g3,g4,j,l,u,w⟩:=h.dom i hlt;exact⟨lev,p,v,g1,g2,g3,g4,j,l,zW u,w⟩
  ·have:i+1=ds.length:=Om;rw[aKL Om];simp only[List.getElem_singleton];exact⟨level,parent,up,by rw[this],rfl,x,y,rfl,by omega,zW e,rfl,B,E,rfl⟩
 ·unfold lvs;rw[aHX,aIJ (by rw[aGK]; exact aGQ _),aGK,Nat.sub_self];rfl




theorem aL.store {H:PH} {B:List BX} {L:List LI} (h:aL H B L) (i:Nat) {q s n:Nat} {rows:List (List PV)} (hi:L[i]?=some (.osl q s 0 n,s,rows)) (k:Nat) (c:List PV) :
  ∃ rs,H q=some (.rows s rs)∧n≤rs.length∧rs.take n=rows∧aL (H.set q (.rows s (rs.set k c))) B (L.set i (.osl q s 0 n,s,rows.set k c)):=by
 obtain⟨rs,u,w,j,l⟩:=(h.own i hi).id rfl;injection w with _ _ _ x
 subst x;refine⟨rs,u,j,l,h.iy i hi (.inr ⟨q,rs.set k c,by rw[aIO],by rw[cM],by rw[aIO,aIO]; exact j,by rw[aIO,List.take_set,l]⟩) (fun p e=>.inl e) fun p _ e=>?_⟩;have:p≠q:=e q rfl;rw[aP,if_neg this]

open Go Go.RowKit Go.Sort Go.Shelf Go.Proofs
section
variable {E:Env} {H:PH} {w:World}
end
section
variable {C:Ctx} {ρ:Ren} {name:Nat}
end
abbrev lists (ws:List (List Int)):PV:=.sl 1 (ws.map fun w=>[ints w])
abbrev WPs:=List (PV × List Int)
def dM (ps:WPs):List (List PV):=ps.map fun p=>[p.1]
def gX (ps:WPs):List LI:=ps.map fun p=>(p.1,1,bY p.2)
def wls (ps:WPs):List (List Int):=ps.map (·.2)
def pO (e:PV) (ps:WPs):List LI:=(e,1,dM ps)::gX ps
section
variable {H:PH} {B:List BX}
theorem PZ (ps:WPs):(dM ps).length=ps.length:=aGK _
theorem GF {ps:WPs} {i:Nat} {v:PV} {w:List Int} (hi:ps[i]?=some (v,w)):(gX ps)[i]?=some (v,1,bY w):=by
 unfold gX;rw[aHF,hi]; rfl
theorem AV {ps:WPs} {i:Nat} {v:PV} {w:List Int} (hi:ps[i]?=some (v,w)):(dM ps)[i]?=some [v]:=by
 unfold dM;rw[aHF,hi]; rfl
theorem aL.aoV (h:aL H B []):aL H B (pO .aA []):=h.mO 1
theorem aL.inner {e:PV} {ps:WPs} (h:aL H B (pO e ps)) {i:Nat} {v:PV} {w:List Int} (hi:ps[i]?=some (v,w)):bA H 1 v (bY w):=h.own (i+1) (GF hi)
theorem aL.outer {e:PV} {ps:WPs} (h:aL H B (pO e ps)):bA H 1 e (dM ps):=h.own 0 rfl
theorem OG (a b:List Int):bY (a++b)=bY a++bY b:=aHX
theorem aL.aoX {x:PV} {ps:WPs} (h:aL H B (pO x ps)) {i b:Nat} {v y:PV} {w src:List Int} {K:PV→PH→Prop} (hi:ps[i]?=some (v,w)) (I:dH H 1 y=some (bY src)) (E:roomFor w.length src.length b) (l:src≠[])
  (A:∀ q H',aL H' B ((x,1,dM ps)::(gX ps).set i (.osl q 1 0 (w++src).length,1,bY (w++src)))→K (.osl q 1 0 (w++src).length) H'):mS H 1 b v y K:=by
 have j:bY src≠[]:=fun e=>l (List.map_eq_nil_iff.1 e);refine h.append (i+1) (GF hi) I (by rw[hJ,hJ]; exact E) fun v' H' u F=>?_;obtain⟨q,rfl⟩:=F j;rw[← OG,hJ] at u ⊢;exact A q H' u
theorem aL.afA {j n i:Nat} {ps:WPs} {v':PV} {l:List Int} (h:aL H B ((.osl j 1 0 n,1,dM ps)::(gX ps).set i (v',1,bY l))) :
  ∃ rs,H j=some (.rows 1 rs)∧n≤rs.length∧rs.take n=dM ps∧aL (H.set j (.rows 1 (rs.set i [v']))) B (pO (.osl j 1 0 n) (ps.set i (v',l))):=by
 obtain⟨rs,u,w,x,y⟩:=h.store 0 rfl i [v'];refine⟨rs,u,w,x,?_⟩;have e:pO (.osl j 1 0 n) (ps.set i (v',l))=((.osl j 1 0 n,1,dM ps)::(gX ps).set i (v',1,bY l)).set 0 (.osl j 1 0 n,1,(dM ps).set i [v']):=by unfold pO dM gX;rw[List.map_set,List.map_set];rfl
 rw[e];exact y
def lE (e:List (List PV)) (ws:List (List Int)):Prop:=e.length=ws.length∧∀ (i:Nat) r w,e[i]?=some r→ws[i]?=some w→r=[ints w]∨(r=[.aA]∧w=[])
theorem lE.nil:lE [] []:=⟨rfl,fun i r w h=>by cases h⟩
theorem lE.snoc {l:List (List PV)} {ws:List (List Int)} {u:PV} {w:List Int} (h:lE l ws) (y:u=ints w∨(u=.aA∧w=[])):lE (l++[[u]]) (ws++[w]):=by
 refine⟨by simp[h.1],fun i r x e j=>?_⟩;rcases Nat.lt_trichotomy i l.length with c | c | c
 ·rw[aIK c] at e;rw[aIK (by rw[← h.1]; exact c)] at j;exact h.2 i r x e j
 ·subst c;rw[aIJ (aGQ _),Nat.sub_self] at e;rw[h.1,aIJ (aGQ _),Nat.sub_self] at j;cases e; cases j;rcases y with rfl | ⟨rfl,rfl⟩
  ·exact .inl rfl
  ·exact .inr ⟨rfl,rfl⟩
 ·rw[aIJ Om,aHZ (by simp; omega)] at e;cases e
theorem lE.flat {j:List (List PV)} {ws:List (List Int)} (h:lE j ws):Flat j:=Flat.of fun r u c e q s rs=>by
 obtain⟨i,hi⟩:=List.mem_iff_getElem?.1 u;have l:=(aHP.1 hi).1;rcases h.2 i r _ hi (aGS (by rw[← h.1]; exact l)) with rfl | ⟨rfl,-⟩
 ·rw[aHU] at e; subst e; rfl
 ·rw[aHU] at e; subst e; rfl
theorem lE.co {y:List (List PV)} {ws:List (List Int)} (h:lE y ws):Co (.sl 1 y) (lists ws):=by
 have x:∀ (i:Nat) r t,y[i]?=some r→(ws.map fun w=>[ints w])[i]?=some t→∃ w,t=[ints w]∧(r=[ints w]∨(r=[.aA]∧w=[])):=fun i r t u e=>by
  rw[aHF] at e;cases E:ws[i]? with
  | none=>rw[E] at e; cases e
  | some w =>rw[E] at e;cases e;exact⟨w,rfl,h.2 i r w u E⟩
 refine .sl (by rw[aGK,h.1]) (fun i r t u e=>?_) (fun i j p q l hq=>?_)
 ·obtain⟨w,rfl,A | ⟨A,-⟩⟩:=x i r t u e<;>subst A<;>rfl
 ·unfold at2 at l hq;cases u:y[i]? with
  | none=>rw[u] at l; cases l
  | some r =>
   cases e:(ws.map fun w=>[ints w])[i]? with
   | none=>rw[e] at hq; cases hq
   | some t =>
    rw[u] at l;rw[e] at hq;obtain⟨w,rfl,A⟩:=x i r t u e;rcases A with rfl | ⟨rfl,rfl⟩
    ·have:some p=some q:=l.symm.trans hq;cases this;exact .refl _
    ·cases j with
     | zero=>cases l; cases hq; exact .nil 1
     | succ j=>cases l
end
def Fx (u:PV):Prop:=∀ q s rs,PV.frz q s rs u=u
theorem Fx.int (k:IntKind) (n:Int):Fx (.int k n):=fun _ _ _=>rfl
theorem Fx.bool (b:Bool):Fx (.bool b):=fun _ _ _=>rfl
theorem Fx.sl (n:Nat) (r:List (List PV)):Fx (.sl n r):=fun _ _ _=>rfl
theorem Fx.aA:Fx .aA:=fun _ _ _=>rfl
theorem Fx.ptr (q z i c:Nat):Fx (.ptr q z i c):=fun _ _ _=>rfl
theorem Fx.cS (c:List PV):Fx (.cS c):=fun _ _ _=>rfl
theorem bA.bV {H:PH} {s:Nat} {v:PV} {rows:List (List PV)} (h:bA H s v rows) (q z:Nat) (rs:List (List PV)):PV.frz q z rs v=PV.bV q z rs v:=by
 rcases h with ⟨-,rfl⟩ | ⟨p,rs',rfl,-⟩<;>rfl
def FL (φ:PV→PV) (F:PF):PF:=fun i=>(F i).map φ
theorem tH (φ:PV→PV) (F:PF) (i:Nat):FL φ F i=(F i).map φ:=rfl
theorem YR:∀ (ps:WPs) {H:PH} {B:List BX} {A:PV} (y:List (List PV)) (l:List (List Int)),lE y l→aL H B ((A,1,y++dM ps)::gX ps)→(∀ b∈B,∀ q s rs,bG.frz q s rs b.2=b.2) →
  ∃ (φ:PV→PV) (E:PH),Co (φ A) (lists (l++wls ps))∧(∀ u,Fx u→φ u=u)∧(∀ e:Int,φ (.tup [A,.int .i64 e])=.tup [φ A,.int .i64 e])∧aL E B []∧(∀ F:PF,jF F H (FL φ F) E)∧∀ o,(H o=none∨A.oid=some o∨∃ p∈ps,p.1.oid=some o)→E o=none
 | [],H,B,A,y,l,J,h,hB=>by
  have M:y++dM []=y:=aHY y;have e1:l++wls []=l:=aHY l;rw[M] at h;rw[e1];rcases h.own 0 rfl with ⟨R,rfl⟩ | ⟨q,rs,rfl,_⟩
  ·refine⟨id,H,?_,fun _ _=>rfl,fun _=>rfl,h.bu 0,fun F=>?_,fun o ho=>?_⟩
   ·subst R;have:l=[]:=List.length_eq_zero_iff.1 J.1.symm;subst this;exact .nil 1
   ·have:FL id F=F:=funext fun i=>by rw[tH]; simp
    rw[this];exact .refl _ _
   ·rcases ho with ho | ho | ⟨p,hp,-⟩
    ·exact ho
    ·cases ho
    ·cases hp
  ·obtain⟨rs,X,Y,Z,z4,K⟩:=h.frz 0 rfl;refine⟨PV.frz q 1 rs,H.frz q 1 rs,?_,fun u N=>N _ _ _,fun e=>?_,?_,fun F=>.step q X (.refl _ _),fun o ho=>?_⟩
   ·rw[Z]; exact J.co
   ·show PV.tup [PV.bV q 1 rs (.osl q 1 0 y.length),.int .i64 e]=_;rw[Y,Z]
   ·have O:(B.map fun b=>(b.1,b.2.frz q 1 rs))=B:=by
     conv=>rhs; rw[← List.map_id B]
     refine aIP fun b hb=>?_;rw[hB b hb q 1 rs]; rfl
    rw[O] at K;exact K
   ·rw[zU];rcases ho with ho | ho | ⟨p,hp,-⟩
    ·rw[ho]; split<;>rfl
    ·have:q=o:=by injection ho
     rw[if_pos this.symm]
    ·cases hp
 | (v,w)::ps,H,B,A,y,l,J,h,hB=>by
  have eo:∀ u:PV,y++[[u]]++dM ps=y++[u]::dM ps:=fun u=>by rw[aHN]; rfl
  have ew:l++[w]++wls ps=l++wls ((v,w)::ps):=by rw[aHN]; rfl
  have ho:bA H 1 v (bY w):=h.own 1 rfl;rcases ho with ⟨R,rfl⟩ | ⟨q,rs,rfl,_⟩
  ·have hw:w=[]:=List.map_eq_nil_iff.1 R;have h2:=h.bu 1;obtain⟨φ,E,k1,k2,S,U,V,W⟩:=YR ps (y++[[.aA]]) (l++[w]) (J.snoc (.inr ⟨rfl,hw⟩)) (by rw[eo]; exact h2) hB;rw[ew] at k1;refine⟨φ,E,k1,k2,S,U,V,fun o ho=>W o ?_⟩;rcases ho with ho | ho | ⟨p,hp,ho⟩
   ·exact .inl ho
   ·exact .inr (.inl ho)
   ·rcases aGV.1 hp with rfl | hp
    ·cases ho
    ·exact .inr (.inr ⟨p,hp,ho⟩)
  ·obtain⟨rs,X,Y,Z,z4,K⟩:=h.frz 1 rfl;have O:(B.map fun b=>(b.1,b.2.frz q 1 rs))=B:=by
    conv=>rhs; rw[← List.map_id B]
    refine aIP fun b hb=>?_;rw[hB b hb q 1 rs]; rfl
   have y0:PV.bV q 1 rs A=A:=z4 0 _ (by decide) rfl;have I:PV.frz q 1 rs A=A:=((h.own 0 rfl).bV q 1 rs).trans y0;have yp:∀ p∈ps,PV.bV q 1 rs p.1=p.1:=fun p hp=>by obtain⟨j,hj⟩:=List.mem_iff_getElem?.1 hp;exact z4 (j+2) (p.1,1,bY p.2) Om (GF hj)
   have er:(y++dM ((.osl q 1 0 (bY w).length,w)::ps)).map (fun r=>r.map (PV.bV q 1 rs))=y++[[ints w]]++dM ps:=by
    rw[aHX,J.flat,aHN];congr 1;show [PV.bV q 1 rs (.osl q 1 0 (bY w).length)]::(dM ps).map _=_;rw[Y];have:(dM ps).map (fun r=>r.map (PV.bV q 1 rs))=dM ps:=by unfold dM;rw[aJQ];refine aIP fun p hp=>?_;show [PV.bV q 1 rs p.1]=_;rw[yp p hp]
    rw[this];rfl
   have ei:(gX ps).map (fun x=>(x.1,x.2.1,x.2.2.map fun r=>r.map (PV.bV q 1 rs)))=gX ps:=by unfold gX;rw[aJQ];refine aIP fun p _=>?_;show (p.1,1,(bY p.2).map fun r=>r.map (PV.bV q 1 rs))=_;rw[show (bY p.2).map (fun r=>r.map (PV.bV q 1 rs))=bY p.2 from Flat.map p.2 (fun x c hc q s rs=>by rw[aHU] at hc; subst hc; rfl) q 1 rs]
   have z6:aL (H.frz q 1 rs) B ((A,1,y++[[ints w]]++dM ps)::gX ps):=by rw[O] at K;have z7:aL (H.frz q 1 rs) B ((A,1,(y++dM ((.osl q 1 0 (bY w).length,w)::ps)).map (fun r=>r.map (PV.bV q 1 rs)))::(gX ps).map (fun x=>(x.1,x.2.1,x.2.2.map fun r=>r.map (PV.bV q 1 rs)))):=K;rw[er,ei] at z7;exact z7
   obtain⟨φ,E,k1,k2,S,U,V,W⟩:=YR ps (y++[[ints w]]) (l++[w]) (J.snoc (.inl rfl)) z6 hB;rw[ew] at k1;refine⟨fun u=>φ (PV.frz q 1 rs u),E,?_,fun u N=>?_,fun e=>?_,U,fun F=>.step q X ?_,fun o ho=>W o ?_⟩
   ·simp only;rw[I]; exact k1
   ·simp only;rw[N,k2 u N]
   ·simp only;rw[I];have yt:PV.frz q 1 rs (.tup [A,.int .i64 e])=.tup [PV.frz q 1 rs A,.int .i64 e]:=by rcases h.own 0 rfl with ⟨-,M⟩ | ⟨p,rs',M,-⟩<;>(subst M; rfl)
    rw[yt,I,S]
   ·have:FL (fun u=>φ (PV.frz q 1 rs u)) F=FL φ (F.frz q 1 rs):=funext fun i=>by rw[tH,tH,oF,Option.map_map];rfl
    rw[this];exact V _
   ·rw[zU];rcases ho with ho | ho | ⟨p,hp,ho⟩
    ·left; rw[ho]; split<;>rfl
    ·exact .inr (.inl ho)
    ·rcases aGV.1 hp with rfl | hp
     ·have:q=o:=by injection ho
      left; rw[if_pos this.symm]
     ·exact .inr (.inr ⟨p,hp,ho⟩)
theorem QF {res:List dW} {F:PF} {H:PH} {l:PV} {ps:WPs} {c:Int} {e:kE} (he:e=.normal∨e=.ret) (h:dW.evs F H res=some [l,.int .i64 c]) (w:aL H [] (pO l ps)):aT res (cD (.tup [lists (wls ps),.int .i64 c])) e F H:=by
 obtain⟨φ,A,k1,-,x,-,y,-⟩:=YR ps [] [] .nil w (fun b hb=>by cases hb);refine oI he h ⟨_,_,.nil,y _,a_,φ (cZ [l,.int .i64 c]),?_,?_⟩
 ·rw[tH,mR,if_pos rfl]; rfl
 ·show cD _ (φ (.tup [l,.int .i64 c])) .nil;rw[x];refine⟨.tup rfl fun j p q u hq=>?_,rfl⟩
  match j with
  | 0=>cases u; cases hq; exact k1
  | 1=>cases u; cases hq; exact .refl _
  | j+2=>cases u
theorem AK {H:PH} {o q s:Nat} {rs:List (List PV)} {x:bG} (h:H o=some x) (e:¬ o=q) (j:bG.frz q s rs x=x):(H.frz q s rs) o=some x:=by
 show (if o=q then none else (H o).map (bG.frz q s rs))=some x;rw[if_neg e,h,aHS,j]
theorem AJ {q s:Nat} {rs r:List (List PV)} (h:Flat r) (z:Nat):bG.frz q s rs (.rows z r)=.rows z r:=by
 show bG.rows z (r.map fun c=>c.map (PV.bV q s rs))=_;rw[h]
theorem abR {H H2:PH} {b e m:Nat} {j l:List (List PV)} {R:PV→PH→Prop} (hb:H b=some (.rows 1 j)) (he:H e=some (.rows 1 l)) (u:¬ e=b) (x:Flat l) (A:j.length=m) (le:l.length=m)
  (w:H2.le ((H.frz b 1 j).frz e 1 l)) (y:R (.tup [.sl 1 j,.sl 1 l]) H2):oP (.tup [.osl b 1 0 m,.osl e 1 0 m]) H R:=by
 have B:PV.frz b 1 j (.tup [.osl b 1 0 m,.osl e 1 0 m])=.tup [.sl 1 j,.osl e 1 0 m]:=by simp[PV.frz,PV.pZ,PV.bV,u,← A]
 have E:PV.frz e 1 l (.tup [.sl 1 j,.osl e 1 0 m])=.tup [.sl 1 j,.sl 1 l]:=by simp[PV.frz,PV.pZ,PV.bV,← le]
 refine .step hb ?_;rw[B];refine .step (AK he u (AJ x 1)) ?_;rw[E];exact .done y w
theorem W1 (l:List Bool):Flat (bF l):=Flat.map l fun x c e q s rs=>by
 rw[aHU] at e;subst e;rfl
abbrev jR (e:List (List PV)):PV:=.sl 1 e
theorem lE.at {j:List (List PV)} {ws:List (List Int)} (h:lE j ws) {i:Nat} (hi:i<ws.length):∃ u,j[i]?=some [u]∧(u=ints (ws.getD i [])∨(u=.aA∧ws.getD i []=[])):=by
 have l:i<j.length:=by rw[h.1]; exact hi
 have w:ws.getD i []=ws[i]:=by rw[aGU,aGS hi]; rfl
 rw[w];rcases h.2 i j[i] ws[i] (aGS l) (aGS hi) with e | ⟨e,e2⟩
 ·exact⟨_,by rw[aGS l,e],.inl rfl⟩
 ·exact⟨_,by rw[aGS l,e],.inr ⟨rfl,e2⟩⟩
theorem adA {C : Ctx} (hends : ∀ (n : cC) (so fo : Nat) (xs : List Nat) (out : PV) (s : cJ), fU n → ¬ so = fo → tM n xs → s.1 < n.arcs.length → aG C 294 [.ptr so 6 0 0, .int .i64 (stI s)] (sH n so fo xs out) (fun r H' => r = .tup [.int .i64 ((eS n s : Nat) : Int), .int .i64 ((eF n xs s : Nat) : Int)] ∧ H' = sH n so fo xs out))
    (n : cC) (hn : fU n) (so fo : Nat) (hne : ¬ so = fo) (xs : List Nat) (hx : tM n xs) (fs : List (List PV)) (outL : List (List Int)) (hSh : lE fs outL) (hO : yr n outL) :
    DT.wp C (aT Hf.res (aaL n so fo xs (jR fs))) (PF.args [.ptr so 6 0 0]) (sH n so fo xs (jR fs)) := by
  have aFW : ¬ fo = so := fun e => hne e.symm;have hfew := hn.few;have hsrc := hn.source;have hb1 : (n.nodes : Int) * ((8 : Nat) : Int) ≤ 140737488355328 := Om;have hb2 : (n.nodes : Int) ≤ 9223372036854775807 := Om;have hb3 : (n.nodes : Int) * ((1 : Nat) : Int) ≤ 140737488355328 := Om;have hs1 : (n.source : Int) < (n.nodes : Nat) := Om;simp only[go_sem,DT,rj,Hf];refine bP .nil dD a_ ?_;simp only[go_sem,rk,hne,aFW,hb1,hb2,hb3];refine aQ fun b hb => ?_;simp only[go_sem];have b1 : ¬ so = b := fun e => by rw [← e, aP, if_neg hne, cM] at hb; cases hb
  have b2 : ¬ fo = b := fun e => by rw [← e, cM] at hb; cases hb
  have b1' : ¬ b = so := fun e => b1 e.symm;have b2' : ¬ b = fo := fun e => b2 e.symm;simp only[go_sem,hne,aFW,b1,b2,hb1,hb2,hb3];refine aQ fun e he => ?_;have e1 : ¬ so = e := fun e0 => by rw [← e0, aP, if_neg b1, aP, if_neg hne, cM] at he; cases he
  have e2 : ¬ fo = e := fun e0 => by rw [← e0, aP, if_neg b2, cM] at he; cases he
  have e3 : ¬ b = e := fun e0 => by rw [← e0, cM] at he; cases he
  have e1' : ¬ e = so := fun e0 => e1 e0.symm;have e2' : ¬ e = fo := fun e0 => e2 e0.symm;have e3' : ¬ e = b := fun e0 => e3 e0.symm;have hrl : n.source < (aGM n.nodes [PV.bool false]).length := by simpa using hsrc
  simp only[go_sem,rp,hne,aFW,b1,b2,e1,e2,e3,hs1,List.getElem?_replicate,aKK,hsrc,aHE];have hsoX : (sH n so fo xs (jR fs)) so = some (sN n fo xs.length (jR fs)) := by rw [aP, if_neg hne, cM]
  have hfoX : (sH n so fo xs (jR fs)) fo = some (.rows 1 (gP xs)) := by rw [cM]
  have hXe : (sH n so fo xs (jR fs)) e = none := by rw [aP, if_neg e3'] at he; exact he
  simp only[go_sem,rt,hne,aFW,b1,b2,e1,e2,e3];refine aQ fun q hq => ?_;have q1 : ¬ so = q := fun e0 => by rw [← e0, aP, if_neg e1, aP, if_neg b1, aP, if_neg hne, cM] at hq; cases hq
  have q2 : ¬ fo = q := fun e0 => by rw [← e0, aP, if_neg e2, aP, if_neg b2, cM] at hq; cases hq
  have q3 : ¬ b = q := fun e0 => by rw [← e0, aP, if_neg e3, cM] at hq; cases hq
  have q4 : ¬ e = q := fun e0 => by rw [← e0, cM] at hq; cases hq
  have hXq : (sH n so fo xs (jR fs)) q = none := by rw [aP, if_neg (fun h => q4 h.symm), aP, if_neg (fun h => q3 h.symm)] at hq; exact hq
  simp only[go_sem];rw [agW stI n (fun _ => (0, true)), amI];refine wp_loop (α := RS) (fun a => ((((PF.nil.set 0 (.ptr so 6 0 0)).set 4 (.osl b 1 0 n.nodes)).set 5 (.osl e 1 0 n.nodes)).set 6 (a.v))) (fun a => a.H) (fun a => xS n xs (sH n so fo xs (jR fs)) stI b e a ∧ a.d = a.k) (fun a => n.nodes - a.k)
    ⟨[n.source], 0, fun _ => (0, true), .osl q 1 0 1, q, (((sH n so fo xs (jR fs)).set b (.rows 1 (bY (byL stI n [n.source] (fun _ => (0, true)))))).set e (.rows 1 (bF (seL n [n.source])))).set q (.rows 1 [[.int .i64 (n.source : Nat)]]), 0⟩
    ⟨⟨Zd hn xs _, abB n xs _, aGQ _, aGW _, IN (IN (IN (fun _ _ h => h) hb) hXe) hXq,
      by rw [aP, if_neg q3, aP, if_neg e3, cM], by rw [aP, if_neg q4, cM], ⟨[[.int .i64 (n.source : Nat)]], 0, rfl, by rw [cM], by simp, rfl⟩, hXq, fun h => q3 h.symm, fun h => q4 h.symm⟩, rfl⟩ Lq (fun _ _ h => h) ?_
  rintro a ⟨hI, hdk⟩;obtain ⟨rs, off, hv, hq1, hq2, hq3⟩ := hI.hq;rw [aGK, aIE] at hv hq2 hq3;simp only[go_sem,ft,ru,hv];by_cases hk : a.k < a.Q.length
  · have c0 : ((a.Q.length - a.k : Nat) : Int) > 0 := Om
    have hw : a.Q[a.k] < n.nodes := hI.seen.lt _ (aGP hk);have hwo : a.Q[a.k] < outL.length := by rw [hO.len]; exact hw
    have hwi : ((a.Q[a.k] : Nat) : Int) < (outL.length : Nat) := Om;have hc0 : (0 : Int) < ((a.Q.length - a.k : Nat) : Int) := c0;have hrs : rs[off]? = some [.int .i64 ((a.Q[a.k] : Nat) : Int)] := by
      have h5 : ((rs.drop off).take (a.Q.length - a.k))[0]? = (gP (a.Q.drop a.k))[0]? := by rw [hq3]
      rw [aJJ, if_pos Om, aJZ, aIC, aHF, aJZ, aIC, aGS hk] at h5;exact h5
    obtain ⟨lv, hol, hlv⟩ := hSh.at hwo;have hlen : PV.uD lv = some (.int .i64 ((outL.getD a.Q[a.k] []).length : Nat)) := by
      rcases hlv with rfl | ⟨rfl, e⟩
      · simp [PV.uD]
      · rw [e]; rfl
    simp only[go_sem,c0];refine bP .nil dD a_ ?_;simp only[go_sem,rx,(hI.base _ _ hsoX),hc0,hq1,aIC,hrs,hol,hlen];have hLf := hO.few a.Q[a.k];have hLo := hO.only a.Q[a.k];have hLa := fun s h => hO.all s h;generalize hL : outL.getD a.Q[a.k] [] = L at *
    have hkn := ZP hI.seen;refine wp_loop (α := RS × Nat) (fun c => (((((((PF.nil.set 0 (.ptr so 6 0 0)).set 4 (.osl b 1 0 n.nodes)).set 5 (.osl e 1 0 n.nodes)).set 6 (c.1.v)).set 49 (lv)).set 50 (.int .i64 (L.length : Nat))).set 51 (.int .i64 (c.2 : Nat)))) (fun c => c.1.H)
      (fun c => xS n xs (sH n so fo xs (jR fs)) stI b e c.1 ∧ c.1.d = a.k ∧ c.1.k = a.k ∧ c.1.Q[a.k]? = some a.Q[a.k] ∧ c.2 ≤ L.length ∧ ∀ s : cJ, s.1 < n.arcs.length → stI s ∈ L.take c.2 → 0 < eF n xs s → eS n s ∈ c.1.Q) (fun c => L.length - c.2) (a, 0)
      ⟨hI, hdk, rfl, aGS hk, aGW _, fun s _ h => by simp at h⟩ (by (repeat' (first|exact d_|refine c_ ?_ ?_)) <;> first|(simp only[go_sem,hv] <;> rfl)|rfl) (fun _ _ h => h) ?_
    rintro ⟨a', j⟩ ⟨hI', hd', hk', hQk, hj, aGD⟩;dsimp only at hI' hd' hk' hQk hj aGD;simp only[go_sem,fq,ry];by_cases hlt : j < L.length
    · have aFD : (j : Int) < (L.length : Nat) := Om
      obtain ⟨s, hs1, hs2, hs3⟩ := hLo L[j] (aGP hlt);have hLj : (L.map fun n => [PV.int .i64 n])[j]? = some [.int .i64 (stI s)] := by rw [aHF, aGS hlt, hs3]; rfl
      have htake : L.take (j + 1) = L.take j ++ [stI s] := by rw [aIR hlt, hs3]
      have hwQ : a.Q[a.k] ∈ a'.Q := aII hQk;have hto : eS n s < n.nodes := by have := hn.ends _ (aGP hs1);rw [sS hs1] at this;unfold eS;split <;> omega
      have hto' : ((eS n s : Nat) : Int) < (n.nodes : Nat) := Om;have hstI : ∀ s2 : cJ, stI s2 = stI s → s2 = s := fun s2 h => by
        obtain ⟨i2, b2⟩ := s2;obtain ⟨i1, b1⟩ := s;unfold stI at h;cases b1 <;> cases b2 <;> simp only [reduceIte, reduceCtorEq] at h ⊢
        · rw [show i2 = i1 by omega]
        · omega
        · omega
        · rw [show i2 = i1 by omega]
      have hlv' : lv = ints L := by
        rcases hlv with e | ⟨_, e⟩
        · exact e
        · rw [e] at hlt; exact absurd hlt (Nat.not_lt_zero _)
      subst hlv';simp only[go_sem,aFD,rz,hLj,r8];refine dU (hends n so fo xs (jR fs) s hn hne hx hs1) Ev (hI'.base) ?_;rintro r H' ⟨rfl, rfl⟩ -;rw [PH.over_self _ (hI'.base)];have hmore : ∀ Q2 : List Nat, (∀ v ∈ a'.Q, v ∈ Q2) → (0 < eF n xs s → eS n s ∈ Q2) → ∀ s2 : cJ, s2.1 < n.arcs.length → stI s2 ∈ L.take (j + 1) → 0 < eF n xs s2 → eS n s2 ∈ Q2 := fun Q2 g1 g2 s2 g3 g4 g5 => by
        rw [htake] at g4;rcases aHQ.1 g4 with g | g
        · exact g1 _ (aGD s2 g3 g g5)
        · have := hstI s2 (aHU.1 g)
          subst this;exact g2 g5
      have hjw := wZz j;by_cases hr : 0 < eF n xs s
      · have hr' : ((eF n xs s : Nat) : Int) > 0 := Om
        have hsel : eS n s < (seL n a'.Q).length := by rw [m7]; exact hto
        have hbyl : eS n s < (byL stI n a'.Q a'.way).length := by rw [Oy]; exact hto
        have hbr := mG hsel;rw [Va hto] at hbr;have hir := sI hbyl;cases hc : a'.Q.contains (eS n s) with
        | true =>rw [hc] at hbr;have hin : eS n s ∈ a'.Q := List.contains_iff_mem.1 hc;simp only[go_sem,BU,hr',hto',hI'.he,hbr,aHE,yR,hjw];exact aH (a', j + 1) ⟨hI', hd', hk', hQk, hlt, hmore _ (fun _ h => h) fun _ => hin⟩ (by dsimp only; omega) Lq (fun _ _ h => h)
        | false =>
          rw [hc] at hbr;have hnin : eS n s ∉ a'.Q := fun h => by rw [List.contains_iff_mem.2 h] at hc; cases hc
          have hsQ : n.source ∈ a'.Q := by obtain ⟨t, ht⟩ := hI'.seen.first; rw [ht]; simp
          simp only[go_sem,BU,hr',hto',hI'.he,hI'.hb,hbr,hir,aHE,e3,e3',fv,fw,pV,qA,atU,apN hsQ hnin];refine xS.step hn hI' ⟨hb, hXe, e3⟩ hs1 (by rw [hs2]; exact hwQ) hnin hr fun a2 hI2 hQ2 hk2 hd2 => ?_;simp only[go_sem,yR,hjw];have hQk2 : a2.Q[a.k]? = some a.Q[a.k] := by obtain ⟨l1, l2⟩ := aHP.1 hQk;rw [hQ2, aIK l1];exact hQk
          exact aH (a2, j + 1) ⟨hI2, hd2.trans hd', hk2.trans hk', hQk2, hlt, hmore _ (fun v h => by rw [hQ2]; exact aKA _ h) fun _ => by rw [hQ2]; simp⟩ (by dsimp only; omega) Lq (fun _ _ h => h)
      · have hr' : ¬ ((eF n xs s : Nat) : Int) > 0 := Om
        simp only[go_sem,BU,hr',yR,hjw];exact aH (a', j + 1) ⟨hI', hd', hk', hQk, hlt, hmore _ (fun _ h => h) fun h => absurd h hr⟩ (by dsimp only; omega) Lq (fun _ _ h => h)
    · have aFD : ¬ (j : Int) < (L.length : Nat) := Om
      obtain ⟨rs', off', hv', hq1', hq2', hq3'⟩ := hI'.hq;obtain ⟨l1, l2⟩ := aHP.1 hQk;rw [aGK, aIE, hk'] at hv' hq2' hq3';have hc1 : (1 : Int) ≤ ((a'.Q.length - a.k : Nat) : Int) := Om;simp only[go_sem,aFD,fx,hv',hc1,Int.le_refl];have hLt : L.take j = L := aGZ Om;have hdn : GU n xs a'.Q (a.k + 1) := abA (by rw [← hd']; exact hI'.done) hQk fun s g1 g2 g3 => by refine aGD s g1 ?_ g3;have := hLa s g1;rw [g2, hL] at this;rw [hLt];exact this
      have hfl : (gP (a'.Q.drop (a.k + 1))).length = a'.Q.length - a.k - 1 := by rw [aGK, aIE, Nat.sub_sub]
      have hsl := ZP hI'.seen;refine aH ⟨a'.Q, a.k + 1, a'.way, .osl a'.q 1 (off' + 1) (a'.Q.length - a.k - 1), a'.q, a'.H, a.k + 1⟩ ⟨⟨hI'.seen, hdn, aGQ _, by dsimp only; omega, hI'.base, hI'.hb, hI'.he, ⟨rs', off' + 1, by rw [hfl], hq1', by rw [hfl]; omega, ?_⟩, hI'.ne⟩, rfl⟩ (by dsimp only; omega) Lq (fun _ _ h => h);rw [hfl];have h7 := congrArg (List.drop 1) hq3';rw [List.drop_take, List.drop_drop] at h7;rw [h7];show List.drop 1 (List.map _ _) = _;rw [← List.map_drop, List.drop_drop]
  · have c0 : ¬ ((a.Q.length - a.k : Nat) : Int) > 0 := Om
    have hkk : a.k = a.Q.length := by have := hI.k; omega
    simp only[go_sem,c0,fy];have hfo : ∀ q, ¬ fo = q → ∀ rs, bG.frz q 1 rs (sN n fo xs.length (jR fs)) = sN n fo xs.length (jR fs) := fun q hq rs => by simp [bG.frz, PV.bV, hq]
    refine oI (vs := [.osl b 1 0 n.nodes, .osl e 1 0 n.nodes]) (.inr rfl) Ev ?_;refine abR (H2 := sH n so fo xs (jR fs)) hI.hb hI.he e3' (W1 _) (by unfold bY; rw [aGK, Oy]) (by rw [jC, m7]) ?_ ⟨a.Q, a.way, hI.seen, by rw [← hkk, ← hdk]; exact hI.done, rfl, rfl⟩;have flx : Flat (gP xs) := Flat.map xs fun x c hc q s rs => by rw [aHU] at hc;subst hc;rfl
    exact e_ (e_ a_ (AK (AK (hI.base _ _ hsoX) b1 (hfo b b2 _)) e1 (hfo e e2 _))) (AK (AK (hI.base _ _ hfoX) b2 (AJ flx 1)) e2 (AJ flx 1))
theorem aoQ {n:cC} {Q:List Nat} {way:Nat→cJ} {v:Nat} (h:v<n.nodes) (j:v∈Q) (e:v≠n.source):((byL stI n Q way).map fun x=>[PV.int .i64 x])[v]?=some [.int .i64 (stI (way v))]:=by
 unfold byL;rw[aHF,aHF,aJI h,aHS,aHS,if_pos ⟨j,e⟩]
theorem room_le {n:cC} (l:fU n) {xs:List Nat} (u:tM n xs) {s:cJ} (e:s.1<n.arcs.length):eF n xs s≤2147483647:=by
 have j:=(l.ends _ (aGP e)).2.2;rw[sS e] at j;have w:=u.le _ e;unfold eF;split<;>omega
theorem ue (xs:List Nat) (i x:Nat):(gP xs).set i [.int .i64 (x:Nat)]=gP (xs.set i x):=by
 exact (List.map_set ..).symm
theorem gG.in {n:cC} {xs:List Nat} (h:gG n xs):tM n xs:=⟨h.len,fun i hi=>by
 have e:i<xs.length:=by rw[h.len]; exact hi
 have:=h.le i n.arcs[i] xs[i] (aGS hi) (aGS e);rw[sS hi] at this;rw[aGU,aGS e];exact this⟩
def auV (n:cC) (l fo:Nat) (xs:List Nat) (out:PV) (r:PV) (H:PH):Prop :=
 ∃ (j:List Nat) (e:Nat),0<e∧gG n j∧jB n j=jB n xs+e∧r=.int .i64 (e:Nat)∧H=sH n l fo j out
theorem asB {C:Ctx} (Z:∀ (n:cC) (l fo:Nat) (xs:List Nat) (out:PV) (s:cJ),fU n→¬ l=fo→tM n xs→s.1<n.arcs.length→aG C 294 [.ptr l 6 0 0,.int .i64 (stI s)] (sH n l fo xs out) (fun r H'=>r=.tup [.int .i64 ((eS n s:Nat):Int),.int .i64 ((eF n xs s:Nat):Int)]∧H'=sH n l fo xs out))
  (y:∀ (n:cC) (l fo:Nat) (xs:List Nat) (out:PV) (s:cJ),fU n→¬ l=fo→s.1<n.arcs.length→aG C 295 [.ptr l 6 0 0,.int .i64 (stI s)] (sH n l fo xs out) (fun r H'=>r=.int .i64 ((dK n s:Nat):Int)∧H'=sH n l fo xs out))
  (n:cC) (I:fU n) (l fo:Nat) (w:¬ l=fo) (xs:List Nat) (hF:gG n xs) (out:PV) (Q:List Nat) (way:Nat→cJ) (hS:nY n xs Q way) (γ:n.sink∈Q) :
  OL.wp C (aT ajU.res (auV n l fo xs out)) (PF.args [.ptr l 6 0 0,ints (byL stI n Q way)]) (sH n l fo xs out):=by
 have A:¬ fo=l:=fun e=>w e.symm;have hx:=hF.in;obtain⟨L0,W,-⟩:=aaO hS _ n.sink rfl γ;simp only[go_sem,OL,Sd,ajU,Se,Sf,w,A];refine wp_loop (α:=Nat × List cJ × List cJ × Int) (fun c=>((((PF.nil.set 0 (.ptr l 6 0 0)).set 1 (ints (byL stI n Q way))).set 5 (.int .i64 c.2.2.2)).set 6 (.int .i64 (c.1:Nat)))) (fun _=>sH n l fo xs out)
  (fun c=>c.1∈Q∧uY n Q way c.1 c.2.1∧c.2.2.1++c.2.1=L0∧(c.2.2.1=[]→c.2.2.2=-1)∧(c.2.2.1≠[]→0<c.2.2.2∧c.2.2.2≤2147483647∧∀ s∈c.2.2.1,c.2.2.2≤eF n xs s)) (fun c=>c.2.1.length) (n.sink,L0,[],-1)
  ⟨γ,W,rfl,fun _=>rfl,fun h=>absurd rfl h⟩ Lq (fun _ _ h=>h) ?_
 rintro⟨v,L,P,z⟩ ⟨hv,hB,O,κ,δ⟩;dsimp only at hv hB O κ δ;simp only[go_sem,Sb,Sg,w,A];have σ:=hS.lt v hv;have χ:(v:Int)<(n.nodes:Nat):=Om;by_cases R:v=n.source
 ·have hL:L=[]:=by
   cases hB with
   | nil=>rfl
   | cons _ h _=>exact absurd R h
  subst hL;rw[aHY] at O;subst O;have Y:(v:Int)=n.source:=Om;have ξ:P≠[]:=by
   rintro rfl;have:=I.apart;generalize hk:n.sink=k at *
   cases W;exact this rfl
  obtain⟨z0,z1,F⟩:=δ ξ;obtain⟨j,rfl⟩:∃ j:Nat,z=j:=⟨z.toNat,by omega⟩;simp only[go_sem,cK Y,Si,w,A];refine wp_loop (α:=Nat × List cJ × List Nat) (fun c=>((((PF.nil.set 0 (.ptr l 6 0 0)).set 1 (ints (byL stI n Q way))).set 5 (.int .i64 (j:Nat))).set 9 (.int .i64 (c.1:Nat)))) (fun c=>sH n l fo c.2.2 out)
   (fun c=>c.1∈Q∧uY n Q way c.1 c.2.1∧au n xs c.2.2 j c.1 c.2.1∧∀ s∈c.2.1,j≤eF n xs s) (fun c=>c.2.1.length) (n.sink,P,xs)
   ⟨γ,W,acW hF j P,fun s M=>by have:=F s M; omega⟩ Lq (fun _ _ h=>h) ?_
  rintro⟨u,L,x⟩ ⟨hu,J,hM,E⟩;dsimp only at hu J hM E;simp only[go_sem,F9,Ga,w,A];have ρ:=hS.lt u hu;have φ:(u:Int)<(n.nodes:Nat):=Om;by_cases N:u=n.source
  ·have hL:L=[]:=by
    cases J with
    | nil=>rfl
    | cons _ h _=>exact absurd N h
   subst hL;subst N;obtain⟨k1,k2⟩:=akH I hF hM;simp only[go_sem,cK (show (n.source:Int)=n.source from rfl),Gd];exact aU (vs:=[.int .i64 (j:Nat)]) (.inr rfl) (sH n l fo x out) Ev (fun _ _ h=>h) ⟨x,j,by omega,k1,k2,rfl,rfl⟩
  ·have ε:¬ (u:Int)=n.source:=Om;have ν:=J;cases J with
   | nil=>exact absurd rfl N
   | @cons _ L _ _ J =>
   have ο:=E _ (List.mem_cons_self ..);obtain⟨g1,g2,g3⟩:=akI hS hM ν hu ο;obtain⟨s1,s2,s3,s4,s5⟩:=hS.way u hu N;have β:=hM.same _ (List.mem_cons_self ..);have B:=aoQ (way:=way) ρ hu N;generalize M:way u=s at *
   obtain⟨i,S⟩:=s;have s1:i<n.arcs.length:=s1;have ι:i<x.length:=by rw[hM.len]; exact s1
   have θ:(i:Int)<(x.length:Nat):=Om;have τ:=room_le I hx (s:=(i,S)) s1;have ψ:=hx.le i s1;have X:=(I.ends _ (aGP s1)).2.2;rw[sS s1] at X;have hk:=I.num;dsimp only at β;have η:((sH n l fo x out).set fo (.rows 1 (gP (push j x (i,S)))))=sH n l fo (push j x (i,S)) out:=by show (((PH.nil.set l (sN n fo x.length out)).set fo _).set fo _)=(PH.nil.set l (sN n fo (push j x (i,S)).length out)).set fo _;rw[PH.set_set,ZL]
   have V:((PH.nil.set l (sN n fo x.length out)).set fo (.rows 1 (gP (push j x (i,S)))))=sH n l fo (push j x (i,S)) out:=by show _=(PH.nil.set l (sN n fo (push j x (i,S)).length out)).set fo _;rw[ZL]
   have U:∀ s∈L,j≤eF n xs s:=fun s M=>E s (aJW _ M);cases S with
   | true =>
    have e0:stI (i,true)=(i:Int):=rfl;have hp:push j x (i,true)=x.set i (x.getD i 0+j):=rfl;have e2:eF n xs (i,true)=(dR n i).cap-xs.getD i 0:=rfl;have ew:IntKind.i64.wrap (((x.getD i 0:Nat):Int)+((j:Nat):Int))=((x.getD i 0+j:Nat):Int):=by rw[wrap_i64 Om Om]; omega
    simp only[go_sem,dN ε,XM,B,XN,e0,show (i:Int)≥0 by omega,Gb,w,A,θ,AW ι,ew,ue,aHE];rw[← hp]
    first | rw[η] | rw[V]
    simp only[go_sem,XO,B];refine dU (y n l fo _ out (i,true) I w s1) Ev (fun _ _ h=>h) ?_;rintro r H' ⟨rfl,rfl⟩ -;rw[PH.over_self _ (fun _ _ h=>h)];simp only[go_sem];exact aH (dK n (i,true),L,push j x (i,true)) ⟨g1,g2,g3,U⟩ (by simp) Lq (fun _ _ h=>h)
   | false =>
    have e0:stI (i,false)=-1-(i:Int):=rfl;have hp:push j x (i,false)=x.set i (x.getD i 0-j):=rfl;have e2:eF n xs (i,false)=xs.getD i 0:=rfl;have ei:IntKind.i64.wrap (-1-(-1-(i:Int)))=(i:Int):=by rw[wrap_i64 Om Om]; omega
    have ew:IntKind.i64.wrap (((x.getD i 0:Nat):Int)-((j:Nat):Int))=((x.getD i 0-j:Nat):Int):=by rw[wrap_i64 Om Om]; omega
    simp only[go_sem,dN ε,XM,B,XN,e0,show ¬ (-1-(i:Int))≥0 by omega,Gc,ei,w,A,θ,AW ι,ew,ue,aHE];rw[← hp]
    first | rw[η] | rw[V]
    simp only[go_sem,XO,B,← e0];refine dU (y n l fo _ out (i,false) I w s1) Ev (fun _ _ h=>h) ?_;rintro r H' ⟨rfl,rfl⟩ -;rw[PH.over_self _ (fun _ _ h=>h)];simp only[go_sem];exact aH (dK n (i,false),L,push j x (i,false)) ⟨g1,g2,g3,U⟩ (by simp) Lq (fun _ _ h=>h)
 ·have Y:¬ (v:Int)=n.source:=Om;cases hB with
  | nil=>exact absurd rfl R
  | @cons _ L _ _ hB =>
  obtain⟨s1,s2,s3,s4,s5⟩:=hS.way v hv R;have B:=aoQ (way:=way) σ hv R;have υ:=room_le I hx s1;simp only[go_sem,dN Y,Sh,B];refine dU (Z n l fo xs out (way v) I w hx s1) Ev (fun _ _ h=>h) ?_;rintro r H' ⟨rfl,rfl⟩ -;rw[PH.over_self _ (fun _ _ h=>h)];have K:∀ F:Int,0<F→F≤eF n xs (way v)→(∀ s∈P,F≤eF n xs s)→dK n (way v)∈Q∧uY n Q way (dK n (way v)) L∧(P++[way v])++L=L0∧(P++[way v]=[]→F=-1)∧(P++[way v]≠[]→0<F∧F≤2147483647∧∀ s∈P++[way v],F≤eF n xs s):=fun F h0 h1 h2 =>
   ⟨s4,hB,by rw[aHN]; exact O,fun h=>by simp at h,fun _=>⟨h0,by omega,fun s M=>by
    rcases aHQ.1 M with g | g
    ·exact h2 s g
    ·rw[aHU] at g; subst g; exact h1⟩⟩
  by_cases hP:P=[]
  ·have hz:=κ hP;subst hz;simp only[go_sem,SM,k7,SN,B];refine dU (y n l fo xs out (way v) I w s1) Ev (fun _ _ h=>h) ?_;rintro r H' ⟨rfl,rfl⟩ -;rw[PH.over_self _ (fun _ _ h=>h)];simp only[go_sem];exact aH (dK n (way v),L,P++[way v],((eF n xs (way v):Nat):Int)) (K ((eF n xs (way v):Nat):Int) Om (Int.le_refl _) fun s M=>by rw[hP] at M; cases M) (by simp) Lq (fun _ _ h=>h)
  ·obtain⟨z0,z1,F⟩:=δ hP;have μ:¬ z<0:=Om;by_cases ζ:((eF n xs (way v):Nat):Int)<z
   ·simp only[go_sem,SM,μ,ζ,k7,SN,B];refine dU (y n l fo xs out (way v) I w s1) Ev (fun _ _ h=>h) ?_;rintro r H' ⟨rfl,rfl⟩ -;rw[PH.over_self _ (fun _ _ h=>h)];simp only[go_sem];exact aH (dK n (way v),L,P++[way v],((eF n xs (way v):Nat):Int)) (K ((eF n xs (way v):Nat):Int) Om (Int.le_refl _) fun s M=>by have:=F s M; omega) (by simp) Lq (fun _ _ h=>h)
   ·simp only[go_sem,SM,μ,ζ,SN,B];refine dU (y n l fo xs out (way v) I w s1) Ev (fun _ _ h=>h) ?_;rintro r H' ⟨rfl,rfl⟩ -;rw[PH.over_self _ (fun _ _ h=>h)];simp only[go_sem];exact aH (dK n (way v),L,P++[way v],z) (K z z0 Om F) (by simp) Lq (fun _ _ h=>h)


theorem xS.new {n:cC} {xs:List Nat} {X:PH} {u:cJ→Int} {b e:Nat} {a:RS} (h:xS n xs X u b e a) {p:Nat} (A:a.H p=none) (y:bG):xS n xs X u b e { a with H:=a.H.set p y }:=by
 have l:∀ o x,a.H o=some x→(a.H.set p y) o=some x:=fun o x j=>by rw[aP,if_neg (fun w=>by subst w; rw[A] at j; cases j)]; exact j
 exact⟨h.seen,h.done,h.dk,h.k,fun o x j=>l o x (h.base o x j),l _ _ h.hb,l _ _ h.he,h.hq.ext fun x B=>l _ x B,h.ne⟩
theorem xS.box {n:cC} {xs:List Nat} {X:PH} {w:cJ→Int} {b e:Nat} {a:RS} (h:xS n xs X w b e a) {p:Nat} (B:a.H p=none) (y:bG):xS n xs (X.set p y) w b e { a with H:=a.H.set p y }:=by
 have u:∀ o x,a.H o=some x→(a.H.set p y) o=some x:=fun o x j=>by rw[aP,if_neg (fun l=>by subst l; rw[B] at j; cases j)]; exact j
 have hq:a.q≠p:=fun l=>by obtain⟨rs,F,_,A,_⟩:=h.hq;rw[l,B] at A; cases A
 refine⟨h.seen,h.done,h.dk,h.k,fun o x j=>?_,u _ _ h.hb,u _ _ h.he,h.hq.ext fun x E=>u _ x E,?_,h.ne.2⟩
 ·show (a.H.set p y) o=some x;rw[aP] at j ⊢;by_cases l:o=p
  ·rw[if_pos l] at j ⊢; exact j
  ·rw[if_neg l] at j ⊢; exact h.base o x j
 ·rw[aP,if_neg hq]; exact h.ne.1
def zr (n:cC) (r:PV) (H:PH):Prop :=
 ∃ xs S,gG n xs∧jB n xs=dB S n.arcs∧S n.source=true∧S n.sink=false∧r=.tup [.sl 1 (gP xs),.int .i64 (jB n xs),.sl 1 (bF ((aGL n.nodes).map S)),.int .i64 0]∧H=PH.nil
def agY (n:cC):Nat:=dB (fun v=>decide (v=n.source)) n.arcs
theorem anZ {n:cC} (j:fU n) {xs:List Nat} (h:gG n xs):jB n xs≤agY n:=h.acM j (by simp) (by simpa using fun e=>j.apart e.symm)
theorem KF (m:Nat):aGM m [PV.int .i64 0]=gP (aGM m 0):=by
 show _=List.map _ (aGM m 0);rw[List.map_replicate]; rfl
theorem YS:∀ (ps:WPs) {H:PH} {B:List BX} {J:PV} (y:List (List PV)) (l:List (List Int)),lE y l→aL H B ((J,1,y++dM ps)::gX ps)→(∀ b∈B,∀ q∈dC (gX ps),∀ s rs,bG.frz q s rs b.2=b.2) →
  ∃ (φ:PV→PV) (I:PH) (A:List (List PV)),lE A (l++wls ps)∧aL I B [(J,1,A)]∧(∀ u,Fx u→φ u=u)∧∀ F,jF F H (FL φ F) I
 | [],H,B,J,y,l,K,h,_=>⟨id,H,y,by rw[show wls []=[] from rfl,aHY]; exact K,by rw[show y++dM []=y from aHY _] at h; exact h,fun _ _=>rfl,fun F=>by
   have:FL id F=F:=funext fun i=>by rw[tH,Option.map_id]; rfl
   rw[this]; exact .refl _ _⟩
 | (v,w)::ps,H,B,J,y,l,K,h,hB=>by
  have eo:∀ u:PV,y++[[u]]++dM ps=y++[u]::dM ps:=fun u=>by rw[aHN]; rfl
  have S:l++[w]++wls ps=l++wls ((v,w)::ps):=by rw[aHN]; rfl
  have ho:bA H 1 v (bY w):=h.own 1 rfl;have E:∀ q,q∈dC (gX ps)→q∈dC (gX ((v,w)::ps)):=fun q hq=>by obtain⟨x,hx,e⟩:=List.mem_filterMap.1 hq;exact List.mem_filterMap.2 ⟨x,aJW _ hx,e⟩
  rcases ho with ⟨h1,rfl⟩ | ⟨q,rs,rfl,_⟩
  ·have hw:w=[]:=List.map_eq_nil_iff.1 h1;have h2:=h.bu 1;obtain⟨φ,I,A,k1,k2,O,R⟩:=YS ps (y++[[.aA]]) (l++[w]) (K.snoc (.inr ⟨rfl,hw⟩)) (by rw[eo]; exact h2) (fun b hb q hq=>hB b hb q (E q hq));rw[S] at k1;exact⟨φ,I,A,k1,k2,O,R⟩
  ·obtain⟨rs,z1,z2,z3,z4,W⟩:=h.frz 1 rfl;have N:q∈dC (gX ((.osl q 1 0 (bY w).length,w)::ps)):=List.mem_filterMap.2 ⟨_,List.mem_cons_self ..,rfl⟩;have Y:(B.map fun b=>(b.1,b.2.frz q 1 rs))=B:=by
    conv=>rhs; rw[← List.map_id B]
    refine aIP fun b hb=>?_;rw[hB b hb q N 1 rs]; rfl
   have yp:∀ p∈ps,PV.bV q 1 rs p.1=p.1:=fun p M=>by obtain⟨j,hj⟩:=List.mem_iff_getElem?.1 M;exact z4 (j+2) (p.1,1,bY p.2) Om (GF hj)
   have er:(y++dM ((.osl q 1 0 (bY w).length,w)::ps)).map (fun r=>r.map (PV.bV q 1 rs))=y++[[ints w]]++dM ps:=by
    rw[aHX,K.flat,aHN];congr 1;show [PV.bV q 1 rs (.osl q 1 0 (bY w).length)]::(dM ps).map _=_;rw[z2];have:(dM ps).map (fun r=>r.map (PV.bV q 1 rs))=dM ps:=by unfold dM;rw[aJQ];refine aIP fun p M=>?_;show [PV.bV q 1 rs p.1]=_;rw[yp p M]
    rw[this];rfl
   have Z:(gX ps).map (fun x=>(x.1,x.2.1,x.2.2.map fun r=>r.map (PV.bV q 1 rs)))=gX ps:=by unfold gX;rw[aJQ];refine aIP fun p _=>?_;show (p.1,1,(bY p.2).map fun r=>r.map (PV.bV q 1 rs))=_;rw[show (bY p.2).map (fun r=>r.map (PV.bV q 1 rs))=bY p.2 from Flat.map p.2 (fun x c U q s rs=>by rw[aHU] at U; subst U; rfl) q 1 rs]
   have z6:aL (H.frz q 1 rs) B ((J,1,y++[[ints w]]++dM ps)::gX ps):=by rw[Y] at W;have X:aL (H.frz q 1 rs) B ((J,1,(y++dM ((.osl q 1 0 (bY w).length,w)::ps)).map (fun r=>r.map (PV.bV q 1 rs)))::(gX ps).map (fun x=>(x.1,x.2.1,x.2.2.map fun r=>r.map (PV.bV q 1 rs)))):=W;rw[er,Z] at X;exact X
   obtain⟨φ,I,A,k1,k2,O,R⟩:=YS ps (y++[[ints w]]) (l++[w]) (K.snoc (.inl rfl)) z6 (fun b hb q hq=>hB b hb q (E q hq));rw[S] at k1;refine⟨fun u=>φ (PV.frz q 1 rs u),I,A,k1,k2,fun u V=>?_,fun F=>.step q z1 ?_⟩
   ·simp only;rw[V,O u V]
   ·have:FL (fun u=>φ (PV.frz q 1 rs u)) F=FL φ (F.frz q 1 rs):=funext fun i=>by rw[tH,tH,oF,Option.map_map];rfl
    rw[this];exact R _
theorem Or {C:Ctx} {c:aE} {K:cG} {F l:PF} {H u:PH} (B:jF F H l u) (h:aE.wp C (.loop c) K l u):aE.wp C (.loop c) K F H:=by
 obtain⟨α,x,Hs,y,m,A,w,H2,j,e⟩:=h;exact⟨α,x,Hs,y,m,A,w,H2,B.trans j,e⟩
theorem Z4 {φ:PV→PV} (j:∀ u,Fx u→φ u=u) {F:PF} {i o s:Nat} {rs:List (List PV)} {u:PV} (h:F i=some u) (e:Fx u):((FL φ F).frz o s rs) i=some u:=by
 rw[oF,tH,h,aHS,aHS,j u e,e]
theorem aL.Yq {H:PH} {B:List BX} {L:List LI} (h:aL H B L):∀ N:Nat,aL H B (L++aGM N (.aA,1,[]))
 | 0=>by rw[List.replicate_zero,aHY]; exact h
 | N+1=>by rw[List.replicate_succ',← aHN];exact (h.Yq N).mO 1
structure xR (n:cC) (T:cJ→Prop) (c:Nat) (ws:List (List Int)):Prop where
 len:ws.length=n.nodes
 all:∀ s:cJ,T s→stI s∈ws.getD (dK n s) []
 only:∀ v c,c∈ws.getD v []→∃ s:cJ,T s∧dK n s=v∧c=stI s
 few:∀ v,(ws.getD v []).length≤c
theorem xR.add {n:cC} {T:cJ→Prop} {c:Nat} {ws:List (List Int)} (h:xR n T c ws) {s0:cJ} (l:dK n s0<n.nodes) :
  xR n (fun s=>T s∨s=s0) (c+1) (ws.set (dK n s0) (ws.getD (dK n s0) []++[stI s0])):=by
 have E:dK n s0<ws.length:=by rw[h.len]; exact l
 have j:∀ v,(ws.set (dK n s0) (ws.getD (dK n s0) []++[stI s0])).getD v []=if v=dK n s0 then ws.getD v []++[stI s0] else ws.getD v []:=fun v=>by
  rw[aGU,List.getElem?_set];by_cases e:v=dK n s0
  ·subst e;rw[if_pos rfl,if_pos E,if_pos rfl]; rfl
  ·rw[if_neg (fun B=>e B.symm),if_neg e,← aGU]
 refine⟨by rw[aIO]; exact h.len,fun s l=>?_,fun v x u=>?_,fun v=>?_⟩
 ·rw[j];rcases l with l | rfl
  ·split
   ·exact aKA _ (h.all s l)
   ·exact h.all s l
  ·rw[if_pos rfl]; simp
 ·rw[j] at u;split at u
  ·rename_i e;rcases aHQ.1 u with g | g
   ·obtain⟨s,w,y,A⟩:=h.only v x g;exact⟨s,.inl w,y,A⟩
   ·rw[aHU] at g;exact⟨s0,.inr rfl,e.symm,g⟩
  ·obtain⟨s,w,y,A⟩:=h.only v x u;exact⟨s,.inl w,y,A⟩
 ·have:=h.few v;rw[j];split
  ·rw[aGO,aGR]; omega
  ·omega
theorem xR.zero (n:cC):xR n (fun s=>s.1<0) 0 (aGM n.nodes []):=by
 have:∀ v,(aGM n.nodes ([]:List Int)).getD v []=[]:=fun v=>by rw[aGU,List.getElem?_replicate];split<;>rfl
 exact⟨by simp,fun s j=>absurd j (Nat.not_lt_zero _),fun v c e=>(by rw[this] at e; cases e),fun v=>by rw[this]; exact aGQ _⟩
theorem xR.ok {n:cC} (e:fU n) {ws:List (List Int)} (h:xR n (fun s=>s.1<n.arcs.length) (2*n.arcs.length) ws):yr n ws :=
 ⟨h.len,h.all,h.only,fun v=>by have:=h.few v; have:=e.num; omega⟩
theorem nu (ps:WPs) (i:Nat) (p:PV × List Int):wls (ps.set i p)=(wls ps).set i p.2:=List.map_set ..
theorem nt {ps:WPs} {i:Nat} {p:PV × List Int} (h:ps[i]?=some p):(wls ps).getD i []=p.2:=by
 unfold wls;rw[aGU,aHF,h]; rfl
theorem apP {n:cC} (e:fU n):agY n≤2500*2147483647:=by
 have j:=j7 (fun v=>decide (v=n.source)) (M:=2147483647) (l:=n.arcs) fun a u=>(e.ends a u).2.2;exact aJC j (aHO 2147483647 e.num)
structure avA where
 k:Nat
 ps:WPs
 H:PH
abbrev aoS (n:cC) (j fo e:Nat):List BX:=[(fo,.rows 1 (gP (aGM n.arcs.length 0))),(j,sN n fo n.arcs.length (.osl e 1 0 n.nodes))]
structure axX (n:cC) (so fo oo:Nat) (a:avA):Prop where
 k:a.k≤n.arcs.length
 len:a.ps.length=n.nodes
 heap:aL a.H (aoS n so fo oo) (pO (.osl oo 1 0 n.nodes) a.ps)
 out:xR n (fun s=>s.1<a.k) (2*a.k) (wls a.ps)
theorem T8 {H:PH} {B:List BX} {u N:Nat} {ps:WPs} (h:aL H B (pO (.osl u 1 0 N) ps)) (E:ps.length=N) {i:Nat} (hi:i<N):∃ rs v w,H u=some (.rows 1 rs)∧ps[i]?=some (v,w)∧rs[i]?=some [v]:=by
 obtain⟨rs,x,y,A,j⟩:=h.outer.id rfl;rw[PZ] at y A j;have e:i<ps.length:=Om;refine⟨rs,(ps[i]).1,(ps[i]).2,x,aGS e,?_⟩;have h5:=congrArg (fun l=>l[i]?) j
 try simp only at h5
 rw[aJJ,if_pos e] at h5;rw[h5];exact AV (aGS e)
theorem adC {C:Ctx} (Y:∀ n:cC,fU n→aG C 292 [.agg n.cells] .nil (aM (.bool true)))
  (X:∀ (n:cC) (j fo:Nat) (xs:List Nat) (y:List (List PV)) (ε:List (List Int)),fU n→¬ j=fo→tM n xs→lE y ε→yr n ε→aG C 296 [.ptr j 6 0 0] (sH n j fo xs (jR y)) (aaL n j fo xs (jR y)))
  (κ:∀ (n:cC) (j fo:Nat) (xs:List Nat) (out:PV) (Q:List Nat) (way:Nat→cJ),fU n→¬ j=fo→gG n xs→nY n xs Q way→n.sink∈Q→aG C 297 [.ptr j 6 0 0,ints (byL stI n Q way)] (sH n j fo xs out) (auV n j fo xs out))
  (n:cC) (J:fU n):DU.wp C (aT Hr.res (zr n)) (PF.args [.agg n.cells]) .nil:=by
 have hm:=J.num;have j':=J.few;have μ:(n.arcs.length:Int)*((8:Nat):Int)≤140737488355328:=Om;have ν:(n.arcs.length:Int)≤9223372036854775807:=Om;have ξ:(n.nodes:Int)*((24:Nat):Int)≤140737488355328:=Om;have ο:(n.nodes:Int)≤9223372036854775807:=Om;have o':(n.sink:Int)<(n.nodes:Nat):=by have:=J.sink; omega
 simp only[go_sem,DU,r9,Hr,sa];refine aB (Y n J) Ev ?_;simp only[go_sem];refine bP .nil dD a_ ?_;simp only[go_sem,sb,aGK,μ,ν,ξ,ο];refine aQ fun fo Ω=>?_;simp only[go_sem,μ,ν,ξ,ο];refine aQ fun u τ=>?_;simp only[go_sem];refine aQ fun j A=>?_;have V:¬ j=fo:=fun e=>by
  rw[e,aP] at A;split at A
  ·cases A
  ·rw[cM] at A;cases A
 simp only[go_sem,sd,aGK];rw[KF];have h0:aL PH.nil ([]:List BX) ([]:List LI):=aL.nil;have h1:=(h0.new Ω (.rows 1 (gP (aGM n.arcs.length 0))));rw[KF] at τ;have S:=(h1.me (s:=1) (rows:=aGM n.nodes [.aA]) τ);rw[KF] at A;have h3:=(S.new A (sN n fo n.arcs.length (.osl u 1 0 n.nodes)));have h4:=h3.Yq n.nodes;have e4:([]++[((.osl u 1 0 (aGM n.nodes [PV.aA]).length:PV),1,aGM n.nodes [PV.aA])]:List LI)++aGM n.nodes (.aA,1,[])=pO (.osl u 1 0 n.nodes) (aGM n.nodes (.aA,[])):=by unfold pO dM gX;rw[List.map_replicate,List.map_replicate,aKK]; rfl
 rw[e4] at h4;refine wp_loop (α:=avA) (fun a=>(((((PF.nil.set 1 (.cS n.cells)).set 6 (.ptr j 6 0 0)).set 26 (jx n.arcs)).set 27 (.int .i64 (n.arcs.length:Nat))).set 28 (.int .i64 (a.k:Nat)))) (fun a=>a.H) (axX n j fo u) (fun a=>n.arcs.length-a.k) ⟨0,aGM n.nodes (.aA,[]),_⟩
  ⟨aGW _,aKK,h4,by
   have:wls (aGM n.nodes ((.aA,[]):PV × List Int))=aGM n.nodes []:=by unfold wls; rw[List.map_replicate]
   show xR n _ _ (wls (aGM n.nodes ((.aA,[]):PV × List Int)));rw[this];exact xR.zero n⟩ Lq (fun _ _ h=>h) ?_
 rintro⟨k,ps,H⟩ ⟨hk,ζ,hH,hO⟩;dsimp only at hk ζ hH hO;simp only[go_sem,fz,se];by_cases hlt:k<n.arcs.length
 ·have M:(k:Int)<(n.arcs.length:Nat):=Om;obtain⟨z1,z2,z3⟩:=J.ends _ (aGP hlt);rw[sS hlt] at z1 z2 z3;have Δ:(((dR n k).src:Nat):Int)<(n.nodes:Nat):=Om;have Θ:(((dR n k).dst:Nat):Int)<(n.nodes:Nat):=Om;have b':=wZz k;have c':IntKind.i64.wrap (-1-(k:Int))=-1-(k:Int):=wrap_i64 Om Om;simp only[go_sem,M,sf,vC hlt];refine aQ fun p hp=>?_;have k':H fo=some _:=hH.at 0 rfl;have O:H j=some _:=hH.at 1 rfl;have p1:¬ j=p:=fun e0=>by rw[e0,hp] at O; cases O
  have Γ:¬ p=j:=fun e0=>p1 e0.symm;have F:=hH.new hp (.rows 4 [(dR n k).cells]);obtain⟨rs,v,w,g1,g2,g3⟩:=T8 F ζ z1;have I:(wls ps).getD (dR n k).src []=w:=nt g2;have Z:=hO.few (dR n k).src;rw[I] at Z;have ω:(H.set p (.rows 4 [(dR n k).cells])) j=some _:=F.at 1 rfl;have υ:(H.set p (.rows 4 [(dR n k).cells])) p=some _:=F.at 2 rfl;have op:¬ u=p:=fun e0=>by rw[e0,υ] at g1; injection g1 with g1; injection g1 with g1; cases g1
  simp only[go_sem];refine bP ((PH.nil.set j (sN n fo n.arcs.length (.osl u 1 0 n.nodes))).set p (.rows 4 [(dR n k).cells])) dD (e_ (e_ a_ ω) υ) ?_;rw[aP,if_neg op] at g1;simp only[go_sem,sg,p1,Γ,op,O,Δ,g1,aHE,g3];refine F.aoX (src:=[(k:Int)]) g2 (by simp[dH,bY]) (by unfold roomFor; simp only[aGR,maxLen]; omega) (by simp) fun q H2 S=>?_;refine⟨e_ (e_ a_ (S.at 1 rfl)) (S.at 2 rfl),?_⟩
  try simp only[go_sem,Δ]
  refine bP .nil dD a_ ?_;obtain⟨rs2,j1,j2,j3,j4⟩:=S.afA;have W:rs2[(dR n k).src]?=some [v]:=by
   have h5:=congrArg (fun l=>l[(dR n k).src]?) j3
   try simp only at h5
   rw[aJJ,if_pos z1] at h5;rw[h5]; exact AV g2
  simp only[go_sem,sk,j1,aHE,W];refine⟨a_,?_⟩;generalize γ:ps.set (dR n k).src (.osl q 1 0 (w++[(k:Int)]).length,w++[(k:Int)])=K at *
  have β:K.length=n.nodes:=by rw[← γ,aIO]; exact ζ
  have θ:xR n (fun s=>s.1<k∨s=(k,true)) (2*k+1) (wls K):=by have:=hO.add (s0:=(k,true)) z1;rw[show dK n (k,true)=(dR n k).src from rfl,I] at this;rw[← γ,nu];exact this
  generalize H2.set u (.rows 1 (rs2.set (dR n k).src [.osl q 1 0 (w++[(k:Int)]).length]))=H3 at *
  clear j1 j2 j3 W S g1 g2 g3 I Z;obtain⟨rs,v2,w2,g1,g2,g3⟩:=T8 j4 β z2;have I:(wls K).getD (dR n k).dst []=w2:=nt g2;have Z:=θ.few (dR n k).dst;rw[I] at Z;have δ:H3 j=some _:=j4.at 1 rfl;have χ:H3 p=some _:=j4.at 2 rfl;refine bP ((PH.nil.set j (sN n fo n.arcs.length (.osl u 1 0 n.nodes))).set p (.rows 4 [(dR n k).cells])) dD (e_ (e_ a_ δ) χ) ?_;simp only[go_sem,sm,p1,Γ,op,δ,χ,Θ,g1,aHE,g3,c'];refine j4.aoX (src:=[-1-(k:Int)]) g2 (by simp[dH,bY]) (by unfold roomFor; simp only[aGR,maxLen]; omega) (by simp) fun q2 H4 h4=>?_;refine⟨e_ (e_ a_ (h4.at 1 rfl)) (h4.at 2 rfl),?_⟩
  try simp only[go_sem,Θ]
  refine bP .nil dD a_ ?_;obtain⟨rs2,i1,i2,i3,i4⟩:=h4.afA;have W:rs2[(dR n k).dst]?=some [v2]:=by
   have h5:=congrArg (fun l=>l[(dR n k).dst]?) i3
   try simp only at h5
   rw[aJJ,if_pos z2] at h5;rw[h5]; exact AV g2
  simp only[go_sem,gb,i1,aHE,W];refine⟨a_,?_⟩;simp only[go_sem,ge,b'];have U:xR n (fun s=>(s.1<k∨s=(k,true))∨s=(k,false)) (2*k+1+1) (wls (K.set (dR n k).dst (.osl q2 1 0 (w2++[-1-(k:Int)]).length,w2++[-1-(k:Int)]))):=by have:=θ.add (s0:=(k,false)) z2;rw[show dK n (k,false)=(dR n k).dst from rfl,I] at this;rw[nu];exact this
  refine aH ⟨k+1,K.set (dR n k).dst (.osl q2 1 0 (w2++[-1-(k:Int)]).length,w2++[-1-(k:Int)]),_⟩ ⟨hlt,by show (K.set _ _).length=_; rw[aIO]; exact β,aL.dropLast (B:=aoS n j fo u) i4,⟨U.len,fun s hs=>U.all s ?_,fun v c E=>?_,fun v=>by have:=U.few v; show _≤2*(k+1); omega⟩⟩ (by show n.arcs.length-(k+1)<n.arcs.length-k; omega) Lq (fun _ _ h=>h)
  ·obtain⟨i,b⟩:=s;have hs:i<k+1:=hs;rcases aHD i k with c | c
   ·exact .inl (.inl c)
   ·have:i=k:=Om;subst this;cases b
    ·exact .inr rfl
    ·exact .inl (.inr rfl)
  ·obtain⟨s,h1,S,h3⟩:=U.only v c E;refine⟨s,?_,S,h3⟩;rcases h1 with (h1 | rfl) | rfl
   ·exact Nat.lt_succ_of_lt h1
   ·exact Nat.lt_succ_self _
   ·exact Nat.lt_succ_self _
 ·have M:¬ (k:Int)<(n.arcs.length:Nat):=Om;have a':k=n.arcs.length:=Om;subst a';have Ψ:yr n (wls ps):=hO.ok J;have e':∀ q∈dC (gX ps),¬ fo=q∧¬ u=q:=fun q hq=>by refine⟨hH.ndX (o:=fo) (by simp[eC]) (by show q∈u::dC (gX ps); exact aJW _ hq),fun e=>?_⟩;have h5:(u::dC (gX ps)).Nodup:=hH.ndL;exact (List.nodup_cons.1 h5).1 (e ▸ hq)
  obtain⟨φ,H1,y,ι,F,g',hz⟩:=YS ps [] [] .nil (show aL H _ ((.osl u 1 0 n.nodes,1,[]++dM ps)::gX ps) from hH) (fun b hb q hq s rs=>by
   obtain⟨q1,q2⟩:=e' q hq;rcases aGV.1 hb with rfl | hb
   ·exact AJ (Flat.map _ fun x c E q s rs=>by rw[aHU] at E; subst E; rfl) 1
   ·rw[aHU] at hb;subst hb;simp[bG.frz,PV.bV,q1,q2])
  rw[aJX] at ι;obtain⟨rs,y1,y2,y3,y4,y5⟩:=F.frz 0 rfl;have of:¬ fo=u:=fun e=>by have:=hH.ndX (o:=fo) (q:=u) (by simp[eC]) (by simp[dC,pO,PV.oid]);exact this e
  have Ξ:bG.frz u 1 rs (.rows 1 (gP (aGM n.arcs.length 0)))=.rows 1 (gP (aGM n.arcs.length 0)):=AJ (Flat.map _ fun x c E q s rs=>by rw[aHU] at E; subst E; rfl) 1;have Φ:bG.frz u 1 rs (sN n fo n.arcs.length (.osl u 1 0 n.nodes))=sN n fo n.arcs.length (jR y):=by show bG.rows 6 [[_,_,_,_,PV.bV u 1 rs (.osl fo 1 0 n.arcs.length),PV.bV u 1 rs (.osl u 1 0 n.nodes)]]=_;rw[y2];simp[PV.bV,of]
  have h':(H1.frz u 1 rs) fo=some (.rows 1 (gP (aGM n.arcs.length 0))):=by have:=y5.at 0 rfl; rw[Ξ] at this; exact this
  have i':(H1.frz u 1 rs) j=some (sN n fo n.arcs.length (jR y)):=by have:=y5.at 1 rfl; rw[Φ] at this; exact this
  simp only[go_sem,M,gf];refine Or ((hz _).trans (.step u y1 (.refl _ _))) ?_;refine wp_loop (α:=List Nat) (fun xs=>(((PF.nil.set 1 (.cS n.cells)).set 6 (.ptr j 6 0 0)).set 9 (.int .i64 (jB n xs)))) (fun xs=>sH n j fo xs (jR y)) (fun xs=>gG n xs∧0≤jB n xs) (fun xs=>(agY n-jB n xs).toNat) (aGM n.arcs.length 0) ⟨(NR n).1,by rw[(NR n).2]; decide⟩
   (c_ (c_ (c_ d_ (Z4 g' Sq (Fx.cS _))) (Z4 g' Sq (Fx.ptr _ _ _ _))) (Z4 g' (by simp only[go_sem,(NR n).2]) (Fx.int _ _))) (e_ (e_ a_ (by rw[aKK]; exact i')) h') ?_
  rintro xs ⟨hF,p'⟩;have hx:=hF.in;have q':=hF.len;simp only[go_sem,ga,gg];refine dU (X n j fo xs y (wls ps) J V hx ι Ψ) Ev (fun _ _ h=>h) ?_;rintro r H' ⟨Q,way,hS,hD,rfl,rfl⟩ -;rw[PH.over_self _ (fun _ _ h=>h)];have N:=mG (R:=seL n Q) (i:=n.sink) (by rw[m7]; exact J.sink);rw[Va J.sink] at N;have ρ:¬ fo=j:=fun e=>V e.symm;cases E:Q.contains n.sink with
  | false =>
   rw[E] at N;simp only[go_sem,JR,N,gh,V,ρ];have σ:n.sink ∉ Q:=fun h=>by rw[List.contains_iff_mem.2 h] at E; cases E
   refine oI (vs:=[.osl fo 1 0 xs.length,.int .i64 (jB n xs),.sl 1 (bF (seL n Q)),.int .i64 0]) (.inr rfl) Ev ?_;refine oP.step (q:=fo) (s:=1) (rs:=gP xs) (by rw[cM]) ?_;have ev:PV.frz fo 1 (gP xs) (cZ [.osl fo 1 0 xs.length,.int .i64 (jB n xs),.sl 1 (bF (seL n Q)),.int .i64 0])=.tup [.sl 1 (gP xs),.int .i64 (jB n xs),.sl 1 (bF (seL n Q)),.int .i64 0]:=by have hT:(gP xs).take xs.length=gP xs:=aGZ (by rw[aGK]; exact aGQ _);simp[cZ,PV.frz,PV.pZ,PV.bV,hT]
   rw[ev];refine oP.done (H2:=.nil) ⟨xs,fun v=>Q.contains v,hF,amJ J hF hS hD σ,?_,E,rfl,rfl⟩ a_;obtain⟨t,ht⟩:=hS.first;rw[ht]; simp
  | true =>
   rw[E] at N;have ψ:n.sink∈Q:=List.contains_iff_mem.1 E;simp only[go_sem,JR,N,gi];refine dU (κ n j fo xs (jR y) Q way J V hF hS ψ) Ev (fun _ _ h=>h) ?_;rintro r H' ⟨ys,Λ,ha,η,hv,rfl,rfl⟩ l';have d':(sH n j fo xs (jR y)).over (sH n j fo xs (jR y)) (sH n j fo ys (jR y))=sH n j fo ys (jR y):=PH.ext fun o=>by
    show (match (sH n j fo ys (jR y)) o with | some x=>some x | none=>match (sH n j fo xs (jR y)) o with | some _=>some .dead | none=>(sH n j fo xs (jR y)) o)=(sH n j fo ys (jR y)) o;have e1:∀ (zs:List Nat),¬ o=fo→¬ o=j→(sH n j fo zs (jR y)) o=none:=fun zs h1 S=>by rw[aP,if_neg h1,aP,if_neg S]; rfl
    by_cases c1:o=fo
    ·subst c1; rw[cM]
    ·by_cases c2:o=j
     ·subst c2; rw[aP,if_neg c1,cM]
     ·rw[e1 ys c1 c2,e1 xs c1 c2]
   rw[d'];have m':=anZ J η;have n':=apP J;have f':IntKind.i64.wrap (jB n xs+((Λ:Nat):Int))=jB n ys:=by rw[wrap_i64 Om Om,hv]
   simp only[go_sem,f'];exact aH ys ⟨η,by omega⟩ Om Lq (fun _ _ h=>h)
def oG (f:aC) (l:List bK) (xs:List Nat) (k:Nat):List (List Int):=(aGL f.aEY.length).map fun v=>kA f v (l.take k) (xs.take k)
theorem ajL (f:aC) (l:List bK) (xs:List Nat) (k:Nat):(oG f l xs k).length=f.aEY.length:=by simp[oG]
theorem acJ (f:aC) (l:List bK) (xs:List Nat):oG f l xs 0=aGM f.aEY.length []:=by
 refine aJV (by simp[oG]) fun i e j=>?_;simp[oG,kA]
theorem ajK {f:aC} {l:List bK} {xs:List Nat} (h:xs.length=l.length):oG f l xs l.length=ky f l xs:=by
 unfold oG ky;rw[aHV,aGZ Om]
theorem KL (f:aC) (v:Nat) {l:List bK} {xs:List Nat} (u:xs.length=l.length) {k:Nat} (j:k<l.length):kA f v (l.take (k+1)) (xs.take (k+1))=kA f v (l.take k) (xs.take k)++uN f v l[k] (xs.getD k 0):=by
 have e:k<xs.length:=Om;rw[aIR j,aIR e,qG f v _ _ (by rw[aGY,aGY,u])];rw[show xs.getD k 0=xs[k] by simp[aGU,e]];simp[kA]
theorem acI {f:aC} {l:List bK} {xs:List Nat} (j:xs.length=l.length) {k:Nat} (e:k<l.length) (h:l[k].dst<bH f 0∨xs.getD k 0=0):oG f l xs (k+1)=oG f l xs k:=by
 unfold oG;refine aIP fun v _=>?_;rw[KL f v j e];have:uN f v l[k] (xs.getD k 0)=[]:=by
  unfold uN QC;rcases h with h | h
  ·rw[decide_eq_false Om]; rfl
  ·rw[h]; simp
 rw[this,aHY]
theorem ajM {f:aC} {l:List bK} {xs:List Nat} (u:xs.length=l.length) {k:Nat} (j:k<l.length) (w:bH f 0≤l[k].dst) (x:xs.getD k 0≠0) (B:zG f l[k]<f.aEY.length) :
  (oG f l xs k).set (zG f l[k]) ((oG f l xs k).getD (zG f l[k]) []++[((l[k].dst-bH f 0:Nat):Int)])=oG f l xs (k+1):=by
 have y:(oG f l xs k).getD (zG f l[k]) []=kA f (zG f l[k]) (l.take k) (xs.take k):=by unfold oG;rw[aGU,aHF,aJI B]; rfl
 rw[y];unfold oG;refine rX _ _ _ _ _ ?_ fun v A=>?_
 ·rw[KL f _ u j];unfold uN QC;rw[decide_eq_true w,decide_eq_true x,decide_eq_true rfl]; rfl
 ·rw[KL f _ u j];unfold uN QC;rw[decide_eq_false (show ¬ zG f l[k]=v from fun e=>A e.symm),aID,aID];simp
theorem apI {f:aC} (hV:VF f) {room:List Int} {a:bK} (ha:a∈fQ f room) (h:bH f 0≤a.dst):∃ v d,v<f.aEY.length∧d<f.aEW.length∧a=eO f v d:=by
 unfold fQ at ha;rcases aHQ.1 ha with ha | ha
 ·obtain⟨v,e,ha⟩:=List.mem_flatMap.1 ha;have e:=aHG.1 e;unfold fD at ha;rcases aGV.1 ha with rfl | ha
  ·have:=(iH hV e hV.root.1).2;simp only[cO,if_true] at this;simp only at h;omega
  ·rcases aHQ.1 ha with ha | ha
   ·obtain⟨i,hi,rfl⟩:=aHJ.1 ha;have:=aHG.1 hi;have:=(iH (i:=i+1) hV e Om).2;simp only[jY] at h;omega
   ·obtain⟨d,j,rfl⟩:=aHJ.1 ha;exact⟨v,d,e,aHG.1 (aJY.1 j).1,rfl⟩
 ·obtain⟨d,j,rfl⟩:=aHJ.1 ha;simp only[nJ,bH] at h;omega
theorem Fw {f:aC} (hV:VF f) {d:Nat} (u:d<f.aEW.length):0<dL f d∧dL f d<f.aEZ.length:=by
 have j:=hV.drive d u;refine⟨?_,j.2.2.2.1⟩;rcases aIS (dL f d) with e | e
 ·have l:=j.2.2.2.2;rw[e,hV.root.2.1] at l;omega
 ·exact e
theorem auB {f:aC} (hV:VF f) {v d:Nat} (e:d<f.aEW.length):2+f.aEY.length≤(eO f v d).src:=by
 have:=Fw hV e;simp only[eO,cO];rw[if_neg Om];omega
end Go.PM
