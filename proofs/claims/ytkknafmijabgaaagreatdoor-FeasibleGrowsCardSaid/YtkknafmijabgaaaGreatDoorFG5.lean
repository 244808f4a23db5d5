/-
  Texts of ours, joined. No condition.
-/
import Derived.Test.YtkknafmijabgaaaGreatDoorFG1
import Derived.Test.YtkknafmijabgaaaGreatDoorFG2
import Derived.Test.YtkknafmijabgaaaGreatDoorFG3
import Derived.Test.YtkknafmijabgaaaGreatDoorFG4
import Derived.Test.YtkknafmijabgaaaGreatDoorRows
import Derived.Test.YtkknafmijabgaaaGreatDoorProg
import Derived.KernelRfl
import Derived.ProofKit
import Derived.WalkKit
import Derived.LaidMore
import Derived.OpenShut
import Derived.Stop.Joined
import Derived.Shelf.Sort.Plain
import Derived.Shelf.Slices.CompactI
import Derived.Shelf.Slices.In.SortNone
set_option linter.unusedSimpArgs false
set_option linter.unusedVariables false
open Nat renaming reduceEqDiff → γ, reduceAdd → δ, reduceSub → ε, reduceMul → ζ, reduceLT → η, reduceLeDiff → θ, reduceBEq → τ
open Int renaming reduceLT → ι, reduceLE → κ, reduceEq → μ, reduceToNat → ν, reduceAdd → ξ, reduceNeg → ο, reduceBEq → ρ, reduceBNe → σ
open List renaming reduceReplicate → υ
open List renaming length_map → aAA, range → aAB, replicate → aAC, length_append → aAE, getElem_mem → aAG, getElem?_eq_getElem → aAH, length_singleton → aAI, mem_cons → aAK, getD_eq_getElem?_getD → aAL, length_take → aAN, take_of_length_le → aAQ, getElem?_map → aAT, mem_range → aAU, mem_map → aAW, not_mem_nil → aAY, getElem?_eq_some_iff → aBD, append_assoc → aBE, map_cons → aBG, mem_append → aBH, all_eq_true → aBK, mem_singleton → aBL, drop_zero → aBM, getElem?_eq_none → aBN, map_append → aBO, length_drop → aBR, take_length → aBT, append_nil → aBU, length_cons → aBV, length_set → aBW, getElem?_append_right → aBY, getElem_of_mem → aBZ, mem_of_getElem? → aCA, getElem?_append_left → aCB, map_congr_left → aCC, Sublist → aCG, length_nil → aCL, take_succ_eq_append_getElem → aCM, Perm → aCO, map_nil → aCP, range_succ → aCS, getElem?_range → aCV, getElem_map → aCW, getElem?_take → aCY, nodup_append → aCZ, take_append_drop → aDA, length_range → aDD, map_map → aDE, map_set → aDL, mem_cons_of_mem → aDM, nil_append → aDN, getElem?_drop → aDO, mem_filter → aDP, mem_append_left → aDR, set_cons_zero → aDX, sublist_append_left → aDY, length_replicate → aEA
open Nat renaming gcd → aAD, le_refl → aAF, mul_add → aAM, zero_le → aAP, lt_or_ge → aAV, zero_add → aAX, mul_comm → aBA, mul_le_mul_right → aBC, add_zero → aBP, min_eq_left → aCF, eq_zero_or_pos → aCH, succ_mul → aCN, add_assoc → aCQ, pos_of_ne_zero → aCT, le_trans → aCX, div_eq_of_lt → aDG, div_le_self → aDH, mul_le_mul → aDJ
open Option renaming map_some → aBJ, some → aCI, getD_some → aCU
open Bool renaming and_eq_true → aAO, false_and → aAR, not_true → aAS, true_and → aBB, not_false → aBF, and_false → aBS, and_true → aCJ, false_eq_true → aDF
open Int renaming toNat_natCast → aDK
namespace Go.Proofs.YtkknafmijabgaaaGreatDoor
open Go Go.PM Go.RowKit Go.ChangeShapes Go.WideShapes
def apT:List Nat:=[22,78,48,30,26,52,23,51,0,0,0,0,0,0,0,0,0,0,0,0,0,0,0,0,0,0,0,10,21,49,155,163,141,114,113,81,158,157,103,144,167,143,166,171,165,164,139,50,172,108,53,104,105,102,68,101,67,156,80,82,140,106,98,154,138,137,107,36,66,71,65,99,70,64,69,100,63,39,0,0,118,0,57,29,87,40,0,56,145,117,86,0,0,0,0,60,31,89,129,90,131,134,94,130,58,88,95,132,96,133,62,59,61,122,93,92,119,91,125,124,123,127,128,97,153,136,135,147,120,126,150,149,121,152,148,151,170,168,146,181,178,169,180,179,0,0,0,0,0,0,28,0,25,0,55,0,115,85,84,116,83,54,142,112,175,161,162,176,173,160,159,0,0,0,0,0,0,0,0,0,0,0,0,0,0,0,0,0,0,0,0,0,0,0,0,79,0,0,0,0,0,0,0,0,0,0,0,0,0,0,0,0,0,0,0,0,0,0,0,0,0,0,0,0,0,0,0,0,0,0,0,0,0,0,0,0,0,0,0,0,0,0,0,0,0,0,0,0,0,0,0,0,0,0,0,0,0,0,0,0,0,0,0,0,0,0,0,0,0,0,0,0,0,0,0,0,0,0,0,0,0,0,34,35,32,33,12,42,15,17,19,109,72,46,110,111,73,74,41,75,77,47,76,43,38,37,44,13,45,16,18,20,11,14,24,27,3,4,5,6,7,8,9]
def amG:List (Option Nat):=[none,none,none,some 316,some 317,some 318,some 319,some 320,some 321,some 322,some 27,some 312,some 286,some 307,some 313,some 288,some 309,some 289,some 310,some 290,some 311,some 28,some 0,some 6,some 314,some 152,some 4,some 315,some 150,some 83,some 3,some 96,some 284,some 285,some 282,some 283,some 67,some 305,some 304,some 77,some 85,some 298,some 287,some 303,some 306,some 308,some 293,some 301,some 2,some 29,some 47,some 7,some 5,some 50,some 161,some 154,some 87,some 82,some 104,some 111,some 95,some 112,some 110,some 76,some 73,some 70,some 68,some 56,some 54,some 74,some 72,some 69,some 292,some 296,some 297,some 299,some 302,some 300,some 1,some 195,some 58,some 35,some 59,some 160,some 158,some 157,some 90,some 84,some 105,some 97,some 99,some 117,some 115,some 114,some 102,some 106,some 108,some 123,some 62,some 71,some 75,some 55,some 53,some 38,some 51,some 52,some 61,some 66,some 49,some 291,some 294,some 295,some 163,some 34,some 33,some 156,some 159,some 89,some 80,some 116,some 128,some 132,some 113,some 120,some 119,some 118,some 129,some 121,some 122,some 98,some 103,some 100,some 107,some 109,some 101,some 126,some 125,some 65,some 64,some 46,some 60,some 32,some 162,some 41,some 39,some 88,some 138,some 127,some 134,some 131,some 130,some 135,some 133,some 124,some 63,some 30,some 57,some 37,some 36,some 170,some 169,some 165,some 166,some 31,some 45,some 44,some 42,some 40,some 137,some 141,some 136,some 43,some 48,some 168,none,some 164,some 167,none,some 140,some 143,some 142,some 139]
def num (n:Nat):FuncId:=apT.getD n 0
def nameOf (f:FuncId):Option Nat:=amG.getD f none
noncomputable def C:Ctx:=⟨Tryz.prog,num⟩
noncomputable def T (ro:List Nat):Tbl:={ P:=Tryz.prog,num:=num,name:=nameOf,ro:=ro }
theorem bW (T:Tbl) {k:Nat} {fn:Func} {e:bB} (w:C.P.funcs[C.num k]?=some fn) (l:C.P=T.P:=by rfl) (j:C.num=T.num:=by rfl) (y:(fn.name=="runtime.NumGoroutine")=false:=by kernel_rfl) (u:T.func fn=some e:=by kernel_rfl):bR C k e:=fun _ _ _ x h=>Wy l j w y u x h
theorem Tryz.own:ownKnob Tryz.prog.godebug=none:=by kernel_rfl
theorem Tryz.laidOut:laidOutB Tryz.prog=true:=by kernel_rfl
theorem itoa:wO C:=fun n x=>by
 refine⟨⟨Tryz.f79,Tryz.func79,by kernel_rfl,by kernel_rfl⟩,fun E w vs y hW j=>?_⟩;obtain⟨A⟩:=vs;cases j with
 | cons l u =>
 cases u;cases l;refine (Any.strconv_Itoa_small Tryz.alO n x w).mono fun e B he=>?_;obtain⟨rfl,rfl⟩:=he;exact⟨_,.str (bU n),E,.nil,rfl,hW,.str ⟨(Lib.decDigits n).toArray⟩,.refl _ _ _,rfl,rfl⟩
theorem kq {pv:PV} (h:PV.Ty (.sl [.int .u8]) pv):∃ l:List Nat,pv=.sl 1 (fQ l)∧(∀ x∈l,x<256)∧l.length≤9223372036854775807:=by
 obtain⟨xs,rfl,B,j⟩:=Ty.adJ h;refine⟨xs.map Int.toNat,?_,?_,?_⟩
 ·unfold Tz fQ;rw[aDE];congr 1;refine aCC fun x u=>?_;have:=(j x u).1;simp only[Function.comp];rw[Int.toNat_of_nonneg this]
 ·intro y w;obtain⟨x,e,rfl⟩:=aAW.1 w;have:=(j x e).2;have A:=(j x e).1;have e:IntKind.u8.max=255:=by decide
  rw[e] at this;omega
 ·rw[aAA];have:maxLen≤9223372036854775807:=by decide
  omega
theorem aqJ {pv:PV} (h:PV.Ty (.int .u8) pv):∃ n:Nat,pv=.int .u8 n∧n<256:=by
 obtain⟨m,rfl,j⟩:=Ty.iw h;have e:=j.1;have l:=j.2;have u:IntKind.u8.max=255:=by decide
 have w:IntKind.u8.min=0:=by decide
 rw[u] at l;rw[w] at e;exact⟨m.toNat,by rw[Int.toNat_of_nonneg e],by omega⟩
end Go.Proofs.YtkknafmijabgaaaGreatDoor
namespace Go.PM
open Go Go.Na
theorem YJ {f:aC} (h:VF f) {d:Nat} (e:d<f.ayM.length) {lev:Int} (j:0≤lev) (l:lev≤4):jX f d lev<f.ayP.length∧lvl f (jX f d lev)=lev:=by
 unfold jX;obtain⟨a,b⟩:=fe h e (k:=4-lev.toNat) Om;refine⟨a,?_⟩;rw[b]; omega
theorem m6 {f:aC} (h:VF f) {i:Nat} (hi:i<f.ayP.length):0≤lvl f i∧lvl f i≤4:=by
 rcases aCH i with e | e
 ·rw[e,h.root.2.1]; omega
 ·have:=h.dom i e hi; omega


theorem Oi (a b:Nat):mkT (a:Int) (b:Int)=⟨false,aJ (a/aAD a b),aJ (b/aAD a b)⟩:=by
 have e:decide ((a:Int)<0)=false:=decide_eq_false Om;have j:decide ((b:Int)<0)=false:=decide_eq_false Om;unfold mkT uH FV.rf;rw[e,j,Int.natAbs_natCast,Int.natAbs_natCast];rfl
structure SmF (x:RF) (p q:Nat):Prop where
 eq:x=⟨false,aJ (p/aAD p q),aJ (q/aAD p q)⟩
 a:p≤64
 b:q≤64
 pos:0<q
theorem SmF.mk' {a b:Nat} (e:a≤64) (hb:b≤64) (h:0<b):SmF (mkT (a:Int) (b:Int)) a b:=⟨Oi a b,e,hb,h⟩
theorem SmF.num {x:RF} {a b:Nat} (h:SmF x a b):val x.num=a/aAD a b:=by rw[h.eq,aY]
theorem SmF.den {x:RF} {a b:Nat} (h:SmF x a b):val x.den=b/aAD a b:=by rw[h.eq,aY]
theorem SmF.v {x:RF} {a b:Nat} (h:SmF x a b):x.v=(false,a/aAD a b,b/aAD a b):=by
 unfold RF.v;rw[h.num,h.den,h.eq]
theorem SmF.Fm {x:RF} {a b:Nat} (_:SmF x a b):a/aAD a b≤a:=aDH ..
theorem SmF.v7 {x:RF} {a b:Nat} (_:SmF x a b):b/aAD a b≤b:=aDH ..
theorem SmF.den_pos {x:RF} {a b:Nat} (h:SmF x a b):0<b/aAD a b:=Nat.div_pos (Nat.le_of_dvd h.pos (Nat.gcd_dvd_right a b)) (Nat.gcd_pos_of_pos_right a h.pos)
theorem yF {n:Nat} (h:n≤4096):cN n≤32:=(mL n 32).2 Om
theorem Ji {n:Nat} (h:0<n):0<cN n:=by
 rcases aCH (cN n) with e | e
 ·rw[kD] at e; omega
 ·exact e
theorem tR {a b:Nat} (j:a≤4096) (hb:b≤4096) (h:0<b):dW a b=true:=by
 have l:=yF j;have u:=yF hb;have e:=Ji h;unfold dW;rw[decide_eq_true e,decide_eq_true (Om:cN b≤4096),decide_eq_true (Om:cN a≤4096)];rfl
theorem N0 {n:Bool} {a b:Nat} (e:a≤4096) (hb:b≤4096):kZ n a b=.ok (n&&decide (a/aAD a b≠0),a/aAD a b,b/aAD a b):=by
 have j:=yF (aCX (aDH a (aAD a b)) e);have l:=yF (aCX (aDH b (aAD a b)) hb);unfold kZ;rw[if_neg Om]
theorem SmF.lim {x:RF} {a b:Nat} (h:SmF x a b):fJ x=true:=by
 have w:=h.Fm;have y:=h.v7;have e:=h.den_pos;have:=h.a;have:=h.b;have j:x.neg=false:=by rw[h.eq]
 unfold fJ uN;rw[h.num,h.den,j,tR Om Om e,if_pos rfl,N0 Om Om];have l:=aDH (a/aAD a b) (aAD (a/aAD a b) (b/aAD a b));have u:=aDH (b/aAD a b) (aAD (a/aAD a b) (b/aAD a b));simp only[aAR,aBF,aBB,aAO,decide_eq_true_eq];exact⟨yF Om,yF Om⟩
theorem SmF.uX {x:RF} {a b:Nat} (h:SmF x a b) (e:0<a):bS x=true:=by
 unfold bS;rw[h.num];exact decide_eq_true (Nat.ne_of_gt (Nat.div_pos (Nat.le_of_dvd e (Nat.gcd_dvd_left a b)) (Nat.gcd_pos_of_pos_right a h.pos)))
theorem SmF.zero {x:RF} {b:Nat} (h:SmF x 0 b):bS x=false:=by
 unfold bS;rw[h.num,Nat.zero_div];rfl
theorem SmF.one {x:RF} {a b:Nat} (h:SmF x a b) (e:a≤b):WY x=true:=by
 have u:=h.Fm;have w:=h.v7;have j:=h.den_pos;have:=h.a;have:=h.b;have l:x.neg=false:=by rw[h.eq]
 unfold WY;rw[h.num,h.den,l,tR Om Om j];have:a/aAD a b≤b/aAD a b:=Nat.div_le_div_right e;show (true&&decide (eN (a/aAD a b*1) (1*(b/aAD a b))≤0))=true;rw[Nat.mul_one,Nat.one_mul,aBB];refine decide_eq_true ?_;unfold eN;split
 ·decide
 ·split
  ·omega
  ·decide
theorem SmF.ok {x:RF} {a b:Nat} (h:SmF x a b):x.Ok:=by
 have e:=h.Fm;have j:=h.v7;have:=h.a;have:=h.b;have k1:nl (a/aAD a b)≤1:=(jF _ _).2 Om;have k2:nl (b/aAD a b)≤1:=(jF _ _).2 Om;rw[h.eq];refine⟨bA _,bA _,?_,?_⟩
 ·show (aJ _).length≤_;rw[bH]; omega
 ·show (aJ _).length≤_;rw[bH]; omega
theorem ajR:∀ c:Fin 9,∀ k:Fin 9,c.val+k.val≤8 →
  (c.val/aAD c.val 8*(8/aAD k.val 8)+k.val/aAD k.val 8*(8/aAD c.val 8))/aAD (c.val/aAD c.val 8*(8/aAD k.val 8)+k.val/aAD k.val 8*(8/aAD c.val 8)) (8/aAD c.val 8*(8/aAD k.val 8))=(c.val+k.val)/aAD (c.val+k.val) 8 ∧
  8/aAD c.val 8*(8/aAD k.val 8)/aAD (c.val/aAD c.val 8*(8/aAD k.val 8)+k.val/aAD k.val 8*(8/aAD c.val 8)) (8/aAD c.val 8*(8/aAD k.val 8))=8/aAD (c.val+k.val) 8:=by decide +kernel
abbrev eV (c:Nat):FV:=(false,c/aAD c 8,8/aAD c 8)
theorem QZ (c:Nat):0<8/aAD c 8:=Nat.div_pos (Nat.le_of_dvd (by decide) (Nat.gcd_dvd_right c 8)) (Nat.gcd_pos_of_pos_right c (by decide))
theorem vj {c k:Nat} (h:c+k≤8):kN (eV c) (eV k)=.ok (eV (c+k)):=by
 obtain⟨e,j⟩:=ajR ⟨c,by omega⟩ ⟨k,by omega⟩ h;simp only at e j;have a1:=aDH c (aAD c 8);have a2:=aDH k (aAD k 8);have a3:=aDH 8 (aAD c 8);have a4:=aDH 8 (aAD k 8);have l:=QZ c;have u:=QZ k;simp only[kN];rw[tR Om Om l,tR Om Om u,Bool.and_self,if_pos rfl,if_pos trivial];have w:c/aAD c 8*(8/aAD k 8)≤8*8:=aDJ Om a4;have x:k/aAD k 8*(8/aAD c 8)≤8*8:=aDJ Om a3;have y:8/aAD c 8*(8/aAD k 8)≤8*8:=aDJ a3 a4;rw[N0 Om Om,e,j];rfl
theorem OB:∀ (l:List Nat) (c:Nat),c+l.sum≤8→(l.map eV).foldlM kN (eV c)=.ok (eV (c+l.sum))
 | [],c,_=>rfl
 | k::l,c,h=>by rw[List.sum_cons] at h;rw[aBG,List.foldlM_cons,vj Om,List.sum_cons,← aCQ];exact OB l (c+k) Om
theorem ajQ:eV 0=(false,0,1):=by decide +kernel
theorem abO:eV 8=(false,1,1):=by decide +kernel
theorem anQ (l:List Nat) (h:l.sum=8):(match qM (l.map eV) with
  | .ok (n,a,b)=>decide (wT n a b false 1 1=0)
  | .error _=>false)=true:=by
 unfold qM;rw[← ajQ,OB l 0 Om,aAX,h,abO];rfl
def dig (k:Nat):List UInt8:=if k<10 then [UInt8.ofNat (48+k)] else [UInt8.ofNat (48+k/10),UInt8.ofNat (48+k%10)]
def QS:List UInt8→Nat
 | [a]=>a.toNat-48
 | [a,b]=>(a.toNat-48)*10+(b.toNat-48)
 | _=>0
theorem LX {k:Nat} (h:k<100):bU k=dig k:=by
 unfold bU dig;by_cases e:k<10
 ·rw[if_pos e]; exact Lib.decDigits_one e
 ·rw[if_neg e]; exact Lib.decDigits_two e h
theorem wa:∀ k:Fin 100,QS (dig k.val)=k.val∧(dig k.val).length≤2∧((dig k.val).all fun c=>jA c.toNat)=true:=by decide +kernel
theorem jf {p:List UInt8} {c:UInt8} {t:List UInt8} (e:p=c::t) (l:jB c.toNat=true) (x:(t.all fun c=>jA c.toNat)=true) (y:p.length≤8) {k:Nat} (u:k<100):isName (p++bU k)=true:=by
 obtain⟨-,w,j⟩:=wa ⟨k,u⟩;simp only at w j;subst e;rw[LX u];show (decide ((c::t++dig k).length≤16)&&jB c.toNat&&(c::t++dig k).all fun c=>jA c.toNat)=true;have hi:jA c.toNat=true:=by unfold jA; rw[l]; rfl
 rw[decide_eq_true (by rw[aAE]; omega),l,List.all_append,j,List.all_cons,x,hi];rfl
theorem QY {l:List (List UInt8)} (u:∀ x∈l,isName x=true) (w:l.Nodup):distinct l=true:=by
 unfold distinct;rw[aBK];intro i hi;rw[aAU] at hi;have e:l.getD i []=l[i]:=by simp[aAL,hi]
 rw[e,u _ (aAG hi),aBB];have:¬ l[i]∈l.take i:=by intro A;obtain⟨j,y,e⟩:=aBZ A;rw[aAN] at y;rw[List.getElem_take] at e;have:=(List.nodup_iff_pairwise_ne.1 w);rw[List.pairwise_iff_getElem] at this;exact this j i Om hi Om e
 simp[this]
theorem MT {l:List (List UInt8)} {g:List UInt8→Nat} (h:∀ i (hi:i<l.length),g l[i]=i):l.Nodup:=by
 rw[List.nodup_iff_pairwise_ne,List.pairwise_iff_getElem];intro i j hi w hlt e;have u:=h i hi;have x:=h j w;rw[e] at u;omega
theorem sU {l:List (List UInt8)} {p:List UInt8} {c:UInt8} {t:List UInt8} (e:p=c::t) (j:jB c.toNat=true) (w:(t.all fun c=>jA c.toNat)=true) (u:p.length≤8) (A:l.length≤100) (h:∀ i (hi:i<l.length),l[i]=p++bU i):distinct l=true:=by
 refine QY ?_ (MT (g:=fun s=>QS (s.drop p.length)) ?_)
 ·intro x y;obtain⟨i,hi,rfl⟩:=aBZ y;rw[h i hi];exact jf e j w u Om
 ·intro i hi;rw[h i hi];simp only[List.drop_left];rw[LX Om];exact (wa ⟨i,by omega⟩).1
structure sK (x:RF):Prop where
 lim:fJ x=true
 ok:x.Ok
theorem SmF.o {x:RF} {a b:Nat} (h:SmF x a b):sK x:=⟨h.lim,h.ok⟩
theorem pQ:SmF jW 0 1:=SmF.mk' (a:=0) (b:=1) (by decide) (by decide) (by decide)
theorem rD (l:List Nat) (a:Nat):sK (fO l a).1∧bS (fO l a).1=true:=by
 have e:=cF l (show 0<6 by decide) a;have j:=cF l (show 0<8 by decide) (aD l 6 a).2;have:=SmF.mk' (a:=1+(aD l 6 a).1) (b:=1+(aD l 8 (aD l 6 a).2).1) Om Om Om;exact⟨this.o,this.uX Om⟩
theorem abD (l:List Nat) (i j a:Nat):sK (jE l i j a).1∧(j=i→bS (jE l i j a).1=false)∧(j=i+1→bS (jE l i j a).1=true):=by
 unfold jE;by_cases e:j=i+1
 ·rw[if_pos e];exact⟨(rD l a).1,fun h=>by omega,fun _=>(rD l a).2⟩
 ·rw[if_neg e];by_cases u:j=i
  ·rw[if_pos u];exact⟨pQ.o,fun _=>pQ.zero,fun h=>absurd h e⟩
  ·rw[if_neg u];simp only;split
   ·exact⟨(rD l _).1,fun h=>absurd h u,fun h=>absurd h e⟩
   ·exact⟨pQ.o,fun h=>absurd h u,fun h=>absurd h e⟩
theorem Qz (l:List Nat) (i a:Nat):∀ n,(dR l i a n).1.length=n∧∀ j (u:j<(dR l i a n).1.length),sK (dR l i a n).1[j]∧(j=i→bS (dR l i a n).1[j]=false)∧(j=i+1→bS (dR l i a n).1[j]=true)
 | 0=>⟨rfl,fun j u=>absurd u (by simp[dR])⟩
 | n+1=>by
  obtain⟨w,x⟩:=Qz l i a n;have e:(dR l i a (n+1)).1=(dR l i a n).1++[(jE l i n (dR l i a n).2).1]:=rfl;rw[e];refine⟨by simp[w],fun j u=>?_⟩;by_cases hlt:j<(dR l i a n).1.length
  ·rw[List.getElem_append_left hlt]; exact x j hlt
  ·rw[aAE,aAI] at u;have:j=n:=Om;subst this;rw[List.getElem_append_right Om];simp only[List.getElem_singleton];exact abD l i j _
theorem Qy (l:List Nat) (a:Nat):∀ n,(kI l a n).1.length=n∧∀ x∈(kI l a n).1,sK x∧bS x=true
 | 0=>⟨rfl,fun x j=>by cases j⟩
 | n+1=>by
  obtain⟨u,w⟩:=Qy l a n;have e:(kI l a (n+1)).1=(kI l a n).1++[(fO l (kI l a n).2).1]:=rfl;rw[e];refine⟨by simp[u],fun x j=>?_⟩;rw[aBH,aBL] at j;rcases j with j | rfl
  ·exact w x j
  ·exact rD l _
theorem abS (l:List Nat) (n i a:Nat):sK (fC l n i a).1∧(i+1=n→bS (fC l n i a).1=true):=by
 unfold fC;by_cases h:i+1<n
 ·simp only[if_pos h];refine⟨?_,fun e=>by omega⟩;split
  ·exact pQ.o
  ·exact (rD l a).1
 ·simp only[if_neg h];exact⟨(rD l a).1,fun _=>(rD l a).2⟩
def aoT (n:Nat) (ayR:List (List RF)):Prop:=∀ i (hi:i<ayR.length),ayR[i].length=n∧∀ j (e:j<ayR[i].length),sK ayR[i][j]∧(j=i→bS ayR[i][j]=false)∧(j=i+1→bS ayR[i][j]=true)
def aoK (n:Nat) (exit:List RF):Prop:=∀ i (hi:i<exit.length),sK exit[i]∧(i+1=n→bS exit[i]=true)
structure avC (n i:Nat) (s:BC) (cs:List Nat):Prop where
 start:s.start=cs.map fun c=>mkT ((c:Nat):Int) ((8:Nat):Int)
 lens:s.exit.length=i∧s.ayR.length=i∧cs.length=i
 left:cs.sum+s.left=8∧(i=n→0<n→s.left=0)
 exit:aoK n s.exit
 ayR:aoT n s.ayR
theorem rK {α:Type} {P:Nat→α→Prop} {xs:List α} {x:α} (h:∀ i (hi:i<xs.length),P i xs[i]) (e:P xs.length x):∀ i (hi:i<(xs++[x]).length),P i (xs++[x])[i]:=by
 intro i hi;by_cases hlt:i<xs.length
 ·rw[List.getElem_append_left hlt]; exact h i hlt
 ·rw[aAE,aAI] at hi;have:i=xs.length:=Om;subst this;rw[List.getElem_append_right Om];simpa using e
theorem mr (l:List Nat) (n a:Nat):∀ i,i≤n→∃ cs,avC n i (gA l n a i) cs
 | 0,_=>⟨[],rfl,⟨rfl,rfl,rfl⟩,⟨rfl,fun h u=>by omega⟩,fun i hi=>absurd hi (by simp[gA]),fun i hi=>absurd hi (by simp[gA])⟩
 | i+1,hi=>by
  obtain⟨cs,y,⟨u,w,A⟩,⟨h5,-⟩,B,h7⟩:=mr l n a i Om;generalize F:gA l n a i=s at *
  have e:gA l n a (i+1)=⟨s.start++[mkT ((dQ l n i s).1:Nat) 8],s.exit++[(fC l n i (dQ l n i s).2).1],s.ayR++[(dR l i (fC l n i (dQ l n i s).2).2 n).1],s.left-(dQ l n i s).1,(dR l i (fC l n i (dQ l n i s).2).2 n).2⟩:=by simp only[gA,F]
  rw[e];have E:(dQ l n i s).1≤s.left∧(i+1=n→(dQ l n i s).1=s.left):=by
   unfold dQ;split
   ·exact⟨by have:=cF l (Om:0<s.left+1) s.a; omega,fun h=>by omega⟩
   ·exact⟨aAF _,fun _=>rfl⟩
  refine⟨cs++[(dQ l n i s).1],?_,⟨by simp[u],by simp[w],by simp[A]⟩,⟨?_,fun h _=>?_⟩,?_,?_⟩
  ·simp only[y,aBO,aBG,aCP]; rfl
  ·simp only[List.sum_append,List.sum_cons,List.sum_nil]; omega
  ·have:=E.2 h;simp only; omega
  ·refine rK (P:=fun i x=>sK x∧(i+1=n→bS x=true)) B ?_;rw[u]; exact abS l n i _
  ·refine rK (P:=fun i (r:List RF)=>r.length=n∧∀ j (I:j<r.length),sK r[j]∧(j=i→bS r[j]=false)∧(j=i+1→bS r[j]=true)) h7 ?_;rw[w]; exact Qz l i _ n
theorem abQ {x:cT} {e r:RF} (j:x.exit=[e]) (l:x.ayR=[[r]]) (u:bS e=true):sX x=true:=by
 unfold sX;rw[j];show ((hZ x 2).all id)=true;simp only[hZ,fE,mC,eE,j,l,aBV,aCL,List.getD_cons_zero,aBG,aCP,u];cases bS r<;>rfl
theorem NR {x:cT} {y A e j l u:RF} (B:x.exit=[y,A]) (E:x.ayR=[[e,j],[l,u]]) (F:bS A=true) (I:bS j=true) (a b:Bool) :
  ∃ c,fE x [a,b] 2=[c,true]∧(b=true→c=true)∧(a=true→c=true):=by
 have J:mC x [a,b] 0=[((a||bS y)||bS e&&(a||bS y))||b,b]:=by unfold mC;rw[B,E];simp only[List.getD_cons_zero,aBG,aDX];generalize (a||bS y)=c;show eE [c,b] 0 [e,j] 2=_;have:eE [c,b] 0 [e,j] 1=[c||bS e&&c,b]:=rfl;show (let w:=eE [c,b] 0 [e,j] 1; w.set 0 (w.getD 0 false||([e,j].map bS).getD 1 false&&w.getD 1 false))=_;rw[this];show [(c||bS e&&c)||(bS j&&b),b]=_;rw[I,aBB]
 have K:∀ c,mC x [c,b] 1=[c,true]:=by intro c;unfold mC;rw[B,E];have:eE [c,true] 1 [l,u] 1=[c,true||bS l&&c]:=rfl;show eE [c,b||bS A] 1 [l,u] 2=_;rw[F,Bool.or_true];show (let w:=eE [c,true] 1 [l,u] 1; w.set 1 (w.getD 1 false||([l,u].map bS).getD 1 false&&w.getD 1 false))=_;rw[this,Bool.true_or];show [c,true||bS u&&true]=_;rw[Bool.true_or]
 refine⟨_,by rw[show fE x [a,b] 2=mC x (mC x [a,b] 0) 1 from rfl,J,K],?_,?_⟩
 ·rintro rfl; rw[Bool.or_true]
 ·rintro rfl; simp
theorem abR {x:cT} {u I B l E F:RF} (j:x.exit=[u,I]) (w:x.ayR=[[B,l],[E,F]]) (y:bS I=true) (A:bS l=true):sX x=true:=by
 unfold sX;rw[j];show ((hZ x 3).all id)=true;have e:∀ r,hZ x (r+1)=fE x (hZ x r) 2:=fun r=>by rw[hZ,j]; rfl
 have u:hZ x 0=[false,false]:=by rw[hZ,j]; rfl
 obtain⟨J,k1,-,-⟩:=NR j w y A false false;obtain⟨K,k2,R,-⟩:=NR j w y A J true;obtain⟨O,M,N,-⟩:=NR j w y A K true;rw[e,e,e,u,k1,k2,M,N rfl];rfl
theorem Bu {c:Nat}:∀ {cs:List Nat},c∈cs→c≤cs.sum
 | k::t,h=>by
  rw[List.sum_cons];rcases aAK.1 h with rfl | h
  ·omega
  ·have:=Bu h; omega
theorem PX {α:Type} {l:List α} (h:l.length=2):∃ a b,l=[a,b]:=by
 match l,h with
 | [a,b],_=>exact⟨a,b,rfl⟩
theorem aqI (cs:List Nat) (h:cs.sum=8):(match qM ((cs.map fun c=>mkT ((c:Nat):Int) ((8:Nat):Int)).map RF.v) with
  | .ok (n,a,b)=>decide (wT n a b false 1 1=0)
  | .error _=>false)=true:=by
 have l:∀ c∈cs,c≤8:=fun c j=>by have:=Bu j;omega
 have e:((cs.map fun c=>mkT ((c:Nat):Int) ((8:Nat):Int)).map RF.v)=cs.map eV:=by rw[aDE];refine aCC fun c j=>?_;have:=l c j;exact (SmF.mk' (a:=c) (b:=8) Om (by decide) (by decide)).v
 rw[e];exact anQ cs h
theorem yE {α:Type} {p:α→Bool} {l:List α} (h:∀ i (hi:i<l.length),p l[i]=true):l.all p=true:=by
 rw[aBK];intro x e;obtain⟨i,hi,rfl⟩:=aBZ e;exact h i hi
theorem T0 (l:List Nat) (a:Nat) (M:List UInt8):rF { (qJ l 2 a).1 with name:=M }=true∧({ (qJ l 2 a).1 with name:=M }:cT).Ok:=by
 obtain⟨n,hn⟩:∃ n,n=1+(aD l 2 a).1:=⟨_,rfl⟩;have Y:n=1∨n=2:=by have:=cF l (show 0<2 by decide) a; omega
 obtain⟨cs,R,⟨h2,h3,h4⟩,⟨h5,U⟩,N,h7⟩:=mr l n (aD l 2 a).2 n (aAF _);generalize hs:gA l n (aD l 2 a).2 n=s at *
 have e:({ (qJ l 2 a).1 with name:=M }:cT)=⟨M,s.start,s.ayR,s.exit⟩:=by simp only[qJ,← hn,hs]
 rw[e];have K:cs.sum=8:=by have:=U rfl Om; omega
 have X:∀ c∈cs,c≤8:=fun c V=>by have:=Bu V;omega
 have w:∀ x∈s.start,sK x:=by intro x u;rw[R] at u;obtain⟨c,V,rfl⟩:=aAW.1 u;have:=X c V;exact (SmF.mk' (a:=c) (b:=8) Om (by decide) (by decide)).o
 have β:s.start.length=n:=by rw[R,aAA,h4]
 have A:sX ⟨M,s.start,s.ayR,s.exit⟩=true:=by
  rcases Y with rfl | rfl
  ·obtain⟨e,he⟩:=List.length_eq_one_iff.1 h2;obtain⟨η,y⟩:=List.length_eq_one_iff.1 h3;have Z:=(h7 0 Om).1;obtain⟨r,J⟩:=List.length_eq_one_iff.1 Z;have u:=(N 0 Om).2 rfl;simp only[y,List.getElem_cons_zero] at J;simp only[he,List.getElem_cons_zero] at u;exact abQ he (by rw[y,J]) u
  ·obtain⟨e0,e1,he⟩:=PX h2;obtain⟨r0,r1,y⟩:=PX h3;have F:=(h7 0 Om).1;have I:=(h7 1 Om).1;have u:=(N 1 Om).2 rfl;have hy:=((h7 0 Om).2 1 Om).2.2 rfl;simp only[he,List.getElem_cons_succ,List.getElem_cons_zero] at u;simp only[y,List.getElem_cons_succ,List.getElem_cons_zero] at F I hy;obtain⟨γ,δ,B⟩:=PX F;obtain⟨ε,ζ,S⟩:=PX I;simp only[B,List.getElem_cons_succ,List.getElem_cons_zero] at hy;exact abR he (by rw[y,B,S]) u hy
 constructor
 ·unfold rF;simp only[aAO];refine⟨⟨⟨⟨⟨⟨⟨?_,?_⟩,?_⟩,?_⟩,?_⟩,?_⟩,?_⟩,A⟩
  ·rw[within_iff]; omega
  ·exact decide_eq_true Om
  ·exact decide_eq_true Om
  ·exact aBK.2 fun x u=>(w x u).lim
  ·exact yE fun i hi=>(N i hi).1.lim
  ·rw[aBK];intro i hi;rw[aAU] at hi;obtain⟨k1,k2⟩:=h7 i hi;have eg:s.ayR.getD i []=s.ayR[i]:=by simp[aAL,hi]
   rw[eg,aAO,aAO];refine⟨⟨decide_eq_true Om,yE fun j W=>(k2 j W).1.lim⟩,?_⟩;have E:i<s.ayR[i].length:=Om;rw[getD_at E,(k2 i E).2.1 rfl];rfl
  ·rw[R]; exact aqI cs K
 ·have O:∀ m:Nat,m≤2→m≤9223372036854775807:=fun m hm=>by omega
  have α:n≤2:=Om;refine⟨⟨?_,fun x u=>(w x u).ok⟩,⟨?_,fun x u=>?_⟩,?_,fun r y=>⟨?_,fun x u=>?_⟩⟩
  ·exact O s.start.length Om
  ·exact O s.exit.length Om
  ·obtain⟨i,hi,rfl⟩:=aBZ u;exact (N i hi).1.ok
  ·exact O s.ayR.length Om
  ·obtain⟨i,hi,rfl⟩:=aBZ y;have:=(h7 i hi).1;exact O (s.ayR[i]'hi).length Om
  ·obtain⟨i,hi,rfl⟩:=aBZ y;obtain⟨j,W,rfl⟩:=aBZ u;exact ((h7 i hi).2 j W).1.ok
theorem RG (l:List Nat) (a:Nat):∀ n,(hJ l a n).1.length=n∧∀ i (hi:i<(hJ l a n).1.length),(hJ l a n).1[i].name=[108,97,119]++bU i∧rF (hJ l a n).1[i]=true∧(hJ l a n).1[i].Ok
 | 0=>⟨rfl,fun i hi=>absurd hi (by simp[hJ])⟩
 | n+1=>by obtain⟨j,u⟩:=RG l a n;have e:(hJ l a (n+1)).1=(hJ l a n).1++[{ (qJ l 2 (hJ l a n).2).1 with name:=[108,97,119]++bU n }]:=rfl;rw[e];refine⟨by simp[j],rK (P:=fun i (x:cT)=>x.name=[108,97,119]++bU i∧rF x=true∧x.Ok) u ?_⟩;rw[j];exact⟨rfl,T0 l _ _⟩
theorem JU (l:List Nat) (ayU:Nat) (u:0<ayU) (a:Nat):∀ n,(eI l ayU a n).1.length=n∧∀ i (hi:i<(eI l ayU a n).1.length),(eI l ayU a n).1[i].name=[109]++bU i∧∃ e p w:Nat,(eI l ayU a n).1[i].azD=e∧1≤e∧e≤4∧(eI l ayU a n).1[i].port=p∧1≤p∧p≤8∧(eI l ayU a n).1[i].law=w∧w<ayU
 | 0=>⟨rfl,fun i hi=>absurd hi (by simp[eI])⟩
 | n+1=>by
  obtain⟨j,y⟩:=JU l ayU u a n;obtain⟨s,A⟩:∃ s,s=eI l ayU a n:=⟨_,rfl⟩;have e:(eI l ayU a (n+1)).1=(eI l ayU a n).1++[⟨[109]++bU n,(1+(aD l 4 s.2).1:Nat),(1+(aD l 8 (aD l 4 s.2).2).1:Nat),((aD l ayU (aD l 8 (aD l 4 s.2).2).2).1:Nat)⟩]:=by rw[A]; rfl
  rw[e];refine⟨by simp[j],rK (P:=fun i (x:dD)=>x.name=[109]++bU i∧∃ e p w:Nat,x.azD=e∧1≤e∧e≤4∧x.port=p∧1≤p∧p≤8∧x.law=w∧w<ayU) y ?_⟩;rw[j];have k1:=cF l (show 0<4 by decide) s.2;have k2:=cF l (show 0<8 by decide) (aD l 4 s.2).2;have B:=cF l u (aD l 8 (aD l 4 s.2).2).2;exact⟨rfl,_,_,_,rfl,by omega,by omega,rfl,by omega,by omega,rfl,B⟩
theorem xU (l:List Nat) (a:Nat):∃ n:Nat,(hQ l a).1=n∧n≤3:=by
 have h:=cF l (show 0<3 by decide) (aD l 3 a).2;unfold hQ;simp only;split
 ·exact⟨1+(aD l 3 (aD l 3 a).2).1,rfl,by omega⟩
 ·exact⟨0,rfl,by omega⟩
theorem eS {n lo hi:Int} (e:lo≤n) (j:n≤hi):within n lo hi=true:=within_iff.2 ⟨e,j⟩
theorem apY {E:List UInt8} {k m q s1 s2 s3 s4 g h:Nat} {ms:List Int} {A:List RF} {mc:Nat} (I:1≤k) (J:k≤2) (X:m≤2) (M:k≤q) (N:q≤k+m) (O:s1≤3) (F:s2≤3) (R:s3≤3) (S:s4≤3) (V:g≤8) (W:h≤4)
  (y:A.length=max m 1) (w:∀ x∈A,sK x∧bS x=true)
  (K:mc≤2) (l:∃ f:Nat,f<mc∧(ms=[(f:Int)]∨mc=2∧ms=[(f:Int),1-(f:Int)])) :
  jL mc ⟨E,(k:Nat),(m:Nat),(q:Nat),0,(s1:Nat),(s2:Nat),(s3:Nat),(s4:Nat),ms,A,mkT (g:Nat) ((8:Nat):Int),mkT (h:Nat) ((1:Nat):Int)⟩=true ∧
  (⟨E,(k:Nat),(m:Nat),(q:Nat),0,(s1:Nat),(s2:Nat),(s3:Nat),(s4:Nat),ms,A,mkT (g:Nat) ((8:Nat):Int),mkT (h:Nat) ((1:Nat):Int)⟩:cC).Ok:=by
 have G:=SmF.mk' (a:=g) (b:=8) Om (by decide) (by decide);have Z:=SmF.mk' (a:=h) (b:=1) Om (by decide) (by decide);obtain⟨f,U,l⟩:=l;constructor
 ·unfold jL NH QL;simp only[aAO,List.all_cons,List.all_nil,aCJ];refine⟨⟨⟨⟨⟨⟨⟨⟨eS Om Om,eS Om Om⟩,decide_eq_true Om⟩,eS Om Om⟩,rfl⟩,eS Om Om,eS Om Om,eS Om Om,eS Om Om,eS Om Om⟩,?_⟩,⟨⟨⟨⟨decide_eq_true (by rw[y]; omega),?_⟩,G.lim⟩,G.one Om⟩,Z.lim⟩⟩,?_⟩
  ·rcases l with e | ⟨-,e⟩<;>rw[e]<;>rfl
  ·rw[aBK];intro x u;rw[(w x u).1.lim,(w x u).2];rfl
  ·rw[aBK];rcases l with rfl | ⟨rfl,rfl⟩
   ·intro j B;simp only[aBV,aCL,aAU] at B;have:j=0:=Om;subst this;rw[aAO];exact⟨eS (by simp) (by simp; omega),by simp⟩
   ·intro j B;simp only[aBV,aCL,aAU] at B;have:j=0∨j=1:=Om;rcases this with rfl | rfl
    ·rw[aAO];exact⟨eS (by simp) (by simp; omega),by simp⟩
    ·rw[aAO];refine⟨eS (by simp; omega) (by simp; omega),?_⟩;have:¬ (1-(f:Int)=f):=Om;simp[this]
 ·refine⟨by unfold dO; constructor<;>simp only<;>omega,by unfold dO; constructor<;>simp only<;>omega,by unfold dO; constructor<;>simp only<;>omega,?_,?_,⟨?_,fun x u=>(w x u).1.ok⟩,G.ok,Z.ok⟩
  ·show ms.length≤_;rcases l with e | ⟨-,e⟩<;>rw[e]<;>simp
  ·show ∀ x∈ms,dO x;unfold dO;rcases l with e | ⟨F,e⟩<;>rw[e]<;>intro x u<;>simp only[aAK,aAY,or_false] at u
   ·subst u; omega
   ·rcases u with rfl | rfl<;>omega
  ·show A.length≤_;rw[y]; omega
theorem tq (l:List Nat) {mc:Nat} (E:0<mc) (F:mc≤2) (i a:Nat):(mM l mc i a).1.name=[112]++bU i∧jL mc (mM l mc i a).1=true∧(mM l mc i a).1.Ok:=by
 refine⟨rfl,?_⟩;have N:=cF l (show 0<2 by decide) a;have O:=cF l (show 0<3 by decide) (aD l 2 a).2;have M:=cF l (show 0<4 by decide) (aD l 3 (aD l 2 a).2).2;unfold mM;simp only;generalize aD l 2 a=k at *
 generalize aD l 3 k.2=m at *
 generalize aD l 4 m.2=h at *
 have hq:=cF l (Om:0<m.1+1) h.2;generalize aD l (m.1+1) h.2=q at *
 obtain⟨r1,r2⟩:=Qy l q.2 (max m.1 1);generalize kI l q.2 (max m.1 1)=r at *
 have K:=cF l (show 0<9 by decide) r.2;generalize aD l 9 r.2=g at *
 obtain⟨R,x,e⟩:=xU l g.2;generalize hQ l g.2=s1 at *
 obtain⟨S,y,j⟩:=xU l s1.2;generalize hQ l s1.2=s2 at *
 obtain⟨U,A,u⟩:=xU l s2.2;generalize hQ l s2.2=s3 at *
 obtain⟨V,B,w⟩:=xU l s3.2;generalize hQ l s3.2=s4 at *
 have I:=cF l E s4.2;generalize aD l mc s4.2=f at *
 generalize aD l 2 f.2=b at *
 rw[x,y,A,B];refine apY Om Om Om Om Om e j u w Om Om r1 r2 F ⟨f.1,I,?_⟩;split
 ·rename_i J;split
  ·exact .inr ⟨by omega,rfl⟩
  ·exact .inl rfl
 ·exact .inl rfl
theorem AO (l:List Nat) {mc:Nat} (j:0<mc) (u:mc≤2) (a:Nat):∀ n,(dV l mc a n).1.length=n∧∀ i (hi:i<(dV l mc a n).1.length),(dV l mc a n).1[i].name=[112]++bU i∧jL mc (dV l mc a n).1[i]=true∧(dV l mc a n).1[i].Ok
 | 0=>⟨rfl,fun i hi=>absurd hi (by simp[dV])⟩
 | n+1=>by obtain⟨k1,k2⟩:=AO l j u a n;have e:(dV l mc a (n+1)).1=(dV l mc a n).1++[(mM l mc n (dV l mc a n).2).1]:=rfl;rw[e];refine⟨by simp[k1],rK (P:=fun i (x:cC)=>x.name=[112]++bU i∧jL mc x=true∧x.Ok) k2 ?_⟩;rw[k1];exact tq l j u n _
theorem EE (l:List Nat) {pc:Nat} (j:0<pc) (a:Nat):∀ n,(eQ l pc a n).1.length=n∧∀ i (hi:i<(eQ l pc a n).1.length),(eQ l pc a n).1[i].name=[118]++bU i∧∃ p:Nat,(eQ l pc a n).1[i].ayZ=p∧p<pc
 | 0=>⟨rfl,fun i hi=>absurd hi (by simp[eQ])⟩
 | n+1=>by obtain⟨k1,k2⟩:=EE l j a n;have e:(eQ l pc a (n+1)).1=(eQ l pc a n).1++[⟨[118]++bU n,((aD l pc (eQ l pc a n).2).1:Nat)⟩]:=rfl;rw[e];refine⟨by simp[k1],rK (P:=fun i (x:gI)=>x.name=[118]++bU i∧∃ p:Nat,x.ayZ=p∧p<pc) k2 ?_⟩;rw[k1];exact⟨rfl,_,rfl,cF l j _⟩
abbrev lvs (ds:List cP):List Int:=ds.map cP.level
def avA (ds:List cP) (i:Nat) (d:cP):Prop:=∃ lev p u:Nat,d.name=[lL lev]++bU (i+1)∧d.level=lev∧1≤lev∧lev≤4∧d.parent=p∧p≤i∧(lvs ds)[p]?=some ((lev:Int)-1)∧d.azH=u∧1≤u∧u≤16∧sK d.azC
def aoJ (ds:List cP) (mc i:Nat) (d:cZ):Prop:=∃ m c:Nat,d.name=[100]++bU i∧d.model=m∧m<mc∧d.machine=c∧(lvs ds)[c]?=some 4
structure GV (mc ayM:Nat) (s:GS):Prop where
 len:s.ayW.length≤35
 azG:s.azG.length≤ayM
 root:s.ayW[0]?=some mJ
 dom:∀ i (hi:i+1<s.ayW.length),avA s.ayW i s.ayW[i+1]
 drv:∀ i (hi:i<s.azG.length),aoJ s.ayW mc i s.azG[i]
theorem GV.a {mc ayM:Nat} {s:GS} (h:GV mc ayM s) (x:Nat):GV mc ayM { s with a:=x }:=⟨h.len,h.azG,h.root,h.dom,h.drv⟩
theorem Ar (l:List Nat) {mc ayM dom:Nat} (j:0<mc) {s:GS} (h:GV mc ayM s) (w:(lvs s.ayW)[dom]?=some 4):∀ n,GV mc ayM (jT l mc ayM dom s n)∧(jT l mc ayM dom s n).ayW=s.ayW
 | 0=>⟨h,rfl⟩
 | n+1=>by
  obtain⟨e,u⟩:=Ar l j h w n;simp only[jT];generalize jT l mc ayM dom s n=t at *
  split
  ·rename_i hlt;refine⟨⟨e.len,by simp only[aAE,aAI]; omega,e.root,e.dom,?_⟩,u⟩;refine rK (P:=fun i d=>aoJ t.ayW mc i d) e.drv ?_;exact⟨_,dom,rfl,rfl,cF l j _,rfl,by rw[u]; exact w⟩
  ·exact⟨e,u⟩
theorem yP {ds:List cP} {p:Nat} {x:Int} {t:List cP} (h:(lvs ds)[p]?=some x):(lvs (ds++t))[p]?=some x:=by
 unfold lvs at *
 rw[aBO,aCB]
 ·exact h
 ·exact (aBD.1 h).1
theorem ajO (l:List Nat) {mc ayM dom level:Nat} {s:GS} (h:GV mc ayM s) (y:1≤level) (J:level≤4) (B:(lvs s.ayW)[dom]?=some ((level:Int)-1)) (E:pV ayM s=false) :
  GV mc ayM (nH l level dom s)∧(∃ t,(nH l level dom s).ayW=s.ayW++t)∧(nH l level dom s).ayW.length=s.ayW.length+1∧(lvs (nH l level dom s).ayW)[s.ayW.length]?=some (level:Int):=by
 unfold pV at E;simp only[Bool.or_eq_false_iff,decide_eq_false_iff_not] at E;have I:dom<s.ayW.length:=by
  have:=(aBD.1 B).1
  rwa [aAA] at this
 have M:=cF l (show 0<16 by decide) s.a;have K:=cF l (show 0<6 by decide) (aD l 3 (aD l 16 s.a).2).2;unfold nH;simp only;generalize aD l 16 s.a=u at *
 generalize aD l 3 u.2=t at *
 generalize aD l 6 t.2=k at *
 have A:sK (if t.1=0 then (mkT 1 ((2+k.1:Nat):Int),k.2) else (jW,t.2)).1:=by
  split
  ·exact (SmF.mk' (a:=1) (b:=2+k.1) Om Om Om).o
  ·exact pQ.o
 generalize (if t.1=0 then (mkT 1 ((2+k.1:Nat):Int),k.2) else (jW,t.2))=sh at *
 refine⟨⟨by simp only[aAE,aAI]; omega,h.azG,?_,?_,fun i hi=>?_⟩,⟨_,rfl⟩,by simp,?_⟩
 ·rw[aCB Om]; exact h.root
 ·intro i hi;simp only[aAE,aAI] at hi;by_cases hlt:i+1<s.ayW.length
  ·rw[List.getElem_append_left hlt];obtain⟨lev,p,v,e,j,w,x,h5,F,h7,h8⟩:=h.dom i hlt;exact⟨lev,p,v,e,j,w,x,h5,F,yP h7,h8⟩
  ·have:i+1=s.ayW.length:=Om;rw[List.getElem_append_right Om];simp only[List.getElem_singleton];exact⟨level,dom,1+u.1,by rw[this],rfl,y,J,rfl,by omega,yP B,rfl,by omega,by omega,A⟩
 ·obtain⟨m,c,e,j,w,x,h5⟩:=h.drv i hi;exact⟨m,c,e,j,w,x,yP h5⟩
 ·unfold lvs;rw[aBO,aBY (by rw[aAA]; exact aAF _),aAA,Nat.sub_self];rfl
theorem As (l:List Nat) {mc ayM dom level:Nat} (j:1≤level) (E:level≤4) {rec:Nat→GS→GS}
  (e:∀ d t,GV mc ayM t→(lvs t.ayW)[d]?=some (level:Int)→GV mc ayM (rec d t)∧∃ u,(rec d t).ayW=t.ayW++u) {s:GS} (h:GV mc ayM s) (B:(lvs s.ayW)[dom]?=some ((level:Int)-1)) :
  ∀ n,GV mc ayM (gV l level ayM dom rec s n)∧∃ u,(gV l level ayM dom rec s n).ayW=s.ayW++u
 | 0=>⟨h,[],by simp[gV]⟩
 | n+1=>by
  obtain⟨A,u,x⟩:=As l j E e h B n;simp only[gV];generalize gV l level ayM dom rec s n=t at *
  split
  ·exact⟨A,u,x⟩
  ·rename_i F;have y:(lvs t.ayW)[dom]?=some ((level:Int)-1):=by rw[x]; exact yP B
   obtain⟨k1,⟨v,k2⟩,I,J⟩:=ajO l A j E y (by simpa using F);obtain⟨K,w,M⟩:=e ((nH l level dom t).ayW.length-1) (nH l level dom t) k1 (by rw[I,Nat.add_sub_cancel]; exact J);exact⟨K,u++(v++w),by rw[M,k2,x]; simp⟩
theorem Au (l:List Nat) {mc ayM:Nat} (e:0<mc):∀ (k:Nat),k≤4→∀ (dom:Nat) {s:GS},GV mc ayM s→(lvs s.ayW)[dom]?=some (4-(k:Int))→GV mc ayM (eY l mc ayM k dom s)∧∃ u,(eY l mc ayM k dom s).ayW=s.ayW++u
 | 0,_,dom,s,h,j=>by simp only[eY];obtain⟨x,y⟩:=Ar l e (h.a (aD l 2 s.a).2) j (1+(aD l 2 s.a).1);exact⟨x,[],by rw[y]; simp⟩
 | k+1,B,dom,s,h,j=>by
  simp only[eY];refine As l Om Om (fun d t A w=>Au l e k Om d A ?_) (h.a (aD l 2 s.a).2) ?_ _
  ·rw[w]; congr 1; omega
  ·rw[j]; congr 1; omega
theorem mu (lev:Nat) (e:1≤lev) (j:lev≤4):jB (lL lev).toNat=true∧lL lev≠100:=by
 have:lev=1∨lev=2∨lev=3∨lev=4:=Om;rcases this with rfl | rfl | rfl | rfl<;>decide
theorem fc (c:UInt8) {k:Nat} (e:k<100):QS (([c]++bU k).drop 1)=k:=by
 show QS (bU k)=k;rw[LX e];exact (wa ⟨k,e⟩).1
theorem Ju {mc ayM:Nat} {s:GS} (h:GV mc ayM s) (M:ayM≤60):distinct ((s.ayW.drop 1).map cP.name++s.azG.map cZ.name)=true:=by
 have E:∀ i (hi:i<((s.ayW.drop 1).map cP.name).length),∃ lev:Nat,1≤lev∧lev≤4∧((s.ayW.drop 1).map cP.name)[i]=[lL lev]++bU (i+1):=by intro i hi;rw[aAA,aBR] at hi;obtain⟨lev,p,u,l,-,I,w,-⟩:=h.dom i Om;refine⟨lev,I,w,?_⟩;rw[aCW,List.getElem_drop];simp only[Nat.add_comm 1 i];exact l
 have hB:∀ i (hi:i<(s.azG.map cZ.name).length),(s.azG.map cZ.name)[i]=[100]++bU i:=by intro i hi;rw[aAA] at hi;obtain⟨m,c,l,-⟩:=h.drv i hi;rw[aCW]; exact l
 have N:((s.ayW.drop 1).map cP.name).length≤40:=by rw[aAA,aBR]; have:=h.len; omega
 have O:(s.azG.map cZ.name).length≤60:=by rw[aAA]; have:=h.azG; omega
 generalize (s.ayW.drop 1).map cP.name=A at *
 generalize s.azG.map cZ.name=B at *
 refine QY ?_ ?_
 ·intro x hx;rcases aBH.1 hx with hx | hx
  ·obtain⟨i,hi,rfl⟩:=aBZ hx;obtain⟨lev,l,w,e⟩:=E i hi;rw[e];exact jf rfl (mu lev l w).1 rfl (by simp) Om
  ·obtain⟨i,hi,rfl⟩:=aBZ hx;rw[hB i hi];exact jf rfl (by decide) rfl (by simp) Om
 ·rw[aCZ];refine⟨?_,?_,?_⟩
  ·refine MT (g:=fun s=>QS (s.drop 1)-1) fun i hi=>?_;obtain⟨lev,-,-,e⟩:=E i hi;rw[e,fc _ Om];omega
  ·refine MT (g:=fun s=>QS (s.drop 1)) fun i hi=>?_;rw[hB i hi];exact fc _ Om
  ·intro x hx y K e;obtain⟨i,hi,rfl⟩:=aBZ hx;obtain⟨j,J,rfl⟩:=aBZ K;obtain⟨lev,l,w,F⟩:=E i hi;rw[F,hB j J] at e;exact (mu lev l w).2 (List.cons.inj e).1
theorem agE {mc ayM a:Nat}:GV mc ayM ⟨[mJ],[],a⟩ :=
 ⟨by simp,aAP _,rfl,fun i hi=>absurd hi (by simp),fun i hi=>absurd hi (by simp)⟩
theorem akZ {mc ayM:Nat} {s:GS} (h:GV mc ayM s) (f:aC) (A:f.ayP=s.ayW):oX f=true:=by
 have x:=h.root;have w:=h.dom;unfold oX;rw[A];cases j:s.ayW with
 | nil=>rw[j] at x; cases x
 | cons r t =>
  rw[j] at x;have:r=mJ:=by simpa using x
  subst this;show PN f mJ t=true;unfold PN;simp only[aAO];refine⟨⟨⟨⟨⟨⟨rfl,rfl⟩,rfl⟩,rfl⟩,pQ.lim⟩,by rw[show mJ.azC=jW from rfl,pQ.zero]; rfl⟩,?_⟩;rw[aBK];intro i hi;rw[aAU] at hi;rw[aAH hi];obtain⟨lev,p,u,B,y,F,I,h5,J,h7,h8,K,E,l⟩:=w i (by rw[j]; simp; omega);have e:s.ayW[i+1]'(by rw[j]; simp; omega)=t[i]:=by simp[j]
  rw[e] at B y h5 h8 l;show TL f i t[i]=true;unfold TL;simp only[aAO];refine⟨⟨⟨⟨?_,?_⟩,?_⟩,?_⟩,l.lim⟩
  ·rw[h5]; exact eS Om Om
  ·rw[h5,y,A,aDK,aAL,h7,fx Om Om];exact decide_eq_true rfl
  ·rw[y]; exact eS Om Om
  ·rw[h8]; exact eS Om Om
theorem w8 (l:List Nat) (ayM ayO a:Nat) (hd:ayM≤24) (hv:ayO≤12) :
  cV (gW l ayM ayO a).1=true∧(gW l ayM ayO a).1.Ok:=by
 unfold gW;simp only;have he:=cF l (show 0<2 by decide) a;generalize aD l 2 a=e at *
 have γ:=cF l (show 0<2 by decide) e.2;generalize aD l 2 e.2=F at *
 obtain⟨w1,W⟩:=RG l F.2 (1+F.1);generalize hJ l F.2 (1+F.1)=ayU at *
 have δ:=cF l (show 0<2 by decide) ayU.2;generalize aD l 2 ayU.2=B at *
 obtain⟨Z,m2⟩:=JU l (1+F.1) Om B.2 (1+B.1);generalize eI l (1+F.1) B.2 (1+B.1)=ayN at *
 obtain⟨G,-⟩:=Au l (mc:=1+B.1) (ayM:=ayM) Om 4 (by decide) 0 (s:=⟨[mJ],[],ayN.2⟩) agE rfl;generalize eY l (1+B.1) ayM 4 0 ⟨[mJ],[],ayN.2⟩=g at *
 have ε:=cF l (show 0<2 by decide) g.a;generalize aD l 2 g.a=pl at *
 obtain⟨p1,U⟩:=AO l (mc:=1+B.1) Om Om pl.2 (1+pl.1);generalize dV l (1+B.1) pl.2 (1+pl.1)=pols at *
 have ζ:=cF l (Om:0<ayO+1) pols.2;generalize aD l (ayO+1) pols.2=K at *
 obtain⟨v1,V⟩:=EE l (pc:=1+pl.1) Om K.2 K.1;generalize eQ l (1+pl.1) K.2 K.1=vols at *
 have g1:=G.len;have g2:=G.azG;have S:∀ f:aC,f.ayP=g.ayW→oX f=true:=fun f hf=>akZ G f hf;have j:∀ n:Nat,n≤1000→n≤9223372036854775807:=fun n h=>by omega
 have E:∀ x∈g.azG,∃ m c:Nat,x.model=m∧m<1+B.1∧x.machine=c∧c<g.ayW.length∧(lvs g.ayW)[c]?=some 4:=by
  intro x w;obtain⟨i,hi,rfl⟩:=aBZ w;obtain⟨m,c,-,R,X,Y,h5⟩:=G.drv i hi;refine⟨m,c,R,X,Y,?_,h5⟩;have:=(aBD.1 h5).1
  rwa [aAA] at this
 constructor
 ·unfold cV;rw[S _ rfl];simp only[aAO,aCJ];refine⟨⟨?_,⟨⟨⟨⟨?_,?_⟩,?_⟩,?_⟩,?_⟩⟩,⟨⟨⟨?_,?_⟩,Ju G Om⟩,?_⟩,?_⟩
  ·unfold pO;simp only[aAO];exact⟨⟨⟨⟨⟨⟨eS Om Om,decide_eq_true Om⟩,decide_eq_true Om⟩,decide_eq_true Om⟩,decide_eq_true Om⟩,decide_eq_true Om⟩,decide_eq_true Om⟩
  ·exact yE fun i hi=>(W i hi).2.1
  ·refine yE fun i hi=>?_;obtain⟨-,x,y,z,A,I,J,M,N,e6,e7,e8⟩:=m2 i hi;unfold mT;simp only[aAO];rw[A,M,e7,w1];exact⟨⟨eS Om Om,eS Om Om⟩,eS Om Om⟩
  ·rw[aBK];intro x w;obtain⟨m,c,A,I,J,M,N⟩:=E x w;unfold kV;simp only[aAO];rw[A,J,Z,aDK,aAL,N];exact⟨⟨eS Om Om,eS Om Om⟩,rfl⟩
  ·refine yE fun i hi=>?_;rw[Z]; exact (U i hi).2.1
  ·refine yE fun i hi=>?_;obtain⟨-,p,A,I⟩:=V i hi;unfold oW;rw[A,p1];exact eS Om Om
  ·refine sU (p:=[108,97,119]) rfl (by decide) (by decide) (by decide) (by rw[aAA]; omega) fun i hi=>?_;rw[aCW]; exact (W i (by simpa using hi)).1
  ·refine sU (p:=[109]) rfl (by decide) (by decide) (by decide) (by rw[aAA]; omega) fun i hi=>?_;rw[aCW]; exact (m2 i (by simpa using hi)).1
  ·refine sU (p:=[112]) rfl (by decide) (by decide) (by decide) (by rw[aAA]; omega) fun i hi=>?_;rw[aCW]; exact (U i (by simpa using hi)).1
  ·refine sU (p:=[118]) rfl (by decide) (by decide) (by decide) (by rw[aAA]; omega) fun i hi=>?_;rw[aCW]; exact (V i (by simpa using hi)).1
 ·refine⟨j ayU.1.length Om,j ayN.1.length Om,j g.ayW.length Om,j g.azG.length Om,j pols.1.length Om,j vols.1.length Om,?_,?_,?_,?_,?_⟩
  ·intro x w;obtain⟨i,hi,rfl⟩:=aBZ w;exact (W i hi).2.2
  ·intro x w;obtain⟨i,hi,rfl⟩:=aBZ w;rcases aCH i with rfl | hp
   ·have:g.ayW[0]=mJ:=by have:=G.root; rw[aAH hi] at this; exact aCI.inj this
    rw[this];exact⟨pQ.ok,by unfold dO; decide,by unfold dO; decide⟩
   ·obtain⟨k,rfl⟩:∃ k,i=k+1:=⟨i-1,by omega⟩;obtain⟨lev,p,u,h1,R,X,Y,h5,h6,h7,h8,h9,α,O⟩:=G.dom k hi;have β:k+1<g.ayW.length:=hi;rw[R,h5];exact⟨O.ok,by unfold dO; omega,by unfold dO; omega⟩
  ·intro x w;obtain⟨m,c,A,I,J,M,N⟩:=E x w;rw[A,J];unfold dO; omega
  ·intro x w;obtain⟨i,hi,rfl⟩:=aBZ w;exact (U i hi).2.2
  ·intro x w;obtain⟨i,hi,rfl⟩:=aBZ w;obtain⟨-,p,A,I⟩:=V i hi;rw[A];unfold dO; omega


abbrev iiv (l:List Int):List (List PV):=l.map fun x=>[PV.int .i64 x]
def ahY (l:List Nat) (v:PV) (o a:Nat) (f:aC) (r:PV) (H:PH):Prop:=Co r (ints (qE l f a).1)∧H=PH.nil.set o (aS v (qE l f a).2)
theorem re (l:List Nat) {a:Nat} (h:a≤l.length):∀ k,(mV l a k).2≤l.length∧(mV l a k).1.length=k
 | 0=>⟨h,rfl⟩
 | k+1=>by obtain⟨e,j⟩:=re l h k;exact⟨bE l 7 e,by simp only[mV,aAE,aAI,j]⟩
def Dr (f:aC) (o:Nat) (w:PV) (i:Nat):PF:=((((PF.nil.set 0 (.ptr o 2 0 0)).set 3 (.dH f.cells)).set 5 (w)).set 6 (.int .i64 i))
theorem aeV {C:Ctx} (M:zX C) {l:List Nat} {v:PV} (T:Tp l v) (o a:Nat) (f:aC) (Y:f.ayM.length≤1000) (O:a≤l.length):HJ.wp C (aT Ud.res (ahY l v o a f)) (PF.args [.ptr o 2 0 0,.agg f.cells]) (PH.nil.set o (aS v a)):=by
 have N:aK (PH.nil.set o (aS v a)) [(o,aS v a)] []:=aK.nil.new (H:=PH.nil) rfl (aS v a);simp only[go_sem,HJ,Dt,Ud,Du];refine cX M T (o:=o) (n:=4) (a:=a) (by decide) O (by simp only[go_sem]; rfl) (N.at 0 rfl) ?_;have A:=N.set 0 rfl (aS v (aD l 4 a).2);rw[PH.set_set] at A;have J:=bE l 4 O;have y:qE l f a=if (aD l 4 a).1=0 then ([],(aD l 4 a).2) else mV l (aD l 4 a).2 f.ayM.length:=rfl
 have I:∀ r H,ahY l v o a f r H↔Co r (ints (qE l f a).1)∧H=PH.nil.set o (aS v (qE l f a).2):=fun _ _=>Iff.rfl;generalize aD l 4 a=t at *
 by_cases R:t.1=0
 ·rw[if_pos R] at y;simp only[go_sem,bO (Om:(t.1:Int)=0),Dv];refine aV (vs:=[.aA]) (.inr rfl) (PH.nil.set o (aS v t.2)) Sq (e_ a_ (A.at 0 rfl)) ?_;rw[dB,I,y];exact⟨.nil 1,rfl⟩
 rw[if_neg R] at y;have U:=A.mB 1;simp only[go_sem,bC (Om:(t.1:Int)≠0),Dw,Dx];refine wp_loop (α:=Nat × PV × PH) (fun s=>Dr f o s.2.1 s.1) (fun s=>s.2.2) (fun s=>s.1≤f.ayM.length∧aK s.2.2 [(o,aS v (mV l t.2 s.1).2)] [(s.2.1,1,iiv (mV l t.2 s.1).1)]) (fun s=>f.ayM.length-s.1) (0,.aA,_) ⟨aAP _,U⟩ ?_ b_ ?_
 ·unfold Dr;exact Lq
 rintro⟨k,w,X⟩ ⟨V,j⟩;simp only at V j ⊢;obtain⟨k1,k2⟩:=re l J k;simp only[go_sem,Ds,Dy,Dr,aAA];by_cases hlt:k<f.ayM.length
 ·have e:(k:Int)<(f.ayM.length:Nat):=Om;have u:mV l t.2 (k+1)=((mV l t.2 k).1++[((aD l 7 (mV l t.2 k).2).1:Int)-1],(aD l 7 (mV l t.2 k).2).2):=rfl;have hz:=cF l (show 0<7 by decide) (mV l t.2 k).2;generalize Z:mV l t.2 k=s at *
  have K:IntKind.i64.wrap (((aD l 7 s.2).1:Int)-1)=((aD l 7 s.2).1:Int)-1:=wrap_i64 Om Om;have E:(1:Nat)*1≤16777216:=by decide
  simp only[go_sem,e,Dz];refine cX M T (o:=o) (n:=7) (a:=s.2) (by decide) k1 (by simp only[go_sem]; rfl) (j.at 0 rfl) ?_;have F:=j.set 0 rfl (aS v (aD l 7 s.2).2);simp only[go_sem,K,E];refine F.append 0 (src:=[[PV.int .i64 (((aD l 7 s.2).1:Int)-1)]]) rfl Sq (by unfold roomFor; rw[aAA,k2]; simp only[aAI,maxLen]; omega) fun W H' S _=>?_;simp only[go_sem,D0,wZz k];refine aL (k+1,W,H') ⟨hlt,?_⟩ (by simp only; omega) ?_ b_
  ·simp only;rw[u];have:iiv (s.1++[((aD l 7 s.2).1:Int)-1])=iiv s.1++[[PV.int .i64 (((aD l 7 s.2).1:Int)-1)]]:=by simp[iiv]
   rw[this];exact S
  ·exact Lq
 ·have e:¬ (k:Int)<(f.ayM.length:Nat):=Om;have:k=f.ayM.length:=Om;subst this;rw[← y] at j;simp only[go_sem,e,D1];rcases j.own 0 rfl with ⟨B,rfl⟩ | ⟨q,rs,rfl,_⟩
  ·refine aV (vs:=[.aA]) (.inr rfl) (PH.nil.set o (aS v (qE l f a).2)) Sq (e_ a_ (j.at 0 rfl)) ?_;rw[dB,I];refine⟨?_,rfl⟩;unfold ints;rw[show (qE l f a).1.map (fun x=>[PV.int .i64 x])=[] from B];exact .nil 1
  ·obtain⟨rs,g1,g2,g3,-,g4⟩:=j.frz 0 rfl;refine oR (vs:=[.osl q 1 0 (iiv (qE l f a).1).length]) (.inr rfl) Sq (.step g1 (.done (H2:=PH.nil.set o (aS v (qE l f a).2)) ?_ (e_ a_ ?_)))
   ·rw[dB,g3,I];exact⟨.refl _,rfl⟩
   ·have:=g4.at 0 rfl;rw[this];simp only[bF.frz,aBG,aCP,T.frz];rfl

theorem exactly {C:Ctx} {name:Nat} {args:List PV} {H H2:PH} {v:PV} (h:aG C name args H (fun r H'=>Co r v∧H'=H2)):aG C name args H (fun r H'=>r=v∧H'=H2) :=
 h.post fun r H' e=>⟨_,e.1,rfl,e.2⟩
def fT (l:List Nat) (d v:Nat):aC:=(gW (l.take 400) d v 0).1
def faT (l:List Nat) (d v:Nat):Nat:=(gW (l.take 400) d v 0).2
theorem Xa (l:List Nat) (ayM ayO:Nat) {a:Nat} (h:a≤l.length):(gW l ayM ayO a).2≤l.length:=by
 have x:=bE l 2 h;have u:=bE l 2 x;obtain⟨j,-⟩:=GG l u (1+(aD l 2 (aD l 2 a).2).1);have w:=bE l 2 j;obtain⟨e,-⟩:=xN l (1+(aD l 2 (aD l 2 a).2).1) w (1+(aD l 2 (hJ l (aD l 2 (aD l 2 a).2).2 (1+(aD l 2 (aD l 2 a).2).1)).2).1);obtain⟨y,-⟩:=FT (mc:=1+(aD l 2 (hJ l (aD l 2 (aD l 2 a).2).2 (1+(aD l 2 (aD l 2 a).2).1)).2).1) 4 0 (⟨by simp,aAP _,e⟩:GOk l ayM ⟨[mJ],[],_⟩);exact (DF l _ (bE l (ayO+1) (tJ l _ (bE l 2 y.a) _).1) _).1
structure qY (f:aC) (L:List (List Int)):Prop where
 len:L.length=f.ayO.length
 row:∀ v (h:v<L.length),((L[v].length:Nat):Int)=oE f v
 home:∀ r∈L,∀ x∈r,-1≤x∧x<f.ayM.length
theorem qY.asU {f:aC} {L:List (List Int)} (h:qY f L) (hV:VF f):∀ k,k≤L.length→(L.take k).flatten.length≤k*8:=by
 have y:=h.len;intro k
 induction k with
 | zero=>intro _; simp
 | succ k w =>intro j;rw[W9 L j,aAE];have x:=w Om;have l:=h.row k j;obtain⟨u,he⟩:=pM hV (Om:k<f.ayO.length);have e:=hV.ayZ _ (aAG u);rw[he] at e;unfold oE at l;omega
theorem qY.ok {f:aC} (hV:VF f) {L:List (List Int)} (h:qY f L):arO L:=by
 have j:=hV.small.ayO;have e:=h.len;have:=h.asU hV L.length (aAF _);rw[aBT] at this;exact⟨by omega,by omega⟩
section
variable {H:PH} {B:List BX} {L:List LI}
end
theorem qQ {k v:Int} {n:Nat} {p:Nat→Bool}:uU k v n p=[]↔∀ i,i<n→p i=false:=by
 unfold uU;rw[List.map_eq_nil_iff,List.filter_eq_nil_iff];constructor
 ·intro h i hi;have:=h i (aAU.2 hi);simpa using this
 ·intro h i hi;rw[h i (aAU.1 hi)];decide
theorem Xw {f:aC} {l:List (List Int)} {room:List Int} (j:cV f=true) (e:l.length=f.ayO.length) :
  wD f l room=true↔Sx f l l.length=[]∧∀ d,d<f.ayM.length→over f l room d=false:=by
 unfold wD V3 aiO;rw[j,if_pos rfl,if_pos e,aBB,decide_eq_true_eq,List.length_eq_zero_iff,List.append_eq_nil_iff,qQ]
theorem RC {p:Int→Bool}:∀ {l:List Int} {i:Nat},(∀ x∈l,p x=false)→EY p l i=none
 | [],_,_=>rfl
 | y::t,i,h=>by rw[EY,h y (by simp),if_neg (by decide)];exact RC fun x e=>h x (by simp[e])
theorem qY.shape {f:aC} {L:List (List Int)} (h:qY f L) {v:Nat} (j:v<L.length):Gs f L v=none:=by
 have e:L.getD v []=L[v]:=by simp[aAL,j]
 unfold Gs;rw[e,if_pos (h.row v j),RC]
 ·rfl
 ·intro x l;have:=h.home _ (aAG j) x l;simp[apA];omega
section
variable {H:PH} {B:List BX} {L:List LI} {s:Nat} {rows:List (List PV)}
theorem mN.some (s:Nat) (rows:List (List PV)) (G:PH):∃ r H',mN s rows r H'∧kJ G .nil H':=by
 obtain⟨o,l⟩:=G.fresh;refine⟨.osl o s 0 rows.length,PH.nil.set o (.rows s rows),.inr ⟨o,rows,rfl,rfl,aAF _,aBT⟩,fun q x j _=>?_⟩;rw[aQ] at j;split at j
 ·rename_i e; rw[e]; exact l
 ·cases j
end

def tpS (tn a a2:Nat) (raw:List Int) (R:Nat→PV→PH→Prop):Spec:=fun name vs =>
 if name=tn then match vs with
  | .ptr o _ _ _::_=>some ([o],fun e r H'=>∀ v,e o=some (aS v a)→r=ints raw∧H'=PH.nil.set o (aS v a2))
  | _=>none
 else some ([],fun _=>R name)
section
variable {C:Ctx} {F:PF} {H Hs:PH} {tn a a2:Nat} {raw:List Int} {R:Nat→PV→PH→Prop} {st:Bool} {args:List aN} {d:Option Nat} {K:PF→PH→Prop}
theorem abL {o:Nat} {v:PV} {l:List PV} (I:H o=some (aS v a)) (h:aG C tn (.ptr o 2 0 0::l) (PH.nil.set o (aS v a)) (fun r H'=>r=ints raw∧H'=PH.nil.set o (aS v a2))) (A:aN.evs F args=some (.ptr o 2 0 0::l))
  (j:Hs.le (H.set o (aS v a2))) (E:K (F.put d (ints raw)) (H.set o (aS v a2))):dOp C Hs (tpS tn a a2 raw R) st (.call tn args) d K F H:=by
 refine v6 (x:=aS v a) (y:=aS v a2) (r:=ints raw) (R:=fun w r H'=>∀ v,w o=some (aS v a)→r=ints raw∧H'=PH.nil.set o (aS v a2)) (by unfold tpS; rw[if_pos rfl]) I h ?_ ?_ A j E
 ·intro u e;rw[cG] at e;injection e with e
  injection e with _ e
  injection e with e _
  injection e with e _
  rw[e];exact⟨rfl,rfl⟩
 ·intro M H' J;exact J v (by rw[cG])
theorem Ws {name:Nat} {vs:List PV} {u:PV} (x:name≠tn) (j:R name=aM u) (h:aG C name vs .nil (aM u)) (l:aN.evs F args=some vs) (e:Hs.le H) (w:K (F.put d u) H):dOp C Hs (tpS tn a a2 raw R) st (.call name args) d K F H :=
 dL (by unfold tpS; rw[if_neg x,j]) h l e w
end
section
variable {C:Ctx} {F:PF} {H:PH} {B:List BX} {L:List LI} {args:List aN} {d:Option Nat} {K:PF→PH→Prop}
theorem aK.awG (h:aK H B L) (i:Nat) {o name:Nat} {x y:bF} {r:PV} {vs:List PV} (hi:B[i]?=some (o,x)) (j:aG C name vs (PH.nil.set o x) (fun u H'=>u=r∧H'=PH.nil.set o y)) (e:aN.evs F args=some vs)
  (l:∀ H',aK H' (B.set i (o,y)) L→K (F.put d r) H'):fU C name args [] d K F H:=lK j (h.at i hi) e (l _ (h.set i hi y))
theorem aK.sQ (h:aK H B L) {x:bF} {e:Nat→PV} (j:∀ o H',aK H' (B++[(o,x)]) L→K (F.put d (e o)) H'):mZ (some (e,x)) d K F H:=aP fun o l=>j o _ (h.new l x)
end
theorem rc {f:aC} (hV:VF f) (room:List Int) {d:Nat} (e:d<f.ayM.length):0≤mD f room d∧mD f room d≤ext f d∧1≤ext f d∧ext f d≤16:=by
 obtain⟨j,he⟩:=hV.W2 e;have:=hV.model _ (aAG j);rw[he] at this;unfold mD;split
 ·omega
 ·omega
theorem abT (l:List Nat) {d v:Nat} (e:d≤24) (j:v≤12):cV (fT l d v)=true∧(fT l d v).Ok:=w8 (l.take 400) d v 0 e j

theorem qY.move {f:aC} {L:List (List Int)} (h:qY f L) {x k d:Nat} (w:x<L.length) (A:d<f.ayM.length):qY f (L.set x (L[x].set k d)):=by
 refine⟨by rw[aBW]; exact h.len,fun v u=>?_,fun r j=>?_⟩
 ·rw[aBW] at u;have:=h.row v u;rw[List.getElem_set];split
  ·rename_i e;subst e;rw[aBW]; exact this
  ·exact this
 ·rcases List.mem_or_eq_of_mem_set j with j | rfl
  ·exact h.home r j
  ·intro y l;rcases List.mem_or_eq_of_mem_set l with l | rfl
   ·exact h.home _ (aAG w) y l
   ·omega


structure arS (C:Ctx):Prop extends YH C where
 int:∀ n:Int,dO n→aG C 47 [.int .i64 n] .nil (aM (.agg (mkT n 1).cells))
 mul:∀ a b,Lim a→Lim b→a.length≤35184372087808→b.length≤35184372087808→aG C 36 [aI a,aI b] .nil (aM (opV (fI (val a) (val b)) (val a*val b)))
 add:∀ a b,Lim a→Lim b→a.length≤35184372087808→b.length≤35184372087808→aG C 30 [aI a,aI b] .nil (aM (opV (fI (val a) (val b)) (val a+val b)))
 sub:∀ a b,Lim a→Lim b→a.length≤35184372087808→b.length≤35184372087808→aG C 37 [aI a,aI b] .nil (aM (wV (val a) (val b)))
theorem adU {neg:Bool} {a b:Nat} (h:dW a b=true):kZ neg a b=.ok (uH neg a b):=by
 obtain⟨w,e,j⟩:=mX.1 h;have l:=(rP (a/aAD a b) 128).2 (c9 _ j);have u:=(rP (b/aAD a b) 128).2 (c9 _ e);unfold kZ uH;rw[if_neg Om]
def apB (a b:Nat):Bool:=decide (nl a>128)||decide (nl b>128)
def avP (x:FV):FR:=if apB x.2.1 x.2.2 then .error 2 else .ok x
structure aoP (C:Ctx):Prop extends arS C where
 valid:∀ x:RF,x.Ok→aG C 56 [.agg x.cells] .nil (aM (.bool (dW (val x.num) (val x.den))))
 big:∀ x:FV,aG C 48 [.agg x.rf.cells] .nil (aM (.bool (apB x.2.1 x.2.2)))
structure aoQ (C:Ctx):Prop extends aoP C where
 fits:∀ x:FV,aG C 57 [.agg x.rf.cells] .nil (aM (frV (avP x)))
 red:∀ x:RF,x.Ok→aG C 52 [.agg x.cells] .nil (aM (frV (uN x)))
 prod:∀ a b,Lim a→Lim b→a.length≤35184372087808→b.length≤35184372087808→nl (val a)≤256→nl (val b)≤256→aG C 60 [aI a,aI b] .nil (aM (aI (aJ (val a*val b))))
def RF.valid (x:RF):Prop:=dW (val x.num) (val x.den)=true
def afT (x y:RF):Int:=wT x.neg (val x.num) (val x.den) y.neg (val y.num) (val y.den)
structure aoR (C:Ctx):Prop extends aoQ C where
 order:∀ x y:RF,x.Ok→y.Ok→x.valid→y.valid→aG C 51 [.agg x.cells,.agg y.cells] .nil (aM (.int .i64 (afT x y)))
def Vf (x:RF):Int:=if val x.num=0 then 0 else if x.neg then -1 else 1
structure arR (C:Ctx):Prop extends aoR C where
 less:∀ x y:RF,x.Ok→y.Ok→x.valid→y.valid→aG C 49 [.agg x.cells,.agg y.cells] .nil (aM (.bool (decide (afT x y<0))))
 same:∀ x y:RF,x.Ok→y.Ok→x.valid→y.valid→aG C 53 [.agg x.cells,.agg y.cells] .nil (aM (.bool (afT x y==0)))
 sign:∀ x:RF,x.Ok→x.valid→aG C 54 [.agg x.cells] .nil (aM (.int .i64 (Vf x)))
 plus:∀ x y:RF,x.Ok→y.Ok→aG C 46 [.agg x.cells,.agg y.cells] .nil (aM (frV (kN x.v y.v)))
def aiE (k m:Int):Bool:=within k 1 6&&(within m 0 4&&decide (k+m≤8))

def aqH (a b c d e f:Nat):Bool:=decide (a≤4)&&(decide (b≤4)&&(decide (c≤40)&&(decide (d≤24)&&(decide (e≤4)&&decide (f≤12)))))
structure aoO (C:Ctx):Prop extends arR C where
 sum:∀ l:List RF,(∀ x∈l,x.Ok)→l.length≤9223372036854775807→aG C 55 [frs l] .nil (aM (frV (qM (l.map RF.v))))
 inn:∀ n lo hi:Int,aG C 76 [.int .i64 n,.int .i64 lo,.int .i64 hi] .nil (aM (.bool (within n lo hi)))
 code:∀ k m:Int,aG C 61 [.int .i64 k,.int .i64 m] .nil (aM (.bool (aiE k m)))
def avY (k m q s0 s1 s2 s3 s4:Int):Bool:=aiE k m&&(within q k (k+m)&&(decide (s0=0)&&(within s1 0 8&&(within s2 0 8&&(within s3 0 8&&within s4 0 8)))))
theorem ZW {x:RF} (h:fJ x=true):x.valid:=by
 unfold fJ uN at h;unfold RF.valid;cases e:dW (val x.num) (val x.den) with
 | true=>rfl
 | false =>rw[e] at h;simp at h
structure aiR (C:Ctx):Prop extends aoO C where
 small:∀ x:RF,x.Ok→aG C 74 [.agg x.cells] .nil (aM (.bool (fJ x)))
 nums:∀ k m q s0 s1 s2 s3 s4:Int,aG C 72 [.int .i64 k,.int .i64 m,.int .i64 q,.agg [.int .i64 s0,.int .i64 s1,.int .i64 s2,.int .i64 s3,.int .i64 s4]] .nil (aM (.bool (avY k m q s0 s1 s2 s3 s4)))
 sizes:∀ a b c d e f:Nat,aG C 73 [.int .i64 a,.int .i64 b,.int .i64 c,.int .i64 d,.int .i64 e,.int .i64 f] .nil (aM (.bool (aqH a b c d e f)))
structure aiS (C:Ctx):Prop extends aiR C where
 smalls:∀ l:List RF,oL l→∀ n:Int,aG C 75 [frs l,.int .i64 n] .nil (aM (.bool (decide ((l.length:Int)=n)&&l.all fJ)))
def awB (l:List RF) (m:Int):Bool:=decide ((l.length:Int)=max m 1)&&l.all fJ&&l.all bS
structure aiT (C:Ctx):Prop extends aiS C where
 reps:∀ l:List RF,oL l→∀ m:Int,aG C 66 [frs l,.int .i64 m] .nil (aM (.bool (awB l m)))
section
variable {H:PH} {B:List BX} {L:List LI}
end
abbrev IE (l:List (List UInt8)):List (List PV):=l.map fun s=>[PV.str s]
def apK:List (List UInt8)→List UInt8→Nat→Int
 | [],_,_=>-1
 | x::t,s,i=>if x==s then (i:Int) else apK t s (i+1)
structure aiU (C:Ctx):Prop extends aiT C where
 name:∀ s:List UInt8,aG C 62 [.str s] .nil (aM (.bool (isName s)))
 index:∀ (l:List (List UInt8)),l.length≤1000000→∀ s:List UInt8,aG C 71 [.sl 1 (IE l),.str s] .nil (aM (.int .i64 (apK l s 0)))
def Xg (l:List (List UInt8)) (s:List UInt8):Bool:=isName s&&!l.contains s
def Wd (l:List (List UInt8)) (s:List UInt8) (r:PV) (B:List BX) (L:List LI):Prop:=∃ e,r=.tup [e,.bool (Xg l s)]∧B=[]∧L=[(e,1,IE (l++[s]))]
theorem Zv {x:RF} (h:fJ x=true):decide (Vf x>0)=bS x:=by
 have j:=ZW h;unfold fJ uN at h;rw[show dW (val x.num) (val x.den)=true from j,if_pos rfl,adU j] at h;unfold Vf bS;by_cases e:val x.num=0
 ·simp[e]
 ·have hq:val x.num/aAD (val x.num) (val x.den)≠0:=by have:=Nat.div_pos (Nat.gcd_le_left (val x.den) (aCT e)) (Nat.gcd_pos_of_pos_left _ (aCT e));omega
  have l:x.neg=false:=by unfold uH at h;simp only[hq,ne_eq,not_false_eq_true,decide_true,aCJ,aAO] at h;simpa using h.1
  rw[if_neg e,l];simp[e]
structure gn (C:Ctx):Prop extends aiU C where
 fresh:∀ (l:List (List UInt8)),l.length≤1000000→∀ (s:List UInt8) (w:PV) (H:PH),aK H [] [(w,1,IE l)]→aG C 70 [w,.str s] H (fun r H'=>∃ B' L',Wd l s r B' L'∧aK H' B' L')
theorem gn.pos {C:Ctx} (L:gn C) {x:RF} (e:x.Ok) (h:fJ x=true):∃ n:Int,aG C 54 [.agg x.cells] .nil (aM (.int .i64 n))∧decide (n>0)=bS x:=⟨_,L.sign x e (ZW h),Zv h⟩
def Marks (R S:List Bool):Prop:=R.length=S.length∧∀ j:Nat,R[j]?=some true→S[j]?=some true
theorem Marks.trans {R S T:List Bool} (h:Marks R S) (k:Marks S T):Marks R T:=⟨h.1.trans k.1,fun j a=>k.2 j (h.2 j a)⟩

structure aoL (H:PH) (w:PV) (base ns:List (List UInt8)) (c:Bool) (i:Nat):Prop where
 ex:∃ names,aK H [] [(w,1,IE names)]∧(c=true→names=base++ns.take i)
section
variable {C:Ctx} {F:PF} {H:PH} {d:Option Nat} {K:PF→PH→Prop}
theorem aoL.call (L:gn C) {w:PV} {base j:List (List UInt8)} {i:Nat} {B:List BX} {e:List (List UInt8)} (h:aK H B [(w,1,IE e)]) (N:base.length≤1000) (hi:i≤1000) (A:e=base++j.take i) (u:i<j.length) {a b:Nat} (l:aN.evs F [.tmp a,.tmp b]=some [w,.str j[i]])
  (I:∀ x H',aK H' B [(x,1,IE (e++[j[i]]))]→aoL H' x base j true (i+1)→K (F.put d (.tup [x,.bool (Xg (base++j.take i) (j.getD i []))])) H'):fU C 70 [.tmp a,.tmp b] [] d K F H:=by
 refine DH (B1:=[]) (B2:=B) (L1:=[(w,1,IE e)]) (L2:=[]) (Q:=Wd e j[i]) h (fun J M=>L.fresh e (by rw[A,aAE,aAN]; omega) j[i] w J M) l ?_;rintro r B' L' H' ⟨x,rfl,rfl,rfl⟩ E;have y:j.getD i []=j[i]:=by simp[aAL,u]
 rw[y,← A] at I;refine I x H' E ⟨e++[j[i]],E.sub (List.nil_sublist _) (aCG.refl _),fun _=>?_⟩;rw[aCM u,← aBE,A]
end
















structure bJ where
 src:Nat
 dst:Nat
 cap:Nat
abbrev bJ.cells (a:bJ):List PV:=[.int .i64 a.src,.int .i64 a.dst,.int .i64 a.cap,.int .i64 0]
abbrev gp (l:List bJ):PV:=.sl 4 (l.map bJ.cells)
structure cB where
 nodes:Nat
 source:Nat
 sink:Nat
 arcs:List bJ
abbrev cB.cells (n:cB):List PV:=[.int .i64 n.nodes,.int .i64 n.source,.int .i64 n.sink,gp n.arcs]
structure fN (n:cB):Prop where
 two:2≤n.nodes
 few:n.nodes≤700
 num:n.arcs.length≤2500
 source:n.source<n.nodes
 sink:n.sink<n.nodes
 apart:n.source≠n.sink
 ends:∀ a∈n.arcs,a.src<n.nodes∧a.dst<n.nodes∧a.cap≤2147483647
def fW:List bJ→List Nat→Nat→Int
 | a::l,x::xs,v=>(if a.src=v then (x:Int) else 0)-(if a.dst=v then (x:Int) else 0)+fW l xs v
 | _,_,_=>0
def tI (S:Nat→Bool):List bJ→List Nat→Int
 | a::l,x::xs=>(if S a.src=true∧S a.dst=false then (x:Int) else 0)-(if S a.src=false∧S a.dst=true then (x:Int) else 0)+tI S l xs
 | _,_=>0
def nP (S:Nat→Bool) (g:Nat→Int):Nat→Int
 | 0=>0
 | n+1=>nP S g n+if S n=true then g n else 0
theorem XP (S:Nat→Bool) (g h:Nat→Int):∀ n,nP S (fun v=>g v+h v) n=nP S g n+nP S h n
 | 0=>rfl
 | n+1=>by rw[nP,nP,nP,XP S g h n];split<;>omega
theorem xV {S:Nat→Bool} {g h:Nat→Int}:∀ {n:Nat},(∀ v,v<n→S v=true→g v=h v)→nP S g n=nP S h n
 | 0,_=>rfl
 | n+1,e=>by
  rw[nP,nP,xV (n:=n) fun v j=>e v Om];split
  ·rename_i c; rw[e n Om c]
  ·rfl
theorem AW (S:Nat→Bool):∀ n,nP S (fun _=>0) n=0
 | 0=>rfl
 | n+1=>by rw[nP,AW S n]; split<;>rfl
theorem IH (S:Nat→Bool) (a:Nat) (x:Int):∀ {n:Nat},a<n→nP S (fun v=>if a=v then x else 0) n=if S a=true then x else 0
 | 0,h=>by omega
 | n+1,h=>by
  rw[nP];by_cases e:a=n
  ·subst e;rw[xV (h:=fun _=>0) (n:=a) fun v j _=>by rw[if_neg Om],AW,if_pos rfl];omega
  ·rw[IH S a x (n:=n) Om,if_neg e];split<;>split<;>omega
theorem Q3 (S:Nat→Bool) {N:Nat}:∀ {l:List bJ} {xs:List Nat},(∀ a∈l,a.src<N∧a.dst<N)→nP S (fW l xs) N=tI S l xs
 | [],_,_=>AW S N
 | _::_,[],_=>AW S N
 | a::l,x::xs,h=>by
  obtain⟨j,u⟩:=h a (by simp);have w:=Q3 S (l:=l) (xs:=xs) fun b hb=>h b (aDM _ hb);have e:nP S (fW (a::l) (x::xs)) N=nP S (fun v=>if a.src=v then (x:Int) else 0) N+(nP S (fun v=>if a.dst=v then -(x:Int) else 0) N+nP S (fW l xs) N):=by rw[← XP,← XP];refine xV fun v _ _=>?_;rw[fW];split<;>split<;>omega
  rw[e,IH S _ _ j,IH S _ _ u,w,tI];cases S a.src<;>cases S a.dst<;>simp<;>omega
structure fY (n:cB) (xs:List Nat):Prop where
 len:xs.length=n.arcs.length
 le:∀ (i:Nat) a x,n.arcs[i]?=some a→xs[i]?=some x→x≤a.cap
 node:∀ v,v<n.nodes→v≠n.source→v≠n.sink→fW n.arcs xs v=0
def iJ (n:cB) (xs:List Nat):Int:=fW n.arcs xs n.source
def dA (S:Nat→Bool):List bJ→Nat
 | []=>0
 | a::l=>(if S a.src=true∧S a.dst=false then a.cap else 0)+dA S l
theorem fY.cut {n:cB} (j:fN n) {xs:List Nat} (h:fY n xs) {S:Nat→Bool} (w:S n.source=true) (x:S n.sink=false):tI S n.arcs xs=iJ n xs:=by
 rw[← Q3 S (N:=n.nodes) fun a l=>⟨(j.ends a l).1,(j.ends a l).2.1⟩];rw[xV (h:=fun v=>if n.source=v then iJ n xs else 0) fun v y u=>?_,IH S _ _ j.source,if_pos w];by_cases e:n.source=v
 ·subst e; rw[if_pos rfl]; rfl
 ·rw[if_neg e];exact h.node v y (fun c=>e c.symm) fun c=>by rw[c,x] at u; cases u
theorem Qr (S:Nat→Bool):∀ {l:List bJ} {xs:List Nat},(∀ (i:Nat) a x,l[i]?=some a→xs[i]?=some x→x≤a.cap)→tI S l xs≤dA S l
 | [],_,_=>by simp[tI,dA]
 | _::_,[],_=>by simp[tI]
 | a::l,x::xs,h=>by have j:=h 0 a x rfl rfl;have u:=Qr S (l:=l) (xs:=xs) fun i b y hb e=>h (i+1) b y (by simpa using hb) (by simpa using e);rw[tI,dA];split<;>split<;>omega
theorem fY.X3 {n:cB} (l:fN n) {xs:List Nat} (h:fY n xs) {S:Nat→Bool} (e:S n.source=true) (j:S n.sink=false):iJ n xs≤dA S n.arcs:=by
 rw[← h.cut l e j];exact Qr S h.le
theorem Qq (S:Nat→Bool):∀ {l:List bJ} {xs:List Nat},xs.length=l.length→(∀ (i:Nat) a x,l[i]?=some a→xs[i]?=some x→(S a.src=true→S a.dst=false→x=a.cap)∧(S a.src=false→S a.dst=true→x=0))→tI S l xs=dA S l
 | [],_,_,_=>by simp[tI,dA]
 | _::_,[],h,_=>by simp at h
 | a::l,x::xs,w,h=>by
  have e:=h 0 a x rfl rfl;have B:=Qq S (l:=l) (xs:=xs) (by simpa using w) fun i b y hb A=>h (i+1) b y (by simpa using hb) (by simpa using A);rw[tI,dA,B];cases u:S a.src<;>cases j:S a.dst
  ·simp
  ·have:=e.2 u j;simp; omega
  ·have:=e.1 u j;simp; omega
  ·simp
theorem fY.full {n:cB} (u:fN n) {xs:List Nat} (h:fY n xs) {S:Nat→Bool} (e:S n.source=true) (j:S n.sink=false)
  (l:∀ (i:Nat) a x,n.arcs[i]?=some a→xs[i]?=some x→(S a.src=true→S a.dst=false→x=a.cap)∧(S a.src=false→S a.dst=true→x=0)):iJ n xs=dA S n.arcs:=by
 rw[← h.cut u e j];exact Qq S h.len l
theorem P0:∀ {l:List bJ} {xs:List Nat} {i:Nat} {a:bJ} {x:Nat} (y:Nat),l[i]?=some a→xs[i]?=some x→∀ v,fW l (xs.set i y) v=fW l xs v+(if a.src=v then (y:Int)-x else 0)-(if a.dst=v then (y:Int)-x else 0)
 | [],_,_,_,_,_,h,_,_=>by simp at h
 | _::_,[],_,_,_,_,_,h,_=>by simp at h
 | b::l,z::xs,0,a,x,y,e,j,v=>by simp only[List.getElem?_cons_zero,aCI.injEq] at e j;subst e; subst j;rw[aDX,fW,fW];split<;>split<;>omega
 | b::l,z::xs,i+1,a,x,y,e,j,v=>by rw[List.set_cons_succ,fW,fW,P0 (l:=l) (xs:=xs) y (by simpa using e) (by simpa using j) v];omega
theorem Et (l:List bJ):∀ (n:Nat) (v:Nat),fW l (aAC n 0) v=0:=by
 induction l with
 | nil=>intro n v; cases n<;>rfl
 | cons a l e =>
  intro n v;cases n with
  | zero=>rfl
  | succ n =>rw[List.replicate_succ,fW,e];split<;>split<;>rfl
theorem LC (n:cB):fY n (aAC n.arcs.length 0)∧iJ n (aAC n.arcs.length 0)=0:=by
 refine⟨⟨by simp,fun i a x _ e=>?_,fun v _ _ _=>Et _ _ _⟩,Et _ _ _⟩;have:=aCA e;rw[List.eq_of_mem_replicate this];exact aAP _
def Qm:Rg:=[iA 2 (.box true (Tm 0)),iI 4 0]
def Qn:Rg:=[iM 5 1,iA 6 (.bin .add (Ci 2) (Tm 5)),iM 4 6]
def NI:aE:=(sq Qm (sq Qn .ret))
def anB:List Nat:=[2]
def afQ:bB:=⟨2,7,NI,[.tmp 4]⟩
def jj:Rg:=[iA 3 (.box true (Tm 0)),iI 6 0]
def jk:Rg:=[iM 7 2,iC 8 .eql 7 0]
def Pv:Rg:=[iO 9 2 3,iM 10 1,iK2 11 282 9 10,iM 6 11]
def Pw:Rg:=[iF 12 0 3,iL 13 12,iA 14 (.bin .add (Ci 2) (Tm 13)),iM 15 1,iF 16 1 3,iL 17 16,iC 18 .sub 17 1,iB 19 .mul 15 18,iB 20 .add 14 19,iM 21 2,iB 22 .add 20 21,iC 23 .sub 22 1,iM 6 23]
def AL:aE:=(sq jj (.seq (sq jk (.cond (Tm 8) (sq Pv .ret) .skip)) (sq Pw .ret)))
def amO:List Nat:=[3]
def Um:bB:=⟨3,24,AL,[.tmp 6]⟩
def Px:Rg:=[iA 2 (.box true (Tm 0)),iI 4 0]
def Py:Rg:=[iF 5 0 2,iL 6 5,iF 7 1 2,iL 8 7,iB 9 .mul 6 8,iA 10 (.bin .add (Ci 2) (Tm 9)),iM 11 1,iB 12 .add 10 11,iM 4 12]
def MO:aE:=(sq Px (sq Py .ret))
def amQ:List Nat:=[2]
def afD:bB:=⟨2,13,MO,[.tmp 4]⟩
def Pd:Rg:=[iF 7 3 3,iL 8 7,iM 9 0,iM 10 1,iM 11 2,iA 12 (.build [zI,zI,zI,zI] [(0,1,(Tm 9)),(1,1,(Tm 10)),(2,1,(Tm 11))]),iA 13 (.ayS true 4 1 [zI,zI,zI,zI] [(0,(Tm 12))]),iA 14 (.append 4 32 (Tm 8) (Tm 13)),iF 15 3 3,iS 1 15 14]
def MK:aE:=(.region Pd)
def amI:List Nat:=[13]
def aeY:bB:=⟨3,16,MK,[]⟩
def Lz:Rg:=[iA 2 (.box true (Tm 0)),iA 4 (.alloc [zI,zI,zI,.aA]),iI 5 0]
def L3:Rg:=[iO 22 7 2,iK 23 96 22,iC 24 .neq 23 0]
def L4:Rg:=[iA 25 (.build [zI,zI,zI,.aA] []),iS 4 4 25,iI 5 1]
def L5:Rg:=[iF 26 6 2,iL 27 26,iN 28 27,iF 29 3 2,iL 30 29,iN 31 30,iA 32 (.build [zI,zI] [(0,1,(Tm 28)),(1,1,(Tm 31))]),iA 6 (.alloc [zI,zI]),iS 2 6 32]
def L6:Rg:=[iO 33 2 6,iF 34 4 2,iL 35 34,iN 36 35,iK2 37 284 33 36,iA 38 (.build [zI,zI,zI,.aA] [(0,1,(Tm 37)),(1,1,(Ci 0)),(2,1,(Ci 1))]),iA 7 (.alloc [zI,zI,zI,.aA]),iS 4 7 38]
def L7:Rg:=[iA 39 (.mkfn 285 [(Tm 7)]),iM 8 39]
def L8:Rg:=[iF 40 6 2,iL 41 40,iN 42 41,iI 43 0]
def L9:Rg:=[iB 44 .lss 43 42]
def Ma:Rg:=[iM 45 43,iX 46 2 41 43,iO 47 2 46,iA 10 (.alloc [(.str []),zI]),iM 9 45,iS 2 10 47]
def Mb:Rg:=[iF 48 5 2,iL 49 48,iF 50 1 10,iL 51 50,iX 52 17 49 51,iO 53 17 52,iA 11 (.alloc [(.str []),zI,zI,zI,zI,zI,zI,zI,zI,.aA,.aA,zB,.aA,.aA,zB,.aA,.aA]),iS 17 11 53]
def xe:Rg:=[iF 54 2 2,iL 55 54,iN 56 55,iA 57 (.ayV 1 1 [zB] (Tm 56) (Tm 56)),iM 12 57]
def xf:Rg:=[iF 58 9 11,iL 59 58,iN 60 59,iI 61 0]
def xg:Rg:=[iB 62 .lss 61 60]
def xh:Rg:=[iX 63 1 59 61,iL 64 63,iM 14 64]
def xi:Rg:=[iM 65 12,iM 66 14,iX 67 1 65 66,⟨none,.store 1 (Tm 67) (.const (.bool true)),none⟩]
def xj:Rg:=[iC 68 .add 61 1,iM 61 68]
def TO:aE:=(sq xg (.seq (.cond (Tm 62) .skip (.exit 2)) (.seq (.block 3 (sq xh (.region xi))) (.region xj))))
def xk:Rd:=[(iM 69 8,true),(iO 70 2 6,false),(iM 71 9,false),(iK2 72 282 70 71,true),(iF 73 1 11,true),(iL 74 73,true),(iF 75 2 11,true),(iL 76 75,true),(iB 77 .add 74 76,true),(iA 78 (.azQ (Tm 69) [(Ci 0),(Tm 72),(Tm 77)]),true)]
def xl:Rg:=[iF 79 3 2,iL 80 79,iN 81 80,iI 82 0]
def xm:Rg:=[iB 83 .lss 82 81]
def xn:Rg:=[iM 84 82,iX 85 7 80 82,iO 86 7 85,iA 16 (.alloc [(.str []),zI,zI,zI,zB,.aA,.aA]),iM 15 84,iS 7 16 86]
def TT:Rg:=[iM 87 15,iC 88 .eql 87 0]
def TU:Rg:=[iF 89 1 16,iL 90 89,iF 91 4 11,iA 92 (.idxA 5 1 (Tm 91) (Tm 90)),iL 93 92,iM 17 93]
def TV:Rg:=[iM 94 17,iC 95 .eql 94 0]
def xo:Rg:=[iF 96 1 11,iL 97 96,iF 98 2 11,iL 99 98,iB 100 .add 97 99,iM 17 100]
def TW:Rd:=[(iM 101 8,true),(iO 102 2 6,false),(iM 103 9,false),(iF 104 2 16,false),(iL 105 104,false),(iA 106 (.call 283 [(Tm 102),(Tm 103),(Tm 105)]),true),(iO 107 2 6,true),(iM 108 9,true),(iM 109 15,true),(iA 110 (.call 283 [(Tm 107),(Tm 108),(Tm 109)]),true),(iM 111 17,true),(iA 112 (.azQ (Tm 101) [(Tm 106),(Tm 110),(Tm 111)]),true)]
def FC:Rg:=[iC 113 .add 82 1,iM 82 113]
def TP:aE:=(sq xm (.seq (.cond (Tm 83) .skip (.exit 4)) (.seq (.block 5 (sq xn (.seq (sq TT (.cond (Tm 88) (.exit 5) .skip)) (sq TU (.seq (sq TV (.cond (Tm 95) (.region xo) .skip)) (.draw TW)))))) (.region FC))))
def xp:Rg:=[iF 114 4 2,iL 115 114,iN 116 115,iI 117 0]
def xq:Rg:=[iB 118 .lss 117 116]
def xr:Rg:=[iM 119 117,iX 120 3 115 117,iO 121 3 120,iA 19 (.alloc [(.str []),zI,zI]),iM 18 119,iS 3 19 121]
def xt:Rg:=[iM 122 12,iF 123 1 19,iL 124 123,iX 125 1 122 124,iL 126 125]
def xu:Rd:=[(iM 127 8,true),(iO 128 2 6,false),(iM 129 9,false),(iF 130 2 19,false),(iL 131 130,false),(iA 132 (.call 283 [(Tm 128),(Tm 129),(Tm 131)]),true),(iO 133 2 6,true),(iM 134 18,true),(iK2 135 284 133 134,true),(iA 136 (.azQ (Tm 127) [(Tm 132),(Tm 135),(Ci 1)]),true)]
def TX:Rg:=[iC 137 .add 117 1,iM 117 137]
def TQ:aE:=(sq xq (.seq (.cond (Tm 118) .skip (.exit 6)) (.seq (.block 7 (sq xr (sq xt (.cond (Tm 126) (.draw xu) .skip)))) (.region TX))))
def xv:Rg:=[iC 138 .add 43 1,iM 43 138]
def TR:aE:=(sq L9 (.seq (.cond (Tm 44) .skip (.exit 0)) (.seq (.block 1 (sq Ma (sq Mb (sq xe (.seq (sq xf (.block 2 (.loop TO))) (dq xk (.seq (sq xl (.block 4 (.loop TP))) (sq xp (.block 6 (.loop TQ)))))))))) (.region xv))))
def xw:Rg:=[iO 139 7 2,iM 140 1,iK2 141 152 139 140,iN 142 141,iI 143 0]
def xx:Rg:=[iB 144 .lss 143 142]
def xy:Rg:=[iM 145 143,iX 146 1 141 143,iL 147 146,iM 20 145,iM 21 147]
def xz:Rg:=[iM 148 8,iO 149 2 6,iM 150 20,iK2 151 284 149 150,iM 152 21,iA 153 (.azQ (Tm 148) [(Tm 151),(Ci 1),(Tm 152)])]
def x2:Rg:=[iC 154 .add 143 1,iM 143 154]
def TS:aE:=(sq xx (.seq (.cond (Tm 144) .skip (.exit 8)) (.seq (.block 9 (sq xy (.region xz))) (.region x2))))
def x3:Rg:=[iO 155 4 7,iS 4 4 155,iI 5 0]
def LF:aE:=(sq Lz (.seq (sq L3 (.cond (Tm 24) (sq L4 .ret) .skip)) (sq L5 (sq L6 (sq L7 (.seq (sq L8 (.block 0 (.loop TR))) (.seq (sq xw (.block 8 (.loop TS))) (sq x3 .ret))))))))
def akE:List Nat:=[2]
def acC:bB:=⟨2,156,LF,[.cell 4 (some 4),.tmp 5]⟩
def Lr:Rg:=[iA 1 (.box true (Tm 0)),iI 2 0]
def Ls:Rg:=[iI 3 0]
def Lt:Rg:=[iF 6 6 1,iL 7 6,iN 8 7,iI 9 0]
def Lu:Rg:=[iB 10 .lss 9 8]
def Lw:Rg:=[iX 11 2 7 9,iO 12 2 11,iA 5 (.alloc [(.str []),zI]),iS 2 5 12]
def Lx:Rd:=[(iM 13 3,false),(iF 14 5 1,false),(iL 15 14,false),(iF 16 1 5,false),(iL 17 16,false),(iX 18 17 15 17,false),(iF 19 1 18,false),(iL 20 19,false),(iF 21 5 1,false),(iL 22 21,false),(iF 23 1 5,false),(iL 24 23,false),(iX 25 17 22 24,false),(iF 26 2 25,false),(iL 27 26,false),(iB 28 .add 20 27,false),(iB 29 .add 13 28,false),(iM 3 29,false)]
def ie:Rg:=[iC 30 .add 9 1,iM 9 30]
def Lp:aE:=(sq Lu (.seq (.cond (Tm 10) .skip (.exit 0)) (.seq (.block 1 (sq Lw (.draw Lx))) (.region ie))))
def Ly:Rg:=[iM 31 3,iM 2 31]
def KX:aE:=(sq Lr (sq Ls (.seq (sq Lt (.block 0 (.loop Lp))) (sq Ly .ret))))
def akB:List Nat:=[1]
def abX:bB:=⟨1,32,KX,[.tmp 2]⟩
def k7:Rg:=[iA 2 (.box true (Tm 0)),iZ 4,iI 5 0]
def lf:Rg:=[iO 18 7 2,iM 19 1,iK2 20 286 18 19,iM 17 20,iE 21 17 0,iE 22 17 1,iA 6 (.alloc [zI,zI,zI,.aA]),iS 4 6 21,iM 7 22]
def LG:Rg:=[iM 23 7,iC 24 .neq 23 0]
def lg:Rg:=[iM 25 7,iZ 4,iM 5 25]
def lh:Rg:=[iO 27 4 6,iK 28 298 27,iM 26 28,iE 29 26 0,iE 30 26 1,iE 31 26 2,iE 32 26 3,iM 8 29,iM 9 30,iM 10 31,iM 11 32]
def lj:Rg:=[iM 33 9,iO 34 7 2,iK 35 287 34,iB 36 .lss 33 35]
def lk:Rg:=[iZ 4,iI 5 12]
def ll:Rg:=[iF 37 6 2,iL 38 37,iN 39 38,iF 40 3 2,iL 41 40,iN 42 41,iA 43 (.build [zI,zI] [(0,1,(Tm 39)),(1,1,(Tm 42))]),iA 12 (.alloc [zI,zI]),iS 2 12 43]
def lm:Rg:=[iF 44 6 2,iL 45 44,iN 46 45,iA 47 (.ayV 1 24 [.aA] (Tm 46) (Tm 46)),iM 13 47]
def ln:Rg:=[iF 48 3 6,iL 49 48,iN 50 49,iI 51 0]
def ZD:Rg:=[iB 52 .lss 51 50]
def ZE:Rg:=[iM 53 51,iX 54 4 49 51,iO 55 4 54,iA 15 (.alloc [zI,zI,zI,zI]),iM 14 53,iS 4 15 55]
def FF:Rd:=[(iF 56 1 15,true),(iL 57 56,true),(iO 58 2 12,false),(iA 59 (.call 284 [(Tm 58),(Ci 0)]),true),(iB 60 .lss 57 59,false),(iM 61 60,false),(gM 62 8 61 false,false),(gM 63 14 61 false,false),(iG 64 (.azE 1 (Tm 62) (Tm 63)) 61 false,false),(gL 65 64 61 false,false),(gC 66 .eql 65 0 61 false,false),(iQ 67 61 66,false)]
def ZF:Rg:=[iF 68 0 15,iL 69 68,iC 70 .sub 69 2,iF 71 0 12,iL 72 71,iB 73 .sub 70 72,iF 74 1 12,iL 75 74,iC 76 .sub 75 1,iB 77 .quo 73 76,iM 16 77]
def ZG:Rd:=[(iM 78 13,true),(iM 79 16,true),(iM 80 13,true),(iM 81 16,true),(iX 82 1 80 81,true),(iL 83 82,true),(iF 84 1 15,true),(iL 85 84,true),(iO 86 2 12,false),(iA 87 (.call 284 [(Tm 86),(Ci 0)]),true),(iB 88 .sub 85 87,false),(iA 89 (.ayS true 1 1 [zI] [(0,(Tm 88))]),false),(iA 90 (.append 1 8 (Tm 83) (Tm 89)),true),(iX 91 1 78 79,false)]
def ZH:Rd:=[(iS 1 91 90,true)]
def wZ:Rg:=[iC 92 .add 51 1,iM 51 92]
def FD:aE:=(sq ZD (.seq (.cond (Tm 52) .skip (.exit 0)) (.seq (.block 1 (sq ZE (.seq (dq FF (.cond (Tm 67) (.exit 1) .skip)) (sq ZF (dq ZG (.draw ZH)))))) (.region wZ))))
def ZI:Rg:=[iM 93 13,iM 4 93,iI 5 0]
def BH:aE:=(sq k7 (sq lf (.seq (sq LG (.cond (Tm 24) (sq lg .ret) .skip)) (sq lh (.seq (sq lj (.cond (Tm 36) (sq lk .ret) .skip)) (sq ll (sq lm (.seq (sq ln (.block 0 (.loop FD))) (sq ZI .ret)))))))))
def Xf:List Nat:=[2,89]
def x4:bB:=⟨2,94,BH,[.tmp 4,.tmp 5]⟩
def Mm:Rg:=[iA 2 (.box true (Tm 0)),iA 4 (.alloc [.aA,.aA,.aA]),iT 5 false]
def Mn:Rg:=[iO 19 7 2,iM 20 1,iK2 21 286 19 20,iM 18 21,iE 22 18 0,iE 23 18 1,iA 6 (.alloc [zI,zI,zI,.aA]),iS 4 6 22,iM 7 23]
def ik:Rg:=[iM 24 7,iC 25 .neq 24 0]
def Mo:Rg:=[iA 26 (.build [.aA,.aA,.aA] []),iS 3 4 26,iT 5 false]
def Mp:Rg:=[iO 28 4 6,iK 29 298 28,iM 27 29,iE 30 27 0,iE 31 27 1,iE 32 27 2,iE 33 27 3,iM 8 30,iM 9 31,iM 10 32,iM 11 33]
def Mq:Rg:=[iM 34 9,iO 35 7 2,iK 36 287 35,iB 37 .eql 34 36]
def Mr:Rg:=[iA 38 (.build [.aA,.aA,.aA] []),iS 3 4 38,iT 5 false]
def Ms:Rg:=[iF 39 6 2,iL 40 39,iN 41 40,iF 42 3 2,iL 43 42,iN 44 43,iA 45 (.build [zI,zI] [(0,1,(Tm 41)),(1,1,(Tm 44))]),iA 12 (.alloc [zI,zI]),iS 2 12 45]
def Mt:Rg:=[iA 13 (.alloc [.aA,.aA,.aA])]
def Mu:Rg:=[iF 46 6 2,iL 47 46,iN 48 47,iI 49 0]
def yb:Rg:=[iB 50 .lss 49 48]
def yc:Rg:=[iM 51 49,iM 14 51]
def yd:Rd:=[(iF 52 0 13,true),(iL 53 52,true),(iM 54 10,true),(iO 55 2 12,false),(iM 56 14,false),(iK2 57 282 55 56,true),(iX 58 1 54 57,false),(iL 59 58,false),(iA 60 (.ayS true 1 1 [zB] [(0,(Tm 59))]),false),(iA 61 (.append 1 1 (Tm 53) (Tm 60)),true),(iF 62 0 13,false)]
def ye:Rd:=[(iS 1 62 61,true)]
def yf:Rg:=[iF 63 3 2,iL 64 63,iN 65 64,iA 66 (.ayV 1 1 [zB] (Ci 0) (Tm 65)),iM 15 66]
def yg:Rg:=[iI 16 1]
def yh:Rg:=[iM 67 16,iF 68 3 2,iL 69 68,iN 70 69,iB 71 .lss 67 70]
def yi:Rg:=[iM 74 15,iM 75 10,iO 76 2 12,iM 77 14,iM 78 16,iA 79 (.call 283 [(Tm 76),(Tm 77),(Tm 78)]),iX 80 1 75 79,iL 81 80,iA 82 (.ayS true 1 1 [zB] [(0,(Tm 81))]),iA 83 (.append 1 1 (Tm 74) (Tm 82)),iM 15 83]
def yj:Rg:=[iM 72 16,iC 73 .add 72 1,iM 16 73]
def UB:aE:=(.seq (sq yh (.cond (Tm 71) .skip (.exit 2))) (.seq (.block 3 (.region yi)) (.region yj)))
def yk:Rg:=[iF 84 1 13,iL 85 84,iM 86 15,iA 87 (.ayS true 1 1 [.aA] [(0,(Tm 86))]),iA 88 (.append 1 24 (Tm 85) (Tm 87)),iF 89 1 13,iS 1 89 88]
def yl:Rg:=[iC 90 .add 49 1,iM 49 90]
def UC:aE:=(sq yb (.seq (.cond (Tm 50) .skip (.exit 0)) (.seq (.block 1 (sq yc (.seq (dq yd (.draw ye)) (sq yf (.seq (sq yg (.block 2 (.loop UB))) (.region yk)))))) (.region yl))))
def ym:Rg:=[iF 91 4 2,iL 92 91,iN 93 92,iI 94 0]
def yn:Rg:=[iB 95 .lss 94 93]
def yo:Rg:=[iM 96 94,iM 17 96]
def yq:Rd:=[(iF 97 2 13,true),(iL 98 97,true),(iM 99 10,true),(iO 100 2 12,false),(iM 101 17,false),(iK2 102 284 100 101,true),(iX 103 1 99 102,false),(iL 104 103,false),(iA 105 (.ayS true 1 1 [zB] [(0,(Tm 104))]),false),(iA 106 (.append 1 1 (Tm 98) (Tm 105)),true),(iF 107 2 13,false)]
def yr:Rd:=[(iS 1 107 106,true)]
def yu:Rg:=[iC 108 .add 94 1,iM 94 108]
def UD:aE:=(sq yn (.seq (.cond (Tm 95) .skip (.exit 4)) (.seq (.block 5 (sq yo (dq yq (.draw yr)))) (.region yu))))
def yv:Rg:=[iO 109 3 13,iS 3 4 109,iT 5 true]
def LJ:aE:=(sq Mm (sq Mn (.seq (sq ik (.cond (Tm 25) (sq Mo .ret) .skip)) (sq Mp (.seq (sq Mq (.cond (Tm 37) (sq Mr .ret) .skip)) (sq Ms (sq Mt (.seq (sq Mu (.block 0 (.loop UC))) (.seq (sq ym (.block 4 (.loop UD))) (sq yv .ret))))))))))
def akM:List Nat:=[2,60,82,87,105]
def acG:bB:=⟨2,110,LJ,[.cell 4 (some 3),.tmp 5]⟩
def Ld:Rg:=[iA 3 (.box true (Tm 0)),iA 5 (.box true (Tm 2)),iT 6 false]
def Le:Rg:=[iO 15 7 3,iM 16 1,iK2 17 286 15 16,iM 14 17,iE 18 14 0,iE 19 14 1,iA 7 (.alloc [zI,zI,zI,.aA]),iS 4 7 18,iM 8 19]
def yH:Rg:=[iM 20 8,iC 21 .neq 20 0,iM 22 21,gF 23 0 5 22 false,gL 24 23 22 false,gN 25 24 22 false,gF 26 6 3 22 false,gL 27 26 22 false,gN 28 27 22 false,gB 29 .neq 25 28 22 false,iQ 30 22 29,iM 31 30,gF 32 1 5 31 false,gL 33 32 31 false,gN 34 33 31 false,gF 35 6 3 31 false,gL 36 35 31 false,gN 37 36 31 false,gB 38 .neq 34 37 31 false,iQ 39 31 38,iM 40 39,gF 41 2 5 40 false,gL 42 41 40 false,gN 43 42 40 false,gF 44 4 3 40 false,gL 45 44 40 false,gN 46 45 40 false,gB 47 .neq 43 46 40 false,iQ 48 40 47]
def DP:Rg:=[iT 6 false]
def Lf:Rg:=[iA 49 (.ayS false 1 2 [zB] [(0,(.const (.bool true))),(1,(.const zB))]),iF 50 0 5,iL 51 50,iA 52 (.append 1 1 (Tm 49) (Tm 51)),iM 9 52]
def Lg:Rg:=[iF 53 1 5,iL 54 53,iN 55 54,iI 56 0]
def Lh:Rg:=[iB 57 .lss 56 55]
def Li:Rg:=[iX 58 1 54 56,iL 59 58,iM 11 59]
def Lj:Rg:=[iM 60 11,iN 61 60,iF 62 3 3,iL 63 62,iN 64 63,iC 65 .sub 64 1,iB 66 .neq 61 65]
def Lk:Rg:=[iT 6 false]
def wm:Rg:=[iM 67 9,iM 68 11,iA 69 (.append 1 1 (Tm 67) (Tm 68)),iM 9 69]
def wn:Rg:=[iC 70 .add 56 1,iM 56 70]
def wk:aE:=(sq Lh (.seq (.cond (Tm 57) .skip (.exit 0)) (.seq (.block 1 (sq Li (.seq (sq Lj (.cond (Tm 66) (sq Lk .ret) .skip)) (.region wm)))) (.region wn))))
def wq:Rd:=[(iO 72 4 7,true),(iM 73 9,false),(iF 74 2 5,false),(iL 75 74,false),(iA 76 (.append 1 1 (Tm 73) (Tm 75)),true),(iK2 77 293 72 76,true),(iM 71 77,false),(iE 78 71 0,false),(iE 79 71 1,false),(iM 12 78,false),(iM 13 79,false)]
def wr:Rg:=[iM 80 13,iM 81 80,gM 82 12 81 true,gO 83 7 3 81 true,gK 84 287 83 81 true,gB 85 .lss 82 84 81 true,iP 86 81 85,iM 6 86]
def KV:aE:=(sq Ld (sq Le (.seq (sq yH (.cond (Tm 48) (sq DP .ret) .skip)) (sq Lf (.seq (sq Lg (.block 0 (.loop wk))) (dq wq (sq wr .ret)))))))
def ajX:List Nat:=[3,5]
def abV:bB:=⟨3,87,KV,[.tmp 6]⟩
def Do:Rg:=[iT 3 false]
def Dp:Rg:=[iM 4 0,iC 5 .geq 4 0,iM 6 5,gM 7 0 6 true,gF 8 0 1 6 true,gL 9 8 6 true,gB 10 .lss 7 9 6 true,iP 11 6 10,iM 3 11]
def HI:aE:=(sq Do (sq Dp .ret))
def aeT:List Nat:=[]
def Ub:bB:=⟨1,12,HI,[.tmp 3]⟩
def pg:Rg:=[iA 1 (.box false (Tm 0)),iT 2 false]
def pi:Rg:=[iA 6 (.mkfn 291 [(Tm 1)]),iM 3 6]
def pj:Rg:=[iF 7 0 1,iL 8 7,iC 9 .lss 8 2,iM 10 9,gF 11 0 1 10 false,gL 12 11 10 false,gC 13 .gtr 12 700 10 false,iQ 14 10 13,iM 15 14,gF 16 3 1 15 false,gL 17 16 15 false,gN 18 17 15 false,gC 19 .gtr 18 2500 15 false,iQ 20 15 19,iM 21 20,gM 22 3 21 false,gF 23 1 1 21 false,gL 24 23 21 false,iG 25 (.azQ (Tm 22) [(Tm 24)]) 21 false,iG 26 (.un .not (Tm 25)) 21 false,iQ 27 21 26,iM 28 27,gM 29 3 28 false,gF 30 2 1 28 false,gL 31 30 28 false,iG 32 (.azQ (Tm 29) [(Tm 31)]) 28 false,iG 33 (.un .not (Tm 32)) 28 false,iQ 34 28 33,iM 35 34,gF 36 1 1 35 false,gL 37 36 35 false,gF 38 2 1 35 false,gL 39 38 35 false,gB 40 .eql 37 39 35 false,iQ 41 35 40]
def Yo:Rg:=[iT 2 false]
def pn:Rg:=[iF 42 3 1,iL 43 42,iN 44 43,iI 45 0]
def po:Rg:=[iB 46 .lss 45 44]
def pq:Rg:=[iX 47 4 43 45,iO 48 4 47,iA 5 (.alloc [zI,zI,zI,zI]),iS 4 5 48]
def pt:Rg:=[iM 49 3,iF 50 0 5,iL 51 50,iA 52 (.azQ (Tm 49) [(Tm 51)]),iA 53 (.un .not (Tm 52)),iM 54 53,gM 55 3 54 false,gF 56 1 5 54 false,gL 57 56 54 false,iG 58 (.azQ (Tm 55) [(Tm 57)]) 54 false,iG 59 (.un .not (Tm 58)) 54 false,iQ 60 54 59,iM 61 60,gF 62 2 5 61 false,gL 63 62 61 false,gC 64 .lss 63 0 61 false,iQ 65 61 64,iM 66 65,gF 67 2 5 66 false,gL 68 67 66 false,gC 69 .gtr 68 2147483647 66 false,iQ 70 66 69]
def Yp:Rg:=[iT 2 false]
def pu:Rg:=[iC 71 .add 45 1,iM 45 71]
def cg:aE:=(sq po (.seq (.cond (Tm 46) .skip (.exit 0)) (.seq (.block 1 (sq pq (sq pt (.cond (Tm 70) (sq Yp .ret) .skip)))) (.region pu))))
def ch:Rg:=[iT 2 true]
def BS:aE:=(sq pg (sq pi (.seq (sq pj (.cond (Tm 41) (sq Yo .ret) .skip)) (.seq (sq pn (.block 0 (.loop cg))) (sq ch .ret)))))
def Yq:List Nat:=[]
def D3:bB:=⟨1,72,BS,[.tmp 2]⟩
def N9:Rg:=[iA 2 (.box true (Tm 0)),iI 4 0,iT 5 false]
def Oa:Rg:=[iO 9 4 2,iK 10 292 9,iA 11 (.un .not (Tm 10)),iM 12 11,gM 13 1 12 false,gN 14 13 12 false,gF 15 0 2 12 false,gL 16 15 12 false,gB 17 .neq 14 16 12 false,iQ 18 12 17,iM 19 18,gM 20 1 19 false,gF 21 1 2 19 false,gL 22 21 19 false,iG 23 (.azE 1 (Tm 20) (Tm 22)) 19 false,gL 24 23 19 false,iG 25 (.un .not (Tm 24)) 19 false,iQ 26 19 25,iM 27 26,gM 28 1 27 false,gF 29 2 2 27 false,gL 30 29 27 false,iG 31 (.azE 1 (Tm 28) (Tm 30)) 27 false,gL 32 31 27 false,iQ 33 27 32]
def alU:Rg:=[iI 4 0,iT 5 false]
def Ob:Rg:=[iI 6 0]
def Oc:Rg:=[iF 34 3 2,iL 35 34,iN 36 35,iI 37 0]
def Od:Rg:=[iB 38 .lss 37 36]
def Oe:Rg:=[iX 39 4 35 37,iO 40 4 39,iA 8 (.alloc [zI,zI,zI,zI]),iS 4 8 40]
def Of:Rg:=[iM 41 1,iF 42 0 8,iL 43 42,iX 44 1 41 43,iL 45 44,iM 46 45,gM 47 1 46 true,gF 48 1 8 46 true,gL 49 48 46 true,iG 50 (.azE 1 (Tm 47) (Tm 49)) 46 true,gL 51 50 46 true,iG 52 (.un .not (Tm 51)) 46 true,iP 53 46 52]
def Og:Rg:=[iM 54 6,iF 55 2 8,iL 56 55,iB 57 .add 54 56,iM 6 57]
def QB:Rg:=[iC 58 .add 37 1,iM 37 58]
def Cs:aE:=(sq Od (.seq (.cond (Tm 38) .skip (.exit 0)) (.seq (.block 1 (sq Oe (sq Of (.cond (Tm 53) (.region Og) .skip)))) (.region QB))))
def Ct:Rg:=[iM 59 6,iM 4 59,iT 5 true]
def MB:aE:=(sq N9 (.seq (sq Oa (.cond (Tm 33) (sq alU .ret) .skip)) (sq Ob (.seq (sq Oc (.block 0 (.loop Cs))) (sq Ct .ret)))))
def alV:List Nat:=[2]
def adZ:bB:=⟨2,60,MB,[.tmp 4,.tmp 5]⟩
def VI:Rg:=[iI 4 0,iI 5 0]
def VJ:Rg:=[iM 6 1,iC 7 .geq 6 0]
def Cu:Rd:=[(iM 8 0,false),(iA 9 (.azA (Tm 8)),false),(iF 10 0 9,false),(iF 11 3 10,false),(iL 12 11,false),(iM 13 1,false),(iX 14 4 12 13,false),(iF 15 1 14,false),(iL 16 15,false),(iM 17 0,false),(iA 18 (.azA (Tm 17)),false),(iF 19 0 18,false),(iF 20 3 19,false),(iL 21 20,false),(iM 22 1,false),(iX 23 4 21 22,false),(iF 24 2 23,false),(iL 25 24,false),(iM 26 0,false),(iA 27 (.azA (Tm 26)),false),(iF 28 4 27,false),(iL 29 28,false),(iM 30 1,false),(iX 31 1 29 30,false),(iL 32 31,false),(iB 33 .sub 25 32,false),(iM 4 16,false),(iM 5 33,false)]
def Cv:Rd:=[(iM 34 0,false),(iA 35 (.azA (Tm 34)),false),(iF 36 0 35,false),(iF 37 3 36,false),(iL 38 37,false),(iM 39 1,false),(iA 40 (.bin .sub (Ci (-1)) (Tm 39)),false),(iX 41 4 38 40,false),(iF 42 0 41,false),(iL 43 42,false),(iM 44 0,false),(iA 45 (.azA (Tm 44)),false),(iF 46 4 45,false),(iL 47 46,false),(iM 48 1,false),(iA 49 (.bin .sub (Ci (-1)) (Tm 48)),false),(iX 50 1 47 49,false),(iL 51 50,false),(iM 4 43,false),(iM 5 51,false)]
def xE:aE:=(sq VI (.seq (sq VJ (.cond (Tm 7) (dq Cu .ret) .skip)) (dq Cv .ret)))
def aeB:List Nat:=[]
def ul:bB:=⟨2,52,xE,[.tmp 4,.tmp 5]⟩
def VG:Rg:=[iI 4 0]
def VH:Rg:=[iM 5 1,iC 6 .geq 5 0]
def Cq:Rg:=[iM 7 0,iA 8 (.azA (Tm 7)),iF 9 0 8,iF 10 3 9,iL 11 10,iM 12 1,iX 13 4 11 12,iF 14 0 13,iL 15 14,iM 4 15]
def Cr:Rg:=[iM 16 0,iA 17 (.azA (Tm 16)),iF 18 0 17,iF 19 3 18,iL 20 19,iM 21 1,iA 22 (.bin .sub (Ci (-1)) (Tm 21)),iX 23 4 20 22,iF 24 1 23,iL 25 24,iM 4 25]
def xD:aE:=(sq VG (.seq (sq VH (.cond (Tm 6) (sq Cq .ret) .skip)) (sq Cr .ret)))
def adY:List Nat:=[]
def uk:bB:=⟨2,26,xD,[.tmp 4]⟩
def n6:Rg:=[iZ 2,iZ 3]
def n8:Rd:=[(iM 11 0,false),(iA 12 (.azA (Tm 11)),false),(iF 13 0 12,false),(iF 14 0 13,false),(iL 15 14,false),(iA 16 (.ayV 1 8 [zI] (Tm 15) (Tm 15)),true),(iM 17 0,false),(iA 18 (.azA (Tm 17)),false),(iF 19 0 18,false),(iF 20 0 19,false),(iL 21 20,false),(iA 22 (.ayV 1 1 [zB] (Tm 21) (Tm 21)),true),(iM 4 16,false),(iM 5 22,false)]
def n9:Rg:=[iM 23 5,iM 24 0,iA 25 (.azA (Tm 24)),iF 26 0 25,iF 27 1 26,iL 28 27,iX 29 1 23 28,⟨none,.store 1 (Tm 29) (.const (.bool true)),none⟩]
def oa:Rg:=[iM 30 0,iA 31 (.azA (Tm 30)),iF 32 0 31,iF 33 1 32,iL 34 33,iA 35 (.ayS false 1 1 [zI] [(0,(Tm 34))]),iM 6 35]
def oc:Rg:=[iM 36 6,iN 37 36,iC 38 .gtr 37 0]
def oe:Rd:=[(iM 41 0,false),(iA 42 (.azA (Tm 41)),false),(iF 43 5 42,false),(iL 44 43,false),(iM 45 6,false),(iA 46 (.azE 1 (Tm 45) (Ci 0)),false),(iL 47 46,false),(iX 48 1 44 47,false),(iL 49 48,false),(iN 50 49,false),(iI 51 0,false)]
def og:Rg:=[iB 52 .lss 51 50]
def oi:Rg:=[iX 53 1 49 51,iL 54 53,iM 8 54]
def oj:Rg:=[iM 56 0,iM 57 8,iK2 58 294 56 57,iM 55 58,iE 59 55 0,iE 60 55 1,iM 9 59,iM 10 60]
def AK:Rg:=[iM 61 10,iC 62 .gtr 61 0,iM 63 62,gM 64 5 63 true,gM 65 9 63 true,iG 66 (.azE 1 (Tm 64) (Tm 65)) 63 true,gL 67 66 63 true,iG 68 (.un .not (Tm 67)) 63 true,iP 69 63 68]
def bs:Rg:=[iM 70 5,iM 71 9,iM 72 4,iM 73 9,iM 74 8,iX 75 1 70 71,⟨none,.store 1 (Tm 75) (.const (.bool true)),none⟩,iX 76 1 72 73,iS 1 76 74]
def bu:Rg:=[iM 77 6,iM 78 9,iA 79 (.ayS true 1 1 [zI] [(0,(Tm 78))]),iA 80 (.append 1 8 (Tm 77) (Tm 79)),iM 6 80]
def xO:Rg:=[iC 81 .add 51 1,iM 51 81]
def bo:aE:=(sq og (.seq (.cond (Tm 52) .skip (.exit 2)) (.seq (.block 3 (sq oi (sq oj (sq AK (.cond (Tm 69) (sq bs (.region bu)) .skip))))) (.region xO))))
def bv:Rg:=[iM 39 6,iA 40 (.slice 1 (Tm 39) (some (Ci 1)) none none),iM 6 40]
def br:aE:=(.seq (sq oc (.cond (Tm 38) .skip (.exit 0))) (.seq (.block 1 (dq oe (.block 2 (.loop bo)))) (.region bv)))
def bw:Rg:=[iM 82 4,iM 83 5,iM 2 82,iM 3 83]
def BQ:aE:=(sq n6 (dq n8 (sq n9 (.seq (sq oa (.block 0 (.loop br))) (sq bw .ret)))))
def Yj:List Nat:=[79]
def Dq:bB:=⟨1,84,BQ,[.tmp 2,.tmp 3]⟩
def N3:Rg:=[iI 4 0]
def N4:Rg:=[iI 5 (-1)]
def N5:Rg:=[iM 11 0,iA 12 (.azA (Tm 11)),iF 13 0 12,iF 14 2 13,iL 15 14,iM 6 15]
def N6:Rg:=[iM 16 6,iM 17 0,iA 18 (.azA (Tm 17)),iF 19 0 18,iF 20 1 19,iL 21 20,iB 22 .neq 16 21]
def N7:Rg:=[iM 30 0,iM 31 1,iM 32 6,iX 33 1 31 32,iL 34 33,iK2 35 294 30 34,iM 29 35,iE 36 29 0,iE 37 29 1,iM 7 36,iM 8 37]
def PZ:Rg:=[iM 38 5,iC 39 .lss 38 0,iM 40 39,gM 41 8 40 false,gM 42 5 40 false,gB 43 .lss 41 42 40 false,iQ 44 40 43]
def i5:Rg:=[iM 45 8,iM 5 45]
def QA:Rg:=[iM 23 0,iM 24 1,iM 25 6,iX 26 1 24 25,iL 27 26,iK2 28 295 23 27,iM 6 28]
def N2:aE:=(.seq (sq N6 (.cond (Tm 22) .skip (.exit 0))) (.seq (.block 1 (sq N7 (sq PZ (.cond (Tm 44) (.region i5) .skip)))) (.region QA)))
def N8:Rg:=[iM 46 0,iA 47 (.azA (Tm 46)),iF 48 0 47,iF 49 2 48,iL 50 49,iM 9 50]
def Cl:Rg:=[iM 51 9,iM 52 0,iA 53 (.azA (Tm 52)),iF 54 0 53,iF 55 1 54,iL 56 55,iB 57 .neq 51 56]
def VC:Rg:=[iM 64 1,iM 65 9,iX 66 1 64 65,iL 67 66,iM 10 67]
def VD:Rg:=[iM 68 10,iC 69 .geq 68 0]
def Cm:Rg:=[iM 70 0,iA 71 (.azA (Tm 70)),iF 72 4 71,iL 73 72,iM 74 10,iX 75 1 73 74,iL 76 75,iM 77 5,iB 78 .add 76 77,iX 79 1 73 74,iS 1 79 78]
def Cn:Rg:=[iM 80 0,iA 81 (.azA (Tm 80)),iF 82 4 81,iL 83 82,iM 84 10,iA 85 (.bin .sub (Ci (-1)) (Tm 84)),iX 86 1 83 85,iL 87 86,iM 88 5,iB 89 .sub 87 88,iX 90 1 83 85,iS 1 90 89]
def VE:Rg:=[iM 58 0,iM 59 1,iM 60 9,iX 61 1 59 60,iL 62 61,iK2 63 295 58 62,iM 9 63]
def Ck:aE:=(.seq (sq Cl (.cond (Tm 57) .skip (.exit 2))) (.seq (.block 3 (sq VC (sq VD (.cond (Tm 69) (.region Cm) (.region Cn))))) (.region VE)))
def Cp:Rg:=[iM 91 5,iM 4 91]
def MA:aE:=(sq N3 (sq N4 (.seq (sq N5 (.block 0 (.loop N2))) (.seq (sq N8 (.block 2 (.loop Ck))) (sq Cp .ret)))))
def alS:List Nat:=[]
def adV:bB:=⟨2,92,MA,[.tmp 4]⟩
def oq:Rg:=[iA 1 (.box true (Tm 0)),iZ 2,iI 3 0,iZ 4,iI 5 0]
def ot:Rg:=[iO 12 4 1,iK 13 292 12,iA 14 (.un .not (Tm 13))]
def Yl:Rg:=[iZ 2,iI 3 0,iZ 4,iI 5 1]
def ou:Rd:=[(iO 15 4 1,false),(iF 16 3 1,false),(iL 17 16,false),(iN 18 17,false),(iA 19 (.ayV 1 8 [zI] (Tm 18) (Tm 18)),true),(iF 20 0 1,false),(iL 21 20,false),(iA 22 (.ayV 1 24 [.aA] (Tm 21) (Tm 21)),true),(iA 23 (.build [zI,zI,zI,.aA,.aA,.aA] [(0,4,(Tm 15)),(4,1,(Tm 19)),(5,1,(Tm 22))]),false),(iA 24 (.box false (Tm 23)),true),(iM 6 24,false)]
def ov:Rg:=[iF 25 3 1,iL 26 25,iN 27 26,iI 28 0]
def ow:Rg:=[iB 29 .lss 28 27]
def oz:Rg:=[iM 30 28,iX 31 4 26 28,iO 32 4 31,iA 8 (.alloc [zI,zI,zI,zI]),iM 7 30,iS 4 8 32]
def o9:Rd:=[(iM 33 6,true),(iA 34 (.azA (Tm 33)),true),(iF 35 5 34,true),(iL 36 35,true),(iF 37 0 8,true),(iL 38 37,true),(iM 39 6,false),(iA 40 (.azA (Tm 39)),false),(iF 41 5 40,false),(iL 42 41,false),(iF 43 0 8,false),(iL 44 43,false),(iX 45 1 42 44,false),(iL 46 45,false),(iM 47 7,false),(iA 48 (.ayS true 1 1 [zI] [(0,(Tm 47))]),false),(iA 49 (.append 1 8 (Tm 46) (Tm 48)),true),(iX 50 1 36 38,false)]
def pd:Rd:=[(iS 1 50 49,true)]
def pe:Rd:=[(iM 51 6,true),(iA 52 (.azA (Tm 51)),true),(iF 53 5 52,true),(iL 54 53,true),(iF 55 1 8,true),(iL 56 55,true),(iM 57 6,false),(iA 58 (.azA (Tm 57)),false),(iF 59 5 58,false),(iL 60 59,false),(iF 61 1 8,false),(iL 62 61,false),(iX 63 1 60 62,false),(iL 64 63,false),(iM 65 7,false),(iA 66 (.bin .sub (Ci (-1)) (Tm 65)),false),(iA 67 (.ayS true 1 1 [zI] [(0,(Tm 66))]),false),(iA 68 (.append 1 8 (Tm 64) (Tm 67)),true),(iX 69 1 54 56,false)]
def b9:Rd:=[(iS 1 69 68,true)]
def ca:Rg:=[iC 70 .add 28 1,iM 28 70]
def bz:aE:=(sq ow (.seq (.cond (Tm 29) .skip (.exit 0)) (.seq (.block 1 (sq oz (.seq (dq o9 (.draw pd)) (dq pe (.draw b9))))) (.region ca))))
def cb:Rg:=[iI 9 0]
def cc:Rg:=[iM 72 6,iK 73 296 72,iM 71 73,iE 74 71 0,iE 75 71 1,iM 10 74,iM 11 75]
def HK:Rg:=[iM 76 11,iF 77 2 1,iL 78 77,iX 79 1 76 78,iL 80 79,iA 81 (.un .not (Tm 80))]
def ce:Rg:=[iM 82 6,iA 83 (.azA (Tm 82)),iF 84 4 83,iL 85 84,iM 86 9,iM 87 11,iM 2 85,iM 3 86,iM 4 87,iI 5 0]
def cf:Rg:=[iM 88 9,iM 89 6,iM 90 10,iK2 91 297 89 90,iB 92 .add 88 91,iM 9 92]
def b8:aE:=(.block 3 (sq cc (.seq (sq HK (.cond (Tm 81) (sq ce .ret) .skip)) (.region cf))))
def BR:aE:=(sq oq (.seq (sq ot (.cond (Tm 14) (sq Yl .ret) .skip)) (dq ou (.seq (sq ov (.block 0 (.loop bz))) (sq cb (.block 2 (.loop b8)))))))
def Ym:List Nat:=[1,48,67]
def D2:bB:=⟨1,93,BR,[.tmp 2,.tmp 3,.tmp 4,.tmp 5]⟩
def tb:Rg:=[iT 0 false]
def tc:Rg:=[iA 8 (.call 27 [(.const .aA),(Ci 1),(Ci 0)]),iA 1 (.alloc [zI,.aA,.aA,.aA,.aA,.aA,.aA]),iS 7 1 8]
def td:Rg:=[iA 9 (.build [(.str []),zI] [(0,1,(.const (.str [118,48])))]),iA 10 (.ayS true 2 1 [(.str []),zI] [(0,(Tm 9))]),iF 11 6 1,iS 1 11 10]
def OX:Rg:=[iO 13 7 1,iA 14 (.call 288 [(Tm 13),(.const .aA)]),iM 12 14,iE 15 12 0,iE 16 12 1,iM 2 15,iM 3 16]
def te:Rg:=[iO 18 7 1,iA 19 (.ayS true 1 1 [zI] [(0,(Ci 0))]),iK2 20 288 18 19,iM 17 20,iE 21 17 0,iE 22 17 1,iM 4 21,iM 5 22]
def tf:Rg:=[iO 24 7 1,iA 25 (.ayS true 1 1 [zI] [(0,(Ci 0))]),iK2 26 289 24 25,iM 23 26,iE 27 23 0,iE 28 23 1,iA 6 (.alloc [.aA,.aA,.aA]),iS 3 6 27,iM 7 28]
def tg:Rg:=[iM 29 3,iC 30 .eql 29 0,iM 31 30,gM 32 2 31 true,gN 33 32 31 true,gC 34 .eql 33 1 31 true,iP 35 31 34,iM 36 35,gM 37 2 36 true,iG 38 (.azE 1 (Tm 37) (Ci 0)) 36 true,gL 39 38 36 true,gN 40 39 36 true,gC 41 .eql 40 1 36 true,iP 42 36 41,iM 43 42,gM 44 2 43 true,iG 45 (.azE 1 (Tm 44) (Ci 0)) 43 true,gL 46 45 43 true,iG 47 (.azE 1 (Tm 46) (Ci 0)) 43 true,gL 48 47 43 true,gC 49 .eql 48 0 43 true,iP 50 43 49,iM 51 50,gM 52 5 51 true,gC 53 .eql 52 12 51 true,iP 54 51 53,iM 55 54,gM 56 7 55 true,iP 57 55 56,iM 58 57,gO 59 7 1 58 true,iG 60 (.ayS true 1 1 [zI] [(0,(Ci 0))]) 58 true,gO 61 3 6 58 true,iG 62 (.call 290 [(Tm 59),(Tm 60),(Tm 61)]) 58 true,iP 63 58 62,iM 64 63,gO 65 7 1 64 true,gO 66 3 6 64 true,iG 67 (.call 290 [(Tm 65),(.const .aA),(Tm 66)]) 64 true,iG 68 (.un .not (Tm 67)) 64 true,iP 69 64 68,iM 0 69]
def DI:aE:=(sq tb (sq tc (sq td (sq OX (sq te (sq tf (sq tg .ret)))))))
def aaQ:List Nat:=[10,19,25,60]
def Je:bB:=⟨0,70,DI,[.tmp 0]⟩
def OY:Rg:=[iT 6 false]
def OZ:Rg:=[iM 22 0,iK 23 28 22,iM 7 23]
def PA:Rg:=[iM 24 7,iA 25 (.call 0 [(Tm 24),(Ci 8),(Ci 3)]),iA 8 (.alloc [zI,.aA,.aA,.aA,.aA,.aA,.aA]),iS 7 8 25]
def PB:Rd:=[(iO 26 7 8,true),(iM 27 7,false),(iO 28 7 8,false),(iK2 29 6 27 28,true),(iK2 30 152 26 29,true),(iM 9 30,false)]
def PC:Rg:=[iO 32 7 8,iM 33 9,iK2 34 288 32 33,iM 31 34,iE 35 31 0,iE 36 31 1,iM 10 35,iM 11 36]
def PD:Rg:=[iZ 12]
def PE:Rg:=[iI 13 0]
def th:Rg:=[iM 37 13,iM 38 9,iN 39 38,iB 40 .lss 37 39]
def PG:Rg:=[iI 14 0]
def PI:Rg:=[iM 43 13,iM 44 1,iN 45 44,iB 46 .lss 43 45]
def ga:Rg:=[iM 47 1,iM 48 13,iX 49 1 47 48,iL 50 49,iA 51 (.conv .i64 (Tm 50)),iC 52 .rem 51 3,iM 14 52]
def JL:Rg:=[iM 53 12,iM 54 9,iM 55 13,iX 56 1 54 55,iL 57 56,iM 58 14,iB 59 .add 57 58,iA 60 (.ayS true 1 1 [zI] [(0,(Tm 59))]),iA 61 (.append 1 8 (Tm 53) (Tm 60)),iM 12 61]
def JM:Rg:=[iM 41 13,iC 42 .add 41 1,iM 13 42]
def yA:aE:=(.seq (sq th (.cond (Tm 40) .skip (.exit 0))) (.seq (.block 1 (sq PG (.seq (sq PI (.cond (Tm 46) (.region ga) .skip)) (.region JL)))) (.region JM)))
def yC:Rg:=[iO 63 7 8,iM 64 12,iK2 65 288 63 64,iM 62 65,iE 66 62 0,iE 67 62 1,iM 15 66,iM 16 67]
def JN:Rg:=[iO 68 7 8,iA 17 (.alloc [zI,.aA,.aA,.aA,.aA,.aA,.aA]),iS 7 17 68]
def JO:Rg:=[iA 69 (.ayS false 17 0 [(.str []),zI,zI,zI,zI,zI,zI,zI,zI,.aA,.aA,zB,.aA,.aA,zB,.aA,.aA] []),iF 70 5 8,iL 71 70,iA 72 (.append 17 240 (Tm 69) (Tm 71)),iF 73 5 17,iS 1 73 72]
def JP:Rg:=[iI 18 0]
def gb:Rg:=[iM 74 18,iF 75 5 17,iL 76 75,iN 77 76,iB 78 .lss 74 77]
def gd:Rg:=[iF 81 5 17,iL 82 81,iM 83 18,iM 84 2,iA 85 (.conv .i64 (Tm 84)),iC 86 .rem 85 4,iA 87 (.bin .add (Ci 1) (Tm 86)),iX 88 17 82 83,iF 89 4 88,iA 90 (.idxA 5 1 (Tm 89) (Tm 87)),⟨none,.store 1 (Tm 90) (Ci 0),none⟩]
def ge:Rg:=[iF 91 5 17,iL 92 91,iM 93 18,iX 94 17 92 93,iF 95 9 94,⟨none,.store 1 (Tm 95) (.const .aA),none⟩]
def gf:Rg:=[iI 19 0]
def gg:Rg:=[iM 96 19,iF 97 2 8,iL 98 97,iN 99 98,iB 100 .lss 96 99]
def gh:Rd:=[(iF 103 5 17,true),(iL 104 103,true),(iM 105 18,true),(iF 106 5 17,false),(iL 107 106,false),(iM 108 18,false),(iX 109 17 107 108,false),(iF 110 9 109,false),(iL 111 110,false),(iM 112 19,false),(iA 113 (.ayS true 1 1 [zI] [(0,(Tm 112))]),false),(iA 114 (.append 1 8 (Tm 111) (Tm 113)),true),(iX 115 17 104 105,false),(iF 116 9 115,false)]
def gi:Rd:=[(iS 1 116 114,true)]
def gj:Rg:=[iM 101 19,iC 102 .add 101 1,iM 19 102]
def JK:aE:=(.seq (sq gg (.cond (Tm 100) .skip (.exit 4))) (.seq (.block 5 (dq gh (.draw gi))) (.region gj)))
def gk:Rg:=[iM 79 18,iC 80 .add 79 1,iM 18 80]
def yB:aE:=(.seq (sq gb (.cond (Tm 78) .skip (.exit 2))) (.seq (.block 3 (sq gd (sq ge (sq gf (.block 4 (.loop JK)))))) (.region gk)))
def JQ:Rg:=[iO 118 7 17,iM 119 9,iK2 120 288 118 119,iM 117 120,iE 121 117 0,iE 122 117 1,iM 20 121,iM 21 122]
def yD:Rg:=[iM 123 11,iC 124 .neq 123 0,iM 125 124,gM 126 16 125 false,gC 127 .eql 126 0 125 false,gM 128 127 125 false,gM 129 21 128 true,gC 130 .eql 129 0 128 true,iG 131 (.pick (Tm 128) (Tm 130) (.const zB)) 125 false,iQ 132 125 131,iM 133 132,iG 134 (.call 312 []) 133 true,iP 135 133 134,iM 6 135]
def DJ:aE:=(sq OY (sq OZ (sq PA (dq PB (sq PC (sq PD (.seq (sq PE (.block 0 (.loop yA))) (sq yC (sq JN (sq JO (.seq (sq JP (.block 2 (.loop yB))) (sq JQ (sq yD .ret)))))))))))))
def aaS:List Nat:=[60,113]
def fz:bB:=⟨3,136,DJ,[.tmp 6]⟩
def sN (H:PH) (s:Nat) (q:Nat) (v:PV) (rows:List (List PV)):Prop :=
 ∃ rs e,v=.osl q s e rows.length∧H q=some (.rows s rs)∧e+rows.length≤rs.length∧(rs.drop e).take rows.length=rows
section
variable {H:PH} {s b q:Nat} {v y:PV} {rows src:List (List PV)}
theorem sN.ext {H':PH} (h:sN H s q v rows) (A:∀ x,H q=some x→H' q=some x):sN H' s q v rows:=by
 obtain⟨rs,e,j,l,u,w⟩:=h;exact⟨rs,e,j,A _ l,u,w⟩
theorem sN.tail {r:List PV} (h:sN H s q v (r::rows)):∃ v',PV.slice s v 1 ((rows.length+1:Nat):Int) none=some v'∧sN H s q v' rows:=by
 obtain⟨rs,e,rfl,l,u,j⟩:=h;rw[aBV] at u j;refine⟨.osl q s (e+1) rows.length,?_,rs,e+1,rfl,l,by omega,?_⟩
 ·unfold PV.slice;show (if s=s∧(0:Int)≤1∧(1:Int)≤((rows.length+1:Nat):Int)∧((rows.length+1:Nat):Int)≤((r::rows).length:Nat)∧((none:Option Int)=none∨(none:Option Int)=some ((rows.length+1:Nat):Int)) then some (PV.osl q s (e+(1:Int).toNat) (((rows.length+1:Nat):Int).toNat-(1:Int).toNat)) else none)=_;rw[if_pos ⟨rfl,by omega,by omega,by rw[aBV]; omega,.inl rfl⟩];rfl
 ·have:=congrArg (List.drop 1) j;rw[List.drop_take,List.drop_drop,Nat.add_sub_cancel] at this;exact this
theorem sN.append {K:PV→PH→Prop} (h:sN H s q v rows) (R:eJ H s y=some src) (O:roomFor rows.length src.length b)
  (N:∀ J v' H',sN H' s J v' (rows++src)→(J=q∨H J=none)→(∀ o x,o≠q→H o=some x→H' o=some x)→(∀ o,o≠J→H o=none→H' o=none)→K v' H'):mG H s b v y K:=by
 obtain⟨rs,j,rfl,M,I,E⟩:=h;have A:(rows++src).length=rows.length+src.length:=aAE;have F:∀ j,j+rows.length≤rs.length→(rs.drop j).take rows.length=rows→K (.osl q s j (rows.length+src.length)) (H.set q (.rows s (rs.take (j+rows.length)++src))):=fun j I E=>by
  refine N q _ _ ⟨rs.take (j+rows.length)++src,j,by rw[A],by simp only[aQ,if_true],by rw[aAE,aAE,aAN]; omega,?_⟩ (.inl rfl) (fun o x l w=>by simp only[aQ,if_neg l,w]) fun o l w=>by simp only[aQ,if_neg l,w]
  have e:(rs.take (j+rows.length)).drop j=rows:=by rw[List.drop_take,Nat.add_sub_cancel_left,E]
  rw[List.drop_append_of_le_length (by rw[aAN]; omega),e];exact aBT
 have B:∀ o,H o=none→K (.osl o s 0 (rows.length+src.length)) (H.set o (.rows s (rows++src))):=fun o w=>by
  refine N o _ _ ⟨rows++src,0,by rw[A],by simp only[aQ,if_true],by omega,by rw[aBM,aBT]⟩ (.inr w) (fun S x l u=>?_) fun S l u=>by simp only[aQ,if_neg l,u]
  have:S≠o:=by rintro rfl; rw[w] at u; cases u
  simp only[aQ,if_neg this,u]
 cases j with
 | zero =>
  refine⟨src,R,rfl,rfl,O,rs,M,by omega,?_,fun o w=>?_⟩
  ·have:=F 0 I E
   rwa [aAX] at this
  ·rw[aBM] at E;rw[E];exact B o w
 | succ j =>refine⟨src,R,rfl,O,rs,M,I,F _ I E,fun o w=>?_⟩;rw[E];exact B o w
end
section
variable {C:Ctx} {F:PF} {H:PH}
theorem TD {name:Nat} {vs cs:List PV} {e:PH} {R:PV→PH→Prop} {args:List aN} {d:Option Nat} {K:PF→PH→Prop} (h:aG C name (vs++cs) e R) (l:aN.evs F args=some vs) (j:e.le H)
  (u:∀ r H',R r H'→kJ H e H'→K (F.put d r) (H.over e H')):fU C name args cs d K F H :=
 .inl ⟨vs++cs,e,R,by rw[l]; rfl,j,h,u⟩
theorem Jb {name o:Nat} {x y:bF} {r:PV} {vs cs:List PV} {args:List aN} {d:Option Nat} {K:PF→PH→Prop} (h:aG C name (vs++cs) (PH.nil.set o x) (fun e H'=>e=r∧H'=PH.nil.set o y)) (u:H o=some x) (j:aN.evs F args=some vs)
  (l:K (F.put d r) (H.set o y)):fU C name args cs d K F H:=by
 refine TD h j (e_ a_ u) ?_;rintro e H' ⟨rfl,rfl⟩ -;rw[PH.pL];exact l
theorem Ja {name:Nat} {vs cs:List PV} {args:List aN} {d:Option Nat} {K:PF→PH→Prop} {B1 B2:List BX} {L1 L2:List LI} {Q:PV→List BX→List LI→Prop} (h:aK H (B1++B2) (L1++L2))
  (w:∀ j,aK j B1 L1→aG C name (vs++cs) j (fun r H'=>∃ B' L',Q r B' L'∧aK H' B' L')) (u:aN.evs F args=some vs)
  (x:∀ r B' L' H',Q r B' L'→aK H' (B'++B2) (L'++L2)→K (F.put d r) H'):fU C name args cs d K F H:=by
 refine TD (w (H.only (dU B1++cY L1)) (h.only (aDY ..) (aDY ..))) u (QK H _) ?_;rintro r H' ⟨B',L',hq,l⟩ e;exact x r B' L' _ hq (h.frame l e)
theorem tT {name o:Nat} {x:bF} {r:PV} {vs cs:List PV} {args:List aN} {d:Option Nat} {K:PF→PH→Prop} (h:aG C name (vs++cs) (PH.nil.set o x) (fun u H'=>u=r∧H'=PH.nil.set o x)) (e:H o=some x) (j:aN.evs F args=some vs)
  (l:K (F.put d r) H):fU C name args cs d K F H:=by
 refine Jb h e j ?_;rw[PH.agI e];exact l
end
theorem gq {l:List bJ} {k:Nat} (h:k<l.length):(l.map bJ.cells)[k]?=some (l[k]).cells:=by simp[h]
abbrev pA (n:cB):bF:=.rows 4 [n.cells]
theorem aeS {C:Ctx} (n:cB) (o x:Nat) (l:x<n.nodes):HI.wp C (aT Ub.res (fun r H'=>r=.bool true∧H'=PH.nil.set o (pA n))) (PF.args [.int .i64 (x:Nat),.ptr o 4 0 0]) (PH.nil.set o (pA n)):=by
 have e:(0:Int)≤(x:Int):=Om;have j:(x:Int)<(n.nodes:Nat):=Om;simp only[go_sem,HI,Do,Ub,Dp,e,j];exact aV (vs:=[.bool true]) (.inr rfl) _ Ev (fun _ _ h=>h) ⟨rfl,rfl⟩
theorem Yn {C:Ctx} (y:∀ (n:cB) (o x:Nat),x<n.nodes→aG C 291 [.int .i64 (x:Nat),.ptr o 4 0 0] (PH.nil.set o (pA n)) (fun r H'=>r=.bool true∧H'=PH.nil.set o (pA n))) (n:cB) (w:fN n) :
  BS.wp C (aT D3.res (aM (.bool true))) (PF.args [.agg n.cells]) .nil:=by
 have a1:¬ (n.nodes:Int)<2:=by have:=w.two; omega
 have a2:¬ (n.nodes:Int)>700:=by have:=w.few; omega
 have a3:¬ (n.arcs.length:Int)>2500:=by have:=w.num; omega
 have a4:¬ (n.source:Int)=n.sink:=by have:=w.apart; omega
 have M:=w.num;simp only[go_sem,BS,pg,D3];refine aP fun o N=>?_;simp only[go_sem,pi,pj,a1,a2,a3,aAA];refine tT (vs:=[.int .i64 (n.source:Nat)]) (cs:=[.ptr o 4 0 0]) (y n o n.source w.source) (by rw[cG]) Ev ?_;simp only[go_sem];refine tT (vs:=[.int .i64 (n.sink:Nat)]) (cs:=[.ptr o 4 0 0]) (y n o n.sink w.sink) (by rw[cG]) Ev ?_;simp only[go_sem,bC a4,pn,aAA];refine wp_loop (α:=Nat) (fun k=>(((((PF.nil.set 1 (.ptr o 4 0 0)).set 3 (.fn 291 [.ptr o 4 0 0])).set 43 (gp n.arcs)).set 44 (.int .i64 (n.arcs.length:Nat))).set 45 (.int .i64 (k:Nat)))) (fun _=>PH.nil.set o (pA n)) (fun k=>k≤n.arcs.length) (fun k=>n.arcs.length-k) 0 (aAP _) Lq (fun _ _ h=>h) ?_;intro k J;simp only[go_sem,cg,po];by_cases hlt:k<n.arcs.length
 ·have u:(k:Int)<(n.arcs.length:Nat):=Om;obtain⟨F,I,K⟩:=w.ends _ (aAG hlt);simp only[go_sem,u,pq,gq hlt];refine aP fun p A=>?_;have l:¬ p=o:=fun e=>by rw[e,cG] at A; cases A
  have j:¬ o=p:=fun e=>l e.symm;simp only[go_sem,l,j,pt];refine tT (vs:=[.int .i64 ((n.arcs[k]).src:Nat)]) (cs:=[.ptr o 4 0 0]) (y n o _ F) (by simp only[go_sem,l,j]) Ev ?_;simp only[go_sem];refine tT (vs:=[.int .i64 ((n.arcs[k]).dst:Nat)]) (cs:=[.ptr o 4 0 0]) (y n o _ I) (by simp only[go_sem,l,j]) Ev ?_;have B:¬ ((n.arcs[k]).cap:Int)<0:=Om;have E:¬ ((n.arcs[k]).cap:Int)>2147483647:=Om;simp only[go_sem,l,j,B,E,pu,wZz k];exact aL (k+1) hlt Om Lq (e_ a_ (by simp only[go_sem,l,j]))
 ·have u:¬ (k:Int)<(n.arcs.length:Nat):=Om;simp only[go_sem,u,ch];refine cD (.inr rfl) Ev ?_;rfl
structure R2 (n:cB) (cut:List Bool):Prop where
 len:cut.length=n.nodes
 src:cut.getD n.source false=true
 snk:cut.getD n.sink false=false
theorem Wo (S:Nat→Bool) (l:List bJ) {k:Nat} (h:k<l.length):dA S (l.take (k+1))=dA S (l.take k)+if S (l[k]).src=true∧S (l[k]).dst=false then (l[k]).cap else 0:=by
 have e:∀ (a b:List bJ),dA S (a++b)=dA S a+dA S b:=by
  intro a
  induction a with
  | nil=>intro b; simp[dA]
  | cons x a j=>intro b; rw[List.cons_append,dA,dA,j]; omega
 rw[aCM h,e];simp[dA]
theorem gv (S:Nat→Bool) {M:Nat}:∀ {l:List bJ},(∀ a∈l,a.cap≤M)→dA S l≤l.length*M
 | [],_=>aAP _
 | a::l,h=>by have e:=h a (by simp);have j:=gv S (l:=l) fun b hb=>h b (by simp[hb]);rw[dA,aBV,aCN];split<;>omega
theorem Wp {n:cB} (e:fN n) (S:Nat→Bool) (k:Nat):dA S (n.arcs.take k)≤5368709117500:=by
 have w:=gv S (M:=2147483647) (l:=n.arcs.take k) fun a u=>(e.ends a (List.mem_of_mem_take u)).2.2;have j:(n.arcs.take k).length≤2500:=aCX (by rw[aAN]; omega) e.num;have x:(n.arcs.take k).length*2147483647≤2500*2147483647:=aBC _ j;omega
theorem alT {C:Ctx} (O:∀ n:cB,fN n→aG C 292 [.agg n.cells] .nil (aM (.bool true))) (n:cB) (u:fN n) (cut:List Bool) (l:R2 n cut) :
  MB.wp C (aT adZ.res (aM (.tup [.int .i64 ((dA (fun w=>cut.getD w false) n.arcs:Nat):Int),.bool true]))) (PF.args [.agg n.cells,kK cut]) .nil:=by
 have a1:(cut.length:Int)=n.nodes:=by have:=l.len; omega
 have I:n.source<cut.length:=by rw[l.len]; exact u.source
 have J:n.sink<cut.length:=by rw[l.len]; exact u.sink
 have U:=u.num;have x:kK cut=.sl 1 (bD cut):=rfl;rw[x];simp only[go_sem,MB,N9,adZ,Oa];refine aB (O n u) Ev ?_;simp only[go_sem,iW,cM a1,lO I,lO J,l.src,l.snk,Ob,Oc,aAA];refine wp_loop (α:=Nat) (fun k=>((((((PF.nil.set 1 (.sl 1 (bD cut))).set 2 (.dH n.cells)).set 6 (.int .i64 ((dA (fun w=>cut.getD w false) (n.arcs.take k):Nat):Int))).set 35 (gp n.arcs)).set 36 (.int .i64 (n.arcs.length:Nat))).set 37 (.int .i64 (k:Nat)))) (fun _=>.nil) (fun k=>k≤n.arcs.length) (fun k=>n.arcs.length-k) 0 (aAP _) Lq a_ ?_;intro k R;simp only[go_sem,Cs,Od];by_cases hlt:k<n.arcs.length
 ·have j:(k:Int)<(n.arcs.length:Nat):=Om;obtain⟨M,N,S⟩:=u.ends _ (aAG hlt);have K:(n.arcs[k]).src<cut.length:=by rw[l.len]; exact M
  have B:(n.arcs[k]).dst<cut.length:=by rw[l.len]; exact N
  have y:=Wo (fun w=>cut.getD w false) n.arcs hlt;have hb:=Wp u (fun w=>cut.getD w false) (k+1);simp only[go_sem,j,Oe,gq hlt];refine aP fun p V=>?_;simp only[go_sem,Of,lO K,lO B];cases E:cut.getD (n.arcs[k]).src false with
  | false =>rw[if_neg (by rw[E]; rintro⟨h,-⟩; cases h),aBP] at y;simp only[go_sem,QB,wZz k];exact aL (k+1) hlt Om (by (repeat' (first|exact c_|refine d_ ?_ ?_))<;>first|(simp only[go_sem,y]<;>rfl)|rfl) a_
  | true =>
   simp only[go_sem,lO B];cases F:cut.getD (n.arcs[k]).dst false with
   | true =>rw[if_neg (by rw[F]; rintro⟨-,h⟩; cases h),aBP] at y;simp only[go_sem,QB,wZz k];exact aL (k+1) hlt Om (by (repeat' (first|exact c_|refine d_ ?_ ?_))<;>first|(simp only[go_sem,y]<;>rfl)|rfl) a_
   | false =>
    rw[if_pos ⟨E,F⟩] at y;have e:IntKind.i64.wrap (((dA (fun w=>cut.getD w false) (n.arcs.take k):Nat):Int)+((n.arcs[k]).cap:Int))=((dA (fun w=>cut.getD w false) (n.arcs.take (k+1)):Nat):Int):=by rw[wrap_i64 Om Om]; omega
    simp only[go_sem,Og,e,QB,wZz k];exact aL (k+1) hlt Om Lq a_
 ·have j:¬ (k:Int)<(n.arcs.length:Nat):=Om;have A:n.arcs.take k=n.arcs:=aAQ Om;simp only[go_sem,j,Ct,A];refine cD (.inr rfl) Ev ?_;rfl
abbrev dK (N:Nat) (v:PV):bF:=.rows 4 [[.int .i64 (N:Nat),.int .i64 0,.int .i64 1,v]]
theorem amH {C:Ctx} (o N x y z:Nat) (v:PV) (l:List bJ) (F:l.length≤1000000) (H:PH) (w:aK H [(o,dK N v)] [(v,4,l.map bJ.cells)]) :
  MK.wp C (aT aeY.res (fun r H'=>∃ (B':List BX) (L':List LI),(r=.tup []∧∃ v',B'=[(o,dK N v')]∧L'=[(v',4,(l++[(⟨x,y,z⟩:bJ)]).map bJ.cells)])∧aK H' B' L')) (PF.args [.int .i64 (x:Nat),.int .i64 (y:Nat),.int .i64 (z:Nat),.ptr o 4 0 0]) H:=by
 have E:=w.at 0 rfl;simp only[go_sem,MK,Pd,aeY,E];refine w.append 0 rfl (src:=[bJ.cells ⟨x,y,z⟩]) rfl ?_ fun v' H' u j=>?_
 ·unfold roomFor;rw[aAA,aAI];simp only[maxLen];omega
 obtain⟨q,hq⟩:=j (by simp);have e:=u.at 0 rfl;have B:=u.set 0 rfl (dK N v');generalize ((l.map bJ.cells++[bJ.cells ⟨x,y,z⟩]).length)=len at hq;subst hq;simp only[go_sem,e];refine⟨H'.set o (dK N (.osl q 4 0 len)),if_pos (fun x A=>by rw[aBL] at A; subst A; rfl),?_⟩;refine aV (vs:=[]) (.inl rfl) (H'.set o (dK N (.osl q 4 0 len))) rfl (fun _ _ h=>h) ⟨[(o,dK N (.osl q 4 0 len))],_,⟨rfl,_,rfl,rfl⟩,?_⟩;rw[aBO];exact B
def AM (n:Nat):List Nat→Option (List Nat)
 | []=>none
 | x::t=>match AM n t with
  | some u=>some (x::u)
  | none=>if x+1+t.length=n then none else some (List.range' (x+1) (t.length+1))
theorem p6 {n:Nat}:∀ {s u:List Nat},AM n s=some u→u.length=s.length
 | [],_,h=>by cases h
 | x::t,u,h=>by
  rw[AM] at h;split at h
  ·rename_i v e;cases h;simp[p6 e]
  ·split at h
   ·cases h
   ·cases h;simp
inductive TH (n:Nat):List Nat→List (List Nat)→Prop
 | last {s:List Nat} (h:AM n s=none):TH n s [s]
 | step {s t:List Nat} {l:List (List Nat)} (h:AM n s=some t) (w:TH n t l):TH n s (s::l)
theorem TH.map {n x k:Nat} {e:List (List Nat)} (y:(x+1+k=n∧e=[])∨(x+1+k≠n∧TH n (List.range' (x+1) (k+1)) e)) {t:List Nat} {l:List (List Nat)} (w:TH n t l) (j:t.length=k):TH n (x::t) (l.map (x::·)++e):=by
 induction w with
 | @last s h =>
  rcases y with ⟨u,rfl⟩ | ⟨u,h2⟩
  ·exact .last (by rw[AM,h]; simp only; rw[if_pos (by rw[j]; exact u)])
  ·exact .step (by rw[AM,h]; simp only; rw[if_neg (by rw[j]; exact u),j]) h2
 | @step s t l h _ A=>exact .step (by rw[AM,h]) (A (by rw[p6 h,j]))
def Wk (f:aC) (p:cC) (d:Int):Bool:=p.ayN.contains ((mdl f d.toNat:Nat):Int)
def iH (s:List Nat):List Int:=s.map fun (x:Nat)=>(x:Int)
def cH (g:Nat→Nat):Nat→Nat
 | 0=>0
 | n+1=>cH g n+g n
theorem uR (g h:Nat→Nat):∀ n,cH (fun k=>g k+h k) n=cH g n+cH h n
 | 0=>rfl
 | n+1=>by rw[cH,cH,cH,uR g h n]; omega
theorem uS {g h:Nat→Nat}:∀ {n:Nat},(∀ k,k<n→g k≤h k)→cH g n≤cH h n
 | 0,_=>aAF _
 | n+1,e=>by rw[cH,cH];exact Nat.add_le_add (uS fun k j=>e k Om) (e n Om)
theorem dZ {g h:Nat→Nat}:∀ {n:Nat},(∀ k,k<n→g k=h k)→cH g n=cH h n
 | 0,_=>rfl
 | n+1,e=>by rw[cH,cH,dZ (n:=n) fun k j=>e k Om,e n Om]
theorem nT:∀ n,cH (fun _=>0) n=0
 | 0=>rfl
 | n+1=>by rw[cH,nT n]
theorem AV (g:Nat→Nat→Nat) (n:Nat):∀ m,cH (fun v=>cH (g v) n) m=cH (fun d=>cH (fun v=>g v d) m) n
 | 0=>by rw[cH];exact (nT n).symm
 | m+1=>by rw[cH,AV g n m,← uR]; rfl
theorem Q1 {g:Nat→Nat}:∀ {n k:Nat},k<n→g k≤cH g n
 | 0,_,h=>by omega
 | n+1,k,h=>by
  rw[cH];by_cases e:k=n
  ·subst e; omega
  ·have:=Q1 (g:=g) (n:=n) (k:=k) Om; omega
theorem IG (c:Nat) (g:Nat→Nat):∀ n,cH (fun k=>c*g k) n=c*cH g n
 | 0=>rfl
 | n+1=>by rw[cH,cH,IG c g n,aAM]
def one (b:Bool):Nat:=if b=true then 1 else 0
theorem vL:one true=1:=rfl
theorem vK:one false=0:=rfl
def eT (p:Nat→Bool) (n:Nat):Nat:=cH (fun k=>one (p k)) n
theorem YT (p:Nat→Bool):∀ n,eT p n=(aAB n).countP p
 | 0=>rfl
 | n+1=>by rw[aCS,List.countP_append,← YT p n,eT,cH];cases h:p n<;>simp[one,h,eT]
def cO (f:aC) (v i:Nat):Nat:=if i=0 then 2+v else 2+f.ayO.length+v*(f.ayP.length-1)+i-1
def bG (f:aC) (d:Nat):Nat:=2+f.ayO.length*f.ayP.length+d
def eX (f:aC) (v:Nat):Nat:=(oE f v).toNat
def vG (f:aC) (v i:Nat):Nat:=if eM f (cR f v) i=0 then eX f v else (eM f (cR f v) i).toNat
def tM (f:aC) (room:List Int) (d:Nat):Nat:=(mD f room d).toNat
def okD (f:aC) (v d:Nat):Bool:=Wk f (cR f v) d
def jS (f:aC) (v k:Nat):bJ:=⟨cO f v (fX f (k+1)),cO f v (k+1),vG f v (k+1)⟩
def eK (f:aC) (v d:Nat):bJ:=⟨cO f v (eW f d),bG f d,1⟩
def fA (f:aC) (v:Nat):List bJ:=⟨0,2+v,eX f v⟩::((aAB (f.ayP.length-1)).map (jS f v)++((aAB f.ayM.length).filter (okD f v)).map (eK f v))
def mW (f:aC) (room:List Int) (d:Nat):bJ:=⟨bG f d,1,tM f room d⟩
def fK (f:aC) (room:List Int):List bJ:=(aAB f.ayO.length).flatMap (fA f)++(aAB f.ayM.length).map (mW f room)
def dY (f:aC) (room:List Int):cB:=⟨bG f f.ayM.length,0,1,fK f room⟩
def oV (f:aC):Nat:=cH (eX f) f.ayO.length
theorem mY {f:aC} (h:VF f) {v:Nat} (l:v<f.ayO.length):eX f v≤8∧1≤eX f v∧(eX f v:Int)=oE f v∧∀ i,vG f v i≤8:=by
 obtain⟨j,he⟩:=pM h l;have e:=h.ayZ _ (aAG j);rw[he] at e;have u:oE f v=(cR f v).k+(cR f v).m:=rfl;unfold vG eX;refine⟨by omega,by omega,by omega,fun i=>?_⟩;have:=e.2.2.2.2.2.2.1 (lvl f i).toNat;unfold eM;split<;>omega
theorem xR {f:aC} (h:VF f) (room:List Int) {d:Nat} (e:d<f.ayM.length):tM f room d≤16∧(tM f room d:Int)=mD f room d:=by
 have:=rc h room e;unfold tM;omega
theorem hC {f:aC} (h:VF f) {v i:Nat} (j:v<f.ayO.length) (hi:i<f.ayP.length):2≤cO f v i∧cO f v i<bG f 0:=by
 have u:=h.root.1;have e:(v+1)*(f.ayP.length-1)≤f.ayO.length*(f.ayP.length-1):=aBC _ j;rw[aCN] at e;have l:f.ayO.length*f.ayP.length=f.ayO.length*(f.ayP.length-1)+f.ayO.length:=by
  conv=>lhs; rw[show f.ayP.length=(f.ayP.length-1)+1 by omega,Nat.mul_succ]
 unfold cO bG;split<;>omega
theorem I4 (f:aC) (v:Nat):(fA f v).length≤f.ayP.length+f.ayM.length+1:=by
 unfold fA;rw[aBV,aAE,aAA,aAA,aDD];have:=List.length_filter_le (okD f v) (aAB f.ayM.length);rw[aDD] at this;omega
theorem afE (f:aC) (room:List Int):(fK f room).length≤f.ayO.length*(f.ayP.length+f.ayM.length+1)+f.ayM.length:=by
 unfold fK;rw[aAE,aAA,aDD];have e:∀ n,((aAB n).flatMap (fA f)).length≤n*(f.ayP.length+f.ayM.length+1):=by
  intro n
  induction n with
  | zero=>simp
  | succ n j =>rw[aCS,List.flatMap_append,aAE,aCN];have:=I4 f n;simp only[List.flatMap_cons,List.flatMap_nil,aBU];omega
 have:=e f.ayO.length;omega
theorem MP {f:aC} (h:VF f) (room:List Int):fN (dY f room):=by
 obtain⟨s1,s2,s3,s4,N,O⟩:=h.small;have I:bG f f.ayM.length=bG f 0+f.ayM.length:=by unfold bG; omega
 have K:f.ayO.length*f.ayP.length≤12*40:=aDJ Om Om;have A:=h.root.1;have hb:bG f 0=2+f.ayO.length*f.ayP.length:=rfl;refine⟨?_,?_,?_,?_,?_,(show (0:Nat)≠1 by decide),fun a ha=>?_⟩
 ·show 2≤bG f f.ayM.length;omega
 ·show bG f f.ayM.length≤700;omega
 ·refine aCX (afE f room) ?_;have:f.ayO.length*(f.ayP.length+f.ayM.length+1)≤12*(40+24+1):=aDJ Om Om;omega
 ·show 0<bG f f.ayM.length;omega
 ·show 1<bG f f.ayM.length;omega
 ·show a.src<bG f f.ayM.length∧a.dst<bG f f.ayM.length∧a.cap≤2147483647;have u:∀ d,d<f.ayM.length→bG f d<bG f f.ayM.length:=fun d u=>by unfold bG; omega
  rcases aBH.1 (show a∈fK f room from ha) with ha | ha
  ·obtain⟨v,l,ha⟩:=List.mem_flatMap.1 ha;have l:=aAU.1 l;obtain⟨B,E,F,x⟩:=mY h l;rcases aAK.1 ha with rfl | ha
   ·have:=(hC h l A).2;simp only[cO,if_true] at this;simp only;exact⟨by omega,by omega,by omega⟩
   ·rcases aBH.1 ha with ha | ha
    ·obtain⟨k,w,rfl⟩:=aAW.1 ha;have w:=aAU.1 w;have M:=(h.dom (k+1) Om Om).2.1;have y:=(hC h l (i:=fX f (k+1)) Om).2;have J:=(hC h l (i:=k+1) Om).2;have:=x (k+1);simp only[jS];exact⟨by omega,by omega,by omega⟩
    ·obtain⟨d,j,rfl⟩:=aAW.1 ha;have e:=aAU.1 (aDP.1 j).1;have y:=(hC h l (i:=eW f d) (h.drive d e).2.2.2.1).2;have:=u d e;simp only[eK];exact⟨by omega,this,by omega⟩
  ·obtain⟨d,j,rfl⟩:=aAW.1 ha;have e:=aAU.1 j;have:=u d e;have:=xR h room e;simp only[mW];exact⟨by omega,by omega,by omega⟩
def inD (f:aC) (i d:Nat):Bool:=decide (jX f d (lvl f i)=i)
structure sG (f:aC) (room:List Int) (u:Nat→Nat→Bool):Prop where
 num:∀ v,v<f.ayO.length→eT (u v) f.ayM.length=eX f v
 ok:∀ v d,v<f.ayO.length→d<f.ayM.length→u v d=true→okD f v d=true
 bound:∀ v i,v<f.ayO.length→0<i→i<f.ayP.length→eM f (cR f v) i≠0→eT (fun d=>u v d&&inD f i d) f.ayM.length≤(eM f (cR f v) i).toNat
 room:∀ d,d<f.ayM.length→eT (fun v=>u v d) f.ayO.length≤tM f room d
theorem lG (S:Nat→Bool):∀ l m:List bJ,dA S (l++m)=dA S l+dA S m
 | [],m=>by simp[dA]
 | a::l,m=>by rw[List.cons_append,dA,dA,lG S l m]; omega
def hY (S:Nat→Bool) (a:bJ):Nat:=if S a.src=true∧S a.dst=false then a.cap else 0
theorem yX (S:Nat→Bool) (F:Nat→bJ):∀ n,dA S ((aAB n).map F)=cH (fun k=>hY S (F k)) n
 | 0=>rfl
 | n+1=>by rw[aCS,aBO,lG,yX S F n,cH]; rfl
theorem KN (S:Nat→Bool) (F:Nat→List bJ):∀ n,dA S ((aAB n).flatMap F)=cH (fun k=>dA S (F k)) n
 | 0=>rfl
 | n+1=>by rw[aCS,List.flatMap_append,lG,KN S F n,cH];simp
theorem BE (S:Nat→Bool) (F:Nat→bJ) (p:Nat→Bool):∀ n,dA S (((aAB n).filter p).map F)=cH (fun k=>if p k=true then hY S (F k) else 0) n
 | 0=>rfl
 | n+1=>by rw[aCS,List.filter_append,aBO,lG,BE S F p n,cH];cases h:p n<;>simp[h,dA,hY]
theorem Uz (a b:Bool) (h:a=true→b=true):one a≤one b:=by
 cases a<;>cases b<;>simp_all [one]
theorem Qp (a b:Bool):one (a&&b)=one a*one b:=by cases a<;>cases b<;>rfl
theorem Wq {f:aC} (h:VF f) {d:Nat} (x:d<f.ayM.length) (S:Nat→Bool) (D:Nat→Nat) (w:S (D 0)=true):∀ k,k≤4→S (D (upN f k (eW f d)))=false→∃ i,0<i∧i<f.ayP.length∧inD f i d=true∧S (D (fX f i))=true∧S (D i)=false:=by
 have u:upN f 4 (eW f d)=0:=by
  obtain⟨a,b⟩:=fe h x (k:=4) (aAF _);rcases aCH (upN f 4 (eW f d)) with e | e
  ·exact e
  ·have:=(h.dom _ e a).2.2.2.1;omega
 intro k A j;obtain⟨m,E⟩:∃ m,m=4-k:=⟨_,rfl⟩
 induction m generalizing k with
 | zero =>have:k=4:=Om;subst this;rw[u,w] at j;cases j
 | succ m B =>
  cases y:S (D (upN f (k+1) (eW f d))) with
  | false=>exact B (k+1) Om y Om
  | true =>
   obtain⟨a,b⟩:=fe h x A;have l:0<upN f k (eW f d):=by
    rcases aCH (upN f k (eW f d)) with e | e
    ·rw[e,w] at j; cases j
    ·exact e
   refine⟨upN f k (eW f d),l,a,?_,y,j⟩;unfold inD jX;rw[b,decide_eq_true_eq];congr 1;omega
theorem sG.vol {f:aC} (h:VF f) {room:List Int} {u:Nat→Nat→Bool} (A:sG f room u) (S:Nat→Bool) (K:S 0=true) {v:Nat} (B:v<f.ayO.length) :
  eX f v≤dA S (fA f v)+cH (fun d=>one (u v d)*one (S (bG f d))) f.ayM.length:=by
 have N:dA S (fA f v)=hY S ⟨0,2+v,eX f v⟩+(cH (fun k=>hY S (jS f v k)) (f.ayP.length-1)+cH (fun d=>if okD f v d=true then hY S (eK f v d) else 0) f.ayM.length):=by unfold fA;rw[dA,lG,yX,BE]; rfl
 rw[N];cases J:S (2+v) with
 | false =>
  have:hY S ⟨0,2+v,eX f v⟩=eX f v:=by unfold hY; simp[K,J]
  omega
 | true =>
  have j:S (cO f v 0)=true:=J;have each:∀ d,d<f.ayM.length→one (u v d)≤one (u v d)*one (S (bG f d))+((if okD f v d=true then hY S (eK f v d) else 0)+cH (fun k=>one (u v d&&inD f (k+1) d)*one (S (cO f v (fX f (k+1)))&&!S (cO f v (k+1)))) (f.ayP.length-1)):=by
   intro d F;cases R:u v d with
   | false=>exact aAP _
   | true =>
    have y:=A.ok v d B F R;cases M:S (bG f d) with
    | true=>rw[vL]; omega
    | false =>
     cases E:S (cO f v (eW f d)) with
     | true =>
      have:hY S (eK f v d)=1:=by unfold hY eK; simp[M,E]
      rw[if_pos y,this,vL,vK]; omega
     | false =>obtain⟨i,X,Y,U,V,W⟩:=Wq h F S (cO f v) j 0 Om E;have I:=Q1 (g:=fun k=>one (true&&inD f (k+1) d)*one (S (cO f v (fX f (k+1)))&&!S (cO f v (k+1)))) (n:=f.ayP.length-1) (k:=i-1) Om;simp only[show i-1+1=i by omega,U,V,W,vL,Bool.and_self,aBF] at I;rw[vL,vK];omega
  have l:=A.num v B;have w:=uS (n:=f.ayM.length) each;rw[uR,uR,AV] at w;have x:cH (fun k=>cH (fun d=>one (u v d&&inD f (k+1) d)*one (S (cO f v (fX f (k+1)))&&!S (cO f v (k+1)))) f.ayM.length) (f.ayP.length-1)≤cH (fun k=>hY S (jS f v k)) (f.ayP.length-1):=by
   refine uS fun k I=>?_;have e:cH (fun d=>one (u v d&&inD f (k+1) d)*one (S (cO f v (fX f (k+1)))&&!S (cO f v (k+1)))) f.ayM.length=one (S (cO f v (fX f (k+1)))&&!S (cO f v (k+1)))*eT (fun d=>u v d&&inD f (k+1) d) f.ayM.length:=by unfold eT;rw[← IG];exact dZ fun d _=>aBA _ _
   rw[e];unfold hY jS;simp only;cases g1:S (cO f v (fX f (k+1)))<;>cases g2:S (cO f v (k+1))<;>simp only[vL,vK,aBS,aAR,aBF,aAS,Bool.and_self,aDF,if_false,if_true,Nat.zero_mul,Nat.one_mul,and_false,false_and,and_self,aAF,aAP,reduceCtorEq];unfold vG;split
   ·have:eT (fun d=>u v d&&inD f (k+1) d) f.ayM.length≤eT (u v) f.ayM.length:=uS fun d _=>Uz _ _ fun h=>by rw[aAO] at h; exact h.1
    omega
   ·rename_i O;exact A.bound v (k+1) B Om Om O
  unfold eT at l;omega
theorem sG.cut {f:aC} (h:VF f) {room:List Int} {u:Nat→Nat→Bool} (A:sG f room u) (S:Nat→Bool) (l:S 0=true) (w:S 1=false):oV f≤dA S (fK f room):=by
 unfold fK;rw[lG,KN,yX];have j:oV f≤cH (fun v=>dA S (fA f v)+cH (fun d=>one (u v d)*one (S (bG f d))) f.ayM.length) f.ayO.length:=uS fun v y=>A.vol h S l y;rw[uR,AV] at j;have B:cH (fun d=>cH (fun v=>one (u v d)*one (S (bG f d))) f.ayO.length) f.ayM.length≤cH (fun k=>hY S (mW f room k)) f.ayM.length:=by
  refine uS fun d x=>?_;have e:cH (fun v=>one (u v d)*one (S (bG f d))) f.ayO.length=one (S (bG f d))*eT (fun v=>u v d) f.ayO.length:=by unfold eT;rw[← IG];exact dZ fun v _=>aBA _ _
  rw[e];have:=A.room d x;unfold hY mW;simp only[w];cases S (bG f d) with
  | false=>simp[vK]
  | true=>simp[vL]; exact this
 omega
def eD (g:Nat→Int):Nat→Int
 | 0=>0
 | n+1=>eD g n+g n
theorem Gy (g h:Nat→Int):∀ n,eD (fun k=>g k+h k) n=eD g n+eD h n
 | 0=>rfl
 | n+1=>by rw[eD,eD,eD,Gy g h n]; omega
theorem eF {g h:Nat→Int}:∀ {n:Nat},(∀ k,k<n→g k=h k)→eD g n=eD h n
 | 0,_=>rfl
 | n+1,e=>by rw[eD,eD,eF (n:=n) fun k j=>e k Om,e n Om]
theorem lJ:∀ n,eD (fun _=>0) n=0
 | 0=>rfl
 | n+1=>by rw[eD,lJ n]; rfl
theorem zR (g:Nat→Int) (a:Nat):∀ {n:Nat},a<n→eD (fun k=>if k=a then g k else 0) n=g a
 | 0,h=>by omega
 | n+1,h=>by
  rw[eD];by_cases e:n=a
  ·subst e;rw[eF (h:=fun _=>0) (n:=n) fun k j=>by rw[if_neg Om],lJ,if_pos rfl];omega
  ·rw[zR g a (n:=n) Om,if_neg e];omega
theorem zQ (g:Nat→Nat):∀ n,eD (fun k=>(g k:Int)) n=(cH g n:Int)
 | 0=>rfl
 | n+1=>by rw[eD,cH,zQ g n]; simp
theorem XN (g:Nat→Int):∀ n,eD (fun k=>- g k) n=- eD g n
 | 0=>rfl
 | n+1=>by rw[eD,eD,XN g n]; omega
def gP (a:bJ) (x:Nat) (w:Nat):Int:=(if a.src=w then (x:Int) else 0)-(if a.dst=w then (x:Int) else 0)
theorem xP (w:Nat):∀ {l:List bJ} {xs:List Nat} (m:List bJ) (e:List Nat),l.length=xs.length→fW (l++m) (xs++e) w=fW l xs w+fW m e w
 | [],[],m,e,_=>by simp[fW]
 | [],_::_,_,_,h=>by simp at h
 | _::_,[],_,_,h=>by simp at h
 | a::l,x::xs,m,e,h=>by rw[List.cons_append,List.cons_append,fW,fW,xP w m e (by simpa using h)];omega
theorem jl (w:Nat) (L:List Nat) (F:Nat→bJ) (y:Nat→Nat):fW (L.map F) (L.map y) w=(L.map fun k=>gP (F k) (y k) w).sum:=by
 induction L with
 | nil=>rfl
 | cons a L e=>rw[aBG,aBG,fW,e,aBG,List.sum_cons]; rfl
theorem OC (g:Nat→Int):∀ n,((aAB n).map g).sum=eD g n
 | 0=>rfl
 | n+1=>by rw[aCS,aBO,List.sum_append,OC g n,eD]; simp
theorem dt (g:Nat→Int) (p:Nat→Bool):∀ n,(((aAB n).filter p).map g).sum=eD (fun k=>if p k=true then g k else 0) n
 | 0=>rfl
 | n+1=>by rw[aCS,List.filter_append,aBO,List.sum_append,dt g p n,eD];cases h:p n<;>simp[h]
theorem Es (w:Nat) (F:Nat→List bJ) (X:Nat→List Nat):∀ n,(∀ v,v<n→(F v).length=(X v).length)→fW ((aAB n).flatMap F) ((aAB n).flatMap X) w=eD (fun v=>fW (F v) (X v) w) n
 | 0,_=>rfl
 | n+1,h=>by
  have j:((aAB n).flatMap F).length=((aAB n).flatMap X).length:=by rw[List.length_flatMap,List.length_flatMap];congr 1;exact aCC fun v e=>h v (by have:=aAU.1 e; omega)
  rw[aCS,List.flatMap_append,List.flatMap_append,xP w _ _ j,Es w F X n fun v e=>h v Om,eD];simp
theorem GI:∀ {L:List Nat} {Y:List Nat},L.Nodup→Y.length=L.length→∃ h:Nat→Nat,Y=L.map h
 | [],[],_,_=>⟨fun _=>0,rfl⟩
 | [],_::_,_,h=>by simp at h
 | _::_,[],_,h=>by simp at h
 | a::L,y::Y,x,w=>by obtain⟨j,l⟩:=List.nodup_cons.1 x;obtain⟨h,rfl⟩:=GI l (show Y.length=L.length by simpa using w);refine⟨fun d=>if d=a then y else h d,?_⟩;rw[aBG];refine List.cons_eq_cons.2 ⟨(if_pos rfl).symm,aCC fun d u=>?_⟩;have:¬ d=a:=fun e=>j (by rw[← e]; exact u);exact (if_neg this).symm
theorem wz (F:Nat→List bJ):∀ (n:Nat) (xs:List Nat),xs.length=((aAB n).flatMap F).length→∃ X:Nat→List Nat,xs=(aAB n).flatMap X∧∀ v,v<n→(X v).length=(F v).length
 | 0,xs,h=>⟨fun _=>[],by
   have:xs=[]:=by simpa using h
   rw[this]; rfl,fun v j=>by omega⟩
 | n+1,xs,h=>by
  rw[aCS,List.flatMap_append,aAE] at h;have l:([n].flatMap F).length=(F n).length:=by simp
  rw[l] at h;obtain⟨X,u,w⟩:=wz F n (xs.take ((aAB n).flatMap F).length) (by rw[aAN]; omega);refine⟨fun v=>if v=n then xs.drop ((aAB n).flatMap F).length else X v,?_,fun v j=>?_⟩
  ·rw[aCS,List.flatMap_append];have e:(aAB n).flatMap (fun v=>if v=n then xs.drop ((aAB n).flatMap F).length else X v)=(aAB n).flatMap X:=by rw[List.flatMap_def,List.flatMap_def];congr 1;exact aCC fun v j=>by rw[if_neg (by have:=aAU.1 j; omega)]
   rw[e,← u];simp
  ·by_cases e:v=n
   ·subst e;simp only[if_true];rw[aBR]; omega
   ·simp only[if_neg e];exact w v Om
def pP (f:aC) (s:Nat→Nat) (g h:Nat→Nat→Nat) (v:Nat):List Nat:=s v::((aAB (f.ayP.length-1)).map (g v)++((aAB f.ayM.length).filter (okD f v)).map (h v))
def oC (f:aC) (s:Nat→Nat) (g h:Nat→Nat→Nat) (t:Nat→Nat):List Nat:=(aAB f.ayO.length).flatMap (pP f s g h)++(aAB f.ayM.length).map t
theorem uV (f:aC) (s:Nat→Nat) (g h:Nat→Nat→Nat) (v:Nat):(fA f v).length=(pP f s g h v).length:=by
 unfold fA pP;simp
theorem YX (f:aC) (room:List Int) {xs:List Nat} (y:xs.length=(fK f room).length):∃ s g h t,xs=oC f s g h t:=by
 unfold fK at y;rw[aAE,aAA,aDD] at y;obtain⟨X,B,x⟩:=wz (fA f) f.ayO.length (xs.take ((aAB f.ayO.length).flatMap (fA f)).length) (by rw[aAN]; omega);obtain⟨t,I⟩:=GI (L:=aAB f.ayM.length) (Y:=xs.drop ((aAB f.ayO.length).flatMap (fA f)).length) List.nodup_range (by rw[aBR,aDD]; omega);have each:∀ v,v<f.ayO.length→∃ s0 g0 w,X v=s0::((aAB (f.ayP.length-1)).map g0++((aAB f.ayM.length).filter (okD f v)).map w):=by
  intro v u;have j:=x v u;unfold fA at j;rw[aBV,aAE,aAA,aAA,aDD] at j;cases A:X v with
  | nil=>rw[A] at j; simp at j
  | cons s0 Y =>rw[A,aBV] at j;obtain⟨g0,E⟩:=GI (L:=aAB (f.ayP.length-1)) (Y:=Y.take (f.ayP.length-1)) List.nodup_range (by rw[aAN,aDD]; omega);obtain⟨w,F⟩:=GI (L:=(aAB f.ayM.length).filter (okD f v)) (Y:=Y.drop (f.ayP.length-1)) (List.nodup_range.filter _) (by rw[aBR]; omega);exact⟨s0,g0,w,by rw[← E,← F,aDA]⟩
 have l:∀ v,∃ q:Nat × (Nat→Nat) × (Nat→Nat),v<f.ayO.length→X v=q.1::((aAB (f.ayP.length-1)).map q.2.1++((aAB f.ayM.length).filter (okD f v)).map q.2.2):=fun v=>by
  by_cases u:v<f.ayO.length
  ·obtain⟨a,b,c,e⟩:=each v u;exact⟨(a,b,c),fun _=>e⟩
  ·exact⟨(0,fun _=>0,fun _=>0),fun h=>absurd h u⟩
 refine⟨fun v=>(Classical.choose (l v)).1,fun v=>(Classical.choose (l v)).2.1,fun v=>(Classical.choose (l v)).2.2,t,?_⟩;unfold oC;rw[← I];have e:(aAB f.ayO.length).flatMap (pP f (fun v=>(Classical.choose (l v)).1) (fun v=>(Classical.choose (l v)).2.1) (fun v=>(Classical.choose (l v)).2.2))=(aAB f.ayO.length).flatMap X:=by rw[List.flatMap_def,List.flatMap_def];congr 1;exact aCC fun v u=>(Classical.choose_spec (l v) (aAU.1 u)).symm
 rw[e,← B,aDA]
theorem pH {f:aC} {v i v' j:Nat} (F:v<f.ayO.length) (y:v'<f.ayO.length) (hi:i<f.ayP.length) (x:j<f.ayP.length) (e:cO f v i=cO f v' j):v=v'∧i=j:=by
 unfold cO at e;split at e<;>split at e
 ·omega
 ·omega
 ·omega
 ·rename_i B E;have l:0<f.ayP.length-1:=Om;have w:v*(f.ayP.length-1)+(i-1)=v'*(f.ayP.length-1)+(j-1):=Om;have u:(v*(f.ayP.length-1)+(i-1))/(f.ayP.length-1)=v:=by rw[aBA,Nat.mul_add_div l,aDG Om,aBP]
  have A:(v'*(f.ayP.length-1)+(j-1))/(f.ayP.length-1)=v':=by rw[aBA,Nat.mul_add_div l,aDG Om,aBP]
  rw[w,A] at u;subst u;exact⟨rfl,by omega⟩
theorem QJ (f:aC) (s:Nat→Nat) (g h:Nat→Nat→Nat) (v w:Nat):fW (fA f v) (pP f s g h v) w=gP ⟨0,2+v,eX f v⟩ (s v) w+(eD (fun k=>gP (jS f v k) (g v k) w) (f.ayP.length-1)+eD (fun d=>if okD f v d=true then gP (eK f v d) (h v d) w else 0) f.ayM.length):=by
 unfold fA pP;rw[fW,xP _ _ _ (by simp),jl,jl,OC,dt]; rfl
theorem WK (f:aC) (room:List Int) (s:Nat→Nat) (g h:Nat→Nat→Nat) (t:Nat→Nat) (w:Nat):fW (fK f room) (oC f s g h t) w=eD (fun v=>fW (fA f v) (pP f s g h v) w) f.ayO.length+eD (fun d=>gP (mW f room d) (t d) w) f.ayM.length:=by
 unfold fK oC;rw[xP,Es _ _ _ _ fun v _=>uV f s g h v,jl,OC];rw[List.length_flatMap,List.length_flatMap];congr 1;exact aCC fun v _=>uV f s g h v
theorem Un {f:aC} (hV:VF f) (room:List Int) (s:Nat→Nat) (g h:Nat→Nat→Nat) (t:Nat→Nat):fW (fK f room) (oC f s g h t) 0=(cH s f.ayO.length:Nat):=by
 rw[WK,← zQ];have l:eD (fun d=>gP (mW f room d) (t d) 0) f.ayM.length=0:=by rw[eF (h:=fun _=>0) fun d j=>?_,lJ];unfold gP mW bG;simp only;rw[if_neg Om,if_neg Om]; rfl
 rw[l,Int.add_zero];refine eF fun v e=>?_;rw[QJ];have u:eD (fun k=>gP (jS f v k) (g v k) 0) (f.ayP.length-1)=0:=by rw[eF (h:=fun _=>0) fun k A=>?_,lJ];have x:=(hC hV e (i:=fX f (k+1)) (by have:=(hV.dom (k+1) Om Om).2.1; omega)).1;have y:=(hC hV e (i:=k+1) Om).1;unfold gP jS;simp only;rw[if_neg Om,if_neg Om]; rfl
 have w:eD (fun d=>if okD f v d=true then gP (eK f v d) (h v d) 0 else 0) f.ayM.length=0:=by
  rw[eF (h:=fun _=>0) fun d j=>?_,lJ];have x:=(hC hV e (i:=eW f d) (hV.drive d j).2.2.2.1).1;have z:gP (eK f v d) (h v d) 0=0:=by unfold gP eK bG;simp only;rw[if_neg Om,if_neg Om]; rfl
  rw[z];split<;>rfl
 rw[u,w];unfold gP;simp only;rw[if_pos trivial,if_neg Om];omega
theorem amS {f:aC} (hV:VF f) (room:List Int) (s:Nat→Nat) (g h:Nat→Nat→Nat) (t:Nat→Nat) {v i:Nat} (j:v<f.ayO.length) (hi:i<f.ayP.length) :
  fW (fK f room) (oC f s g h t) (cO f v i)=eD (fun k=>if fX f (k+1)=i then (g v k:Int) else 0) (f.ayP.length-1)+eD (fun d=>if okD f v d=true∧eW f d=i then (h v d:Int) else 0) f.ayM.length-(if i=0 then (s v:Int) else (g v (i-1):Int)):=by
 obtain⟨S,B⟩:=hC hV j hi;rw[WK];have M:eD (fun d=>gP (mW f room d) (t d) (cO f v i)) f.ayM.length=0:=by rw[eF (h:=fun _=>0) fun d u=>?_,lJ];unfold gP mW;unfold bG at B ⊢;simp only;rw[if_neg Om,if_neg Om]; rfl
 have N:eD (fun v'=>fW (fA f v') (pP f s g h v') (cO f v i)) f.ayO.length=fW (fA f v) (pP f s g h v) (cO f v i):=by
  have:=zR (fun v'=>fW (fA f v') (pP f s g h v') (cO f v i)) v j;rw[← this];refine eF fun v' l=>?_;by_cases e:v'=v
  ·rw[if_pos e]
  rw[if_neg e,QJ];have a1:gP ⟨0,2+v',eX f v'⟩ (s v') (cO f v i)=0:=by have O:cO f v' 0≠cO f v i:=fun h=>e (pH l j hV.root.1 hi h).1;have y:2+v'≠cO f v i:=O;unfold gP;simp only;rw[if_neg Om,if_neg y]; rfl
  have a2:eD (fun k=>gP (jS f v' k) (g v' k) (cO f v i)) (f.ayP.length-1)=0:=by rw[eF (h:=fun _=>0) fun k A=>?_,lJ];have R:=(hV.dom (k+1) Om Om).2.1;unfold gP jS;simp only;rw[if_neg fun h=>e (pH l j Om hi h).1,if_neg fun h=>e (pH l j Om hi h).1]; rfl
  have a3:eD (fun d=>if okD f v' d=true then gP (eK f v' d) (h v' d) (cO f v i) else 0) f.ayM.length=0:=by
   rw[eF (h:=fun _=>0) fun d u=>?_,lJ];have z:gP (eK f v' d) (h v' d) (cO f v i)=0:=by unfold gP eK;simp only;rw[if_neg fun h=>e (pH l j (hV.drive d u).2.2.2.1 hi h).1,if_neg (show ¬ bG f d=cO f v i by unfold bG at B ⊢; omega)]; rfl
   rw[z];split<;>rfl
  rw[a1,a2,a3]; rfl
 rw[M,N,Int.add_zero,QJ];have E:gP ⟨0,2+v,eX f v⟩ (s v) (cO f v i)=- if i=0 then (s v:Int) else 0:=by
  unfold gP;simp only;rw[if_neg Om];by_cases e:i=0
  ·subst e;rw[if_pos rfl,if_pos (show 2+v=cO f v 0 from rfl)];omega
  ·have:¬ 2+v=cO f v i:=fun h=>e ((pH j j hV.root.1 hi (show cO f v 0=cO f v i from h)).2).symm;rw[if_neg e,if_neg this]; rfl
 have F:eD (fun k=>gP (jS f v k) (g v k) (cO f v i)) (f.ayP.length-1)=eD (fun k=>if fX f (k+1)=i then (g v k:Int) else 0) (f.ayP.length-1)-(if i=0 then 0 else (g v (i-1):Int)):=by
  have w:eD (fun k=>if k+1=i then (g v k:Int) else 0) (f.ayP.length-1)=if i=0 then 0 else (g v (i-1):Int):=by
   by_cases e:i=0
   ·subst e;rw[if_pos rfl,eF (h:=fun _=>0) fun k A=>by rw[if_neg Om],lJ]
   ·rw[if_neg e,← zR (fun k=>(g v k:Int)) (i-1) (n:=f.ayP.length-1) Om];refine eF fun k A=>?_;by_cases c:k+1=i
    ·rw[if_pos c,if_pos Om]
    ·rw[if_neg c,if_neg Om]
  have:eD (fun k=>gP (jS f v k) (g v k) (cO f v i)) (f.ayP.length-1)=eD (fun k=>(if fX f (k+1)=i then (g v k:Int) else 0)+- (if k+1=i then (g v k:Int) else 0)) (f.ayP.length-1):=by refine eF fun k A=>?_;have R:=(hV.dom (k+1) Om Om).2.1;unfold gP jS;simp only;have x:cO f v (fX f (k+1))=cO f v i↔fX f (k+1)=i:=⟨fun h=>(pH j j Om hi h).2,fun h=>by rw[h]⟩;have K:cO f v (k+1)=cO f v i↔k+1=i:=⟨fun h=>(pH j j Om hi h).2,fun h=>by rw[h]⟩;simp only[x,K];omega
  rw[this,Gy,XN,w]; rfl
 have I:eD (fun d=>if okD f v d=true then gP (eK f v d) (h v d) (cO f v i) else 0) f.ayM.length=eD (fun d=>if okD f v d=true∧eW f d=i then (h v d:Int) else 0) f.ayM.length:=by refine eF fun d u=>?_;have x:cO f v (eW f d)=cO f v i↔eW f d=i:=⟨fun h=>(pH j j (hV.drive d u).2.2.2.1 hi h).2,fun h=>by rw[h]⟩;unfold gP eK;simp only[x];rw[if_neg (show ¬ bG f d=cO f v i by unfold bG at B ⊢; omega)];by_cases w:okD f v d=true<;>by_cases J:eW f d=i<;>simp[w,J]
 rw[E,F,I];split<;>omega
theorem amT {f:aC} (hV:VF f) (room:List Int) (s:Nat→Nat) (g h:Nat→Nat→Nat) (t:Nat→Nat) {d:Nat} (x:d<f.ayM.length) :
  fW (fK f room) (oC f s g h t) (bG f d)=(t d:Int)-eD (fun v=>if okD f v d=true then (h v d:Int) else 0) f.ayO.length:=by
 rw[WK];have u:∀ v i,v<f.ayO.length→i<f.ayP.length→cO f v i≠bG f d:=fun v i l hi e=>by have:=(hC hV l hi).2;unfold bG at this e;omega
 have y:eD (fun j=>gP (mW f room j) (t j) (bG f d)) f.ayM.length=(t d:Int):=by
  rw[← zR (fun j=>(t j:Int)) d x];refine eF fun j _=>?_;unfold gP mW bG;simp only;rw[if_neg (Om:¬ 1=2+f.ayO.length*f.ayP.length+d)];by_cases e:j=d
  ·rw[if_pos e,if_pos Om]; omega
  ·rw[if_neg e,if_neg Om]; rfl
 have A:eD (fun v=>fW (fA f v) (pP f s g h v) (bG f d)) f.ayO.length=eD (fun v=>- (if okD f v d=true then (h v d:Int) else 0)) f.ayO.length:=by
  refine eF fun v l=>?_;rw[QJ];have a1:gP ⟨0,2+v,eX f v⟩ (s v) (bG f d)=0:=by have B:2+v≠bG f d:=u v 0 l hV.root.1;unfold gP;simp only;rw[if_neg (by unfold bG; omega),if_neg B]; rfl
  have a2:eD (fun k=>gP (jS f v k) (g v k) (bG f d)) (f.ayP.length-1)=0:=by rw[eF (h:=fun _=>0) fun k E=>?_,lJ];have F:=(hV.dom (k+1) Om Om).2.1;unfold gP jS;simp only;rw[if_neg (u v _ l Om),if_neg (u v _ l Om)]; rfl
  have a3:eD (fun j=>if okD f v j=true then gP (eK f v j) (h v j) (bG f d) else 0) f.ayM.length=- (if okD f v d=true then (h v d:Int) else 0):=by
   have:=zR (fun j=>- (if okD f v j=true then (h v j:Int) else 0)) d x;rw[← this];refine eF fun j w=>?_;unfold gP eK;simp only;rw[if_neg (u v _ l (hV.drive j w).2.2.2.1)];by_cases e:j=d
   ·subst e;rw[if_pos rfl,if_pos rfl];split<;>omega
   ·rw[if_neg (show ¬ bG f j=bG f d by unfold bG; omega),if_neg e];split<;>rfl
  rw[a1,a2,a3]; omega
 rw[y,A,XN]; omega
theorem R5 {f:aC} (h:VF f) {d:Nat} (e:d<f.ayM.length):jX f d 4=eW f d:=by
 unfold jX;rfl
theorem agQ {f:aC} (h:VF f) {d i:Nat} (l:d<f.ayM.length) (hi:i<f.ayP.length):one (inD f i d)=cH (fun k=>one (decide (fX f (k+1)=i)&&inD f (k+1) d)) (f.ayP.length-1)+one (decide (eW f d=i)):=by
 have N:=h.m6 hi;have I:=h.drive d l;by_cases c:lvl f i=4
 ·have j:cH (fun k=>one (decide (fX f (k+1)=i)&&inD f (k+1) d)) (f.ayP.length-1)=0:=by
   rw[dZ (h:=fun _=>0) fun k A=>?_,nT];obtain⟨g1,g2,g3,g4,F⟩:=h.dom (k+1) Om Om;have:¬ fX f (k+1)=i:=fun e=>by rw[e] at g3; omega
   rw[decide_eq_false this,aAR]; rfl
  rw[j,aAX];unfold inD;rw[c,R5 h l]
 ·have j:¬ eW f d=i:=fun e=>c (by rw[← e]; exact I.2.2.2.2);obtain⟨a1,a2⟩:=YJ h l (lev:=lvl f i+1) Om Om;have M:0<jX f d (lvl f i+1):=by
   rcases aCH (jX f d (lvl f i+1)) with e | e
   ·rw[e,h.root.2.1] at a2; omega
   ·exact e
  have J:fX f (jX f d (lvl f i+1))=jX f d (lvl f i):=by unfold jX;rw[show 4-(lvl f i).toNat=(4-(lvl f i+1).toNat)+1 by omega,upN]
  rw[decide_eq_false j,show one false=0 from rfl,aBP];have B:∀ k,k<f.ayP.length-1→one (decide (fX f (k+1)=i)&&inD f (k+1) d)=if k=jX f d (lvl f i+1)-1 then one (inD f i d) else 0:=by
   intro k A;obtain⟨g1,g2,g3,g4,F⟩:=h.dom (k+1) Om Om;by_cases e:k=jX f d (lvl f i+1)-1
   ·rw[if_pos e];have y:k+1=jX f d (lvl f i+1):=Om;have t:inD f (k+1) d=true:=by unfold inD;rw[y,a2,decide_eq_true_eq]
    rw[t,aCJ,y,J]; rfl
   ·rw[if_neg e];by_cases w:fX f (k+1)=i
    ·have:inD f (k+1) d=false:=by unfold inD;rw[decide_eq_false_iff_not];intro E;rw[w] at g3;rw[show lvl f (k+1)=lvl f i+1 by omega] at E;omega
     rw[this,aBS]; rfl
    ·rw[decide_eq_false w,aAR]; rfl
  rw[dZ B];have u:∀ (n a x:Nat),a<n→cH (fun k=>if k=a then x else 0) n=x:=by
   intro n
   induction n with
   | zero=>intro a x h; omega
   | succ n K =>
    intro a x h;rw[cH];by_cases e:n=a
    ·subst e;rw[dZ (h:=fun _=>0) fun k A=>by rw[if_neg Om],nT,if_pos rfl]; omega
    ·rw[K a x Om,if_neg e]; rfl
  rw[u _ _ _ Om]
structure aiQ (f:aC) (room:List Int) (s:Nat→Nat) (g h:Nat→Nat→Nat) (t:Nat→Nat):Prop where
 s:∀ v,v<f.ayO.length→s v≤eX f v
 g:∀ v k,v<f.ayO.length→k<f.ayP.length-1→g v k≤vG f v (k+1)
 h:∀ v d,v<f.ayO.length→d<f.ayM.length→okD f v d=true→h v d≤1
 t:∀ d,d<f.ayM.length→t d≤tM f room d
theorem LY {l m:List bJ} {xs u:List Nat} (w:l.length=xs.length) (h:∀ (i:Nat) a x,(l++m)[i]?=some a→(xs++u)[i]?=some x→x≤a.cap) :
  (∀ (i:Nat) a x,l[i]?=some a→xs[i]?=some x→x≤a.cap)∧∀ (i:Nat) a x,m[i]?=some a→u[i]?=some x→x≤a.cap:=by
 constructor
 ·intro i a x e j;have y:=(aBD.1 e).1;exact h i a x (by rw[aCB y]; exact e) (by rw[aCB Om]; exact j)
 ·intro i a x e j;exact h (l.length+i) a x (by rw[aBY Om,Nat.add_sub_cancel_left]; exact e) (by rw[aBY Om,w,Nat.add_sub_cancel_left]; exact j)
theorem Bs {L:List Nat} {F:Nat→bJ} {y:Nat→Nat} (h:∀ (i:Nat) a x,(L.map F)[i]?=some a→(L.map y)[i]?=some x→x≤a.cap):∀ k∈L,y k≤(F k).cap:=by
 intro k e;obtain⟨i,hi,rfl⟩:=aBZ e;exact h i _ _ (by rw[aAT,aAH hi]; rfl) (by rw[aAT,aAH hi]; rfl)
theorem Ny {F:Nat→List bJ} {X:Nat→List Nat}:∀ {n:Nat},(∀ v,v<n→(F v).length=(X v).length)→(∀ (i:Nat) a x,((aAB n).flatMap F)[i]?=some a→((aAB n).flatMap X)[i]?=some x→x≤a.cap)→∀ v,v<n→∀ (i:Nat) a x,(F v)[i]?=some a→(X v)[i]?=some x→x≤a.cap
 | 0,_,_,v,l=>by omega
 | n+1,u,h,v,l=>by
  rw[aCS,List.flatMap_append,List.flatMap_append] at h;have j:((aAB n).flatMap F).length=((aAB n).flatMap X).length:=by rw[List.length_flatMap,List.length_flatMap];congr 1;exact aCC fun v l=>u v (by have:=aAU.1 l; omega)
  obtain⟨w,y⟩:=LY j h;by_cases e:v=n
  ·subst e;simpa using y
  ·exact Ny (fun v l=>u v Om) w v Om
theorem afU {f:aC} {room:List Int} {s:Nat→Nat} {g h:Nat→Nat→Nat} {t:Nat→Nat} (l:∀ (i:Nat) a x,(fK f room)[i]?=some a→(oC f s g h t)[i]?=some x→x≤a.cap):aiQ f room s g h t:=by
 unfold fK oC at l;have u:((aAB f.ayO.length).flatMap (fA f)).length=((aAB f.ayO.length).flatMap (pP f s g h)).length:=by rw[List.length_flatMap,List.length_flatMap];congr 1;exact aCC fun v _=>uV f s g h v
 obtain⟨A,B⟩:=LY u l;have E:=Ny (fun v _=>uV f s g h v) A;have F:=Bs B;have each:∀ v,v<f.ayO.length→s v≤eX f v∧(∀ k,k<f.ayP.length-1→g v k≤vG f v (k+1))∧∀ d,d<f.ayM.length→okD f v d=true→h v d≤1:=by intro v e;have h5:=E v e;unfold fA pP at h5;refine⟨h5 0 _ _ rfl rfl,?_⟩;have I:∀ (i:Nat) a x,((aAB (f.ayP.length-1)).map (jS f v)++((aAB f.ayM.length).filter (okD f v)).map (eK f v))[i]?=some a→((aAB (f.ayP.length-1)).map (g v)++((aAB f.ayM.length).filter (okD f v)).map (h v))[i]?=some x→x≤a.cap:=fun i a x J M=>h5 (i+1) a x (by simpa using J) (by simpa using M);obtain⟨h7,h8⟩:=LY (by simp) I;exact⟨fun k w=>Bs h7 k (aAU.2 w),fun d j y=>Bs h8 d (aDP.2 ⟨aAU.2 j,y⟩)⟩
 exact⟨fun v e=>(each v e).1,fun v k e w=>(each v e).2.1 k w,fun v d e j K=>(each v e).2.2 d j K,fun d j=>F d (aAU.2 j)⟩
def kO (f:aC) (h:Nat→Nat→Nat) (v d:Nat):Bool:=okD f v d&&decide (h v d≠0)
theorem w9 {f:aC} (hV:VF f) {room:List Int} {s:Nat→Nat} {g h:Nat→Nat→Nat} {t:Nat→Nat} (M:fY (dY f room) (oC f s g h t)) (y:(oV f:Int)≤iJ (dY f room) (oC f s g h t)):sG f room (kO f h):=by
 have P:=afU M.le;have I:∀ v,v<f.ayO.length→s v=eX f v:=by
  have u:iJ (dY f room) (oC f s g h t)=(cH s f.ayO.length:Nat):=Un hV room s g h t;rw[u] at y;have B:oV f≤cH s f.ayO.length:=Om;clear y u;unfold oV at B;have F:=P.s;generalize f.ayO.length=n at *
  induction n with
  | zero=>intro v j; omega
  | succ n K =>
   rw[cH,cH] at B;have Y:=F n Om;have Z:cH s n≤cH (eX f) n:=uS fun v j=>F v Om;intro v j;by_cases e:v=n
   ·subst e; omega
   ·exact K Om (fun v j=>F v Om) v Om
 have nodes:∀ w,2≤w→w<bG f f.ayM.length→fW (fK f room) (oC f s g h t) w=0:=fun w u B=>M.node w B (by show w≠0; omega) (by show w≠1; omega);have x:∀ v d,v<f.ayO.length→d<f.ayM.length→one (kO f h v d)=if okD f v d=true then h v d else 0:=by
  intro v d j l;unfold kO;cases W:okD f v d with
  | false=>rfl
  | true =>
   have:=P.h v d j l W;simp only[aBB,if_true];by_cases e:h v d=0
   ·rw[e]; rfl
   ·rw[decide_eq_true e];have:h v d=1:=Om;rw[this]; rfl
 have below:∀ v,v<f.ayO.length→∀ (m i:Nat),f.ayP.length-i=m→i<f.ayP.length→(if i=0 then s v else g v (i-1))=eT (fun d=>kO f h v d&&inD f i d) f.ayM.length:=by
  intro v j m
  induction m using Nat.strongRecOn with
  | ind m K =>
   intro i N hi;have A:=nodes (cO f v i) (hC hV j hi).1 (by have:=(hC hV j hi).2; unfold bG at this ⊢; omega);rw[amS hV room s g h t j hi] at A;have E:eD (fun k=>if fX f (k+1)=i then (g v k:Int) else 0) (f.ayP.length-1)=(cH (fun k=>if fX f (k+1)=i then eT (fun d=>kO f h v d&&inD f (k+1) d) f.ayM.length else 0) (f.ayP.length-1):Nat):=by
    rw[← zQ];refine eF fun k V=>?_;by_cases c:fX f (k+1)=i
    ·have hp:=(hV.dom (k+1) Om Om).2.1;have:=K (f.ayP.length-(k+1)) Om (k+1) rfl Om;rw[if_neg Om,Nat.add_sub_cancel] at this;rw[if_pos c,if_pos c,this]
    ·rw[if_neg c,if_neg c]; rfl
   have S:eD (fun d=>if okD f v d=true∧eW f d=i then (h v d:Int) else 0) f.ayM.length=(cH (fun d=>one (kO f h v d)*one (decide (eW f d=i))) f.ayM.length:Nat):=by rw[← zQ];refine eF fun d l=>?_;rw[x v d j l];by_cases O:okD f v d=true<;>by_cases R:eW f d=i<;>simp[O,R,vL,vK]
   have U:eT (fun d=>kO f h v d&&inD f i d) f.ayM.length=cH (fun k=>if fX f (k+1)=i then eT (fun d=>kO f h v d&&inD f (k+1) d) f.ayM.length else 0) (f.ayP.length-1)+cH (fun d=>one (kO f h v d)*one (decide (eW f d=i))) f.ayM.length:=by
    have a1:eT (fun d=>kO f h v d&&inD f i d) f.ayM.length=cH (fun d=>cH (fun k=>one (kO f h v d)*one (decide (fX f (k+1)=i)&&inD f (k+1) d)) (f.ayP.length-1)+one (kO f h v d)*one (decide (eW f d=i))) f.ayM.length:=by unfold eT;refine dZ fun d l=>?_;rw[Qp,agQ hV l hi,aAM,IG]
    rw[a1,uR,AV];congr 1;refine dZ fun k V=>?_;by_cases c:fX f (k+1)=i
    ·rw[if_pos c,decide_eq_true c];unfold eT;exact dZ fun d _=>by rw[aBB]; exact (Qp _ _).symm
    ·rw[if_neg c,decide_eq_false c,dZ (h:=fun _=>0) fun d _=>by rw[aAR]; rfl,nT]
   rw[E,S] at A;rw[U];split<;>rename_i c
   ·rw[if_pos c] at A; omega
   ·rw[if_neg c] at A; omega
 have root:∀ d,d<f.ayM.length→inD f 0 d=true:=fun d l=>by
  unfold inD;rw[hV.root.2.1,decide_eq_true_eq];obtain⟨a,b⟩:=YJ hV l (lev:=0) Om Om;rcases aCH (jX f d 0) with e | e
  ·exact e
  ·have:=(hV.dom _ e a).2.2.2.1;omega
 refine⟨fun v j=>?_,fun v d j l J=>?_,fun v i j X hi N=>?_,fun d l=>?_⟩
 ·have:=below v j _ 0 rfl hV.root.1;rw[if_pos rfl,I v j] at this;rw[this];unfold eT;exact dZ fun d l=>by show one _=one (kO f h v d&&inD f 0 d); rw[root d l,aCJ]
 ·unfold kO at J;rw[aAO] at J;exact J.1
 ·have:=below v j _ i rfl hi;rw[if_neg Om] at this;rw[← this];have u:=P.g v (i-1) j Om;rw[show i-1+1=i by omega] at u;unfold vG at u;rw[if_neg N] at u;exact u
 ·have A:=nodes (bG f d) (by unfold bG; omega) (by unfold bG; omega);rw[amT hV room s g h t l] at A;have E:eD (fun v=>if okD f v d=true then (h v d:Int) else 0) f.ayO.length=(eT (fun v=>kO f h v d) f.ayO.length:Nat):=by unfold eT;rw[← zQ];refine eF fun v j=>?_;rw[x v d j l];split<;>rfl
  rw[E] at A;have:=P.t d l;omega
theorem QT {f:aC} {p:cC} {v:Nat} {row:List Int}:OT f p v row=[]↔(∀ i,i<row.length→0≤row.getD i 0)∧(∀ d,d<f.ayM.length→row.count (d:Int)≤1)∧(∀ i,i<row.length→0≤row.getD i 0→p.ayN.contains ((mdl f (row.getD i 0).toNat:Nat):Int)=true)∧∀ i,i<f.ayP.length→eM f p i>0→gx f row i≤eM f p i:=by
 have e:∀ d,d<f.ayM.length→(vx f.ayM.length row).getD d 0=(row.count (d:Int):Nat):=fun d h=>by simp[vx,aAL,h]
 have j:∀ i,i<f.ayP.length→(Sn f row).getD i 0=gx f row i:=fun i h=>by simp[Sn,aAL,h]
 unfold OT;rw[List.append_eq_nil_iff,List.append_eq_nil_iff,List.append_eq_nil_iff,qQ,qQ,qQ,qQ,and_assoc,and_assoc];refine and_congr ?_ (and_congr ?_ (and_congr ?_ ?_))
 ·refine forall_congr' fun i=>forall_congr' fun hi=>?_;unfold home;rw[decide_eq_false_iff_not]; omega
 ·refine forall_congr' fun d=>forall_congr' fun l=>?_;unfold aiN;rw[e d l,decide_eq_false_iff_not]; omega
 ·refine forall_congr' fun i=>forall_congr' fun hi=>?_;unfold da;by_cases c:0≤row.getD i 0<;>simp[c]
 ·refine forall_congr' fun i=>forall_congr' fun hi=>?_;unfold aiF;rw[j i hi,Bool.and_eq_false_iff,decide_eq_false_iff_not,decide_eq_false_iff_not];omega
theorem Iz {f:aC} (j:cV f=true) {l:List (List Int)} (u:qY f l) (room:List Int):wD f l room=true↔(∀ v (h:v<l.length),OT f (cR f v) v l[v]=[])∧∀ d,d<f.ayM.length→((l.flatten.count (d:Int):Nat):Int)≤mD f room d:=by
 rw[Xw j u.len];refine and_congr ?_ ?_
 ·unfold Sx;rw[List.flatMap_eq_nil_iff];constructor
  ·intro h v j;have:=h v (aAU.2 j);unfold afR at this;rw[u.shape j] at this;have e:l.getD v []=l[v]:=by simp[aAL,j]
   rw[e] at this;exact this
  ·intro h v A;have j:=aAU.1 A;unfold afR;rw[u.shape j];have e:l.getD v []=l[v]:=by simp[aAL,j]
   simp only;rw[e];exact h v j
 ·refine forall_congr' fun d=>forall_congr' fun w=>?_;have x:(B7 f l).getD d 0=(l.flatten.count (d:Int):Nat):=by simp[B7,vx,aAL,w]
  have y:(lE f room).getD d 0=mD f room d:=by simp[lE,aAL,w]
  unfold over;rw[x,y,decide_eq_false_iff_not];omega
theorem count_flatten (d:Int):∀ l:List (List Int),l.flatten.count d=cH (fun v=>(l.getD v []).count d) l.length:=by
 intro l;obtain⟨r,rfl⟩:∃ r,l=List.reverse r:=⟨l.reverse,by simp⟩
 induction r with
 | nil=>rfl
 | cons x r j =>
  rw[List.reverse_cons,List.flatten_append,List.count_append,j,aAE,aAI,cH];congr 1
  ·refine dZ fun v e=>?_;rw[aAL,aAL,aCB e]
  ·rw[aAL,aBY (aAF _)];simp
theorem NV {n:Nat} {row:List Int} (u:∀ x∈row,0≤x∧x<n) (J:∀ d:Nat,d<n→row.count (d:Int)≤1) (p:Int→Bool):row.countP p=eT (fun d=>row.contains (d:Int)&&p d) n:=by
 have E:∀ m:Nat,row.countP (fun x=>decide (x<(m:Int))&&p x)=eT (fun d=>row.contains (d:Int)&&p d) (min m n):=by
  intro m
  induction m with
  | zero =>rw[Nat.zero_min];show _=0;rw[List.countP_eq_zero];intro x l;have:=(u x l).1;simp only[aAO,decide_eq_true_eq];omega
  | succ m A =>
   by_cases c:m<n
   ·rw[aCF Om] at A ⊢;have e:row.countP (fun x=>decide (x<((m+1:Nat):Int))&&p x)=row.countP (fun x=>decide (x<(m:Int))&&p x)+row.countP (fun x=>decide (x=(m:Int))&&p x):=by
     clear A J u
     induction row with
     | nil=>rfl
     | cons y t B =>
      rw[List.countP_cons,List.countP_cons,List.countP_cons,B];have:((if (decide (y<((m+1:Nat):Int))&&p y)=true then 1 else 0):Nat)=(if (decide (y<(m:Int))&&p y)=true then 1 else 0)+(if (decide (y=(m:Int))&&p y)=true then 1 else 0):=by
       cases p y with
       | false=>simp
       | true =>
        simp only[aCJ,decide_eq_true_eq];by_cases F:y<(m:Int)
        ·rw[if_pos F,if_pos Om,if_neg Om]
        ·rw[if_neg F];by_cases I:y=(m:Int)
         ·rw[if_pos I,if_pos Om]
         ·rw[if_neg I,if_neg Om]
      omega
    rw[e,A,eT,eT,cH];congr 1;have K:=J m c;by_cases j:p m=true
    ·have:row.countP (fun x=>decide (x=(m:Int))&&p x)=row.count (m:Int):=by unfold List.count;refine List.countP_congr fun x _=>?_;simp only[aAO,decide_eq_true_eq,beq_iff_eq];exact⟨fun h=>h.1,fun h=>⟨h,by rw[h]; exact j⟩⟩
     rw[this,j,aCJ];by_cases w:(m:Int)∈row
     ·have M:=List.count_pos_iff.2 w;have h5:row.contains (m:Int)=true:=by simpa using w
      rw[h5,vL]; omega
     ·have h5:row.contains (m:Int)=false:=by simpa using w
      rw[h5,vK,List.count_eq_zero_of_not_mem w]
    ·have j:p m=false:=by simpa using j
     rw[j,aBS,vK,List.countP_eq_zero];intro x l;simp only[aAO,decide_eq_true_eq];rintro⟨rfl,h⟩;rw[j] at h; cases h
   ·have e:row.countP (fun x=>decide (x<((m+1:Nat):Int))&&p x)=row.countP (fun x=>decide (x<(m:Int))&&p x):=by refine List.countP_congr fun x l=>?_;have:=u x l;simp only[aAO,decide_eq_true_eq];exact⟨fun h=>⟨by omega,h.2⟩,fun h=>⟨by omega,h.2⟩⟩
    rw[e,A,Nat.min_eq_right Om,Nat.min_eq_right Om]
 have:=E n;rw[Nat.min_self] at this;rw[← this];refine List.countP_congr fun x l=>?_;have:=u x l;simp only[aAO,decide_eq_true_eq];exact⟨fun h=>⟨by omega,h⟩,fun h=>h.2⟩
theorem mo (f:aC) (i d:Nat):GD f i (d:Int)=inD f i d:=by
 unfold GD inD;rw[decide_eq_true (Om:(0:Int)≤(d:Int)),aBB,aDK]
def TI (l:List (List Int)) (v d:Nat):Bool:=(l.getD v []).contains (d:Int)
theorem alN {f:aC} (V:cV f=true) {l:List (List Int)} (I:qY f l) {room:List Int} (h:wD f l room=true):sG f room (TI l):=by
 have hV:=VF.of V;obtain⟨y,A⟩:=(Iz V I room).1 h;have O:∀ v,v<f.ayO.length→∃ row,l.getD v []=row∧(∀ x∈row,0≤x∧x<(f.ayM.length:Nat))∧(∀ d:Nat,d<f.ayM.length→row.count (d:Int)≤1)∧OT f (cR f v) v row=[]∧(row.length:Int)=oE f v:=by
  intro v j;have u:v<l.length:=by rw[I.len]; exact j
  have e:l.getD v []=l[v]:=by simp[aAL,u]
  obtain⟨a1,a2,-,-⟩:=QT.1 (y v u);refine⟨l[v],e,fun x W=>?_,a2,y v u,I.row v u⟩;obtain⟨i,hi,rfl⟩:=aBZ W;have:=a1 i hi;have g:l[v].getD i 0=l[v][i]:=by simp[aAL,hi]
  rw[g] at this;exact⟨this,(I.home _ (aAG u) _ W).2⟩
 refine⟨fun v j=>?_,fun v d j N R=>?_,fun v i j h0 hi U=>?_,fun d N=>?_⟩
 ·obtain⟨row,e,E,B,F,J⟩:=O v j;have:=NV E B fun _=>true;rw[List.countP_true] at this;unfold TI eX;rw[← J,aDK,this,e];unfold eT;exact dZ fun d _=>by dsimp only; rw[aCJ]
 ·obtain⟨row,e,E,B,F,J⟩:=O v j;obtain⟨-,-,a3,-⟩:=QT.1 F;unfold TI at R;rw[e] at R;have U:(d:Int)∈row:=by simpa using R
  obtain⟨i,hi,he⟩:=aBZ U;have g:row.getD i 0=(d:Int):=by simp[aAL,hi,he]
  have:=a3 i hi (by rw[g]; omega);rw[g] at this;exact this
 ·obtain⟨row,e,E,B,F,J⟩:=O v j;obtain⟨-,-,-,a4⟩:=QT.1 F;obtain⟨hp,he⟩:=pM hV j;have w:=hV.ayZ _ (aAG hp);rw[he] at w;have Z:0≤eM f (cR f v) i:=(w.2.2.2.2.2.2.1 _).1;have K:=a4 i hi Om;have h5:=NV E B (GD f i);unfold gx at K;rw[if_neg Om,h5] at K;have Y:eT (fun d=>row.contains (d:Int)&&GD f i d) f.ayM.length=eT (fun d=>TI l v d&&inD f i d) f.ayM.length:=by unfold eT TI;rw[e];exact dZ fun d _=>by dsimp only; rw[mo]
  rw[Y] at K;omega
 ·have S:=A d N;rw[count_flatten,I.len] at S;have X:cH (fun v=>(l.getD v []).count (d:Int)) f.ayO.length=eT (fun v=>TI l v d) f.ayO.length:=by
   unfold eT TI;refine dZ fun v j=>?_;obtain⟨row,e,E,B,F,J⟩:=O v j;dsimp only;rw[e];by_cases M:(d:Int)∈row
   ·have K:=List.count_pos_iff.2 M;have h5:row.contains (d:Int)=true:=by simpa using M
    have:=B d N;rw[h5,vL]; omega
   ·have h5:row.contains (d:Int)=false:=by simpa using M
    rw[h5,vK,List.count_eq_zero_of_not_mem M]
  rw[X] at S;have:=xR hV room N;omega
def nN (f:aC) (u:Nat→Nat→Bool) (v:Nat):List Int:=iH ((aAB f.ayM.length).filter (u v))
def rG (f:aC) (u:Nat→Nat→Bool):List (List Int):=(aAB f.ayO.length).map (nN f u)
theorem Gk (f:aC) (u:Nat→Nat→Bool) (v:Nat) {d:Nat} (j:d<f.ayM.length):(nN f u v).contains (d:Int)=u v d:=by
 refine Bool.eq_iff_iff.2 ?_;simp only[List.contains_iff_mem];unfold nN iH;rw[aAW];constructor
 ·rintro⟨e,he,h⟩;have:e=d:=Om;subst this;exact (aDP.1 he).2
 ·intro h;exact⟨d,aDP.2 ⟨aAU.2 j,h⟩,rfl⟩
theorem QP (f:aC) (u:Nat→Nat→Bool) (v:Nat):(∀ x∈nN f u v,0≤x∧x<(f.ayM.length:Nat))∧(nN f u v).Nodup∧(nN f u v).length=eT (u v) f.ayM.length:=by
 refine⟨fun x l=>?_,?_,?_⟩
 ·obtain⟨d,j,rfl⟩:=aAW.1 l;have:=aAU.1 (aDP.1 j).1;omega
 ·exact List.Pairwise.map _ (fun a b h e=>h Om) (List.nodup_range.filter (u v))
 ·unfold nN iH;rw[aAA,YT,List.countP_eq_length_filter]
theorem ajA {f:aC} (O:cV f=true) {room:List Int} {u:Nat→Nat→Bool} (A:sG f room u):qY f (rG f u)∧wD f (rG f u) room=true:=by
 have hV:=VF.of O;have y:(rG f u).length=f.ayO.length:=by unfold rG; rw[aAA,aDD]
 have J:∀ v (h:v<(rG f u).length),(rG f u)[v]=nN f u v:=fun v h=>(aCW _).trans (by rw[List.getElem_range]);have N:qY f (rG f u):=by
  refine⟨y,fun v h=>?_,fun r W x I=>?_⟩
  ·have j:v<f.ayO.length:=by rw[← y]; exact h
   rw[J v h,(QP f u v).2.2,A.num v j,(mY hV j).2.2.1]
  ·obtain⟨v,-,rfl⟩:=aAW.1 W;have:=(QP f u v).1 x I;omega
 refine⟨N,(Iz O N room).2 ⟨fun v h=>?_,fun d l=>?_⟩⟩
 ·have j:v<f.ayO.length:=by rw[← y]; exact h
  rw[J v h];obtain⟨B,E,S⟩:=QP f u v;have K:∀ i (h:i<(nN f u v).length),(nN f u v).getD i 0=(nN f u v)[i]:=fun i h=>by simp[aAL,h]
  refine QT.2 ⟨fun i hi=>?_,fun d l=>List.nodup_iff_count.1 E _,fun i hi X=>?_,fun i hi Z=>?_⟩
  ·rw[K i hi];exact (B _ (aAG hi)).1
  ·rw[K i hi];have I:=aAG hi;have hb:=B _ I;obtain⟨d,l,he⟩:=aAW.1 I;have w:=aDP.1 l;have:=A.ok v d j (aAU.1 w.1) w.2;rw[← he];exact this
  ·by_cases R:i=0
   ·unfold gx;rw[if_pos R]; omega
   ·unfold gx;rw[if_neg R,NV B (fun d _=>List.nodup_iff_count.1 E _) (GD f i)];have h5:=A.bound v i j Om hi Om;have V:eT (fun d=>(nN f u v).contains (d:Int)&&GD f i d) f.ayM.length=eT (fun d=>u v d&&inD f i d) f.ayM.length:=by unfold eT;exact dZ fun d l=>by dsimp only; rw[Gk f u v l,mo]
    rw[V];omega
 ·rw[count_flatten,y];have U:cH (fun v=>((rG f u).getD v []).count (d:Int)) f.ayO.length=eT (fun v=>u v d) f.ayO.length:=by
   unfold eT;refine dZ fun v j=>?_;have e:(rG f u).getD v []=nN f u v:=by rw[aAL,aAH (by rw[y]; exact j),aCU,J]
   dsimp only;rw[e];obtain⟨B,E,S⟩:=QP f u v;have M:=Gk f u v l;by_cases F:(d:Int)∈nN f u v
   ·have Y:=List.count_pos_iff.2 F;have h5:(nN f u v).contains (d:Int)=true:=by simpa using F
    have:=List.nodup_iff_count.1 E (d:Int);rw[← M,h5,vL]; omega
   ·have h5:(nN f u v).contains (d:Int)=false:=by simpa using F
    rw[← M,h5,vK,List.count_eq_zero_of_not_mem F]
  rw[U];have h7:=A.room d l;have:=xR hV room l;omega
def mK (f:aC) (room:List Int):Prop:=∃ u,sG f room u
theorem abY {f:aC} (e:cV f=true) {room:List Int}:mK f room↔∃ l,qY f l∧wD f l room=true :=
 ⟨fun ⟨_,A⟩=>⟨_,ajA e A⟩,fun ⟨_,j,h⟩=>⟨_,alN e j h⟩⟩
theorem ky {f:aC} (hV:VF f) {room:List Int} {xs:List Nat} (e:fY (dY f room) xs) {S:Nat→Bool} (j:S 0=true) (l:S 1=false) (x:iJ (dY f room) xs=dA S (fK f room)):(oV f:Int)≤iJ (dY f room) xs↔mK f room:=by
 constructor
 ·intro h;obtain⟨s,g,w,t,rfl⟩:=YX f room e.len;exact⟨_,w9 hV e h⟩
 ·rintro⟨u,A⟩;have:=A.cut hV S j l;omega
theorem Vi {f:aC} (hV:VF f) (room:List Int):dA (fun w=>decide (w=0)) (fK f room)=oV f:=by
 unfold fK;rw[lG,KN,yX];have l:cH (fun k=>hY (fun w=>decide (w=0)) (mW f room k)) f.ayM.length=0:=by rw[dZ (h:=fun _=>0) fun d e=>?_,nT];unfold hY mW bG;simp
 rw[l,aBP];refine dZ fun v j=>?_;unfold fA;rw[dA,lG,yX,BE];have u:cH (fun k=>hY (fun w=>decide (w=0)) (jS f v k)) (f.ayP.length-1)=0:=by rw[dZ (h:=fun _=>0) fun k A=>?_,nT];have y:=(hC hV j (i:=fX f (k+1)) (by have:=(hV.dom (k+1) Om Om).2.1; omega)).1;unfold hY jS;simp only;rw[if_neg fun h=>by have:=of_decide_eq_true h.1; omega]
 have x:cH (fun d=>if okD f v d=true then hY (fun w=>decide (w=0)) (eK f v d) else 0) f.ayM.length=0:=by
  rw[dZ (h:=fun _=>0) fun d e=>?_,nT];have y:=(hC hV j (i:=eW f d) (hV.drive d e).2.2.2.1).1;have z:hY (fun w=>decide (w=0)) (eK f v d)=0:=by unfold hY eK;simp only;rw[if_neg fun h=>by have:=of_decide_eq_true h.1; omega]
  rw[z];split<;>rfl
 rw[u,x];simp
theorem aqN {f:aC} (hV:VF f) {room:List Int} {xs:List Nat} (e:fY (dY f room) xs):iJ (dY f room) xs≤oV f:=by
 have:=e.X3 (MP hV room) (S:=fun w=>decide (w=0)) rfl rfl;rw[show dA (fun w=>decide (w=0)) (dY f room).arcs=oV f from Vi hV room] at this;exact this
theorem W7 {f:aC} {r1 r2:List Int} (h:mK f r1) (j:∀ d,d<f.ayM.length→mD f r1 d≤mD f r2 d):mK f r2:=by
 obtain⟨u,A⟩:=h;refine⟨u,A.num,A.ok,A.bound,fun d e=>aCX (A.room d e) ?_⟩;have:=j d e;unfold tM;omega
theorem W5 {f g:aC} {room:List Int} (h:mK f room) (E:g.ayP=f.ayP) (l:g.ayM=f.ayM) (R:g.ayN=f.ayN) (x:g.ayO=f.ayO)
  (F:∀ v,v<f.ayO.length→eX g v=eX f v) (J:∀ v d,v<f.ayO.length→d<f.ayM.length→okD f v d=true→okD g v d=true)
  (hb:∀ v i,v<f.ayO.length→i<f.ayP.length→eM g (cR g v) i≠0→eM g (cR g v) i=eM f (cR f v) i):mK g room:=by
 obtain⟨u,A⟩:=h;have O:∀ i,lvl g i=lvl f i:=fun i=>by unfold lvl; rw[E]
 have S:∀ i,fX g i=fX f i:=fun i=>by unfold fX par; rw[E]
 have B:∀ d,eW g d=eW f d:=fun d=>by unfold eW; rw[l]
 have M:∀ k i,upN g k i=upN f k i:=by
  intro k
  induction k with
  | zero=>intro i; rfl
  | succ k V=>intro i; rw[upN,upN,V,S]
 have I:∀ i d,inD g i d=inD f i d:=fun i d=>by unfold inD jX; rw[O,M,B]
 have K:∀ d,tM g room d=tM f room d:=fun d=>by unfold tM mD ext mdl; rw[l,R]
 refine⟨u,fun v w=>?_,fun v d w j U=>?_,fun v i w N hi y=>?_,fun d j=>?_⟩
 ·rw[x] at w;rw[l,F v w];exact A.num v w
 ·rw[x] at w;rw[l] at j;exact J v d w j (A.ok v d w j U)
 ·rw[x] at w;rw[E] at hi;have:=hb v i w hi y;rw[this] at y ⊢;rw[l];have e:eT (fun d=>u v d&&inD g i d) f.ayM.length=eT (fun d=>u v d&&inD f i d) f.ayM.length:=by unfold eT;exact dZ fun d _=>by dsimp only; rw[I]
  rw[e];exact A.bound v i w N hi y
 ·rw[l] at j;rw[x,K];exact A.room d j

def xZ (f:aC) (a:bJ):Nat:=(a.src-2-f.ayO.length)/(f.ayP.length-1)
def NP (f:aC) (v:Nat) (a:bJ) (x:Nat):Bool:=decide (bG f 0≤a.dst)&&(decide (x≠0)&&decide (xZ f a=v))
def tK (f:aC) (v:Nat) (a:bJ) (x:Nat):List Int:=if NP f v a x=true then [((a.dst-bG f 0:Nat):Int)] else []
def jV (f:aC) (v:Nat):List bJ→List Nat→List Int
 | a::l,x::xs=>tK f v a x++jV f v l xs
 | _,_=>[]
def iz (f:aC) (l:List bJ) (xs:List Nat):List (List Int):=(aAB f.ayO.length).map fun v=>jV f v l xs
theorem pN (f:aC) (v:Nat):∀ {u:List bJ} {w:List Nat} (e:List bJ) (j:List Nat),u.length=w.length→jV f v (u++e) (w++j)=jV f v u w++jV f v e j
 | [],[],e,j,_=>rfl
 | a::l,x::xs,e,j,h=>by rw[List.cons_append,List.cons_append,jV,jV,pN f v e j (by simpa using h),aBE]
theorem AQ {α:Type} (f:aC) (v:Nat) (a:α→bJ) (x:α→Nat):∀ (L:List α),jV f v (L.map a) (L.map x)=L.flatMap fun k=>tK f v (a k) (x k)
 | []=>rfl
 | k::L=>by rw[aBG,aBG,jV,AQ f v a x L,List.flatMap_cons]
theorem flatMap_nil {α β:Type} {g:α→List β}:∀ {L:List α},(∀ k∈L,g k=[])→L.flatMap g=[]
 | [],_=>rfl
 | k::L,h=>by rw[List.flatMap_cons,h k (by simp),flatMap_nil fun j e=>h j (by simp[e])]; rfl
theorem RD {β:Type} {R:List β} {v:Nat}:∀ {n:Nat},v<n→((aAB n).flatMap fun k=>if k=v then R else [])=R
 | 0,h=>by omega
 | n+1,h=>by
  rw[aCS,List.flatMap_append];by_cases e:v=n
  ·subst e;rw[flatMap_nil fun k j=>if_neg (by have:=aAU.1 j; omega)];simp
  ·rw[RD (n:=n) Om];simp[show n≠v by omega]
theorem XE {f:aC} {v:Nat} {a:bJ} {x:Nat} (h:a.dst<bG f 0):tK f v a x=[]:=by
 unfold tK NP;rw[decide_eq_false Om,aAR]; rfl
theorem I5 {f:aC} (h:VF f) {v d:Nat} (j:d<f.ayM.length):xZ f (eK f v d)=v:=by
 have w:=(h.drive d j).2.2.2;have x:=w.2;have y:=h.root;have l:eW f d≠0:=fun e=>by have u:=(h.drive d j).2.2.2.2;rw[e] at u;have:=y.2.1;omega
 have hlt:eW f d<f.ayP.length:=by have:=(h.drive d j).2.2;omega
 unfold xZ eK cO;simp only;rw[if_neg l,show 2+f.ayO.length+v*(f.ayP.length-1)+eW f d-1-2-f.ayO.length=(eW f d-1)+v*(f.ayP.length-1) by omega,Nat.add_mul_div_right _ _ Om,aDG Om,aAX]
theorem anG {f:aC} (h:VF f) (s:Nat→Nat) (g l:Nat→Nat→Nat) {v w:Nat} (A:w<f.ayO.length):jV f v (fA f w) (pP f s g l w)=if w=v then nN f (kO f l) v else []:=by
 unfold fA pP;rw[jV,XE (by have:=hC h A h.root.1; simp only[cO,if_true] at this; exact this.2),aDN,pN _ _ _ _ (by simp),AQ,AQ];rw[flatMap_nil fun k B=>XE (by have:=aAU.1 B; exact (hC (i:=k+1) h A Om).2),aDN];by_cases e:w=v
 ·subst e;rw[if_pos rfl];unfold nN iH;have:∀ L:List Nat,(∀ d∈L,d<f.ayM.length)→((L.filter (okD f w)).flatMap fun d=>tK f w (eK f w d) (l w d))=(L.filter (kO f l w)).map (fun d:Nat=>(d:Int)):=by
   intro L
   induction L with
   | nil=>intro _; rfl
   | cons d L u =>
    intro x;have j:=x d (by simp);have u:=u fun d j=>x d (by simp[j]);rw[List.filter_cons,List.filter_cons];cases y:okD f w d with
    | false=>rw[show kO f l w d=false by unfold kO; rw[y]; rfl]; exact u
    | true =>
     have E:NP f w (eK f w d) (l w d)=kO f l w d:=by unfold NP kO;rw[I5 h j,y,decide_eq_true rfl,aCJ,decide_eq_true (show bG f 0≤(eK f w d).dst by show bG f 0≤bG f d; unfold bG; omega)]
     rw[if_pos rfl,List.flatMap_cons,u];unfold tK;rw[E];cases kO f l w d with
     | false=>rfl
     | true =>rw[if_pos rfl,if_pos rfl,aBG,show (eK f w d).dst-bG f 0=d by show bG f d-bG f 0=d; unfold bG; omega]; rfl
  exact this _ fun d j=>aAU.1 j
 ·rw[if_neg e];refine flatMap_nil fun d j=>?_;have j:=aAU.1 (aDP.1 j).1;unfold tK NP;rw[I5 h j,decide_eq_false e,aBS,aBS]; rfl
theorem adO {f:aC} (h:VF f) (room:List Int) (s:Nat→Nat) (g e:Nat→Nat→Nat) (t:Nat→Nat):iz f (fK f room) (oC f s g e t)=rG f (kO f e):=by
 unfold iz rG;refine aCC fun v j=>?_;have j:=aAU.1 j;have u:∀ L:List Nat,(∀ w∈L,w<f.ayO.length)→(L.flatMap (fA f)).length=(L.flatMap (pP f s g e)).length∧jV f v (L.flatMap (fA f)) (L.flatMap (pP f s g e))=L.flatMap fun w=>if w=v then nN f (kO f e) v else []:=by
  intro L
  induction L with
  | nil=>intro _; exact⟨rfl,rfl⟩
  | cons w L B =>
   intro x;obtain⟨y,A⟩:=B fun w l=>x w (by simp[l]);refine⟨?_,?_⟩
   ·rw[List.flatMap_cons,List.flatMap_cons,aAE,aAE,y,uV f s g e w]
   ·rw[List.flatMap_cons,List.flatMap_cons,List.flatMap_cons,pN _ _ _ _ (uV f s g e w),A,anG h s g e (x w (by simp))]
 obtain⟨k1,k2⟩:=u (aAB f.ayO.length) fun w l=>aAU.1 l;unfold fK oC;rw[pN _ _ _ _ k1,k2,RD j,AQ,flatMap_nil,aBU];intro d _;exact XE (by show 1<bG f 0; unfold bG; omega)
structure fL where
 vols:List Bool
 ayW:List (List Bool)
 azG:List Bool
def fL.shape (f:aC) (c:fL):Bool:=decide (c.vols.length=f.ayO.length)&&(decide (c.ayW.length=f.ayO.length)&&(decide (c.azG.length=f.ayM.length)&&c.ayW.all fun r=>decide (r.length=f.ayP.length-1)))
def nG (c:fL):List Bool:=true::false::(c.vols++(c.ayW.flatten++c.azG))
def EP (c:fL) (w:Nat):Bool:=(nG c).getD w false
def pG (f:aC) (room:List Int) (c:fL):Bool:=c.shape f&&decide (dA (EP c) (fK f room)<oV f)
def uZ (f:aC) (S:Nat→Bool):fL:=⟨(aAB f.ayO.length).map fun v=>S (cO f v 0),(aAB f.ayO.length).map fun v=>(aAB (f.ayP.length-1)).map fun i=>S (cO f v (i+1)),(aAB f.ayM.length).map fun d=>S (bG f d)⟩
structure Shape (f:aC) (c:fL):Prop where
 v:c.vols.length=f.ayO.length
 i:c.ayW.length=f.ayO.length
 d:c.azG.length=f.ayM.length
 r:∀ r∈c.ayW,r.length=f.ayP.length-1
theorem AU {f:aC} {c:fL}:c.shape f=true↔Shape f c:=by
 unfold fL.shape;simp only[aAO,decide_eq_true_eq,aBK];exact⟨fun ⟨a,b,d,e⟩=>⟨a,b,d,e⟩,fun ⟨a,b,d,e⟩=>⟨a,b,d,e⟩⟩
theorem wA {α:Type} {n:Nat}:∀ {l:List (List α)},(∀ r∈l,r.length=n)→l.flatten.length=l.length*n
 | [],_=>by simp
 | r::l,h=>by rw[List.flatten_cons,aAE,h r (by simp),wA fun r e=>h r (by simp[e]),aBV,aCN];omega
theorem k6 {α:Type} {z:α} {n:Nat}:∀ {l:List (List α)} {v i:Nat},(∀ r∈l,r.length=n)→v<l.length→i<n→l.flatten.getD (v*n+i) z=(l.getD v []).getD i z
 | [],v,i,_,e,_=>by simp at e
 | r::l,0,i,h,_,hi=>by have:=h r (by simp);rw[List.flatten_cons,aAL,aCB Om,Nat.zero_mul,aAX,← aAL]; rfl
 | r::l,v+1,i,h,e,hi=>by have u:=h r (by simp);rw[List.flatten_cons,aAL,aBY (by rw[aCN]; omega),show (v+1)*n+i-r.length=v*n+i by rw[aCN]; omega,← aAL,k6 (fun r j=>h r (by simp[j])) (by simpa using e) hi]; rfl
theorem ajK (c:fL):EP c 0=true:=rfl
theorem ajJ (c:fL):EP c 1=false:=rfl
theorem ajL {f:aC} {c:fL} (h:Shape f c) {v:Nat} (e:v<f.ayO.length):EP c (cO f v 0)=c.vols.getD v false:=by
 show (nG c).getD (2+v) false=_;rw[show 2+v=v+1+1 by omega];show (c.vols++(c.ayW.flatten++c.azG)).getD v false=_;rw[aAL,aCB (by rw[h.v]; exact e),← aAL]
theorem ajH {f:aC} {c:fL} (h:Shape f c) {v i:Nat} (e:v<f.ayO.length) (hi:i<f.ayP.length-1):EP c (cO f v (i+1))=(c.ayW.getD v []).getD i false:=by
 show (nG c).getD (cO f v (i+1)) false=_;unfold cO;rw[if_neg Om,show 2+f.ayO.length+v*(f.ayP.length-1)+(i+1)-1=(f.ayO.length+(v*(f.ayP.length-1)+i))+1+1 by omega];show (c.vols++(c.ayW.flatten++c.azG)).getD _ false=_;have j:=wA h.r;rw[h.i] at j;have hb:(v+1)*(f.ayP.length-1)≤f.ayO.length*(f.ayP.length-1):=aBC _ e;rw[aCN] at hb;rw[aAL,aBY (by rw[h.v]; omega),h.v,Nat.add_sub_cancel_left,aCB Om,← aAL];exact k6 h.r (by rw[h.i]; exact e) hi
theorem ajI {f:aC} (hV:VF f) {c:fL} (h:Shape f c) {d:Nat}:EP c (bG f d)=c.azG.getD d false:=by
 show (nG c).getD (bG f d) false=_;have l:=hV.root.1;have j:f.ayO.length*f.ayP.length=f.ayO.length*(f.ayP.length-1)+f.ayO.length:=by
  conv=>lhs; rw[show f.ayP.length=(f.ayP.length-1)+1 by omega,Nat.mul_succ]
 unfold bG;rw[show 2+f.ayO.length*f.ayP.length+d=(f.ayO.length+(f.ayO.length*(f.ayP.length-1)+d))+1+1 by omega];show (c.vols++(c.ayW.flatten++c.azG)).getD _ false=_;have e:=wA h.r;rw[h.i] at e;rw[aAL,aBY (by rw[h.v]; omega),h.v,Nat.add_sub_cancel_left,aBY Om,e,Nat.add_sub_cancel_left,← aAL]
theorem abI {f:aC} (hV:VF f) {c:fL} (h:Shape f c):(nG c).length=bG f f.ayM.length:=by
 have j:=hV.root.1;have e:f.ayO.length*f.ayP.length=f.ayO.length*(f.ayP.length-1)+f.ayO.length:=by
  conv=>lhs; rw[show f.ayP.length=(f.ayP.length-1)+1 by omega,Nat.mul_succ]
 unfold nG bG;rw[aBV,aBV,aAE,aAE,wA h.r,h.v,h.i,h.d];omega
theorem Gt (f:aC) (S:Nat→Bool):Shape f (uZ f S):=by
 refine⟨by simp[uZ],by simp[uZ],by simp[uZ],fun r e=>?_⟩;obtain⟨v,-,rfl⟩:=aAW.1 e;simp
theorem YO {S T:Nat→Bool}:∀ {l:List bJ},(∀ a∈l,S a.src=T a.src∧S a.dst=T a.dst)→dA S l=dA T l
 | [],_=>rfl
 | a::l,h=>by rw[dA,dA,(h a (by simp)).1,(h a (by simp)).2,YO fun b hb=>h b (by simp[hb])]
theorem abA {f:aC} (hV:VF f) (room:List Int) {S T:Nat→Bool} (x:S 0=T 0) (y:S 1=T 1) (u:∀ v i,v<f.ayO.length→i<f.ayP.length→S (cO f v i)=T (cO f v i)) (w:∀ d,d<f.ayM.length→S (bG f d)=T (bG f d)):dA S (fK f room)=dA T (fK f room):=by
 have j:=hV.root.1;refine YO fun a ha=>?_;rcases aBH.1 ha with ha | ha
 ·obtain⟨v,l,ha⟩:=List.mem_flatMap.1 ha;have l:=aAU.1 l;rcases aAK.1 ha with rfl | ha
  ·exact⟨x,u v 0 l j⟩
  rcases aBH.1 ha with ha | ha
  ·obtain⟨k,e,rfl⟩:=aAW.1 ha;have e:=aAU.1 e;exact⟨u v _ l (by have:=(hV.dom (k+1) Om Om).2.1; omega),u v (k+1) l Om⟩
  ·obtain⟨d,e,rfl⟩:=aAW.1 ha;have e:=aAU.1 (aDP.1 e).1;exact⟨u v _ l (by have:=(hV.drive d e).2.2; omega),w d e⟩
 ·obtain⟨d,e,rfl⟩:=aAW.1 ha;exact⟨w d (aAU.1 e),y⟩
theorem apD {f:aC} (hV:VF f) (room:List Int) {S:Nat→Bool} (l:S 0=true) (u:S 1=false):dA (EP (uZ f S)) (fK f room)=dA S (fK f room):=by
 have j:=Gt f S;refine abA hV room (by rw[l]; rfl) (by rw[u]; rfl) (fun v i e hi=>?_) fun d w=>?_
 ·cases i with
  | zero=>rw[ajL j e]; simp[uZ,e]
  | succ i =>rw[ajH j e Om];have:i<f.ayP.length-1:=Om;simp[uZ,e,this]
 ·rw[ajI hV j]; simp[uZ,w]
theorem check_sound {f:aC} (hV:VF f) {room:List Int} {c:fL} (h:pG f room c=true):¬ mK f room:=by
 rintro⟨u,A⟩;unfold pG at h;rw[aAO,decide_eq_true_eq] at h;have:=A.cut hV (EP c) (ajK c) (ajJ c);omega
theorem aaM {f:aC} (hV:VF f) {room:List Int} {xs:List Nat} (l:fY (dY f room) xs) {S:Nat→Bool} (e:S 0=true) (j:S 1=false) (u:iJ (dY f room) xs=dA S (fK f room)) (w:¬ mK f room):pG f room (uZ f S)=true:=by
 have h:=mt (ky hV l e j u).1 w;unfold pG;rw[AU.2 (Gt f S),apD hV room e j,aBB,decide_eq_true_eq];omega
def pU (n lev:Nat) (p:cC):cC:={ p with s1:=if lev=1 then 0 else p.s1,s2:=if lev=2 then 0 else p.s2,s3:=if lev=3 then 0 else p.s3,s4:=if lev=4 then 0 else p.s4,ayN:=iH (aAB n) }
def xA (f:aC) (lev:Nat):aC:={ f with ayQ:=f.ayQ.map (pU f.ayN.length lev) }
theorem jg (n j:Nat) (h:j<n):(iH (aAB n)).getD j 0=j:=by
 unfold iH;rw[aAL,aAT,aCV h]; rfl
theorem acD {n lev:Nat} (K:0<n) {p:cC} (h:jL n p=true):jL n (pU n lev p)=true:=by
 have B:(iH (aAB n)).length=n:=by simp[iH]
 unfold jL at h ⊢;rw[aAO,aAO,aAO] at h ⊢;obtain⟨⟨⟨u,-⟩,A⟩,-⟩:=h;refine⟨⟨⟨?_,?_⟩,A⟩,?_⟩
 ·unfold NH at u ⊢;simp only[aAO,List.all_cons,List.all_nil,aCJ] at u ⊢;obtain⟨a,y,E,F,I,J⟩:=u;have z:within 0 0 8=true:=by decide
  refine⟨a,y,?_,?_,?_,?_⟩<;>unfold pU<;>dsimp only<;>split<;>assumption
 ·rw[decide_eq_true_eq];show (iH (aAB n)).length≠0;omega
 ·rw[aBK];intro j l;have l:j<(iH (aAB n)).length:=aAU.1 l;rw[B] at l;show (within ((iH (aAB n)).getD j 0) 0 ((n:Int)-1)&&!((iH (aAB n)).take j).contains ((iH (aAB n)).getD j 0))=true;rw[jg n j l,aAO];refine⟨within_iff.2 Om,?_⟩;rw[Bool.not_eq_true',← Bool.not_eq_true,List.contains_iff_mem];intro w;unfold iH at w;rw[← List.map_take] at w;obtain⟨k,x,e⟩:=aAW.1 w;rw[List.take_range] at x;have:=aAU.1 x;omega
theorem akH {f:aC} {lev:Nat} (h:cV f=true):cV (xA f lev)=true:=by
 have hV:=VF.of h;unfold cV at h ⊢;rw[aAO,aAO,aAO] at h ⊢;obtain⟨⟨⟨u,y⟩,l⟩,A⟩:=h;refine⟨⟨⟨?_,y⟩,?_⟩,?_⟩
 ·unfold pO at u ⊢;show _=true;simp only[xA,aAA] at u ⊢;exact u
 ·simp only[aAO] at l ⊢;obtain⟨⟨l,h5⟩,x⟩:=l;refine⟨⟨l,?_⟩,?_⟩
  ·rw[aBK] at h5 ⊢;intro p E;obtain⟨q,hq,rfl⟩:=aAW.1 E;have j:=h5 q hq;have B:0<f.ayN.length:=by have h7:=j;unfold jL at h7;rw[aAO,aAO,aAO,decide_eq_true_eq] at h7;obtain⟨⟨⟨-,w⟩,-⟩,-⟩:=h7;have:=Qs j (q.ayN.head (by intro e; exact w (by rw[e]; rfl))) (List.head_mem _);omega
   exact acD B j
  ·rw[aBK] at x ⊢;intro v F;have:=x v F;unfold oW at this ⊢;show within v.ayZ 0 (((f.ayQ.map _).length:Int)-1)=true;rw[aAA];exact this
 ·have e:(xA f lev).ayQ.map cC.name=f.ayQ.map cC.name:=by show (f.ayQ.map _).map cC.name=_;rw[aDE]; rfl
  rw[e];exact A
theorem XC {f:aC} (hV:VF f) (lev:Nat) {v:Nat} (j:v<f.ayO.length):cR (xA f lev) v=pU f.ayN.length lev (cR f v):=by
 obtain⟨e,he⟩:=pM hV j;rw[← he];unfold cR;show (f.ayQ.map _).getD (uL f v) aiK=_;rw[aAL,aAT,aAH e]; rfl
theorem Jr (n lev:Nat) (p:cC) (l:Nat):(pU n lev p).spread l≠0→(pU n lev p).spread l=p.spread l:=by
 unfold cC.spread pU;split<;>dsimp only<;>intro h
 ·rfl
 all_goals
  split at h
  ·exact absurd rfl h
  ·rename_i c; rw[if_neg c]
theorem St {f:aC} (hV:VF f) {room:List Int} (lev:Nat) (h:mK f room):mK (xA f lev) room:=by
 refine W5 h rfl rfl rfl rfl (fun v e=>?_) (fun v d e l u=>?_) (fun v i e hi j=>?_)
 ·unfold eX oE;rw[XC hV lev e]; rfl
 ·unfold okD Wk;rw[XC hV lev e];show (iH (aAB f.ayN.length)).contains ((mdl f ((d:Nat):Int).toNat:Nat):Int)=true;rw[List.contains_iff_mem];exact aAW.2 ⟨mdl f d,aAU.2 (hV.drive d l).2.1,rfl⟩
 ·unfold eM at j ⊢;rw[XC hV lev e] at j ⊢;exact Jr _ _ _ _ j
abbrev qX (f:aC):List PV:=[.int .i64 (f.ayO.length:Nat),.int .i64 (f.ayP.length:Nat)]
theorem anA {C:Ctx} (f:aC) (v:Nat) (j:v≤100):NI.wp C (aT afQ.res (aM (.int .i64 ((2+v:Nat):Int)))) (PF.args [.agg (qX f),.int .i64 (v:Nat)]) .nil:=by
 have e:IntKind.i64.wrap (2+(v:Int))=((2+v:Nat):Int):=by rw[wrap_i64 Om Om]; omega
 simp only[go_sem,NI,Qm,Qn,afQ,e];refine cD (.inr rfl) rfl ?_;rfl
theorem O6 {a b:Nat} (j:a≤100) (hb:b≤100):IntKind.i64.wrap ((a:Int)*(b:Int))=((a*b:Nat):Int)∧a*b≤10000:=by
 have e:a*b≤100*100:=aDJ j hb;rw[← Int.natCast_mul,wrap_i64 Om Om];exact⟨rfl,e⟩
theorem afL {f:aC} (u:Small f) {v i:Nat} (w:v≤100) (hi:i≤100) (e:i≠0) (y:0<f.ayP.length) :
  IntKind.i64.wrap (IntKind.i64.wrap (IntKind.i64.wrap (IntKind.i64.wrap (2+(f.ayO.length:Int))+IntKind.i64.wrap ((v:Int)*IntKind.i64.wrap ((f.ayP.length:Int)-1)))+(i:Int))-1)=((cO f v i:Nat):Int):=by
 obtain⟨s1,s2,s3,s4,A,B⟩:=u;rw[wrap_i64 (n:=(f.ayP.length:Int)-1) Om Om,show (f.ayP.length:Int)-1=((f.ayP.length-1:Nat):Int) by omega];obtain⟨j,x⟩:=O6 (a:=v) (b:=f.ayP.length-1) w Om;rw[j];have l:cO f v i=2+f.ayO.length+v*(f.ayP.length-1)+i-1:=by unfold cO; rw[if_neg e]
 rw[l];generalize v*(f.ayP.length-1)=z at *
 rw[wrap_i64 (n:=2+(f.ayO.length:Int)) Om Om,wrap_i64 (n:=2+(f.ayO.length:Int)+(z:Int)) Om Om,wrap_i64 (n:=2+(f.ayO.length:Int)+(z:Int)+(i:Int)) Om Om,wrap_i64 Om Om];omega
theorem ajP {f:aC} (j:Small f) {d:Nat} (u:d≤100) :
  IntKind.i64.wrap (IntKind.i64.wrap (2+IntKind.i64.wrap ((f.ayO.length:Int)*(f.ayP.length:Int)))+(d:Int))=((bG f d:Nat):Int):=by
 obtain⟨s1,s2,s3,s4,w,x⟩:=j;obtain⟨e,l⟩:=O6 (a:=f.ayO.length) (b:=f.ayP.length) Om Om;rw[e];unfold bG;generalize f.ayO.length*f.ayP.length=z at *
 rw[wrap_i64 (n:=2+(z:Int)) Om Om,wrap_i64 Om Om];omega
theorem Wt (f:aC) (v:Nat):cO f v 0=2+v:=rfl
theorem amN {C:Ctx} (u:∀ (f:aC) (v:Nat),v≤100→aG C 282 [.agg (qX f),.int .i64 (v:Nat)] .nil (aM (.int .i64 ((2+v:Nat):Int)))) (f:aC) (x:Small f) (w:0<f.ayP.length) (v i:Nat) (l:v≤100) (hi:i≤100) :
  AL.wp C (aT Um.res (aM (.int .i64 ((cO f v i:Nat):Int)))) (PF.args [.agg (qX f),.int .i64 (v:Nat),.int .i64 (i:Nat)]) .nil:=by
 by_cases j:i=0
 ·subst j;simp only[go_sem,AL,jj,jk,Um,Pv,Int.natCast_zero,bO (show ((0:Nat):Int)=0 from rfl)];refine aB (u f v l) rfl ?_;simp only[go_sem];refine cD (.inr rfl) rfl ?_;rfl
 ·have e:=afL x l hi j w;simp only[go_sem,AL,jj,jk,Um,bC (Om:¬ ((i:Nat):Int)=0),Pw,e];refine cD (.inr rfl) rfl ?_;rfl
theorem amP {C:Ctx} (f:aC) (l:Small f) (d:Nat) (j:d≤100):MO.wp C (aT afD.res (aM (.int .i64 ((bG f d:Nat):Int)))) (PF.args [.agg (qX f),.int .i64 (d:Nat)]) .nil:=by
 have e:=ajP l j;simp only[go_sem,MO,Px,Py,afD,e];refine cD (.inr rfl) rfl ?_;rfl
theorem aiW {f:aC} (hV:VF f) (k:Nat) (j:k≤f.ayO.length):cH (eX f) k≤8*k:=by
 induction k with
 | zero=>exact aAF _
 | succ k e =>have:=(mY hV (v:=k) Om).1;have:=e Om;rw[cH];omega








theorem nS {t:Nat} {b j:Bool} {F:PF} {H:PH} (h:F t=some (.bool b)) (e:b=j):aT [.tmp t] (aM (.bool j)) .ret F H:=by
 subst e;exact aV (.inr rfl) .nil (vs:=[.bool b]) (by rw[kP,nM,h,oS]) a_ ⟨rfl,rfl⟩
abbrev eZ (f:aC):bF:=.rows 2 [qX f]
abbrev kS:bF:=.rows 4 [[.int .i64 0,.int .i64 0,.int .i64 0,.aA]]
abbrev CK (p:cC):bF:=.rows 17 [p.cells]
def gl (o N:Nat) (l:List bJ) (a:bJ) (r:PV) (H':PH):Prop:=∃ (B':List BX) (L':List LI),(r=.tup []∧∃ v',B'=[(o,dK N v')]∧L'=[(v',4,(l++[a]).map bJ.cells)])∧aK H' B' L'
structure lM (C:Ctx):Prop where
 vol:∀ (f:aC) (v:Nat),v≤100→aG C 282 [.agg (qX f),.int .i64 (v:Nat)] .nil (aM (.int .i64 ((2+v:Nat):Int)))
 dom:∀ (f:aC),Small f→0<f.ayP.length→∀ v i:Nat,v≤100→i≤100→aG C 283 [.agg (qX f),.int .i64 (v:Nat),.int .i64 (i:Nat)] .nil (aM (.int .i64 ((cO f v i:Nat):Int)))
 drv:∀ (f:aC),Small f→∀ d:Nat,d≤100→aG C 284 [.agg (qX f),.int .i64 (d:Nat)] .nil (aM (.int .i64 ((bG f d:Nat):Int)))
 arc:∀ (o N:Nat) (a:bJ) (v:PV) (l:List bJ),l.length≤1000000→∀ H,aK H [(o,dK N v)] [(v,4,l.map bJ.cells)]→aG C 285 [.int .i64 (a.src:Nat),.int .i64 (a.dst:Nat),.int .i64 (a.cap:Nat),.ptr o 4 0 0] H (gl o N l a)
 valid:∀ f:aC,f.Ok→aG C 96 [.agg f.cells] .nil (aM (.int .i64 (wW f)))
 roomM:∀ (f:aC) (room:List Int),f.Ok→aG C 152 [.agg f.cells,ints room] .nil (mN 1 (bT (QO f room)))
theorem aoW (o N:Nat) (l:List bJ) (a:bJ) (G A:PH) (D:List Nat) (hD:o∈D) (J:∃ x,A o=some x):∃ r H',gl o N l a r H'∧kJ G (A.only D) H':=by
 obtain⟨q,u,w⟩:=PH.acE G o;have I:=(aK.nil.new (H:=PH.nil) (o:=o) rfl (dK N (.osl q 4 0 ((l++[a]).map bJ.cells).length))).jm (s:=4) (rows:=(l++[a]).map bJ.cells) (o:=q) (by rw[aQ,if_neg w]; rfl);refine⟨.tup [],_,⟨_,_,⟨rfl,_,rfl,rfl⟩,I⟩,fun p x j E=>?_⟩;rw[aQ] at j;by_cases e:p=q
 ·subst e; exact u
 ·rw[if_neg e,aQ] at j;by_cases B:p=o
  ·subst B;obtain⟨y,M⟩:=J;rw[qC,if_pos hD,M] at E;cases E
  ·rw[if_neg B] at j; cases j
def yV (f:aC) (D:List Nat) (Q:PV→PH→Prop):Spec:=fun name vs=>match name,vs with
 | 285,_=>some (D,fun _=>Q)
 | 282,[_,.int _ v]=>some ([],fun _=>aM (.int .i64 ((2+v.toNat:Nat):Int)))
 | 283,[_,.int _ v,.int _ i]=>some ([],fun _=>aM (.int .i64 ((cO f v.toNat i.toNat:Nat):Int)))
 | 284,[_,.int _ d]=>some ([],fun _=>aM (.int .i64 ((bG f d.toNat:Nat):Int)))
 | _,_=>none
section
variable {C:Ctx} {F:PF} {H Hs:PH} {st:Bool} {f:aC} {D:List Nat} {Q:PV→PH→Prop} {args:List aN} {d:Option Nat} {K:PF→PH→Prop}
theorem vz (j:lM C) {v:Nat} (w:v≤100) (l:aN.evs F args=some [.agg (qX f),.int .i64 (v:Nat)]) (e:Hs.le H) (u:K (F.put d (.int .i64 ((2+v:Nat):Int))) H):dOp C Hs (yV f D Q) st (.call 282 args) d K F H :=
 dL (v:=.int .i64 ((2+v:Nat):Int)) (by rfl) (j.vol f v w) l e u
theorem TJ (j:lM C) (x:Small f) (l:0<f.ayP.length) {v i:Nat} (y:v≤100) (hi:i≤100) (u:aN.evs F args=some [.agg (qX f),.int .i64 (v:Nat),.int .i64 (i:Nat)]) (e:Hs.le H) (w:K (F.put d (.int .i64 ((cO f v i:Nat):Int))) H):dOp C Hs (yV f D Q) st (.call 283 args) d K F H :=
 dL (v:=.int .i64 ((cO f v i:Nat):Int)) (by rfl) (j.dom f x l v i y hi) u e w
theorem yY (j:lM C) (w:Small f) {i:Nat} (hi:i≤100) (l:aN.evs F args=some [.agg (qX f),.int .i64 (i:Nat)]) (e:Hs.le H) (u:K (F.put d (.int .i64 ((bG f i:Nat):Int))) H):dOp C Hs (yV f D Q) st (.call 284 args) d K F H :=
 dL (v:=.int .i64 ((bG f i:Nat):Int)) (by rfl) (j.drv f w i hi) l e u
theorem gw (y:lM C) {o N:Nat} {v:PV} {l:List bJ} (a:bJ) (E:l.length≤1000000) {B2:List BX} (h:aK H ((o,dK N v)::B2) [(v,4,l.map bJ.cells)]) {x:aN} (J:x.ev F=some (.fn 285 [.ptr o 4 0 0]))
  (A:aN.evs F args=some [.int .i64 (a.src:Nat),.int .i64 (a.dst:Nat),.int .i64 (a.cap:Nat)])
  (B:∀ v' H',aK H' ((o,dK N v')::B2) [(v',4,(l++[a]).map bJ.cells)]→Hs.le H'∧K (F.put d (.tup [])) H') :
  dOp C Hs (yV f (dU [(o,dK N v)]++cY [(v,4,l.map bJ.cells)]) (gl o N l a)) st (.azQ x args) d K F H:=by
 have w:aK H ([(o,dK N v)]++B2) ([(v,4,l.map bJ.cells)]++[]):=h;have I:H o=some (dK N v):=h.at 0 rfl;have e:POp.kind (.azQ x args) F=.call 285 (some [.int .i64 (a.src:Nat),.int .i64 (a.dst:Nat),.int .i64 (a.cap:Nat),.ptr o 4 0 0]):=by simp only[POp.kind,J,A,aBJ,List.cons_append,aDN]
 unfold dOp;rw[e];refine⟨_,_,_,rfl,rfl,fun q hq=>?_,y.arc o N a v l E _ (w.only (aDY ..) (aDY ..)),fun G=>aoW o N l a G H _ (by simp[dU]) ⟨_,I⟩,?_⟩
 ·rcases aBH.1 hq with hq | hq
  ·exact h.yT (.inl (by simp only[dU,aBG,aAK]; left; simpa [dU] using hq))
  ·exact h.yT (.inr hq)
 ·rintro r H' ⟨B',L',⟨rfl,v',rfl,rfl⟩,j⟩ u;exact B v' _ (w.frame j u)
theorem V7 (j:lM C) {o N:Nat} {v:PV} {l:List bJ} (a:bJ) (A:l.length≤1000000) {B2:List BX} (h:aK H ((o,dK N v)::B2) [(v,4,l.map bJ.cells)])
  (x:aN.evs F args=some [.int .i64 (a.src:Nat),.int .i64 (a.dst:Nat),.int .i64 (a.cap:Nat)])
  (y:∀ v' H',aK H' ((o,dK N v')::B2) [(v',4,(l++[a]).map bJ.cells)]→K (F.put d (.tup [])) H'):fU C 285 args [.ptr o 4 0 0] d K F H:=by
 refine Ja (B1:=[(o,dK N v)]) (B2:=B2) (L1:=[(v,4,l.map bJ.cells)]) (L2:=[]) h (Q:=fun r B' L'=>r=.tup []∧∃ v',B'=[(o,dK N v')]∧L'=[(v',4,(l++[a]).map bJ.cells)]) (fun e w=>j.arc o N a v l A e w) x ?_;rintro r B' L' H' ⟨rfl,v',rfl,rfl⟩ u;exact y v' H' u
end
theorem Bl {a b:Nat} {x y:bF} (h:¬ a=b):∃ Hs:PH,Hs a=some x∧Hs b=some y∧∀ H':PH,H' a=some x→H' b=some y→Hs.le H' :=
 ⟨(PH.nil.set a x).set b y,by rw[aQ,if_neg h,cG],cG _ _,fun H' e j=>e_ (e_ a_ e) j⟩
structure NO where
 o:Nat
 n:Nat
 z:Nat
 p:Nat
 m:Nat
def gD (f:aC) (room:List Int) (e:NO) (k:Nat):PF:=(((((((((PF.nil.set 1 (ints room)).set 2 (.dH f.cells)).set 4 (.ptr e.z 4 0 0)).set 6 (.ptr e.n 2 0 0)).set 7 (.ptr e.o 4 0 0)).set 8 (.fn 285 [.ptr e.o 4 0 0])).set 41 (.sl 2 (f.ayO.map gI.cells))).set 42 (.int .i64 (f.ayO.length:Nat))).set 43 (.int .i64 (k:Nat)))
def mU (f:aC) (room:List Int) (e:NO) (k:Nat):PF:=(((gD f room e k).set 9 (.int .i64 (k:Nat))).set 11 (.ptr e.p 17 0 0)).set 12 (.osl e.m 1 0 f.ayN.length)
def QH (f:aC) (room:List Int) (e:NO) (k:Nat) (p:cC) (j:Nat):PF:=(((mU f room e k).set 59 (ints p.ayN)).set 60 (.int .i64 (p.ayN.length:Nat))).set 61 (.int .i64 (j:Nat))
def qW (f:aC) (room:List Int) (e:NO) (k i:Nat):PF:=(((mU f room e k).set 80 (.sl 7 (f.ayP.map cP.cells))).set 81 (.int .i64 (f.ayP.length:Nat))).set 82 (.int .i64 (i:Nat))
def HM (f:aC) (room:List Int) (e:NO) (k i:Nat):PF:=((((((gD f room e k).set 9 (.int .i64 (k:Nat))).set 12 (.osl e.m 1 0 f.ayN.length))).set 115 (.sl 3 (f.ayM.map cZ.cells))).set 116 (.int .i64 (f.ayM.length:Nat))).set 117 (.int .i64 (i:Nat))
theorem S1 {C:Ctx} {K:cK} [Up K] (f:aC) (room:List Int) (e:NO) (k:Nat) (p:cC) (hp:∀ m∈p.ayN,0≤m∧m<f.ayN.length) (V:p.ayN.length≤9223372036854775807) {F:PF} {H:PH} {B:List BX} {L:List LI} (b:Nat)
  (hb:B[b]?=some (e.m,.rows 1 (bD (marks f.ayN.length [])))) (w:aK H B L) (X:(QH f room e k p 0).le F)
  (Y:∀ H',aK H' (B.set b (e.m,.rows 1 (bD (marks f.ayN.length p.ayN)))) L→K (.exit 2) (mU f room e k) H'):aE.wp C (.loop TO) K F H:=by
 refine wp_loop (α:=Nat × PH) (fun s=>QH f room e k p s.1) (fun s=>s.2) (fun s=>s.1≤p.ayN.length∧aK s.2 (B.set b (e.m,.rows 1 (bD (marks f.ayN.length (p.ayN.take s.1))))) L) (fun s=>p.ayN.length-s.1) (0,H) ⟨aAP _,?_⟩ X b_ ?_
 ·rw[List.take_zero];have W:B.set b (e.m,.rows 1 (bD (marks f.ayN.length [])))=B:=by obtain⟨h1,A⟩:=aBD.1 hb;rw[← A,List.set_getElem_self]
  rw[W]; exact w
 rintro⟨j,U⟩ ⟨Z,w⟩;simp only at Z w;have E:b<B.length:=(aBD.1 hb).1;have x:(B.set b (e.m,bF.rows 1 (bD (marks f.ayN.length (p.ayN.take j)))))[b]?=some (e.m,.rows 1 (bD (marks f.ayN.length (p.ayN.take j)))):=List.getElem?_set_self E;simp only[go_sem,TO,xg,QH,mU,gD];by_cases hlt:j<p.ayN.length
 ·have u:(j:Int)<(p.ayN.length:Nat):=Om;have N:(p.ayN.map fun n=>[PV.int .i64 n])[j]?=some [.int .i64 p.ayN[j]]:=by simp[hlt]
  obtain⟨R,S⟩:=hp _ (aAG hlt);have O:p.ayN.take (j+1)=p.ayN.take j++[p.ayN[j]]:=aCM hlt;have J:(p.ayN[j]).toNat<(bD (marks f.ayN.length (p.ayN.take j))).length:=by rw[iW,Ya]; omega
  have I:(bD (marks f.ayN.length (p.ayN.take j)))[(p.ayN[j]).toNat]?=some [.bool ((p.ayN.take j).contains p.ayN[j])]:=by unfold bD;rw[aAT,VB R S]; rfl
  have M:=w.at b x;have A:=w.set b x (.rows 1 (bD (marks f.ayN.length (p.ayN.take (j+1)))));rw[List.set_set] at A;have y:=nb (l:=p.ayN.take j) R S;rw[← O] at y;simp only[go_sem,u,xh,N,xi,R,S,aAX,M,I,J,rQ,y,xj,wZz j];exact aL (j+1,U.set e.m (.rows 1 (bD (marks f.ayN.length (p.ayN.take (j+1)))))) ⟨hlt,A⟩ (by simp only; omega) (by (repeat' (first|exact c_|refine d_ ?_ ?_))<;>first|(simp only[go_sem,QH,mU,gD]<;>rfl)|rfl) b_
 ·have u:¬ (j:Int)<(p.ayN.length:Nat):=Om;have:j=p.ayN.length:=Om;subst this;rw[aBT] at w;simp only[go_sem,u];exact Up.up (by (repeat' (first|exact c_|refine d_ ?_ ?_))<;>first|(simp only[go_sem,QH,mU,gD]<;>rfl)|rfl) (Y U w)
theorem vp (pre:List bJ) (g:Nat→bJ) (k:Nat):pre++(aAB (k+1)).map g=pre++(aAB k).map g++[g k]:=by
 rw[aCS,aBO,aBE]; rfl
theorem Bt {G F:PF} {i:Nat} {v:PV} (h:G.le F) (hi:G i=none):G.le (F.set i v):=fun j x l=>by
 rw[mF];by_cases e:j=i
 ·subst e; rw[hi] at l; cases l
 ·rw[if_neg e]; exact h j x l
theorem Uo {C:Ctx} (f:aC) (p:cC) {i:Nat} (hi:i<f.ayP.length) (I:0≤lvl f i) (J:lvl f i<5) {q op:Nat} (K:PF→PH→Prop) (F:PF) (H:PH) (u:F 16=some (.ptr q 7 0 0)) (hq:H q=some (.rows 7 [(f.ayP[i]).cells])) (l:F 11=some (.ptr op 17 0 0)) (x:H op=some (CK p))
  (y:∀ e:PF,e 17=some (.int .i64 (p.spread (lvl f i).toNat))→(∀ G:PF,G.le F→(∀ j,89≤j→j<94→G j=none)→G 17=none→G.le e)→K e H):wpOps C TU K F H:=by
 have h5:lvl f i<((5:Nat):Int):=Om;simp only[go_sem,TU,u,hq,l,apP hi,I,h5,Nat.mul_one];have B:lvl f i=0∨lvl f i=1∨lvl f i=2∨lvl f i=3∨lvl f i=4:=Om;have fin:∀ e:PF,e 17=some (.int .i64 (p.spread (lvl f i).toNat))→(∀ G:PF,G.le F→(∀ j,89≤j→j<94→G j=none)→G 17=none→G.le e)→K e H:=y;clear y;rcases B with h | h | h | h | h
 all_goals
  rw[h] at fin ⊢;simp only[go_sem,x];refine fin _ rfl fun G A E w=>?_
  repeat' (first | exact A | exact w | (exact E _ (by decide) (by decide)) | refine Bt ?_ ?_)
theorem Xb {C:Ctx} (Lb:lM C) {K:cK} [Up K] (f:aC) (hV:VF f) (room:List Int) (e:NO) (N k:Nat) (hk:k<f.ayO.length) (pre:List bJ) (η:pre.length≤900000) {F:PF} {H:PH} {B:List BX} (v:PV)
  (h6:B[0]?=some (e.n,eZ f)) (M:B[1]?=some (e.p,CK (cR f k)))
  (R:aK H ((e.o,dK N v)::B) [(v,4,pre.map bJ.cells)]) (hF:(qW f room e k 0).le F)
  (hK:∀ v' H',aK H' ((e.o,dK N v')::B) [(v',4,(pre++(aAB (f.ayP.length-1)).map (jS f k)).map bJ.cells)]→K (.exit 4) (mU f room e k) H'):aE.wp C (.loop TP) K F H:=by
 have Y:=hV.small;have hr:=hV.root;have θ:=Y.ayP;have ι:=Y.ayO;have ε:¬ e.n=e.p:=R.ne 1 2 h6 M (by decide);obtain⟨Hs,s6,μ,E⟩:=Bl (x:=eZ f) (y:=CK (cR f k)) ε;refine wp_loop (α:=Nat × PV × PH) (fun s=>qW f room e k s.1) (fun s=>s.2.2) (fun s=>s.1≤f.ayP.length∧aK s.2.2 ((e.o,dK N s.2.1)::B) [(s.2.1,4,(pre++(aAB (s.1-1)).map (jS f k)).map bJ.cells)]) (fun s=>f.ayP.length-s.1) (0,v,H) ⟨aAP _,by simpa using R⟩ hF b_ ?_;rintro⟨i,v,H0⟩ ⟨hi,R⟩;simp only at hi R;simp only[go_sem,TP,xm,qW,mU,gD];by_cases hlt:i<f.ayP.length
 ·have A:(i:Int)<(f.ayP.length:Nat):=Om;have δ:=wZz i;simp only[go_sem,A,xn,So hlt];refine R.sQ fun q H1 h1=>?_;have q1:=h1.mP;have O:=h1.rY (.rows 7 [(f.ayP[i]).cells]);simp only[go_sem,q1];generalize H1.set q (.rows 7 [(f.ayP[i]).cells])=H2 at *
  have S:=O.mP;by_cases h0:i=0
  ·subst h0;simp only[go_sem,TT,Int.natCast_zero,bO (show (0:Int)=0 from rfl),FC];exact aL (1,v,H2) ⟨hr.1,O.dropLast⟩ (by simp only; omega) (by (repeat' (first|exact c_|refine d_ ?_ ?_))<;>first|(simp only[go_sem,qW,mU,gD]<;>rfl)|rfl) b_
  ·have c0:=bC (Om:¬ ((i:Nat):Int)=0);obtain⟨l,rfl⟩:∃ l,i=l+1:=⟨i-1,by omega⟩;obtain⟨d1,d2,d3,d4,d5⟩:=hV.dom (l+1) Om hlt;have ζ:=hV.anC (Om:0<l+1) hlt;have h5:lvl f (l+1)<((5:Nat):Int):=Om;have l0:(0:Int)≤lvl f (l+1):=Om;have w:H2 e.p=some (CK (cR f k)):=O.box _ (by refine aDR _ (aDM _ (aCA M)))
   have X:H2 e.n=some (eZ f):=O.box _ (by refine aDR _ (aDM _ (aCA h6)));obtain⟨b1,b2,b3,b4⟩:=mY hV hk;obtain⟨hp,he⟩:=pM hV hk;have I:=hV.ayZ _ (aAG hp);rw[he] at I;have β:IntKind.i64.wrap ((cR f k).k+(cR f k).m)=((eX f k:Nat):Int):=by rw[b3]; exact wrap_i64 Om Om
   have κ:=I.2.2.2.2.2.2.1 (lvl f (l+1)).toNat;have u:((vG f k (l+1):Nat):Int)=if (cR f k).spread (lvl f (l+1)).toNat=0 then ((eX f k:Nat):Int) else (cR f k).spread (lvl f (l+1)).toNat:=by
    unfold vG eM;split
    ·rfl
    ·omega
   simp only[go_sem,TT,c0];refine Uo f (cR f k) hlt l0 Om (q:=q) (op:=e.p) _ _ _ rfl S rfl w fun F1 J V=>?_;have hG:=V (((qW f room e k (l+1)).set 15 (.int .i64 ((l+1:Nat):Int))).set 16 (.ptr q 7 0 0)) (by (repeat' (first|exact c_|refine d_ ?_ ?_))<;>first|(simp only[go_sem,qW,mU,gD]<;>rfl)|rfl) (fun j h1 O=>by have:j=89∨j=90∨j=91∨j=92∨j=93:=Om;rcases this with rfl | rfl | rfl | rfl | rfl<;>rfl) rfl
   clear V;have U:∀ Z:PF,((((qW f room e k (l+1)).set 15 (.int .i64 ((l+1:Nat):Int))).set 16 (.ptr q 7 0 0)).set 17 (.int .i64 ((vG f k (l+1):Nat):Int))).le Z →
     aE.wp C (.draw TW) (fZ 5 (mE C (aE.wp C (.region FC)) (jU (fun s:Nat × PV × PH=>qW f room e k s.1) (fun s=>s.2.2) (fun s=>s.1≤f.ayP.length∧aK s.2.2 ((e.o,dK N s.2.1)::B) [(s.2.1,4,(pre++(aAB (s.1-1)).map (jS f k)).map bJ.cells)]) (fun s=>f.ayP.length-s.1) (f.ayP.length-(l+1)) K))) Z H2:=by
    intro Z γ;refine vQ _ (fun _ _ _ _ a b=>Up.up a b) γ ?_;refine bN Hs (yV f (dU [(e.o,dK N v)]++cY [(v,4,(pre++(aAB l).map (jS f k)).map bJ.cells)]) (gl e.o N (pre++(aAB l).map (jS f k)) (jS f k l))) (E _ X w) ?_;simp only[go_sem,TW,qW,mU,gD,X,S,s6];refine TJ Lb Y hr.1 (v:=k) (i:=fX f (l+1)) Om Om (by simp only[go_sem,apX hlt,ζ]) (E _ X w) ?_;simp only[go_sem,s6];refine TJ Lb Y hr.1 (v:=k) (i:=l+1) Om Om rfl (E _ X w) ?_;simp only[go_sem];refine gw Lb (jS f k l) (v:=v) (B2:=B++[(q,.rows 7 [(f.ayP[l+1]).cells])]) (by rw[aAE,aAA,aDD]; omega) O rfl rfl fun v' H' h'=>⟨E _ (h'.box _ (aDM _ (aDR _ (aCA h6)))) (h'.box _ (aDM _ (aDR _ (aCA M)))),?_⟩;simp only[go_sem,FC,δ];refine aL (l+1+1,v',H') ⟨hlt,?_⟩ (by simp only; omega) (by (repeat' (first|exact c_|refine d_ ?_ ?_))<;>first|(simp only[go_sem,qW,mU,gD]<;>rfl)|rfl) b_;simp only;rw[show l+1+1-1=l+1 from rfl,vp];exact aK.dropLast (B:=(e.o,dK N v')::B) h'
   by_cases W:(cR f k).spread (lvl f (l+1)).toNat=0
   ·rw[if_pos W] at u;have f11:=hG 11 _ rfl;simp only[go_sem,TV,J,bO W,xo,f11,w,β];refine U _ (d_ ?_ (by simp only[go_sem,u]))
    repeat' (first | exact hG | refine Bt ?_ rfl)
   ·rw[if_neg W] at u;simp only[go_sem,TV,J,bC W];refine U _ (d_ ?_ (by simp only[go_sem,J,u]))
    repeat' (first | exact hG | refine Bt ?_ rfl)
 ·have A:¬ (i:Int)<(f.ayP.length:Nat):=Om;have:i=f.ayP.length:=Om;subst this;simp only[go_sem,A];exact Up.up (by (repeat' (first|exact c_|refine d_ ?_ ?_))<;>first|(simp only[go_sem,qW,mU,gD]<;>rfl)|rfl) (hK v H0 R)
theorem Jo (p:Nat→Bool) (k:Nat):(aAB (k+1)).filter p=(aAB k).filter p++if p k=true then [k] else []:=by
 rw[aCS,List.filter_append,List.filter_cons,List.filter_nil]
theorem Xc {C:Ctx} (J:lM C) {K:cK} [Up K] (f:aC) (hV:VF f) (room:List Int) (e:NO) (N k:Nat) (hk:k<f.ayO.length) (pre:List bJ) (Z:pre.length≤900000) {F:PF} {H:PH} {B:List BX} (v:PV)
  (Y:B[0]?=some (e.n,eZ f)) (O:B[1]?=some (e.m,.rows 1 (bD (marks f.ayN.length (cR f k).ayN))))
  (y:aK H ((e.o,dK N v)::B) [(v,4,pre.map bJ.cells)]) (hF:(HM f room e k 0).le F)
  (hK:∀ v' H',aK H' ((e.o,dK N v')::B) [(v',4,(pre++((aAB f.ayM.length).filter (okD f k)).map (eK f k)).map bJ.cells)]→K (.exit 6) (gD f room e k) H'):aE.wp C (.loop TQ) K F H:=by
 have E:=hV.small;have hr:=hV.root;have β:=E.ayP;have γ:=E.ayM;have δ:=E.ayO;refine wp_loop (α:=Nat × PV × PH) (fun s=>HM f room e k s.1) (fun s=>s.2.2) (fun s=>s.1≤f.ayM.length∧aK s.2.2 ((e.o,dK N s.2.1)::B) [(s.2.1,4,(pre++((aAB s.1).filter (okD f k)).map (eK f k)).map bJ.cells)]) (fun s=>f.ayM.length-s.1) (0,v,H) ⟨aAP _,by simpa using y⟩ hF b_ ?_;rintro⟨i,v,H0⟩ ⟨hi,y⟩;simp only at hi y;simp only[go_sem,TQ,xq,HM,gD];by_cases hlt:i<f.ayM.length
 ·have j:(i:Int)<(f.ayM.length:Nat):=Om;have A:=wZz i;obtain⟨d1,d2,d3,d4,d5⟩:=hV.drive i hlt;have S:(bD (marks f.ayN.length (cR f k).ayN))[mdl f i]?=some [.bool ((cR f k).ayN.contains ((mdl f i:Nat):Int))]:=by have:=VB (n:=f.ayN.length) (l:=(cR f k).ayN) (m:=((mdl f i:Nat):Int)) Om Om;rw[aDK] at this;unfold bD;rw[aAT,this]; rfl
  have V:okD f k i=(cR f k).ayN.contains ((mdl f i:Nat):Int):=rfl;have U:((mdl f i:Nat):Int)<(f.ayN.length:Nat):=Om;simp only[go_sem,j,xr,kr hlt];refine y.sQ fun q H1 X=>?_;have q1:=X.mP;have w:=X.rY (.rows 3 [(f.ayM[i]).cells]);simp only[go_sem,q1];generalize H1.set q (.rows 3 [(f.ayM[i]).cells])=H2 at *
  have x:=w.mP;have M:H2 e.m=some _:=w.box _ (aDR _ (aDM _ (aCA O)));have I:H2 e.n=some (eZ f):=w.box _ (aDR _ (aDM _ (aCA Y)));have u:=Jo (okD f k) i;simp only[go_sem,xt,x,hV.Yb hlt,U,M,aAX,S];rw[← V];cases hb:okD f k i with
  | false =>rw[hb,if_neg (by decide),aBU] at u;rw[← u] at w;simp only[go_sem,TX,A];exact aL (i+1,v,H2) ⟨hlt,w.dropLast⟩ (by simp only; omega) (by (repeat' (first|exact c_|refine d_ ?_ ?_))<;>first|(simp only[go_sem,HM,gD]<;>rfl)|rfl) b_
  | true =>
   rw[hb,if_pos rfl] at u;simp only[go_sem];refine bN (PH.nil.set e.n (eZ f)) (yV f (dU [(e.o,dK N v)]++cY [(v,4,(pre++((aAB i).filter (okD f k)).map (eK f k)).map bJ.cells)]) (gl e.o N (pre++((aAB i).filter (okD f k)).map (eK f k)) (eK f k i))) (e_ a_ I) ?_;have R:=List.length_filter_le (okD f k) (aAB i);rw[aDD] at R;simp only[go_sem,xu,I,x];refine TJ J E hr.1 (v:=k) (i:=eW f i) Om Om (by simp only[go_sem,hV.alQ hlt]) (e_ a_ I) ?_;simp only[go_sem];refine yY J E (i:=i) Om rfl (e_ a_ I) ?_;simp only[go_sem];refine gw J (eK f k i) (v:=v) (B2:=B++[(q,.rows 3 [(f.ayM[i]).cells])]) (by rw[aAE,aAA]; omega) w rfl rfl fun v' H' W=>⟨e_ a_ (W.box _ (aDM _ (aDR _ (aCA Y)))),?_⟩;simp only[go_sem,TX,A];refine aL (i+1,v',H') ⟨hlt,?_⟩ (by simp only; omega) (by (repeat' (first|exact c_|refine d_ ?_ ?_))<;>first|(simp only[go_sem,HM,gD]<;>rfl)|rfl) b_;simp only;have e2:pre++((aAB (i+1)).filter (okD f k)).map (eK f k)=pre++((aAB i).filter (okD f k)).map (eK f k)++[eK f k i]:=by rw[u,aBO,← aBE]; rfl
   rw[e2];exact aK.dropLast (B:=(e.o,dK N v')::B) W
 ·have j:¬ (i:Int)<(f.ayM.length:Nat):=Om;have:i=f.ayM.length:=Om;subst this;simp only[go_sem,j];exact Up.up (by (repeat' (first|exact c_|refine d_ ?_ ?_))<;>first|(simp only[go_sem,HM,gD]<;>rfl)|rfl) (hK v H0 y)
theorem fk (f:aC) (k:Nat):(aAB (k+1)).flatMap (fA f)=(aAB k).flatMap (fA f)++fA f k:=by
 rw[aCS,List.flatMap_append,List.flatMap_cons,List.flatMap_nil,aBU]
theorem OR {f:aC} (e:Small f):∀ k,((aAB k).flatMap (fA f)).length≤k*65
 | 0=>aAF _
 | k+1=>by have j:=OR e k;have l:=I4 f k;have u:=e.ayP;have w:=e.ayM;rw[fk,aAE];omega
theorem Xd {C:Ctx} (S:lM C) {K:cK} [Up K] (f:aC) (hf:f.Ok) (hV:VF f) (room:List Int) (o n z:Nat) (N:Nat) {F:PF} {H:PH}
  (J:aK H [(o,dK N .aA),(n,eZ f),(z,kS)] [(.aA,4,[])]) (hF:(gD f room ⟨o,n,z,0,0⟩ 0).le F)
  (hK:∀ v' H',aK H' [(o,dK N v'),(n,eZ f),(z,kS)] [(v',4,((aAB f.ayO.length).flatMap (fA f)).map bJ.cells)]→K (.exit 0) (gD f room ⟨o,n,z,0,0⟩ f.ayO.length) H'):aE.wp C (.loop TR) K F H:=by
 have I:=hV.small;have hr:=hV.root;have η:=I.ayP;have θ:=I.ayM;have ι:=I.ayO;have Z:(f.ayN.length:Int)*((1:Nat):Int)≤140737488355328:=by have:=I.ayN; omega
 have β:(f.ayN.length:Int)≤9223372036854775807:=by have:=I.ayN; omega
 have γ:(0:Int)≤(f.ayN.length:Int):=Om;refine wp_loop (α:=Nat × PV × PH) (fun s=>gD f room ⟨o,n,z,0,0⟩ s.1) (fun s=>s.2.2) (fun s=>s.1≤f.ayO.length∧aK s.2.2 [(o,dK N s.2.1),(n,eZ f),(z,kS)] [(s.2.1,4,((aAB s.1).flatMap (fA f)).map bJ.cells)]) (fun s=>f.ayO.length-s.1) (0,.aA,H) ⟨aAP _,by simpa using J⟩ hF b_ ?_;rintro⟨k,v,H0⟩ ⟨hk,J⟩;simp only at hk J;simp only[go_sem,TR,L9,gD];by_cases hlt:k<f.ayO.length
 ·have u:(k:Int)<(f.ayO.length:Nat):=Om;have δ:=wZz k;obtain⟨hp,he⟩:=pM hV hlt;have A:=hV.ayZ _ (aAG hp);have l:=(hf.ayZ _ (aAG hp)).ayN;rw[he] at A l;have l:(cR f k).ayN.length≤9223372036854775807:=by first | exact l | (have:=l; omega)
  obtain⟨b1,b2,b3,b4⟩:=mY hV hlt;have X:IntKind.i64.wrap ((cR f k).k+(cR f k).m)=((eX f k:Nat):Int):=by rw[b3]; exact wrap_i64 Om Om
  have ζ:=OR I k;simp only[go_sem,u,Ma,JE hlt];refine J.sQ fun O H1 h1=>?_;have g1:=h1.mP;have h2:=h1.rY (.rows 2 [(f.ayO[k]).cells]);simp only[go_sem,g1];generalize H1.set O (.rows 2 [(f.ayO[k]).cells])=H2 at *
  have V:=h2.mP;simp only[go_sem,Mb,V,hV.F9 hlt,CL hp,he];refine h2.sQ fun e H3 h3=>?_;have g2:=h3.mP;have h4:=h3.rY (CK (cR f k));simp only[go_sem,g2];generalize H3.set e (.rows 17 [(cR f k).cells])=H4 at *
  simp only[go_sem,xe,aAA,Z,β,γ,Int.le_refl,aDK];refine aP fun j M=>?_;rw[vu];have h5:=h4.new M (.rows 1 (bD (marks f.ayN.length [])));generalize H4.set j (.rows 1 (bD (marks f.ayN.length [])))=H5 at *
  have w:=h5.at 4 rfl;simp only[go_sem,xf,w];refine S1 f room ⟨o,n,z,e,j⟩ k (cR f k) A.2.2.2.2.2.2.2 l 5 rfl h5 (by (repeat' (first|exact c_|refine d_ ?_ ?_))<;>first|(simp only[go_sem,QH,mU,gD]<;>rfl)|rfl) fun H6 U=>?_;have U:aK H6 [(o,dK N v),(n,eZ f),(z,kS),(O,.rows 2 [(f.ayO[k]).cells]),(e,CK (cR f k)),(j,.rows 1 (bD (marks f.ayN.length (cR f k).ayN)))] [(v,4,((aAB k).flatMap (fA f)).map bJ.cells)]:=U;have h7:aK H6 [(o,dK N v),(n,eZ f),(e,CK (cR f k)),(j,.rows 1 (bD (marks f.ayN.length (cR f k).ayN))),(z,kS)] [(v,4,((aAB k).flatMap (fA f)).map bJ.cells)]:=by refine (U.vC 3).perm ?_ (aCO.refl _);show aCO [_,_,_,_,_] _;exact .cons _ (.cons _ (((List.perm_append_comm (l₁:=[(z,kS)]) (l₂:=[(e,CK (cR f k)),(j,.rows 1 (bD (marks f.ayN.length (cR f k).ayN)))])))))
  clear U;have W:=h7.at 1 rfl;have w:=h7.at 2 rfl;have ε:¬ n=e:=h7.ne 1 2 rfl rfl (by decide);obtain⟨Hs,s6,R,E⟩:=Bl (x:=eZ f) (y:=CK (cR f k)) ε;simp only[go_sem];refine bN Hs (yV f (dU [(o,dK N v)]++cY [(v,4,((aAB k).flatMap (fA f)).map bJ.cells)]) (gl o N ((aAB k).flatMap (fA f)) ⟨0,2+k,eX f k⟩)) (E _ W w) ?_;simp only[go_sem,xk,mU,gD,W,R];refine vz S (v:=k) Om rfl (E _ W w) ?_;simp only[go_sem,R,X];refine gw S ⟨0,2+k,eX f k⟩ (v:=v) (B2:=[(n,eZ f),(e,CK (cR f k)),(j,.rows 1 (bD (marks f.ayN.length (cR f k).ayN))),(z,kS)]) Om h7 rfl rfl fun v1 H7 h8=>⟨E _ (h8.at 1 rfl) (h8.at 2 rfl),?_⟩;simp only[go_sem,xl];refine Xb S f hV room ⟨o,n,z,e,j⟩ N k hlt ((aAB k).flatMap (fA f)++[(⟨0,2+k,eX f k⟩:bJ)]) (by rw[aAE,aAI]; omega) v1 rfl rfl h8 (by (repeat' (first|exact c_|refine d_ ?_ ?_))<;>first|(simp only[go_sem,qW,mU,gD]<;>rfl)|rfl) fun v2 H8 h9=>?_;simp only[go_sem,xp,mU,gD];refine Xc S f hV room ⟨o,n,z,e,j⟩ N k hlt ((aAB k).flatMap (fA f)++[(⟨0,2+k,eX f k⟩:bJ)]++(aAB (f.ayP.length-1)).map (jS f k)) (by rw[aAE,aAE,aAI,aAA,aDD]; omega) (B:=[(n,eZ f),(j,.rows 1 (bD (marks f.ayN.length (cR f k).ayN))),(z,kS)]) v2 rfl rfl (h9.vC 2) (by (repeat' (first|exact c_|refine d_ ?_ ?_))<;>first|(simp only[go_sem,HM,gD]<;>rfl)|rfl) fun v3 H9 Y=>?_;simp only[go_sem,xv,gD,δ];refine aL (k+1,v3,H9) ⟨hlt,?_⟩ (by simp only; omega) (by (repeat' (first|exact c_|refine d_ ?_ ?_))<;>first|(simp only[go_sem,gD]<;>rfl)|rfl) b_;simp only;have ev:(aAB (k+1)).flatMap (fA f)=(aAB k).flatMap (fA f)++[(⟨0,2+k,eX f k⟩:bJ)]++(aAB (f.ayP.length-1)).map (jS f k)++((aAB f.ayM.length).filter (okD f k)).map (eK f k):=by rw[fk];unfold fA;simp
  rw[ev];exact Y.vC 2
 ·have u:¬ (k:Int)<(f.ayO.length:Nat):=Om;have:k=f.ayO.length:=Om;subst this;simp only[go_sem,u];exact Up.up (by (repeat' (first|exact c_|refine d_ ?_ ?_))<;>first|(simp only[go_sem,gD]<;>rfl)|rfl) (hK v H0 J)
def CG (f:aC) (room:List Int):cB:=if cV f=true then dY f room else ⟨0,0,0,[]⟩
def afF (f:aC):Int:=if cV f=true then 0 else 1
def WJ (f:aC) (room:List Int):PV:=.tup [.agg (CG f room).cells,.int .i64 (afF f)]
theorem QI {f:aC} (h:cV f=true) (room:List Int):CG f room=dY f room:=if_pos h
theorem uJ {f:aC} (h:cV f=true):afF f=0:=if_pos h
theorem QG {f:aC} (h:cV f=false):afF f=1:=if_neg (by rw[h]; decide)
theorem amR {f:aC} (h:cV f=false) (room:List Int):CG f room=⟨0,0,0,[]⟩:=if_neg (by rw[h]; decide)
theorem coL {a b:PV} (h:Co a b) (x y z w:PV):Co (.tup [.agg [x,y,z,a],w]) (.tup [.agg [x,y,z,b],w]):=by
 refine .tup rfl fun j p q e hq=>?_
 match j with
 | 0 =>
  cases e; cases hq;refine .agg rfl fun j p q e hq=>?_
  match j with
  | 0=>cases e; cases hq; exact .refl _
  | 1=>cases e; cases hq; exact .refl _
  | 2=>cases e; cases hq; exact .refl _
  | 3=>cases e; cases hq; exact h
  | j+4=>cases e
 | 1=>cases e; cases hq; exact .refl _
 | j+2=>cases e
theorem Mc {H:PH} {B:List BX} {v:PV} {rows:List (List PV)} {a b c e:Int} (h:aK H B [(v,4,rows)]):nU (.tup [.agg [.int .i64 a,.int .i64 b,.int .i64 c,v],.int .i64 e]) H (cL (.tup [.agg [.int .i64 a,.int .i64 b,.int .i64 c,.sl 4 rows],.int .i64 e])):=by
 rcases h.own 0 rfl with ⟨j,rfl⟩ | ⟨q,rs,rfl,_⟩
 ·subst j;exact .done (H2:=.nil) ⟨coL (.nil 4) _ _ _ _,rfl⟩ a_
 ·obtain⟨rs,l,u,-,-,-⟩:=h.frz 0 rfl;refine .step l ?_;show nU (.tup [.agg [.int .i64 a,.int .i64 b,.int .i64 c,PV.bP q 4 rs (.osl q 4 0 rows.length)],.int .i64 e]) _ _;rw[u];exact .done (H2:=.nil) ⟨.refl _,rfl⟩ a_
theorem S3 {C:Ctx} (x:lM C) {K:cK} [Up K] (f:aC) (hV:VF f) (room:List Int) (o n z N:Nat) (pre:List bJ) (y:pre.length≤900000) {F:PF} {H:PH} (v:PV)
  (j:aK H [(o,dK N v),(n,eZ f),(z,kS)] [(v,4,pre.map bJ.cells)])
  (J:((((((((PF.nil.set 4 (.ptr z 4 0 0)).set 6 (.ptr n 2 0 0)).set 7 (.ptr o 4 0 0)).set 8 (.fn 285 [.ptr o 4 0 0])).set 141 (.sl 1 (bT (lE f room)))).set 142 (.int .i64 (f.ayM.length:Nat))).set 143 (.int .i64 0))).le F)
  (M:∀ v' H',aK H' [(o,dK N v'),(n,eZ f),(z,kS)] [(v',4,(pre++(aAB f.ayM.length).map (mW f room)).map bJ.cells)]→K (.exit 8) (((PF.nil.set 4 (.ptr z 4 0 0)).set 7 (.ptr o 4 0 0))) H'):aE.wp C (.loop TS) K F H:=by
 have A:=hV.small;have O:=A.ayM;refine wp_loop (α:=Nat × PV × PH) (fun s=>(((((((PF.nil.set 4 (.ptr z 4 0 0)).set 6 (.ptr n 2 0 0)).set 7 (.ptr o 4 0 0)).set 8 (.fn 285 [.ptr o 4 0 0])).set 141 (.sl 1 (bT (lE f room)))).set 142 (.int .i64 (f.ayM.length:Nat))).set 143 (.int .i64 (s.1:Nat)))) (fun s=>s.2.2) (fun s=>s.1≤f.ayM.length∧aK s.2.2 [(o,dK N s.2.1),(n,eZ f),(z,kS)] [(s.2.1,4,(pre++(aAB s.1).map (mW f room)).map bJ.cells)]) (fun s=>f.ayM.length-s.1) (0,v,H) ⟨aAP _,by simpa using j⟩ J b_ ?_;rintro⟨i,v,B⟩ ⟨hi,j⟩;simp only at hi j;simp only[go_sem,TS,xx];by_cases hlt:i<f.ayM.length
 ·have e:(i:Int)<(f.ayM.length:Nat):=Om;have u:=wZz i;have w:i<(lE f room).length:=by rw[wJ]; exact hlt
  have l:=UY w;obtain⟨r1,r2⟩:=xR hV room hlt;rw[XG,← r2] at l;have E:=j.at 1 rfl;simp only[go_sem,e,xy,l,xz,E];refine aB (x.drv f A i Om) rfl ?_;simp only[go_sem];refine V7 x (mW f room i) (by rw[aAE,aAA,aDD]; omega) j rfl fun v' H' I=>?_;simp only[go_sem,x2,u];refine aL (i+1,v',H') ⟨hlt,?_⟩ (by simp only; omega) Lq b_;simp only;rw[vp];exact I
 ·have e:¬ (i:Int)<(f.ayM.length:Nat):=Om;have:i=f.ayM.length:=Om;subst this;simp only[go_sem,e];exact Up.up Lq (M v B j)
theorem akD {C:Ctx} (l:lM C) (f:aC) (A:f.Ok) (room:List Int) :
  LF.wp C (aT acC.res (cL (WJ f room))) (PF.args [.agg f.cells,ints room]) .nil:=by
 simp only[go_sem,LF,Lz,acC];refine aP fun z S=>?_;simp only[go_sem,L3];refine aB (l.valid f A) rfl ?_;have y:aK (PH.nil.set z kS) [(z,kS)] []:=aK.nil.new S kS;generalize (PH.nil.set z kS)=V at *
 have M:=y.at 0 rfl;cases j:cV f with
 | false =>simp only[go_sem,fj j,L4,M];rw[WJ,amR j,QG j];have w:=(y.set 0 rfl kS).mB 4;refine oR (vs:=[.agg [.int .i64 0,.int .i64 0,.int .i64 0,.aA],.int .i64 1]) (.inr rfl) Sq ?_;exact Mc w
 | true =>
  have hV:=VF.of j;have x:=hV.small;have B:wW f=0:=by rw[wW,j]; rfl
  rw[WJ,QI j,uJ j];simp only[go_sem,B,L5,aAA];refine y.sQ fun n H2 w=>?_;have g2:=w.at 1 rfl;have E:=w.set 1 rfl (eZ f);simp only[go_sem,g2];generalize H2.set n (.rows 2 [[.int .i64 (f.ayO.length:Nat),.int .i64 (f.ayP.length:Nat)]])=W at *
  have N:=E.at 1 rfl;simp only[go_sem,L6,N,aAA];refine aB (l.drv f x f.ayM.length (by have:=x.ayM; omega)) rfl ?_;simp only[go_sem];refine E.sQ fun o J F=>?_;have g4:=F.at 2 rfl;have h5:=F.set 2 rfl (dK (bG f f.ayM.length) .aA);simp only[go_sem,g4];generalize J.set o (.rows 4 [[.int .i64 ((bG f f.ayM.length:Nat):Int),.int .i64 0,.int .i64 1,.aA]])=K at *
  have O:aK K [(o,dK (bG f f.ayM.length) .aA),(n,eZ f),(z,kS)] [(.aA,4,[])]:=by refine (h5.mB 4).perm ?_ (aCO.refl _);exact (List.reverse_perm _).symm
  simp only[go_sem,L7,L8];refine Xd l f A hV room o n z _ O (by (repeat' (first|exact c_|refine d_ ?_ ?_))<;>first|(simp only[go_sem,gD]<;>rfl)|rfl) fun U X h7=>?_;have u:=(l.roomM f room A).freeze;rw[QO,if_pos j] at u;simp only[go_sem,xw,gD];refine aB u rfl ?_;simp only[go_sem,eU,wJ];refine S3 l f hV room o n z _ ((aAB f.ayO.length).flatMap (fA f)) (by have:=OR x f.ayO.length; have:=x.ayO; omega) U h7 (by (repeat' (first|exact c_|refine d_ ?_ ?_))<;>first|(simp only[go_sem,eU,wJ]<;>rfl)|rfl) fun I Y h8=>?_;have a7:=h8.at 0 rfl;have a4:=h8.at 2 rfl;have R:=h8.set 2 rfl (dK (bG f f.ayM.length) I);simp only[go_sem,x3,a7,a4];refine⟨_,if_pos ?_,?_⟩
  ·rcases h8.own 0 rfl with ⟨_,e⟩ | ⟨q,rs,e,_⟩<;>rw[e]
  refine oR (vs:=[.agg [.int .i64 ((bG f f.ayM.length:Nat):Int),.int .i64 0,.int .i64 1,I],.int .i64 0]) (.inr rfl) Sq ?_;exact Mc R

abbrev cJ:=Nat × Bool
def noA:bJ:=⟨0,0,0⟩
def dM (n:cB) (i:Nat):bJ:=n.arcs.getD i noA
def eP (n:cB) (s:cJ):Nat:=if s.2=true then (dM n s.1).dst else (dM n s.1).src
def dE (n:cB) (s:cJ):Nat:=if s.2=true then (dM n s.1).src else (dM n s.1).dst
def eC (n:cB) (xs:List Nat) (s:cJ):Nat:=if s.2=true then (dM n s.1).cap-xs.getD s.1 0 else xs.getD s.1 0
structure nE (n:cB) (xs:List Nat) (Q:List Nat) (way:Nat→cJ):Prop where
 first:∃ t,Q=n.source::t
 nd:Q.Nodup
 lt:∀ v∈Q,v<n.nodes
 way:∀ v∈Q,v≠n.source→(way v).1<n.arcs.length∧eP n (way v)=v∧0<eC n xs (way v)∧dE n (way v)∈Q∧Q.idxOf (dE n (way v))<Q.idxOf v
def EG (n:cB) (xs:List Nat) (Q:List Nat) (k:Nat):Prop:=∀ v∈Q.take k,∀ s:cJ,s.1<n.arcs.length→dE n s=v→0<eC n xs s→eP n s∈Q
theorem qZ {n:cB} {i:Nat} {a:bJ} (h:n.arcs[i]?=some a):dM n i=a:=by unfold dM; rw[aAL,h]; rfl
theorem agH {n:cB} (B:fN n) {xs:List Nat} (w:fY n xs) {Q:List Nat} {way:Nat→cJ} (y:nE n xs Q way) (hD:EG n xs Q Q.length) (E:n.sink ∉ Q):iJ n xs=dA (fun v=>Q.contains v) n.arcs:=by
 obtain⟨t,F⟩:=y.first;refine w.full B (by rw[F]; simp) (by simpa using E) fun i a x e u=>⟨fun j l=>?_,fun j l=>?_⟩
 ·have hi:=(aBD.1 e).1;have j:a.src∈Q:=by simpa using j
  have l:a.dst ∉ Q:=by simpa using l
  have A:=w.le i a x e u;rcases aAV x a.cap with c | c
  ·refine absurd (hD a.src (by rw[aBT]; exact j) (i,true) hi ?_ ?_) ?_
   ·unfold dE; rw[if_pos rfl,qZ e]
   ·unfold eC;rw[if_pos rfl,qZ e,aAL,u];simp only[aCU]; omega
   ·unfold eP;rw[if_pos rfl,qZ e]; exact l
  ·omega
 ·have hi:=(aBD.1 e).1;have j:a.src ∉ Q:=by simpa using j
  have l:a.dst∈Q:=by simpa using l
  rcases aCH x with c | c
  ·exact c
  ·refine absurd (hD a.dst (by rw[aBT]; exact l) (i,false) hi ?_ ?_) ?_
   ·unfold dE; rw[if_neg (show ¬ (false=true) by decide),qZ e]
   ·unfold eC;rw[if_neg (show ¬ (false=true) by decide),aAL,u];exact c
   ·unfold eP;rw[if_neg (show ¬ (false=true) by decide),qZ e]; exact j
inductive tV (n:cB) (Q:List Nat) (way:Nat→cJ):Nat→List cJ→Prop
 | nil:tV n Q way n.source []
 | cons {v:Nat} {L:List cJ} (hv:v∈Q) (hne:v≠n.source) (h:tV n Q way (dE n (way v)) L):tV n Q way v (way v::L)
theorem Wl {n:cB} {xs Q:List Nat} {way:Nat→cJ} (w:nE n xs Q way):∀ (m v:Nat),Q.idxOf v=m→v∈Q→∃ L,tV n Q way v L∧L.length≤m:=by
 intro m
 induction m using Nat.strongRecOn with
 | ind m x =>
  intro v F j;by_cases e:v=n.source
  ·subst e;exact⟨[],.nil,aAP _⟩
  ·obtain⟨y,A,B,l,h5⟩:=w.way v j e;obtain⟨L,u,E⟩:=x _ Om (dE n (way v)) rfl l;exact⟨way v::L,.cons j e u,by simp; omega⟩
theorem tV.avX {n:cB} {xs Q:List Nat} {way:Nat→cJ} (x:nE n xs Q way):∀ {v:Nat} {L:List cJ},tV n Q way v L→v∈Q→∀ s∈L,s.1<n.arcs.length∧0<eC n xs s∧Q.idxOf (dE n s)<Q.idxOf (eP n s)∧Q.idxOf (eP n s)≤Q.idxOf v:=by
 intro v L h
 induction h with
 | nil=>intro _ s hs; cases hs
 | @cons v L y e h A =>
  intro _ s hs;obtain⟨l,j,u,w,h5⟩:=x.way v y e;rcases aAK.1 hs with rfl | hs
  ·exact⟨l,u,by rw[j]; exact h5,by rw[j]; exact aAF _⟩
  ·obtain⟨g1,g2,g3,g4⟩:=A w s hs;exact⟨g1,g2,g3,by omega⟩
theorem tV.apart {n:cB} {xs Q:List Nat} {way:Nat→cJ} (w:nE n xs Q way) {v:Nat} {s:cJ} {L:List cJ} (h:tV n Q way v (s::L)) (B:v∈Q):∀ s'∈L,s'.1≠s.1:=by
 intro s' u e;cases h with
 | cons _ l h =>
  obtain⟨E,y,F,A,h5⟩:=w.way v B l;obtain⟨g1,g2,g3,g4⟩:=h.avX w A s' u;have x:Q.idxOf (dE n (way v))<Q.idxOf (eP n (way v)):=by rw[y]; exact h5
  unfold eP dE at x g3 g4;rw[e] at g3 g4;have I:=g4;cases hb:(way v).2<;>cases j:s'.2<;>simp only[hb,j,aDF,if_true,if_false] at x g3 g4<;>omega
def push (e:Nat) (j:List Nat) (s:cJ):List Nat:=j.set s.1 (if s.2=true then j.getD s.1 0+e else j.getD s.1 0-e)
theorem XD (e:Nat) (j:List Nat) (s:cJ):(push e j s).length=j.length:=by unfold push; rw[aBW]
structure YD (n:cB) (xs ys:List Nat) (amt v:Nat) (L:List cJ):Prop where
 len:ys.length=n.arcs.length
 le:∀ (i:Nat) a x,n.arcs[i]?=some a→ys[i]?=some x→x≤a.cap
 net:∀ w,fW n.arcs ys w=fW n.arcs xs w-(if w=n.sink then (amt:Int) else 0)+(if w=v then (amt:Int) else 0)
 same:∀ s∈L,ys.getD s.1 0=xs.getD s.1 0
theorem Ye {n:cB} {xs:List Nat} (j:fY n xs) (e:Nat) (L:List cJ):YD n xs xs e n.sink L:=⟨j.len,j.le,fun w=>by split<;>omega,fun _ _=>rfl⟩
theorem aeJ {n:cB} {xs K Q:List Nat} {way:Nat→cJ} (R:nE n xs Q way) {j v:Nat} {s:cJ} {L:List cJ} (l:YD n xs K j v (s::L)) (hB:tV n Q way v (s::L)) (U:v∈Q) (E:j≤eC n xs s) :
  dE n s∈Q∧tV n Q way (dE n s) L∧YD n xs (push j K s) j (dE n s) L:=by
 have M:=hB.apart R U;cases hB with
 | cons _ N hB =>
  obtain⟨O,B,W,V,h5⟩:=R.way v U N;generalize way v=s at *
  have u:n.arcs[s.1]?=some (dM n s.1):=by unfold dM; rw[aAL,aAH O]; rfl
  have I:s.1<K.length:=by rw[l.len]; exact O
  have F:K[s.1]?=some (K.getD s.1 0):=by rw[aAL,aAH I]; rfl
  have y:=l.same s (by simp);have S:=l.le _ _ _ u F;unfold eC at E;rw[← y] at E;refine⟨V,hB,by rw[XD]; exact l.len,fun i a x hi A=>?_,fun w=>?_,fun s' J=>?_⟩
  ·unfold push at A;by_cases e:i=s.1
   ·subst e;rw[List.getElem?_set_self I] at A;rw[u] at hi;cases hi;simp only[aCI.injEq] at A;subst A;cases hb:s.2 with
    | true=>rw[hb,if_pos rfl] at E; rw[if_pos rfl]; omega
    | false=>rw[if_neg (by decide)]; omega
   ·rw[List.getElem?_set_ne (fun h=>e h.symm)] at A;exact l.le i a x hi A
  ·unfold push;rw[P0 _ u F,l.net];unfold eP at B;unfold dE;cases hb:s.2 with
   | true =>rw[hb,if_pos rfl] at E B;simp only[if_true];rw[B];split<;>split<;>split<;>split<;>omega
   | false =>rw[hb,if_neg (by decide)] at E B;simp only[aDF,if_false];rw[B];split<;>split<;>split<;>split<;>omega
  ·unfold push;have:=M s' J;rw[aAL,List.getElem?_set_ne (fun h=>this h.symm),← aAL];exact l.same s' (aDM _ J)
theorem aeI {n:cB} (y:fN n) {xs l:List Nat} (x:fY n xs) {e:Nat} {L:List cJ} (j:YD n xs l e n.source L):fY n l∧iJ n l=iJ n xs+e:=by
 refine⟨⟨j.len,j.le,fun v A u w=>?_⟩,?_⟩
 ·rw[j.net,x.node v A u w,if_neg w,if_neg u]; rfl
 ·unfold iJ;rw[j.net,if_neg y.apart,if_pos rfl]; omega
abbrev gE (xs:List Nat):List (List PV):=xs.map fun x=>[PV.int .i64 ((x:Nat):Int)]
theorem zM {xs:List Nat} {i:Nat} (h:i<xs.length):(gE xs)[i]?=some [.int .i64 ((xs.getD i 0:Nat):Int)]:=by
 rw[aAT,aAH h,aAL,aAH h]; rfl
abbrev rJ (n:cB) (fo m:Nat) (out:PV):bF:=.rows 6 [[.int .i64 (n.nodes:Nat),.int .i64 (n.source:Nat),.int .i64 (n.sink:Nat),gp n.arcs,.osl fo 1 0 m,out]]
abbrev sH (n:cB) (e fo:Nat) (xs:List Nat) (out:PV):PH:=(PH.nil.set e (rJ n fo xs.length out)).set fo (.rows 1 (gE xs))
def stI (s:cJ):Int:=if s.2=true then (s.1:Int) else -1-(s.1:Int)
structure sJ (n:cB) (xs:List Nat):Prop where
 len:xs.length=n.arcs.length
 le:∀ i,i<n.arcs.length→xs.getD i 0≤(dM n i).cap
theorem rO {n:cB} {i:Nat} (h:i<n.arcs.length):n.arcs[i]=dM n i:=(qZ (aAH h)).symm
theorem tY {n:cB} {i:Nat} (h:i<n.arcs.length):(n.arcs.map bJ.cells)[i]?=some (dM n i).cells:=by rw[gq h,rO h]
theorem aeA {C:Ctx} (n:cB) (K:fN n) (w fo:Nat) (u:¬ w=fo) (xs:List Nat) (M:sJ n xs) (out:PV) (s:cJ) (l:s.1<n.arcs.length) :
  xE.wp C (aT ul.res (fun r H'=>r=.tup [.int .i64 ((eP n s:Nat):Int),.int .i64 ((eC n xs s:Nat):Int)]∧H'=sH n w fo xs out)) (PF.args [.ptr w 6 0 0,.int .i64 (stI s)]) (sH n w fo xs out):=by
 have j:¬ fo=w:=fun e=>u e.symm;obtain⟨i,b⟩:=s;have l:i<n.arcs.length:=l;have A:i<xs.length:=by rw[M.len]; exact l
 have y:(i:Int)<(xs.length:Nat):=Om;have N:=M.le i l;have x:=(K.ends _ (aAG l)).2.2;rw[rO l] at x;have O:=K.num;cases b with
 | true =>
  have E:stI (i,true)=(i:Int):=rfl;have F:eP n (i,true)=(dM n i).dst:=rfl;have I:eC n xs (i,true)=(dM n i).cap-xs.getD i 0:=rfl;rw[E,F,I];have B:(i:Int)≥0:=Om;have J:IntKind.i64.wrap (((dM n i).cap:Int)-((xs.getD i 0:Nat):Int))=(((dM n i).cap-xs.getD i 0:Nat):Int):=by rw[wrap_i64 Om Om]; omega
  simp only[go_sem,xE,VI,ul,VJ,B];refine bN .nil dC a_ ?_;simp only[go_sem,Cu,u,j,tY l,y,zM A,J];exact aV (vs:=[.int .i64 (((dM n i).dst:Nat):Int),.int .i64 (((dM n i).cap-xs.getD i 0:Nat):Int)]) (.inr rfl) (sH n w fo xs out) rfl (fun _ _ h=>h) ⟨rfl,rfl⟩
 | false =>
  have E:stI (i,false)=-1-(i:Int):=rfl;have F:eP n (i,false)=(dM n i).src:=rfl;have I:eC n xs (i,false)=xs.getD i 0:=rfl;rw[E,F,I];have B:¬ (-1-(i:Int))≥0:=Om;have J:IntKind.i64.wrap (-1-(-1-(i:Int)))=(i:Int):=by rw[wrap_i64 Om Om]; omega
  simp only[go_sem,xE,VI,ul,VJ,B];refine bN .nil dC a_ ?_;simp only[go_sem,Cv,u,j,J,tY l,y,zM A];exact aV (vs:=[.int .i64 (((dM n i).src:Nat):Int),.int .i64 ((xs.getD i 0:Nat):Int)]) (.inr rfl) (sH n w fo xs out) rfl (fun _ _ h=>h) ⟨rfl,rfl⟩
theorem adX {C:Ctx} (n:cB) (E:fN n) (u fo:Nat) (l:¬ u=fo) (xs:List Nat) (out:PV) (s:cJ) (w:s.1<n.arcs.length) :
  xD.wp C (aT uk.res (fun r H'=>r=.int .i64 ((dE n s:Nat):Int)∧H'=sH n u fo xs out)) (PF.args [.ptr u 6 0 0,.int .i64 (stI s)]) (sH n u fo xs out):=by
 have j:¬ fo=u:=fun e=>l e.symm;obtain⟨i,b⟩:=s;have w:i<n.arcs.length:=w;have F:=E.num;cases b with
 | true =>have y:stI (i,true)=(i:Int):=rfl;have A:dE n (i,true)=(dM n i).src:=rfl;rw[y,A];have x:(i:Int)≥0:=Om;simp only[go_sem,xD,VG,uk,VH,x,Cq,l,j,tY w];exact aV (vs:=[.int .i64 (((dM n i).src:Nat):Int)]) (.inr rfl) (sH n u fo xs out) rfl (fun _ _ h=>h) ⟨rfl,rfl⟩
 | false =>
  have y:stI (i,false)=-1-(i:Int):=rfl;have A:dE n (i,false)=(dM n i).dst:=rfl;rw[y,A];have x:¬ (-1-(i:Int))≥0:=Om;have B:IntKind.i64.wrap (-1-(-1-(i:Int)))=(i:Int):=by rw[wrap_i64 Om Om]; omega
  simp only[go_sem,xD,VG,uk,VH,x,Cr,l,j,B,tY w];exact aV (vs:=[.int .i64 (((dM n i).dst:Nat):Int)]) (.inr rfl) (sH n u fo xs out) rfl (fun _ _ h=>h) ⟨rfl,rfl⟩
def JG (way:Nat→cJ) (v:Nat) (s:cJ):Nat→cJ:=fun w=>if w=v then s else way w
theorem Vd {n:cB} (l:fN n) (xs:List Nat) (way:Nat→cJ):nE n xs [n.source] way:=by
 refine⟨⟨[],rfl⟩,by simp,fun v e=>?_,fun v e j=>?_⟩
 ·rw[aBL] at e;subst e;exact l.source
 ·exact absurd (aBL.1 e) j
theorem UX {Q:List Nat} {v a:Nat} (h:v∈Q):(Q++[a]).idxOf v=Q.idxOf v:=by
 rw[List.idxOf_append,if_pos h]
theorem Zs {n:cB} (N:fN n) {xs Q:List Nat} {way:Nat→cJ} (j:nE n xs Q way) {s:cJ} (w:s.1<n.arcs.length) (l:dE n s∈Q) (x:eP n s ∉ Q) (O:0<eC n xs s) :
  nE n xs (Q++[eP n s]) (JG way (eP n s) s):=by
 obtain⟨t,K⟩:=j.first;have y:eP n s<n.nodes:=by have:=N.ends _ (aAG w);rw[show n.arcs[s.1]=dM n s.1 from (qZ (aAH w)).symm] at this;unfold eP;split<;>omega
 refine⟨⟨t++[eP n s],by rw[K]; rfl⟩,?_,fun v A=>?_,fun v A u=>?_⟩
 ·rw[aCZ];refine⟨j.nd,by simp,fun a M b hb=>?_⟩;rw[aBL] at hb;subst hb;rintro rfl;exact x M
 ·rcases aBH.1 A with h | h
  ·exact j.lt v h
  ·rw[aBL] at h;subst h;exact y
 ·rcases aBH.1 A with h | h
  ·have B:v≠eP n s:=fun e=>x (e ▸ h);obtain⟨E,I,J,F,h5⟩:=j.way v h u;unfold JG;rw[if_neg B];exact⟨E,I,J,aDR _ F,by rw[UX F,UX h]; exact h5⟩
  ·rw[aBL] at h;subst h;unfold JG;rw[if_pos rfl];refine⟨w,rfl,O,aDR _ l,?_⟩;rw[UX l];have E:=List.idxOf_lt_length_of_mem l;rw[List.idxOf_append,if_neg x];omega
theorem Cb:∀ (n:Nat) (Q:List Nat),Q.Nodup→(∀ v∈Q,v<n)→Q.length≤n
 | 0,[],_,_=>aAF _
 | 0,v::Q,_,h=>absurd (h v (by simp)) Om
 | n+1,Q,l,h=>by
  by_cases e:n∈Q
  ·have u:=Cb n (Q.erase n) (l.erase n) fun v j=>by have x:=(l.mem_erase_iff).1 j;have:=h v x.2;omega
   rw[List.length_erase_of_mem e] at u;omega
  ·have u:=Cb n Q l fun v j=>by have:=h v j;have:v≠n:=fun w=>e (w ▸ j);omega
   omega
theorem XI {n:cB} {xs Q:List Nat} {way:Nat→cJ} (e:nE n xs Q way):Q.length≤n.nodes:=Cb _ _ e.nd e.lt
theorem Ww (n:cB) (xs Q:List Nat):EG n xs Q 0:=fun v e=>by simp at e
theorem Wu {n:cB} {xs Q:List Nat} {k:Nat} (h:EG n xs Q k) (w:k≤Q.length) (a:Nat):EG n xs (Q++[a]) k:=fun v e s j l u=>by
 rw[List.take_append_of_le_length w] at e;exact aDR _ (h v e s j l u)
theorem Wv {n:cB} {xs Q:List Nat} {k v:Nat} (h:EG n xs Q k) (B:Q[k]?=some v) (j:∀ s:cJ,s.1<n.arcs.length→dE n s=v→0<eC n xs s→eP n s∈Q):EG n xs Q (k+1):=fun w y s l u x=>by
 obtain⟨A,e⟩:=aBD.1 B;rw[aCM A,e] at y;rcases aBH.1 y with g | g
 ·exact h w g s l u x
 ·rw[aBL] at g;subst g;exact j s l u x
structure ue (n:cB) (outL:List (List Int)):Prop where
 len:outL.length=n.nodes
 all:∀ s:cJ,s.1<n.arcs.length→stI s∈outL.getD (dE n s) []
 only:∀ v c,c∈outL.getD v []→∃ s:cJ,s.1<n.arcs.length∧dE n s=v∧c=stI s
 few:∀ v,(outL.getD v []).length≤1000000
def byL (e:cJ→Int) (n:cB) (Q:List Nat) (way:Nat→cJ):List Int:=(aAB n.nodes).map fun v=>if v∈Q∧v≠n.source then e (way v) else 0
def seL (n:cB) (Q:List Nat):List Bool:=(aAB n.nodes).map fun v=>Q.contains v
theorem qV {α:Type} (g h:Nat→α) (N t:Nat) (x:α) (w:h t=x) (u:∀ v,v≠t→h v=g v):((aAB N).map g).set t x=(aAB N).map h:=by
 refine List.ext_getElem? fun i=>?_;rw[List.getElem?_set,aAA,aDD,aAT,aAT];by_cases e:t=i
 ·subst e;rw[if_pos rfl];by_cases l:t<N
  ·rw[if_pos l,aCV l,← w]; rfl
  ·rw[if_neg l,aBN (by simpa using l)]; rfl
 ·rw[if_neg e];by_cases l:i<N
  ·rw[aCV l,aBJ,aBJ,u i fun j=>e j.symm]
  ·rw[aBN (by simpa using l)]; rfl
theorem ajD {j:cJ→Int} {n:cB} {Q:List Nat} {way:Nat→cJ} {t:Nat} {s:cJ} (u:n.source∈Q) (w:t ∉ Q):(byL j n Q way).set t (j s)=byL j n (Q++[t]) (JG way t s):=by
 refine qV _ _ _ _ _ ?_ fun v l=>?_
 ·have:t≠n.source:=fun e=>w (e ▸ u);rw[if_pos ⟨by simp,this⟩,JG,if_pos rfl]
 ·rw[JG,if_neg l];have:(v∈Q++[t])↔v∈Q:=by simp[l]
  simp only[this]
theorem anH (n:cB) (Q:List Nat) (t:Nat):(seL n Q).set t true=seL n (Q++[t]):=by
 refine qV _ _ _ _ _ ?_ fun v e=>?_
 ·simp
 ·simp[e]
theorem aaX (e:cJ→Int) (n:cB) (way:Nat→cJ):aAC n.nodes [PV.int .i64 0]=bT (byL e n [n.source] way):=by
 refine List.ext_getElem? fun i=>?_;unfold bT byL;rw[List.getElem?_replicate,aAT,aAT];by_cases l:i<n.nodes
 ·rw[if_pos l,aCV l,aBJ,aBJ,if_neg (by simp)]
 ·rw[if_neg l,aBN (by simpa using l)]; rfl
theorem agG (n:cB):(aAC n.nodes [PV.bool false]).set n.source [PV.bool true]=bD (seL n [n.source]):=by
 have w:aAC n.nodes [PV.bool false]=(aAB n.nodes).map fun _=>[PV.bool false]:=by
  refine List.ext_getElem? fun i=>?_;rw[List.getElem?_replicate,aAT];by_cases l:i<n.nodes
  ·rw[if_pos l,aCV l]; rfl
  ·rw[if_neg l,aBN (by simpa using l)]; rfl
 have j:[n.source].contains n.source=true:=by simp
 have u:∀ v,v≠n.source→[n.source].contains v=false:=by intro v e; simp[e]
 have x:=qV (fun _=>[PV.bool false]) (fun v=>[PV.bool ([n.source].contains v)]) n.nodes n.source [PV.bool true] (by rw[j]) (fun v e=>by rw[u v e]);rw[w,x];unfold bD seL;rw[aDE]; rfl
theorem Ko (e:cJ→Int) (n:cB) (Q:List Nat) (way:Nat→cJ):(byL e n Q way).length=n.nodes:=by simp[byL]
theorem j9 (n:cB) (Q:List Nat):(seL n Q).length=n.nodes:=by simp[seL]
theorem Q0 {n:cB} {Q:List Nat} {v:Nat} (h:v<n.nodes):(seL n Q).getD v false=Q.contains v:=by
 unfold seL;rw[aAL,aAT,aCV h]; rfl
structure RS where
 Q:List Nat
 k:Nat
 way:Nat→cJ
 v:PV
 q:Nat
 H:PH
 d:Nat
structure wQ (n:cB) (xs:List Nat) (X:PH) (cd:cJ→Int) (b e:Nat) (a:RS):Prop where
 seen:nE n xs a.Q a.way
 done:EG n xs a.Q a.d
 dk:a.d≤a.k
 k:a.k≤a.Q.length
 base:X.le a.H
 hb:a.H b=some (.rows 1 (bT (byL cd n a.Q a.way)))
 he:a.H e=some (.rows 1 (bD (seL n a.Q)))
 hq:sN a.H 1 a.q a.v (gE (a.Q.drop a.k))
 ne:X a.q=none∧a.q≠b∧a.q≠e
theorem GH {X H:PH} {o:Nat} {y:bF} (h:X.le H) (j:X o=none):X.le (H.set o y):=fun q x hq=>by
 rw[aQ,if_neg (fun e=>by subst e; rw[j] at hq; cases hq)];exact h q x hq
def Wi (n:cB) (e fo:Nat) (xs:List Nat) (out:PV) (r:PV) (H:PH):Prop :=
 ∃ Q way,nE n xs Q way∧EG n xs Q Q.length∧r=.tup [ints (byL stI n Q way),.sl 1 (bD (seL n Q))]∧H=sH n e fo xs out
theorem wQ.step {n:cB} (V:fN n) {xs:List Nat} {X:PH} {F:cJ→Int} {b e:Nat} {a:RS} (h:wQ n xs X F b e a) (hd:X b=none∧X e=none∧¬ b=e) {s:cJ} (hs:s.1<n.arcs.length) (hf:dE n s∈a.Q) (ht:eP n s ∉ a.Q) (hr:0<eC n xs s)
  {K:PV→PH→Prop} (hK:∀ w:RS,wQ n xs X F b e w→w.Q=a.Q++[eP n s]→w.k=a.k→w.d=a.d→K w.v w.H) :
  mG ((a.H.set e (.rows 1 (bD (seL n (a.Q++[eP n s]))))).set b (.rows 1 (bT (byL F n (a.Q++[eP n s]) (JG a.way (eP n s) s))))) 1 8 a.v (.sl 1 [[.int .i64 ((eP n s:Nat):Int)]]) K:=by
 obtain⟨Y,Z,d5⟩:=hd;obtain⟨W,O,R⟩:=h.ne;have S:=Zs V h.seen hs hf ht hr;have y:=XI S;rw[aAE,aAI] at y;have U:=V.few;have hq:sN ((a.H.set e (.rows 1 (bD (seL n (a.Q++[eP n s]))))).set b (.rows 1 (bT (byL F n (a.Q++[eP n s]) (JG a.way (eP n s) s))))) 1 a.q a.v (gE (a.Q.drop a.k)):=h.hq.ext fun x j=>by rw[aQ,if_neg O,aQ,if_neg R]; exact j
 refine hq.append (src:=[[.int .i64 ((eP n s:Nat):Int)]]) rfl ?_ fun E v' H' g1 g2 g3 g4=>?_
 ·unfold roomFor;rw[aAA,aBR,aAI];simp only[maxLen];omega
 have M:∀ o x,o≠a.q→a.H o=some x→o≠b→o≠e→H' o=some x:=fun o x hq N hb he=>g3 o x hq (by rw[aQ,if_neg hb,aQ,if_neg he]; exact N);have J:gE (a.Q.drop a.k)++[[PV.int .i64 ((eP n s:Nat):Int)]]=gE ((a.Q++[eP n s]).drop a.k):=by rw[List.drop_append_of_le_length h.k,show ∀ A B:List Nat,gE (A++B)=gE A++gE B from fun A B=>aBO]; rfl
 rw[J] at g1;have u:∀ o x,a.H o=some x→o≠a.q→E≠o:=fun o x N hq l=>by
  subst l;rcases g2 with g | g
  ·exact hq g
  ·rw[aQ] at g;split at g
   ·cases g
   ·rw[aQ] at g;split at g
    ·cases g
    ·rw[N] at g; cases g
 have I:X E=none:=by
  cases j:X E with
  | none=>rfl
  | some x=>exact absurd rfl (u E x (h.base _ _ j) fun l=>by rw[l,W] at j; cases j)
 refine hK ⟨a.Q++[eP n s],a.k,JG a.way (eP n s) s,v',E,H',a.d⟩ ⟨S,Wu h.done (aCX h.dk h.k) _,h.dk,?_,fun o x j=>M o x (fun l=>by rw[l,W] at j; cases j) (h.base _ _ j) (fun l=>by rw[l,Y] at j; cases j) (fun l=>by rw[l,Z] at j; cases j),?_,?_,g1,?_⟩ rfl rfl rfl
 ·have:=h.k;show a.k≤(a.Q++[eP n s]).length;rw[aAE];omega
 ·exact g3 b _ O.symm (by rw[cG])
 ·exact g3 e _ R.symm (by rw[aQ,if_neg (fun l=>d5 l.symm),cG])
 ·exact⟨I,u _ _ h.hb O.symm,u _ _ h.he R.symm⟩

def aiI (c:UInt8) (n:Nat):List UInt8:=[c,UInt8.ofNat (97+n/26%26),UInt8.ofNat (97+n%26)]
def wd (ds:List cP) (level parent azH:Nat):List cP:=ds++[⟨aiI 110 ds.length,(level:Nat),(parent:Nat),(azH:Nat),jW⟩]
theorem aeK (a b:Nat) (l:a<4294967296) (hb:b<4294967296):(mkT (a:Int) (b:Int)).Ok:=by
 rw[Oi];have e:=aDH a (aAD a b);have j:=aDH b (aAD a b);have k1:nl (a/aAD a b)≤1:=(jF _ _).2 Om;have k2:nl (b/aAD a b)≤1:=(jF _ _).2 Om;refine⟨bA _,bA _,?_,?_⟩
 ·show (aJ _).length≤_;rw[bH]; omega
 ·show (aJ _).length≤_;rw[bH]; omega
theorem Bo {n:Nat} (h:n≤1000000):dO (n:Int):=by unfold dO; omega
def u0 (ds:List cP):Prop:=∀ x∈ds,x.azC.Ok∧dO x.level∧dO x.parent
theorem u0.dom {ds:List cP} (h:u0 ds) {level parent azH:Nat} (j:level≤1000) (l:parent≤1000):u0 (wd ds level parent azH):=fun x e=>by
 unfold wd at e;rw[aBH,aBL] at e;rcases e with e | rfl
 ·exact h x e
 ·exact⟨aeK 0 1 (by decide) (by decide),Bo Om,Bo Om⟩
structure FM (f:aC):Prop where
 ok:f.Ok
 km:∀ p∈f.ayQ,1≤p.k∧p.k≤2∧0≤p.m∧p.m≤2
 ayM:f.ayM.length≤9
 pols:1≤f.ayQ.length∧f.ayQ.length≤2
 vols:∀ x∈f.ayO,0≤x.ayZ∧x.ayZ<f.ayQ.length
theorem FM.pol {f:aC} (h:FM f) {v:Nat} (j:v<f.ayO.length):uL f v<f.ayQ.length∧cR f v∈f.ayQ:=by
 have l:=h.vols _ (aAG j);have u:uL f v=(f.ayO[v]).ayZ.toNat:=by rw[uL,getD_at j]
 have e:uL f v<f.ayQ.length:=Om;refine⟨e,?_⟩;unfold cR;rw[aAL,aAH e,aCU];exact aAG e
theorem FM.apG {f:aC} (h:FM f) {v:Nat} (e:v<f.ayO.length):1≤oE f v∧oE f v≤4:=by
 have:=h.km _ (h.pol e).2;unfold oE;omega
abbrev atB (l:List Int) (a:Nat):bF:=.rows 2 [[ints l,.int .i64 (a:Nat)]]
section
variable {C:Ctx} {F:PF} {H Hs:PH} {l:List Int} {o a:Nat}
end
structure ME where
 o:Nat
 o4:Nat
 o5:Nat
 vols:Nat
abbrev ME.boxes (E:ME) (l:List Int) (ext e j u w wp wv:PV) (a:Nat):List BX:=[(E.o5,flB ext e j u w wp wv),(E.o,atB l a),(E.o4,flZ)]





def avB (ds:List cP) (i:Nat) (d:cP):Prop:=∃ lev p u:Nat,d.name=aiI 110 (i+1)∧d.level=lev∧1≤lev∧lev≤4∧d.parent=p∧p≤i∧(lvs ds)[p]?=some ((lev:Int)-1)∧d.azH=u∧1≤u∧u≤64∧d.azC=jW
structure DV (ds:List cP):Prop where
 root:ds[0]?=some mJ
 dom:∀ i (hi:i+1<ds.length),avB ds i ds[i+1]
theorem DV.new {ds:List cP} (h:DV ds) {level parent up:Nat} (x:1≤level) (y:level≤4) (e:(lvs ds)[parent]?=some ((level:Int)-1)) (B:1≤up) (E:up≤64) :
  DV (wd ds level parent up)∧(lvs (wd ds level parent up))[ds.length]?=some (level:Int):=by
 have A:parent<ds.length:=by
  have:=(aBD.1 e).1
  rwa [aAA] at this
 unfold wd;refine⟨⟨by rw[aCB Om]; exact h.root,fun i hi=>?_⟩,?_⟩
 ·simp only[aAE,aAI] at hi;by_cases hlt:i+1<ds.length
  ·rw[List.getElem_append_left hlt];obtain⟨lev,p,v,g1,g2,g3,g4,j,l,u,w⟩:=h.dom i hlt;exact⟨lev,p,v,g1,g2,g3,g4,j,l,yP u,w⟩
  ·have:i+1=ds.length:=Om;rw[List.getElem_append_right Om];simp only[List.getElem_singleton];exact⟨level,parent,up,by rw[this],rfl,x,y,rfl,by omega,yP e,rfl,B,E,rfl⟩
 ·unfold lvs;rw[aBO,aBY (by rw[aAA]; exact aAF _),aAA,Nat.sub_self];rfl




theorem aK.store {H:PH} {B:List BX} {L:List LI} (h:aK H B L) (i:Nat) {q s n:Nat} {rows:List (List PV)} (hi:L[i]?=some (.osl q s 0 n,s,rows)) (k:Nat) (c:List PV) :
  ∃ rs,H q=some (.rows s rs)∧n≤rs.length∧rs.take n=rows∧aK (H.set q (.rows s (rs.set k c))) B (L.set i (.osl q s 0 n,s,rows.set k c)):=by
 obtain⟨rs,u,w,j,l⟩:=(h.own i hi).id rfl;injection w with _ _ _ x
 subst x;refine⟨rs,u,j,l,h.dx i hi (.inr ⟨q,rs.set k c,by rw[aBW],by rw[cG],by rw[aBW,aBW]; exact j,by rw[aBW,List.take_set,l]⟩) (fun p e=>.inl e) fun p _ e=>?_⟩;have:p≠q:=e q rfl;rw[aQ,if_neg this]

open Go Go.RowKit Go.Sort Go.Shelf Go.Proofs
section
variable {E:Env} {H:PH} {w:World}
end
section
variable {C:Ctx} {ρ:Ren} {name:Nat}
end
abbrev lists (ws:List (List Int)):PV:=.sl 1 (ws.map fun w=>[ints w])
abbrev WPs:=List (PV × List Int)
def dJ (ps:WPs):List (List PV):=ps.map fun p=>[p.1]
def gU (ps:WPs):List LI:=ps.map fun p=>(p.1,1,bT p.2)
def wls (ps:WPs):List (List Int):=ps.map (·.2)
def oZ (e:PV) (ps:WPs):List LI:=(e,1,dJ ps)::gU ps
section
variable {H:PH} {B:List BX}
theorem NM (ps:WPs):(dJ ps).length=ps.length:=aAA _
theorem DT {ps:WPs} {i:Nat} {v:PV} {w:List Int} (hi:ps[i]?=some (v,w)):(gU ps)[i]?=some (v,1,bT w):=by
 unfold gU;rw[aAT,hi]; rfl
theorem zL {ps:WPs} {i:Nat} {v:PV} {w:List Int} (hi:ps[i]?=some (v,w)):(dJ ps)[i]?=some [v]:=by
 unfold dJ;rw[aAT,hi]; rfl
theorem aK.aiJ (h:aK H B []):aK H B (oZ .aA []):=h.mB 1
theorem aK.inner {e:PV} {ps:WPs} (h:aK H B (oZ e ps)) {i:Nat} {v:PV} {w:List Int} (hi:ps[i]?=some (v,w)):bY H 1 v (bT w):=h.own (i+1) (DT hi)
theorem aK.outer {e:PV} {ps:WPs} (h:aK H B (oZ e ps)):bY H 1 e (dJ ps):=h.own 0 rfl
theorem sY (a b:List Int):bT (a++b)=bT a++bT b:=aBO
theorem aK.aiM {x:PV} {ps:WPs} (h:aK H B (oZ x ps)) {i b:Nat} {v y:PV} {w src:List Int} {K:PV→PH→Prop} (hi:ps[i]?=some (v,w)) (I:eJ H 1 y=some (bT src)) (E:roomFor w.length src.length b) (l:src≠[])
  (A:∀ q H',aK H' B ((x,1,dJ ps)::(gU ps).set i (.osl q 1 0 (w++src).length,1,bT (w++src)))→K (.osl q 1 0 (w++src).length) H'):mG H 1 b v y K:=by
 have j:bT src≠[]:=fun e=>l (List.map_eq_nil_iff.1 e);refine h.append (i+1) (DT hi) I (by rw[eU,eU]; exact E) fun v' H' u F=>?_;obtain⟨q,rfl⟩:=F j;rw[← sY,eU] at u ⊢;exact A q H' u
theorem aK.Zu {j n i:Nat} {ps:WPs} {v':PV} {l:List Int} (h:aK H B ((.osl j 1 0 n,1,dJ ps)::(gU ps).set i (v',1,bT l))) :
  ∃ rs,H j=some (.rows 1 rs)∧n≤rs.length∧rs.take n=dJ ps∧aK (H.set j (.rows 1 (rs.set i [v']))) B (oZ (.osl j 1 0 n) (ps.set i (v',l))):=by
 obtain⟨rs,u,w,x,y⟩:=h.store 0 rfl i [v'];refine⟨rs,u,w,x,?_⟩;have e:oZ (.osl j 1 0 n) (ps.set i (v',l))=((.osl j 1 0 n,1,dJ ps)::(gU ps).set i (v',1,bT l)).set 0 (.osl j 1 0 n,1,(dJ ps).set i [v']):=by unfold oZ dJ gU;rw[aDL,aDL];rfl
 rw[e];exact y
def kU (e:List (List PV)) (ws:List (List Int)):Prop:=e.length=ws.length∧∀ (i:Nat) r w,e[i]?=some r→ws[i]?=some w→r=[ints w]∨(r=[.aA]∧w=[])
theorem kU.nil:kU [] []:=⟨rfl,fun i r w h=>by cases h⟩
theorem kU.snoc {l:List (List PV)} {ws:List (List Int)} {u:PV} {w:List Int} (h:kU l ws) (y:u=ints w∨(u=.aA∧w=[])):kU (l++[[u]]) (ws++[w]):=by
 refine⟨by simp[h.1],fun i r x e j=>?_⟩;rcases Nat.lt_trichotomy i l.length with c | c | c
 ·rw[aCB c] at e;rw[aCB (by rw[← h.1]; exact c)] at j;exact h.2 i r x e j
 ·subst c;rw[aBY (aAF _),Nat.sub_self] at e;rw[h.1,aBY (aAF _),Nat.sub_self] at j;cases e; cases j;rcases y with rfl | ⟨rfl,rfl⟩
  ·exact .inl rfl
  ·exact .inr ⟨rfl,rfl⟩
 ·rw[aBY Om,aBN (by simp; omega)] at e;cases e
theorem kU.flat {j:List (List PV)} {ws:List (List Int)} (h:kU j ws):Flat j:=Flat.of fun r u c e q s rs=>by
 obtain⟨i,hi⟩:=List.mem_iff_getElem?.1 u;have l:=(aBD.1 hi).1;rcases h.2 i r _ hi (aAH (by rw[← h.1]; exact l)) with rfl | ⟨rfl,-⟩
 ·rw[aBL] at e; subst e; rfl
 ·rw[aBL] at e; subst e; rfl
theorem kU.co {y:List (List PV)} {ws:List (List Int)} (h:kU y ws):Co (.sl 1 y) (lists ws):=by
 have x:∀ (i:Nat) r t,y[i]?=some r→(ws.map fun w=>[ints w])[i]?=some t→∃ w,t=[ints w]∧(r=[ints w]∨(r=[.aA]∧w=[])):=fun i r t u e=>by
  rw[aAT] at e;cases E:ws[i]? with
  | none=>rw[E] at e; cases e
  | some w =>rw[E] at e;cases e;exact⟨w,rfl,h.2 i r w u E⟩
 refine .sl (by rw[aAA,h.1]) (fun i r t u e=>?_) (fun i j p q l hq=>?_)
 ·obtain⟨w,rfl,A | ⟨A,-⟩⟩:=x i r t u e<;>subst A<;>rfl
 ·unfold at2 at l hq;cases u:y[i]? with
  | none=>rw[u] at l; cases l
  | some r =>
   cases e:(ws.map fun w=>[ints w])[i]? with
   | none=>rw[e] at hq; cases hq
   | some t =>
    rw[u] at l;rw[e] at hq;obtain⟨w,rfl,A⟩:=x i r t u e;rcases A with rfl | ⟨rfl,rfl⟩
    ·have:some p=some q:=l.symm.trans hq;cases this;exact .refl _
    ·cases j with
     | zero=>cases l; cases hq; exact .nil 1
     | succ j=>cases l
end
def Fx (u:PV):Prop:=∀ q s rs,PV.frz q s rs u=u
theorem Fx.int (k:IntKind) (n:Int):Fx (.int k n):=fun _ _ _=>rfl
theorem Fx.bool (b:Bool):Fx (.bool b):=fun _ _ _=>rfl
theorem Fx.sl (n:Nat) (r:List (List PV)):Fx (.sl n r):=fun _ _ _=>rfl
theorem Fx.aA:Fx .aA:=fun _ _ _=>rfl
theorem Fx.ptr (q z i c:Nat):Fx (.ptr q z i c):=fun _ _ _=>rfl
theorem Fx.dH (c:List PV):Fx (.dH c):=fun _ _ _=>rfl
theorem bY.bP {H:PH} {s:Nat} {v:PV} {rows:List (List PV)} (h:bY H s v rows) (q z:Nat) (rs:List (List PV)):PV.frz q z rs v=PV.bP q z rs v:=by
 rcases h with ⟨-,rfl⟩ | ⟨p,rs',rfl,-⟩<;>rfl
def DE (φ:PV→PV) (F:PF):PF:=fun i=>(F i).map φ
theorem sE (φ:PV→PV) (F:PF) (i:Nat):DE φ F i=(F i).map φ:=rfl
theorem WH:∀ (ps:WPs) {H:PH} {B:List BX} {A:PV} (y:List (List PV)) (l:List (List Int)),kU y l→aK H B ((A,1,y++dJ ps)::gU ps)→(∀ b∈B,∀ q s rs,bF.frz q s rs b.2=b.2) →
  ∃ (φ:PV→PV) (E:PH),Co (φ A) (lists (l++wls ps))∧(∀ u,Fx u→φ u=u)∧(∀ e:Int,φ (.tup [A,.int .i64 e])=.tup [φ A,.int .i64 e])∧aK E B []∧(∀ F:PF,iU F H (DE φ F) E)∧∀ o,(H o=none∨A.oid=some o∨∃ p∈ps,p.1.oid=some o)→E o=none
 | [],H,B,A,y,l,J,h,hB=>by
  have M:y++dJ []=y:=aBU y;have e1:l++wls []=l:=aBU l;rw[M] at h;rw[e1];rcases h.own 0 rfl with ⟨R,rfl⟩ | ⟨q,rs,rfl,_⟩
  ·refine⟨id,H,?_,fun _ _=>rfl,fun _=>rfl,h.ET 0,fun F=>?_,fun o ho=>?_⟩
   ·subst R;have:l=[]:=List.length_eq_zero_iff.1 J.1.symm;subst this;exact .nil 1
   ·have:DE id F=F:=funext fun i=>by rw[sE]; simp
    rw[this];exact .refl _ _
   ·rcases ho with ho | ho | ⟨p,hp,-⟩
    ·exact ho
    ·cases ho
    ·cases hp
  ·obtain⟨rs,X,Y,Z,z4,K⟩:=h.frz 0 rfl;refine⟨PV.frz q 1 rs,H.frz q 1 rs,?_,fun u N=>N _ _ _,fun e=>?_,?_,fun F=>.step q X (.refl _ _),fun o ho=>?_⟩
   ·rw[Z]; exact J.co
   ·show PV.tup [PV.bP q 1 rs (.osl q 1 0 y.length),.int .i64 e]=_;rw[Y,Z]
   ·have O:(B.map fun b=>(b.1,b.2.frz q 1 rs))=B:=by
     conv=>rhs; rw[← List.map_id B]
     refine aCC fun b hb=>?_;rw[hB b hb q 1 rs]; rfl
    rw[O] at K;exact K
   ·rw[uG];rcases ho with ho | ho | ⟨p,hp,-⟩
    ·rw[ho]; split<;>rfl
    ·have:q=o:=by injection ho
     rw[if_pos this.symm]
    ·cases hp
 | (v,w)::ps,H,B,A,y,l,J,h,hB=>by
  have eo:∀ u:PV,y++[[u]]++dJ ps=y++[u]::dJ ps:=fun u=>by rw[aBE]; rfl
  have ew:l++[w]++wls ps=l++wls ((v,w)::ps):=by rw[aBE]; rfl
  have ho:bY H 1 v (bT w):=h.own 1 rfl;rcases ho with ⟨R,rfl⟩ | ⟨q,rs,rfl,_⟩
  ·have hw:w=[]:=List.map_eq_nil_iff.1 R;have h2:=h.ET 1;obtain⟨φ,E,k1,k2,S,U,V,W⟩:=WH ps (y++[[.aA]]) (l++[w]) (J.snoc (.inr ⟨rfl,hw⟩)) (by rw[eo]; exact h2) hB;rw[ew] at k1;refine⟨φ,E,k1,k2,S,U,V,fun o ho=>W o ?_⟩;rcases ho with ho | ho | ⟨p,hp,ho⟩
   ·exact .inl ho
   ·exact .inr (.inl ho)
   ·rcases aAK.1 hp with rfl | hp
    ·cases ho
    ·exact .inr (.inr ⟨p,hp,ho⟩)
  ·obtain⟨rs,X,Y,Z,z4,K⟩:=h.frz 1 rfl;have O:(B.map fun b=>(b.1,b.2.frz q 1 rs))=B:=by
    conv=>rhs; rw[← List.map_id B]
    refine aCC fun b hb=>?_;rw[hB b hb q 1 rs]; rfl
   have y0:PV.bP q 1 rs A=A:=z4 0 _ (by decide) rfl;have I:PV.frz q 1 rs A=A:=((h.own 0 rfl).bP q 1 rs).trans y0;have yp:∀ p∈ps,PV.bP q 1 rs p.1=p.1:=fun p hp=>by obtain⟨j,hj⟩:=List.mem_iff_getElem?.1 hp;exact z4 (j+2) (p.1,1,bT p.2) Om (DT hj)
   have er:(y++dJ ((.osl q 1 0 (bT w).length,w)::ps)).map (fun r=>r.map (PV.bP q 1 rs))=y++[[ints w]]++dJ ps:=by
    rw[aBO,J.flat,aBE];congr 1;show [PV.bP q 1 rs (.osl q 1 0 (bT w).length)]::(dJ ps).map _=_;rw[Y];have:(dJ ps).map (fun r=>r.map (PV.bP q 1 rs))=dJ ps:=by unfold dJ;rw[aDE];refine aCC fun p hp=>?_;show [PV.bP q 1 rs p.1]=_;rw[yp p hp]
    rw[this];rfl
   have ei:(gU ps).map (fun x=>(x.1,x.2.1,x.2.2.map fun r=>r.map (PV.bP q 1 rs)))=gU ps:=by unfold gU;rw[aDE];refine aCC fun p _=>?_;show (p.1,1,(bT p.2).map fun r=>r.map (PV.bP q 1 rs))=_;rw[show (bT p.2).map (fun r=>r.map (PV.bP q 1 rs))=bT p.2 from Flat.map p.2 (fun x c hc q s rs=>by rw[aBL] at hc; subst hc; rfl) q 1 rs]
   have z6:aK (H.frz q 1 rs) B ((A,1,y++[[ints w]]++dJ ps)::gU ps):=by rw[O] at K;have z7:aK (H.frz q 1 rs) B ((A,1,(y++dJ ((.osl q 1 0 (bT w).length,w)::ps)).map (fun r=>r.map (PV.bP q 1 rs)))::(gU ps).map (fun x=>(x.1,x.2.1,x.2.2.map fun r=>r.map (PV.bP q 1 rs)))):=K;rw[er,ei] at z7;exact z7
   obtain⟨φ,E,k1,k2,S,U,V,W⟩:=WH ps (y++[[ints w]]) (l++[w]) (J.snoc (.inl rfl)) z6 hB;rw[ew] at k1;refine⟨fun u=>φ (PV.frz q 1 rs u),E,?_,fun u N=>?_,fun e=>?_,U,fun F=>.step q X ?_,fun o ho=>W o ?_⟩
   ·simp only;rw[I]; exact k1
   ·simp only;rw[N,k2 u N]
   ·simp only;rw[I];have yt:PV.frz q 1 rs (.tup [A,.int .i64 e])=.tup [PV.frz q 1 rs A,.int .i64 e]:=by rcases h.own 0 rfl with ⟨-,M⟩ | ⟨p,rs',M,-⟩<;>(subst M; rfl)
    rw[yt,I,S]
   ·have:DE (fun u=>φ (PV.frz q 1 rs u)) F=DE φ (F.frz q 1 rs):=funext fun i=>by rw[sE,sE,kF,Option.map_map];rfl
    rw[this];exact V _
   ·rw[uG];rcases ho with ho | ho | ⟨p,hp,ho⟩
    ·left; rw[ho]; split<;>rfl
    ·exact .inr (.inl ho)
    ·rcases aAK.1 hp with rfl | hp
     ·have:q=o:=by injection ho
      left; rw[if_pos this.symm]
     ·exact .inr (.inr ⟨p,hp,ho⟩)
theorem NT {res:List dT} {F:PF} {H:PH} {l:PV} {ps:WPs} {c:Int} {e:kC} (he:e=.normal∨e=.ret) (h:dT.evs F H res=some [l,.int .i64 c]) (w:aK H [] (oZ l ps)):aT res (cL (.tup [lists (wls ps),.int .i64 c])) e F H:=by
 obtain⟨φ,A,k1,-,x,-,y,-⟩:=WH ps [] [] .nil w (fun b hb=>by cases hb);refine oR he h ⟨_,_,.nil,y _,a_,φ (dB [l,.int .i64 c]),?_,?_⟩
 ·rw[sE,mF,if_pos rfl]; rfl
 ·show cL _ (φ (.tup [l,.int .i64 c])) .nil;rw[x];refine⟨.tup rfl fun j p q u hq=>?_,rfl⟩
  match j with
  | 0=>cases u; cases hq; exact k1
  | 1=>cases u; cases hq; exact .refl _
  | j+2=>cases u
theorem zD {H:PH} {o q s:Nat} {rs:List (List PV)} {x:bF} (h:H o=some x) (e:¬ o=q) (j:bF.frz q s rs x=x):(H.frz q s rs) o=some x:=by
 show (if o=q then none else (H o).map (bF.frz q s rs))=some x;rw[if_neg e,h,aBJ,j]
theorem zC {q s:Nat} {rs r:List (List PV)} (h:Flat r) (z:Nat):bF.frz q s rs (.rows z r)=.rows z r:=by
 show bF.rows z (r.map fun c=>c.map (PV.bP q s rs))=_;rw[h]
theorem Xi {H H2:PH} {b e m:Nat} {j l:List (List PV)} {R:PV→PH→Prop} (hb:H b=some (.rows 1 j)) (he:H e=some (.rows 1 l)) (u:¬ e=b) (x:Flat l) (A:j.length=m) (le:l.length=m)
  (w:H2.le ((H.frz b 1 j).frz e 1 l)) (y:R (.tup [.sl 1 j,.sl 1 l]) H2):nU (.tup [.osl b 1 0 m,.osl e 1 0 m]) H R:=by
 have B:PV.frz b 1 j (.tup [.osl b 1 0 m,.osl e 1 0 m])=.tup [.sl 1 j,.osl e 1 0 m]:=by simp[PV.frz,PV.pI,PV.bP,u,← A]
 have E:PV.frz e 1 l (.tup [.sl 1 j,.osl e 1 0 m])=.tup [.sl 1 j,.sl 1 l]:=by simp[PV.frz,PV.pI,PV.bP,← le]
 refine .step hb ?_;rw[B];refine .step (zD he u (zC x 1)) ?_;rw[E];exact .done y w
theorem Sy (l:List Bool):Flat (bD l):=Flat.map l fun x c e q s rs=>by
 rw[aBL] at e;subst e;rfl
abbrev jJ (e:List (List PV)):PV:=.sl 1 e
theorem kU.at {j:List (List PV)} {ws:List (List Int)} (h:kU j ws) {i:Nat} (hi:i<ws.length):∃ u,j[i]?=some [u]∧(u=ints (ws.getD i [])∨(u=.aA∧ws.getD i []=[])):=by
 have l:i<j.length:=by rw[h.1]; exact hi
 have w:ws.getD i []=ws[i]:=by rw[aAL,aAH hi]; rfl
 rw[w];rcases h.2 i j[i] ws[i] (aAH l) (aAH hi) with e | ⟨e,e2⟩
 ·exact⟨_,by rw[aAH l,e],.inl rfl⟩
 ·exact⟨_,by rw[aAH l,e],.inr ⟨rfl,e2⟩⟩
theorem Yi {C : Ctx} (hends : ∀ (n : cB) (so fo : Nat) (xs : List Nat) (out : PV) (s : cJ), fN n → ¬ so = fo → sJ n xs → s.1 < n.arcs.length → aG C 294 [.ptr so 6 0 0, .int .i64 (stI s)] (sH n so fo xs out) (fun r H' => r = .tup [.int .i64 ((eP n s : Nat) : Int), .int .i64 ((eC n xs s : Nat) : Int)] ∧ H' = sH n so fo xs out))
    (n : cB) (hn : fN n) (so fo : Nat) (hne : ¬ so = fo) (xs : List Nat) (hx : sJ n xs) (fs : List (List PV)) (outL : List (List Int)) (hSh : kU fs outL) (hO : ue n outL) :
    BQ.wp C (aT Dq.res (Wi n so fo xs (jJ fs))) (PF.args [.ptr so 6 0 0]) (sH n so fo xs (jJ fs)) := by
  have azM : ¬ fo = so := fun e => hne e.symm;have hfew := hn.few;have hsrc := hn.source;have hb1 : (n.nodes : Int) * ((8 : Nat) : Int) ≤ 140737488355328 := Om;have hb2 : (n.nodes : Int) ≤ 9223372036854775807 := Om;have hb3 : (n.nodes : Int) * ((1 : Nat) : Int) ≤ 140737488355328 := Om;have hs1 : (n.source : Int) < (n.nodes : Nat) := Om;simp only[go_sem,BQ,n6,Dq];refine bN .nil dC a_ ?_;simp only[go_sem,n8,hne,azM,hb1,hb2,hb3];refine aP fun b hb => ?_;simp only[go_sem];have b1 : ¬ so = b := fun e => by rw [← e, aQ, if_neg hne, cG] at hb; cases hb
  have b2 : ¬ fo = b := fun e => by rw [← e, cG] at hb; cases hb
  have b1' : ¬ b = so := fun e => b1 e.symm;have b2' : ¬ b = fo := fun e => b2 e.symm;simp only[go_sem,hne,azM,b1,b2,hb1,hb2,hb3];refine aP fun e he => ?_;have e1 : ¬ so = e := fun e0 => by rw [← e0, aQ, if_neg b1, aQ, if_neg hne, cG] at he; cases he
  have e2 : ¬ fo = e := fun e0 => by rw [← e0, aQ, if_neg b2, cG] at he; cases he
  have e3 : ¬ b = e := fun e0 => by rw [← e0, cG] at he; cases he
  have e1' : ¬ e = so := fun e0 => e1 e0.symm;have e2' : ¬ e = fo := fun e0 => e2 e0.symm;have e3' : ¬ e = b := fun e0 => e3 e0.symm;have hrl : n.source < (aAC n.nodes [PV.bool false]).length := by simpa using hsrc
  simp only[go_sem,n9,hne,azM,b1,b2,e1,e2,e3,hs1,List.getElem?_replicate,aEA,hsrc,aAX];have hsoX : (sH n so fo xs (jJ fs)) so = some (rJ n fo xs.length (jJ fs)) := by rw [aQ, if_neg hne, cG]
  have hfoX : (sH n so fo xs (jJ fs)) fo = some (.rows 1 (gE xs)) := by rw [cG]
  have hXe : (sH n so fo xs (jJ fs)) e = none := by rw [aQ, if_neg e3'] at he; exact he
  simp only[go_sem,oa,hne,azM,b1,b2,e1,e2,e3];refine aP fun q hq => ?_;have q1 : ¬ so = q := fun e0 => by rw [← e0, aQ, if_neg e1, aQ, if_neg b1, aQ, if_neg hne, cG] at hq; cases hq
  have q2 : ¬ fo = q := fun e0 => by rw [← e0, aQ, if_neg e2, aQ, if_neg b2, cG] at hq; cases hq
  have q3 : ¬ b = q := fun e0 => by rw [← e0, aQ, if_neg e3, cG] at hq; cases hq
  have q4 : ¬ e = q := fun e0 => by rw [← e0, cG] at hq; cases hq
  have hXq : (sH n so fo xs (jJ fs)) q = none := by rw [aQ, if_neg (fun h => q4 h.symm), aQ, if_neg (fun h => q3 h.symm)] at hq; exact hq
  simp only[go_sem];rw [aaX stI n (fun _ => (0, true)), agG];refine wp_loop (α := RS) (fun a => ((((PF.nil.set 0 (.ptr so 6 0 0)).set 4 (.osl b 1 0 n.nodes)).set 5 (.osl e 1 0 n.nodes)).set 6 (a.v))) (fun a => a.H) (fun a => wQ n xs (sH n so fo xs (jJ fs)) stI b e a ∧ a.d = a.k) (fun a => n.nodes - a.k)
    ⟨[n.source], 0, fun _ => (0, true), .osl q 1 0 1, q, (((sH n so fo xs (jJ fs)).set b (.rows 1 (bT (byL stI n [n.source] (fun _ => (0, true)))))).set e (.rows 1 (bD (seL n [n.source])))).set q (.rows 1 [[.int .i64 (n.source : Nat)]]), 0⟩
    ⟨⟨Vd hn xs _, Ww n xs _, aAF _, aAP _, GH (GH (GH (fun _ _ h => h) hb) hXe) hXq,
      by rw [aQ, if_neg q3, aQ, if_neg e3, cG], by rw [aQ, if_neg q4, cG], ⟨[[.int .i64 (n.source : Nat)]], 0, rfl, by rw [cG], by simp, rfl⟩, hXq, fun h => q3 h.symm, fun h => q4 h.symm⟩, rfl⟩ Lq (fun _ _ h => h) ?_
  rintro a ⟨hI, hdk⟩;obtain ⟨rs, off, hv, hq1, hq2, hq3⟩ := hI.hq;rw [aAA, aBR] at hv hq2 hq3;simp only[go_sem,br,oc,hv];by_cases hk : a.k < a.Q.length
  · have c0 : ((a.Q.length - a.k : Nat) : Int) > 0 := Om
    have hw : a.Q[a.k] < n.nodes := hI.seen.lt _ (aAG hk);have hwo : a.Q[a.k] < outL.length := by rw [hO.len]; exact hw
    have hwi : ((a.Q[a.k] : Nat) : Int) < (outL.length : Nat) := Om;have hc0 : (0 : Int) < ((a.Q.length - a.k : Nat) : Int) := c0;have hrs : rs[off]? = some [.int .i64 ((a.Q[a.k] : Nat) : Int)] := by
      have h5 : ((rs.drop off).take (a.Q.length - a.k))[0]? = (gE (a.Q.drop a.k))[0]? := by rw [hq3]
      rw [aCY, if_pos Om, aDO, aBP, aAT, aDO, aBP, aAH hk] at h5;exact h5
    obtain ⟨lv, hol, hlv⟩ := hSh.at hwo;have hlen : PV.tA lv = some (.int .i64 ((outL.getD a.Q[a.k] []).length : Nat)) := by
      rcases hlv with rfl | ⟨rfl, e⟩
      · simp [PV.tA]
      · rw [e]; rfl
    simp only[go_sem,c0];refine bN .nil dC a_ ?_;simp only[go_sem,oe,(hI.base _ _ hsoX),hc0,hq1,aBP,hrs,hol,hlen];have hLf := hO.few a.Q[a.k];have hLo := hO.only a.Q[a.k];have hLa := fun s h => hO.all s h;generalize hL : outL.getD a.Q[a.k] [] = L at *
    have hkn := XI hI.seen;refine wp_loop (α := RS × Nat) (fun c => (((((((PF.nil.set 0 (.ptr so 6 0 0)).set 4 (.osl b 1 0 n.nodes)).set 5 (.osl e 1 0 n.nodes)).set 6 (c.1.v)).set 49 (lv)).set 50 (.int .i64 (L.length : Nat))).set 51 (.int .i64 (c.2 : Nat)))) (fun c => c.1.H)
      (fun c => wQ n xs (sH n so fo xs (jJ fs)) stI b e c.1 ∧ c.1.d = a.k ∧ c.1.k = a.k ∧ c.1.Q[a.k]? = some a.Q[a.k] ∧ c.2 ≤ L.length ∧ ∀ s : cJ, s.1 < n.arcs.length → stI s ∈ L.take c.2 → 0 < eC n xs s → eP n s ∈ c.1.Q) (fun c => L.length - c.2) (a, 0)
      ⟨hI, hdk, rfl, aAH hk, aAP _, fun s _ h => by simp at h⟩ (by (repeat' (first|exact c_|refine d_ ?_ ?_)) <;> first|(simp only[go_sem,hv] <;> rfl)|rfl) (fun _ _ h => h) ?_
    rintro ⟨a', j⟩ ⟨hI', hd', hk', hQk, hj, azT⟩;dsimp only at hI' hd' hk' hQk hj azT;simp only[go_sem,bo,og];by_cases hlt : j < L.length
    · have ayT : (j : Int) < (L.length : Nat) := Om
      obtain ⟨s, hs1, hs2, hs3⟩ := hLo L[j] (aAG hlt);have hLj : (L.map fun n => [PV.int .i64 n])[j]? = some [.int .i64 (stI s)] := by rw [aAT, aAH hlt, hs3]; rfl
      have htake : L.take (j + 1) = L.take j ++ [stI s] := by rw [aCM hlt, hs3]
      have hwQ : a.Q[a.k] ∈ a'.Q := aCA hQk;have hto : eP n s < n.nodes := by have := hn.ends _ (aAG hs1);rw [rO hs1] at this;unfold eP;split <;> omega
      have hto' : ((eP n s : Nat) : Int) < (n.nodes : Nat) := Om;have hstI : ∀ s2 : cJ, stI s2 = stI s → s2 = s := fun s2 h => by
        obtain ⟨i2, b2⟩ := s2;obtain ⟨i1, b1⟩ := s;unfold stI at h;cases b1 <;> cases b2 <;> simp only [reduceIte, reduceCtorEq] at h ⊢
        · rw [show i2 = i1 by omega]
        · omega
        · omega
        · rw [show i2 = i1 by omega]
      have hlv' : lv = ints L := by
        rcases hlv with e | ⟨_, e⟩
        · exact e
        · rw [e] at hlt; exact absurd hlt (Nat.not_lt_zero _)
      subst hlv';simp only[go_sem,ayT,oi,hLj,oj];refine dS (hends n so fo xs (jJ fs) s hn hne hx hs1) Ev (hI'.base) ?_;rintro r H' ⟨rfl, rfl⟩ -;rw [PH.over_self _ (hI'.base)];have hmore : ∀ Q2 : List Nat, (∀ v ∈ a'.Q, v ∈ Q2) → (0 < eC n xs s → eP n s ∈ Q2) → ∀ s2 : cJ, s2.1 < n.arcs.length → stI s2 ∈ L.take (j + 1) → 0 < eC n xs s2 → eP n s2 ∈ Q2 := fun Q2 g1 g2 s2 g3 g4 g5 => by
        rw [htake] at g4;rcases aBH.1 g4 with g | g
        · exact g1 _ (azT s2 g3 g g5)
        · have := hstI s2 (aBL.1 g)
          subst this;exact g2 g5
      have hjw := wZz j;by_cases hr : 0 < eC n xs s
      · have hr' : ((eC n xs s : Nat) : Int) > 0 := Om
        have hsel : eP n s < (seL n a'.Q).length := by rw [j9]; exact hto
        have hbyl : eP n s < (byL stI n a'.Q a'.way).length := by rw [Ko]; exact hto
        have hbr := lO hsel;rw [Q0 hto] at hbr;have hir := UY hbyl;cases hc : a'.Q.contains (eP n s) with
        | true =>rw [hc] at hbr;have hin : eP n s ∈ a'.Q := List.contains_iff_mem.1 hc;simp only[go_sem,AK,hr',hto',hI'.he,hbr,aAX,xO,hjw];exact aL (a', j + 1) ⟨hI', hd', hk', hQk, hlt, hmore _ (fun _ h => h) fun _ => hin⟩ (by dsimp only; omega) Lq (fun _ _ h => h)
        | false =>
          rw [hc] at hbr;have hnin : eP n s ∉ a'.Q := fun h => by rw [List.contains_iff_mem.2 h] at hc; cases hc
          have hsQ : n.source ∈ a'.Q := by obtain ⟨t, ht⟩ := hI'.seen.first; rw [ht]; simp
          simp only[go_sem,AK,hr',hto',hI'.he,hI'.hb,hbr,hir,aAX,e3,e3',bs,bu,rQ,AG,anH,ajD hsQ hnin];refine wQ.step hn hI' ⟨hb, hXe, e3⟩ hs1 (by rw [hs2]; exact hwQ) hnin hr fun a2 hI2 hQ2 hk2 hd2 => ?_;simp only[go_sem,xO,hjw];have hQk2 : a2.Q[a.k]? = some a.Q[a.k] := by obtain ⟨l1, l2⟩ := aBD.1 hQk;rw [hQ2, aCB l1];exact hQk
          exact aL (a2, j + 1) ⟨hI2, hd2.trans hd', hk2.trans hk', hQk2, hlt, hmore _ (fun v h => by rw [hQ2]; exact aDR _ h) fun _ => by rw [hQ2]; simp⟩ (by dsimp only; omega) Lq (fun _ _ h => h)
      · have hr' : ¬ ((eC n xs s : Nat) : Int) > 0 := Om
        simp only[go_sem,AK,hr',xO,hjw];exact aL (a', j + 1) ⟨hI', hd', hk', hQk, hlt, hmore _ (fun _ h => h) fun h => absurd h hr⟩ (by dsimp only; omega) Lq (fun _ _ h => h)
    · have ayT : ¬ (j : Int) < (L.length : Nat) := Om
      obtain ⟨rs', off', hv', hq1', hq2', hq3'⟩ := hI'.hq;obtain ⟨l1, l2⟩ := aBD.1 hQk;rw [aAA, aBR, hk'] at hv' hq2' hq3';have hc1 : (1 : Int) ≤ ((a'.Q.length - a.k : Nat) : Int) := Om;simp only[go_sem,ayT,bv,hv',hc1,Int.le_refl];have hLt : L.take j = L := aAQ Om;have hdn : EG n xs a'.Q (a.k + 1) := Wv (by rw [← hd']; exact hI'.done) hQk fun s g1 g2 g3 => by refine azT s g1 ?_ g3;have := hLa s g1;rw [g2, hL] at this;rw [hLt];exact this
      have hfl : (gE (a'.Q.drop (a.k + 1))).length = a'.Q.length - a.k - 1 := by rw [aAA, aBR, Nat.sub_sub]
      have hsl := XI hI'.seen;refine aL ⟨a'.Q, a.k + 1, a'.way, .osl a'.q 1 (off' + 1) (a'.Q.length - a.k - 1), a'.q, a'.H, a.k + 1⟩ ⟨⟨hI'.seen, hdn, aAF _, by dsimp only; omega, hI'.base, hI'.hb, hI'.he, ⟨rs', off' + 1, by rw [hfl], hq1', by rw [hfl]; omega, ?_⟩, hI'.ne⟩, rfl⟩ (by dsimp only; omega) Lq (fun _ _ h => h);rw [hfl];have h7 := congrArg (List.drop 1) hq3';rw [List.drop_take, List.drop_drop] at h7;rw [h7];show List.drop 1 (List.map _ _) = _;rw [← List.map_drop, List.drop_drop]
  · have c0 : ¬ ((a.Q.length - a.k : Nat) : Int) > 0 := Om
    have hkk : a.k = a.Q.length := by have := hI.k; omega
    simp only[go_sem,c0,bw];have hfo : ∀ q, ¬ fo = q → ∀ rs, bF.frz q 1 rs (rJ n fo xs.length (jJ fs)) = rJ n fo xs.length (jJ fs) := fun q hq rs => by simp [bF.frz, PV.bP, hq]
    refine oR (vs := [.osl b 1 0 n.nodes, .osl e 1 0 n.nodes]) (.inr rfl) Ev ?_;refine Xi (H2 := sH n so fo xs (jJ fs)) hI.hb hI.he e3' (Sy _) (by unfold bT; rw [aAA, Ko]) (by rw [iW, j9]) ?_ ⟨a.Q, a.way, hI.seen, by rw [← hkk, ← hdk]; exact hI.done, rfl, rfl⟩;have flx : Flat (gE xs) := Flat.map xs fun x c hc q s rs => by rw [aBL] at hc;subst hc;rfl
    exact e_ (e_ a_ (zD (zD (hI.base _ _ hsoX) b1 (hfo b b2 _)) e1 (hfo e e2 _))) (zD (zD (hI.base _ _ hfoX) b2 (zC flx 1)) e2 (zC flx 1))
theorem aiD {n:cB} {Q:List Nat} {way:Nat→cJ} {v:Nat} (h:v<n.nodes) (j:v∈Q) (e:v≠n.source):((byL stI n Q way).map fun x=>[PV.int .i64 x])[v]?=some [.int .i64 (stI (way v))]:=by
 unfold byL;rw[aAT,aAT,aCV h,aBJ,aBJ,if_pos ⟨j,e⟩]
theorem room_le {n:cB} (l:fN n) {xs:List Nat} (u:sJ n xs) {s:cJ} (e:s.1<n.arcs.length):eC n xs s≤2147483647:=by
 have j:=(l.ends _ (aAG e)).2.2;rw[rO e] at j;have w:=u.le _ e;unfold eC;split<;>omega
theorem qy (xs:List Nat) (i x:Nat):(gE xs).set i [.int .i64 (x:Nat)]=gE (xs.set i x):=by
 exact (aDL ..).symm
theorem fY.in {n:cB} {xs:List Nat} (h:fY n xs):sJ n xs:=⟨h.len,fun i hi=>by
 have e:i<xs.length:=by rw[h.len]; exact hi
 have:=h.le i n.arcs[i] xs[i] (aAH hi) (aAH e);rw[rO hi] at this;rw[aAL,aAH e];exact this⟩
def aoI (n:cB) (l fo:Nat) (xs:List Nat) (out:PV) (r:PV) (H:PH):Prop :=
 ∃ (j:List Nat) (e:Nat),0<e∧fY n j∧iJ n j=iJ n xs+e∧r=.int .i64 (e:Nat)∧H=sH n l fo j out
theorem alR {C:Ctx} (Z:∀ (n:cB) (l fo:Nat) (xs:List Nat) (out:PV) (s:cJ),fN n→¬ l=fo→sJ n xs→s.1<n.arcs.length→aG C 294 [.ptr l 6 0 0,.int .i64 (stI s)] (sH n l fo xs out) (fun r H'=>r=.tup [.int .i64 ((eP n s:Nat):Int),.int .i64 ((eC n xs s:Nat):Int)]∧H'=sH n l fo xs out))
  (y:∀ (n:cB) (l fo:Nat) (xs:List Nat) (out:PV) (s:cJ),fN n→¬ l=fo→s.1<n.arcs.length→aG C 295 [.ptr l 6 0 0,.int .i64 (stI s)] (sH n l fo xs out) (fun r H'=>r=.int .i64 ((dE n s:Nat):Int)∧H'=sH n l fo xs out))
  (n:cB) (I:fN n) (l fo:Nat) (w:¬ l=fo) (xs:List Nat) (hF:fY n xs) (out:PV) (Q:List Nat) (way:Nat→cJ) (hS:nE n xs Q way) (γ:n.sink∈Q) :
  MA.wp C (aT adV.res (aoI n l fo xs out)) (PF.args [.ptr l 6 0 0,ints (byL stI n Q way)]) (sH n l fo xs out):=by
 have A:¬ fo=l:=fun e=>w e.symm;have hx:=hF.in;obtain⟨L0,W,-⟩:=Wl hS _ n.sink rfl γ;simp only[go_sem,MA,N3,adV,N4,N5,w,A];refine wp_loop (α:=Nat × List cJ × List cJ × Int) (fun c=>((((PF.nil.set 0 (.ptr l 6 0 0)).set 1 (ints (byL stI n Q way))).set 5 (.int .i64 c.2.2.2)).set 6 (.int .i64 (c.1:Nat)))) (fun _=>sH n l fo xs out)
  (fun c=>c.1∈Q∧tV n Q way c.1 c.2.1∧c.2.2.1++c.2.1=L0∧(c.2.2.1=[]→c.2.2.2=-1)∧(c.2.2.1≠[]→0<c.2.2.2∧c.2.2.2≤2147483647∧∀ s∈c.2.2.1,c.2.2.2≤eC n xs s)) (fun c=>c.2.1.length) (n.sink,L0,[],-1)
  ⟨γ,W,rfl,fun _=>rfl,fun h=>absurd rfl h⟩ Lq (fun _ _ h=>h) ?_
 rintro⟨v,L,P,z⟩ ⟨hv,hB,O,κ,δ⟩;dsimp only at hv hB O κ δ;simp only[go_sem,N2,N6,w,A];have σ:=hS.lt v hv;have χ:(v:Int)<(n.nodes:Nat):=Om;by_cases R:v=n.source
 ·have hL:L=[]:=by
   cases hB with
   | nil=>rfl
   | cons _ h _=>exact absurd R h
  subst hL;rw[aBU] at O;subst O;have Y:(v:Int)=n.source:=Om;have ξ:P≠[]:=by
   rintro rfl;have:=I.apart;generalize hk:n.sink=k at *
   cases W;exact this rfl
  obtain⟨z0,z1,F⟩:=δ ξ;obtain⟨j,rfl⟩:∃ j:Nat,z=j:=⟨z.toNat,by omega⟩;simp only[go_sem,cM Y,N8,w,A];refine wp_loop (α:=Nat × List cJ × List Nat) (fun c=>((((PF.nil.set 0 (.ptr l 6 0 0)).set 1 (ints (byL stI n Q way))).set 5 (.int .i64 (j:Nat))).set 9 (.int .i64 (c.1:Nat)))) (fun c=>sH n l fo c.2.2 out)
   (fun c=>c.1∈Q∧tV n Q way c.1 c.2.1∧YD n xs c.2.2 j c.1 c.2.1∧∀ s∈c.2.1,j≤eC n xs s) (fun c=>c.2.1.length) (n.sink,P,xs)
   ⟨γ,W,Ye hF j P,fun s M=>by have:=F s M; omega⟩ Lq (fun _ _ h=>h) ?_
  rintro⟨u,L,x⟩ ⟨hu,J,hM,E⟩;dsimp only at hu J hM E;simp only[go_sem,Ck,Cl,w,A];have ρ:=hS.lt u hu;have φ:(u:Int)<(n.nodes:Nat):=Om;by_cases N:u=n.source
  ·have hL:L=[]:=by
    cases J with
    | nil=>rfl
    | cons _ h _=>exact absurd N h
   subst hL;subst N;obtain⟨k1,k2⟩:=aeI I hF hM;simp only[go_sem,cM (show (n.source:Int)=n.source from rfl),Cp];exact aV (vs:=[.int .i64 (j:Nat)]) (.inr rfl) (sH n l fo x out) rfl (fun _ _ h=>h) ⟨x,j,by omega,k1,k2,rfl,rfl⟩
  ·have ε:¬ (u:Int)=n.source:=Om;have ν:=J;cases J with
   | nil=>exact absurd rfl N
   | @cons _ L _ _ J =>
   have ο:=E _ (List.mem_cons_self ..);obtain⟨g1,g2,g3⟩:=aeJ hS hM ν hu ο;obtain⟨s1,s2,s3,s4,s5⟩:=hS.way u hu N;have β:=hM.same _ (List.mem_cons_self ..);have B:=aiD (way:=way) ρ hu N;generalize M:way u=s at *
   obtain⟨i,S⟩:=s;have s1:i<n.arcs.length:=s1;have ι:i<x.length:=by rw[hM.len]; exact s1
   have θ:(i:Int)<(x.length:Nat):=Om;have τ:=room_le I hx (s:=(i,S)) s1;have ψ:=hx.le i s1;have X:=(I.ends _ (aAG s1)).2.2;rw[rO s1] at X;have hk:=I.num;dsimp only at β;have η:((sH n l fo x out).set fo (.rows 1 (gE (push j x (i,S)))))=sH n l fo (push j x (i,S)) out:=by show (((PH.nil.set l (rJ n fo x.length out)).set fo _).set fo _)=(PH.nil.set l (rJ n fo (push j x (i,S)).length out)).set fo _;rw[PH.set_set,XD]
   have V:((PH.nil.set l (rJ n fo x.length out)).set fo (.rows 1 (gE (push j x (i,S)))))=sH n l fo (push j x (i,S)) out:=by show _=(PH.nil.set l (rJ n fo (push j x (i,S)).length out)).set fo _;rw[XD]
   have U:∀ s∈L,j≤eC n xs s:=fun s M=>E s (aDM _ M);cases S with
   | true =>
    have e0:stI (i,true)=(i:Int):=rfl;have hp:push j x (i,true)=x.set i (x.getD i 0+j):=rfl;have e2:eC n xs (i,true)=(dM n i).cap-xs.getD i 0:=rfl;have ew:IntKind.i64.wrap (((x.getD i 0:Nat):Int)+((j:Nat):Int))=((x.getD i 0+j:Nat):Int):=by rw[wrap_i64 Om Om]; omega
    simp only[go_sem,dP ε,VC,B,VD,e0,show (i:Int)≥0 by omega,Cm,w,A,θ,zM ι,ew,qy,aAX];rw[← hp]
    first | rw[η] | rw[V]
    simp only[go_sem,VE,B];refine dS (y n l fo _ out (i,true) I w s1) rfl (fun _ _ h=>h) ?_;rintro r H' ⟨rfl,rfl⟩ -;rw[PH.over_self _ (fun _ _ h=>h)];simp only[go_sem];exact aL (dE n (i,true),L,push j x (i,true)) ⟨g1,g2,g3,U⟩ (by simp) Lq (fun _ _ h=>h)
   | false =>
    have e0:stI (i,false)=-1-(i:Int):=rfl;have hp:push j x (i,false)=x.set i (x.getD i 0-j):=rfl;have e2:eC n xs (i,false)=xs.getD i 0:=rfl;have ei:IntKind.i64.wrap (-1-(-1-(i:Int)))=(i:Int):=by rw[wrap_i64 Om Om]; omega
    have ew:IntKind.i64.wrap (((x.getD i 0:Nat):Int)-((j:Nat):Int))=((x.getD i 0-j:Nat):Int):=by rw[wrap_i64 Om Om]; omega
    simp only[go_sem,dP ε,VC,B,VD,e0,show ¬ (-1-(i:Int))≥0 by omega,Cn,ei,w,A,θ,zM ι,ew,qy,aAX];rw[← hp]
    first | rw[η] | rw[V]
    simp only[go_sem,VE,B,← e0];refine dS (y n l fo _ out (i,false) I w s1) rfl (fun _ _ h=>h) ?_;rintro r H' ⟨rfl,rfl⟩ -;rw[PH.over_self _ (fun _ _ h=>h)];simp only[go_sem];exact aL (dE n (i,false),L,push j x (i,false)) ⟨g1,g2,g3,U⟩ (by simp) Lq (fun _ _ h=>h)
 ·have Y:¬ (v:Int)=n.source:=Om;cases hB with
  | nil=>exact absurd rfl R
  | @cons _ L _ _ hB =>
  obtain⟨s1,s2,s3,s4,s5⟩:=hS.way v hv R;have B:=aiD (way:=way) σ hv R;have υ:=room_le I hx s1;simp only[go_sem,dP Y,N7,B];refine dS (Z n l fo xs out (way v) I w hx s1) rfl (fun _ _ h=>h) ?_;rintro r H' ⟨rfl,rfl⟩ -;rw[PH.over_self _ (fun _ _ h=>h)];have K:∀ F:Int,0<F→F≤eC n xs (way v)→(∀ s∈P,F≤eC n xs s)→dE n (way v)∈Q∧tV n Q way (dE n (way v)) L∧(P++[way v])++L=L0∧(P++[way v]=[]→F=-1)∧(P++[way v]≠[]→0<F∧F≤2147483647∧∀ s∈P++[way v],F≤eC n xs s):=fun F h0 h1 h2 =>
   ⟨s4,hB,by rw[aBE]; exact O,fun h=>by simp at h,fun _=>⟨h0,by omega,fun s M=>by
    rcases aBH.1 M with g | g
    ·exact h2 s g
    ·rw[aBL] at g; subst g; exact h1⟩⟩
  by_cases hP:P=[]
  ·have hz:=κ hP;subst hz;simp only[go_sem,PZ,i5,QA,B];refine dS (y n l fo xs out (way v) I w s1) rfl (fun _ _ h=>h) ?_;rintro r H' ⟨rfl,rfl⟩ -;rw[PH.over_self _ (fun _ _ h=>h)];simp only[go_sem];exact aL (dE n (way v),L,P++[way v],((eC n xs (way v):Nat):Int)) (K ((eC n xs (way v):Nat):Int) Om (Int.le_refl _) fun s M=>by rw[hP] at M; cases M) (by simp) Lq (fun _ _ h=>h)
  ·obtain⟨z0,z1,F⟩:=δ hP;have μ:¬ z<0:=Om;by_cases ζ:((eC n xs (way v):Nat):Int)<z
   ·simp only[go_sem,PZ,μ,ζ,i5,QA,B];refine dS (y n l fo xs out (way v) I w s1) rfl (fun _ _ h=>h) ?_;rintro r H' ⟨rfl,rfl⟩ -;rw[PH.over_self _ (fun _ _ h=>h)];simp only[go_sem];exact aL (dE n (way v),L,P++[way v],((eC n xs (way v):Nat):Int)) (K ((eC n xs (way v):Nat):Int) Om (Int.le_refl _) fun s M=>by have:=F s M; omega) (by simp) Lq (fun _ _ h=>h)
   ·simp only[go_sem,PZ,μ,ζ,QA,B];refine dS (y n l fo xs out (way v) I w s1) rfl (fun _ _ h=>h) ?_;rintro r H' ⟨rfl,rfl⟩ -;rw[PH.over_self _ (fun _ _ h=>h)];simp only[go_sem];exact aL (dE n (way v),L,P++[way v],z) (K z z0 Om F) (by simp) Lq (fun _ _ h=>h)


theorem wQ.new {n:cB} {xs:List Nat} {X:PH} {u:cJ→Int} {b e:Nat} {a:RS} (h:wQ n xs X u b e a) {p:Nat} (A:a.H p=none) (y:bF):wQ n xs X u b e { a with H:=a.H.set p y }:=by
 have l:∀ o x,a.H o=some x→(a.H.set p y) o=some x:=fun o x j=>by rw[aQ,if_neg (fun w=>by subst w; rw[A] at j; cases j)]; exact j
 exact⟨h.seen,h.done,h.dk,h.k,fun o x j=>l o x (h.base o x j),l _ _ h.hb,l _ _ h.he,h.hq.ext fun x B=>l _ x B,h.ne⟩
theorem wQ.box {n:cB} {xs:List Nat} {X:PH} {w:cJ→Int} {b e:Nat} {a:RS} (h:wQ n xs X w b e a) {p:Nat} (B:a.H p=none) (y:bF):wQ n xs (X.set p y) w b e { a with H:=a.H.set p y }:=by
 have u:∀ o x,a.H o=some x→(a.H.set p y) o=some x:=fun o x j=>by rw[aQ,if_neg (fun l=>by subst l; rw[B] at j; cases j)]; exact j
 have hq:a.q≠p:=fun l=>by obtain⟨rs,F,_,A,_⟩:=h.hq;rw[l,B] at A; cases A
 refine⟨h.seen,h.done,h.dk,h.k,fun o x j=>?_,u _ _ h.hb,u _ _ h.he,h.hq.ext fun x E=>u _ x E,?_,h.ne.2⟩
 ·show (a.H.set p y) o=some x;rw[aQ] at j ⊢;by_cases l:o=p
  ·rw[if_pos l] at j ⊢; exact j
  ·rw[if_neg l] at j ⊢; exact h.base o x j
 ·rw[aQ,if_neg hq]; exact h.ne.1
def vf (n:cB) (r:PV) (H:PH):Prop :=
 ∃ xs S,fY n xs∧iJ n xs=dA S n.arcs∧S n.source=true∧S n.sink=false∧r=.tup [.sl 1 (gE xs),.int .i64 (iJ n xs),.sl 1 (bD ((aAB n.nodes).map S)),.int .i64 0]∧H=PH.nil
def aaZ (n:cB):Nat:=dA (fun v=>decide (v=n.source)) n.arcs
theorem ahO {n:cB} (j:fN n) {xs:List Nat} (h:fY n xs):iJ n xs≤aaZ n:=h.X3 j (by simp) (by simpa using fun e=>j.apart e.symm)
theorem HX (m:Nat):aAC m [PV.int .i64 0]=gE (aAC m 0):=by
 show _=List.map _ (aAC m 0);rw[List.map_replicate]; rfl
theorem WI:∀ (ps:WPs) {H:PH} {B:List BX} {J:PV} (y:List (List PV)) (l:List (List Int)),kU y l→aK H B ((J,1,y++dJ ps)::gU ps)→(∀ b∈B,∀ q∈cY (gU ps),∀ s rs,bF.frz q s rs b.2=b.2) →
  ∃ (φ:PV→PV) (I:PH) (A:List (List PV)),kU A (l++wls ps)∧aK I B [(J,1,A)]∧(∀ u,Fx u→φ u=u)∧∀ F,iU F H (DE φ F) I
 | [],H,B,J,y,l,K,h,_=>⟨id,H,y,by rw[show wls []=[] from rfl,aBU]; exact K,by rw[show y++dJ []=y from aBU _] at h; exact h,fun _ _=>rfl,fun F=>by
   have:DE id F=F:=funext fun i=>by rw[sE,Option.map_id]; rfl
   rw[this]; exact .refl _ _⟩
 | (v,w)::ps,H,B,J,y,l,K,h,hB=>by
  have eo:∀ u:PV,y++[[u]]++dJ ps=y++[u]::dJ ps:=fun u=>by rw[aBE]; rfl
  have S:l++[w]++wls ps=l++wls ((v,w)::ps):=by rw[aBE]; rfl
  have ho:bY H 1 v (bT w):=h.own 1 rfl;have E:∀ q,q∈cY (gU ps)→q∈cY (gU ((v,w)::ps)):=fun q hq=>by obtain⟨x,hx,e⟩:=List.mem_filterMap.1 hq;exact List.mem_filterMap.2 ⟨x,aDM _ hx,e⟩
  rcases ho with ⟨h1,rfl⟩ | ⟨q,rs,rfl,_⟩
  ·have hw:w=[]:=List.map_eq_nil_iff.1 h1;have h2:=h.ET 1;obtain⟨φ,I,A,k1,k2,O,R⟩:=WI ps (y++[[.aA]]) (l++[w]) (K.snoc (.inr ⟨rfl,hw⟩)) (by rw[eo]; exact h2) (fun b hb q hq=>hB b hb q (E q hq));rw[S] at k1;exact⟨φ,I,A,k1,k2,O,R⟩
  ·obtain⟨rs,z1,z2,z3,z4,W⟩:=h.frz 1 rfl;have N:q∈cY (gU ((.osl q 1 0 (bT w).length,w)::ps)):=List.mem_filterMap.2 ⟨_,List.mem_cons_self ..,rfl⟩;have Y:(B.map fun b=>(b.1,b.2.frz q 1 rs))=B:=by
    conv=>rhs; rw[← List.map_id B]
    refine aCC fun b hb=>?_;rw[hB b hb q N 1 rs]; rfl
   have yp:∀ p∈ps,PV.bP q 1 rs p.1=p.1:=fun p M=>by obtain⟨j,hj⟩:=List.mem_iff_getElem?.1 M;exact z4 (j+2) (p.1,1,bT p.2) Om (DT hj)
   have er:(y++dJ ((.osl q 1 0 (bT w).length,w)::ps)).map (fun r=>r.map (PV.bP q 1 rs))=y++[[ints w]]++dJ ps:=by
    rw[aBO,K.flat,aBE];congr 1;show [PV.bP q 1 rs (.osl q 1 0 (bT w).length)]::(dJ ps).map _=_;rw[z2];have:(dJ ps).map (fun r=>r.map (PV.bP q 1 rs))=dJ ps:=by unfold dJ;rw[aDE];refine aCC fun p M=>?_;show [PV.bP q 1 rs p.1]=_;rw[yp p M]
    rw[this];rfl
   have Z:(gU ps).map (fun x=>(x.1,x.2.1,x.2.2.map fun r=>r.map (PV.bP q 1 rs)))=gU ps:=by unfold gU;rw[aDE];refine aCC fun p _=>?_;show (p.1,1,(bT p.2).map fun r=>r.map (PV.bP q 1 rs))=_;rw[show (bT p.2).map (fun r=>r.map (PV.bP q 1 rs))=bT p.2 from Flat.map p.2 (fun x c U q s rs=>by rw[aBL] at U; subst U; rfl) q 1 rs]
   have z6:aK (H.frz q 1 rs) B ((J,1,y++[[ints w]]++dJ ps)::gU ps):=by rw[Y] at W;have X:aK (H.frz q 1 rs) B ((J,1,(y++dJ ((.osl q 1 0 (bT w).length,w)::ps)).map (fun r=>r.map (PV.bP q 1 rs)))::(gU ps).map (fun x=>(x.1,x.2.1,x.2.2.map fun r=>r.map (PV.bP q 1 rs)))):=W;rw[er,Z] at X;exact X
   obtain⟨φ,I,A,k1,k2,O,R⟩:=WI ps (y++[[ints w]]) (l++[w]) (K.snoc (.inl rfl)) z6 (fun b hb q hq=>hB b hb q (E q hq));rw[S] at k1;refine⟨fun u=>φ (PV.frz q 1 rs u),I,A,k1,k2,fun u V=>?_,fun F=>.step q z1 ?_⟩
   ·simp only;rw[V,O u V]
   ·have:DE (fun u=>φ (PV.frz q 1 rs u)) F=DE φ (F.frz q 1 rs):=funext fun i=>by rw[sE,sE,kF,Option.map_map];rfl
    rw[this];exact R _
theorem Kf {C:Ctx} {c:aE} {K:cK} {F l:PF} {H u:PH} (B:iU F H l u) (h:aE.wp C (.loop c) K l u):aE.wp C (.loop c) K F H:=by
 obtain⟨α,x,Hs,y,m,A,w,H2,j,e⟩:=h;exact⟨α,x,Hs,y,m,A,w,H2,B.trans j,e⟩
theorem V2 {φ:PV→PV} (j:∀ u,Fx u→φ u=u) {F:PF} {i o s:Nat} {rs:List (List PV)} {u:PV} (h:F i=some u) (e:Fx u):((DE φ F).frz o s rs) i=some u:=by
 rw[kF,sE,h,aBJ,aBJ,j u e,e]
theorem aK.Ur {H:PH} {B:List BX} {L:List LI} (h:aK H B L):∀ N:Nat,aK H B (L++aAC N (.aA,1,[]))
 | 0=>by rw[List.replicate_zero,aBU]; exact h
 | N+1=>by rw[List.replicate_succ',← aBE];exact (h.Ur N).mB 1
structure wP (n:cB) (T:cJ→Prop) (c:Nat) (ws:List (List Int)):Prop where
 len:ws.length=n.nodes
 all:∀ s:cJ,T s→stI s∈ws.getD (dE n s) []
 only:∀ v c,c∈ws.getD v []→∃ s:cJ,T s∧dE n s=v∧c=stI s
 few:∀ v,(ws.getD v []).length≤c
theorem wP.add {n:cB} {T:cJ→Prop} {c:Nat} {ws:List (List Int)} (h:wP n T c ws) {s0:cJ} (l:dE n s0<n.nodes) :
  wP n (fun s=>T s∨s=s0) (c+1) (ws.set (dE n s0) (ws.getD (dE n s0) []++[stI s0])):=by
 have E:dE n s0<ws.length:=by rw[h.len]; exact l
 have j:∀ v,(ws.set (dE n s0) (ws.getD (dE n s0) []++[stI s0])).getD v []=if v=dE n s0 then ws.getD v []++[stI s0] else ws.getD v []:=fun v=>by
  rw[aAL,List.getElem?_set];by_cases e:v=dE n s0
  ·subst e;rw[if_pos rfl,if_pos E,if_pos rfl]; rfl
  ·rw[if_neg (fun B=>e B.symm),if_neg e,← aAL]
 refine⟨by rw[aBW]; exact h.len,fun s l=>?_,fun v x u=>?_,fun v=>?_⟩
 ·rw[j];rcases l with l | rfl
  ·split
   ·exact aDR _ (h.all s l)
   ·exact h.all s l
  ·rw[if_pos rfl]; simp
 ·rw[j] at u;split at u
  ·rename_i e;rcases aBH.1 u with g | g
   ·obtain⟨s,w,y,A⟩:=h.only v x g;exact⟨s,.inl w,y,A⟩
   ·rw[aBL] at g;exact⟨s0,.inr rfl,e.symm,g⟩
  ·obtain⟨s,w,y,A⟩:=h.only v x u;exact⟨s,.inl w,y,A⟩
 ·have:=h.few v;rw[j];split
  ·rw[aAE,aAI]; omega
  ·omega
theorem wP.zero (n:cB):wP n (fun s=>s.1<0) 0 (aAC n.nodes []):=by
 have:∀ v,(aAC n.nodes ([]:List Int)).getD v []=[]:=fun v=>by rw[aAL,List.getElem?_replicate];split<;>rfl
 exact⟨by simp,fun s j=>absurd j (Nat.not_lt_zero _),fun v c e=>(by rw[this] at e; cases e),fun v=>by rw[this]; exact aAF _⟩
theorem wP.ok {n:cB} (e:fN n) {ws:List (List Int)} (h:wP n (fun s=>s.1<n.arcs.length) (2*n.arcs.length) ws):ue n ws :=
 ⟨h.len,h.all,h.only,fun v=>by have:=h.few v; have:=e.num; omega⟩
theorem kn (ps:WPs) (i:Nat) (p:PV × List Int):wls (ps.set i p)=(wls ps).set i p.2:=aDL ..
theorem kk {ps:WPs} {i:Nat} {p:PV × List Int} (h:ps[i]?=some p):(wls ps).getD i []=p.2:=by
 unfold wls;rw[aAL,aAT,h]; rfl
theorem ajF {n:cB} (e:fN n):aaZ n≤2500*2147483647:=by
 have j:=gv (fun v=>decide (v=n.source)) (M:=2147483647) (l:=n.arcs) fun a u=>(e.ends a u).2.2;exact aCX j (aBC 2147483647 e.num)
structure aoN where
 k:Nat
 ps:WPs
 H:PH
abbrev aiG (n:cB) (j fo e:Nat):List BX:=[(fo,.rows 1 (gE (aAC n.arcs.length 0))),(j,rJ n fo n.arcs.length (.osl e 1 0 n.nodes))]
structure arP (n:cB) (so fo oo:Nat) (a:aoN):Prop where
 k:a.k≤n.arcs.length
 len:a.ps.length=n.nodes
 heap:aK a.H (aiG n so fo oo) (oZ (.osl oo 1 0 n.nodes) a.ps)
 out:wP n (fun s=>s.1<a.k) (2*a.k) (wls a.ps)
theorem Pz {H:PH} {B:List BX} {u N:Nat} {ps:WPs} (h:aK H B (oZ (.osl u 1 0 N) ps)) (E:ps.length=N) {i:Nat} (hi:i<N):∃ rs v w,H u=some (.rows 1 rs)∧ps[i]?=some (v,w)∧rs[i]?=some [v]:=by
 obtain⟨rs,x,y,A,j⟩:=h.outer.id rfl;rw[NM] at y A j;have e:i<ps.length:=Om;refine⟨rs,(ps[i]).1,(ps[i]).2,x,aAH e,?_⟩;have h5:=congrArg (fun l=>l[i]?) j
 try simp only at h5
 rw[aCY,if_pos e] at h5;rw[h5];exact zL (aAH e)
theorem Yk {C:Ctx} (Y:∀ n:cB,fN n→aG C 292 [.agg n.cells] .nil (aM (.bool true)))
  (X:∀ (n:cB) (j fo:Nat) (xs:List Nat) (y:List (List PV)) (ε:List (List Int)),fN n→¬ j=fo→sJ n xs→kU y ε→ue n ε→aG C 296 [.ptr j 6 0 0] (sH n j fo xs (jJ y)) (Wi n j fo xs (jJ y)))
  (κ:∀ (n:cB) (j fo:Nat) (xs:List Nat) (out:PV) (Q:List Nat) (way:Nat→cJ),fN n→¬ j=fo→fY n xs→nE n xs Q way→n.sink∈Q→aG C 297 [.ptr j 6 0 0,ints (byL stI n Q way)] (sH n j fo xs out) (aoI n j fo xs out))
  (n:cB) (J:fN n):BR.wp C (aT D2.res (vf n)) (PF.args [.agg n.cells]) .nil:=by
 have hm:=J.num;have j':=J.few;have μ:(n.arcs.length:Int)*((8:Nat):Int)≤140737488355328:=Om;have ν:(n.arcs.length:Int)≤9223372036854775807:=Om;have ξ:(n.nodes:Int)*((24:Nat):Int)≤140737488355328:=Om;have ο:(n.nodes:Int)≤9223372036854775807:=Om;have o':(n.sink:Int)<(n.nodes:Nat):=by have:=J.sink; omega
 simp only[go_sem,BR,oq,D2,ot];refine aB (Y n J) rfl ?_;simp only[go_sem];refine bN .nil dC a_ ?_;simp only[go_sem,ou,aAA,μ,ν,ξ,ο];refine aP fun fo Ω=>?_;simp only[go_sem,μ,ν,ξ,ο];refine aP fun u τ=>?_;simp only[go_sem];refine aP fun j A=>?_;have V:¬ j=fo:=fun e=>by
  rw[e,aQ] at A;split at A
  ·cases A
  ·rw[cG] at A;cases A
 simp only[go_sem,ov,aAA];rw[HX];have h0:aK PH.nil ([]:List BX) ([]:List LI):=aK.nil;have h1:=(h0.new Ω (.rows 1 (gE (aAC n.arcs.length 0))));rw[HX] at τ;have S:=(h1.jm (s:=1) (rows:=aAC n.nodes [.aA]) τ);rw[HX] at A;have h3:=(S.new A (rJ n fo n.arcs.length (.osl u 1 0 n.nodes)));have h4:=h3.Ur n.nodes;have e4:([]++[((.osl u 1 0 (aAC n.nodes [PV.aA]).length:PV),1,aAC n.nodes [PV.aA])]:List LI)++aAC n.nodes (.aA,1,[])=oZ (.osl u 1 0 n.nodes) (aAC n.nodes (.aA,[])):=by unfold oZ dJ gU;rw[List.map_replicate,List.map_replicate,aEA]; rfl
 rw[e4] at h4;refine wp_loop (α:=aoN) (fun a=>(((((PF.nil.set 1 (.dH n.cells)).set 6 (.ptr j 6 0 0)).set 26 (gp n.arcs)).set 27 (.int .i64 (n.arcs.length:Nat))).set 28 (.int .i64 (a.k:Nat)))) (fun a=>a.H) (arP n j fo u) (fun a=>n.arcs.length-a.k) ⟨0,aAC n.nodes (.aA,[]),_⟩
  ⟨aAP _,aEA,h4,by
   have:wls (aAC n.nodes ((.aA,[]):PV × List Int))=aAC n.nodes []:=by unfold wls; rw[List.map_replicate]
   show wP n _ _ (wls (aAC n.nodes ((.aA,[]):PV × List Int)));rw[this];exact wP.zero n⟩ Lq (fun _ _ h=>h) ?_
 rintro⟨k,ps,H⟩ ⟨hk,ζ,hH,hO⟩;dsimp only at hk ζ hH hO;simp only[go_sem,bz,ow];by_cases hlt:k<n.arcs.length
 ·have M:(k:Int)<(n.arcs.length:Nat):=Om;obtain⟨z1,z2,z3⟩:=J.ends _ (aAG hlt);rw[rO hlt] at z1 z2 z3;have Δ:(((dM n k).src:Nat):Int)<(n.nodes:Nat):=Om;have Θ:(((dM n k).dst:Nat):Int)<(n.nodes:Nat):=Om;have b':=wZz k;have c':IntKind.i64.wrap (-1-(k:Int))=-1-(k:Int):=wrap_i64 Om Om;simp only[go_sem,M,oz,tY hlt];refine aP fun p hp=>?_;have k':H fo=some _:=hH.at 0 rfl;have O:H j=some _:=hH.at 1 rfl;have p1:¬ j=p:=fun e0=>by rw[e0,hp] at O; cases O
  have Γ:¬ p=j:=fun e0=>p1 e0.symm;have F:=hH.new hp (.rows 4 [(dM n k).cells]);obtain⟨rs,v,w,g1,g2,g3⟩:=Pz F ζ z1;have I:(wls ps).getD (dM n k).src []=w:=kk g2;have Z:=hO.few (dM n k).src;rw[I] at Z;have ω:(H.set p (.rows 4 [(dM n k).cells])) j=some _:=F.at 1 rfl;have υ:(H.set p (.rows 4 [(dM n k).cells])) p=some _:=F.at 2 rfl;have op:¬ u=p:=fun e0=>by rw[e0,υ] at g1; injection g1 with g1; injection g1 with g1; cases g1
  simp only[go_sem];refine bN ((PH.nil.set j (rJ n fo n.arcs.length (.osl u 1 0 n.nodes))).set p (.rows 4 [(dM n k).cells])) dC (e_ (e_ a_ ω) υ) ?_;rw[aQ,if_neg op] at g1;simp only[go_sem,o9,p1,Γ,op,O,Δ,g1,aAX,g3];refine F.aiM (src:=[(k:Int)]) g2 (by simp[eJ,bT]) (by unfold roomFor; simp only[aAI,maxLen]; omega) (by simp) fun q H2 S=>?_;refine⟨e_ (e_ a_ (S.at 1 rfl)) (S.at 2 rfl),?_⟩
  try simp only[go_sem,Δ]
  refine bN .nil dC a_ ?_;obtain⟨rs2,j1,j2,j3,j4⟩:=S.Zu;have W:rs2[(dM n k).src]?=some [v]:=by
   have h5:=congrArg (fun l=>l[(dM n k).src]?) j3
   try simp only at h5
   rw[aCY,if_pos z1] at h5;rw[h5]; exact zL g2
  simp only[go_sem,pd,j1,aAX,W];refine⟨a_,?_⟩;generalize γ:ps.set (dM n k).src (.osl q 1 0 (w++[(k:Int)]).length,w++[(k:Int)])=K at *
  have β:K.length=n.nodes:=by rw[← γ,aBW]; exact ζ
  have θ:wP n (fun s=>s.1<k∨s=(k,true)) (2*k+1) (wls K):=by have:=hO.add (s0:=(k,true)) z1;rw[show dE n (k,true)=(dM n k).src from rfl,I] at this;rw[← γ,kn];exact this
  generalize H2.set u (.rows 1 (rs2.set (dM n k).src [.osl q 1 0 (w++[(k:Int)]).length]))=H3 at *
  clear j1 j2 j3 W S g1 g2 g3 I Z;obtain⟨rs,v2,w2,g1,g2,g3⟩:=Pz j4 β z2;have I:(wls K).getD (dM n k).dst []=w2:=kk g2;have Z:=θ.few (dM n k).dst;rw[I] at Z;have δ:H3 j=some _:=j4.at 1 rfl;have χ:H3 p=some _:=j4.at 2 rfl;refine bN ((PH.nil.set j (rJ n fo n.arcs.length (.osl u 1 0 n.nodes))).set p (.rows 4 [(dM n k).cells])) dC (e_ (e_ a_ δ) χ) ?_;simp only[go_sem,pe,p1,Γ,op,δ,χ,Θ,g1,aAX,g3,c'];refine j4.aiM (src:=[-1-(k:Int)]) g2 (by simp[eJ,bT]) (by unfold roomFor; simp only[aAI,maxLen]; omega) (by simp) fun q2 H4 h4=>?_;refine⟨e_ (e_ a_ (h4.at 1 rfl)) (h4.at 2 rfl),?_⟩
  try simp only[go_sem,Θ]
  refine bN .nil dC a_ ?_;obtain⟨rs2,i1,i2,i3,i4⟩:=h4.Zu;have W:rs2[(dM n k).dst]?=some [v2]:=by
   have h5:=congrArg (fun l=>l[(dM n k).dst]?) i3
   try simp only at h5
   rw[aCY,if_pos z2] at h5;rw[h5]; exact zL g2
  simp only[go_sem,b9,i1,aAX,W];refine⟨a_,?_⟩;simp only[go_sem,ca,b'];have U:wP n (fun s=>(s.1<k∨s=(k,true))∨s=(k,false)) (2*k+1+1) (wls (K.set (dM n k).dst (.osl q2 1 0 (w2++[-1-(k:Int)]).length,w2++[-1-(k:Int)]))):=by have:=θ.add (s0:=(k,false)) z2;rw[show dE n (k,false)=(dM n k).dst from rfl,I] at this;rw[kn];exact this
  refine aL ⟨k+1,K.set (dM n k).dst (.osl q2 1 0 (w2++[-1-(k:Int)]).length,w2++[-1-(k:Int)]),_⟩ ⟨hlt,by show (K.set _ _).length=_; rw[aBW]; exact β,aK.dropLast (B:=aiG n j fo u) i4,⟨U.len,fun s hs=>U.all s ?_,fun v c E=>?_,fun v=>by have:=U.few v; show _≤2*(k+1); omega⟩⟩ (by show n.arcs.length-(k+1)<n.arcs.length-k; omega) Lq (fun _ _ h=>h)
  ·obtain⟨i,b⟩:=s;have hs:i<k+1:=hs;rcases aAV i k with c | c
   ·exact .inl (.inl c)
   ·have:i=k:=Om;subst this;cases b
    ·exact .inr rfl
    ·exact .inl (.inr rfl)
  ·obtain⟨s,h1,S,h3⟩:=U.only v c E;refine⟨s,?_,S,h3⟩;rcases h1 with (h1 | rfl) | rfl
   ·exact Nat.lt_succ_of_lt h1
   ·exact Nat.lt_succ_self _
   ·exact Nat.lt_succ_self _
 ·have M:¬ (k:Int)<(n.arcs.length:Nat):=Om;have a':k=n.arcs.length:=Om;subst a';have Ψ:ue n (wls ps):=hO.ok J;have e':∀ q∈cY (gU ps),¬ fo=q∧¬ u=q:=fun q hq=>by refine⟨hH.ndX (o:=fo) (by simp[dU]) (by show q∈u::cY (gU ps); exact aDM _ hq),fun e=>?_⟩;have h5:(u::cY (gU ps)).Nodup:=hH.ndL;exact (List.nodup_cons.1 h5).1 (e ▸ hq)
  obtain⟨φ,H1,y,ι,F,g',hz⟩:=WI ps [] [] .nil (show aK H _ ((.osl u 1 0 n.nodes,1,[]++dJ ps)::gU ps) from hH) (fun b hb q hq s rs=>by
   obtain⟨q1,q2⟩:=e' q hq;rcases aAK.1 hb with rfl | hb
   ·exact zC (Flat.map _ fun x c E q s rs=>by rw[aBL] at E; subst E; rfl) 1
   ·rw[aBL] at hb;subst hb;simp[bF.frz,PV.bP,q1,q2])
  rw[aDN] at ι;obtain⟨rs,y1,y2,y3,y4,y5⟩:=F.frz 0 rfl;have of:¬ fo=u:=fun e=>by have:=hH.ndX (o:=fo) (q:=u) (by simp[dU]) (by simp[cY,oZ,PV.oid]);exact this e
  have Ξ:bF.frz u 1 rs (.rows 1 (gE (aAC n.arcs.length 0)))=.rows 1 (gE (aAC n.arcs.length 0)):=zC (Flat.map _ fun x c E q s rs=>by rw[aBL] at E; subst E; rfl) 1;have Φ:bF.frz u 1 rs (rJ n fo n.arcs.length (.osl u 1 0 n.nodes))=rJ n fo n.arcs.length (jJ y):=by show bF.rows 6 [[_,_,_,_,PV.bP u 1 rs (.osl fo 1 0 n.arcs.length),PV.bP u 1 rs (.osl u 1 0 n.nodes)]]=_;rw[y2];simp[PV.bP,of]
  have h':(H1.frz u 1 rs) fo=some (.rows 1 (gE (aAC n.arcs.length 0))):=by have:=y5.at 0 rfl; rw[Ξ] at this; exact this
  have i':(H1.frz u 1 rs) j=some (rJ n fo n.arcs.length (jJ y)):=by have:=y5.at 1 rfl; rw[Φ] at this; exact this
  simp only[go_sem,M,cb];refine Kf ((hz _).trans (.step u y1 (.refl _ _))) ?_;refine wp_loop (α:=List Nat) (fun xs=>(((PF.nil.set 1 (.dH n.cells)).set 6 (.ptr j 6 0 0)).set 9 (.int .i64 (iJ n xs)))) (fun xs=>sH n j fo xs (jJ y)) (fun xs=>fY n xs∧0≤iJ n xs) (fun xs=>(aaZ n-iJ n xs).toNat) (aAC n.arcs.length 0) ⟨(LC n).1,by rw[(LC n).2]; decide⟩
   (d_ (d_ (d_ c_ (V2 g' rfl (Fx.dH _))) (V2 g' rfl (Fx.ptr _ _ _ _))) (V2 g' (by simp only[go_sem,(LC n).2]) (Fx.int _ _))) (e_ (e_ a_ (by rw[aEA]; exact i')) h') ?_
  rintro xs ⟨hF,p'⟩;have hx:=hF.in;have q':=hF.len;simp only[go_sem,b8,cc];refine dS (X n j fo xs y (wls ps) J V hx ι Ψ) rfl (fun _ _ h=>h) ?_;rintro r H' ⟨Q,way,hS,hD,rfl,rfl⟩ -;rw[PH.over_self _ (fun _ _ h=>h)];have N:=lO (R:=seL n Q) (i:=n.sink) (by rw[j9]; exact J.sink);rw[Q0 J.sink] at N;have ρ:¬ fo=j:=fun e=>V e.symm;cases E:Q.contains n.sink with
  | false =>
   rw[E] at N;simp only[go_sem,HK,N,ce,V,ρ];have σ:n.sink ∉ Q:=fun h=>by rw[List.contains_iff_mem.2 h] at E; cases E
   refine oR (vs:=[.osl fo 1 0 xs.length,.int .i64 (iJ n xs),.sl 1 (bD (seL n Q)),.int .i64 0]) (.inr rfl) rfl ?_;refine nU.step (q:=fo) (s:=1) (rs:=gE xs) (by rw[cG]) ?_;have ev:PV.frz fo 1 (gE xs) (dB [.osl fo 1 0 xs.length,.int .i64 (iJ n xs),.sl 1 (bD (seL n Q)),.int .i64 0])=.tup [.sl 1 (gE xs),.int .i64 (iJ n xs),.sl 1 (bD (seL n Q)),.int .i64 0]:=by have hT:(gE xs).take xs.length=gE xs:=aAQ (by rw[aAA]; exact aAF _);simp[dB,PV.frz,PV.pI,PV.bP,hT]
   rw[ev];refine nU.done (H2:=.nil) ⟨xs,fun v=>Q.contains v,hF,agH J hF hS hD σ,?_,E,rfl,rfl⟩ a_;obtain⟨t,ht⟩:=hS.first;rw[ht]; simp
  | true =>
   rw[E] at N;have ψ:n.sink∈Q:=List.contains_iff_mem.1 E;simp only[go_sem,HK,N,cf];refine dS (κ n j fo xs (jJ y) Q way J V hF hS ψ) rfl (fun _ _ h=>h) ?_;rintro r H' ⟨ys,Λ,ha,η,hv,rfl,rfl⟩ l';have d':(sH n j fo xs (jJ y)).over (sH n j fo xs (jJ y)) (sH n j fo ys (jJ y))=sH n j fo ys (jJ y):=PH.ext fun o=>by
    show (match (sH n j fo ys (jJ y)) o with | some x=>some x | none=>match (sH n j fo xs (jJ y)) o with | some _=>some .dead | none=>(sH n j fo xs (jJ y)) o)=(sH n j fo ys (jJ y)) o;have e1:∀ (zs:List Nat),¬ o=fo→¬ o=j→(sH n j fo zs (jJ y)) o=none:=fun zs h1 S=>by rw[aQ,if_neg h1,aQ,if_neg S]; rfl
    by_cases c1:o=fo
    ·subst c1; rw[cG]
    ·by_cases c2:o=j
     ·subst c2; rw[aQ,if_neg c1,cG]
     ·rw[e1 ys c1 c2,e1 xs c1 c2]
   rw[d'];have m':=ahO J η;have n':=ajF J;have f':IntKind.i64.wrap (iJ n xs+((Λ:Nat):Int))=iJ n ys:=by rw[wrap_i64 Om Om,hv]
   simp only[go_sem,f'];exact aL ys ⟨η,by omega⟩ Om Lq (fun _ _ h=>h)
def nJ (f:aC) (l:List bJ) (xs:List Nat) (k:Nat):List (List Int):=(aAB f.ayO.length).map fun v=>jV f v (l.take k) (xs.take k)
theorem adM (f:aC) (l:List bJ) (xs:List Nat) (k:Nat):(nJ f l xs k).length=f.ayO.length:=by simp[nJ]
theorem X0 (f:aC) (l:List bJ) (xs:List Nat):nJ f l xs 0=aAC f.ayO.length []:=by
 refine List.ext_getElem (by simp[nJ]) fun i e j=>?_;simp[nJ,jV]
theorem adL {f:aC} {l:List bJ} {xs:List Nat} (h:xs.length=l.length):nJ f l xs l.length=iz f l xs:=by
 unfold nJ iz;rw[aBT,aAQ Om]
theorem IA (f:aC) (v:Nat) {l:List bJ} {xs:List Nat} (u:xs.length=l.length) {k:Nat} (j:k<l.length):jV f v (l.take (k+1)) (xs.take (k+1))=jV f v (l.take k) (xs.take k)++tK f v l[k] (xs.getD k 0):=by
 have e:k<xs.length:=Om;rw[aCM j,aCM e,pN f v _ _ (by rw[aAN,aAN,u])];rw[show xs.getD k 0=xs[k] by simp[aAL,e]];simp[jV]
theorem Xz {f:aC} {l:List bJ} {xs:List Nat} (j:xs.length=l.length) {k:Nat} (e:k<l.length) (h:l[k].dst<bG f 0∨xs.getD k 0=0):nJ f l xs (k+1)=nJ f l xs k:=by
 unfold nJ;refine aCC fun v _=>?_;rw[IA f v j e];have:tK f v l[k] (xs.getD k 0)=[]:=by
  unfold tK NP;rcases h with h | h
  ·rw[decide_eq_false Om]; rfl
  ·rw[h]; simp
 rw[this,aBU]
theorem adN {f:aC} {l:List bJ} {xs:List Nat} (u:xs.length=l.length) {k:Nat} (j:k<l.length) (w:bG f 0≤l[k].dst) (x:xs.getD k 0≠0) (B:xZ f l[k]<f.ayO.length) :
  (nJ f l xs k).set (xZ f l[k]) ((nJ f l xs k).getD (xZ f l[k]) []++[((l[k].dst-bG f 0:Nat):Int)])=nJ f l xs (k+1):=by
 have y:(nJ f l xs k).getD (xZ f l[k]) []=jV f (xZ f l[k]) (l.take k) (xs.take k):=by unfold nJ;rw[aAL,aAT,aCV B]; rfl
 rw[y];unfold nJ;refine qV _ _ _ _ _ ?_ fun v A=>?_
 ·rw[IA f _ u j];unfold tK NP;rw[decide_eq_true w,decide_eq_true x,decide_eq_true rfl]; rfl
 ·rw[IA f _ u j];unfold tK NP;rw[decide_eq_false (show ¬ xZ f l[k]=v from fun e=>A e.symm),aBS,aBS];simp
theorem aiY {f:aC} (hV:VF f) {room:List Int} {a:bJ} (ha:a∈fK f room) (h:bG f 0≤a.dst):∃ v d,v<f.ayO.length∧d<f.ayM.length∧a=eK f v d:=by
 unfold fK at ha;rcases aBH.1 ha with ha | ha
 ·obtain⟨v,e,ha⟩:=List.mem_flatMap.1 ha;have e:=aAU.1 e;unfold fA at ha;rcases aAK.1 ha with rfl | ha
  ·have:=(hC hV e hV.root.1).2;simp only[cO,if_true] at this;simp only at h;omega
  ·rcases aBH.1 ha with ha | ha
   ·obtain⟨i,hi,rfl⟩:=aAW.1 ha;have:=aAU.1 hi;have:=(hC (i:=i+1) hV e Om).2;simp only[jS] at h;omega
   ·obtain⟨d,j,rfl⟩:=aAW.1 ha;exact⟨v,d,e,aAU.1 (aDP.1 j).1,rfl⟩
 ·obtain⟨d,j,rfl⟩:=aAW.1 ha;simp only[mW,bG] at h;omega
theorem Cd {f:aC} (hV:VF f) {d:Nat} (u:d<f.ayM.length):0<eW f d∧eW f d<f.ayP.length:=by
 have j:=hV.drive d u;refine⟨?_,j.2.2.2.1⟩;rcases aCH (eW f d) with e | e
 ·have l:=j.2.2.2.2;rw[e,hV.root.2.1] at l;omega
 ·exact e
theorem anO {f:aC} (hV:VF f) {v d:Nat} (e:d<f.ayM.length):2+f.ayO.length≤(eK f v d).src:=by
 have:=Cd hV e;simp only[eK,cO];rw[if_neg Om];omega
theorem aK.avD {H:PH} {B:List BX} {L:List LI} {o s:Nat} {rows:List (List PV)} (h:aK H ((o,.rows s rows)::B) L):aK H B ((.osl o s 0 rows.length,s,rows)::L):=by
 refine⟨fun b hb=>h.box b (aDM _ hb),fun x hx=>?_,?_⟩
 ·rcases aAK.1 hx with rfl | hx
  ·exact .inr ⟨o,rows,rfl,h.box _ (List.mem_cons_self ..),aAF _,aBT⟩
  ·exact h.lst x hx
 ·have e:cY ((.osl o s 0 rows.length,s,rows)::L)=o::cY L:=rfl;rw[e];exact (List.perm_middle.nodup_iff).2 h.nd
theorem aK.asZ {H:PH} {B:List BX} (h:aK H B []) (N:Nat):aK H B (gU (aAC N ((.aA,[]):PV × List Int))):=by
 have j:=h.Ur N;have e:gU (aAC N ((.aA,[]):PV × List Int))=[]++aAC N (.aA,1,[]):=by unfold gU;rw[List.map_replicate]; rfl
 rw[e]; exact j
theorem q9 {res:List dT} {R A:PV→PH→Prop} {e:kC} {F:PF} {H:PH} (B:∀ r H',R r H'→A r H') (h:aT res R e F H):aT res A e F H:=by
 cases e with
 | exit=>exact h
 | normal =>obtain⟨vs,u,j,l,H2,w,x,v,y,h5⟩:=h;exact⟨vs,u,j,l,H2,w,x,v,y,B _ _ h5⟩
 | ret =>obtain⟨vs,u,j,l,H2,w,x,v,y,h5⟩:=h;exact⟨vs,u,j,l,H2,w,x,v,y,B _ _ h5⟩
def tW (f:aC) (room:List Int) (ws:List (List Int)) (c:Int):Prop :=
 (cV f=false∧ws=[]∧c=1)∨(cV f=true∧(∃ u,sG f room u∧ws=rG f u)∧c=0)∨(cV f=true∧¬ mK f room∧ws=[]∧c=12)
def vb (f:aC) (room:List Int) (r:PV) (H:PH):Prop:=∃ ws c,tW f room ws c∧cL (.tup [lists ws,.int .i64 c]) r H
def va (f:aC) (room:List Int) (r:PV) (H:PH):Prop:=∃ ws c,tW f room ws c∧r=.tup [lists ws,.int .i64 c]∧H=PH.nil
theorem aG.place {C:Ctx} {name:Nat} {args:List PV} {f:aC} {room:List Int} (h:aG C name args .nil (vb f room)):aG C name args .nil (va f room) :=
 h.post fun r H' ⟨ws,c,e,j,l⟩=>⟨_,j,ws,c,e,rfl,l⟩
structure KC (C:Ctx):Prop extends lM C where
 net:∀ (f:aC) (room:List Int),f.Ok→aG C 286 [.agg f.cells,ints room] .nil (aM (WJ f room))
 solve:∀ n:cB,fN n→aG C 298 [.agg n.cells] .nil (vf n)
 demand:∀ f:aC,VF f→aG C 287 [.agg f.cells] .nil (aM (.int .i64 ((oV f:Nat):Int)))
theorem Gj (f:aC) (v:Nat):∀ (l:List bJ) (xs:List Nat),(jV f v l xs).length≤l.length
 | [],_=>by simp[jV]
 | _::_,[]=>by simp[jV]
 | a::l,x::xs=>by
  have e:=Gj f v l xs;have j:(tK f v a x).length≤1:=by unfold tK; split<;>simp
  rw[jV,aAE,aBV];omega
def plF (f:aC) (n:cB) (xs:List Nat) (e j k:Nat):PF:=((((((PF.nil.set 8 (.sl 1 (gE xs))).set 12 (.ptr e 2 0 0)).set 13 (.osl j 1 0 f.ayO.length)).set 49 (gp n.arcs)).set 50 (.int .i64 (n.arcs.length:Nat))).set 51 (.int .i64 (k:Nat)))
theorem Jq {C:Ctx} (Lb:KC C) {K:cK} [Up K] (f:aC) (hV:VF f) (room:List Int) (xs:List Nat) (hx:sJ (dY f room) xs) (e I:Nat) {F:PF} {H:PH}
  (hH:aK H [(I,.rows 1 (dJ (aAC f.ayO.length (.aA,[])))),(e,eZ f)] (gU (aAC f.ayO.length (.aA,[])))) (hF:(plF f (dY f room) xs e I 0).le F)
  (hK:∀ ps H',aK H' [(e,eZ f)] (oZ (.osl I 1 0 f.ayO.length) ps)→wls ps=iz f (fK f room) xs→K (.exit 0) ((PF.nil.set 13 (.osl I 1 0 f.ayO.length))) H'):aE.wp C (.loop FD) K F H:=by
 have hs:=hV.small;have hr:=hV.root;have hn:=MP hV room;have hm:=hn.num;have ρ:=hn.few;have Y:xs.length=(fK f room).length:=hx.len;refine wp_loop (α:=Nat × WPs × PH) (fun s=>plF f (dY f room) xs e I s.1) (fun s=>s.2.2) (fun s=>s.1≤(dY f room).arcs.length∧wls s.2.1=nJ f (fK f room) xs s.1∧aK s.2.2 [(I,.rows 1 (dJ s.2.1)),(e,eZ f)] (gU s.2.1)) (fun s=>(dY f room).arcs.length-s.1) (0,aAC f.ayO.length (.aA,[]),H) ⟨aAP _,?_,hH⟩ hF b_ ?_
 ·rw[X0];unfold wls;simp only[List.map_replicate]
 rintro⟨k,ps,H0⟩ ⟨hk,j,hH⟩;simp only at hk j hH;have ξ:ps.length=f.ayO.length:=by have:=congrArg List.length j;rw[adM] at this;unfold wls at this;rw[aAA] at this;exact this
 simp only[go_sem,FD,ZD,plF];by_cases hlt:k<(dY f room).arcs.length
 ·have J:(k:Int)<((dY f room).arcs.length:Nat):=Om;have V:=wZz k;have U:k<(fK f room).length:=hlt;have μ:k<xs.length:=Om;have γ:=tY hlt;have ι:dM (dY f room) k=(fK f room)[k]:=(rO hlt).symm;rw[ι] at γ;have κ:=aAG U;obtain⟨z1,z2,z3⟩:=hn.ends _ (aAG hlt);have z1:((fK f room)[k]).src<(dY f room).nodes:=z1;have z2:((fK f room)[k]).dst<(dY f room).nodes:=z2;have τ:bG f 0≤(dY f room).nodes:=by show bG f 0≤bG f f.ayM.length; unfold bG; omega
  have W:=Xz (f:=f) (l:=fK f room) (xs:=xs) Y U;have A:=adN (f:=f) (l:=fK f room) (xs:=xs) Y U;have δ:=aiY hV (room:=room) κ;generalize (fK f room)[k]=a at *
  simp only[go_sem,J,ZE,γ];refine hH.sQ fun q H1 h1=>?_;have q1:=h1.mP;have O:=h1.rY (.rows 4 [a.cells]);simp only[go_sem,q1];generalize H1.set q (.rows 4 [[.int .i64 a.src,.int .i64 a.dst,.int .i64 a.cap,.int .i64 0]])=H2 at *
  have E:H2 q=some (.rows 4 [a.cells]):=O.mP;have N:H2 e=some (eZ f):=O.at 1 rfl;have β:H2 I=some (.rows 1 (dJ ps)):=O.at 0 rfl;have S:(a.dst<bG f 0∨xs.getD k 0=0)→jU (fun s:Nat × WPs × PH=>plF f (dY f room) xs e I s.1) (fun s=>s.2.2) (fun s=>s.1≤(dY f room).arcs.length∧wls s.2.1=nJ f (fK f room) xs s.1∧aK s.2.2 [(I,.rows 1 (dJ s.2.1)),(e,eZ f)] (gU s.2.1)) (fun s=>(dY f room).arcs.length-s.1) ((dY f room).arcs.length-k) K .normal (plF f (dY f room) xs e I (k+1)) H2:=fun h =>
   aL (k+1,ps,H2) ⟨hlt,by rw[W h]; exact j,aK.dropLast (B:=[(I,.rows 1 (dJ ps)),(e,eZ f)]) O⟩ (by simp only; omega) (fun _ _ h=>h) b_
  refine bN (PH.nil.set q (.rows 4 [a.cells])) (yV f [] (fun _ _=>True)) (e_ a_ E) ?_;by_cases c1:a.dst<bG f 0
  ·have M:(a.dst:Int)<((bG f 0:Nat):Int):=Om;simp only[go_sem,FF,N];refine yY Lb.tolM hs (i:=0) (by decide) rfl (e_ a_ E) ?_;simp only[go_sem,M,wZ,V];exact Up.up (by unfold plF; exact Lq) (S (.inl c1))
  ·have M:¬ (a.dst:Int)<((bG f 0:Nat):Int):=Om;simp only[go_sem,FF,N];refine yY Lb.tolM hs (i:=0) (by decide) rfl (e_ a_ E) ?_;have θ:=zM μ;by_cases c2:xs.getD k 0=0
   ·simp only[go_sem,M,θ,bO (Om:((xs.getD k 0:Nat):Int)=0),wZ,V];exact Up.up (by unfold plF; exact Lq) (S (.inr c2))
   ·obtain⟨v,d,hv,hd,rfl⟩:=δ Om;have X:=I5 hV (v:=v) hd;have A:=A Om c2 (by rw[X]; exact hv);rw[X] at A;have σ:=anO hV (v:=v) hd;have υ:=Cd hV hd;have φ:=hs.ayP;have χ:=hs.ayO;have w1:IntKind.i64.wrap (((eK f v d).src:Int)-2)=(((eK f v d).src-2:Nat):Int):=by rw[wrap_i64 Om Om]; omega
    have w2:IntKind.i64.wrap ((((eK f v d).src-2:Nat):Int)-(f.ayO.length:Nat))=(((eK f v d).src-2-f.ayO.length:Nat):Int):=by rw[wrap_i64 Om Om]; omega
    have w3:IntKind.i64.wrap ((f.ayP.length:Int)-1)=((f.ayP.length-1:Nat):Int):=by rw[wrap_i64 Om Om]; omega
    have w4:¬ ((f.ayP.length-1:Nat):Int)=0:=Om;have w5:Int.tdiv (((eK f v d).src-2-f.ayO.length:Nat):Int) ((f.ayP.length-1:Nat):Int)=((v:Nat):Int):=by exact (Int.ofNat_tdiv _ _).symm.trans (congrArg (fun x:Nat=>(x:Int)) X)
    have w6:IntKind.i64.wrap ((v:Nat):Int)=((v:Nat):Int):=wrap_i64 Om Om;have w7:IntKind.i64.wrap (((eK f v d).dst:Int)-((bG f 0:Nat):Int))=(d:Int):=by
     have:(eK f v d).dst=bG f 0+d:=by simp only[eK,bG]; omega
     rw[wrap_i64 Om Om,this]; omega
    simp only[go_sem,M,θ,bC (Om:¬ ((xs.getD k 0:Nat):Int)=0),ZF,E,N,w1,w2,w3,w4,w5,w6];have ζ:v<ps.length:=Om;obtain⟨u,w,R⟩:∃ u w,ps[v]?=some (u,w):=⟨(ps[v]).1,(ps[v]).2,aAH ζ⟩;have η:(wls ps).getD v []=w:=kk R;have ε:(v:Int)<(f.ayO.length:Nat):=Om;have ο:¬ I=q:=O.ne 0 2 rfl rfl (by decide);obtain⟨Hs,s1,s2,Z⟩:=Bl (x:=.rows 1 (dJ ps)) (y:=.rows 4 [(eK f v d).cells]) ο;refine bN Hs (yV f [] (fun _ _=>True)) (Z _ β E) ?_;simp only[go_sem,ZG,N,ε,s1,s2,aAX,zL R];refine yY Lb.tolM hs (i:=0) (by decide) rfl (Z _ β E) ?_;simp only[go_sem,w7];have ω:w.length≤k:=by
     have h9:w=(nJ f (fK f room) xs k).getD v []:=by rw[← j,η]
     rw[h9];unfold nJ;rw[aAL,aAT,aCV hv];exact aCX (Gj f v _ _) (by rw[aAN]; omega)
    refine O.append v (DT R) (src:=bT [(d:Int)]) rfl (by unfold roomFor; rw[eU,eU]; simp only[aAI,maxLen]; omega) fun u' H3 h3 hu=>?_;obtain⟨q',rfl⟩:=hu (by simp[bT]);rw[← sY] at h3 ⊢;refine⟨Z _ (h3.at 0 rfl) (h3.at 2 rfl),?_⟩;simp only[go_sem,ε];refine bN .nil dC a_ ?_;have e3:=h3.at 0 rfl;have ν:v<(dJ ps).length:=by rw[NM]; exact ζ
    simp only[go_sem,ZH,e3,aAX,zL R,ν];refine⟨a_,?_⟩;simp only[go_sem,wZ,V];have h4:=h3.set 0 rfl (.rows 1 ((dJ ps).set v [.osl q' 1 0 (bT (w++[(d:Int)])).length]));generalize ψ:PV.osl q' 1 0 (bT (w++[(d:Int)])).length=u' at *
    refine aL (k+1,ps.set v (u',w++[(d:Int)]),_) ⟨hlt,?_,?_⟩ (by simp only; omega) Lq b_
    ·simp only;rw[kn,← A,j,← η,j];have:((eK f v d).dst-bG f 0:Nat)=d:=by simp only[eK,bG]; omega
     rw[this]
    ·simp only;have e5:dJ (ps.set v (u',w++[(d:Int)]))=(dJ ps).set v [u']:=aDL ..;have e6:gU (ps.set v (u',w++[(d:Int)]))=(gU ps).set v (u',1,bT (w++[(d:Int)])):=aDL ..;rw[e5,e6];exact aK.dropLast (B:=[(I,.rows 1 ((dJ ps).set v [u'])),(e,eZ f)]) h4
 ·have J:¬ (k:Int)<((dY f room).arcs.length:Nat):=Om;have:k=(dY f room).arcs.length:=Om;subst this;simp only[go_sem,J];have O:=hH.avD;rw[NM,ξ] at O;refine Up.up Lq (hK ps H0 O ?_);rw[j];exact adL Y
theorem Fy {res:List dT} {f:aC} {room:List Int} {ws:List (List Int)} {c:Int} {e:kC} {F:PF} {H:PH} (j:tW f room ws c) (h:aT res (cL (.tup [lists ws,.int .i64 c])) e F H):aT res (vb f room) e F H :=
 q9 (fun r H' l=>⟨ws,c,j,l⟩) h
theorem dr {f:aC} (hV:VF f) {room:List Int} {xs:List Nat} {S:Nat→Bool} (u:fY (dY f room) xs) (e:iJ (dY f room) xs=dA S (dY f room).arcs) (j:S (dY f room).source=true) (l:S (dY f room).sink=false):¬ iJ (dY f room) xs<(oV f:Int)↔mK f room:=by
 rw[Int.not_lt];exact ky hV u j l e
theorem W6 {f:aC} (hV:VF f) {room:List Int} {xs:List Nat} (e:fY (dY f room) xs) (h:¬ iJ (dY f room) xs<(oV f:Int)):∃ u,sG f room u∧iz f (fK f room) xs=rG f u:=by
 obtain⟨s,g,j,t,rfl⟩:=YX f room e.len;exact⟨kO f j,w9 hV e (Int.not_lt.1 h),adO hV room s g j t⟩
theorem Xe {C:Ctx} (x:KC C) (f:aC) (hf:f.Ok) (room:List Int) :
  BH.wp C (aT x4.res (vb f room)) (PF.args [.agg f.cells,ints room]) .nil:=by
 simp only[go_sem,BH,k7,x4,lf];refine aB (x.net f room hf) rfl ?_;simp only[go_sem,WJ];refine aP fun q hq=>?_;have R:aK (PH.nil.set q kS) [(q,kS)] []:=aK.nil.new hq kS;generalize (PH.nil.set q kS)=Y at *
 have q1:=R.at 0 rfl;have l:=R.set 0 rfl (pA (CG f room));simp only[go_sem,q1];generalize Y.set q (.rows 4 [(CG f room).cells])=H2 at *
 have X:=l.at 0 rfl;cases e:cV f with
 | false =>simp only[go_sem,LG,QG e,lg];refine Fy (ws:=[]) (c:=1) (.inl ⟨e,rfl,rfl⟩) ?_;exact NT (.inr rfl) rfl (aK.aiJ (l.vC 0))
 | true =>
  have hV:=VF.of e;have W:=hV.small;have hn:=MP hV room;have E:(f.ayO.length:Int)*((24:Nat):Int)≤140737488355328:=by have:=W.ayO; omega
  have F:(f.ayO.length:Int)≤9223372036854775807:=by have:=W.ayO; omega
  have I:(0:Int)≤(f.ayO.length:Int):=Om;rw[QI e] at X l;simp only[go_sem,LG,uJ e,lh,X];refine dS (x.solve _ hn) rfl a_ ?_;rintro r H' ⟨xs,S,y,w,A,B,rfl,rfl⟩ -;rw[PH.jK];have J:=dr hV y w A B;simp only[go_sem,lj];refine aB (x.demand f hV) rfl ?_;by_cases hlt:iJ (dY f room) xs<((oV f:Nat):Int)
  ·simp only[go_sem,hlt,lk];refine Fy (ws:=[]) (c:=12) (.inr (.inr ⟨e,fun h=>J.2 h hlt,rfl,rfl⟩)) ?_;exact NT (.inr rfl) rfl (aK.aiJ (l.vC 0))
  ·obtain⟨u,hA,K⟩:=W6 hV y hlt;simp only[go_sem,hlt,ll,aAA];refine l.sQ fun j Z U=>?_;have g3:=U.at 1 rfl;have h4:=U.set 1 rfl (eZ f);simp only[go_sem,g3];generalize Z.set j (.rows 2 [[.int .i64 (f.ayO.length:Nat),.int .i64 (f.ayP.length:Nat)]])=H4 at *
   simp only[go_sem,lm,aAA,E,F,I,Int.le_refl,aDK];refine aP fun N M=>?_;have h5:=h4.new M (.rows 1 (aAC f.ayO.length [.aA]));generalize H4.set N (.rows 1 (aAC f.ayO.length [.aA]))=O at *
   have V:aK O [(N,.rows 1 (aAC f.ayO.length [.aA])),(j,eZ f),(q,pA (dY f room))] []:=by refine h5.perm ?_ (aCO.refl _);exact (List.reverse_perm _).symm
   have q5:=V.at 2 rfl;have eo:dJ (aAC f.ayO.length ((.aA,[]):PV × List Int))=aAC f.ayO.length [.aA]:=by unfold dJ; rw[List.map_replicate]
   simp only[go_sem,ln,q5];refine Jq x f hV room xs y.in j N (H:=O) (by rw[eo]; exact (V.vC 2).asZ _) (by unfold plF; (repeat' (first|exact c_|refine d_ ?_ ?_))<;>first|(simp only[go_sem,aAA]<;>rfl)|rfl) fun ps H6 h7 hw=>?_;simp only[go_sem,ZI];refine Fy (ws:=wls ps) (c:=0) (.inr (.inl ⟨e,⟨u,hA,by rw[hw,K]⟩,rfl⟩)) ?_;exact NT (.inr rfl) rfl (h7.vC 0)
end Go.PM
