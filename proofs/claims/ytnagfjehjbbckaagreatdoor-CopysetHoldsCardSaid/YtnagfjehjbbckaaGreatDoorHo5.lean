/-
  Texts of ours, joined: YtBase L11P1 L11W2 L11W3 Mv1 Mv2 Mv3 Mv4 L11W4 Jn3 MkW17 MkW18 L11W5 L11W6 L11P2 L11W7 L11W8 L11W9 L11W10 L11W11 L11W12 L11W13 Jn4 R3W1 R3W2 R3W3 R8W1 R10Code R10W1 R10W2 R10W3 R10W4 R10P1 R10W5 R10W6. No condition.
-/
import Derived.Test.YtnagfjehjbbckaaGreatDoorHo1
import Derived.Test.YtnagfjehjbbckaaGreatDoorHo2
import Derived.Test.YtnagfjehjbbckaaGreatDoorHo3
import Derived.Test.YtnagfjehjbbckaaGreatDoorHo4
import Derived.Test.YtnagfjehjbbckaaGreatDoorRows
import Derived.Test.YtnagfjehjbbckaaGreatDoorProg
import Derived.KernelRfl
import Derived.ProofKit
import Derived.WalkKit
import Derived.LaidMore
import Derived.OpenShut
import Derived.Stop.Joined
import Derived.Lib.SlicesCompact
import Derived.Shelf.Sort.Plain
import Derived.Shelf.Slices.CompactI
import Derived.Shelf.Slices.In.SortNone
set_option linter.unusedSimpArgs false
set_option linter.unusedVariables false
open Nat renaming reduceEqDiff → γ, reduceAdd → δ, reduceSub → ε, reduceMul → ζ, reduceLT → η, reduceLeDiff → θ, reduceBEq → τ
open Int renaming reduceLT → ι, reduceLE → κ, reduceEq → μ, reduceToNat → ν, reduceAdd → ξ, reduceNeg → ο, reduceBEq → ρ, reduceBNe → σ
open List renaming reduceReplicate → υ
open List renaming length_map → aUN, range → aUO, getElem_mem → aUQ, replicate → aUR, length_append → aUS, length_singleton → aUX, getD_eq_getElem?_getD → aUY, getElem?_eq_getElem → aVB, mem_cons → aVC, all_eq_true → aVD, take_of_length_le → aVI, length_take → aVJ, not_mem_nil → aVK, mem_range → aVM, getElem?_map → aVN, take_length → aVP, mem_map → aVQ, append_assoc → aVS, map_append → aVT, getElem?_eq_some_iff → aVW, getElem_of_mem → aVX, drop_zero → aVY, map_cons → aVZ, getElem_map → aWD, append_nil → aWF, getElem?_eq_none → aWG, length_cons → aWH, mem_append → aWI, drop_eq_getElem_cons → aWM, take_succ_eq_append_getElem → aWN, range' → aWP, length_drop → aWR, map_nil → aWS, Sublist → aWT, length_set → aWU, mem_singleton → aWV, length_nil → aXD, ext_getElem → aXE, getElem?_append_right → aXF, take_append_drop → aXG, getElem?_append_left → aXI, nodup_append → aXJ, mem_of_getElem? → aXL, set_append_right → aXO, range_succ → aXV, take_zero → aXW, countP_cons → aXZ, getElem?_take → aYA, set_cons_zero → aYB, countP_append → aYH, drop_of_length_le → aYI, map_congr_left → aYJ, getElem_append_right → aYL, getElem_append_left → aYM
open Nat renaming gcd → aUP, zero_le → aUT, le_refl → aUU, mul_add → aVF, zero_add → aVH, lt_or_ge → aVL, mul_assoc → aVO, mul_comm → aVR, add_mul → aVU, mul_le_mul_right → aVV, mod_eq_of_lt → aWA, le_trans → aWE, mod_lt → aWJ, pow_succ → aWL, min_eq_left → aWW, add_assoc → aWX, add_zero → aWY, eq_zero_or_pos → aWZ, mul_le_mul_left → aXA, pos_of_ne_zero → aXB, pow_pos → aXK, div_le_self → aXM, div_lt_iff_lt_mul → aXP, sub_self → aXQ, succ_mul → aXR, mul_le_mul → aXX, div_add_mod → aYC, div_eq_of_lt → aYD, pow_le_pow_right → aYK
open Bool renaming false_and → aUV, not_true → aUW, true_and → aVA, and_eq_true → aVE, not_false → aVG, and_false → aWB, and_true → aWQ, and_assoc → aXN, false_eq_true → aXU
open Option renaming map_eq_some_iff → aUZ, map_some → aWC, some → aXC, getD_some → aXH, bind_eq_some_iff → aYE, bind_some → aYF
open Int renaming toNat_natCast → aWK
open Array renaming replicate → aWO, length_toList → aXS, getElem?_eq_some_iff → aXT, getElem?_eq_getElem → aXY, getD_eq_getD_getElem? → aYG
namespace Go.Proofs.YtnagfjehjbbckaaGreatDoor
open Go Go.PM Go.RowKit Go.ChangeShapes Go.WideShapes
def aKO:List Nat:=[22,87,51,23,50,54,24,53,0,0,0,0,0,0,0,0,0,0,0,0,0,0,0,0,0,0,0,6,21,52,83,132,85,62,61,30,119,86,48,101,135,100,122,120,134,133,46,8,121,19,9,49,80,20,93,127,18,84,29,31,82,128,124,167,150,149,129,57,92,96,91,125,95,90,94,126,89,117,0,0,118,116,55,0,26,0,0,0,147,0,0,0,0,0,12,104,63,137,151,138,153,156,140,152,102,136,141,154,142,155,106,103,105,71,38,35,67,139,73,70,69,75,76,143,168,158,157,113,68,74,110,109,112,115,114,111,145,144,108,162,159,146,161,160,0,0,0,0,0,0,28,0,25,0,60,0,130,99,98,131,97,56,148,123,171,165,166,172,169,164,163,0,0,0,0,0,0,0,0,0,0,0,0,0,0,0,0,0,0,0,0,0,0,0,0,88,0,0,0,0,0,59,58,45,27,15,64,65,36,16,66,107,44,81,0,78,41,77,79,39,42,0,14,7,0,0,0,0,0,34,32,10,33,11,40,13,43,3,4,5,0,0,0,0,0,0,0,0,0,0,0,0,0,0,0,0,0,0,0,0,0,0,0,0,0,0,0,0,0,0,0,0,0,0,0,0,0,0,37,72,17,47]
def aGX:List (Option Nat):=[none,none,none,some 237,some 238,some 239,some 27,some 223,some 47,some 50,some 231,some 233,some 94,some 235,some 222,some 205,some 209,some 280,some 56,some 49,some 53,some 28,some 0,some 3,some 6,some 152,some 84,some 204,some 150,some 58,some 35,some 59,some 230,some 232,some 229,some 115,some 208,some 278,some 114,some 219,some 234,some 216,some 220,some 236,some 212,some 203,some 46,some 281,some 38,some 51,some 4,some 2,some 29,some 7,some 5,some 82,some 161,some 67,some 202,some 201,some 154,some 34,some 33,some 96,some 206,some 207,some 210,some 116,some 128,some 120,some 119,some 113,some 279,some 118,some 129,some 121,some 122,some 217,some 215,some 218,some 52,some 213,some 60,some 30,some 57,some 32,some 37,some 1,some 195,some 76,some 73,some 70,some 68,some 54,some 74,some 72,some 69,some 160,some 158,some 157,some 41,some 39,some 104,some 111,some 95,some 112,some 110,some 211,some 138,some 131,some 130,some 135,some 132,some 127,some 134,some 133,some 81,some 77,some 80,some 36,some 43,some 48,some 42,some 163,some 62,some 71,some 75,some 55,some 61,some 66,some 156,some 159,some 31,some 45,some 44,some 40,some 105,some 97,some 99,some 117,some 102,some 106,some 108,some 123,some 137,some 136,some 141,some 88,some 162,some 65,some 64,some 98,some 103,some 100,some 107,some 109,some 101,some 126,some 125,some 140,some 143,some 142,some 139,some 170,some 169,some 165,some 166,some 63,some 124,some 168,none,some 164,some 167]
def num (n:Nat):FuncId:=aKO.getD n 0
def nameOf (f:FuncId):Option Nat:=aGX.getD f none
noncomputable def C:Ctx:=⟨Tryz.prog,num⟩
noncomputable def T (ro:List Nat):Tbl:={ P:=Tryz.prog,num:=num,name:=nameOf,ro:=ro }
def TY:Code→Option (Code × Code)
 | .rangeFunc _ _ a b=>some (a,b)
 | .seq a b=>match TY a with | some x=>some x | none=>TY b
 | .block _ c=>TY c
 | _=>none
def aDT (c:Option Code):Code:=match c with | some c=>((TY c).getD (.skip,.skip)).1 | none=>.skip
def aDU (c:Option Code):Code:=match c with | some c=>((TY c).getD (.skip,.skip)).2 | none=>.skip
theorem bN (T:Tbl) {k:Nat} {fn:Func} {c:aZ} (l:C.P.funcs[C.num k]?=some fn) (e:C.P=T.P:=by rfl) (d:C.num=T.num:=by rfl) (u:(fn.name=="runtime.NumGoroutine")=false:=by kernel_rfl) (i:T.func fn=some c:=by kernel_rfl):bK C k c:=fun _ _ _ p h=>aoQ e d l u i p h
theorem aDV (T:Tbl) {k:Nat} {fn:Func} {c:zZ} (l:C.P.funcs[C.num k]?=some fn) (i:T.aiQ fn=some c) (e:C.P=T.P:=by rfl) (d:C.num=T.num:=by rfl) (u:(fn.name=="runtime.NumGoroutine")=false:=by kernel_rfl):gp C k c:=fun _ _ _ p h=>aiB e d l u i p h
theorem Tryz.own:ownKnob Tryz.prog.godebug=none:=by kernel_rfl
theorem Tryz.laidOut:laidOutB Tryz.prog=true:=by kernel_rfl
theorem itoa:zX C:=fun n p=>by
 refine⟨⟨Tryz.f88,Tryz.func88,by kernel_rfl,by kernel_rfl⟩,fun E w vs u hW c=>?_⟩;obtain⟨x⟩:=vs;cases c with
 | cons d i =>
 cases i;cases d;refine (Any.strconv_Itoa_small Tryz.aGH n p w).mono fun e y l=>?_;obtain⟨rfl,rfl⟩:=l;exact⟨_,.str (cC n),E,.nil,rfl,hW,.str ⟨(Lib.decDigits n).toArray⟩,.refl _ _ _,rfl,rfl⟩
theorem anU {pv:PV} (h:PV.Ty (.sl [.int .u8]) pv):∃ l:List Nat,pv=.sl 1 (kF l)∧(∀ x∈l,x<256)∧l.length≤9223372036854775807:=by
 obtain⟨xs,rfl,u,d⟩:=Ty.ayC h;refine⟨xs.map Int.toNat,?_,?_,?_⟩
 ·unfold ajR kF;rw[List.map_map];congr 1;refine aYJ fun x e=>?_;have:=(d x e).1;simp only[Function.comp];rw[Int.toNat_of_nonneg this]
 ·intro y i;obtain⟨x,c,rfl⟩:=aVQ.1 i;have:=(d x c).2;have p:=(d x c).1;have c:IntKind.u8.max=255:=by decide
  rw[c] at this;omega
 ·rw[aUN];have:maxLen≤9223372036854775807:=by decide
  omega
end Go.Proofs.YtnagfjehjbbckaaGreatDoor
namespace Go.PM
open Go Go.Na
theorem agW {f:aD} (h:VF f) {d:Nat} (c:d<f.aTC.length) {lev:Int} (e:0≤lev) (i:lev≤4):cU f d lev<f.aTF.length∧lvl f (cU f d lev)=lev:=by
 unfold cU;obtain⟨a,b⟩:=xH h c (k:=4-lev.toNat) Om;refine⟨a,?_⟩;rw[b]; omega
theorem kN {f:aD} (h:VF f) {i:Nat} (hi:i<f.aTF.length):0≤lvl f i∧lvl f i≤4:=by
 rcases aWZ i with e | e
 ·rw[e,h.root.2.1]; omega
 ·have:=h.dom i e hi; omega


theorem aaD (a b:Nat):mkT (a:Int) (b:Int)=⟨false,aJ (a/aUP a b),aJ (b/aUP a b)⟩:=by
 have c:decide ((a:Int)<0)=false:=decide_eq_false Om;have d:decide ((b:Int)<0)=false:=decide_eq_false Om;unfold mkT nE FV.rf;rw[c,d,Int.natAbs_natCast,Int.natAbs_natCast];rfl
structure SmF (x:RF) (p q:Nat):Prop where
 eq:x=⟨false,aJ (p/aUP p q),aJ (q/aUP p q)⟩
 a:p≤64
 b:q≤64
 pos:0<q
theorem SmF.mk' {a b:Nat} (c:a≤64) (d:b≤64) (h:0<b):SmF (mkT (a:Int) (b:Int)) a b:=⟨aaD a b,c,d,h⟩
theorem SmF.num {x:RF} {a b:Nat} (h:SmF x a b):val x.num=a/aUP a b:=by rw[h.eq,aT]
theorem SmF.den {x:RF} {a b:Nat} (h:SmF x a b):val x.den=b/aUP a b:=by rw[h.eq,aT]
theorem SmF.v {x:RF} {a b:Nat} (h:SmF x a b):x.v=(false,a/aUP a b,b/aUP a b):=by
 unfold RF.v;rw[h.num,h.den,h.eq]
theorem SmF.Q3 {x:RF} {a b:Nat} (_:SmF x a b):a/aUP a b≤a:=aXM ..
theorem SmF.Jt {x:RF} {a b:Nat} (_:SmF x a b):b/aUP a b≤b:=aXM ..
theorem SmF.den_pos {x:RF} {a b:Nat} (h:SmF x a b):0<b/aUP a b:=Nat.div_pos (Nat.le_of_dvd h.pos (Nat.gcd_dvd_right a b)) (Nat.gcd_pos_of_pos_right a h.pos)
theorem zE {n:Nat} (h:n≤4096):cM n≤32:=(mJ n 32).2 Om
theorem Wf {n:Nat} (h:0<n):0<cM n:=by
 rcases aWZ (cM n) with e | e
 ·rw[kK] at e; omega
 ·exact e
theorem uN {a b:Nat} (d:a≤4096) (e:b≤4096) (h:0<b):cX a b=true:=by
 have i:=zE d;have l:=zE e;have c:=Wf h;unfold cX;rw[decide_eq_true c,decide_eq_true (Om:cM b≤4096),decide_eq_true (Om:cM a≤4096)];rfl
theorem aaA {n:Bool} {a b:Nat} (c:a≤4096) (d:b≤4096):jB n a b=.ok (n&&decide (a/aUP a b≠0),a/aUP a b,b/aUP a b):=by
 have e:=zE (aWE (aXM a (aUP a b)) c);have i:=zE (aWE (aXM b (aUP a b)) d);unfold jB;rw[if_neg Om]
theorem SmF.lim {x:RF} {a b:Nat} (h:SmF x a b):cT x=true:=by
 have l:=h.Q3;have p:=h.Jt;have c:=h.den_pos;have:=h.a;have:=h.b;have d:x.neg=false:=by rw[h.eq]
 unfold cT pD;rw[h.num,h.den,d,uN Om Om c,if_pos rfl,aaA Om Om];have e:=aXM (a/aUP a b) (aUP (a/aUP a b) (b/aUP a b));have i:=aXM (b/aUP a b) (aUP (a/aUP a b) (b/aUP a b));simp only[aUV,aVG,aVA,aVE,decide_eq_true_eq];exact⟨zE Om,zE Om⟩
theorem SmF.rR {x:RF} {a b:Nat} (h:SmF x a b) (c:0<a):bM x=true:=by
 unfold bM;rw[h.num];exact decide_eq_true (Nat.ne_of_gt (Nat.div_pos (Nat.le_of_dvd c (Nat.gcd_dvd_left a b)) (Nat.gcd_pos_of_pos_right a h.pos)))
theorem SmF.zero {x:RF} {b:Nat} (h:SmF x 0 b):bM x=false:=by
 unfold bM;rw[h.num,Nat.zero_div];rfl
theorem SmF.one {x:RF} {a b:Nat} (h:SmF x a b) (c:a≤b):xP x=true:=by
 have i:=h.Q3;have l:=h.Jt;have d:=h.den_pos;have:=h.a;have:=h.b;have e:x.neg=false:=by rw[h.eq]
 unfold xP;rw[h.num,h.den,e,uN Om Om d];have:a/aUP a b≤b/aUP a b:=Nat.div_le_div_right c;show (true&&decide (dQ (a/aUP a b*1) (1*(b/aUP a b))≤0))=true;rw[Nat.mul_one,Nat.one_mul,aVA];refine decide_eq_true ?_;unfold dQ;split
 ·decide
 ·split
  ·omega
  ·decide
theorem SmF.ok {x:RF} {a b:Nat} (h:SmF x a b):x.Ok:=by
 have c:=h.Q3;have d:=h.Jt;have:=h.a;have:=h.b;have k1:nl (a/aUP a b)≤1:=(jI _ _).2 Om;have k2:nl (b/aUP a b)≤1:=(jI _ _).2 Om;rw[h.eq];refine⟨aV _,aV _,?_,?_⟩
 ·show (aJ _).length≤_;rw[bB]; omega
 ·show (aJ _).length≤_;rw[bB]; omega
theorem aEU:∀ c:Fin 9,∀ k:Fin 9,c.val+k.val≤8 →
  (c.val/aUP c.val 8*(8/aUP k.val 8)+k.val/aUP k.val 8*(8/aUP c.val 8))/aUP (c.val/aUP c.val 8*(8/aUP k.val 8)+k.val/aUP k.val 8*(8/aUP c.val 8)) (8/aUP c.val 8*(8/aUP k.val 8))=(c.val+k.val)/aUP (c.val+k.val) 8 ∧
  8/aUP c.val 8*(8/aUP k.val 8)/aUP (c.val/aUP c.val 8*(8/aUP k.val 8)+k.val/aUP k.val 8*(8/aUP c.val 8)) (8/aUP c.val 8*(8/aUP k.val 8))=8/aUP (c.val+k.val) 8:=by decide +kernel
abbrev eV (c:Nat):FV:=(false,c/aUP c 8,8/aUP c 8)
theorem XI (c:Nat):0<8/aUP c 8:=Nat.div_pos (Nat.le_of_dvd (by decide) (Nat.gcd_dvd_right c 8)) (Nat.gcd_pos_of_pos_right c (by decide))
theorem Ii {c k:Nat} (h:c+k≤8):gY (eV c) (eV k)=.ok (eV (c+k)):=by
 obtain⟨d,e⟩:=aEU ⟨c,by omega⟩ ⟨k,by omega⟩ h;simp only at d e;have a1:=aXM c (aUP c 8);have a2:=aXM k (aUP k 8);have a3:=aXM 8 (aUP c 8);have a4:=aXM 8 (aUP k 8);have i:=XI c;have l:=XI k;simp only[gY];rw[uN Om Om i,uN Om Om l,Bool.and_self,if_pos rfl,if_pos trivial];have b1:c/aUP c 8*(8/aUP k 8)≤8*8:=aXX Om a4;have b2:k/aUP k 8*(8/aUP c 8)≤8*8:=aXX Om a3;have p:8/aUP c 8*(8/aUP k 8)≤8*8:=aXX a3 a4;rw[aaA Om Om,d,e];rfl
theorem UH:∀ (l:List Nat) (c:Nat),c+l.sum≤8→(l.map eV).foldlM gY (eV c)=.ok (eV (c+l.sum))
 | [],c,_=>rfl
 | k::l,c,h=>by rw[List.sum_cons] at h;rw[aVZ,List.foldlM_cons,Ii Om,List.sum_cons,← aWX];exact UH l (c+k) Om
theorem aET:eV 0=(false,0,1):=by decide +kernel
theorem awG:eV 8=(false,1,1):=by decide +kernel
theorem aIB (l:List Nat) (h:l.sum=8):(match nY (l.map eV) with
  | .ok (n,a,b)=>decide (pV n a b false 1 1=0)
  | .error _=>false)=true:=by
 unfold nY;rw[← aET,UH l 0 Om,aVH,h,awG];rfl
def dig (k:Nat):List UInt8:=if k<10 then [UInt8.ofNat (48+k)] else [UInt8.ofNat (48+k/10),UInt8.ofNat (48+k%10)]
def WZ:List UInt8→Nat
 | [a]=>a.toNat-48
 | [a,b]=>(a.toNat-48)*10+(b.toNat-48)
 | _=>0
theorem SK {k:Nat} (h:k<100):cC k=dig k:=by
 unfold cC dig;by_cases c:k<10
 ·rw[if_pos c]; exact Lib.decDigits_one c
 ·rw[if_neg c]; exact Lib.decDigits_two c h
theorem Jv:∀ k:Fin 100,WZ (dig k.val)=k.val∧(dig k.val).length≤2∧((dig k.val).all fun c=>fN c.toNat)=true:=by decide +kernel
theorem u6 {p:List UInt8} {c:UInt8} {t:List UInt8} (e:p=c::t) (i:fB c.toNat=true) (w:(t.all fun c=>fN c.toNat)=true) (x:p.length≤8) {k:Nat} (l:k<100):isName (p++cC k)=true:=by
 obtain⟨-,u,d⟩:=Jv ⟨k,l⟩;simp only at u d;subst e;rw[SK l];show (decide ((c::t++dig k).length≤16)&&fB c.toNat&&(c::t++dig k).all fun c=>fN c.toNat)=true;have hi:fN c.toNat=true:=by unfold fN; rw[i]; rfl
 rw[decide_eq_true (by rw[aUS]; omega),i,List.all_append,d,List.all_cons,w,hi];rfl
theorem XH {l:List (List UInt8)} (c:∀ x∈l,isName x=true) (d:l.Nodup):distinct l=true:=by
 unfold distinct;rw[aVD];intro i hi;rw[aVM] at hi;have e:l.getD i []=l[i]:=by simp[aUY,hi]
 rw[e,c _ (aUQ hi),aVA];have:¬ l[i]∈l.take i:=by intro u;obtain⟨j,p,e⟩:=aVX u;rw[aVJ] at p;rw[List.getElem_take] at e;have:=(List.nodup_iff_pairwise_ne.1 d);rw[List.pairwise_iff_getElem] at this;exact this j i Om hi Om e
 simp[this]
theorem TD {l:List (List UInt8)} {g:List UInt8→Nat} (h:∀ i (hi:i<l.length),g l[i]=i):l.Nodup:=by
 rw[List.nodup_iff_pairwise_ne,List.pairwise_iff_getElem];intro i j hi d hlt e;have c:=h i hi;have p:=h j d;rw[e] at c;omega
theorem tN {l:List (List UInt8)} {p:List UInt8} {c:UInt8} {t:List UInt8} (e:p=c::t) (d:fB c.toNat=true) (w:(t.all fun c=>fN c.toNat)=true) (u:p.length≤8) (A:l.length≤100) (h:∀ i (hi:i<l.length),l[i]=p++cC i):distinct l=true:=by
 refine XH ?_ (TD (g:=fun s=>WZ (s.drop p.length)) ?_)
 ·intro x y;obtain⟨i,hi,rfl⟩:=aVX y;rw[h i hi];exact u6 e d w u Om
 ·intro i hi;rw[h i hi];simp only[List.drop_left];rw[SK Om];exact (Jv ⟨i,by omega⟩).1
structure tE (x:RF):Prop where
 lim:cT x=true
 ok:x.Ok
theorem SmF.o {x:RF} {a b:Nat} (h:SmF x a b):tE x:=⟨h.lim,h.ok⟩
theorem qC:SmF jY 0 1:=SmF.mk' (a:=0) (b:=1) (by decide) (by decide) (by decide)
theorem sF (l:List Nat) (a:Nat):tE (fK l a).1∧bM (fK l a).1=true:=by
 have c:=bZ l (show 0<6 by decide) a;have d:=bZ l (show 0<8 by decide) (aE l 6 a).2;have:=SmF.mk' (a:=1+(aE l 6 a).1) (b:=1+(aE l 8 (aE l 6 a).2).1) Om Om Om;exact⟨this.o,this.rR Om⟩
theorem avL (l:List Nat) (i j a:Nat):tE (jH l i j a).1∧(j=i→bM (jH l i j a).1=false)∧(j=i+1→bM (jH l i j a).1=true):=by
 unfold jH;by_cases c:j=i+1
 ·rw[if_pos c];exact⟨(sF l a).1,fun h=>by omega,fun _=>(sF l a).2⟩
 ·rw[if_neg c];by_cases d:j=i
  ·rw[if_pos d];exact⟨qC.o,fun _=>qC.zero,fun h=>absurd h c⟩
  ·rw[if_neg d];simp only;split
   ·exact⟨(sF l _).1,fun h=>absurd h d,fun h=>absurd h c⟩
   ·exact⟨qC.o,fun h=>absurd h d,fun h=>absurd h c⟩
theorem acT (l:List Nat) (i a:Nat):∀ n,(dS l i a n).1.length=n∧∀ j (c:j<(dS l i a n).1.length),tE (dS l i a n).1[j]∧(j=i→bM (dS l i a n).1[j]=false)∧(j=i+1→bM (dS l i a n).1[j]=true)
 | 0=>⟨rfl,fun j c=>absurd c (by simp[dS])⟩
 | n+1=>by
  obtain⟨d,p⟩:=acT l i a n;have e:(dS l i a (n+1)).1=(dS l i a n).1++[(jH l i n (dS l i a n).2).1]:=rfl;rw[e];refine⟨by simp[d],fun j c=>?_⟩;by_cases hlt:j<(dS l i a n).1.length
  ·rw[aYM hlt]; exact p j hlt
  ·rw[aUS,aUX] at c;have:j=n:=Om;subst this;rw[aYL Om];simp only[List.getElem_singleton];exact avL l i j _
theorem acS (l:List Nat) (a:Nat):∀ n,(kP l a n).1.length=n∧∀ x∈(kP l a n).1,tE x∧bM x=true
 | 0=>⟨rfl,fun x c=>by cases c⟩
 | n+1=>by
  obtain⟨d,i⟩:=acS l a n;have e:(kP l a (n+1)).1=(kP l a n).1++[(fK l (kP l a n).2).1]:=rfl;rw[e];refine⟨by simp[d],fun x c=>?_⟩;rw[aWI,aWV] at c;rcases c with c | rfl
  ·exact i x c
  ·exact sF l _
theorem awS (l:List Nat) (n i a:Nat):tE (fD l n i a).1∧(i+1=n→bM (fD l n i a).1=true):=by
 unfold fD;by_cases h:i+1<n
 ·simp only[if_pos h];refine⟨?_,fun c=>by omega⟩;split
  ·exact qC.o
  ·exact (sF l a).1
 ·simp only[if_neg h];exact⟨(sF l a).1,fun _=>(sF l a).2⟩
def aJR (n:Nat) (aTH:List (List RF)):Prop:=∀ i (hi:i<aTH.length),aTH[i].length=n∧∀ j (c:j<aTH[i].length),tE aTH[i][j]∧(j=i→bM aTH[i][j]=false)∧(j=i+1→bM aTH[i][j]=true)
def aJO (n:Nat) (exit:List RF):Prop:=∀ i (hi:i<exit.length),tE exit[i]∧(i+1=n→bM exit[i]=true)
structure aPU (n i:Nat) (s:DS) (cs:List Nat):Prop where
 start:s.start=cs.map fun c=>mkT ((c:Nat):Int) ((8:Nat):Int)
 lens:s.exit.length=i∧s.aTH.length=i∧cs.length=i
 left:cs.sum+s.left=8∧(i=n→0<n→s.left=0)
 exit:aJO n s.exit
 aTH:aJR n s.aTH
theorem sL {α:Type} {P:Nat→α→Prop} {xs:List α} {x:α} (h:∀ i (hi:i<xs.length),P i xs[i]) (c:P xs.length x):∀ i (hi:i<(xs++[x]).length),P i (xs++[x])[i]:=by
 intro i hi;by_cases hlt:i<xs.length
 ·rw[aYM hlt]; exact h i hlt
 ·rw[aUS,aUX] at hi;have:i=xs.length:=Om;subst this;rw[aYL Om];simpa using c
theorem zt (l:List Nat) (n a:Nat):∀ i,i≤n→∃ cs,aPU n i (fV l n a i) cs
 | 0,_=>⟨[],rfl,⟨rfl,rfl,rfl⟩,⟨rfl,fun h c=>by omega⟩,fun i hi=>absurd hi (by simp[fV]),fun i hi=>absurd hi (by simp[fV])⟩
 | i+1,hi=>by
  obtain⟨cs,p,⟨c,d,u⟩,⟨h5,-⟩,w,h7⟩:=zt l n a i Om;generalize A:fV l n a i=s at *
  have e:fV l n a (i+1)=⟨s.start++[mkT ((dR l n i s).1:Nat) 8],s.exit++[(fD l n i (dR l n i s).2).1],s.aTH++[(dS l i (fD l n i (dR l n i s).2).2 n).1],s.left-(dR l n i s).1,(dS l i (fD l n i (dR l n i s).2).2 n).2⟩:=by simp only[fV,A]
  rw[e];have y:(dR l n i s).1≤s.left∧(i+1=n→(dR l n i s).1=s.left):=by
   unfold dR;split
   ·exact⟨by have:=bZ l (Om:0<s.left+1) s.a; omega,fun h=>by omega⟩
   ·exact⟨aUU _,fun _=>rfl⟩
  refine⟨cs++[(dR l n i s).1],?_,⟨by simp[c],by simp[d],by simp[u]⟩,⟨?_,fun h _=>?_⟩,?_,?_⟩
  ·simp only[p,aVT,aVZ,aWS]; rfl
  ·simp only[List.sum_append,List.sum_cons,List.sum_nil]; omega
  ·have:=y.2 h;simp only; omega
  ·refine sL (P:=fun i x=>tE x∧(i+1=n→bM x=true)) w ?_;rw[c]; exact awS l n i _
  ·refine sL (P:=fun i (r:List RF)=>r.length=n∧∀ j (B:j<r.length),tE r[j]∧(j=i→bM r[j]=false)∧(j=i+1→bM r[j]=true)) h7 ?_;rw[d]; exact acT l i _ n
theorem awM {x:cG} {e r:RF} (c:x.exit=[e]) (d:x.aTH=[[r]]) (i:bM e=true):pE x=true:=by
 unfold pE;rw[c];show ((dB x 2).all id)=true;simp only[dB,cZ,kU,cK,c,d,aWH,aXD,List.getD_cons_zero,aVZ,aWS,i];cases bM r<;>rfl
theorem TW {x:cG} {u w d e i l:RF} (y:x.exit=[u,w]) (A:x.aTH=[[d,e],[i,l]]) (B:bM w=true) (E:bM e=true) (a b:Bool) :
  ∃ c,cZ x [a,b] 2=[c,true]∧(b=true→c=true)∧(a=true→c=true):=by
 have F:kU x [a,b] 0=[((a||bM u)||bM d&&(a||bM u))||b,b]:=by unfold kU;rw[y,A];simp only[List.getD_cons_zero,aVZ,aYB];generalize (a||bM u)=c;show cK [c,b] 0 [d,e] 2=_;have:cK [c,b] 0 [d,e] 1=[c||bM d&&c,b]:=rfl;show (let p:=cK [c,b] 0 [d,e] 1; p.set 0 (p.getD 0 false||([d,e].map bM).getD 1 false&&p.getD 1 false))=_;rw[this];show [(c||bM d&&c)||(bM e&&b),b]=_;rw[E,aVA]
 have H:∀ c,kU x [c,b] 1=[c,true]:=by intro c;unfold kU;rw[y,A];have:cK [c,true] 1 [i,l] 1=[c,true||bM i&&c]:=rfl;show cK [c,b||bM w] 1 [i,l] 2=_;rw[B,Bool.or_true];show (let p:=cK [c,true] 1 [i,l] 1; p.set 1 (p.getD 1 false||([i,l].map bM).getD 1 false&&p.getD 1 false))=_;rw[this,Bool.true_or];show [c,true||bM l&&true]=_;rw[Bool.true_or]
 refine⟨_,by rw[show cZ x [a,b] 2=kU x (kU x [a,b] 0) 1 from rfl,F,H],?_,?_⟩
 ·rintro rfl; rw[Bool.or_true]
 ·rintro rfl; simp
theorem awN {x:cG} {i B w d y A:RF} (c:x.exit=[i,B]) (l:x.aTH=[[w,d],[y,A]]) (p:bM B=true) (u:bM d=true):pE x=true:=by
 unfold pE;rw[c];show ((dB x 3).all id)=true;have e:∀ r,dB x (r+1)=cZ x (dB x r) 2:=fun r=>by rw[dB,c]; rfl
 have i:dB x 0=[false,false]:=by rw[dB,c]; rfl
 obtain⟨E,k1,-,-⟩:=TW c l p u false false;obtain⟨F,k2,M,-⟩:=TW c l p u E true;obtain⟨K,H,J,-⟩:=TW c l p u F true;rw[e,e,e,i,k1,k2,H,J rfl];rfl
theorem Nu {c:Nat}:∀ {cs:List Nat},c∈cs→c≤cs.sum
 | k::t,h=>by
  rw[List.sum_cons];rcases aVC.1 h with rfl | h
  ·omega
  ·have:=Nu h; omega
theorem WL {α:Type} {l:List α} (h:l.length=2):∃ a b,l=[a,b]:=by
 match l,h with
 | [a,b],_=>exact⟨a,b,rfl⟩
theorem aLG (cs:List Nat) (h:cs.sum=8):(match nY ((cs.map fun c=>mkT ((c:Nat):Int) ((8:Nat):Int)).map RF.v) with
  | .ok (n,a,b)=>decide (pV n a b false 1 1=0)
  | .error _=>false)=true:=by
 have i:∀ c∈cs,c≤8:=fun c d=>by have:=Nu d;omega
 have e:((cs.map fun c=>mkT ((c:Nat):Int) ((8:Nat):Int)).map RF.v)=cs.map eV:=by rw[List.map_map];refine aYJ fun c d=>?_;have:=i c d;exact (SmF.mk' (a:=c) (b:=8) Om (by decide) (by decide)).v
 rw[e];exact aIB cs h
theorem zD {α:Type} {p:α→Bool} {l:List α} (h:∀ i (hi:i<l.length),p l[i]=true):l.all p=true:=by
 rw[aVD];intro x c;obtain⟨i,hi,rfl⟩:=aVX c;exact h i hi
theorem ajS (l:List Nat) (a:Nat) (K:List UInt8):kM { (rE l 2 a).1 with name:=K }=true∧({ (rE l 2 a).1 with name:=K }:cG).Ok:=by
 obtain⟨n,hn⟩:∃ n,n=1+(aE l 2 a).1:=⟨_,rfl⟩;have W:n=1∨n=2:=by have:=bZ l (show 0<2 by decide) a; omega
 obtain⟨cs,O,⟨Z,h3,h4⟩,⟨h5,R⟩,M,h7⟩:=zt l n (aE l 2 a).2 n (aUU _);generalize hs:fV l n (aE l 2 a).2 n=s at *
 have e:({ (rE l 2 a).1 with name:=K }:cG)=⟨K,s.start,s.aTH,s.exit⟩:=by simp only[rE,← hn,hs]
 rw[e];have J:cs.sum=8:=by have:=R rfl Om; omega
 have V:∀ c∈cs,c≤8:=fun c S=>by have:=Nu S;omega
 have p:∀ x∈s.start,tE x:=by intro x d;rw[O] at d;obtain⟨c,S,rfl⟩:=aVQ.1 d;have:=V c S;exact (SmF.mk' (a:=c) (b:=8) Om (by decide) (by decide)).o
 have β:s.start.length=n:=by rw[O,aUN,h4]
 have w:pE ⟨K,s.start,s.aTH,s.exit⟩=true:=by
  rcases W with rfl | rfl
  ·obtain⟨e,A⟩:=List.length_eq_one_iff.1 Z;obtain⟨η,u⟩:=List.length_eq_one_iff.1 h3;have X:=(h7 0 Om).1;obtain⟨r,H⟩:=List.length_eq_one_iff.1 X;have d:=(M 0 Om).2 rfl;simp only[u,List.getElem_cons_zero] at H;simp only[A,List.getElem_cons_zero] at d;exact awM A (by rw[u,H]) d
  ·obtain⟨e0,e1,A⟩:=WL Z;obtain⟨r0,r1,u⟩:=WL h3;have E:=(h7 0 Om).1;have F:=(h7 1 Om).1;have d:=(M 1 Om).2 rfl;have Y:=((h7 0 Om).2 1 Om).2.2 rfl;simp only[A,List.getElem_cons_succ,List.getElem_cons_zero] at d;simp only[u,List.getElem_cons_succ,List.getElem_cons_zero] at E F Y;obtain⟨γ,δ,y⟩:=WL E;obtain⟨ε,ζ,Q⟩:=WL F;simp only[y,List.getElem_cons_succ,List.getElem_cons_zero] at Y;exact awN A (by rw[u,y,Q]) d Y
 constructor
 ·unfold kM;simp only[aVE];refine⟨⟨⟨⟨⟨⟨⟨?_,?_⟩,?_⟩,?_⟩,?_⟩,?_⟩,?_⟩,w⟩
  ·rw[within_iff]; omega
  ·exact decide_eq_true Om
  ·exact decide_eq_true Om
  ·exact aVD.2 fun x d=>(p x d).lim
  ·exact zD fun i hi=>(M i hi).1.lim
  ·rw[aVD];intro i hi;rw[aVM] at hi;obtain⟨k1,k2⟩:=h7 i hi;have eg:s.aTH.getD i []=s.aTH[i]:=by simp[aUY,hi]
   rw[eg,aVE,aVE];refine⟨⟨decide_eq_true Om,zD fun j U=>(k2 j U).1.lim⟩,?_⟩;have B:i<s.aTH[i].length:=Om;rw[getD_at B,(k2 i B).2.1 rfl];rfl
  ·rw[O]; exact aLG cs J
 ·have N:∀ m:Nat,m≤2→m≤9223372036854775807:=fun m hm=>by omega
  have α:n≤2:=Om;refine⟨⟨?_,fun x d=>(p x d).ok⟩,⟨?_,fun x d=>?_⟩,?_,fun r u=>⟨?_,fun x d=>?_⟩⟩
  ·exact N s.start.length Om
  ·exact N s.exit.length Om
  ·obtain⟨i,hi,rfl⟩:=aVX d;exact (M i hi).1.ok
  ·exact N s.aTH.length Om
  ·obtain⟨i,hi,rfl⟩:=aVX u;have:=(h7 i hi).1;exact N (s.aTH[i]'hi).length Om
  ·obtain⟨i,hi,rfl⟩:=aVX u;obtain⟨j,U,rfl⟩:=aVX d;exact ((h7 i hi).2 j U).1.ok
theorem XO (l:List Nat) (a:Nat):∀ n,(gV l a n).1.length=n∧∀ i (hi:i<(gV l a n).1.length),(gV l a n).1[i].name=[108,97,119]++cC i∧kM (gV l a n).1[i]=true∧(gV l a n).1[i].Ok
 | 0=>⟨rfl,fun i hi=>absurd hi (by simp[gV])⟩
 | n+1=>by obtain⟨c,d⟩:=XO l a n;have e:(gV l a (n+1)).1=(gV l a n).1++[{ (rE l 2 (gV l a n).2).1 with name:=[108,97,119]++cC n }]:=rfl;rw[e];refine⟨by simp[c],sL (P:=fun i (x:cG)=>x.name=[108,97,119]++cC i∧kM x=true∧x.Ok) d ?_⟩;rw[c];exact⟨rfl,ajS l _ _⟩
theorem QC (l:List Nat) (aTJ:Nat) (d:0<aTJ) (a:Nat):∀ n,(eN l aTJ a n).1.length=n∧∀ i (hi:i<(eN l aTJ a n).1.length),(eN l aTJ a n).1[i].name=[109]++cC i∧∃ e p w:Nat,(eN l aTJ a n).1[i].aTS=e∧1≤e∧e≤4∧(eN l aTJ a n).1[i].port=p∧1≤p∧p≤8∧(eN l aTJ a n).1[i].law=w∧w<aTJ
 | 0=>⟨rfl,fun i hi=>absurd hi (by simp[eN])⟩
 | n+1=>by
  obtain⟨c,u⟩:=QC l aTJ d a n;obtain⟨s,y⟩:∃ s,s=eN l aTJ a n:=⟨_,rfl⟩;have e:(eN l aTJ a (n+1)).1=(eN l aTJ a n).1++[⟨[109]++cC n,(1+(aE l 4 s.2).1:Nat),(1+(aE l 8 (aE l 4 s.2).2).1:Nat),((aE l aTJ (aE l 8 (aE l 4 s.2).2).2).1:Nat)⟩]:=by rw[y]; rfl
  rw[e];refine⟨by simp[c],sL (P:=fun i (x:cS)=>x.name=[109]++cC i∧∃ e p w:Nat,x.aTS=e∧1≤e∧e≤4∧x.port=p∧1≤p∧p≤8∧x.law=w∧w<aTJ) u ?_⟩;rw[c];have k1:=bZ l (show 0<4 by decide) s.2;have k2:=bZ l (show 0<8 by decide) (aE l 4 s.2).2;have A:=bZ l d (aE l 8 (aE l 4 s.2).2).2;exact⟨rfl,_,_,_,rfl,by omega,by omega,rfl,by omega,by omega,rfl,A⟩
theorem yR (l:List Nat) (a:Nat):∃ n:Nat,(gX l a).1=n∧n≤3:=by
 have h:=bZ l (show 0<3 by decide) (aE l 3 a).2;unfold gX;simp only;split
 ·exact⟨1+(aE l 3 (aE l 3 a).2).1,rfl,by omega⟩
 ·exact⟨0,rfl,by omega⟩
theorem eR {n lo hi:Int} (c:lo≤n) (d:n≤hi):within n lo hi=true:=within_iff.2 ⟨c,d⟩
theorem aKS {w:List UInt8} {k m q s1 s2 s3 s4 g h:Nat} {ms:List Int} {p:List RF} {mc:Nat} (A:1≤k) (B:k≤2) (R:m≤2) (F:k≤q) (H:q≤k+m) (J:s1≤3) (y:s2≤3) (K:s3≤3) (M:s4≤3) (O:g≤8) (Q:h≤4)
  (l:p.length=max m 1) (i:∀ x∈p,tE x∧bM x=true)
  (E:mc≤2) (c:∃ f:Nat,f<mc∧(ms=[(f:Int)]∨mc=2∧ms=[(f:Int),1-(f:Int)])) :
  jQ mc ⟨w,(k:Nat),(m:Nat),(q:Nat),0,(s1:Nat),(s2:Nat),(s3:Nat),(s4:Nat),ms,p,mkT (g:Nat) ((8:Nat):Int),mkT (h:Nat) ((1:Nat):Int)⟩=true ∧
  (⟨w,(k:Nat),(m:Nat),(q:Nat),0,(s1:Nat),(s2:Nat),(s3:Nat),(s4:Nat),ms,p,mkT (g:Nat) ((8:Nat):Int),mkT (h:Nat) ((1:Nat):Int)⟩:bT).Ok:=by
 have G:=SmF.mk' (a:=g) (b:=8) Om (by decide) (by decide);have Z:=SmF.mk' (a:=h) (b:=1) Om (by decide) (by decide);obtain⟨f,N,c⟩:=c;constructor
 ·unfold jQ MN CR;simp only[aVE,List.all_cons,List.all_nil,aWQ];refine⟨⟨⟨⟨⟨⟨⟨⟨eR Om Om,eR Om Om⟩,decide_eq_true Om⟩,eR Om Om⟩,rfl⟩,eR Om Om,eR Om Om,eR Om Om,eR Om Om,eR Om Om⟩,?_⟩,⟨⟨⟨⟨decide_eq_true (by rw[l]; omega),?_⟩,G.lim⟩,G.one Om⟩,Z.lim⟩⟩,?_⟩
  ·rcases c with e | ⟨-,e⟩<;>rw[e]<;>rfl
  ·rw[aVD];intro x d;rw[(i x d).1.lim,(i x d).2];rfl
  ·rw[aVD];rcases c with rfl | ⟨rfl,rfl⟩
   ·intro j u;simp only[aWH,aXD,aVM] at u;have:j=0:=Om;subst this;rw[aVE];exact⟨eR (by simp) (by simp; omega),by simp⟩
   ·intro j u;simp only[aWH,aXD,aVM] at u;have:j=0∨j=1:=Om;rcases this with rfl | rfl
    ·rw[aVE];exact⟨eR (by simp) (by simp; omega),by simp⟩
    ·rw[aVE];refine⟨eR (by simp; omega) (by simp; omega),?_⟩;have:¬ (1-(f:Int)=f):=Om;simp[this]
 ·refine⟨by unfold dK; constructor<;>simp only<;>omega,by unfold dK; constructor<;>simp only<;>omega,by unfold dK; constructor<;>simp only<;>omega,?_,?_,⟨?_,fun x d=>(i x d).1.ok⟩,G.ok,Z.ok⟩
  ·show ms.length≤_;rcases c with e | ⟨-,e⟩<;>rw[e]<;>simp
  ·show ∀ x∈ms,dK x;unfold dK;rcases c with e | ⟨y,e⟩<;>rw[e]<;>intro x d<;>simp only[aVC,aVK,or_false] at d
   ·subst d; omega
   ·rcases d with rfl | rfl<;>omega
  ·show p.length≤_;rw[l]; omega
theorem Gu (l:List Nat) {mc:Nat} (x:0<mc) (y:mc≤2) (i a:Nat):(mL l mc i a).1.name=[112]++cC i∧jQ mc (mL l mc i a).1=true∧(mL l mc i a).1.Ok:=by
 refine⟨rfl,?_⟩;have H:=bZ l (show 0<2 by decide) a;have J:=bZ l (show 0<3 by decide) (aE l 2 a).2;have F:=bZ l (show 0<4 by decide) (aE l 3 (aE l 2 a).2).2;unfold mL;simp only;generalize aE l 2 a=k at *
 generalize aE l 3 k.2=m at *
 generalize aE l 4 m.2=h at *
 have K:=bZ l (Om:0<m.1+1) h.2;generalize aE l (m.1+1) h.2=q at *
 obtain⟨r1,r2⟩:=acS l q.2 (max m.1 1);generalize kP l q.2 (max m.1 1)=r at *
 have E:=bZ l (show 0<9 by decide) r.2;generalize aE l 9 r.2=g at *
 obtain⟨M,e,b1⟩:=yR l g.2;generalize gX l g.2=s1 at *
 obtain⟨N,p,b2⟩:=yR l s1.2;generalize gX l s1.2=s2 at *
 obtain⟨O,u,c⟩:=yR l s2.2;generalize gX l s2.2=s3 at *
 obtain⟨Q,w,d⟩:=yR l s3.2;generalize gX l s3.2=s4 at *
 have A:=bZ l x s4.2;generalize aE l mc s4.2=f at *
 generalize aE l 2 f.2=b at *
 rw[e,p,u,w];refine aKS Om Om Om Om Om b1 b2 c d Om Om r1 r2 y ⟨f.1,A,?_⟩;split
 ·rename_i B;split
  ·exact .inr ⟨by omega,rfl⟩
  ·exact .inl rfl
 ·exact .inl rfl
theorem CQ (l:List Nat) {mc:Nat} (c:0<mc) (d:mc≤2) (a:Nat):∀ n,(dW l mc a n).1.length=n∧∀ i (hi:i<(dW l mc a n).1.length),(dW l mc a n).1[i].name=[112]++cC i∧jQ mc (dW l mc a n).1[i]=true∧(dW l mc a n).1[i].Ok
 | 0=>⟨rfl,fun i hi=>absurd hi (by simp[dW])⟩
 | n+1=>by obtain⟨k1,k2⟩:=CQ l c d a n;have e:(dW l mc a (n+1)).1=(dW l mc a n).1++[(mL l mc n (dW l mc a n).2).1]:=rfl;rw[e];refine⟨by simp[k1],sL (P:=fun i (x:bT)=>x.name=[112]++cC i∧jQ mc x=true∧x.Ok) k2 ?_⟩;rw[k1];exact Gu l c d n _
theorem IB (l:List Nat) {pc:Nat} (c:0<pc) (a:Nat):∀ n,(eP l pc a n).1.length=n∧∀ i (hi:i<(eP l pc a n).1.length),(eP l pc a n).1[i].name=[118]++cC i∧∃ p:Nat,(eP l pc a n).1[i].aTO=p∧p<pc
 | 0=>⟨rfl,fun i hi=>absurd hi (by simp[eP])⟩
 | n+1=>by obtain⟨k1,k2⟩:=IB l c a n;have e:(eP l pc a (n+1)).1=(eP l pc a n).1++[⟨[118]++cC n,((aE l pc (eP l pc a n).2).1:Nat)⟩]:=rfl;rw[e];refine⟨by simp[k1],sL (P:=fun i (x:eT)=>x.name=[118]++cC i∧∃ p:Nat,x.aTO=p∧p<pc) k2 ?_⟩;rw[k1];exact⟨rfl,_,rfl,bZ l c _⟩
abbrev lvs (ds:List cF):List Int:=ds.map cF.level
def aPS (ds:List cF) (i:Nat) (d:cF):Prop:=∃ lev p u:Nat,d.name=[lL lev]++cC (i+1)∧d.level=lev∧1≤lev∧lev≤4∧d.parent=p∧p≤i∧(lvs ds)[p]?=some ((lev:Int)-1)∧d.aTW=u∧1≤u∧u≤16∧tE d.aTR
def aJN (ds:List cF) (mc i:Nat) (d:dL):Prop:=∃ m c:Nat,d.name=[100]++cC i∧d.model=m∧m<mc∧d.machine=c∧(lvs ds)[c]?=some 4
structure GV (mc aTC:Nat) (s:GS):Prop where
 len:s.aTL.length≤35
 aTV:s.aTV.length≤aTC
 root:s.aTL[0]?=some mG
 dom:∀ i (hi:i+1<s.aTL.length),aPS s.aTL i s.aTL[i+1]
 drv:∀ i (hi:i<s.aTV.length),aJN s.aTL mc i s.aTV[i]
theorem GV.a {mc aTC:Nat} {s:GS} (h:GV mc aTC s) (x:Nat):GV mc aTC { s with a:=x }:=⟨h.len,h.aTV,h.root,h.dom,h.drv⟩
theorem Mr (l:List Nat) {mc aTC dom:Nat} (e:0<mc) {s:GS} (h:GV mc aTC s) (u:(lvs s.aTL)[dom]?=some 4):∀ n,GV mc aTC (jX l mc aTC dom s n)∧(jX l mc aTC dom s n).aTL=s.aTL
 | 0=>⟨h,rfl⟩
 | n+1=>by
  obtain⟨c,p⟩:=Mr l e h u n;simp only[jX];generalize jX l mc aTC dom s n=t at *
  split
  ·rename_i hlt;refine⟨⟨c.len,by simp only[aUS,aUX]; omega,c.root,c.dom,?_⟩,p⟩;refine sL (P:=fun i d=>aJN t.aTL mc i d) c.drv ?_;exact⟨_,dom,rfl,rfl,bZ l e _,rfl,by rw[p]; exact u⟩
  ·exact⟨c,p⟩
theorem zQ {ds:List cF} {p:Nat} {x:Int} {t:List cF} (h:(lvs ds)[p]?=some x):(lvs (ds++t))[p]?=some x:=by
 unfold lvs at *
 rw[aVT,aXI]
 ·exact h
 ·exact (aVW.1 h).1
theorem aES (l:List Nat) {mc aTC dom level:Nat} {s:GS} (h:GV mc aTC s) (y:1≤level) (J:level≤4) (B:(lvs s.aTL)[dom]?=some ((level:Int)-1)) (E:qM aTC s=false) :
  GV mc aTC (nN l level dom s)∧(∃ t,(nN l level dom s).aTL=s.aTL++t)∧(nN l level dom s).aTL.length=s.aTL.length+1∧(lvs (nN l level dom s).aTL)[s.aTL.length]?=some (level:Int):=by
 unfold qM at E;simp only[Bool.or_eq_false_iff,decide_eq_false_iff_not] at E;have H:dom<s.aTL.length:=by
  have:=(aVW.1 B).1
  rwa [aUN] at this
 have M:=bZ l (show 0<16 by decide) s.a;have K:=bZ l (show 0<6 by decide) (aE l 3 (aE l 16 s.a).2).2;unfold nN;simp only;generalize aE l 16 s.a=u at *
 generalize aE l 3 u.2=t at *
 generalize aE l 6 t.2=k at *
 have A:tE (if t.1=0 then (mkT 1 ((2+k.1:Nat):Int),k.2) else (jY,t.2)).1:=by
  split
  ·exact (SmF.mk' (a:=1) (b:=2+k.1) Om Om Om).o
  ·exact qC.o
 generalize (if t.1=0 then (mkT 1 ((2+k.1:Nat):Int),k.2) else (jY,t.2))=sh at *
 refine⟨⟨by simp only[aUS,aUX]; omega,h.aTV,?_,?_,fun i hi=>?_⟩,⟨_,rfl⟩,by simp,?_⟩
 ·rw[aXI Om]; exact h.root
 ·intro i hi;simp only[aUS,aUX] at hi;by_cases hlt:i+1<s.aTL.length
  ·rw[aYM hlt];obtain⟨lev,p,v,d,e,w,x,h5,F,h7,h8⟩:=h.dom i hlt;exact⟨lev,p,v,d,e,w,x,h5,F,zQ h7,h8⟩
  ·have:i+1=s.aTL.length:=Om;rw[aYL Om];simp only[List.getElem_singleton];exact⟨level,dom,1+u.1,by rw[this],rfl,y,J,rfl,by omega,zQ B,rfl,by omega,by omega,A⟩
 ·obtain⟨m,c,d,e,w,x,h5⟩:=h.drv i hi;exact⟨m,c,d,e,w,x,zQ h5⟩
 ·unfold lvs;rw[aVT,aXF (by rw[aUN]; exact aUU _),aUN,aXQ];rfl
theorem Ms (l:List Nat) {mc aTC dom level:Nat} (e:1≤level) (A:level≤4) {rec:Nat→GS→GS}
  (c:∀ d t,GV mc aTC t→(lvs t.aTL)[d]?=some (level:Int)→GV mc aTC (rec d t)∧∃ u,(rec d t).aTL=t.aTL++u) {s:GS} (h:GV mc aTC s) (y:(lvs s.aTL)[dom]?=some ((level:Int)-1)) :
  ∀ n,GV mc aTC (gJ l level aTC dom rec s n)∧∃ u,(gJ l level aTC dom rec s n).aTL=s.aTL++u
 | 0=>⟨h,[],by simp[gJ]⟩
 | n+1=>by
  obtain⟨x,u,i⟩:=Ms l e A c h y n;simp only[gJ];generalize gJ l level aTC dom rec s n=t at *
  split
  ·exact⟨x,u,i⟩
  ·rename_i B;have p:(lvs t.aTL)[dom]?=some ((level:Int)-1):=by rw[i]; exact zQ y
   obtain⟨k1,⟨v,k2⟩,E,F⟩:=aES l x e A p (by simpa using B);obtain⟨H,w,J⟩:=c ((nN l level dom t).aTL.length-1) (nN l level dom t) k1 (by rw[E,Nat.add_sub_cancel]; exact F);exact⟨H,u++(v++w),by rw[J,k2,i]; simp⟩
theorem Mt (l:List Nat) {mc aTC:Nat} (c:0<mc):∀ (k:Nat),k≤4→∀ (dom:Nat) {s:GS},GV mc aTC s→(lvs s.aTL)[dom]?=some (4-(k:Int))→GV mc aTC (eX l mc aTC k dom s)∧∃ u,(eX l mc aTC k dom s).aTL=s.aTL++u
 | 0,_,dom,s,h,e=>by simp only[eX];obtain⟨p,w⟩:=Mr l c (h.a (aE l 2 s.a).2) e (1+(aE l 2 s.a).1);exact⟨p,[],by rw[w]; simp⟩
 | k+1,y,dom,s,h,e=>by
  simp only[eX];refine Ms l Om Om (fun d t x i=>Mt l c k Om d x ?_) (h.a (aE l 2 s.a).2) ?_ _
  ·rw[i]; congr 1; omega
  ·rw[e]; congr 1; omega
theorem zx (lev:Nat) (c:1≤lev) (d:lev≤4):fB (lL lev).toNat=true∧lL lev≠100:=by
 have:lev=1∨lev=2∨lev=3∨lev=4:=Om;rcases this with rfl | rfl | rfl | rfl<;>decide
theorem pq (c:UInt8) {k:Nat} (d:k<100):WZ (([c]++cC k).drop 1)=k:=by
 show WZ (cC k)=k;rw[SK d];exact (Jv ⟨k,d⟩).1
theorem Wo {mc aTC:Nat} {s:GS} (h:GV mc aTC s) (K:aTC≤60):distinct ((s.aTL.drop 1).map cF.name++s.aTV.map dL.name)=true:=by
 have w:∀ i (hi:i<((s.aTL.drop 1).map cF.name).length),∃ lev:Nat,1≤lev∧lev≤4∧((s.aTL.drop 1).map cF.name)[i]=[lL lev]++cC (i+1):=by intro i hi;rw[aUN,aWR] at hi;obtain⟨lev,p,u,d,-,F,l,-⟩:=h.dom i Om;refine⟨lev,F,l,?_⟩;rw[aWD,List.getElem_drop];simp only[Nat.add_comm 1 i];exact d
 have hB:∀ i (hi:i<(s.aTV.map dL.name).length),(s.aTV.map dL.name)[i]=[100]++cC i:=by intro i hi;rw[aUN] at hi;obtain⟨m,c,d,-⟩:=h.drv i hi;rw[aWD]; exact d
 have M:((s.aTL.drop 1).map cF.name).length≤40:=by rw[aUN,aWR]; have:=h.len; omega
 have N:(s.aTV.map dL.name).length≤60:=by rw[aUN]; have:=h.aTV; omega
 generalize (s.aTL.drop 1).map cF.name=A at *
 generalize s.aTV.map dL.name=B at *
 refine XH ?_ ?_
 ·intro x hx;rcases aWI.1 hx with hx | hx
  ·obtain⟨i,hi,rfl⟩:=aVX hx;obtain⟨lev,d,l,e⟩:=w i hi;rw[e];exact u6 rfl (zx lev d l).1 rfl (by simp) Om
  ·obtain⟨i,hi,rfl⟩:=aVX hx;rw[hB i hi];exact u6 rfl (by decide) rfl (by simp) Om
 ·rw[aXJ];refine⟨?_,?_,?_⟩
  ·refine TD (g:=fun s=>WZ (s.drop 1)-1) fun i hi=>?_;obtain⟨lev,-,-,e⟩:=w i hi;rw[e,pq _ Om];omega
  ·refine TD (g:=fun s=>WZ (s.drop 1)) fun i hi=>?_;rw[hB i hi];exact pq _ Om
  ·intro x hx y J e;obtain⟨i,hi,rfl⟩:=aVX hx;obtain⟨j,H,rfl⟩:=aVX J;obtain⟨lev,d,l,E⟩:=w i hi;rw[E,hB j H] at e;exact (zx lev d l).2 (List.cons.inj e).1
theorem aAK {mc aTC a:Nat}:GV mc aTC ⟨[mG],[],a⟩ :=
 ⟨by simp,aUT _,rfl,fun i hi=>absurd hi (by simp),fun i hi=>absurd hi (by simp)⟩
theorem aFU {mc aTC:Nat} {s:GS} (h:GV mc aTC s) (f:aD) (y:f.aTF=s.aTL):oI f=true:=by
 have w:=h.root;have l:=h.dom;unfold oI;rw[y];cases c:s.aTL with
 | nil=>rw[c] at w; cases w
 | cons r t =>
  rw[c] at w;have:r=mG:=by simpa using w
  subst this;show BZ f mG t=true;unfold BZ;simp only[aVE];refine⟨⟨⟨⟨⟨⟨rfl,rfl⟩,rfl⟩,rfl⟩,qC.lim⟩,by rw[show mG.aTR=jY from rfl,qC.zero]; rfl⟩,?_⟩;rw[aVD];intro i hi;rw[aVM] at hi;rw[aVB hi];obtain⟨lev,p,u,A,x,E,F,h5,H,h7,h8,J,B,d⟩:=l i (by rw[c]; simp; omega);have e:s.aTL[i+1]'(by rw[c]; simp; omega)=t[i]:=by simp[c]
  rw[e] at A x h5 h8 d;show JC f i t[i]=true;unfold JC;simp only[aVE];refine⟨⟨⟨⟨?_,?_⟩,?_⟩,?_⟩,d.lim⟩
  ·rw[h5]; exact eR Om Om
  ·rw[h5,x,y,aWK,aUY,h7,qz Om Om];exact decide_eq_true rfl
  ·rw[x]; exact eR Om Om
  ·rw[h8]; exact eR Om Om
theorem RY (l:List Nat) (aTC aTE a:Nat) (hd:aTC≤24) (hv:aTE≤12) :
  dJ (gP l aTC aTE a).1=true∧(gP l aTC aTE a).1.Ok:=by
 unfold gP;simp only;have he:=bZ l (show 0<2 by decide) a;generalize aE l 2 a=e at *
 have γ:=bZ l (show 0<2 by decide) e.2;generalize aE l 2 e.2=F at *
 obtain⟨w1,V⟩:=XO l F.2 (1+F.1);generalize gV l F.2 (1+F.1)=aTJ at *
 have δ:=bZ l (show 0<2 by decide) aTJ.2;generalize aE l 2 aTJ.2=B at *
 obtain⟨Y,Z⟩:=QC l (1+F.1) Om B.2 (1+B.1);generalize eN l (1+F.1) B.2 (1+B.1)=aTD at *
 obtain⟨G,-⟩:=Mt l (mc:=1+B.1) (aTC:=aTC) Om 4 (by decide) 0 (s:=⟨[mG],[],aTD.2⟩) aAK rfl;generalize eX l (1+B.1) aTC 4 0 ⟨[mG],[],aTD.2⟩=g at *
 have ε:=bZ l (show 0<2 by decide) g.a;generalize aE l 2 g.a=pl at *
 obtain⟨p1,S⟩:=CQ l (mc:=1+B.1) Om Om pl.2 (1+pl.1);generalize dW l (1+B.1) pl.2 (1+pl.1)=pols at *
 have ζ:=bZ l (Om:0<aTE+1) pols.2;generalize aE l (aTE+1) pols.2=K at *
 obtain⟨v1,U⟩:=IB l (pc:=1+pl.1) Om K.2 K.1;generalize eP l (1+pl.1) K.2 K.1=vols at *
 have g1:=G.len;have g2:=G.aTV;have R:∀ f:aD,f.aTF=g.aTL→oI f=true:=fun f hf=>aFU G f hf;have d:∀ n:Nat,n≤1000→n≤9223372036854775807:=fun n h=>by omega
 have E:∀ x∈g.aTV,∃ m c:Nat,x.model=m∧m<1+B.1∧x.machine=c∧c<g.aTL.length∧(lvs g.aTL)[c]?=some 4:=by
  intro x w;obtain⟨i,hi,rfl⟩:=aVX w;obtain⟨m,c,-,Q,W,X,h5⟩:=G.drv i hi;refine⟨m,c,Q,W,X,?_,h5⟩;have:=(aVW.1 h5).1
  rwa [aUN] at this
 constructor
 ·unfold dJ;rw[R _ rfl];simp only[aVE,aWQ];refine⟨⟨?_,⟨⟨⟨⟨?_,?_⟩,?_⟩,?_⟩,?_⟩⟩,⟨⟨⟨?_,?_⟩,Wo G Om⟩,?_⟩,?_⟩
  ·unfold nT;simp only[aVE];exact⟨⟨⟨⟨⟨⟨eR Om Om,decide_eq_true Om⟩,decide_eq_true Om⟩,decide_eq_true Om⟩,decide_eq_true Om⟩,decide_eq_true Om⟩,decide_eq_true Om⟩
  ·exact zD fun i hi=>(V i hi).2.1
  ·refine zD fun i hi=>?_;obtain⟨-,x,y,z,A,H,J,M,N,e6,e7,e8⟩:=Z i hi;unfold kO;simp only[aVE];rw[A,M,e7,w1];exact⟨⟨eR Om Om,eR Om Om⟩,eR Om Om⟩
  ·rw[aVD];intro x w;obtain⟨m,c,A,H,J,M,N⟩:=E x w;unfold jD;simp only[aVE];rw[A,J,Y,aWK,aUY,N];exact⟨⟨eR Om Om,eR Om Om⟩,rfl⟩
  ·refine zD fun i hi=>?_;rw[Y]; exact (S i hi).2.1
  ·refine zD fun i hi=>?_;obtain⟨-,p,A,H⟩:=U i hi;unfold oP;rw[A,p1];exact eR Om Om
  ·refine tN (p:=[108,97,119]) rfl (by decide) (by decide) (by decide) (by rw[aUN]; omega) fun i hi=>?_;rw[aWD]; exact (V i (by simpa using hi)).1
  ·refine tN (p:=[109]) rfl (by decide) (by decide) (by decide) (by rw[aUN]; omega) fun i hi=>?_;rw[aWD]; exact (Z i (by simpa using hi)).1
  ·refine tN (p:=[112]) rfl (by decide) (by decide) (by decide) (by rw[aUN]; omega) fun i hi=>?_;rw[aWD]; exact (S i (by simpa using hi)).1
  ·refine tN (p:=[118]) rfl (by decide) (by decide) (by decide) (by rw[aUN]; omega) fun i hi=>?_;rw[aWD]; exact (U i (by simpa using hi)).1
 ·refine⟨d aTJ.1.length Om,d aTD.1.length Om,d g.aTL.length Om,d g.aTV.length Om,d pols.1.length Om,d vols.1.length Om,?_,?_,?_,?_,?_⟩
  ·intro x w;obtain⟨i,hi,rfl⟩:=aVX w;exact (V i hi).2.2
  ·intro x w;obtain⟨i,hi,rfl⟩:=aVX w;rcases aWZ i with rfl | hp
   ·have:g.aTL[0]=mG:=by have:=G.root; rw[aVB hi] at this; exact aXC.inj this
    rw[this];exact⟨qC.ok,by unfold dK; decide,by unfold dK; decide⟩
   ·obtain⟨k,rfl⟩:∃ k,i=k+1:=⟨i-1,by omega⟩;obtain⟨lev,p,u,h1,Q,W,X,h5,h6,h7,h8,h9,α,O⟩:=G.dom k hi;have β:k+1<g.aTL.length:=hi;rw[Q,h5];exact⟨O.ok,by unfold dK; omega,by unfold dK; omega⟩
  ·intro x w;obtain⟨m,c,A,H,J,M,N⟩:=E x w;rw[A,J];unfold dK; omega
  ·intro x w;obtain⟨i,hi,rfl⟩:=aVX w;exact (S i hi).2.2
  ·intro x w;obtain⟨i,hi,rfl⟩:=aVX w;obtain⟨-,p,A,H⟩:=U i hi;rw[A];unfold dK; omega


theorem R1 {C:Ctx} (f:aD) (d:VF f) (v:Nat) (h:v<f.aTE.length) :
  NI.wp C (aU alN.res (bX (.int .i64 (fQ f v)))) (PF.args [.agg f.cells,.int .i64 v]) .nil:=by
 obtain⟨i,e⟩:=oN d h;have c:=d.aTO _ (aUQ i);rw[e] at c;have l:IntKind.i64.wrap ((eZ f v).k+(eZ f v).m)=(eZ f v).k+(eZ f v).m:=wrap_i64 Om Om;simp only[go_sem,NI,R2,alN];refine bS .nil dT a_ ?_;simp only[go_sem,R3,OR h,d.Rj h,wJ i,e];refine aO fun o p=>?_;simp only[go_sem,R4,l];refine⟨a_,?_⟩;exact nF (n:=(eZ f v).k+(eZ f v).m) Ev rfl
abbrev iiv (l:List Int):List (List PV):=l.map fun x=>[PV.int .i64 x]
def aDL (l:List Nat) (v:PV) (o a:Nat) (f:aD) (r:PV) (H:PH):Prop:=Co r (ints (rV l f a).1)∧H=PH.nil.set o (bA v (rV l f a).2)
theorem Ca (l:List Nat) {a:Nat} (h:a≤l.length):∀ k,(mY l a k).2≤l.length∧(mY l a k).1.length=k
 | 0=>⟨h,rfl⟩
 | k+1=>by obtain⟨c,d⟩:=Ca l h k;exact⟨bJ l 7 c,by simp only[mY,aUS,aUX,d]⟩
def Pd (f:aD) (o:Nat) (w:PV) (i:Nat):PF:=((((PF.nil.set 0 (.ptr o 2 0 0)).set 3 (.bL f.cells)).set 5 (w)).set 6 (.int .i64 i))
theorem azF {C:Ctx} (J:tF C) {l:List Nat} {v:PV} (T:Tp l v) (o a:Nat) (f:aD) (V:f.aTC.length≤1000) (M:a≤l.length):LQ.wp C (aU akH.res (aDL l v o a f)) (PF.args [.ptr o 2 0 0,.agg f.cells]) (PH.nil.set o (bA v a)):=by
 have K:aM (PH.nil.set o (bA v a)) [(o,bA v a)] []:=aM.nil.new (H:=PH.nil) rfl (bA v a);simp only[go_sem,LQ,Pf,akH,Pg];refine cR J T (o:=o) (n:=4) (a:=a) (by decide) M (by simp only[go_sem]; rfl) (K.at 0 rfl) ?_;have p:=K.set 0 rfl (bA v (aE l 4 a).2);rw[PH.set_set] at p;have E:=bJ l 4 M;have i:rV l f a=if (aE l 4 a).1=0 then ([],(aE l 4 a).2) else mY l (aE l 4 a).2 f.aTC.length:=rfl
 have B:∀ r H,aDL l v o a f r H↔Co r (ints (rV l f a).1)∧H=PH.nil.set o (bA v (rV l f a).2):=fun _ _=>Iff.rfl;generalize aE l 4 a=t at *
 by_cases N:t.1=0
 ·rw[if_pos N] at i;simp only[go_sem,bP (Om:(t.1:Int)=0),Ph];refine aX (vs:=[.aB]) (.inr rfl) (PH.nil.set o (bA v t.2)) Sq (e_ a_ (p.at 0 rfl)) ?_;rw[bQ,B,i];exact⟨.nil 1,rfl⟩
 rw[if_neg N] at i;have Q:=p.mI 1;simp only[go_sem,bG (Om:(t.1:Int)≠0),Pi,Pj];refine wp_loop (α:=Nat × PV × PH) (fun s=>Pd f o s.2.1 s.1) (fun s=>s.2.2) (fun s=>s.1≤f.aTC.length∧aM s.2.2 [(o,bA v (mY l t.2 s.1).2)] [(s.2.1,1,iiv (mY l t.2 s.1).1)]) (fun s=>f.aTC.length-s.1) (0,.aB,_) ⟨aUT _,Q⟩ ?_ b_ ?_
 ·unfold Pd;exact Lq
 rintro⟨k,w,U⟩ ⟨R,d⟩;simp only at R d ⊢;obtain⟨k1,k2⟩:=Ca l E k;simp only[go_sem,Pe,Pk,Pd,aUN];by_cases hlt:k<f.aTC.length
 ·have c:(k:Int)<(f.aTC.length:Nat):=Om;have e:mY l t.2 (k+1)=((mY l t.2 k).1++[((aE l 7 (mY l t.2 k).2).1:Int)-1],(aE l 7 (mY l t.2 k).2).2):=rfl;have X:=bZ l (show 0<7 by decide) (mY l t.2 k).2;generalize W:mY l t.2 k=s at *
  have F:IntKind.i64.wrap (((aE l 7 s.2).1:Int)-1)=((aE l 7 s.2).1:Int)-1:=wrap_i64 Om Om;have y:(1:Nat)*1≤16777216:=by decide
  simp only[go_sem,c,Pl];refine cR J T (o:=o) (n:=7) (a:=s.2) (by decide) k1 (by simp only[go_sem]; rfl) (d.at 0 rfl) ?_;have A:=d.set 0 rfl (bA v (aE l 7 s.2).2);simp only[go_sem,F,y];refine A.append 0 (src:=[[PV.int .i64 (((aE l 7 s.2).1:Int)-1)]]) rfl Sq (by unfold roomFor; rw[aUN,k2]; simp only[aUX,maxLen]; omega) fun S H' O _=>?_;simp only[go_sem,Pm,wZz k];refine aG (k+1,S,H') ⟨hlt,?_⟩ (by simp only; omega) ?_ b_
  ·simp only;rw[e];have:iiv (s.1++[((aE l 7 s.2).1:Int)-1])=iiv s.1++[[PV.int .i64 (((aE l 7 s.2).1:Int)-1)]]:=by simp[iiv]
   rw[this];exact O
  ·exact Lq
 ·have c:¬ (k:Int)<(f.aTC.length:Nat):=Om;have:k=f.aTC.length:=Om;subst this;rw[← i] at d;simp only[go_sem,c,Pn];rcases d.own 0 rfl with ⟨u,rfl⟩ | ⟨q,rs,rfl,_⟩
  ·refine aX (vs:=[.aB]) (.inr rfl) (PH.nil.set o (bA v (rV l f a).2)) Sq (e_ a_ (d.at 0 rfl)) ?_;rw[bQ,B];refine⟨?_,rfl⟩;unfold ints;rw[show (rV l f a).1.map (fun x=>[PV.int .i64 x])=[] from u];exact .nil 1
  ·obtain⟨rs,g1,g2,g3,-,g4⟩:=d.frz 0 rfl;refine vN (vs:=[.osl q 1 0 (iiv (rV l f a).1).length]) (.inr rfl) Sq (.step g1 (.done (H2:=PH.nil.set o (bA v (rV l f a).2)) ?_ (e_ a_ ?_)))
   ·rw[bQ,g3,B];exact⟨.refl _,rfl⟩
   ·have:=g4.at 0 rfl;rw[this];simp only[cB.frz,aVZ,aWS,T.frz];rfl
abbrev mW (l:List (List Int)):List (List PV):=l.map fun r=>[ints r]
theorem aGJ (l:List (List Int)):Flat (mW l):=oM fun r e c d=>by
 obtain⟨x,_,rfl⟩:=aVQ.1 e;rw[aWV] at d;subst d;rfl
theorem axY (l:List Nat) (aTC at_ i:Nat) {a:Nat} (h:a≤l.length):(pG l aTC at_ i a).2≤l.length:=by
 unfold pG;split
 ·exact h
 ·have:=bJ l 6 h;simp only;split
  ·exact bJ l aTC this
  ·split
   ·exact bJ l (aTC+1) this
   ·exact this
theorem AZ (l:List Nat) (aTC at_:Nat) {a:Nat} (h:a≤l.length):∀ k,(kR l aTC at_ a k).2≤l.length∧(kR l aTC at_ a k).1.length=k
 | 0=>⟨h,rfl⟩
 | k+1=>by obtain⟨c,d⟩:=AZ l aTC at_ h k;exact⟨axY l aTC at_ k c,by simp only[kR,aUS,aUX,d]⟩
theorem yC (l:List Nat) (f:aD) {a:Nat} (h:a≤l.length):∀ k,(dE l f a k).2≤l.length∧(dE l f a k).1.length=k
 | 0=>⟨h,rfl⟩
 | k+1=>by obtain⟨c,d⟩:=yC l f h k;exact⟨(AZ l _ _ (bJ l _ c) _).1,by simp only[dE,aUS,aUX,d]⟩
def ayW (f:aD) (o:Nat) (w:PV) (i:Nat):PF:=((((PF.nil.set 0 (.ptr o 2 0 0)).set 3 (.bL f.cells)).set 5 (w)).set 6 (.int .i64 i))
def jK (f:aD) (o:Nat) (w:PV) (i:Nat) (c:PV) (at_ k:Nat):PF:=(((((((PF.nil.set 0 (.ptr o 2 0 0)).set 3 (.bL f.cells)).set 5 (w)).set 6 (.int .i64 i)).set 7 (c)).set 8 (.int .i64 at_)).set 9 (.int .i64 k))
def ayX:aC:=(.seq (.region LM) (.seq (.seq (.region LN) (.cond (.tmp 34) (.seq (.region EN) (.seq (.region EO) (.block 4 (.seq (.region EP) (.cond (.tmp 44) (.region EQ) (.seq (.region wE) (.cond (.tmp 51) (.region ER) .skip))))))) .skip)) (.region wF)))
theorem aGN:EM=.seq (.seq (.region LL) (.cond (.tmp 28) .skip (.exit 2))) (.seq (.block 3 ayX) (.region ES)):=rfl
theorem ayY {C:Ctx} (N:tF C) {l:List Nat} {v:PV} (T:Tp l v) (o:Nat) (f:aD) (hd:f.aTC.length≤1000) (w J:PV) (i at_ k a:Nat) (α:at_≤2000) (hk:k≤2000) (V:a≤l.length) (L:List LI) (Q:bR) (F:PF) (H:PH)
  (x:(jK f o w i J at_ k).le F) (O:aM H [(o,bA v a)] L)
  (M:∀ d H',(jK f o w i J at_ k).le d→d 10=some (.int .i64 (pG l f.aTC.length at_ k a).1)→aM H' [(o,bA v (pG l f.aTC.length at_ k a).2)] L→aC.wp C (.region wF) Q d H') :
  aC.wp C ayX Q F H:=by
 unfold ayX;have f0:F 0=some (.ptr o 2 0 0):=x 0 _ (by unfold jK; simp only[go_sem]);have p:F 3=some (.bL f.cells):=x 3 _ (by unfold jK; simp only[go_sem]);have K:F 5=some w:=x 5 _ (by unfold jK; simp only[go_sem]);have f6:F 6=some (.int .i64 i):=x 6 _ (by unfold jK; simp only[go_sem]);have f7:F 7=some J:=x 7 _ (by unfold jK; simp only[go_sem]);have y:F 8=some (.int .i64 at_):=x 8 _ (by unfold jK; simp only[go_sem]);have A:F 9=some (.int .i64 k):=x 9 _ (by unfold jK; simp only[go_sem]);have e:∀ d:PF,d 0=some (.ptr o 2 0 0)→d 3=some (.bL f.cells)→d 5=some w→d 6=some (.int .i64 i)→d 7=some J→d 8=some (.int .i64 at_)→d 9=some (.int .i64 k)→(jK f o w i J at_ k).le d:=fun d X a3 a5 a6 a7 a8 Y=>by
  unfold jK
  (repeat' (first|exact d_|refine c_ ?_ ?_))<;>first|(simp only[go_sem,X,a3,a5,a6,a7,a8,Y]<;>rfl)|rfl
 have c:pG l f.aTC.length at_ k a=if f.aTC.length=0 then (-1,a) else if (aE l 6 a).1=0 then (((aE l f.aTC.length (aE l 6 a).2).1:Int),(aE l f.aTC.length (aE l 6 a).2).2) else if (aE l 6 a).1=1 then (((aE l (f.aTC.length+1) (aE l 6 a).2).1:Int)-1,(aE l (f.aTC.length+1) (aE l 6 a).2).2) else ((((at_+k)%f.aTC.length:Nat):Int),(aE l 6 a).2):=rfl
 simp only[go_sem,LM,LN,p,aUN];by_cases U:f.aTC.length=0
 ·rw[if_pos U] at c;have u:¬ (f.aTC.length:Int)>0:=Om;simp only[go_sem,u];refine M _ _ (e _ (by simp only[go_sem,f0]) (by simp only[go_sem,p]) (by simp only[go_sem,K]) (by simp only[go_sem,f6]) (by simp only[go_sem,f7]) (by simp only[go_sem,y]) (by simp only[go_sem,A])) ?_ ?_
  ·rw[c]; simp only[go_sem]
  ·rw[c]; exact O
 rw[if_neg U] at c;have u:(f.aTC.length:Int)>0:=Om;have Z:IntKind.i64.wrap ((at_:Int)+(k:Int))=((at_+k:Nat):Int):=by rw[wrap_i64 Om Om]; omega
 have W:=bJ l 6 V;have β:=bZ l (show 0<6 by decide) a;have hz:¬ (f.aTC.length:Int)=0:=Om;have em:Int.tmod ((at_+k:Nat):Int) (f.aTC.length:Nat)=(((at_+k)%f.aTC.length:Nat):Int):=Int.ofNat_tmod _ _;have e2:IntKind.i64.wrap ((f.aTC.length:Int)+1)=((f.aTC.length+1:Nat):Int):=dA Om;simp only[go_sem,u,EN,y,A,p,aUN,Z,hz,em,EO,f0];refine cR N T (o:=o) (n:=6) (a:=a) (by decide) V (by simp only[go_sem,f0]; rfl) (O.at 0 rfl) ?_;have B:=O.set 0 rfl (bA v (aE l 6 a).2);generalize aE l 6 a=t at *
 simp only[go_sem,EP];by_cases R:t.1=0
 ·rw[if_pos R] at c;simp only[go_sem,bP (Om:(t.1:Int)=0),EQ,f0,p,aUN];refine cR N T (o:=o) (n:=f.aTC.length) (a:=t.2) Om W (by simp only[go_sem,f0]) (B.at 0 rfl) ?_;have E:=B.set 0 rfl (bA v (aE l f.aTC.length t.2).2);rw[PH.set_set] at E;simp only[go_sem];refine M _ _ (e _ (by simp only[go_sem,f0]) (by simp only[go_sem,p]) (by simp only[go_sem,K]) (by simp only[go_sem,f6]) (by simp only[go_sem,f7]) (by simp only[go_sem,y]) (by simp only[go_sem,A])) ?_ ?_
  ·rw[c]; simp only[go_sem]
  ·rw[c]; exact E
 rw[if_neg R] at c;by_cases S:t.1=1
 ·rw[if_pos S] at c;have nd:=bZ l (Om:0<f.aTC.length+1) t.2;have e3:IntKind.i64.wrap (((aE l (f.aTC.length+1) t.2).1:Int)-1)=((aE l (f.aTC.length+1) t.2).1:Int)-1:=wrap_i64 Om Om;simp only[go_sem,bG (Om:(t.1:Int)≠0),wE,bP (Om:(t.1:Int)=1),ER,f0,p,aUN,e2];refine cR N T (o:=o) (n:=f.aTC.length+1) (a:=t.2) Om W (by simp only[go_sem,f0]) (B.at 0 rfl) ?_;have E:=B.set 0 rfl (bA v (aE l (f.aTC.length+1) t.2).2);rw[PH.set_set] at E;simp only[go_sem,e3];refine M _ _ (e _ (by simp only[go_sem,f0]) (by simp only[go_sem,p]) (by simp only[go_sem,K]) (by simp only[go_sem,f6]) (by simp only[go_sem,f7]) (by simp only[go_sem,y]) (by simp only[go_sem,A])) ?_ ?_
  ·rw[c]; simp only[go_sem]
  ·rw[c]; exact E
 ·rw[if_neg S] at c;simp only[go_sem,bG (Om:(t.1:Int)≠0),wE,bG (Om:(t.1:Int)≠1)];refine M _ _ (e _ (by simp only[go_sem,f0]) (by simp only[go_sem,p]) (by simp only[go_sem,K]) (by simp only[go_sem,f6]) (by simp only[go_sem,f7]) (by simp only[go_sem,y]) (by simp only[go_sem,A])) ?_ ?_
  ·rw[c]; simp only[go_sem]
  ·rw[c]; exact B
theorem aGO {C:Ctx} (J:tF C) {l:List Nat} {v:PV} (T:Tp l v) (o:Nat) (f:aD) (Z:f.aTC.length≤1000) (i n:Nat) (hn:n≤1000) (B:aH C 82 [.agg f.cells,.int .i64 i] .nil (aI (.int .i64 n))) (w:PV) (R:List (List PV)) (at_ a:Nat) (Y:at_≤1000) (X:a≤l.length) (K:bR) (F:PF) (H:PH)
  (V:(jK f o w i .aB at_ 0).le F) (x:aM H [(o,bA v a)] [(w,1,R),(.aB,1,iiv [])])
  (W:∀ u E H',(jK f o w i u at_ n).le E→aM H' [(o,bA v (kR l f.aTC.length at_ a n).2)] [(w,1,R),(u,1,iiv (kR l f.aTC.length at_ a n).1)]→K (.exit 2) E H') :
  aC.wp C (.loop EM) K F H:=by
 refine wp_loop (α:=Nat × PV × PH) (fun s=>jK f o w i s.2.1 at_ s.1) (fun s=>s.2.2) (fun s=>s.1≤n∧aM s.2.2 [(o,bA v (kR l f.aTC.length at_ a s.1).2)] [(w,1,R),(s.2.1,1,iiv (kR l f.aTC.length at_ a s.1).1)]) (fun s=>n-s.1) (0,.aB,H) ⟨aUT _,x⟩ V b_ ?_;rintro⟨k,u,H0⟩ ⟨hk,x⟩;simp only at hk x ⊢;obtain⟨k1,k2⟩:=AZ l f.aTC.length at_ X k;have p:kR l f.aTC.length at_ a (k+1)=((kR l f.aTC.length at_ a k).1++[(pG l f.aTC.length at_ k (kR l f.aTC.length at_ a k).2).1],(pG l f.aTC.length at_ k (kR l f.aTC.length at_ a k).2).2):=rfl;generalize hs:kR l f.aTC.length at_ a k=s at *
 rw[aGN];simp only[go_sem,LL,jK];refine aA B Sq ?_;by_cases hlt:k<n
 ·have d:(k:Int)<(n:Nat):=Om;have A:(1:Nat)*1≤16777216:=by decide
  simp only[go_sem,d];refine ayY (C:=C) J T o f Z w u i at_ k s.2 Om Om k1 _ _ _ _ (by unfold jK; exact Lq) x ?_;intro e H1 c y U;have f0:e 0=some (.ptr o 2 0 0):=c 0 _ (by unfold jK; simp only[go_sem]);have M:e 3=some (.bL f.cells):=c 3 _ (by unfold jK; simp only[go_sem]);have N:e 5=some w:=c 5 _ (by unfold jK; simp only[go_sem]);have f6:e 6=some (.int .i64 i):=c 6 _ (by unfold jK; simp only[go_sem]);have f7:e 7=some u:=c 7 _ (by unfold jK; simp only[go_sem]);have O:e 8=some (.int .i64 at_):=c 8 _ (by unfold jK; simp only[go_sem]);have Q:e 9=some (.int .i64 k):=c 9 _ (by unfold jK; simp only[go_sem]);simp only[go_sem,wF,f7,y,A];refine U.append 1 (src:=[[PV.int .i64 (pG l f.aTC.length at_ k s.2).1]]) rfl Sq (by unfold roomFor; rw[aUN,k2]; simp only[aUX,maxLen]; omega) fun w' H' S _=>?_;simp only[go_sem,ES,Q,wZz k];refine aG (k+1,w',H') ⟨hlt,?_⟩ (by simp only; omega) ?_ b_
  ·simp only;rw[p];have:iiv (s.1++[(pG l f.aTC.length at_ k s.2).1])=iiv s.1++[[PV.int .i64 (pG l f.aTC.length at_ k s.2).1]]:=by simp[iiv]
   rw[this];exact S
  ·(repeat' (first|exact d_|refine c_ ?_ ?_))<;>first|(simp only[go_sem,f0,M,N,f6,O]<;>rfl)|rfl
 ·have d:¬ (k:Int)<(n:Nat):=Om;have:k=n:=Om;subst this;simp only[go_sem,d];refine W u _ _ ?_ (by rw[hs]; exact x);unfold jK;exact Lq
def Xm (l:List Nat) (v:PV) (o a:Nat) (f:aD) (r:PV) (H:PH):Prop:=Co r (lay (dE l f a f.aTE.length).1)∧H=PH.nil.set o (bA v (dE l f a f.aTE.length).2)
theorem akD {C:Ctx} (M:tF C) {l:List Nat} {v:PV} (T:Tp l v) (o a:Nat) (f:aD) (hV:VF f) (F:∀ i,i<f.aTE.length→aH C 82 [.agg f.cells,.int .i64 i] .nil (aI (.int .i64 (fQ f i)))) (ha:a≤l.length) :
  BA.wp C (aU uw.res (Xm l v o a f)) (PF.args [.ptr o 2 0 0,.agg f.cells]) (PH.nil.set o (bA v a)):=by
 have hd:=hV.small.aTC;have γ:=hV.small.aTE;have h0:aM (PH.nil.set o (bA v a)) [(o,bA v a)] [(.aB,1,mW [])]:=(aM.nil.new (H:=PH.nil) rfl (bA v a)).mI 1;have O:∀ r H,Xm l v o a f r H↔Co r (lay (dE l f a f.aTE.length).1)∧H=PH.nil.set o (bA v (dE l f a f.aTE.length).2):=fun _ _=>Iff.rfl;simp only[go_sem,BA,l5,uw,l6,l7];refine wp_loop (α:=Nat × PV × PH) (fun s=>ayW f o s.2.1 s.1) (fun s=>s.2.2) (fun s=>s.1≤f.aTE.length∧aM s.2.2 [(o,bA v (dE l f a s.1).2)] [(s.2.1,1,mW (dE l f a s.1).1)]) (fun s=>f.aTE.length-s.1) (0,.aB,_) ⟨aUT _,h0⟩ ?_ b_ ?_
 ·unfold ayW;exact Lq
 rintro⟨i,w,H0⟩ ⟨hi,p⟩;simp only at hi p ⊢;obtain⟨k1,k2⟩:=yC l f ha i;simp only[go_sem,XS,l8,ayW,aUN];by_cases hlt:i<f.aTE.length
 ·have d:(i:Int)<(f.aTE.length:Nat):=Om;obtain⟨hp,he⟩:=oN hV hlt;have y:=hV.aTO _ (aUQ hp);rw[he] at y;obtain⟨n,J⟩:∃ n:Nat,fQ f i=n:=⟨(fQ f i).toNat,by unfold fQ; omega⟩;have β:1≤n∧n≤8:=by unfold fQ at J; omega
  have x:=F i hlt;rw[J] at x;have e:dE l f a (i+1)=((dE l f a i).1++[(kR l f.aTC.length (aE l (f.aTC.length+1) (dE l f a i).2).1 (aE l (f.aTC.length+1) (dE l f a i).2).2 (fQ f i).toNat).1],(kR l f.aTC.length (aE l (f.aTC.length+1) (dE l f a i).2).1 (aE l (f.aTC.length+1) (dE l f a i).2).2 (fQ f i).toNat).2):=rfl;rw[J,aWK] at e;generalize hs:dE l f a i=s at *
  have U:IntKind.i64.wrap ((f.aTC.length:Int)+1)=((f.aTC.length+1:Nat):Int):=dA Om;have δ:=bZ l (Om:0<f.aTC.length+1) s.2;have A:=bJ l (f.aTC.length+1) k1;simp only[go_sem,d,l9,ma,aUN,U];refine cR M T (o:=o) (n:=f.aTC.length+1) (a:=s.2) Om k1 Sq (p.at 0 rfl) ?_;have h1:=(p.set 0 rfl (bA v (aE l (f.aTC.length+1) s.2).2)).mI 1;generalize aE l (f.aTC.length+1) s.2=t at *
  obtain⟨r1,r2⟩:=AZ l f.aTC.length t.1 A n;simp only[go_sem,mb];refine aGO (C:=C) M T o f Om i n Om x w (mW s.1) t.1 t.2 Om A _ _ _ (by unfold jK; exact Lq) h1 ?_;intro w7 u H1 c N;generalize Q:kR l f.aTC.length t.1 t.2 n=row at *
  obtain⟨q,rfl⟩:=(N.own 1 rfl).one (by rw[aUN]; omega);have f0:u 0=some (.ptr o 2 0 0):=c 0 _ (by unfold jK; simp only[go_sem]);have Y:u 3=some (.bL f.cells):=c 3 _ (by unfold jK; simp only[go_sem]);have Z:u 5=some w:=c 5 _ (by unfold jK; simp only[go_sem]);have f6:u 6=some (.int .i64 i):=c 6 _ (by unfold jK; simp only[go_sem]);have f7:u 7=some (.osl q 1 0 (iiv row.1).length):=c 7 _ (by unfold jK; simp only[go_sem]);have E:(1:Nat)*1≤16777216:=by decide
  simp only[go_sem,XT,Z,f7,E];refine N.append 0 (src:=[[.osl q 1 0 (iiv row.1).length]]) rfl Sq (by unfold roomFor; rw[aUN,k2]; simp only[aUX,maxLen]; omega) fun w' H' h3 hw=>?_;obtain⟨K,rfl⟩:=hw (by simp);obtain⟨rs,z1,z2,z3,z4,z5⟩:=h3.frz 1 rfl;have R:=z4 0 _ (by decide) rfl;simp only at R;have y0:=T.frz q 1 rs;have S:PV.frz q 1 rs (PV.osl K 1 0 (mW s.1++[[PV.osl q 1 0 (iiv row.1).length]]).length)=PV.osl K 1 0 (mW s.1++[[PV.osl q 1 0 (iiv row.1).length]]).length:=R;simp only[go_sem,XU,f6,wZz i];refine SN (i+1,PV.osl K 1 0 (mW s.1++[[PV.osl q 1 0 (iiv row.1).length]]).length,H'.frz q 1 rs) z1 ⟨hlt,?_⟩ (by simp only; omega) ?_ b_
  ·simp only;rw[e];have X:([(o,bA v row.2)]:List BX).map (fun b=>(b.1,b.2.frz q 1 rs))=[(o,bA v row.2)]:=by show [(o,cB.rows 2 [[PV.dH q 1 rs v,.int .i64 row.2]])]=_;rw[y0]
   have V:(mW s.1++[[PV.osl q 1 0 (iiv row.1).length]]).map (fun r=>r.map (PV.dH q 1 rs))=mW (s.1++[row.1]):=by rw[aVT,aGJ];show mW s.1++[[PV.dH q 1 rs (.osl q 1 0 (iiv row.1).length)]]=_;rw[z2];simp[mW]
   rw[← X,← V];exact z5
  ·have W:(mW s.1++[[PV.osl q 1 0 (iiv row.1).length]]).length=(mW s.1++[[PV.osl q 1 0 row.1.length]]).length:=by simp
   rw[W] at S ⊢
   (repeat' (first|exact d_|refine c_ ?_ ?_))<;>first|(simp only[go_sem,f0,Y,S]<;>rfl)|rfl
 ·have d:¬ (i:Int)<(f.aTE.length:Nat):=Om;have:i=f.aTE.length:=Om;subst this;simp only[go_sem,d,XV];rcases p.own 0 rfl with ⟨B,rfl⟩ | ⟨q,rs,rfl,_⟩
  ·refine aX (vs:=[.aB]) (.inr rfl) (PH.nil.set o (bA v (dE l f a f.aTE.length).2)) Sq (e_ a_ (p.at 0 rfl)) ?_;rw[bQ,O];refine⟨?_,rfl⟩;unfold lay;rw[show (dE l f a f.aTE.length).1.map (fun r=>[ints r])=[] from B];exact .nil 1
  ·obtain⟨rs,g1,g2,g3,-,g4⟩:=p.frz 0 rfl;refine vN (vs:=[.osl q 1 0 (mW (dE l f a f.aTE.length).1).length]) (.inr rfl) Sq (.step g1 (.done (H2:=PH.nil.set o (bA v (dE l f a f.aTE.length).2)) ?_ (e_ a_ ?_)))
   ·rw[bQ,g3,O];exact⟨.refl _,rfl⟩
   ·have:=g4.at 0 rfl;rw[this];simp only[cB.frz,aVZ,aWS,T.frz];rfl
theorem Yd {C:Ctx} {name:Nat} {args:List PV} {H H2:PH} {v:PV} (h:aH C name args H (fun r H'=>Co r v∧H'=H2)):aH C name args H (fun r H'=>r=v∧H'=H2) :=
 h.post fun r H' c=>⟨_,c.1,rfl,c.2⟩
def fT (l:List Nat) (d v:Nat):aD:=(gP (l.take 400) d v 0).1
def faT (l:List Nat) (d v:Nat):Nat:=(gP (l.take 400) d v 0).2
def lT (l:List Nat) (d v:Nat):List (List Int):=(dE (l.take 400) (fT l d v) (faT l d v) (fT l d v).aTE.length).1
def laT (l:List Nat) (d v:Nat):Nat:=(dE (l.take 400) (fT l d v) (faT l d v) (fT l d v).aTE.length).2
def rT (l:List Nat) (d v:Nat):List Int:=(rV (l.take 400) (fT l d v) (laT l d v)).1
theorem y6 (l:List Nat) (aTC aTE:Nat) {a:Nat} (h:a≤l.length):(gP l aTC aTE a).2≤l.length:=by
 have p:=bJ l 2 h;have e:=bJ l 2 p;obtain⟨d,-⟩:=KL l e (1+(aE l 2 (aE l 2 a).2).1);have i:=bJ l 2 d;obtain⟨c,-⟩:=yM l (1+(aE l 2 (aE l 2 a).2).1) i (1+(aE l 2 (gV l (aE l 2 (aE l 2 a).2).2 (1+(aE l 2 (aE l 2 a).2).1)).2).1);obtain⟨u,-⟩:=JX (mc:=1+(aE l 2 (gV l (aE l 2 (aE l 2 a).2).2 (1+(aE l 2 (aE l 2 a).2).1)).2).1) 4 0 (⟨by simp,aUT _,c⟩:GOk l aTC ⟨[mG],[],_⟩);exact (GN l _ (bJ l (aTE+1) (uC l _ (bJ l 2 u.a) _).1) _).1
theorem axX (l:List Nat) (aTC at_ i a:Nat):-1≤(pG l aTC at_ i a).1∧(pG l aTC at_ i a).1<aTC:=by
 unfold pG;split
 ·simp only; omega
 ·rename_i h;have c:=bZ l (Om:0<aTC) (aE l 6 a).2;have d:=bZ l (Om:0<aTC+1) (aE l 6 a).2;have e:=aWJ (at_+i) (Om:0<aTC);simp only;split
  ·simp only; omega
  ·split
   ·simp only; omega
   ·simp only; omega
theorem N8 (l:List Nat) (aTC at_ a:Nat):∀ k,∀ x∈(kR l aTC at_ a k).1,-1≤x∧x<aTC
 | 0,x,h=>by cases h
 | k+1,x,h=>by
  rcases aWI.1 h with h | h
  ·exact N8 l aTC at_ a k x h
  ·rw[aWV] at h;subst h;exact axX l aTC at_ k _
structure uV (f:aD) (L:List (List Int)):Prop where
 len:L.length=f.aTE.length
 row:∀ v (h:v<L.length),((L[v].length:Nat):Int)=fQ f v
 home:∀ r∈L,∀ x∈r,-1≤x∧x<f.aTC.length
theorem zu (l:List Nat) {f:aD} (hV:VF f) {a:Nat} (u:a≤l.length):∀ k,k≤f.aTE.length→(dE l f a k).1.length=k∧(∀ v (h:v<(dE l f a k).1.length),(((dE l f a k).1[v].length:Nat):Int)=fQ f v)∧∀ r∈(dE l f a k).1,∀ x∈r,-1≤x∧x<f.aTC.length
 | 0,_=>⟨rfl,fun v h=>absurd h (by simp[dE]),fun r h=>by cases h⟩
 | k+1,J=>by
  obtain⟨p,y,A⟩:=zu l hV u k Om;obtain⟨F,B⟩:=oN hV (Om:k<f.aTE.length);have d:=hV.aTO _ (aUQ F);rw[B] at d;have E:((fQ f k).toNat:Int)=fQ f k:=by unfold fQ; omega
  have e:=(yC l f u k).1;have H:=(AZ l f.aTC.length (aE l (f.aTC.length+1) (dE l f a k).2).1 (bJ l (f.aTC.length+1) e) (fQ f k).toNat).2;have hi:=N8 l f.aTC.length (aE l (f.aTC.length+1) (dE l f a k).2).1 (aE l (f.aTC.length+1) (dE l f a k).2).2 (fQ f k).toNat;have c:(dE l f a (k+1)).1=(dE l f a k).1++[(kR l f.aTC.length (aE l (f.aTC.length+1) (dE l f a k).2).1 (aE l (f.aTC.length+1) (dE l f a k).2).2 (fQ f k).toNat).1]:=rfl;rw[c];generalize (kR l f.aTC.length (aE l (f.aTC.length+1) (dE l f a k).2).1 (aE l (f.aTC.length+1) (dE l f a k).2).2 (fQ f k).toNat).1=row at *
  generalize (dE l f a k).1=L at *
  refine⟨by simp[p],fun v h=>?_,fun r h=>?_⟩
  ·by_cases w:v<L.length
   ·rw[aYM w]; exact y v w
   ·have i:v=k:=by simp at h; omega
    subst i;rw[aYL Om];simp only[p,aXQ,List.getElem_cons_zero];rw[H,E]
  ·rcases aWI.1 h with h | h
   ·exact A r h
   ·rw[aWV] at h;subst h;exact hi
theorem uV.aNP {f:aD} {L:List (List Int)} (h:uV f L) (hV:VF f):∀ k,k≤L.length→(L.take k).flatten.length≤k*8:=by
 have w:=h.len;intro k
 induction k with
 | zero=>intro _; simp
 | succ k p =>intro d;rw[wW L d,aUS];have u:=p Om;have e:=h.row k d;obtain⟨l,i⟩:=oN hV (Om:k<f.aTE.length);have c:=hV.aTO _ (aUQ l);rw[i] at c;unfold fQ at e;omega
theorem uV.ok {f:aD} (hV:VF f) {L:List (List Int)} (h:uV f L):oE L:=by
 have d:=hV.small.aTE;have c:=h.len;have:=h.aNP hV L.length (aUU _);rw[aVP] at this;exact⟨by omega,by omega⟩
theorem aQN (l:List Nat) {d v:Nat} (p:d≤24) (u:v≤12):uV (fT l d v) (lT l d v):=by
 obtain⟨c,e,i⟩:=zu (l.take 400) (VF.of (RY (l.take 400) d v 0 p u).1) (y6 (l.take 400) d v (aUT _)) (fT l d v).aTE.length (aUU _);exact⟨c,e,i⟩
section
variable {H:PH} {B:List BX} {L:List LI}
end
def alL (f:aD) (d lev x:Int):Bool:=decide (0≤x)&&(atP f x lev==atP f d lev)
theorem kG {k v:Int} {n:Nat} {p:Nat→Bool}:cW k v n p=[]↔∀ i,i<n→p i=false:=by
 unfold cW;rw[List.map_eq_nil_iff,List.filter_eq_nil_iff];constructor
 ·intro h i hi;have:=h i (aVM.2 hi);simpa using this
 ·intro h i hi;rw[h i (aVM.1 hi)];decide
theorem apJ {f:aD} {l:List (List Int)} {room:List Int} (e:dJ f=true) (c:l.length=f.aTE.length) :
  AV f l room=true↔qL f l l.length=[]∧∀ d,d<f.aTC.length→over f l room d=false:=by
 unfold AV DO aDX;rw[e,if_pos rfl,if_pos c,aVA,decide_eq_true_eq,List.length_eq_zero_iff,List.append_eq_nil_iff,kG]
theorem XL {p:Int→Bool}:∀ {l:List Int} {i:Nat},(∀ x∈l,p x=false)→kT p l i=none
 | [],_,_=>rfl
 | y::t,i,h=>by rw[kT,h y (by simp),if_neg (by decide)];exact XL fun x c=>h x (by simp[c])
theorem uV.He {f:aD} {L:List (List Int)} (h:uV f L) {v:Nat} (c:v<L.length):uI f L v=none:=by
 have e:L.getD v []=L[v]:=by simp[aUY,c]
 unfold uI;rw[e,if_pos (h.row v c),XL]
 ·rfl
 ·intro x d;have:=h.home _ (aUQ c) x d;simp[tK];omega
def ajW (f:aD) (p:bT) (row:List Int) (d:Int) (j:Nat):Bool:=decide (j=0)||(decide (p.spread j=0)||decide (((row.countP (alL f d j):Nat):Int)≤p.spread j))
def ajN (f:aD) (p:bT) (row:List Int) (i:Nat):Bool :=
 decide (0≤row.getD i 0)&&((aUO 5).all (ajW f p row (row.getD i 0))&&(p.aTD.contains ((mdl f (row.getD i 0).toNat:Nat):Int)&&(row.take i).all fun x=>x != row.getD i 0))
def TZ (f:aD) (p:bT) (row:List Int):Bool:=(aUO row.length).all (ajN f p row)
theorem anS {f:aD} (d:dJ f=true) {x:Int} (c:0≤x) (e:x<f.aTC.length) {j:Nat} (i:j<5):atP f x j=(cU f x.toNat j:Nat):=by
 unfold atP;rw[if_pos ⟨d,c,by omega,by omega,by omega⟩]
theorem acV {f:aD} (u:dJ f=true) {d:Int} (e:0≤d) (l:d<f.aTC.length) {row:List Int} (y:∀ x∈row,x<f.aTC.length) {j:Nat} (p:j<5) {i:Nat} (hi:cU f d.toNat j=i) (w:lvl f i=j) :
  row.countP (alL f d j)=row.countP (qO f i):=by
 refine List.countP_congr fun x A=>?_;unfold alL qO;by_cases c:0≤x
 ·rw[anS u c (y x A) p,anS u e l p,w,hi];simp only[c,decide_true,aVA,beq_iff_eq,decide_eq_true_eq];omega
 ·simp[c]
theorem Gt {row:List Int} (h:∀ i (hi:i<row.length),row[i] ∉ row.take i):row.Nodup:=by
 refine List.pairwise_iff_getElem.2 fun i j hi d c e=>h j d ?_;rw[← e];exact List.mem_take_iff_getElem.2 ⟨i,by omega,rfl⟩
theorem acU {f:aD} (Q:dJ f=true) {p:bT} (N:∀ l,0≤p.spread l) (v:Nat) {row:List Int} (A:∀ x∈row,-1≤x∧x<f.aTC.length):qA f p v row=[]↔TZ f p row=true:=by
 have hV:=VF.of Q;have w:∀ i (h:i<row.length),row.getD i 0=row[i]:=fun i h=>by simp[aUY,h]
 have S:∀ d,d<f.aTC.length→(dU f.aTC.length row).getD d 0=(row.count (d:Int):Nat):=fun d h=>by simp[dU,aUY,h]
 have U:∀ i,i<f.aTF.length→(dY f row).getD i 0=eK f row i:=fun i h=>by simp[dY,aUY,h]
 unfold qA TZ;rw[List.append_eq_nil_iff,List.append_eq_nil_iff,List.append_eq_nil_iff,kG,kG,kG,kG,aVD];constructor
 ·rintro⟨⟨⟨X,Y⟩,Z⟩,h5⟩ i hi;have hi:=aVM.1 hi;have a2:=X i hi;have a4:=Z i hi;have K:=aUQ hi;unfold home at a2;unfold eG at a4;unfold ajN;rw[w i hi] at a2 a4 ⊢;have B:=A _ K;generalize F:row[i]=d at *
  have E:0≤d:=by simpa using a2
  simp only[E,decide_true,aVA,Bool.not_eq_false'] at a4 ⊢;rw[a4,aVA,aVE];refine⟨aVD.2 fun j u=>?_,aVD.2 fun x R=>?_⟩
  ·have u:=aVM.1 u;unfold ajW;by_cases j0:j=0
   ·simp[j0]
   by_cases s0:p.spread j=0
   ·simp[s0]
   obtain⟨k1,k2⟩:=agW hV (d:=d.toNat) Om (lev:=(j:Int)) Om Om;have a5:=h5 _ k1;have M:cU f d.toNat j≠0:=by intro e;rw[e,hV.root.2.1] at k2;omega
   have O:=acV Q E B.2 (fun x h=>(A x h).2) u rfl k2;unfold qI dN at a5;rw[U _ k1,k2,eK,if_neg M,aWK] at a5;have:=N j;rw[O];simp only[Bool.and_eq_false_iff,decide_eq_false_iff_not] at a5;simp only[Bool.or_eq_true,decide_eq_true_eq];omega
  ·have a3:=Y d.toNat Om;unfold nI at a3;rw[S _ Om,Int.toNat_of_nonneg E] at a3;have e:row=row.take i++d::row.drop (i+1):=by rw[← F,← aWM hi,aXG]
   have V:row.count d=(row.take i).count d+((row.drop (i+1)).count d+1):=by
    conv=>lhs; rw[e]
    rw[List.count_append,List.count_cons_self]
   simp only[bne_iff_ne];rintro rfl;have:=List.count_pos_iff.2 R;rw[decide_eq_false_iff_not] at a3;omega
 ·intro h;have y:∀ i (hi:i<row.length),0≤row[i]∧(∀ j,j<5→ajW f p row row[i] j=true)∧p.aTD.contains ((mdl f row[i].toNat:Nat):Int)=true∧row[i] ∉ row.take i:=by intro i hi;have:=h i (aVM.2 hi);unfold ajN at this;rw[w i hi] at this;simp only[aVE,decide_eq_true_eq,aVD,aVM,bne_iff_ne] at this;exact⟨this.1,this.2.1,this.2.2.1,fun K=>this.2.2.2 _ K rfl⟩
  refine⟨⟨⟨fun i hi=>?_,fun d F=>?_⟩,fun i hi=>?_⟩,fun i hi=>?_⟩
  ·unfold home;rw[w i hi,decide_eq_false_iff_not];have:=(y i hi).1;omega
  ·unfold nI;rw[S d F,decide_eq_false_iff_not];have:=List.nodup_iff_count.1 (Gt fun i hi=>(y i hi).2.2.2) (d:Int);omega
  ·unfold eG;rw[w i hi,(y i hi).2.2.1];simp
  ·unfold qI;rw[U i hi];unfold eK;by_cases W:i=0
   ·rw[if_pos W];have:=N (lvl f i).toNat;unfold dN;simp;omega
   rw[if_neg W];by_cases V:row.countP (qO f i)=0
   ·rw[V];have:=N (lvl f i).toNat;unfold dN;simp;omega
   obtain⟨x,B,c⟩:=List.countP_pos_iff.1 (Om:0<row.countP (qO f i));obtain⟨k,H,rfl⟩:=aVX B;obtain⟨g1,g2,g3,g4,g5⟩:=hV.dom i Om hi;have u:((lvl f i).toNat:Int)=lvl f i:=Om;unfold qO at c;simp only[aVE,decide_eq_true_eq] at c;have J:=(y k H).2.1 (lvl f i).toNat Om;have O:=acV Q c.1 (A _ B).2 (fun x h=>(A x h).2) (j:=(lvl f i).toNat) Om (i:=i) (by rw[u]; exact c.2) u.symm;unfold ajW at J;rw[O] at J;unfold dN;simp only[Bool.or_eq_true,decide_eq_true_eq] at J;simp only[Bool.and_eq_false_iff,decide_eq_false_iff_not];omega
def Sd (R xs:List Int):List Int:=(aUO R.length).map fun d=>R.getD d 0-((xs.count (d:Int):Nat):Int)
def tr (f:aD) (l:List (List Int)) (R:List Int):Bool:=(aUO R.length).all (fun d=>decide (0≤(Sd R l.flatten).getD d 0))&&(aUO l.length).all fun v=>TZ f (eZ f v) (l.getD v [])
theorem ahV {f:aD} (w:dJ f=true) {l:List (List Int)} (p:uV f l) (room:List Int):AV f l room=tr f l (jJ f room):=by
 have hV:=VF.of w;refine Bool.eq_iff_iff.2 ?_;rw[apJ w p.len];unfold tr;rw[aVE,aVD,aVD,pX];have A:qL f l l.length=[]↔∀ x∈aUO l.length,TZ f (eZ f x) (l.getD x [])=true:=by
  unfold qL;rw[List.flatMap_eq_nil_iff];refine forall_congr' fun v=>forall_congr' fun H=>?_;have c:=aVM.1 H;unfold MP;rw[p.He c];simp only;have e:l.getD v []=l[v]:=by simp[aUY,c]
  obtain⟨J,F⟩:=oN hV (show v<f.aTE.length by rw[← p.len]; exact c);have i:=hV.aTO _ (aUQ J);rw[F] at i;rw[e];exact acU w (fun l=>(i.2.2.2.2.2.2.1 l).1) v (p.home _ (aUQ c))
 rw[A,and_comm];refine and_congr ?_ Iff.rfl;refine forall_congr' fun d=>?_;rw[aVM];refine forall_congr' fun y=>?_;have B:(fW f l).getD d 0=(l.flatten.count (d:Int):Nat):=by simp[fW,dU,aUY,y]
 have u:d<(jJ f room).length:=by rw[pX]; exact y
 have E:(Sd (jJ f room) l.flatten).getD d 0=(jJ f room).getD d 0-(l.flatten.count (d:Int):Nat):=by simp[Sd,aUY,u]
 unfold over;rw[B,E,decide_eq_false_iff_not,decide_eq_true_eq];omega
section
variable {H:PH} {B:List BX} {L:List LI} {s:Nat} {rows:List (List PV)}
theorem oF.some (s:Nat) (rows:List (List PV)) (G:PH):∃ r H',oF s rows r H'∧mM G .nil H':=by
 obtain⟨o,d⟩:=G.fresh;refine⟨.osl o s 0 rows.length,PH.nil.set o (.rows s rows),.inr ⟨o,rows,rfl,rfl,aUU _,aVP⟩,fun q x c _=>?_⟩;rw[aN] at c;split at c
 ·rename_i e; rw[e]; exact d
 ·cases c
end

section
variable {C:Ctx} {F:PF} {H Hs:PH} {tn a a2:Nat} {raw:List Int} {R:Nat→PV→PH→Prop} {st:Bool} {args:List aQ} {d:Option Nat} {K:PF→PH→Prop}
end
section
variable {C:Ctx} {F:PF} {H:PH} {B:List BX} {L:List LI} {args:List aQ} {d:Option Nat} {K:PF→PH→Prop}
theorem aM.aBG (h:aM H B L) (i:Nat) {o name:Nat} {x y:cB} {r:PV} {vs:List PV} (hi:B[i]?=some (o,x)) (e:aH C name vs (PH.nil.set o x) (fun p H'=>p=r∧H'=PH.nil.set o y)) (c:aQ.evs F args=some vs)
  (l:∀ H',aM H' (B.set i (o,y)) L→K (F.put d r) H'):iU C name args [] d K F H:=lK e (h.at i hi) c (l _ (h.set i hi y))
theorem aM.aPV (h:aM H B L) {x:cB} {c:Nat→PV} (e:∀ o H',aM H' (B++[(o,x)]) L→K (F.put d (c o)) H'):nA (some (c,x)) d K F H:=aO fun o i=>e o _ (h.new i x)
end
theorem awT (l:List Nat) {d v:Nat} (c:d≤24) (e:v≤12):dJ (fT l d v)=true∧(fT l d v).Ok:=RY (l.take 400) d v 0 c e

theorem uV.move {f:aD} {L:List (List Int)} (h:uV f L) {x k d:Nat} (p:x<L.length) (u:d<f.aTC.length):uV f (L.set x (L[x].set k d)):=by
 refine⟨by rw[aWU]; exact h.len,fun v l=>?_,fun r c=>?_⟩
 ·rw[aWU] at l;have:=h.row v l;rw[List.getElem_set];split
  ·rename_i e;subst e;rw[aWU]; exact this
  ·exact this
 ·rcases List.mem_or_eq_of_mem_set c with c | rfl
  ·exact h.home r c
  ·intro y i;rcases List.mem_or_eq_of_mem_set i with i | rfl
   ·exact h.home _ (aUQ p) y i
   ·omega


structure G6 (C:Ctx):Prop extends gl C where
 int:∀ n:Int,dK n→aH C 47 [.int .i64 n] .nil (aI (.agg (mkT n 1).cells))
 mul:∀ a b,Lim a→Lim b→a.length≤35184372087808→b.length≤35184372087808→aH C 36 [aK a,aK b] .nil (aI (opV (eC (val a) (val b)) (val a*val b)))
 add:∀ a b,Lim a→Lim b→a.length≤35184372087808→b.length≤35184372087808→aH C 30 [aK a,aK b] .nil (aI (opV (eC (val a) (val b)) (val a+val b)))
 sub:∀ a b,Lim a→Lim b→a.length≤35184372087808→b.length≤35184372087808→aH C 37 [aK a,aK b] .nil (aI (sM (val a) (val b)))
theorem E6 (a b:Nat):cX a b=(decide (nl b>0)&&(decide (nl b≤128)&&decide (nl a≤128))):=by
 have:=@iY b;refine Bool.eq_iff_iff.2 ?_;rw[fU];simp only[aVE,decide_eq_true_eq];omega
theorem auA {C:Ctx} (L:G6 C) (neg:Bool) (a b:List Nat) (u:Lim a) (l:Lim b) (w:a.length≤35184372087808) (p:b.length≤35184372087808) :
  GQ.wp C (aU Vs.res (aI (.bool (cX (val a) (val b))))) (PF.args [.agg (eM neg a b)]) .nil:=by
 rw[E6];simp only[go_sem,GQ,Fn,Fo,Vs];refine aA (L.trim b l p) rfl ?_;simp only[go_sem,aUN,bB];by_cases e:nl (val b)>0
 ·have c:((nl (val b):Nat):Int)>0:=Om;simp only[go_sem,c];refine aA (L.trim b l p) rfl ?_;simp only[go_sem,aUN,bB];by_cases i:nl (val b)≤128
  ·have d:((nl (val b):Nat):Int)≤128:=Om;simp only[go_sem,d];refine aA (L.trim a u w) rfl ?_;simp only[go_sem,aUN,bB];refine aR (.inr rfl) rfl ?_;have:decide (((nl (val a):Nat):Int)≤128)=decide (nl (val a)≤128):=by refine decide_eq_decide.2 ?_;omega
   rw[bQ,this,decide_eq_true e,decide_eq_true i];rfl
  ·have d:¬ ((nl (val b):Nat):Int)≤128:=Om;simp only[go_sem,d];refine aR (.inr rfl) rfl ?_;rw[bQ,decide_eq_false i,aUV,aWB]
 ·have c:¬ ((nl (val b):Nat):Int)>0:=Om;simp only[go_sem,c];refine aR (.inr rfl) rfl ?_;rw[bQ,decide_eq_false e,aUV]
theorem ca {neg:Bool} {a b:Nat} (h:cX a b=true):jB neg a b=.ok (nE neg a b):=by
 obtain⟨l,c,d⟩:=fU.1 h;have e:=(mK (a/aUP a b) 128).2 (np _ d);have i:=(mK (b/aUP a b) 128).2 (np _ c);unfold jB nE;rw[if_neg Om]
def ahF (a b:Nat):Bool:=decide (nl a>128)||decide (nl b>128)
theorem atU {C:Ctx} (neg:Bool) (a b:List Nat) :
  GM.wp C (aU U8.res (aI (.bool (decide (a.length>128)||decide (b.length>128))))) (PF.args [.agg (eM neg a b)]) .nil:=by
 simp only[go_sem,GM,E8,E9,U8,aUN];by_cases c:a.length>128
 ·have d:(a.length:Int)>128:=Om;simp only[go_sem,d];refine aR (.inr rfl) rfl ?_;rw[bQ,decide_eq_true c,Bool.true_or]
 ·have d:¬ (a.length:Int)>128:=Om;simp only[go_sem,d,aUN];refine aR (.inr rfl) rfl ?_;have:decide ((b.length:Int)>128)=decide (b.length>128):=by refine decide_eq_decide.2 ?_;omega
  rw[bQ,this,decide_eq_false c,Bool.false_or]
def Kq (x:FV):FR:=if ahF x.2.1 x.2.2 then .error 2 else .ok x
theorem aFC (neg:Bool) (a b:Nat):Kq (nE neg a b)=jB neg a b:=by
 have d:=mK (a/aUP a b) 128;have e:=mK (b/aUP a b) 128;unfold Kq nE jB ahF;simp only[Bool.or_eq_true,decide_eq_true_eq];by_cases c:nl (a/aUP a b)>128∨nl (b/aUP a b)>128
 ·rw[if_pos c,if_pos Om]
 ·rw[if_neg c,if_neg Om]
structure gn (C:Ctx):Prop extends G6 C where
 valid:∀ x:RF,x.Ok→aH C 56 [.agg x.cells] .nil (aI (.bool (cX (val x.num) (val x.den))))
 big:∀ x:FV,aH C 48 [.agg x.rf.cells] .nil (aI (.bool (ahF x.2.1 x.2.2)))
theorem aCJ {C:Ctx} (L:gn C) (x:FV):OM.wp C (aU amM.res (bX (frV (Kq x)))) (PF.args [.agg x.rf.cells]) .nil:=by
 simp only[go_sem,OM,U3,amM];refine aO fun o c=>?_;simp only[go_sem,U4];refine aA (L.big x) rfl ?_;unfold Kq;cases ahF x.2.1 x.2.2 with
 | true =>simp only[go_sem,U5];refine iW ?_;simp only[go_sem]
 | false =>obtain⟨n,a,b⟩:=x;simp only[go_sem,U6];exact aX (.inr rfl) .nil (vs:=[.agg (FV.rf (n,a,b)).cells,.int .i64 0]) Sq a_ ⟨.refl _,rfl⟩
theorem amS {C:Ctx} (L:gn C) (x:RF) (c:x.Ok):BK.wp C (aU wn.res (bX (frV (pD x)))) (PF.args [.agg x.cells]) .nil:=by
 simp only[go_sem,BK,qd,wn];refine aO fun o l=>?_;simp only[go_sem,qe];refine aA (L.valid x c) rfl ?_;unfold pD;cases d:cX (val x.num) (val x.den) with
 | false =>simp only[go_sem,aVG,qf];refine iW ?_;simp only[go_sem]
 | true =>obtain⟨i,p,u⟩:=fU.1 d;have e:=ca (neg:=x.neg) d;rw[if_pos rfl,e];simp only[go_sem,aUW,qg];refine aA (L.lowest x.neg x.num x.den c.1 c.2.1 c.2.2.1 c.2.2.2 Om Om i) rfl ?_;simp only[go_sem];exact aX (.inr rfl) .nil (vs:=[.agg (nE x.neg (val x.num) (val x.den)).rf.cells,.int .i64 0]) Sq a_ ⟨.refl _,rfl⟩
theorem atY {C:Ctx} (L:G6 C) (a b:List Nat) (c:Lim a) (d:Lim b) (e:a.length≤35184372087808) (i:b.length≤35184372087808) (l:nl (val a)≤256) (p:nl (val b)≤256) :
  GP.wp C (aU Vq.res (aI (aK (aJ (val a*val b))))) (PF.args [aK a,aK b]) .nil:=by
 simp only[go_sem,GP,Fk,Fl,Vq];refine aA (L.mul a b c d e i) rfl ?_;have:=mA l p;rw[iV Om Om,opV,BG Om];simp only[go_sem,Fm];refine aR (.inr rfl) rfl ?_;rfl
structure Ia (C:Ctx):Prop extends gn C where
 fits:∀ x:FV,aH C 57 [.agg x.rf.cells] .nil (aI (frV (Kq x)))
 red:∀ x:RF,x.Ok→aH C 52 [.agg x.cells] .nil (aI (frV (pD x)))
 prod:∀ a b,Lim a→Lim b→a.length≤35184372087808→b.length≤35184372087808→nl (val a)≤256→nl (val b)≤256→aH C 60 [aK a,aK b] .nil (aI (aK (aJ (val a*val b))))
def RF.valid (x:RF):Prop:=cX (val x.num) (val x.den)=true
def pW (x y:RF):Int:=pV x.neg (val x.num) (val x.den) y.neg (val y.num) (val y.den)
def voS:Spec:=fun name vs=>match name,vs with
 | 60,[x,y]=>some ([],fun _=>aI (aK (aJ (val (jN x)*val (jN y)))))
 | _,_=>none
theorem xJ (a b:List Nat):voS 60 [aK a,aK b]=some ([],fun _=>aI (aK (aJ (val a*val b)))):=by
 show some _=_; rw[eJ,eJ]
theorem xr (a b:Nat):dQ b a=- dQ a b:=by
 unfold dQ;rcases Nat.lt_trichotomy a b with h | h | h
 ·rw[if_neg Om,if_pos h,if_pos h]; rfl
 ·subst h;rw[if_neg Om,if_neg Om]; rfl
 ·rw[if_pos h,if_neg Om,if_pos h]
set_option maxHeartbeats 1000000 in
theorem atW {C : Ctx} (L : Ia C) (x y : RF) (hx : x.Ok) (hy : y.Ok) (vx : x.valid) (vy : y.valid) : GO.wp C (aU Vg.res (aI (.int .i64 (pW x y)))) (PF.args [.agg x.cells, .agg y.cells]) .nil := by
  obtain ⟨n1, a1, b1⟩ := x;obtain ⟨n2, a2, b2⟩ := y;obtain ⟨ha1, hb1, la1, lb1⟩ := hx;obtain ⟨ha2, hb2, la2, lb2⟩ := hy;obtain ⟨v1, v2, v3⟩ := fU.1 vx;obtain ⟨w1, w2, w3⟩ := fU.1 vy;simp only at ha1 hb1 la1 lb1 ha2 hb2 la2 lb2 v1 v2 v3 w1 w2 w3;have m1 := mA v3 w2;have m2 := mA w3 v2;have hA : decide (val a1 ≠ 0) = decide (nl (val a1 * val b2) > 0) := by refine decide_eq_decide.2 ?_;have := @iY (val a1 * val b2);rw [Nat.mul_eq_zero] at this;omega
  have hB : decide (val a2 ≠ 0) = decide (nl (val a2 * val b1) > 0) := by refine decide_eq_decide.2 ?_;have := @iY (val a2 * val b1);rw [Nat.mul_eq_zero] at this;omega
  unfold pW pV;simp only [hA, hB];simp only[go_sem,GO,Fa,Vg];refine bS .nil voS a_ ?_;simp only[go_sem,Fb];refine bY (xJ a1 b2) (L.prod a1 b2 ha1 hb2 la1 lb2 Om Om) rfl a_ ?_;simp only[go_sem];refine bY (xJ a2 b1) (L.prod a2 b1 ha2 hb1 la2 lb1 Om Om) rfl a_ ?_;have hc := L.cmp (aJ (val a1 * val b2)) (aJ (val a2 * val b1)) (aV _) (aV _) (by rw [bB]; omega) (by rw [bB]; omega);have hd := L.cmp (aJ (val a2 * val b1)) (aJ (val a1 * val b2)) (aV _) (aV _) (by rw [bB]; omega) (by rw [bB]; omega);rw [aT, aT] at hc hd;rw [xr (val a1 * val b2)] at hd;generalize val a1 * val b2 = A at *
  generalize val a2 * val b1 = B at *
  have gA : decide (((nl A : Nat) : Int) > 0) = decide (nl A > 0) := decide_eq_decide.2 Om;have gB : decide (((nl B : Nat) : Int) > 0) = decide (nl B > 0) := decide_eq_decide.2 Om;generalize decide (nl A > 0) = p at *
  generalize decide (nl B > 0) = q at *
  cases n1 <;> cases n2 <;> cases p <;> cases q
  all_goals
    simp only[go_sem,Fc,aUN,bB,gA,gB,Fd,Fe,Ff,Fg,Fh,Fi,Fj]
    first
    | (refine aR (.inr rfl) rfl ?_; rfl)
    | (refine aA hc rfl ?_
       simp only[go_sem];refine aR (.inr rfl) rfl ?_;rfl)
    | (refine aA hd rfl ?_
       simp only[go_sem];refine aR (.inr rfl) rfl ?_;rfl)
structure AA (C:Ctx):Prop extends Ia C where
 order:∀ x y:RF,x.Ok→y.Ok→x.valid→y.valid→aH C 51 [.agg x.cells,.agg y.cells] .nil (aI (.int .i64 (pW x y)))
theorem aCN {C:Ctx} (L:AA C) (x y:RF) (c:x.Ok) (d:y.Ok) (e:x.valid) (i:y.valid):ON.wp C (aU amP.res (aI (.bool (decide (pW x y<0))))) (PF.args [.agg x.cells,.agg y.cells]) .nil:=by
 simp only[go_sem,ON,U9,Va,amP];refine aA (L.order x y c d e i) rfl ?_;simp only[go_sem];refine aR (.inr rfl) rfl ?_;rfl
theorem aCS {C:Ctx} (L:AA C) (x y:RF) (c:x.Ok) (d:y.Ok) (e:x.valid) (i:y.valid):OS.wp C (aU amU.res (aI (.bool (pW x y==0)))) (PF.args [.agg x.cells,.agg y.cells]) .nil:=by
 simp only[go_sem,OS,Vh,Vi,amU];refine aA (L.order x y c d e i) rfl ?_;simp only[go_sem];refine aR (.inr rfl) rfl ?_;rfl
theorem HQ (n:Int):mkT n 1=⟨decide (n<0),aJ n.natAbs,aJ 1⟩:=by
 unfold mkT nE FV.rf;rw[show (1:Int).natAbs=1 from rfl,Nat.gcd_one_right,Nat.div_one,Nat.div_one,show decide ((1:Int)<0)=false from rfl];congr 1;by_cases h:n<0
 ·have:n.natAbs≠0:=Om;simp[h,this]
 ·simp[h]
theorem HP (n:Int) (h:dK n):(mkT n 1).Ok∧(mkT n 1).valid:=by
 have c:nl n.natAbs≤2:=oL (by unfold dK at h; omega);rw[HQ];refine⟨⟨aV _,aV _,?_,?_⟩,?_⟩
 ·simp only[bB]; omega
 ·simp only[xB]; decide
 ·unfold RF.valid;simp only[aT];rw[E6];have:nl 1=1:=by rw[nl,xB]; rfl
  simp[this];omega
def rY (x:RF):Int:=if val x.num=0 then 0 else if x.neg then -1 else 1
theorem aAB (x:RF):pW x (mkT 0 1)=rY x:=by
 rw[HQ];unfold pW rY pV;simp only[aT,show (0:Int).natAbs=0 from rfl,Nat.mul_one,Nat.zero_mul];by_cases h:val x.num=0
 ·simp[h,dQ]
 ·cases x.neg<;>simp[h,dQ]
def viS (r:Int):Spec:=fun name _=>if name=47 then some ([],fun _=>aI (.agg (mkT 0 1).cells)) else some ([],fun _=>aI (.int .i64 r))
theorem aCU {C:Ctx} (L:AA C) (x:RF) (e:x.Ok) (i:x.valid):OT.wp C (aU amV.res (aI (.int .i64 (rY x)))) (PF.args [.agg x.cells]) .nil:=by
 have c:dK 0:=by unfold dK; omega
 have d:=L.order x (mkT 0 1) e (HP 0 c).1 i (HP 0 c).2;rw[aAB] at d;simp only[go_sem,OT,Vj,amV];refine bS .nil (viS (rY x)) a_ ?_;simp only[go_sem,Vk];refine bY rfl (L.int 0 c) rfl a_ ?_;simp only[go_sem];refine bY rfl d rfl a_ ?_;simp only[go_sem];refine aR (.inr rfl) rfl ?_;rfl
theorem atQ {C:Ctx} (L:AA C) (i l:Bool) (a1 b1 a2 b2:List Nat) (O:Lim a1) (J:Lim b1) (Q:Lim a2) (K:Lim b2)
  (R:a1.length≤35184372087808) (M:b1.length≤35184372087808) (S:a2.length≤35184372087808) (N:b2.length≤35184372087808) :
  DN.wp C (aU amI.res (bX (frV (gY (i,val a1,val b1) (l,val a2,val b2))))) (PF.args [.agg (eM i a1 b1),.agg (eM l a2 b2)]) .nil:=by
 have vx:aH C 56 [.agg (eM i a1 b1)] .nil (aI (.bool (cX (val a1) (val b1)))):=L.valid ⟨i,a1,b1⟩ ⟨O,J,R,M⟩;have vy:aH C 56 [.agg (eM l a2 b2)] .nil (aI (.bool (cX (val a2) (val b2)))):=L.valid ⟨l,a2,b2⟩ ⟨Q,K,S,N⟩;simp only[go_sem,DN,aeW,amI];refine aO fun o ho=>?_;simp only[go_sem,aeX];refine aA vx rfl ?_;simp only[gY];cases hv:cX (val a1) (val b1) with
 | false =>simp only[go_sem,aVG,wj,aUV];refine iW ?_;simp only[go_sem]
 | true =>
  obtain⟨v1,v2,v3⟩:=fU.1 hv;simp only[go_sem,aUW];refine aA vy rfl ?_;cases hw:cX (val a2) (val b2) with
  | false =>simp only[go_sem,aVG,wj,aWB];refine iW ?_;simp only[go_sem]
  | true =>
   obtain⟨w1,w2,w3⟩:=fU.1 hw;simp only[go_sem,aUW,aWQ];refine bS .nil voS a_ ?_;simp only[go_sem,aeY];refine bY (xJ a1 b2) (L.prod a1 b2 O K R N Om Om) rfl a_ ?_;simp only[go_sem];refine bY (xJ a2 b1) (L.prod a2 b1 Q J S M Om Om) rfl a_ ?_;simp only[go_sem];refine bY (xJ b1 b2) (L.prod b1 b2 J K M N Om Om) rfl a_ ?_;simp only[go_sem];have m1:=mA v3 w2;have m2:=mA w3 v2;have m3:=mA v2 w2;have d0:val b1*val b2≠0:=Nat.mul_ne_zero v1 w1;generalize hA:val a1*val b2=A at *
   generalize hB:val a2*val b1=B at *
   generalize hD:val b1*val b2=D at *
   have fin:∀ (F:PF) (H:PH) (r:FR),(∃ d x y e,frV r=.tup [.agg (eM d x y),.int .i64 e]∧F 4=some (.ptr o 3 0 0)∧F 5=some (.int .i64 e)∧H o=some (.rows 3 [eM d x y]))→aU [.cell 4 (some 3),.tmp 5] (bX (frV r)) .ret F H:=by rintro F H r ⟨d,x,y,e,he,f4,f5,hH⟩;rw[he];exact aX (.inr rfl) .nil (vs:=[.agg (eM d x y),.int .i64 e]) (by simp only[go_sem,f4,f5,hH]) a_ ⟨.refl _,rfl⟩
   have W:(i==l)=decide (i=l):=by cases i<;>cases l<;>rfl
   have low:∀ neg x,nl x≤257→aH C 58 [.bool neg,aK (aJ x),aK (aJ D)] .nil (aI (.agg (nE neg x D).rf.cells)):=by
    intro neg x hx;have Z:(aJ x).length≤35184372087808:=by rw[bB]; omega
    have h2:(aJ D).length≤35184372087808:=by rw[bB]; omega
    have:=L.lowest neg (aJ x) (aJ D) (aV _) (aV _) Z h2;rw[aT,aT] at this;exact this Om Om d0
   have E:∀ neg x,aH C 57 [.agg (nE neg x D).rf.cells] .nil (aI (frV (jB neg x D))):=fun neg x=>by
    have:=L.fits (nE neg x D)
    rwa [aFC] at this
   have lA:(aJ A).length≤35184372087808:=by rw[bB]; omega
   have lB:(aJ B).length≤35184372087808:=by rw[bB]; omega
   simp only[go_sem,aeZ];by_cases c:i=l
   ·rw[if_pos c];have U:(i==l)=true:=by rw[W,decide_eq_true c]
    simp only[go_sem,U,afA];have u:=L.add (aJ A) (aJ B) (aV _) (aV _) lA lB;have α:=Qe m1 m2;rw[aT,aT,iV Om Om,opV,BG Om] at u;refine aA u rfl ?_;simp only[go_sem,afB];refine aA (low i _ Om) rfl ?_;simp only[go_sem];refine aA (E i _) rfl ?_;obtain⟨d,x,y,e,p⟩:=uZ (jB i (A+B) D);rw[p];simp only[go_sem];rw[← p];exact fin _ _ _ ⟨d,x,y,e,p,by simp only[go_sem],by simp only[go_sem],by simp only[go_sem]⟩
   ·rw[if_neg c];have U:(i==l)=false:=by rw[W,decide_eq_false c]
    simp only[go_sem,U,afC];have hc:=L.cmp (aJ A) (aJ B) (aV _) (aV _) lA lB;rw[aT,aT] at hc;refine aA hc rfl ?_;have w:∀ X Y:Nat,nl X≤256→nl Y≤256→Y≤X→aH C 37 [aK (aJ X),aK (aJ Y)] .nil (aI (.tup [aK (aJ (X-Y)),.int .i64 0])):=by intro X Y Z h2 h;have:=L.sub (aJ X) (aJ Y) (aV _) (aV _) (by rw[bB]; omega) (by rw[bB]; omega);have h3:=fX (Om:X-Y≤X);rw[aT,aT,sM,iV Om Om,if_neg (by decide),if_neg Om,BG Om] at this;exact this
    by_cases g:B≤A
    ·have V:dQ A B≥0:=(WA A B).2 g;rw[if_pos g];simp only[go_sem,V,afD];refine aA (w A B Om Om g) rfl ?_;simp only[go_sem,afE];have h3:=fX (Om:A-B≤A);refine aA (low i (A-B) Om) rfl ?_;simp only[go_sem];refine aA (E i _) rfl ?_;obtain⟨d,x,y,e,p⟩:=uZ (jB i (A-B) D);rw[p];simp only[go_sem];rw[← p];exact fin _ _ _ ⟨d,x,y,e,p,by simp only[go_sem],by simp only[go_sem],by simp only[go_sem]⟩
    ·have V:¬ dQ A B≥0:=fun h=>g ((WA A B).1 h);rw[if_neg g];simp only[go_sem,V,Uz];refine aA (w B A Om Om Om) rfl ?_;simp only[go_sem,U1];have h3:=fX (Om:B-A≤B);refine aA (low l (B-A) Om) rfl ?_;simp only[go_sem];refine aA (E l _) rfl ?_;obtain⟨d,x,y,e,p⟩:=uZ (jB l (B-A) D);rw[p];simp only[go_sem];rw[← p];exact fin _ _ _ ⟨d,x,y,e,p,by simp only[go_sem],by simp only[go_sem],by simp only[go_sem]⟩
theorem aIR {C:Ctx} (L:AA C) (x y:RF) (c:x.Ok) (d:y.Ok):DN.wp C (aU amI.res (bX (frV (gY x.v y.v)))) (PF.args [.agg x.cells,.agg y.cells]) .nil :=
 atQ L x.neg y.neg x.num x.den y.num y.den c.1 c.2.1 d.1 d.2.1 c.2.2.1 c.2.2.2 d.2.2.1 d.2.2.2
structure agU (C:Ctx):Prop extends AA C where
 less:∀ x y:RF,x.Ok→y.Ok→x.valid→y.valid→aH C 49 [.agg x.cells,.agg y.cells] .nil (aI (.bool (decide (pW x y<0))))
 same:∀ x y:RF,x.Ok→y.Ok→x.valid→y.valid→aH C 53 [.agg x.cells,.agg y.cells] .nil (aI (.bool (pW x y==0)))
 sign:∀ x:RF,x.Ok→x.valid→aH C 54 [.agg x.cells] .nil (aI (.int .i64 (rY x)))
 plus:∀ x y:RF,x.Ok→y.Ok→aH C 46 [.agg x.cells,.agg y.cells] .nil (aI (frV (gY x.v y.v)))
def vsF (l:List RF) (o2 o4 k:Nat):PF:=((((PF.nil.set 0 (frs l)).set 2 (.ptr o2 3 0 0)).set 4 (.ptr o4 3 0 0)).set 5 (.int .i64 k))
theorem aIV {C:Ctx} (L:agU C) (l:List RF) (hl:∀ x∈l,x.Ok) (W:l.length≤9223372036854775807) :
  VO.wp C (aU aCY.res (bX (frV (nY (l.map RF.v))))) (PF.args [frs l]) .nil:=by
 have Z:dK 0:=by unfold dK; omega
 have hi:(mkT 0 1).cells=(FV.rf (false,0,1)).cells:=by rw[HQ]; rfl
 have w:=L.int 0 Z;rw[hi] at w;simp only[go_sem,VO,afK,aCY];refine aO fun o2 β=>?_;have h1:aM (PH.nil.set o2 (.rows 3 [[.bool false,.aB,.aB]])) [(o2,.rows 3 [[.bool false,.aB,.aB]])] []:=aM.nil.new (H:=PH.nil) rfl _;generalize (PH.nil.set o2 _)=H1 at *
 simp only[go_sem,afL];refine aA w rfl ?_;simp only[go_sem];refine aO fun o4 U=>?_;have h2:=h1.new U (.rows 3 [(FV.rf (false,0,1)).cells]);simp only[go_sem,afM];refine wp_loop (α:=Nat × FV × PH) (fun t=>vsF l o2 o4 t.1) (fun t=>t.2.2) (fun t=>t.1≤l.length∧((l.map RF.v).take t.1).foldlM gY (false,0,1)=.ok t.2.1∧aM t.2.2 [(o2,.rows 3 [[.bool false,.aB,.aB]]),(o4,.rows 3 [(FV.rf t.2.1).cells])] []∧(FV.rf t.2.1).Ok) (fun t=>l.length-t.1)
  (0,(false,0,1),_) ⟨aUT _,rfl,h2,⟨aV _,aV _,?_,?_⟩⟩ ?_ b_ ?_
 ·show (aJ 0).length≤_;rw[fR]; simp
 ·show (aJ 1).length≤_;rw[xB]; simp
 ·unfold vsF;exact Lq
 rintro⟨k,d,V⟩ ⟨hk,M,A,p⟩;simp only at hk M A p ⊢;simp only[go_sem,afJ,afN,vsF,aUN];by_cases hlt:k<l.length
 ·have i:(k:Int)<(l.length:Nat):=Om;have hr:(l.map RF.cells)[k]?=some (l[k]).cells:=by simp[hlt]
  have u:=L.plus (FV.rf d) l[k] p (hl _ (aUQ hlt));rw[FV.aKW] at u;have c:=XN (f:=gY) (l.map RF.v) (false,0,1) (k:=k) (by simpa using hlt);rw[M] at c;simp only[Except.bind,aWD] at c;have O:=A.at 1 rfl;simp only[go_sem,i];refine bS .nil (fun _ _=>some ([],fun _=>aI (frV (gY d (l[k]).v)))) a_ ?_;simp only[go_sem,afO,O,hr];refine bY rfl u rfl a_ ?_;cases K:gY d (l[k]).v with
  | error e =>
   have S:e≠0:=by
    revert K;obtain⟨n1,a1,b1⟩:=d;obtain⟨n2,a2,b2⟩:=(l[k]).v;simp only[gY,jB]
    repeat' split
    all_goals (intro h; first | (injection h with h; subst h; decide) | cases h)
   rw[K] at c;simp only[go_sem,frV];refine aO fun o6 y=>?_;simp only[go_sem];refine⟨a_,?_⟩;have B:=A.new y (.rows 3 [[.bool false,aK [],aK []]]);have N:=B.at 0 rfl;simp only[go_sem,wq,dO S,afP,N];rw[nY,jw _ _ c];refine iW ?_;simp only[go_sem]
  | ok r =>
   rw[K] at c;obtain⟨J,E,F⟩:=r;simp only[go_sem,frV];refine aO fun o6 y=>?_;simp only[go_sem];refine⟨a_,?_⟩;have B:=A.new y (.rows 3 [(FV.rf (J,E,F)).cells]);have Y:=B.at 2 rfl;have Q:=B.at 1 rfl;generalize hG:V.set o6 (.rows 3 [(FV.rf (J,E,F)).cells])=X at *
   have R:V.set o6 (.rows 3 [[.bool J,aK (aJ E),aK (aJ F)]])=X:=hG;simp only[go_sem,wq,afQ,R,Y,Q,afR,wZz k];have h7:=(B.set 1 rfl (.rows 3 [(FV.rf (J,E,F)).cells])).tO 2;refine aG (k+1,(J,E,F),_) ⟨hlt,c,h7,ta K⟩ (by simp only; omega) ?_ b_;exact Lq
 ·have i:¬ (k:Int)<(l.length:Nat):=Om;have:k=l.length:=Om;subst this;rw[aVI (by simp)] at M;rw[nY,M];have N:=A.at 0 rfl;have O:=A.at 1 rfl;obtain⟨n,a,b⟩:=d;simp only[go_sem,i,Vp,O,N];exact aX (.inr rfl) .nil (vs:=[.agg (FV.rf (n,a,b)).cells,.int .i64 0]) Sq a_ ⟨.refl _,rfl⟩
theorem dge {n:Nat} (k:Nat):decide ((n:Int)≥(k:Int))=decide (k≤n):=decide_eq_decide.2 Om
theorem dle {n:Nat} (k:Nat):decide ((n:Int)≤(k:Int))=decide (n≤k):=decide_eq_decide.2 Om
theorem anB {C:Ctx} (n:Nat):BN.wp C (aU ww.res (aI (.bool (fB n)))) (PF.args [.int .u8 n]) .nil:=by
 have e:=dge (n:=n) 97;have i:=dle (n:=n) 122;have l:=dge (n:=n) 65;have p:=dle (n:=n) 90;simp only[Int.cast_ofNat_Int] at e i l p;unfold fB;generalize decide (97≤n)=a at *
 generalize decide (n≤122)=b at *
 generalize decide (65≤n)=c at *
 generalize decide (n≤90)=d at *
 cases a<;>cases b<;>cases c<;>cases d
 all_goals
  simp only[go_sem,BN,qw,qx,ww,e,i,l,p];refine aR (.inr rfl) rfl ?_;rfl
theorem auC {C:Ctx} (n:Nat):GT.wp C (aU Vt.res (aI (.bool (mQ n)))) (PF.args [.int .u8 n]) .nil:=by
 have c:=dge (n:=n) 48;have d:=dle (n:=n) 57;simp only[Int.cast_ofNat_Int] at c d;unfold mQ;generalize decide (48≤n)=a at *
 generalize decide (n≤57)=b at *
 cases a<;>cases b
 all_goals
  simp only[go_sem,GT,Fq,Fr,Vt,c,d];refine aR (.inr rfl) rfl ?_;rfl
theorem amX {C:Ctx} (c:∀ n:Nat,aH C 65 [.int .u8 n] .nil (aI (.bool (fB n)))) (d:∀ n:Nat,aH C 63 [.int .u8 n] .nil (aI (.bool (mQ n)))) (n:Nat) :
  BL.wp C (aU wt.res (aI (.bool (fN n)))) (PF.args [.int .u8 n]) .nil:=by
 have g1:((n:Int)==45)=decide (n=45):=by by_cases h:n=45<;>simp[h]; omega
 have g2:((n:Int)==46)=decide (n=46):=by by_cases h:n=46<;>simp[h]; omega
 have k1:=c n;have k2:=d n;unfold fN;generalize decide (n=45)=a at *
 generalize decide (n=46)=b at *
 simp only[go_sem,BL,qi,qj,wt];refine aA k1 rfl ?_;cases fB n with
 | true =>simp only[go_sem];refine aR (.inr rfl) rfl ?_;rfl
 | false =>
  simp only[go_sem];refine aA k2 rfl ?_;cases mQ n<;>cases a<;>cases b
  all_goals
   simp only[go_sem,g1,g2];refine aR (.inr rfl) rfl ?_;rfl
theorem amZ {C:Ctx} (A:∀ n:Nat,aH C 65 [.int .u8 n] .nil (aI (.bool (fB n)))) (B:∀ n:Nat,aH C 64 [.int .u8 n] .nil (aI (.bool (fN n)))) (s:List UInt8) :
  BM.wp C (aU wu.res (aI (.bool (isName s)))) (PF.args [.str s]) .nil:=by
 simp only[go_sem,BM,ql,qn,wu];cases s with
 | nil =>have y:decide (((0:Nat):Int)<1)=true:=rfl;simp only[go_sem,yW,aXD,y];refine aR (.inr rfl) rfl ?_;rfl
 | cons c t =>
  have E:(c::t)[0]?=some c:=rfl;have i:isName (c::t)=(decide ((c::t).length≤16)&&fB c.toNat&&(c::t).all fun c=>fN c.toNat):=rfl;have e:¬ (((c::t).length:Nat):Int)<1:=by simp only[aWH]; omega
  generalize c::t=s at *
  by_cases x:s.length≤16
  ·have l:¬ (s.length:Int)>16:=Om;rw[decide_eq_true x,aVA] at i;have k1:=A c.toNat;simp only[go_sem,e,l,E,aWC];refine aA k1 rfl ?_;cases w:fB c.toNat with
   | false =>simp only[go_sem,aVG,yW];refine aR (.inr rfl) rfl ?_;rw[bQ,i,w,aUV]
   | true =>
    rw[w,aVA] at i;simp only[go_sem,aUW,qp];refine wp_loop (α:=Nat) (fun k=>((PF.nil.set 0 (.str s)).set 3 (.int .i64 k))) (fun _=>.nil) (fun k=>k≤s.length∧(s.take k).all (fun c=>fN c.toNat)=true) (fun k=>s.length-k) 0 ⟨aUT _,rfl⟩ Lq a_ ?_;rintro k ⟨F,p⟩;simp only[go_sem,qk,qq];by_cases hlt:k<s.length
    ·have d:(k:Int)<(s.length:Nat):=Om;have u:s[k]?=some s[k]:=aVB hlt;have k2:=B (s[k]).toNat;simp only[go_sem,d,qr,u,aWC];refine aA k2 rfl ?_;cases hi:fN (s[k]).toNat with
     | false =>simp only[go_sem,aVG,qt];refine aR (.inr rfl) rfl ?_;rw[bQ,i,pP hlt hi]
     | true =>simp only[go_sem,aUW,qu,wZz k];exact aG (k+1) ⟨hlt,by simpa using pO hlt p hi⟩ Om Lq b_
    ·have d:¬ (k:Int)<(s.length:Nat):=Om;have:k=s.length:=Om;subst this;rw[aVP] at p;simp only[go_sem,d,qv];refine aR (.inr rfl) rfl ?_;rw[bQ,i,p]
  ·have l:(s.length:Int)>16:=Om;rw[decide_eq_false x,aUV,aUV] at i;simp only[go_sem,e,l,yW];refine aR (.inr rfl) rfl ?_;rw[bQ,i]
def IP (k m:Int):Bool:=within k 1 6&&(within m 0 4&&decide (k+m≤8))
theorem aAP {C:Ctx} (k m:Int):oO.wp C (aU NF.res (aI (.bool (IP k m)))) (PF.args [.int .i64 k,.int .i64 m]) .nil:=by
 unfold IP within;by_cases c:1≤k
 ·by_cases d:k≤6
  ·by_cases e:0≤m
   ·by_cases i:m≤4
    ·have l:IntKind.i64.wrap (k+m)=k+m:=wrap_i64 Om Om;simp only[go_sem,oO,vQ,vS,NF,ge_iff_le,c,d,e,i,l];refine aR (.inr rfl) rfl ?_;simp[bQ,c,d,e,i]
    ·simp only[go_sem,oO,vQ,vS,NF,ge_iff_le,c,d,e,i];refine aR (.inr rfl) rfl ?_;simp[bQ,c,d,e,i]
   ·simp only[go_sem,oO,vQ,vS,NF,ge_iff_le,c,d,e];refine aR (.inr rfl) rfl ?_;simp[bQ,c,d,e]
  ·simp only[go_sem,oO,vQ,vS,NF,ge_iff_le,c,d];refine aR (.inr rfl) rfl ?_;simp[bQ,c,d]
 ·simp only[go_sem,oO,vQ,vS,NF,ge_iff_le,c];refine aR (.inr rfl) rfl ?_;simp[bQ,c]
def Gf:Rg:=[iA 1 (.box true (Tm 0)),iT 2 false]
def Gg:Rg:=[iO 6 3 1,iK 7 52 6,iM 5 7,iE 8 5 0,iE 9 5 1,iA 3 (.alloc [zB,.aB,.aB]),iS 3 3 8,iM 4 9]
def DQ:Rg:=[iM 10 4,iC 11 .eql 10 0,iM 12 11,gF 13 0 3 12 true,gL 14 13 12 true,iG 15 (.un .not (Tm 14)) 12 true,iP 16 12 15,iM 17 16,gF 18 1 3 17 true,gL 19 18 17 true,gN 20 19 17 true,gC 21 .leq 20 1 17 true,iP 22 17 21,iM 23 22,gF 24 2 3 23 true,gL 25 24 23 true,gN 26 25 23 true,gC 27 .leq 26 1 23 true,iP 28 23 27,iM 2 28]
def HA:aC:=(sq Gf (sq Gg (sq DQ .ret)))
def auS:List Nat:=[1]
def Wd:aZ:=⟨1,29,HA,[.tmp 2]⟩
def re:Rg:=[iT 4 false]
def rg:Rg:=[iM 6 0,iN 7 6,iM 8 1,iB 9 .neq 7 8]
def rh:Rg:=[iT 4 false]
def ri:Rg:=[iI 5 0]
def rj:Rg:=[iM 10 5,iM 11 1,iB 12 .lss 10 11]
def rk:Rg:=[iM 15 0,iM 16 5,iX 17 3 15 16,iO 18 3 17,iK 19 74 18,iA 20 (.un .not (Tm 19))]
def rp:Rg:=[iT 4 false]
def rt:Rg:=[iM 13 5,iC 14 .add 13 1,iM 5 14]
def rc:aC:=(.seq (sq rj (.cond (Tm 12) .skip (.exit 0))) (.seq (.block 1 (sq rk (.cond (Tm 20) (sq rp .ret) .skip))) (.region rt)))
def ru:Rg:=[iT 4 true]
def BP:aC:=(sq re (.seq (sq rg (.cond (Tm 9) (sq rh .ret) .skip)) (.seq (sq ri (.block 0 (.loop rc))) (sq ru .ret))))
def anH:List Nat:=[]
def w8:aZ:=⟨2,21,BP,[.tmp 4]⟩
def afZ:Rg:=[iA 1 (.box true (Tm 0)),iT 2 false]
def agA:Rg:=[iF 12 1 1,iL 13 12,iN 14 13,iM 3 14]
def agB:Rg:=[iM 15 3,iC 16 .lss 15 1,iM 17 16,gM 18 3 17 false,gC 19 .gtr 18 4 17 false,iQ 20 17 19,iM 21 20,gF 22 1 1 21 false,gL 23 22 21 false,gM 24 3 21 false,gK2 25 75 23 24 21 false,iG 26 (.un .not (Tm 25)) 21 false,iQ 27 21 26,iM 28 27,gF 29 3 1 28 false,gL 30 29 28 false,gM 31 3 28 false,gK2 32 75 30 31 28 false,iG 33 (.un .not (Tm 32)) 28 false,iQ 34 28 33,iM 35 34,gF 36 2 1 35 false,gL 37 36 35 false,gN 38 37 35 false,gM 39 3 35 false,gB 40 .neq 38 39 35 false,iQ 41 35 40]
def zW:Rg:=[iT 2 false]
def agC:Rg:=[iI 4 0]
def agD:Rg:=[iM 42 4,iM 43 3,iB 44 .lss 42 43]
def agE:Rg:=[iF 47 2 1,iL 48 47,iM 49 4,iX 50 1 48 49,iL 51 50,iM 52 3,iK2 53 75 51 52,iA 54 (.un .not (Tm 53)),iM 55 54,gF 56 2 1 55 false,gL 57 56 55 false,gM 58 4 55 false,iG 59 (.aTT 1 (Tm 57) (Tm 58)) 55 false,gL 60 59 55 false,gM 61 4 55 false,iG 62 (.aTT 3 (Tm 60) (Tm 61)) 55 false,gO 63 3 62 55 false,gK 64 54 63 55 false,gC 65 .neq 64 0 55 false,iQ 66 55 65]
def wz:Rg:=[iT 2 false]
def agF:Rg:=[iM 45 4,iC 46 .add 45 1,iM 4 46]
def afY:aC:=(.seq (sq agD (.cond (Tm 44) .skip (.exit 0))) (.seq (.block 1 (sq agE (.cond (Tm 66) (sq wz .ret) .skip))) (.region agF)))
def V0:Rg:=[iF 68 1 1,iL 69 68,iK 70 55 69,iM 67 70,iE 71 67 0,iE 72 67 1,iA 5 (.alloc [zB,.aB,.aB]),iS 3 5 71,iM 6 72]
def fq:Rd:=[(iM 73 6,false),(iC 74 .neq 73 0,false),(iM 75 74,false),(gO 76 3 5 75 false,true),(iG 77 (.call 47 [(Ci 1)]) 75 false,true),(gK2 78 53 76 77 75 false,true),(iG 79 (.un .not (Tm 78)) 75 false,false),(iQ 80 75 79,false)]
def ft:Rg:=[iT 2 false]
def V1:Rg:=[iM 81 3,iA 82 (.aTK 1 1 [zB] (Tm 81) (Tm 81)),iM 7 82]
def V2:Rg:=[iI 8 0]
def V3:Rg:=[iM 83 8,iM 84 3,iB 85 .lss 83 84]
def V4:Rg:=[iI 9 0]
def V5:Rg:=[iM 88 9,iM 89 3,iB 90 .lss 88 89]
def fv:Rg:=[iM 93 7,iM 94 9,iM 95 7,iM 96 9,iX 97 1 95 96,iL 98 97,iM 99 98,gF 100 3 1 99 false,gL 101 100 99 false,gM 102 9 99 false,iG 103 (.aTT 3 (Tm 101) (Tm 102)) 99 false,gO 104 3 103 99 false,gK 105 54 104 99 false,gC 106 .gtr 105 0 99 false,iQ 107 99 106,iX 108 1 93 94,iS 1 108 107]
def fw:Rg:=[iI 10 0]
def V6:Rg:=[iM 109 10,iM 110 3,iB 111 .lss 109 110]
def fx:Rg:=[iM 114 7,iM 115 9,iM 116 7,iM 117 9,iX 118 1 116 117,iL 119 118,iM 120 119,gF 121 2 1 120 false,gL 122 121 120 false,gM 123 9 120 false,iG 124 (.aTT 1 (Tm 122) (Tm 123)) 120 false,gL 125 124 120 false,gM 126 10 120 false,iG 127 (.aTT 3 (Tm 125) (Tm 126)) 120 false,gO 128 3 127 120 false,gK 129 54 128 120 false,gC 130 .gtr 129 0 120 false,gM 131 130 120 false,gM 132 7 131 true,gM 133 10 131 true,iG 134 (.aTT 1 (Tm 132) (Tm 133)) 131 true,gL 135 134 131 true,iG 136 (.pick (Tm 131) (Tm 135) (.const zB)) 120 false,iQ 137 120 136,iX 138 1 114 115,iS 1 138 137]
def OZ:Rg:=[iM 112 10,iC 113 .add 112 1,iM 10 113]
def OY:aC:=(.seq (sq V6 (.cond (Tm 111) .skip (.exit 6))) (.seq (.block 7 (.region fx)) (.region OZ)))
def fy:Rg:=[iM 91 9,iC 92 .add 91 1,iM 9 92]
def fl:aC:=(.seq (sq V5 (.cond (Tm 90) .skip (.exit 4))) (.seq (.block 5 (sq fv (sq fw (.block 6 (.loop OY))))) (.region fy)))
def V7:Rg:=[iM 86 8,iC 87 .add 86 1,iM 8 87]
def fm:aC:=(.seq (sq V3 (.cond (Tm 85) .skip (.exit 2))) (.seq (.block 3 (sq V4 (.block 4 (.loop fl)))) (.region V7)))
def V8:Rg:=[iI 11 0]
def V9:Rg:=[iM 139 11,iM 140 3,iB 141 .lss 139 140]
def fz:Rg:=[iM 144 7,iM 145 11,iX 146 1 144 145,iL 147 146,iA 148 (.un .not (Tm 147))]
def Wa:Rg:=[iT 2 false]
def Wb:Rg:=[iM 142 11,iC 143 .add 142 1,iM 11 143]
def fp:aC:=(.seq (sq V9 (.cond (Tm 141) .skip (.exit 8))) (.seq (.block 9 (sq fz (.cond (Tm 148) (sq Wa .ret) .skip))) (.region Wb)))
def ga:Rg:=[iT 2 true]
def VU:aC:=(sq afZ (sq agA (.seq (sq agB (.cond (Tm 41) (sq zW .ret) .skip)) (.seq (sq agC (.block 0 (.loop afY))) (.seq (sq V0 (dq fq (.cond (Tm 80) (sq ft .ret) .skip))) (sq V1 (.seq (sq V2 (.block 2 (.loop fm))) (.seq (sq V8 (.block 8 (.loop fp))) (sq ga .ret)))))))))
def aJC:List Nat:=[1]
def aDF:aZ:=⟨1,149,VU,[.tmp 2]⟩
def agH:Rg:=[iT 4 false]
def agI:Rg:=[iM 6 0,iM 7 1,iA 8 (.aTX true (Tm 7) (Ci 1)),iK2 9 75 6 8,iA 10 (.un .not (Tm 9))]
def agJ:Rg:=[iT 4 false]
def agK:Rg:=[iI 5 0]
def agL:Rg:=[iM 11 5,iM 12 0,iN 13 12,iB 14 .lss 11 13]
def agM:Rg:=[iM 17 0,iM 18 5,iX 19 3 17 18,iO 20 3 19,iK 21 54 20,iC 22 .eql 21 0]
def agN:Rg:=[iT 4 false]
def agO:Rg:=[iM 15 5,iC 16 .add 15 1,iM 5 16]
def agG:aC:=(.seq (sq agL (.cond (Tm 14) .skip (.exit 0))) (.seq (.block 1 (sq agM (.cond (Tm 22) (sq agN .ret) .skip))) (.region agO)))
def agP:Rg:=[iT 4 true]
def VV:aC:=(sq agH (.seq (sq agI (.cond (Tm 10) (sq agJ .ret) .skip)) (.seq (sq agK (.block 0 (.loop agG))) (sq agP .ret))))
def aJE:List Nat:=[]
def aDH:aZ:=⟨2,23,VV,[.tmp 4]⟩
def PW:Rg:=[iT 6 false]
def PX:Rg:=[iM 7 0,iM 8 1,iB 9 .geq 7 8,iM 10 9,gM 11 0 10 true,gM 12 2 10 true,gB 13 .leq 11 12 10 true,iP 14 10 13,iM 6 14]
def uU:aC:=(sq PW (sq PX .ret))
def anJ:List Nat:=[]
def XA:aZ:=⟨3,15,uU,[.tmp 6]⟩
def Gd:Rg:=[iT 12 false]
def Ge:Rg:=[iM 13 0,iC 14 .leq 13 4,iM 15 14,gM 16 1 15 true,gC 17 .leq 16 4 15 true,iP 18 15 17,iM 19 18,gM 20 2 19 true,gC 21 .leq 20 40 19 true,iP 22 19 21,iM 23 22,gM 24 3 23 true,gC 25 .leq 24 24 23 true,iP 26 23 25,iM 27 26,gM 28 4 27 true,gC 29 .leq 28 4 27 true,iP 30 27 29,iM 31 30,gM 32 5 31 true,gC 33 .leq 32 12 31 true,iP 34 31 33,iM 12 34]
def GZ:aC:=(sq Gd (sq Ge .ret))
def auQ:List Nat:=[]
def Wc:aZ:=⟨6,35,GZ,[.tmp 12]⟩
def ZO:Rg:=[iA 7 (.box true (Tm 3)),iT 8 false]
def ZP:Rg:=[iM 10 0,iM 11 1,iK2 12 61 10 11,iA 13 (.un .not (Tm 12)),iM 14 13,gM 15 2 14 false,gM 16 0 14 false,gM 17 0 14 false,gM 18 1 14 false,gB 19 .add 17 18 14 false,iG 20 (.call 76 [(Tm 15),(Tm 16),(Tm 19)]) 14 false,iG 21 (.un .not (Tm 20)) 14 false,iQ 22 14 21,iM 23 22,iG 24 (.idxA 5 1 (Tm 7) (Ci 0)) 23 false,gL 25 24 23 false,gC 26 .neq 25 0 23 false,iQ 27 23 26]
def wO:Rg:=[iT 8 false]
def ZQ:Rg:=[iI 9 1]
def ZR:Rg:=[iM 28 9,iC 29 .lss 28 5]
def GY:Rg:=[iM 32 9,iA 33 (.idxA 5 1 (Tm 7) (Tm 32)),iL 34 33,iA 35 (.call 76 [(Tm 34),(Ci 0),(Ci 8)]),iA 36 (.un .not (Tm 35))]
def ZS:Rg:=[iT 8 false]
def ZT:Rg:=[iM 30 9,iC 31 .add 30 1,iM 9 31]
def ZN:aC:=(.seq (sq ZR (.cond (Tm 29) .skip (.exit 0))) (.seq (.block 1 (sq GY (.cond (Tm 36) (sq ZS .ret) .skip))) (.region ZT)))
def ZU:Rg:=[iT 8 true]
def xR:aC:=(sq ZO (.seq (sq ZP (.cond (Tm 27) (sq wO .ret) .skip)) (.seq (sq ZQ (.block 0 (.loop ZN))) (sq ZU .ret))))
def Xl:List Nat:=[7]
def gb:aZ:=⟨4,37,xR,[.tmp 8]⟩
def afW:Rg:=[iA 6 (.box true (Tm 2)),iA 7 (.box true (Tm 3)),iT 8 false]
def afX:Rd:=[(iM 9 1,false),(iM 10 0,false),(iK2 11 66 9 10,true),(iM 12 11,false),(gO 13 3 6 12 true,false),(gK 14 74 13 12 true,true),(iP 15 12 14,false),(iM 16 15,false),(iG 17 (.call 47 [(Ci 1)]) 16 true,true),(gO 18 3 6 16 true,true),(gK2 19 49 17 18 16 true,true),(iG 20 (.un .not (Tm 19)) 16 true,false),(iP 21 16 20,false),(iM 22 21,false),(gO 23 3 7 22 true,false),(gK 24 74 23 22 true,true),(iP 25 22 24,false),(iM 8 25,false)]
def VS:aC:=(sq afW (dq afX .ret))
def aJA:List Nat:=[6,7]
def aDB:aZ:=⟨4,26,VS,[.tmp 8]⟩
def F7:Rg:=[iI 4 0]
def F8:Rg:=[iI 5 0]
def F9:Rg:=[iM 6 5,iM 7 0,iN 8 7,iB 9 .lss 6 8]
def VT:Rg:=[iM 12 0,iM 13 5,iX 14 1 12 13,iL 15 14,iM 16 1,iB 17 .eql 15 16]
def Ga:Rg:=[iM 18 5,iM 4 18]
def Gb:Rg:=[iM 10 5,iC 11 .add 10 1,iM 5 11]
def F6:aC:=(.seq (sq F9 (.cond (Tm 9) .skip (.exit 0))) (.seq (.block 1 (sq VT (.cond (Tm 17) (sq Ga .ret) .skip))) (.region Gb)))
def Gc:Rg:=[iI 4 (-1)]
def GX:aC:=(sq F7 (.seq (sq F8 (.block 0 (.loop F6))) (sq Gc .ret)))
def auN:List Nat:=[]
def Vz:aZ:=⟨2,19,GX,[.tmp 4]⟩
def Gh:Rg:=[iA 1 (.box true (Tm 0)),iT 2 false]
def Gi:Rg:=[iF 22 0 1,iL 23 22,iA 24 (.call 76 [(Tm 23),(Ci 1),(Ci 4)]),iA 25 (.un .not (Tm 24)),iM 26 25,gF 27 1 1 26 false,gL 28 27 26 false,gN 29 28 26 false,gF 30 2 1 26 false,gL 31 30 26 false,gN 32 31 26 false,gF 33 3 1 26 false,gL 34 33 26 false,gN 35 34 26 false,gF 36 4 1 26 false,gL 37 36 26 false,gN 38 37 26 false,gF 39 5 1 26 false,gL 40 39 26 false,gN 41 40 26 false,gF 42 6 1 26 false,gL 43 42 26 false,gN 44 43 26 false,iG 45 (.call 73 [(Tm 29),(Tm 32),(Tm 35),(Tm 38),(Tm 41),(Tm 44)]) 26 false,iG 46 (.un .not (Tm 45)) 26 false,iQ 47 26 46,iM 48 47,gF 49 3 1 48 false,gL 50 49 48 false,gN 51 50 48 false,gC 52 .eql 51 0 48 false,iQ 53 48 52]
def DR:Rg:=[iT 2 false]
def Gj:Rg:=[iZ 3,iZ 4,iZ 5,iZ 6,iZ 7]
def Gk:Rg:=[iT 8 true]
def Gl:Rg:=[iI 9 0]
def Gm:Rg:=[iM 54 9,iF 55 1 1,iL 56 55,iN 57 56,iB 58 .lss 54 57,iM 59 58,gM 60 8 59 true,iP 61 59 60]
def Gn:Rg:=[iM 65 3,iF 66 1 1,iL 67 66,iM 68 9,iX 69 4 67 68,iF 70 0 69,iL 71 70,iK2 72 70 65 71,iM 64 72,iE 73 64 0,iE 74 64 1,iM 3 73,iM 8 74]
def VW:Rg:=[iM 75 8,iM 76 75,gF 77 1 1 76 true,gL 78 77 76 true,gM 79 9 76 true,iG 80 (.aTT 4 (Tm 78) (Tm 79)) 76 true,gO 81 4 80 76 true,gK 82 68 81 76 true,iP 83 76 82,iM 8 83]
def VX:Rg:=[iM 62 9,iC 63 .add 62 1,iM 9 63]
def PA:aC:=(.seq (sq Gm (.cond (Tm 61) .skip (.exit 0))) (.seq (.block 1 (sq Gn (.region VW))) (.region VX)))
def rv:Rg:=[iI 10 0]
def rx:Rg:=[iM 84 10,iF 85 2 1,iL 86 85,iN 87 86,iB 88 .lss 84 87,iM 89 88,gM 90 8 89 true,iP 91 89 90]
def ry:Rg:=[iF 94 2 1,iL 95 94,iM 96 10,iX 97 4 95 96,iO 98 4 97,iA 11 (.alloc [(.str []),zI,zI,zI]),iS 4 11 98]
def rz:Rg:=[iM 100 4,iF 101 0 11,iL 102 101,iK2 103 70 100 102,iM 99 103,iE 104 99 0,iE 105 99 1,iM 4 104,iM 8 105]
def PD:Rg:=[iM 106 8,iM 107 106,gF 108 1 11 107 true,gL 109 108 107 true,iG 110 (.call 76 [(Tm 109),(Ci 1),(Ci 16)]) 107 true,iP 111 107 110,iM 112 111,gF 113 2 11 112 true,gL 114 113 112 true,iG 115 (.call 76 [(Tm 114),(Ci 1),(Ci 64)]) 112 true,iP 116 112 115,iM 117 116,gF 118 3 11 117 true,gL 119 118 117 true,gF 120 1 1 117 true,gL 121 120 117 true,gN 122 121 117 true,gC 123 .sub 122 1 117 true,iG 124 (.call 76 [(Tm 119),(Ci 0),(Tm 123)]) 117 true,iP 125 117 124,iM 8 125]
def uR:Rg:=[iM 92 10,iC 93 .add 92 1,iM 10 93]
def PB:aC:=(.seq (sq rx (.cond (Tm 91) .skip (.exit 2))) (.seq (.block 3 (sq ry (sq rz (.region PD)))) (.region uR)))
def r8:Rg:=[iF 126 3 1,iL 127 126,iA 128 (.aTT 7 (Tm 127) (Ci 0)),iO 129 7 128,iA 12 (.alloc [(.str []),zI,zI,zI,zB,.aB,.aB]),iS 7 12 129]
def PE:Rg:=[iM 130 8,iM 131 130,gF 132 0 12 131 true,gL 133 132 131 true,iG 134 (.bin .eql (Tm 133) (.const (.str []))) 131 true,iP 135 131 134,iM 136 135,gF 137 1 12 136 true,gL 138 137 136 true,gC 139 .eql 138 0 136 true,iP 140 136 139,iM 141 140,gF 142 2 12 141 true,gL 143 142 141 true,gC 144 .eql 143 (-1) 141 true,iP 145 141 144,iM 146 145,gF 147 3 12 146 true,gL 148 147 146 true,gC 149 .eql 148 0 146 true,iP 150 146 149,iM 151 150,gF 152 4 12 151 true,gO 153 3 152 151 true,gK 154 56 153 151 true,iP 155 151 154,iM 156 155,gF 157 4 12 156 true,gO 158 3 157 156 true,gK 159 54 158 156 true,gC 160 .eql 159 0 156 true,iP 161 156 160,iM 8 161]
def PG:Rg:=[iI 13 1]
def r9:Rg:=[iM 162 13,iF 163 3 1,iL 164 163,iN 165 164,iB 166 .lss 162 165,iM 167 166,gM 168 8 167 true,iP 169 167 168]
def sa:Rg:=[iF 172 3 1,iL 173 172,iM 174 13,iX 175 7 173 174,iO 176 7 175,iA 14 (.alloc [(.str []),zI,zI,zI,zB,.aB,.aB]),iS 7 14 176]
def sb:Rg:=[iM 178 5,iF 179 0 14,iL 180 179,iK2 181 70 178 180,iM 177 181,iE 182 177 0,iE 183 177 1,iM 5 182,iM 8 183]
def PI:Rd:=[(iM 184 8,false),(iM 185 184,false),(gF 186 1 14 185 true,false),(gL 187 186 185 true,false),(iG 188 (.call 76 [(Tm 187),(Ci 1),(Ci 4)]) 185 true,true),(iP 189 185 188,false),(iM 190 189,false),(gF 191 2 14 190 true,false),(gL 192 191 190 true,false),(gM 193 13 190 true,false),(gC 194 .sub 193 1 190 true,false),(iG 195 (.call 76 [(Tm 192),(Ci 0),(Tm 194)]) 190 true,true),(iP 196 190 195,false),(iM 197 196,false),(gF 198 3 1 197 true,false),(gL 199 198 197 true,false),(gF 200 2 14 197 true,false),(gL 201 200 197 true,false),(iG 202 (.aTT 7 (Tm 199) (Tm 201)) 197 true,false),(gF 203 1 202 197 true,false),(gL 204 203 197 true,false),(gF 205 1 14 197 true,false),(gL 206 205 197 true,false),(gC 207 .sub 206 1 197 true,false),(gB 208 .eql 204 207 197 true,false),(iP 209 197 208,false),(iM 210 209,false),(gF 211 3 14 210 true,false),(gL 212 211 210 true,false),(iG 213 (.call 76 [(Tm 212),(Ci 1),(Ci 64)]) 210 true,true),(iP 214 210 213,false),(iM 215 214,false),(gF 216 4 14 215 true,false),(gO 217 3 216 215 true,false),(gK 218 74 217 215 true,true),(iP 219 215 218,false),(iM 8 219,false)]
def oQ:Rg:=[iM 170 13,iC 171 .add 170 1,iM 13 171]
def yX:aC:=(.seq (sq r9 (.cond (Tm 169) .skip (.exit 4))) (.seq (.block 5 (sq sa (sq sb (.draw PI)))) (.region oQ)))
def PJ:Rg:=[iI 15 0]
def sd:Rg:=[iM 220 15,iF 221 4 1,iL 222 221,iN 223 222,iB 224 .lss 220 223,iM 225 224,gM 226 8 225 true,iP 227 225 226]
def se:Rg:=[iF 230 4 1,iL 231 230,iM 232 15,iX 233 3 231 232,iO 234 3 233,iA 16 (.alloc [(.str []),zI,zI]),iS 3 16 234]
def sf:Rg:=[iM 236 5,iF 237 0 16,iL 238 237,iK2 239 70 236 238,iM 235 239,iE 240 235 0,iE 241 235 1,iM 5 240,iM 8 241]
def PK:Rg:=[iM 242 8,iM 243 242,gF 244 1 16 243 true,gL 245 244 243 true,gF 246 2 1 243 true,gL 247 246 243 true,gN 248 247 243 true,gC 249 .sub 248 1 243 true,iG 250 (.call 76 [(Tm 245),(Ci 0),(Tm 249)]) 243 true,iP 251 243 250,iM 252 251,gF 253 2 16 252 true,gL 254 253 252 true,gF 255 3 1 252 true,gL 256 255 252 true,gN 257 256 252 true,gC 258 .sub 257 1 252 true,iG 259 (.call 76 [(Tm 254),(Ci 0),(Tm 258)]) 252 true,iP 260 252 259,iM 261 260,gF 262 3 1 261 true,gL 263 262 261 true,gF 264 2 16 261 true,gL 265 264 261 true,iG 266 (.aTT 7 (Tm 263) (Tm 265)) 261 true,gF 267 1 266 261 true,gL 268 267 261 true,gC 269 .eql 268 4 261 true,iP 270 261 269,iM 8 270]
def uS:Rg:=[iM 228 15,iC 229 .add 228 1,iM 15 229]
def yY:aC:=(.seq (sq sd (.cond (Tm 227) .skip (.exit 6))) (.seq (.block 7 (sq se (sq sf (.region PK)))) (.region uS)))
def PL:Rg:=[iI 17 0]
def sg:Rg:=[iM 271 17,iF 272 5 1,iL 273 272,iN 274 273,iB 275 .lss 271 274,iM 276 275,gM 277 8 276 true,iP 278 276 277]
def sj:Rg:=[iF 281 5 1,iL 282 281,iM 283 17,iX 284 17 282 283,iO 285 17 284,iA 18 (.alloc [(.str []),zI,zI,zI,zI,zI,zI,zI,zI,.aB,.aB,zB,.aB,.aB,zB,.aB,.aB]),iS 17 18 285]
def sk:Rg:=[iM 287 6,iF 288 0 18,iL 289 288,iK2 290 70 287 289,iM 286 290,iE 291 286 0,iE 292 286 1,iM 6 291,iM 8 292]
def PN:Rg:=[iM 293 8,iM 294 293,gF 295 1 18 294 true,gL 296 295 294 true,gF 297 2 18 294 true,gL 298 297 294 true,gF 299 3 18 294 true,gL 300 299 294 true,gF 301 4 18 294 true,gO 302 5 301 294 true,iG 303 (.call 72 [(Tm 296),(Tm 298),(Tm 300),(Tm 302)]) 294 true,iP 304 294 303,iM 305 304,gF 306 2 18 305 true,gL 307 306 305 true,gF 308 10 18 305 true,gL 309 308 305 true,gF 310 11 18 305 true,gO 311 3 310 305 true,gF 312 14 18 305 true,gO 313 3 312 305 true,iG 314 (.call 69 [(Tm 307),(Tm 309),(Tm 311),(Tm 313)]) 305 true,iP 315 305 314,iM 316 315,gF 317 9 18 316 true,gL 318 317 316 true,gN 319 318 316 true,gC 320 .gtr 319 0 316 true,iP 321 316 320,iM 8 321]
def uT:Rg:=[iI 19 0]
def sm:Rg:=[iM 322 19,iF 323 9 18,iL 324 323,iN 325 324,iB 326 .lss 322 325,iM 327 326,gM 328 8 327 true,iP 329 327 328]
def sn:Rd:=[(iF 332 9 18,false),(iL 333 332,false),(iM 334 19,false),(iX 335 1 333 334,false),(iL 336 335,false),(iF 337 2 1,false),(iL 338 337,false),(iN 339 338,false),(iC 340 .sub 339 1,false),(iA 341 (.call 76 [(Tm 336),(Ci 0),(Tm 340)]),true),(iM 8 341,false)]
def so:Rg:=[iI 20 0]
def sr:Rg:=[iM 342 20,iM 343 19,iB 344 .lss 342 343]
def PO:Rd:=[(iM 347 8,false),(iM 348 347,false),(gF 349 9 18 348 true,false),(gL 350 349 348 true,false),(gM 351 20 348 true,false),(iG 352 (.aTT 1 (Tm 350) (Tm 351)) 348 true,false),(gL 353 352 348 true,false),(gF 354 9 18 348 true,false),(gL 355 354 348 true,false),(gM 356 19 348 true,false),(iG 357 (.aTT 1 (Tm 355) (Tm 356)) 348 true,false),(gL 358 357 348 true,false),(gB 359 .neq 353 358 348 true,false),(iP 360 348 359,false),(iM 8 360,false)]
def PP:Rg:=[iM 345 20,iC 346 .add 345 1,iM 20 346]
def PC:aC:=(.seq (sq sr (.cond (Tm 344) .skip (.exit 12))) (.seq (.block 13 (.draw PO)) (.region PP)))
def su:Rg:=[iM 330 19,iC 331 .add 330 1,iM 19 331]
def yZ:aC:=(.seq (sq sm (.cond (Tm 329) .skip (.exit 10))) (.seq (.block 11 (dq sn (sq so (.block 12 (.loop PC))))) (.region su)))
def PQ:Rg:=[iM 279 17,iC 280 .add 279 1,iM 17 280]
def zA:aC:=(.seq (sq sg (.cond (Tm 278) .skip (.exit 8))) (.seq (.block 9 (sq sj (sq sk (sq PN (sq uT (.block 10 (.loop yZ))))))) (.region PQ)))
def PR:Rg:=[iI 21 0]
def sv:Rg:=[iM 361 21,iF 362 6 1,iL 363 362,iN 364 363,iB 365 .lss 361 364,iM 366 365,gM 367 8 366 true,iP 368 366 367]
def sw:Rg:=[iM 372 7,iF 373 6 1,iL 374 373,iM 375 21,iX 376 2 374 375,iF 377 0 376,iL 378 377,iK2 379 70 372 378,iM 371 379,iE 380 371 0,iE 381 371 1,iM 7 380,iM 8 381]
def PS:Rd:=[(iM 382 8,false),(iM 383 382,false),(gF 384 6 1 383 true,false),(gL 385 384 383 true,false),(gM 386 21 383 true,false),(iG 387 (.aTT 2 (Tm 385) (Tm 386)) 383 true,false),(gF 388 1 387 383 true,false),(gL 389 388 383 true,false),(gF 390 5 1 383 true,false),(gL 391 390 383 true,false),(gN 392 391 383 true,false),(gC 393 .sub 392 1 383 true,false),(iG 394 (.call 76 [(Tm 389),(Ci 0),(Tm 393)]) 383 true,true),(iP 395 383 394,false),(iM 8 395,false)]
def PT:Rg:=[iM 369 21,iC 370 .add 369 1,iM 21 370]
def zC:aC:=(.seq (sq sv (.cond (Tm 368) .skip (.exit 14))) (.seq (.block 15 (sq sw (.draw PS))) (.region PT)))
def PU:Rg:=[iM 396 8,iM 2 396]
def HB:aC:=(sq Gh (.seq (sq Gi (.cond (Tm 53) (sq DR .ret) .skip)) (sq Gj (sq Gk (.seq (sq Gl (.block 0 (.loop PA))) (.seq (sq rv (.block 2 (.loop PB))) (sq r8 (sq PE (.seq (sq PG (.block 4 (.loop yX))) (.seq (sq PJ (.block 6 (.loop yY))) (.seq (sq PL (.block 8 (.loop zA))) (.seq (sq PR (.block 14 (.loop zC))) (sq PU .ret)))))))))))))
def auW:List Nat:=[1]
def We:aZ:=⟨1,397,HB,[.tmp 2]⟩
def Fy:Rg:=[iZ 4,iT 5 false]
def F0:Rg:=[iM 6 0,iM 7 1,iA 8 (.aTI true 1 1 [(.str [])] [(0,(Tm 7))]),iA 9 (.append 1 16 (Tm 6) (Tm 8)),iM 10 1,iK 11 62 10,iM 12 11,gM 13 0 12 true,gM 14 1 12 true,gK2 15 71 13 14 12 true,gC 16 .lss 15 0 12 true,iP 17 12 16,iM 4 9,iM 5 17]
def GW:aC:=(sq Fy (sq F0 .ret))
def auL:List Nat:=[8]
def Vy:aZ:=⟨2,18,GW,[.tmp 4,.tmp 5]⟩
theorem anI {C:Ctx} (n lo hi:Int):uU.wp C (aU XA.res (aI (.bool (within n lo hi)))) (PF.args [.int .i64 n,.int .i64 lo,.int .i64 hi]) .nil:=by
 unfold within;by_cases h:lo≤n
 ·simp only[go_sem,uU,PW,PX,XA,ge_iff_le,h];refine aR (.inr rfl) rfl ?_;simp[bQ,h]
 ·simp only[go_sem,uU,PW,PX,XA,ge_iff_le,h];refine aR (.inr rfl) rfl ?_;simp[bQ,h]
def pY (a b c d e f:Nat):Bool:=decide (a≤4)&&(decide (b≤4)&&(decide (c≤40)&&(decide (d≤24)&&(decide (e≤4)&&decide (f≤12)))))
theorem auP {C:Ctx} (a b c d e f:Nat):GZ.wp C (aU Wc.res (aI (.bool (pY a b c d e f)))) (PF.args [.int .i64 a,.int .i64 b,.int .i64 c,.int .i64 d,.int .i64 e,.int .i64 f]) .nil:=by
 have g:∀ x k:Nat,decide ((x:Int)≤(k:Int))=decide (x≤k):=fun x k=>decide_eq_decide.2 Om;have i:=g a 4;have l:=g b 4;have p:=g c 40;have u:=g d 24;have h5:=g e 4;have w:=g f 12;simp only[Int.cast_ofNat_Int] at i l p u h5 w;unfold pY;simp only[go_sem,GZ,Gd,Ge,Wc,i];cases decide (a≤4) with
 | false =>simp only[go_sem];refine aR (.inr rfl) rfl ?_;rfl
 | true =>
  simp only[go_sem,l];cases decide (b≤4) with
  | false =>simp only[go_sem];refine aR (.inr rfl) rfl ?_;rfl
  | true =>
   simp only[go_sem,p];cases decide (c≤40) with
   | false =>simp only[go_sem];refine aR (.inr rfl) rfl ?_;rfl
   | true =>
    simp only[go_sem,u];cases decide (d≤24) with
    | false =>simp only[go_sem];refine aR (.inr rfl) rfl ?_;rfl
    | true =>
     simp only[go_sem,h5];cases decide (e≤4) with
     | false =>simp only[go_sem];refine aR (.inr rfl) rfl ?_;rfl
     | true =>simp only[go_sem,w];refine aR (.inr rfl) rfl ?_;rfl
structure gj (C:Ctx):Prop extends agU C where
 sum:∀ l:List RF,(∀ x∈l,x.Ok)→l.length≤9223372036854775807→aH C 55 [frs l] .nil (aI (frV (nY (l.map RF.v))))
 inn:∀ n lo hi:Int,aH C 76 [.int .i64 n,.int .i64 lo,.int .i64 hi] .nil (aI (.bool (within n lo hi)))
 code:∀ k m:Int,aH C 61 [.int .i64 k,.int .i64 m] .nil (aI (.bool (IP k m)))
def MO (k m q s0 s1 s2 s3 s4:Int):Bool:=IP k m&&(within q k (k+m)&&(decide (s0=0)&&(within s1 0 8&&(within s2 0 8&&(within s3 0 8&&within s4 0 8)))))
theorem aHJ (p:bT):MN p=MO p.k p.m p.aUA p.s0 p.s1 p.s2 p.s3 p.s4:=by
 unfold MN MO IP;have:within p.s0 0 8=true∨p.s0≠0:=by
  by_cases h:p.s0=0
  ·rw[h]; exact .inl rfl
  ·exact .inr h
 simp only[List.all_cons,List.all_nil,aWQ];rcases this with h | h
 ·rw[h];simp only[aVA,aXN]
 ·simp only[h,decide_false,aUV,aWB]
def spR (s1 s2 s3 s4:Int) (k:Nat):Int:=match k with
 | 1=>s1
 | 2=>s2
 | 3=>s3
 | _=>s4
theorem Xk {C:Ctx} (L:gj C) (k m q s0 s1 s2 s3 s4:Int) :
  xR.wp C (aU gb.res (aI (.bool (MO k m q s0 s1 s2 s3 s4)))) (PF.args [.int .i64 k,.int .i64 m,.int .i64 q,.agg [.int .i64 s0,.int .i64 s1,.int .i64 s2,.int .i64 s3,.int .i64 s4]]) .nil:=by
 obtain⟨X,p⟩:∃ X,MO k m q s0 s1 s2 s3 s4=X:=⟨_,rfl⟩;rw[p];unfold MO at p;simp only[go_sem,xR,ZO,ZP,gb];refine aA (L.code k m) rfl ?_;cases E:IP k m with
 | false =>rw[E,aUV] at p;simp only[go_sem,aVG,wO];refine aR (.inr rfl) rfl ?_;rw[bQ,p]
 | true =>
  rw[E,aVA] at p;have Q:1≤k∧k≤6∧0≤m∧m≤4:=by simp only[IP,aVE,within_iff] at E;omega
  have O:IntKind.i64.wrap (k+m)=k+m:=wrap_i64 Om Om;simp only[go_sem,aUW,O];refine aA (L.inn q k (k+m)) rfl ?_;cases H:within q k (k+m) with
  | false =>rw[H,aUV] at p;simp only[go_sem,aVG,wO];refine aR (.inr rfl) rfl ?_;rw[bQ,p]
  | true =>
   rw[H,aVA] at p;have B:(0:Int)<((5:Nat):Int):=by decide
   by_cases F:s0=0
   ·rw[decide_eq_true F,aVA] at p;simp only[go_sem,aUW,B,cA F,ZQ];refine wp_loop (α:=Nat) (fun j=>((PF.nil.set 7 (.bL [.int .i64 s0,.int .i64 s1,.int .i64 s2,.int .i64 s3,.int .i64 s4])).set 9 (.int .i64 j))) (fun _=>.nil) (fun j=>1≤j∧j≤5∧∀ i,1≤i→i<j→within (spR s1 s2 s3 s4 i) 0 8=true) (fun j=>5-j) 1 ⟨by decide,by decide,fun i E H=>by omega⟩ Lq a_ ?_;rintro j ⟨K,M,d⟩;simp only[go_sem,ZN,ZR];by_cases hlt:j<5
    ·have l:(j:Int)<5:=Om;have x:((j:Nat):Int)<((5:Nat):Int):=Om;have w:=L.inn (spR s1 s2 s3 s4 j) 0 8;obtain⟨c,u⟩:∃ c,within (spR s1 s2 s3 s4 j) 0 8=c:=⟨_,rfl⟩;rw[u] at w;have y:c=true→∀ i,1≤i→i<j+1→within (spR s1 s2 s3 s4 i) 0 8=true:=fun A i a b=>by
      by_cases e:i=j
      ·rw[e,u,A]
      ·exact d i a Om
     have bad:c=false→X=false:=by intro h;rw[h] at u;have A:j=1∨j=2∨j=3∨j=4:=Om;rw[← p];rcases A with rfl | rfl | rfl | rfl<;>(simp only[spR] at u; rw[u]; simp)
     have A:j=1∨j=2∨j=3∨j=4:=Om;cases c with
     | false =>
      have J:=bad rfl;rcases A with rfl | rfl | rfl | rfl
      all_goals
       simp only[spR] at w;simp only[go_sem,l,GY,x];refine aA w rfl ?_;simp only[go_sem,aVG,ZS];refine aR (.inr rfl) rfl ?_;rw[bQ,J]
     | true =>
      have N:=y rfl;rcases A with rfl | rfl | rfl | rfl
      all_goals
       simp only[spR] at w;simp only[go_sem,l,GY,x];refine aA w rfl ?_;simp only[go_sem,aUW,ZT];refine aG (_+1) ⟨by omega,hlt,N⟩ Om Lq b_
    ·have l:¬ (j:Int)<5:=Om;have:j=5:=Om;subst this;simp only[go_sem,l,ZU];refine aR (.inr rfl) rfl ?_;have a1:=d 1 (by decide) (by decide);have a2:=d 2 (by decide) (by decide);have a3:=d 3 (by decide) (by decide);have a4:=d 4 (by decide) (by decide);simp only[spR] at a1 a2 a3 a4;rw[bQ,← p,a1,a2,a3,a4];rfl
   ·rw[decide_eq_false F,aUV] at p;simp only[go_sem,aUW,B,dO F,wO];refine aR (.inr rfl) rfl ?_;rw[bQ,p]
theorem qP {x:RF} (h:cT x=true):x.valid:=by
 unfold cT pD at h;unfold RF.valid;cases c:cX (val x.num) (val x.den) with
 | true=>rfl
 | false =>rw[c] at h;simp at h
theorem auR {C:Ctx} (L:gj C) (x:RF) (w:x.Ok):HA.wp C (aU Wd.res (aI (.bool (cT x)))) (PF.args [.agg x.cells]) .nil:=by
 have u:=L.red x w;unfold cT;simp only[go_sem,HA,Gf,Gg,Wd];refine aA u rfl ?_;cases l:pD x with
 | error e =>have i:=Rq l;simp only[go_sem,frV];refine aO fun o p=>?_;simp only[go_sem,DQ,bG i];refine aR (.inr rfl) rfl ?_;rfl
 | ok r =>
  obtain⟨n,a,b⟩:=r;have y:=mK a 1;have A:=mK b 1;have c:decide (((nl a:Nat):Int)≤1)=decide (cM a≤32):=decide_eq_decide.2 Om;have d:decide (((nl b:Nat):Int)≤1)=decide (cM b≤32):=decide_eq_decide.2 Om;simp only[go_sem,frV];refine aO fun o p=>?_;cases n with
  | true =>simp only[go_sem,DQ,aUW];refine aR (.inr rfl) rfl ?_;rfl
  | false =>
   simp only[go_sem,DQ,aVG,aUN,bB,c];cases decide (cM a≤32) with
   | false =>simp only[go_sem];refine aR (.inr rfl) rfl ?_;rfl
   | true =>simp only[go_sem,aUN,bB,d];refine aR (.inr rfl) rfl ?_;rfl
structure sx (C:Ctx):Prop extends gj C where
 small:∀ x:RF,x.Ok→aH C 74 [.agg x.cells] .nil (aI (.bool (cT x)))
 nums:∀ k m q s0 s1 s2 s3 s4:Int,aH C 72 [.int .i64 k,.int .i64 m,.int .i64 q,.agg [.int .i64 s0,.int .i64 s1,.int .i64 s2,.int .i64 s3,.int .i64 s4]] .nil (aI (.bool (MO k m q s0 s1 s2 s3 s4)))
 sizes:∀ a b c d e f:Nat,aH C 73 [.int .i64 a,.int .i64 b,.int .i64 c,.int .i64 d,.int .i64 e,.int .i64 f] .nil (aI (.bool (pY a b c d e f)))
theorem jx {l:List RF} {k:Nat} (h:k<l.length):(l.map RF.cells)[k]?=some (l[k]).cells:=by simp[h]
theorem anG {C:Ctx} (L:sx C) (l:List RF) (i:kB l) (n:Int):BP.wp C (aU w8.res (aI (.bool (decide ((l.length:Int)=n)&&l.all cT)))) (PF.args [frs l,.int .i64 n]) .nil:=by
 have p:=i.fits;unfold Fits at p;simp only[go_sem,BP,re,rg,w8,aUN];by_cases h:(l.length:Int)=n
 ·rw[decide_eq_true h,aVA];subst h;simp only[go_sem,cA (show (l.length:Int)=(l.length:Nat) from rfl),ri];refine wp_loop (α:=Nat) (fun k=>(((PF.nil.set 0 (frs l)).set 1 (.int .i64 (l.length:Nat))).set 5 (.int .i64 k))) (fun _=>.nil) (fun k=>k≤l.length∧(l.take k).all cT=true) (fun k=>l.length-k) 0 ⟨aUT _,rfl⟩ Lq a_ ?_;rintro k ⟨w,d⟩;simp only[go_sem,rc,rj];by_cases hlt:k<l.length
  ·have c:(k:Int)<(l.length:Nat):=Om;have u:=L.small l[k] (i.all _ (aUQ hlt));simp only[go_sem,c,rk,jx hlt];refine aA u rfl ?_;cases hi:cT l[k] with
   | false =>simp only[go_sem,aVG,rp];refine aR (.inr rfl) rfl ?_;rw[bQ,pP hlt hi]
   | true =>have e:=aVD.1 (pO hlt d hi);simp only[go_sem,aUW,rt,wZz k];exact aG (k+1) ⟨hlt,e⟩ Om Lq b_
  ·have c:¬ (k:Int)<(l.length:Nat):=Om;have:k=l.length:=Om;subst this;rw[aVP] at d;simp only[go_sem,c,ru];refine aR (.inr rfl) rfl ?_;rw[bQ,d]
 ·rw[decide_eq_false h,aUV];simp only[go_sem,dO h,rh];refine aR (.inr rfl) rfl ?_;rfl
structure sy (C:Ctx):Prop extends sx C where
 smalls:∀ l:List RF,kB l→∀ n:Int,aH C 75 [frs l,.int .i64 n] .nil (aI (.bool (decide ((l.length:Int)=n)&&l.all cT)))
theorem NK (x:RF):(rY x==0)=!bM x:=by
 unfold rY bM;by_cases h:val x.num=0
 ·simp[h]
 ·cases x.neg<;>simp[h]
def d3 (l:List RF) (m:Int):Bool:=decide ((l.length:Int)=max m 1)&&l.all cT&&l.all bM
theorem aJD {C:Ctx} (L:sy C) (l:List RF) (u:kB l) (m:Int):VV.wp C (aU aDH.res (aI (.bool (d3 l m)))) (PF.args [frs l,.int .i64 m]) .nil:=by
 have x:=u.fits;unfold Fits at x;have A:=L.smalls l u (max m 1);unfold d3;simp only[go_sem,VV,agH,agI,aDH,max_eq];refine aA A rfl ?_;cases h:(decide ((l.length:Int)=max m 1)&&l.all cT) with
 | false =>simp only[go_sem,aVG,agJ];refine aR (.inr rfl) rfl ?_;rfl
 | true =>
  rw[aVE] at h;have d:=aVD.1 h.2;simp only[go_sem,aUW,agK];refine wp_loop (α:=Nat) (fun k=>((PF.nil.set 0 (frs l)).set 5 (.int .i64 k))) (fun _=>.nil) (fun k=>k≤l.length∧(l.take k).all bM=true) (fun k=>l.length-k) 0 ⟨aUT _,rfl⟩ Lq a_ ?_;rintro k ⟨B,i⟩;simp only[go_sem,agG,agL,aUN];by_cases hlt:k<l.length
  ·have c:(k:Int)<(l.length:Nat):=Om;have w:=aUQ hlt;have y:=L.sign l[k] (u.all _ w) (qP (d _ w));have e:=NK l[k];simp only[go_sem,c,agM,jx hlt];refine aA y rfl ?_;cases hi:bM l[k] with
   | false =>rw[hi] at e;simp only[go_sem,e,aVG,agN];refine aR (.inr rfl) rfl ?_;rw[bQ,pP hlt hi]
   | true =>rw[hi] at e;have p:=aVD.1 (pO hlt i hi);simp only[go_sem,e,aUW,agO,wZz k];exact aG (k+1) ⟨hlt,p⟩ Om Lq b_
  ·have c:¬ (k:Int)<(l.length:Nat):=Om;have:k=l.length:=Om;subst this;rw[aVP] at i;simp only[go_sem,c,agP];refine aR (.inr rfl) rfl ?_;rw[bQ,i]
structure s7 (C:Ctx):Prop extends sy C where
 reps:∀ l:List RF,kB l→∀ m:Int,aH C 66 [frs l,.int .i64 m] .nil (aI (.bool (d3 l m)))
def frD:List PV→RF
 | [.bool n,a,b]=>⟨n,jN a,jN b⟩
 | _=>⟨false,[],[]⟩
theorem y7 (x:RF):frD x.cells=x:=by
 show (⟨x.neg,jN (aK x.num),jN (aK x.den)⟩:RF)=x;rw[eJ,eJ]
def zdS (r s:Bool):Spec:=fun name vs=>match name,vs with
 | 66,_=>some ([],fun _=>aI (.bool r))
 | 74,[.agg cs]=>some ([],fun _=>aI (.bool (cT (frD cs))))
 | 47,_=>some ([],fun _=>aI (.agg (mkT 1 1).cells))
 | 49,_=>some ([],fun _=>aI (.bool s))
 | _,_=>none
theorem Fv (r s:Bool) (x:RF):zdS r s 74 [.agg x.cells]=some ([],fun _=>aI (.bool (cT x))):=by
 show some ([],fun _=>aI (.bool (cT (frD x.cells))))=_;rw[y7]
theorem arF (x y:RF):pW y x=- pW x y:=by
 unfold pW pV;have e:=xr (val x.num*val y.den) (val y.num*val x.den);cases x.neg&&decide (val x.num≠0)<;>cases y.neg&&decide (val y.num≠0)<;>simp only[e,Int.neg_neg]<;>rfl
theorem azZ {x:RF} (c:x.valid):decide (pW (mkT 1 1) x<0)=!xP x:=by
 rw[arF x];unfold xP;rw[show cX (val x.num) (val x.den)=true from c,aVA,HQ];unfold pW;simp only[aT,show (1:Int).natAbs=1 from rfl,show decide ((1:Int)<0)=false from rfl];by_cases h:pV x.neg (val x.num) (val x.den) false 1 1≤0
 ·rw[decide_eq_true h,decide_eq_false Om]; rfl
 ·rw[decide_eq_false h,decide_eq_true Om]; rfl
def RQ (m:Int) (rep:List RF) (t h:RF):Bool:=d3 rep m&&(cT t&&(xP t&&cT h))
theorem aIZ {C:Ctx} (L:s7 C) (m:Int) (rep:List RF) (p:kB rep) (t h:RF) (i:t.Ok) (l:h.Ok) :
  VS.wp C (aU aDB.res (aI (.bool (RQ m rep t h)))) (PF.args [.int .i64 m,frs rep,.agg t.cells,.agg h.cells]) .nil:=by
 have d:dK 1:=by unfold dK; omega
 unfold RQ;simp only[go_sem,VS,afW,aDB];refine bS .nil (zdS (d3 rep m) (!xP t)) a_ ?_;simp only[go_sem,afX];refine bY rfl (L.reps rep p m) rfl a_ ?_;cases d3 rep m with
 | false =>simp only[go_sem];refine aR (.inr rfl) rfl ?_;rfl
 | true =>
  simp only[go_sem];refine bY (Fv _ _ t) (L.small t i) rfl a_ ?_;cases e:cT t with
  | false =>simp only[go_sem];refine aR (.inr rfl) rfl ?_;rfl
  | true =>
   have c:=L.less (mkT 1 1) t (HP 1 d).1 i (HP 1 d).2 (qP e);rw[azZ (qP e)] at c;simp only[go_sem];refine bY rfl (L.int 1 d) rfl a_ ?_;simp only[go_sem];refine bY rfl c rfl a_ ?_;cases xP t with
   | false =>simp only[go_sem,aVG,aUW];refine aR (.inr rfl) rfl ?_;rfl
   | true =>simp only[go_sem,aUW,aVG];refine bY (Fv _ _ h) (L.small h l) rfl a_ ?_;simp only[go_sem];refine aR (.inr rfl) rfl ?_;rfl
theorem aKB (p:bT):CR p=RQ p.m p.repair p.target p.aTM:=by
 unfold CR RQ d3;have:(p.repair.all fun x=>cT x&&bM x)=(p.repair.all cT&&p.repair.all bM):=by
  induction p.repair with
  | nil=>rfl
  | cons a t c =>simp only[List.all_cons,c];cases cT a<;>cases bM a<;>simp
 rw[this];simp only[aXN]
section
variable {H:PH} {B:List BX} {L:List LI}
theorem aM.ahA (h:aM H B L) (i:Nat) {s b:Nat} {v y:PV} {rows src:List (List PV)} {K:PV→PH→Prop} (hi:L[i]?=some (v,s,rows)) (A:dX H s y=some src) (x:roomFor rows.length src.length b)
  (l:∀ v' H',bE H' s v rows→aM H' B (L.set i (v',s,rows++src))→K v' H'):mB H s b v y K:=by
 rcases h.own i hi with ⟨rfl,rfl⟩ | ⟨q,rs,rfl,h1,h2,h3⟩
 ·exact h.append i hi A x fun v' H' E _=>l v' H' (.inl ⟨rfl,rfl⟩) E
 ·have c:(rows++src).length=rows.length+src.length:=aUS;refine⟨src,A,rfl,rfl,x,rs,h1,h2,?_,fun o e=>?_⟩
  ·rw[h3];refine l _ _ (.inr ⟨q,rows++src,rfl,by rw[cO],by rw[c]; omega,List.take_left' rfl⟩) (h.NU i hi (.inr ⟨q,rows++src,by rw[c],by simp only[aN,if_true],aUU _,aVP⟩) (fun p d=>by cases d; exact .inl rfl) fun p _ d=>?_);rw[aN,if_neg (d q rfl)]
  ·rw[h3];have w:q≠o:=by rintro rfl; rw[h1] at e; cases e
   refine l _ _ (.inr ⟨q,rs,rfl,by rw[aN,if_neg w]; exact h1,h2,h3⟩) (h.NU i hi (.inr ⟨o,rows++src,by rw[c],by simp only[aN,if_true],aUU _,aVP⟩) (fun p d=>by cases d; exact .inr e) fun p u d=>?_);obtain⟨f1,f2⟩:=h.fresh e;have F:p≠o:=by rintro rfl; exact u.elim f1 f2
   rw[aN,if_neg F]
end
abbrev mZ (l:List (List UInt8)):List (List PV):=l.map fun s=>[PV.str s]
def AW:List (List UInt8)→List UInt8→Nat→Int
 | [],_,_=>-1
 | x::t,s,i=>if x==s then (i:Int) else AW t s (i+1)
theorem No (s:List UInt8):∀ (l:List (List UInt8)) (i:Nat),decide (AW l s i<0)=!l.contains s
 | [],i=>rfl
 | x::t,i=>by
  rw[AW,List.contains_cons,BEq.comm (a:=s)];by_cases h:(x==s)=true
  ·rw[if_pos h,h,Bool.true_or,decide_eq_false Om]; rfl
  ·rw[if_neg h,No s t (i+1)];simp only[Bool.not_eq_true] at h;rw[h,Bool.false_or]
theorem auM {C:Ctx} (l:List (List UInt8)) (u:l.length≤1000000) (s:List UInt8):GX.wp C (aU Vz.res (aI (.int .i64 (AW l s 0)))) (PF.args [.sl 1 (mZ l),.str s]) .nil:=by
 simp only[go_sem,GX,F7,F8,Vz];refine wp_loop (α:=Nat) (fun k=>(((PF.nil.set 0 (.sl 1 (mZ l))).set 1 (.str s)).set 5 (.int .i64 k))) (fun _=>.nil) (fun k=>k≤l.length∧AW l s 0=AW (l.drop k) s k) (fun k=>l.length-k) 0 ⟨aUT _,rfl⟩ Lq a_ ?_;rintro k ⟨p,d⟩;simp only[go_sem,F6,F9,aUN];by_cases hlt:k<l.length
 ·have c:(k:Int)<(l.length:Nat):=Om;have e:(mZ l)[k]?=some [.str l[k]]:=by simp[hlt]
  rw[aWM hlt,AW] at d;cases i:l[k]==s with
  | true =>rw[i,if_pos rfl] at d;simp only[go_sem,c,VT,e,i,Ga];refine aR (.inr rfl) rfl ?_;rw[bQ,d]
  | false =>rw[i,if_neg (by decide)] at d;simp only[go_sem,c,VT,e,i,Gb,wZz k];exact aG (k+1) ⟨hlt,d⟩ Om Lq b_
 ·have c:¬ (k:Int)<(l.length:Nat):=Om;have:k=l.length:=Om;subst this;rw[List.drop_length,AW] at d;simp only[go_sem,c,Gc];refine aR (.inr rfl) rfl ?_;rw[bQ,d]
structure s8 (C:Ctx):Prop extends s7 C where
 name:∀ s:List UInt8,aH C 62 [.str s] .nil (aI (.bool (isName s)))
 index:∀ (l:List (List UInt8)),l.length≤1000000→∀ s:List UInt8,aH C 71 [.sl 1 (mZ l),.str s] .nil (aI (.int .i64 (AW l s 0)))
def jO (l:List (List UInt8)) (s:List UInt8):Bool:=isName s&&!l.contains s
def gg (l:List (List UInt8)) (s:List UInt8) (r:PV) (B:List BX) (L:List LI):Prop:=∃ c,r=.tup [c,.bool (jO l s)]∧B=[]∧L=[(c,1,mZ (l++[s]))]
theorem auK {C:Ctx} (L:s8 C) (l:List (List UInt8)) (Q:l.length≤1000000) (s:List UInt8) (w:PV) (H:PH) (N:aM H [] [(w,1,mZ l)]) :
  GW.wp C (aU Vy.res (fun r H'=>∃ B' L',gg l s r B' L'∧aM H' B' L')) (PF.args [w,.str s]) H:=by
 have p:=L.index l Q s;have E:=L.name s;have d:=No s l 0;have A:(1:Nat)*1≤16777216:=by decide
 have fin:∀ (F:PF) (H':PH) (c:PV) (b:Bool),F 4=some c→F 5=some (.bool b)→b=jO l s→aM H' [] [(c,1,mZ (l++[s]))]→aU [.tmp 4,.tmp 5] (fun r H'=>∃ B' L',gg l s r B' L'∧aM H' B' L') .ret F H':=fun F H' c b K M e y =>
  aX (vs:=[c,.bool b]) (.inr rfl) H' (by simp only[go_sem,K,M]) b_ ⟨[],_,⟨c,by rw[e]; rfl,rfl,rfl⟩,y⟩
 simp only[go_sem,GW,Fy,F0,Vy,A];refine N.ahA 0 (src:=[[.str s]]) rfl rfl (by unfold roomFor; rw[aUN]; simp only[aUX,maxLen]; omega) fun c H' O y=>?_;have i:aM H' [] [(c,1,mZ (l++[s]))]:=by
  have e:mZ (l++[s])=mZ l++[[.str s]]:=by simp[mZ]
  rw[e]; exact y
 refine aA E rfl ?_;cases J:isName s with
 | false =>simp only[go_sem];exact fin _ _ c false rfl rfl (by unfold jO; rw[J,aUV]) i
 | true =>
  have u:jO l s=!l.contains s:=by unfold jO; rw[J,aVA]
  rcases O with ⟨R,rfl⟩ | ⟨q,rs,rfl,q1,q2,q3⟩
  ·simp only[go_sem];rw[R] at p;have x:aH C 71 [.aB,.str s] .nil (aI (.int .i64 (AW l s 0))):=p.args (.cons (.nil 1) (.cons (.refl _) .nil));refine aA x rfl ?_;simp only[go_sem,d];exact fin _ _ c _ rfl rfl u.symm i
  ·simp only[go_sem];refine Xe (vs:=[.osl q 1 0 (mZ l).length,.str s]) (.int .i64 (AW l s 0)) ?_ q1 Sq ?_
   ·rw[aVZ,aVZ,aWS,vD q2,q3];exact p
   simp only[go_sem,d];exact fin _ _ c _ rfl rfl u.symm i
theorem asB {x:RF} (h:cT x=true):decide (rY x>0)=bM x:=by
 have d:=qP h;unfold cT pD at h;rw[show cX (val x.num) (val x.den)=true from d,if_pos rfl,ca d] at h;unfold rY bM;by_cases c:val x.num=0
 ·simp[c]
 ·have i:val x.num/aUP (val x.num) (val x.den)≠0:=by have:=Nat.div_pos (Nat.gcd_le_left (val x.den) (aXB c)) (Nat.gcd_pos_of_pos_left _ (aXB c));omega
  have e:x.neg=false:=by unfold nE at h;simp only[i,ne_eq,not_false_eq_true,decide_true,aWQ,aVE] at h;simpa using h.1
  rw[if_neg c,e];simp[c]
structure Hu (l:cG):Prop where
 exit:∀ x∈l.exit,cT x=true
 row:∀ r∈l.aTH,∀ x∈r,cT x=true
structure qE (C:Ctx):Prop extends s8 C where
 fresh:∀ (l:List (List UInt8)),l.length≤1000000→∀ (s:List UInt8) (w:PV) (H:PH),aM H [] [(w,1,mZ l)]→aH C 70 [w,.str s] H (fun r H'=>∃ B' L',gg l s r B' L'∧aM H' B' L')
theorem qE.pos {C:Ctx} (L:qE C) {x:RF} (c:x.Ok) (h:cT x=true):∃ n:Int,aH C 54 [.agg x.cells] .nil (aI (.int .i64 n))∧decide (n>0)=bM x:=⟨_,L.sign x c (qP h),asB h⟩
def zlF (l:cG) (o r i:Nat):PF:=(((((PF.nil.set 1 (.bL l.cells)).set 3 (.int .i64 (l.exit.length:Nat))).set 7 (.osl o 1 0 l.exit.length)).set 8 (.int .i64 r)).set 9 (.int .i64 i))
theorem aDC {C:Ctx} (L:qE C) (l:cG) (o r i:Nat) (row:List RF) (S:(l.aTH.map fun r=>[frs r])[i]?=some [frs row]) (M:kB row) (J:∀ x∈row,cT x=true) (Y:row.length=l.exit.length) (hi:i<l.exit.length) (hn:l.exit.length≤4) (e:List Bool) (hR:e.length=l.exit.length) (K:bR) [Up K] (F:PF) (H:PH)
  (O:((zlF l o r i).set 10 (.int .i64 0)).le F) (N:(iH o e).le H)
  (X:K (.exit 6) (zlF l o r i) (iH o (cK e i row row.length))):aC.wp C (.loop OY) K F H:=by
 refine wp_loop (α:=Nat) (fun k=>(zlF l o r i).set 10 (.int .i64 k)) (fun k=>iH o (cK e i row k)) (fun k=>k≤row.length) (fun k=>row.length-k) 0 (aUT _) O N ?_;intro k hk;have W:=uE e i row k;have y:∀ h:k<row.length,cK e i row (k+1)=(cK e i row k).set i ((cK e i row k).getD i false||bM row[k]&&(cK e i row k).getD k false):=fun h=>by simp only[cK,aUY,aVN,aVB h,aWC,aXH]
 have fin:∀ (b:Bool) (F:PF) (H:PH),k<row.length→cY (cK e i row (k+1))=(cY (cK e i row k)).set i [.bool b]→((zlF l o r i).set 10 (.int .i64 (k+1:Nat))).le F→H o=some (.rows 1 ((cY (cK e i row k)).set i [.bool b])) →
   eY (fun k:Nat=>(zlF l o r i).set 10 (.int .i64 k)) (fun k=>iH o (cK e i row k)) (fun k=>k≤row.length) (fun k=>row.length-k) (row.length-k) K .normal F H:=by
  intro b F H hlt V O N;refine aG (k+1) hlt Om O ?_;rw[← V] at N;exact e_ a_ N
 unfold zlF iH at fin;simp only[go_sem,OY,V6,zlF,iH];by_cases hlt:k<row.length
 ·have d:(k:Int)<(l.exit.length:Nat):=Om;have w:(i:Int)<(l.exit.length:Nat):=Om;have u:=sC (R:=cK e i row k) (i:=i) Om;have B:=sC (R:=cK e i row k) (i:=k) Om;have p:=y hlt;obtain⟨n,U,E⟩:=L.pos (M.all _ (aUQ hlt)) (J _ (aUQ hlt));have Q:=jx hlt;generalize V:(cK e i row k).getD i false=b at *
  generalize hc:(cK e i row k).getD k false=c at *
  generalize Z:bM row[k]=A at *
  cases b with
  | true =>simp only[go_sem,d,fx,w,aVH,u,OZ,wZz k];exact fin true _ _ hlt (by rw[p,jV,Bool.true_or]) Lq Sq
  | false =>
   simp only[go_sem,d,fx,w,aVH,u,S,Q];refine aA U rfl ?_;cases A with
   | false =>simp only[go_sem,E,w,d,aVH,u,B,OZ,wZz k];exact fin false _ _ hlt (by rw[p,jV,Bool.false_or,aUV]) Lq Sq
   | true =>simp only[go_sem,E,w,d,aVH,u,B,OZ,wZz k];exact fin c _ _ hlt (by rw[p,jV,Bool.false_or,aVA]) Lq Sq
 ·have d:¬ (k:Int)<(l.exit.length:Nat):=Om;have:k=row.length:=Om;subst this;simp only[go_sem,d];refine Up.up ?_ X
  (repeat' (first|exact d_|refine c_ ?_ ?_))<;>first|(simp only[go_sem,zlF]<;>rfl)|rfl
theorem aDE {C:Ctx} (L:qE C) (l:cG) (Q:l.Ok) (M:BQ l) (U:Hu l) (o r:Nat) (R:List Bool) (hR:R.length=l.exit.length) (K:bR) [Up K] (F:PF) (H:PH)
  (E:(zlF l o r 0).le F) (J:(iH o R).le H)
  (X:K (.exit 4) (zlF l o r l.exit.length) (iH o (cZ l R l.exit.length))):aC.wp C (.loop fl) K F H:=by
 refine wp_loop (α:=Nat) (fun i=>zlF l o r i) (fun i=>iH o (cZ l R i)) (fun i=>i≤l.exit.length) (fun i=>l.exit.length-i) 0 (aUT _) E J ?_;intro i hi;have S:=qW l R i;have Y:=M.n;simp only[go_sem,fl,V5,zlF,iH];by_cases hlt:i<l.exit.length
 ·have c:(i:Int)<(l.exit.length:Nat):=Om;have e:i<l.aTH.length:=by rw[M.aTH]; exact hlt
  have u:=sC (R:=cZ l R i) (i:=i) Om;have Z:=jx hlt;have A:(l.aTH.map fun r=>[frs r])[i]?=some [frs l.aTH[i]]:=by simp[e]
  have N:(l.aTH[i]).length=l.exit.length:=M.row _ (aUQ e);generalize p:(cZ l R i).set i ((cZ l R i).getD i false||bM l.exit[i])=B;have x:B.length=l.exit.length:=by rw[← p,aWU]; omega
  have w:cZ l R (i+1)=cK B i l.aTH[i] (l.aTH[i]).length:=by
   simp only[cZ,kU];have V:(l.exit.map bM).getD i false=bM l.exit[i]:=by simp[aUY,hlt]
   have W:l.aTH.getD i []=l.aTH[i]:=by simp[aUY,e]
   rw[V,W,p]
  obtain⟨n,O,y⟩:=L.pos (Q.exit.all _ (aUQ hlt)) (U.exit _ (aUQ hlt));have rest:∀ (F:PF) (H:PH),(zlF l o r i).le F→H o=some (.rows 1 (cY B)) →
    aC.wp C (.seq (.region fw) (.block 6 (.loop OY))) (eQ 5 (gD C (aC.wp C (.region fy)) (eY (fun i:Nat=>zlF l o r i) (fun i=>iH o (cZ l R i)) (fun i=>i≤l.exit.length) (fun i=>l.exit.length-i) (l.exit.length-i) K))) F H:=by
   intro F H E J;refine rZ _ (fun _ _ _ _ a b=>Up.up a b) E ?_;simp only[go_sem,fw];refine aDC L l o r i l.aTH[i] A (Q.row _ (aUQ e)) (U.row _ (aUQ e)) N hlt Y B x _ _ _ (by (repeat' (first|exact d_|refine c_ ?_ ?_))<;>first|(simp only[go_sem,zlF]<;>rfl)|rfl) (e_ a_ J) ?_;simp only[go_sem,zlF,fy,wZz i];exact aG (i+1) hlt Om Lq (by rw[w]; exact b_)
  simp only[zlF,iH] at rest;have d:=rest;simp only[aC.wp,go_sem] at d;generalize hb:(cZ l R i).getD i false=b at *
  cases b with
  | true =>simp only[go_sem,c,fv,c,aVH,u];refine d _ _ Lq ?_;rw[← p];simp only[go_sem,jV,Bool.true_or]
  | false =>simp only[go_sem,c,fv,c,aVH,u,Z];refine aA O rfl ?_;simp only[go_sem,c,aVH,u,y];refine d _ _ Lq ?_;rw[← p];simp only[go_sem,jV,Bool.false_or]
 ·have c:¬ (i:Int)<(l.exit.length:Nat):=Om;have:i=l.exit.length:=Om;subst this;simp only[go_sem,c];exact Up.up (by (repeat' (first|exact d_|refine c_ ?_ ?_))<;>first|(simp only[go_sem,zlF]<;>rfl)|rfl) X
theorem aDD {C:Ctx} (L:qE C) (l:cG) (w:l.Ok) (e:BQ l) (x:Hu l) (o:Nat) (K:bR) [Up K] (F:PF) (H:PH)
  (i:(((((PF.nil.set 1 (.bL l.cells)).set 3 (.int .i64 (l.exit.length:Nat))).set 7 (.osl o 1 0 l.exit.length)).set 8 (.int .i64 0)):PF).le F) (p:(iH o (dB l 0)).le H)
  (u:K (.exit 2) (((PF.nil.set 3 (.int .i64 (l.exit.length:Nat))).set 7 (.osl o 1 0 l.exit.length))) (iH o (dB l l.exit.length))):aC.wp C (.loop fm) K F H:=by
 have y:=e.n;refine wp_loop (α:=Nat) (fun r=>((((PF.nil.set 1 (.bL l.cells)).set 3 (.int .i64 (l.exit.length:Nat))).set 7 (.osl o 1 0 l.exit.length)).set 8 (.int .i64 r))) (fun r=>iH o (dB l r)) (fun r=>r≤l.exit.length) (fun r=>l.exit.length-r) 0 (aUT _) i p ?_;intro r A;have d:=qV l r;simp only[go_sem,fm,V3];by_cases hlt:r<l.exit.length
 ·have c:(r:Int)<(l.exit.length:Nat):=Om;simp only[go_sem,c,V4];refine aDE L l w e x o r (dB l r) d _ _ _ (by (repeat' (first|exact d_|refine c_ ?_ ?_))<;>first|(simp only[go_sem,zlF]<;>rfl)|rfl) b_ ?_;simp only[go_sem,zlF,V7,wZz r];exact aG (r+1) hlt Om Lq b_
 ·have c:¬ (r:Int)<(l.exit.length:Nat):=Om;have:r=l.exit.length:=Om;subst this;simp only[go_sem,c];exact Up.up Lq u
theorem aLO {C:Ctx} (R:List Bool) (E:R.length≤4) (o:Nat) (X:Bool) (A:X=R.all id) (Q:PV→PH→Prop) (y:Q=aI (.bool X)) (F:PF) (H:PH)
  (w:((((PF.nil.set 3 (.int .i64 (R.length:Nat))).set 7 (.osl o 1 0 R.length)).set 11 (.int .i64 0)):PF).le F) (x:(iH o R).le H):aC.wp C (.loop fp) (eQ 8 (gD C (aC.wp C (.seq (.region ga) .ret)) (aU [.tmp 2] Q))) F H:=by
 subst A y;refine wp_loop (α:=Nat) (fun k=>(((PF.nil.set 3 (.int .i64 (R.length:Nat))).set 7 (.osl o 1 0 R.length)).set 11 (.int .i64 k))) (fun _=>iH o R) (fun k=>k≤R.length∧(R.take k).all id=true) (fun k=>R.length-k) 0 ⟨aUT _,rfl⟩ w x ?_;rintro k ⟨J,l⟩;simp only[go_sem,fp,V9,iH];by_cases hlt:k<R.length
 ·have c:(k:Int)<(R.length:Nat):=Om;have d:=sC (R:=R) (i:=k) hlt;have B:R.getD k false=R[k]:=by simp[aUY,hlt]
  rw[B] at d;cases e:R[k] with
  | false =>rw[e] at d;simp only[go_sem,c,fz,aVH,d,aVG,Wa];refine aR (.inr rfl) rfl ?_;rw[bQ,pP hlt (p:=id) e]
  | true =>rw[e] at d;have u:=pO hlt l (p:=id) e;simp only[go_sem,c,fz,aVH,d,aUW,Wb,wZz k];exact aG (k+1) ⟨hlt,by simpa using aVD.1 u⟩ Om Lq b_
 ·have c:¬ (k:Int)<(R.length:Nat):=Om;have:k=R.length:=Om;subst this;rw[aVP] at l;simp only[go_sem,c,ga];refine aR (.inr rfl) rfl ?_;rw[bQ,l]
def Marks (R S:List Bool):Prop:=R.length=S.length∧∀ j:Nat,R[j]?=some true→S[j]?=some true
theorem Marks.aKX (R:List Bool):Marks R R:=⟨rfl,fun _ h=>h⟩
theorem Marks.trans {R S T:List Bool} (h:Marks R S) (k:Marks S T):Marks R T:=⟨h.1.trans k.1,fun j a=>k.2 j (h.2 j a)⟩
theorem Od (R:List Bool) (i:Nat) (b:Bool):Marks R (R.set i (R.getD i false||b)):=by
 refine⟨by rw[aWU],fun j h=>?_⟩;rw[List.getElem?_set];obtain⟨c,d⟩:=aVW.1 h;split
 ·rename_i e;subst e;rw[if_pos c,aUY,h];rfl
 ·exact h
theorem Ae (R:List Bool) (i:Nat) (row:List RF):∀ k,Marks R (cK R i row k)
 | 0=>Marks.aKX R
 | k+1=>(Ae R i row k).trans (Od _ _ _)
theorem EK (l:cG) (R:List Bool):∀ i,Marks R (cZ l R i)
 | 0=>Marks.aKX R
 | i+1=>(EK l R i).trans ((Od _ _ _).trans (Ae _ _ _ _))
theorem Oe:∀ {R S:List Bool},Marks R S→R≠S→R.count true<S.count true
 | [],[],_,h=>absurd rfl h
 | [],_::_,h,_=>by have:=h.1; simp at this
 | _::_,[],h,_=>by have:=h.1; simp at this
 | a::R,b::S,h,c=>by
  have d:a=true→b=true:=fun e=>by have:=h.2 0 (by rw[e]; rfl);simpa using this
  have l:Marks R S:=⟨by have:=h.1; simpa using this,fun j i=>by have:=h.2 (j+1) (by simpa using i); simpa using this⟩;by_cases e:R=S
  ·subst e;have:a≠b:=fun e=>c (by rw[e]);cases a<;>cases b<;>simp at this d ⊢
  ·have:=Oe l e;cases a<;>cases b<;>simp at d ⊢<;>omega
theorem iu:∀ {R:List Bool},R.length≤R.count true→R.all id=true
 | [],_=>rfl
 | a::R,h=>by
  have c:=List.count_le_length (a:=true) (l:=R);cases a with
  | true =>simp only[List.count_cons_self,aWH] at h;simp only[List.all_cons,id,aVA];exact iu Om
  | false =>simp at h;omega
theorem MX (l:cG) {s:Nat} (h:dB l (s+1)=dB l s):∀ d,dB l (s+d)=dB l s
 | 0=>rfl
 | d+1=>by show cZ l (dB l (s+d)) l.exit.length=_;rw[MX l h d];exact h
theorem nz (l:cG):∀ r,(∃ s,s<r∧dB l (s+1)=dB l s)∨r≤(dB l r).count true
 | 0=>.inr (aUT _)
 | r+1=>by
  rcases nz l r with ⟨s,d,c⟩ | h
  ·exact .inl ⟨s,by omega,c⟩
  ·by_cases e:dB l (r+1)=dB l r
   ·exact .inl ⟨r,by omega,e⟩
   ·have:=Oe (EK l (dB l r) l.exit.length) (fun h=>e h.symm);exact .inr (by show r+1≤(cZ l (dB l r) l.exit.length).count true; omega)
theorem aEV (l:cG):pE l=(dB l l.exit.length).all id:=by
 unfold pE;rcases nz l l.exit.length with ⟨s,A,e⟩ | h
 ·obtain⟨d,w⟩:∃ d,l.exit.length=s+d:=⟨l.exit.length-s,by omega⟩;rw[show l.exit.length+1=s+(d+1) by omega,w,MX l e,MX l e]
 ·have i:(dB l l.exit.length).all id=true:=iu (by rw[qV]; exact h);have u:Marks (dB l l.exit.length) (dB l (l.exit.length+1)):=EK l (dB l l.exit.length) l.exit.length;rw[i,aVD];intro x y;obtain⟨j,p,rfl⟩:=aVX y;have c:j<(dB l l.exit.length).length:=by rw[u.1]; exact p
  have:=u.2 j (by rw[aVB c];have:=aVD.1 i _ (aUQ c);simpa using this);rw[aVB p] at this;simpa using this
def zsS (s:Bool):Spec:=fun name vs=>match name,vs with
 | 47,_=>some ([],fun _=>aI (.agg (mkT 1 1).cells))
 | 53,_=>some ([],fun _=>aI (.bool s))
 | _,_=>none
theorem ayE (l:cG):kM l=(within l.start.length 1 4&&((decide ((l.start.length:Int)=l.start.length)&&l.start.all cT)&&((decide ((l.exit.length:Int)=l.start.length)&&l.exit.all cT)&&(decide (l.aTH.length=l.start.length)&&((aUO l.aTH.length).all (sJ l)&&(vT l&&pE l)))))):=by
 rw[Z8,decide_eq_true (rfl:(l.start.length:Int)=l.start.length),aVA];have:decide (l.exit.length=l.start.length)=decide ((l.exit.length:Int)=l.start.length):=decide_eq_decide.2 Om;rw[this];cases within l.start.length 1 4<;>cases decide ((l.exit.length:Int)=l.start.length)<;>cases decide (l.aTH.length=l.start.length)<;>cases l.start.all cT<;>cases l.exit.all cT<;>simp[aXN]
theorem Rt (l:cG) {i:Nat} (h:i<l.aTH.length):sJ l i=((decide (((l.aTH[i]).length:Int)=l.start.length)&&(l.aTH[i]).all cT)&&!((l.aTH[i]).map bM).getD i false):=by
 unfold sJ;have:l.aTH.getD i []=l.aTH[i]:=by simp[aUY,h]
 rw[this];have:decide ((l.aTH[i]).length=l.start.length)=decide (((l.aTH[i]).length:Int)=l.start.length):=decide_eq_decide.2 Om;rw[this]
theorem aJB {C:Ctx} (L:qE C) (l:cG) (N:l.Ok):VU.wp C (aU aDF.res (aI (.bool (kM l)))) (PF.args [.agg l.cells]) .nil:=by
 have c:=ayE l;have fail:∀ (F:PF) (H:PH),kM l=false→F 2=some (.bool false)→aU [.tmp 2] (aI (.bool (kM l))) .ret F H:=fun F H e h=>by rw[e];exact aX (vs:=[.bool false]) (.inr rfl) .nil (by simp only[go_sem,h]) a_ ⟨rfl,rfl⟩
 have e1:=L.smalls l.start N.start l.start.length;have e2:=L.smalls l.exit N.exit l.start.length;simp only[go_sem,VU,afZ,agA,aDF,aUN,agB];by_cases c1:(l.start.length:Int)<1
 ·simp only[go_sem,c1,zW];exact fail _ _ (by rw[c,show within l.start.length 1 4=false from by unfold within; rw[decide_eq_false Om,aUV],aUV]) rfl
 by_cases c2:(l.start.length:Int)>4
 ·simp only[go_sem,c1,c2,zW];exact fail _ _ (by rw[c,show within l.start.length 1 4=false from by unfold within; rw[decide_eq_false (Om:¬ (l.start.length:Int)≤4),aWB],aUV]) rfl
 rw[show within l.start.length 1 4=true from by unfold within; rw[decide_eq_true (Om:(1:Int)≤(l.start.length:Nat)),decide_eq_true (Om:(l.start.length:Int)≤4)]; rfl,aVA] at c;simp only[go_sem,c1,c2];refine aA e1 rfl ?_;cases k1:(decide ((l.start.length:Int)=l.start.length)&&l.start.all cT) with
 | false =>rw[k1,aUV] at c;simp only[go_sem,aVG,zW];exact fail _ _ c rfl
 | true =>
 rw[k1,aVA] at c;simp only[go_sem,aUW];refine aA e2 rfl ?_;cases k2:(decide ((l.exit.length:Int)=l.start.length)&&l.exit.all cT) with
 | false =>rw[k2,aUV] at c;simp only[go_sem,aVG,zW];exact fail _ _ c rfl
 | true =>
 rw[k2,aVA] at c;rw[aVE,decide_eq_true_eq] at k2;have y:l.exit.length=l.start.length:=Om;have M:=aVD.1 k2.2;by_cases c3:l.aTH.length=l.start.length
 case neg =>rw[decide_eq_false c3,aUV] at c;simp only[go_sem,aUW,aUN,dO (Om:(l.aTH.length:Int)≠(l.start.length:Nat)),zW];exact fail _ _ c rfl
 rw[decide_eq_true c3,aVA] at c;simp only[go_sem,aUW,aUN,cA (Om:(l.aTH.length:Int)=(l.start.length:Nat)),agC];refine wp_loop (α:=Nat) (fun i=>(((PF.nil.set 1 (.bL l.cells)).set 3 (.int .i64 (l.start.length:Nat))).set 4 (.int .i64 i))) (fun _=>.nil) (fun i=>i≤l.start.length∧∀ j,j<i→sJ l j=true) (fun i=>l.start.length-i) 0 ⟨aUT _,fun j h=>by omega⟩ Lq a_ ?_;rintro i ⟨hi,p⟩;simp only[go_sem,afY,agD];by_cases hlt:i<l.start.length
 ·have u:(i:Int)<(l.start.length:Nat):=Om;have w:i<l.aTH.length:=Om;have B:(l.aTH.map fun r=>[frs r])[i]?=some [frs l.aTH[i]]:=by simp[w]
  have U:=N.row _ (aUQ w);have e3:=L.smalls l.aTH[i] U l.start.length;have d:=Rt l w;have bad:sJ l i=false→kM l=false:=fun h=>by rw[c,show (aUO l.aTH.length).all (sJ l)=false from List.all_eq_false.2 ⟨i,aVM.2 w,by simp[h]⟩,aUV]
  simp only[go_sem,u,agE,B];refine aA e3 rfl ?_;cases Z:(decide (((l.aTH[i]).length:Int)=l.start.length)&&(l.aTH[i]).all cT) with
  | false =>rw[Z,aUV] at d;simp only[go_sem,aVG,wz];exact fail _ _ (bad d) rfl
  | true =>
   rw[Z,aVA] at d;rw[aVE,decide_eq_true_eq] at Z;have θ:(l.aTH[i]).length=l.start.length:=Om;have E:i<(l.aTH[i]).length:=Om;have hm:=aUQ E;have hs:=L.sign _ (U.all _ hm) (qP (aVD.1 Z.2 _ hm));have hz:=NK (l.aTH[i])[i];have hg:((l.aTH[i]).map bM).getD i false=bM (l.aTH[i])[i]:=by simp[aUY,E]
   rw[hg] at d;have A:(rY (l.aTH[i])[i] != 0)=bM (l.aTH[i])[i]:=by rw[bne,hz,Bool.not_not]
   simp only[go_sem,aUW,B,jx E];refine aA hs rfl ?_;cases k4:bM (l.aTH[i])[i] with
   | true =>rw[k4] at d A;simp only[go_sem,A,wz];exact fail _ _ (bad d) rfl
   | false =>
    rw[k4] at d A;simp only[go_sem,A,agF,wZz i];exact aG (i+1) ⟨hlt,fun j Y=>by
     by_cases e:j=i
     ·rw[e]; exact d
     ·exact p j Om⟩ Om Lq b_
 ·have u:¬ (i:Int)<(l.start.length:Nat):=Om;have:i=l.start.length:=Om;subst this;have J:(aUO l.aTH.length).all (sJ l)=true:=aVD.2 fun j Y=>p j (by rw[← c3]; exact aVM.1 Y);rw[J,aVA] at c;have W:∀ r∈l.aTH,r.length=l.start.length∧∀ x∈r,cT x=true:=fun r S=>by obtain⟨j,Y,rfl⟩:=aVX S;have h:=p j Om;rw[Rt l Y,aVE,aVE,decide_eq_true_eq] at h;exact⟨by omega,aVD.1 h.1.2⟩
  have R:Hu l:=⟨M,fun r S=>(W r S).2⟩;have Q:BQ l:=⟨by omega,by omega,fun r S=>by rw[(W r S).1,y]⟩;have X:=L.sum l.start N.start.all N.start.fits;simp only[go_sem,u,V0];refine aA X rfl ?_;cases O:nY (l.start.map RF.v) with
  | error e =>
   have δ:=Sf O;have:vT l=false:=by unfold vT; rw[O]
   rw[this,aUV] at c;simp only[go_sem,frV];refine aO fun o ho=>?_;simp only[go_sem];refine bS .nil dT a_ ?_;simp only[go_sem,fq,dO δ,ft];exact fail _ _ c rfl
  | ok r =>
   have V:=adA O;have ζ:=oj O;obtain⟨n,a,b⟩:=r;have h1:dK 1:=by unfold dK; omega
   have K:=L.same (FV.rf (n,a,b)) (mkT 1 1) V (HP 1 h1).1 (by unfold RF.valid FV.rf; simp only[aT]; exact ζ) (HP 1 h1).2;have hP:vT l=(pW (FV.rf (n,a,b)) (mkT 1 1)==0):=by unfold vT;rw[O,HQ];unfold pW FV.rf;simp only[aT,show (1:Int).natAbs=1 from rfl,show decide ((1:Int)<0)=false from rfl];by_cases h:pV n a b false 1 1=0<;>simp[h]
   simp only[go_sem,frV];refine aO fun o ho=>?_;have hH:aM (PH.nil.set o (.rows 3 [(FV.rf (n,a,b)).cells])) [(o,.rows 3 [(FV.rf (n,a,b)).cells])] []:=aM.nil.new (H:=PH.nil) rfl _;simp only[go_sem];refine bS (PH.nil.set o (.rows 3 [(FV.rf (n,a,b)).cells])) (zsS (pW (FV.rf (n,a,b)) (mkT 1 1)==0)) b_ ?_;simp only[go_sem,fq,cA (show (0:Int)=0 from rfl)];refine bY rfl (L.int 1 h1) rfl b_ ?_;simp only[go_sem];refine bY rfl K rfl b_ ?_;rw[← hP];cases hp:vT l with
   | false =>rw[hp,aUV] at c;simp only[go_sem,aVG,ft];exact fail _ _ c rfl
   | true =>
    rw[hp,aVA,aEV] at c;have β:(l.start.length:Int)*((1:Nat):Int)≤140737488355328:=Om;have γ:(l.start.length:Int)≤9223372036854775807:=Om;simp only[go_sem,aUW,V1,β,γ];refine aO fun q hq=>?_;simp only[go_sem,V2];have η:aUR l.start.length [PV.bool false]=cY (dB l 0):=by rw[← y];simp[dB,cY]
    rw[← y];refine aDD L l N Q R q _ _ _ Lq ?_ ?_
    ·refine e_ a_ ?_;rw[cO,y,η]
    simp only[go_sem,V8];have ε:(dB l l.exit.length).length≤4:=by rw[qV]; omega
    refine aLO (dB l l.exit.length) ε q (kM l) c _ rfl _ _ ?_ b_;rw[qV];exact Lq
structure sP (C:Ctx):Prop extends qE C where
 law:∀ l:cG,l.Ok→aH C 68 [.agg l.cells] .nil (aI (.bool (kM l)))
def okL (base ns:List (List UInt8)) (P:Nat→Bool) (i:Nat):Bool:=jO (base++ns.take i) (ns.getD i [])&&P i
theorem sB {p:Nat→Bool} (k:Nat) (b:Bool):(b&&(aUO (k+1)).all p)=((b&&(aUO k).all p)&&p k):=by
 rw[aXV,List.all_append];cases (aUO k).all p<;>cases b<;>simp
theorem sA {p:Nat→Bool} {b:Bool} {i n:Nat} (hi:i≤n) (h:(b&&(aUO i).all p)=false):(b&&(aUO n).all p)=false:=by
 cases b with
 | false=>rfl
 | true =>rw[aVA] at h ⊢;obtain⟨x,e,c⟩:=List.all_eq_false.1 h;exact List.all_eq_false.2 ⟨x,aVM.2 (by have:=aVM.1 e; omega),c⟩
structure hZ (H:PH) (w:PV) (base ns:List (List UInt8)) (c:Bool) (i:Nat):Prop where
 ex:∃ names,aM H [] [(w,1,mZ names)]∧(c=true→names=base++ns.take i)
section
variable {C:Ctx} {F:PF} {H:PH} {d:Option Nat} {K:PF→PH→Prop}
theorem hZ.call (L:qE C) {w:PV} {base ns:List (List UInt8)} {i:Nat} {B:List BX} {c:List (List UInt8)} (h:aM H B [(w,1,mZ c)]) (M:base.length≤1000) (hi:i≤1000) (x:c=base++ns.take i) (l:i<ns.length) {a b:Nat} (e:aQ.evs F [.tmp a,.tmp b]=some [w,.str ns[i]])
  (A:∀ p H',aM H' B [(p,1,mZ (c++[ns[i]]))]→hZ H' p base ns true (i+1)→K (F.put d (.tup [p,.bool (jO (base++ns.take i) (ns.getD i []))])) H'):iU C 70 [.tmp a,.tmp b] [] d K F H:=by
 refine GU (B1:=[]) (B2:=B) (L1:=[(w,1,mZ c)]) (L2:=[]) (Q:=gg c ns[i]) h (fun E J=>L.fresh c (by rw[x,aUS,aVJ]; omega) ns[i] w E J) e ?_;rintro r B' L' H' ⟨p,rfl,rfl,rfl⟩ y;have u:ns.getD i []=ns[i]:=by simp[aUY,l]
 rw[u,← x] at A;refine A p H' y ⟨c++[ns[i]],y.sub (List.nil_sublist _) (aWT.refl _),fun _=>?_⟩;rw[aWN l,← aVS,x]
end
theorem hZ.wr {H:PH} {w:PV} {base ns:List (List UInt8)} {c:Bool} {i:Nat} (h:hZ H w base ns true i):hZ H w base ns c i:=by
 obtain⟨e,l,p⟩:=h.ex;exact⟨e,l,fun _=>p rfl⟩
def KK (f:aD):Bool:=(aUO f.aTJ.length).all (okL [] (f.aTJ.map cG.name) fun i=>(f.aTJ.map kM).getD i false)
theorem aJG {C:Ctx} (L:sP C) (f:aD) (hf:f.Ok) (hs:f.aTJ.length≤4) (K:bR) [Up K] (F:PF) (H:PH)
  (Y:(((((((((PF.nil.set 1 (.bL f.cells)).set 3 (.aB)).set 4 (.aB)).set 5 (.aB)).set 6 (.aB)).set 7 (.aB)).set 8 (.bool true)).set 9 (.int .i64 0)):PF).le F)
  (R:∀ H',K (.exit 0) (((((((PF.nil.set 1 (.bL f.cells)).set 4 (.aB)).set 5 (.aB)).set 6 (.aB)).set 7 (.aB)).set 8 (.bool (KK f)))) H'):aC.wp C (.loop PA) K F H:=by
 obtain⟨ok,J⟩:∃ ok,okL [] (f.aTJ.map cG.name) (fun i=>(f.aTJ.map kM).getD i false)=ok:=⟨_,rfl⟩;unfold KK at R;rw[J] at R;refine wp_loop (α:=Nat × PV × PH) (fun s=>((((((((PF.nil.set 1 (.bL f.cells)).set 3 (s.2.1)).set 4 (.aB)).set 5 (.aB)).set 6 (.aB)).set 7 (.aB)).set 8 (.bool (true&&(aUO s.1).all ok))).set 9 (.int .i64 s.1))) (fun s=>s.2.2) (fun s=>s.1≤f.aTJ.length∧hZ s.2.2 s.2.1 [] (f.aTJ.map cG.name) (true&&(aUO s.1).all ok) s.1) (fun s=>f.aTJ.length-s.1)
  (0,.aB,H) ⟨aUT _,⟨[],aM.nil.mI 1,fun _=>rfl⟩⟩ Y b_ ?_
 rintro⟨i,w,V⟩ ⟨hi,W⟩;simp only at hi W ⊢;have fin:∀ (b:Bool) (y:PV) (N:PF) (H':PH),i<f.aTJ.length→(true&&(aUO (i+1)).all ok)=b→hZ H' y [] (f.aTJ.map cG.name) true (i+1) →
   (((((((((PF.nil.set 1 (.bL f.cells)).set 3 (y)).set 4 (.aB)).set 5 (.aB)).set 6 (.aB)).set 7 (.aB)).set 8 (.bool b)).set 9 (.int .i64 (i+1:Nat))):PF).le N →
   eY (fun s:Nat × PV × PH=>((((((((PF.nil.set 1 (.bL f.cells)).set 3 (s.2.1)).set 4 (.aB)).set 5 (.aB)).set 6 (.aB)).set 7 (.aB)).set 8 (.bool (true&&(aUO s.1).all ok))).set 9 (.int .i64 s.1))) (fun s=>s.2.2) (fun s=>s.1≤f.aTJ.length∧hZ s.2.2 s.2.1 [] (f.aTJ.map cG.name) (true&&(aUO s.1).all ok) s.1) (fun s=>f.aTJ.length-s.1) (f.aTJ.length-i) K .normal N H' :=
  fun b y N H' hlt Z Q O=>aG (i+1,y,H') ⟨hlt,Q.wr⟩ (by simp only; omega) (by simp only; rw[Z]; exact O) b_
 have l:=sB (p:=ok) i true;have x:(true&&(aUO i).all ok)=(true&&(aUO f.aTJ.length).all ok)→K (.exit 0) (((((((PF.nil.set 1 (.bL f.cells)).set 4 (.aB)).set 5 (.aB)).set 6 (.aB)).set 7 (.aB)).set 8 (.bool (true&&(aUO i).all ok)))) V:=fun e=>by rw[e,aVA]; exact R V
 have B:=fun h=>sA (p:=ok) (b:=true) hi h;generalize hc:(true&&(aUO i).all ok)=c at *
 simp only[go_sem,PA,Gm,aUN];by_cases hlt:i<f.aTJ.length
 ·have u:(i:Int)<(f.aTJ.length:Nat):=Om;cases c with
  | false =>simp only[go_sem,u];exact Up.up Lq (x (B rfl).symm)
  | true =>
   obtain⟨U,g1,g3⟩:=W.ex;have E:(f.aTJ.map cG.cells)[i]?=some (f.aTJ[i]).cells:=by simp[hlt]
   have S:i<(f.aTJ.map cG.name).length:=by rw[aUN]; exact hlt
   have M:ok i=(jO ([]++(f.aTJ.map cG.name).take i) ((f.aTJ.map cG.name).getD i [])&&kM f.aTJ[i]):=by rw[← J];unfold okL;simp[aUY,hlt]
   have hl:=L.law _ (hf.law _ (aUQ hlt));rw[M] at l;simp only[go_sem,u,Gn,E];refine hZ.call L.toqE (ns:=f.aTJ.map cG.name) g1 (aUT _) Om (g3 rfl) S (by simp only[go_sem,aWD]) fun y H1 h1 A=>?_;generalize jO ([]++(f.aTJ.map cG.name).take i) ((f.aTJ.map cG.name).getD i [])=X at *
   cases X with
   | false =>simp only[go_sem,VW,VX,wZz i];exact fin false y _ _ hlt (l.trans rfl) A Lq
   | true =>simp only[go_sem,VW,E];refine aA hl rfl ?_;simp only[go_sem,VX,wZz i];exact fin _ y _ _ hlt (l.trans rfl) A Lq
 ·have u:¬ (i:Int)<(f.aTJ.length:Nat):=Om;have:i=f.aTJ.length:=Om;subst this;simp only[go_sem,u];exact Up.up Lq (x hc.symm)
theorem UD {a b c d e f:Nat} (h:pY a b c d e f=true):a≤4∧b≤4∧c≤40∧d≤24∧e≤4∧f≤12:=by
 simp only[pY,aVE,decide_eq_true_eq] at h;omega
theorem qy {n:Nat} (h:n≤1000):IntKind.i64.wrap ((n:Int)-1)=(n:Int)-1:=wrap_i64 Om Om
def inS:Spec:=fun name vs=>match name,vs with
 | 76,[.int _ n,.int _ lo,.int _ hi]=>some ([],fun _=>aI (.bool (within n lo hi)))
 | _,_=>none
def uy (aTJ:Nat) (m:cS):Bool:=within m.aTS 1 16&&(within m.port 1 64&&within m.law 0 ((aTJ:Int)-1))
def Vf (pols:Nat) (v:eT):Bool:=within v.aTO 0 ((pols:Int)-1)
def zR (f:aD):Bool:=(aUO f.aTD.length).all (okL [] (f.aTD.map cS.name) fun i=>(f.aTD.map (uy f.aTJ.length)).getD i false)
theorem auU {C:Ctx} (L:sP C) (f:aD) (hf:f.Ok) (hz:pY f.aTJ.length f.aTD.length f.aTF.length f.aTC.length f.aTG.length f.aTE.length=true) (b:Bool) (K:bR) [Up K] (F:PF) (H:PH)
  (hF:((((((((PF.nil.set 1 (.bL f.cells)).set 4 (.aB)).set 5 (.aB)).set 6 (.aB)).set 7 (.aB)).set 8 (.bool b)).set 10 (.int .i64 0)):PF).le F)
  (S:∀ H',K (.exit 2) ((((((PF.nil.set 1 (.bL f.cells)).set 5 (.aB)).set 6 (.aB)).set 7 (.aB)).set 8 (.bool (b&&zR f)))) H'):aC.wp C (.loop PB) K F H:=by
 obtain⟨β,γ,δ,ε,ζ,η⟩:=UD hz;obtain⟨ok,E⟩:∃ ok,okL [] (f.aTD.map cS.name) (fun i=>(f.aTD.map (uy f.aTJ.length)).getD i false)=ok:=⟨_,rfl⟩;unfold zR at S;rw[E] at S;refine wp_loop (α:=Nat × PV × PH) (fun s=>(((((((PF.nil.set 1 (.bL f.cells)).set 4 (s.2.1)).set 5 (.aB)).set 6 (.aB)).set 7 (.aB)).set 8 (.bool (b&&(aUO s.1).all ok))).set 10 (.int .i64 s.1))) (fun s=>s.2.2) (fun s=>s.1≤f.aTD.length∧hZ s.2.2 s.2.1 [] (f.aTD.map cS.name) (b&&(aUO s.1).all ok) s.1) (fun s=>f.aTD.length-s.1)
  (0,.aB,H) ⟨aUT _,⟨[],aM.nil.mI 1,fun _=>rfl⟩⟩ (by
   have e:(b&&(aUO 0).all ok)=b:=by cases b<;>rfl
   simp only[e];exact hF) b_ ?_
 rintro⟨i,w,N⟩ ⟨hi,Y⟩;simp only at hi Y ⊢;have fin:∀ (c:Bool) (x:PV) (M:PF) (H':PH),i<f.aTD.length→(b&&(aUO (i+1)).all ok)=c→hZ H' x [] (f.aTD.map cS.name) true (i+1) →
   ((((((((PF.nil.set 1 (.bL f.cells)).set 4 (x)).set 5 (.aB)).set 6 (.aB)).set 7 (.aB)).set 8 (.bool c)).set 10 (.int .i64 (i+1:Nat))):PF).le M →
   eY (fun s:Nat × PV × PH=>(((((((PF.nil.set 1 (.bL f.cells)).set 4 (s.2.1)).set 5 (.aB)).set 6 (.aB)).set 7 (.aB)).set 8 (.bool (b&&(aUO s.1).all ok))).set 10 (.int .i64 s.1))) (fun s=>s.2.2) (fun s=>s.1≤f.aTD.length∧hZ s.2.2 s.2.1 [] (f.aTD.map cS.name) (b&&(aUO s.1).all ok) s.1) (fun s=>f.aTD.length-s.1) (f.aTD.length-i) K .normal M H' :=
  fun c x M H' hlt hb R Q=>aG (i+1,x,H') ⟨hlt,R.wr⟩ (by simp only; omega) (by simp only; rw[hb]; exact Q) b_
 have d:=sB (p:=ok) i b;have y:(b&&(aUO i).all ok)=(b&&(aUO f.aTD.length).all ok)→K (.exit 2) ((((((PF.nil.set 1 (.bL f.cells)).set 5 (.aB)).set 6 (.aB)).set 7 (.aB)).set 8 (.bool (b&&(aUO i).all ok)))) N:=fun e=>by rw[e]; exact S N
 have B:=fun h=>sA (p:=ok) (b:=b) hi h;generalize hc:(b&&(aUO i).all ok)=c at *
 simp only[go_sem,PB,rx,aUN];by_cases hlt:i<f.aTD.length
 ·have l:(i:Int)<(f.aTD.length:Nat):=Om;cases c with
  | false =>simp only[go_sem,l];exact Up.up Lq (y (B rfl).symm)
  | true =>
   obtain⟨X,g1,g3⟩:=Y.ex;have U:(f.aTD.map cS.cells)[i]?=some (f.aTD[i]).cells:=by simp[hlt]
   have V:i<(f.aTD.map cS.name).length:=by rw[aUN]; exact hlt
   have J:ok i=(jO ([]++(f.aTD.map cS.name).take i) ((f.aTD.map cS.name).getD i [])&&(uy f.aTJ.length) f.aTD[i]):=by rw[← E];unfold okL;simp[aUY,hlt]
   rw[J] at d;have A:uy f.aTJ.length f.aTD[i]=(within (f.aTD[i]).aTS 1 16&&(within (f.aTD[i]).port 1 64&&within (f.aTD[i]).law 0 ((f.aTJ.length:Int)-1))):=rfl;rw[A] at d;simp only[go_sem,l,ry,U];refine aO fun o ho=>?_;have g4:=g1.new ho (.rows 4 [(f.aTD[i]).cells]);have g5:=g4.at 0 rfl;simp only[go_sem];generalize N.set o (.rows 4 [(f.aTD[i]).cells])=H2 at *
   simp only[go_sem,rz,g5];refine hZ.call L.toqE (ns:=(f.aTD.map cS.name)) g4 (aUT _) Om (g3 rfl) V (by simp only[go_sem,aWD]) fun x H1 h1 u=>?_;have O:=h1.at 0 rfl;generalize jO ([]++(f.aTD.map cS.name).take i) ((f.aTD.map cS.name).getD i [])=Z at *
   cases Z with
   | false =>simp only[go_sem,PD,uR,wZz i];exact fin false x _ _ hlt (d.trans rfl) u Lq
   | true =>
    simp only[go_sem,PD,O];refine aA (L.inn (f.aTD[i]).aTS 1 16) rfl ?_;cases W:within (f.aTD[i]).aTS 1 16 with
    | false =>simp only[go_sem,uR,wZz i];exact fin false x _ _ hlt (by rw[d,W]<;>simp) u Lq
    | true =>
     simp only[go_sem,O];refine aA (L.inn (f.aTD[i]).port 1 64) rfl ?_;cases k1:within (f.aTD[i]).port 1 64 with
     | false =>simp only[go_sem,uR,wZz i];exact fin false x _ _ hlt (by rw[d,W,k1]<;>simp) u Lq
     | true =>simp only[go_sem,O,aUN,qy (Om:f.aTJ.length≤1000)];refine aA (L.inn (f.aTD[i]).law 0 ((f.aTJ.length:Int)-1)) rfl ?_;simp only[go_sem,uR,wZz i];exact fin _ x _ _ hlt (by rw[d,W,k1]<;>simp) u Lq
 ·have l:¬ (i:Int)<(f.aTD.length:Nat):=Om;have:i=f.aTD.length:=Om;subst this;simp only[go_sem,l];exact Up.up Lq (y hc.symm)
def Hl (f:aD):Bool:=(aUO f.aTE.length).all (okL [] (f.aTE.map eT.name) fun i=>(f.aTE.map (Vf f.aTG.length)).getD i false)
theorem aJI {C:Ctx} (L:sP C) (f:aD) (hf:f.Ok) (hz:pY f.aTJ.length f.aTD.length f.aTF.length f.aTC.length f.aTG.length f.aTE.length=true) (b:Bool) (K:bR) [Up K] (F:PF) (H:PH)
  (Y:(((((PF.nil.set 1 (.bL f.cells)).set 7 (.aB)).set 8 (.bool b)).set 21 (.int .i64 0)):PF).le F)
  (R:∀ H',K (.exit 14) (((PF.nil.set 1 (.bL f.cells)).set 8 (.bool (b&&Hl f)))) H'):aC.wp C (.loop zC) K F H:=by
 obtain⟨β,γ,δ,ε,ζ,η⟩:=UD hz;obtain⟨ok,J⟩:∃ ok,okL [] (f.aTE.map eT.name) (fun i=>(f.aTE.map (Vf f.aTG.length)).getD i false)=ok:=⟨_,rfl⟩;unfold Hl at R;rw[J] at R;refine wp_loop (α:=Nat × PV × PH) (fun s=>((((PF.nil.set 1 (.bL f.cells)).set 7 (s.2.1)).set 8 (.bool (b&&(aUO s.1).all ok))).set 21 (.int .i64 s.1))) (fun s=>s.2.2) (fun s=>s.1≤f.aTE.length∧hZ s.2.2 s.2.1 [] (f.aTE.map eT.name) (b&&(aUO s.1).all ok) s.1) (fun s=>f.aTE.length-s.1)
  (0,.aB,H) ⟨aUT _,⟨[],aM.nil.mI 1,fun _=>rfl⟩⟩ (by
   have e:(b&&(aUO 0).all ok)=b:=by cases b<;>rfl
   simp only[e];exact Y) b_ ?_
 rintro⟨i,w,V⟩ ⟨hi,W⟩;simp only at hi W ⊢;have fin:∀ (c:Bool) (y:PV) (N:PF) (H':PH),i<f.aTE.length→(b&&(aUO (i+1)).all ok)=c→hZ H' y [] (f.aTE.map eT.name) true (i+1) →
   (((((PF.nil.set 1 (.bL f.cells)).set 7 (y)).set 8 (.bool c)).set 21 (.int .i64 (i+1:Nat))):PF).le N →
   eY (fun s:Nat × PV × PH=>((((PF.nil.set 1 (.bL f.cells)).set 7 (s.2.1)).set 8 (.bool (b&&(aUO s.1).all ok))).set 21 (.int .i64 s.1))) (fun s=>s.2.2) (fun s=>s.1≤f.aTE.length∧hZ s.2.2 s.2.1 [] (f.aTE.map eT.name) (b&&(aUO s.1).all ok) s.1) (fun s=>f.aTE.length-s.1) (f.aTE.length-i) K .normal N H' :=
  fun c y N H' hlt Z Q O=>aG (i+1,y,H') ⟨hlt,Q.wr⟩ (by simp only; omega) (by simp only; rw[Z]; exact O) b_
 have d:=sB (p:=ok) i b;have u:(b&&(aUO i).all ok)=(b&&(aUO f.aTE.length).all ok)→K (.exit 14) (((PF.nil.set 1 (.bL f.cells)).set 8 (.bool (b&&(aUO i).all ok)))) V:=fun e=>by rw[e]; exact R V
 have B:=fun h=>sA (p:=ok) (b:=b) hi h;generalize hc:(b&&(aUO i).all ok)=c at *
 simp only[go_sem,zC,sv,aUN];by_cases hlt:i<f.aTE.length
 ·have l:(i:Int)<(f.aTE.length:Nat):=Om;cases c with
  | false =>simp only[go_sem,l];exact Up.up Lq (u (B rfl).symm)
  | true =>
   obtain⟨U,g1,g3⟩:=W.ex;have E:(f.aTE.map eT.cells)[i]?=some (f.aTE[i]).cells:=by simp[hlt]
   have S:i<(f.aTE.map eT.name).length:=by rw[aUN]; exact hlt
   have M:ok i=(jO ([]++(f.aTE.map eT.name).take i) ((f.aTE.map eT.name).getD i [])&&(Vf f.aTG.length) f.aTE[i]):=by rw[← J];unfold okL;simp[aUY,hlt]
   rw[M] at d;have x:Vf f.aTG.length f.aTE[i]=within (f.aTE[i]).aTO 0 ((f.aTG.length:Int)-1):=rfl;rw[x] at d;simp only[go_sem,l,sw,E];refine hZ.call L.toqE (ns:=(f.aTE.map eT.name)) g1 (aUT _) Om (g3 rfl) S (by simp only[go_sem,aWD]) fun y H1 h1 A=>?_;generalize jO ([]++(f.aTE.map eT.name).take i) ((f.aTE.map eT.name).getD i [])=X at *
   cases X with
   | false =>simp only[go_sem];refine bS .nil (inS) a_ ?_;simp only[go_sem,PS,PT,wZz i];exact fin false y _ _ hlt (d.trans rfl) A Lq
   | true =>simp only[go_sem];refine bS .nil (inS) a_ ?_;simp only[go_sem,PS,E,aUN,qy (Om:f.aTG.length≤1000)];refine bY rfl (L.inn (f.aTE[i]).aTO 0 ((f.aTG.length:Int)-1)) rfl a_ ?_;simp only[go_sem,PT,wZz i];exact fin _ y _ _ hlt (d.trans rfl) A Lq
 ·have l:¬ (i:Int)<(f.aTE.length:Nat):=Om;have:i=f.aTE.length:=Om;subst this;simp only[go_sem,l];exact Up.up Lq (u hc.symm)
def ajP:Spec:=fun name vs=>match name,vs with
 | 76,[.int _ n,.int _ lo,.int _ hi]=>some ([],fun _=>aI (.bool (within n lo hi)))
 | 74,[.agg cs]=>some ([],fun _=>aI (.bool (cT (frD cs))))
 | _,_=>none
theorem ajQ (x:RF):ajP 74 [.agg x.cells]=some ([],fun _=>aI (.bool (cT x))):=by
 show some ([],fun _=>aI (.bool (cT (frD x.cells))))=_;rw[y7]
def J0 (f:aD) (i:Nat) (d:cF):Bool :=
 within d.level 1 4&&(within d.parent 0 i&&(((f.aTF.map cF.level).getD d.parent.toNat 0==IntKind.i64.wrap (d.level-1))&&(within d.aTW 1 64&&cT d.aTR)))
theorem aER (f:aD) (i:Nat) (d:cF):JC f i d=J0 f i d:=by
 unfold JC J0;have:decide ((f.aTF.map cF.level).getD d.parent.toNat 0=IntKind.i64.wrap (d.level-1))=((f.aTF.map cF.level).getD d.parent.toNat 0==IntKind.i64.wrap (d.level-1)):=by generalize (f.aTF.map cF.level).getD d.parent.toNat 0=u;by_cases h:u=IntKind.i64.wrap (d.level-1)<;>simp[h]
 rw[this];cases within d.parent 0 i<;>cases within d.level 1 4<;>cases within d.aTW 1 64<;>simp
def gZ (f:aD):List (List UInt8):=(f.aTF.drop 1).map cF.name
def xY (f:aD) (i:Nat):Bool:=match f.aTF[i+1]? with
 | some d=>J0 f i d
 | none=>false
def xZ (f:aD):Bool:=(aUO (f.aTF.length-1)).all (okL [] (gZ f) (xY f))
theorem Jz (f:aD):(gZ f).length=f.aTF.length-1:=by simp[gZ]
theorem aJF {C:Ctx} (L:sP C) (f:aD) (hf:f.Ok) (μ:f.aTF.length≤40) (h0:0<f.aTF.length) (b:Bool) (K:bR) [Up K] (F:PF) (H:PH)
  (hF:(((((((PF.nil.set 1 (.bL f.cells)).set 5 (.aB)).set 6 (.aB)).set 7 (.aB)).set 8 (.bool b)).set 13 (.int .i64 1)):PF).le F)
  (W:∀ w H',hZ H' w [] (gZ f) (b&&xZ f) (f.aTF.length-1)→K (.exit 4) ((((((PF.nil.set 1 (.bL f.cells)).set 5 (w)).set 6 (.aB)).set 7 (.aB)).set 8 (.bool (b&&xZ f)))) H'):aC.wp C (.loop yX) K F H:=by
 obtain⟨ok,Q⟩:∃ ok,okL [] (gZ f) (xY f)=ok:=⟨_,rfl⟩;unfold xZ at W;rw[Q] at W;obtain⟨n,hn⟩:∃ n,f.aTF.length=n+1:=⟨f.aTF.length-1,by omega⟩;have η:=Jz f;have ζ:f.aTF.length-1=n:=Om;rw[ζ] at W η;refine wp_loop (α:=Nat × PV × PH) (fun s=>((((((PF.nil.set 1 (.bL f.cells)).set 5 (s.2.1)).set 6 (.aB)).set 7 (.aB)).set 8 (.bool (b&&(aUO s.1).all ok))).set 13 (.int .i64 (s.1+1:Nat)))) (fun s=>s.2.2) (fun s=>s.1≤n∧hZ s.2.2 s.2.1 [] (gZ f) (b&&(aUO s.1).all ok) s.1) (fun s=>n-s.1)
  (0,.aB,H) ⟨aUT _,⟨[],aM.nil.mI 1,fun _=>rfl⟩⟩ (by
   have e:(b&&(aUO 0).all ok)=b:=by cases b<;>rfl
   simp only[e];exact hF) b_ ?_
 rintro⟨i,w,Y⟩ ⟨hi,hG⟩;simp only at hi hG ⊢;have fin:∀ (c:Bool) (A:PV) (X:PF) (H':PH),i<n→(b&&(aUO (i+1)).all ok)=c→hZ H' A [] (gZ f) true (i+1) →
   (((((((PF.nil.set 1 (.bL f.cells)).set 5 (A)).set 6 (.aB)).set 7 (.aB)).set 8 (.bool c)).set 13 (.int .i64 (i+1+1:Nat))):PF).le X →
   eY (fun s:Nat × PV × PH=>((((((PF.nil.set 1 (.bL f.cells)).set 5 (s.2.1)).set 6 (.aB)).set 7 (.aB)).set 8 (.bool (b&&(aUO s.1).all ok))).set 13 (.int .i64 (s.1+1:Nat)))) (fun s=>s.2.2) (fun s=>s.1≤n∧hZ s.2.2 s.2.1 [] (gZ f) (b&&(aUO s.1).all ok) s.1) (fun s=>n-s.1) (n-i) K .normal X H' :=
  fun c A X H' hlt hb β Z=>aG (i+1,A,H') ⟨hlt,β.wr⟩ (by simp only; omega) (by simp only; rw[hb]; exact Z) b_
 have d:=sB (p:=ok) i b;have N:=fun h=>sA (p:=ok) (b:=b) hi h;have E:(b&&(aUO i).all ok)=(b&&(aUO n).all ok)→((b&&(aUO i).all ok)=true→i=n)→K (.exit 4) ((((((PF.nil.set 1 (.bL f.cells)).set 5 (w)).set 6 (.aB)).set 7 (.aB)).set 8 (.bool (b&&(aUO i).all ok)))) Y:=fun e e2=>by
  obtain⟨y,g1,g3⟩:=hG.ex;have:=W w Y ⟨y,g1,fun h=>by have h':=e.trans h;rw[g3 h',e2 h']⟩
  rwa [← e] at this
 generalize hc:(b&&(aUO i).all ok)=c at *
 simp only[go_sem,yX,r9,aUN];by_cases hlt:i<n
 ·have u:((i+1:Nat):Int)<(f.aTF.length:Nat):=Om;cases c with
  | false =>simp only[go_sem,u];exact Up.up Lq (E (N rfl).symm (fun h=>by cases h))
  | true =>
   obtain⟨y,g1,g3⟩:=hG.ex;have J:i+1<f.aTF.length:=Om;have γ:=gE J;have ε:i<(gZ f).length:=Om;have θ:(gZ f)[i]=(f.aTF[i+1]).name:=by simp[gZ,Nat.add_comm]
   have R:ok i=(jO ([]++(gZ f).take i) ((gZ f).getD i [])&&J0 f i f.aTF[i+1]):=by rw[← Q];unfold okL xY;rw[aVB J]
   have δ:=hf.dom _ (aUQ J);rw[R] at d;unfold J0 at d;have e1:IntKind.i64.wrap (((i+1:Nat):Int)-1)=(i:Nat):=by rw[wrap_i64 Om Om]; omega
   have l:IntKind.i64.wrap (((i+1:Nat):Int)+1)=((i+1+1:Nat):Int):=dA Om;have κ:=L.small _ δ.1;simp only[go_sem,u,sa,γ];refine aO fun o ho=>?_;have g4:=g1.new ho (.rows 7 [(f.aTF[i+1]).cells]);have g5:=g4.at 0 rfl;simp only[go_sem];generalize Y.set o (.rows 7 [(f.aTF[i+1]).cells])=H2 at *
   simp only[go_sem,sb,g5];refine hZ.call L.toqE (ns:=gZ f) g4 (aUT _) Om (g3 rfl) ε (by simp only[go_sem,θ]) fun A H1 h1 x=>?_;have M:=h1.at 0 rfl;generalize jO ([]++(gZ f).take i) ((gZ f).getD i [])=fb at *
   generalize hd:f.aTF[i+1]=B at *
   cases fb with
   | false =>simp only[go_sem];refine bS .nil ajP a_ ?_;simp only[go_sem,PI,oQ,l];exact fin false A _ _ hlt (d.trans rfl) x Lq
   | true =>
    simp only[go_sem];refine bS .nil ajP a_ ?_;simp only[go_sem,PI,M];refine bY rfl (L.inn B.level 1 4) rfl a_ ?_;cases V:within B.level 1 4 with
    | false =>simp only[go_sem,oQ,l];exact fin false A _ _ hlt (by rw[d,V]<;>simp) x Lq
    | true =>
     simp only[go_sem,M,e1];refine bY rfl (L.inn B.parent 0 (i:Nat)) rfl a_ ?_;cases k1:within B.parent 0 (i:Nat) with
     | false =>simp only[go_sem,oQ,l];exact fin false A _ _ hlt (by rw[d,V,k1]<;>simp) x Lq
     | true =>
      obtain⟨p0,p1⟩:=within_iff.1 k1;obtain⟨p,hp⟩:∃ p:Nat,B.parent=p:=⟨B.parent.toNat,by omega⟩;have U:p<f.aTF.length:=Om;obtain⟨lv,O⟩:∃ lv,(f.aTF.map cF.level).getD B.parent.toNat 0=lv:=⟨_,rfl⟩;have ι:(f.aTF[p]).level=lv:=by rw[← O,hp,aWK,getD_at U]
      rw[O] at d;have S:=gE U;simp only[go_sem,M,hp,S,ι];cases k2:lv==IntKind.i64.wrap (B.level-1) with
      | false =>simp only[go_sem,oQ,l];exact fin false A _ _ hlt (by rw[d,V,k1,k2]<;>simp) x Lq
      | true =>
       simp only[go_sem,M];refine bY rfl (L.inn B.aTW 1 64) rfl a_ ?_;cases k3:within B.aTW 1 64 with
       | false =>simp only[go_sem,oQ,l];exact fin false A _ _ hlt (by rw[d,V,k1,k2,k3]<;>simp) x Lq
       | true =>simp only[go_sem,M];refine bY (ajQ _) κ rfl a_ ?_;simp only[go_sem,oQ,l];exact fin _ A _ _ hlt (by rw[d,V,k1,k2,k3]<;>simp) x Lq
 ·have u:¬ ((i+1:Nat):Int)<(f.aTF.length:Nat):=Om;have:i=n:=Om;subst this;simp only[go_sem,u];exact Up.up Lq (E hc.symm (fun _=>rfl))
def J3 (f:aD) (d:dL):Bool:=within d.model 0 ((f.aTD.length:Int)-1)&&(within d.machine 0 ((f.aTF.length:Int)-1)&&((f.aTF.map cF.level).getD d.machine.toNat 0==4))
def mH (f:aD):List (List UInt8):=f.aTC.map dL.name
def vZ (f:aD) (i:Nat):Bool:=match f.aTC[i]? with
 | some d=>J3 f d
 | none=>false
def zG (f:aD):Bool:=(aUO f.aTC.length).all (okL (gZ f) (mH f) (vZ f))
theorem auT {C:Ctx} (L:sP C) (f:aD) (hf:f.Ok) (κ:f.aTF.length≤40) (h0:0<f.aTF.length) (μ:f.aTC.length≤24) (ι:f.aTD.length≤4) (b:Bool) (w0:PV) (K:bR) [Up K] (F:PF) (H:PH)
  (β:hZ H w0 [] (gZ f) b (f.aTF.length-1)) (hF:(((((((PF.nil.set 1 (.bL f.cells)).set 5 (w0)).set 6 (.aB)).set 7 (.aB)).set 8 (.bool b)).set 15 (.int .i64 0)):PF).le F)
  (U:∀ H',K (.exit 6) (((((PF.nil.set 1 (.bL f.cells)).set 6 (.aB)).set 7 (.aB)).set 8 (.bool (b&&zG f)))) H'):aC.wp C (.loop yY) K F H:=by
 obtain⟨ok,O⟩:∃ ok,okL (gZ f) (mH f) (vZ f)=ok:=⟨_,rfl⟩;unfold zG at U;rw[O] at U;obtain⟨n,hn⟩:∃ n,f.aTC.length=n:=⟨_,rfl⟩;have η:=Jz f;have θ:(mH f).length=n:=by simp[mH,hn]
 rw[hn] at U;refine wp_loop (α:=Nat × PV × PH) (fun s=>((((((PF.nil.set 1 (.bL f.cells)).set 5 (s.2.1)).set 6 (.aB)).set 7 (.aB)).set 8 (.bool (b&&(aUO s.1).all ok))).set 15 (.int .i64 s.1))) (fun s=>s.2.2) (fun s=>s.1≤n∧hZ s.2.2 s.2.1 (gZ f) (mH f) (b&&(aUO s.1).all ok) s.1) (fun s=>n-s.1)
  (0,w0,H) ⟨aUT _,by
   obtain⟨x,q1,q2⟩:=β.ex;have e:(b&&(aUO 0).all ok)=b:=by cases b<;>rfl
   refine⟨x,q1,fun h=>?_⟩;simp only[e] at h;rw[q2 h,List.nil_append,aVI Om];simp⟩ (by
   have e:(b&&(aUO 0).all ok)=b:=by cases b<;>rfl
   simp only[e];exact hF) b_ ?_
 rintro⟨i,w,W⟩ ⟨hi,hG⟩;simp only at hi hG ⊢;have fin:∀ (c:Bool) (A:PV) (V:PF) (H':PH),i<n→(b&&(aUO (i+1)).all ok)=c→hZ H' A (gZ f) (mH f) true (i+1) →
   (((((((PF.nil.set 1 (.bL f.cells)).set 5 (A)).set 6 (.aB)).set 7 (.aB)).set 8 (.bool c)).set 15 (.int .i64 (i+1:Nat))):PF).le V →
   eY (fun s:Nat × PV × PH=>((((((PF.nil.set 1 (.bL f.cells)).set 5 (s.2.1)).set 6 (.aB)).set 7 (.aB)).set 8 (.bool (b&&(aUO s.1).all ok))).set 15 (.int .i64 s.1))) (fun s=>s.2.2) (fun s=>s.1≤n∧hZ s.2.2 s.2.1 (gZ f) (mH f) (b&&(aUO s.1).all ok) s.1) (fun s=>n-s.1) (n-i) K .normal V H' :=
  fun c A V H' hlt hb Z Y=>aG (i+1,A,H') ⟨hlt,Z.wr⟩ (by simp only; omega) (by simp only; rw[hb]; exact Y) b_
 have d:=sB (p:=ok) i b;have J:=fun h=>sA (p:=ok) (b:=b) hi h;have B:(b&&(aUO i).all ok)=(b&&(aUO n).all ok)→K (.exit 6) (((((PF.nil.set 1 (.bL f.cells)).set 6 (.aB)).set 7 (.aB)).set 8 (.bool (b&&(aUO i).all ok)))) W:=fun e=>by rw[e]; exact U W
 generalize hc:(b&&(aUO i).all ok)=c at *
 simp only[go_sem,yY,sd,aUN];by_cases hlt:i<n
 ·have l:((i:Nat):Int)<(f.aTC.length:Nat):=Om;cases c with
  | false =>simp only[go_sem,l];exact Up.up Lq (B (J rfl).symm)
  | true =>
   obtain⟨x,g1,g3⟩:=hG.ex;have M:i<f.aTC.length:=Om;have γ:=mR M;have δ:i<(mH f).length:=Om;have ε:(mH f)[i]=(f.aTC[i]).name:=by simp[mH]
   have Q:ok i=(jO (gZ f++(mH f).take i) ((mH f).getD i [])&&J3 f f.aTC[i]):=by rw[← O];unfold okL vZ;rw[aVB M]
   rw[Q] at d;unfold J3 at d;have u:IntKind.i64.wrap ((i:Int)+1)=((i+1:Nat):Int):=dA Om;have e1:=qy (Om:f.aTD.length≤1000);have e2:=qy (Om:f.aTF.length≤1000);simp only[go_sem,l,se,γ];refine aO fun o ho=>?_;have g4:=g1.new ho (.rows 3 [(f.aTC[i]).cells]);have g5:=g4.at 0 rfl;simp only[go_sem];generalize W.set o (.rows 3 [(f.aTC[i]).cells])=H2 at *
   simp only[go_sem,sf,g5];refine hZ.call L.toqE (base:=gZ f) (ns:=mH f) g4 Om Om (g3 rfl) δ (by simp only[go_sem,ε]) fun A H1 h1 y=>?_;have X:=h1.at 0 rfl;generalize jO (gZ f++(mH f).take i) ((mH f).getD i [])=fb at *
   generalize hd:f.aTC[i]=E at *
   cases fb with
   | false =>simp only[go_sem,PK,uS,u];exact fin false A _ _ hlt (d.trans rfl) y Lq
   | true =>
    simp only[go_sem,PK,X,aUN,e1];refine aA (L.inn E.model 0 ((f.aTD.length:Int)-1)) rfl ?_;cases k0:within E.model 0 ((f.aTD.length:Int)-1) with
    | false =>simp only[go_sem,uS,u];exact fin false A _ _ hlt (by rw[d,k0]<;>simp) y Lq
    | true =>
     simp only[go_sem,X,aUN,e2];refine aA (L.inn E.machine 0 ((f.aTF.length:Int)-1)) rfl ?_;cases k1:within E.machine 0 ((f.aTF.length:Int)-1) with
     | false =>simp only[go_sem,uS,u];exact fin false A _ _ hlt (by rw[d,k0,k1]<;>simp) y Lq
     | true =>
      obtain⟨p0,p1⟩:=within_iff.1 k1;obtain⟨p,hp⟩:∃ p:Nat,E.machine=p:=⟨E.machine.toNat,by omega⟩;have S:p<f.aTF.length:=Om;obtain⟨lv,N⟩:∃ lv,(f.aTF.map cF.level).getD E.machine.toNat 0=lv:=⟨_,rfl⟩;have ζ:(f.aTF[p]).level=lv:=by rw[← N,hp,aWK,getD_at S]
      rw[N] at d;have R:=gE S;simp only[go_sem,X,hp,R,ζ,uS,u];exact fin _ A _ _ hlt (by rw[d,k0,k1]<;>simp) y Lq
 ·have l:¬ ((i:Nat):Int)<(f.aTC.length:Nat):=Om;have:i=n:=Om;subst this;simp only[go_sem,l];exact Up.up Lq (B hc.symm)
theorem bz {xs:List Int} {k:Nat} (h:k<xs.length):(xs.map fun x=>[PV.int .i64 x])[k]?=some [.int .i64 xs[k]]:=by simp[h]
def zpF (f:aD) (w:PV) (o i:Nat) (c:Bool) (j:Nat):PF:=(((((((PF.nil.set 1 (.bL f.cells)).set 6 (w)).set 7 (.aB)).set 8 (.bool c)).set 17 (.int .i64 i)).set 18 (.ptr o 17 0 0)).set 19 (.int .i64 j))
theorem aDG {C:Ctx} (f:aD) (w:PV) (o i:Nat) (p:bT) (N:p.aTD.length≤9223372036854775807) (j:Nat) (E:j<p.aTD.length) (b:Bool) (K:bR) [Up K] (F:PF) (H:PH) (J:H o=some (.rows 17 [p.cells])) (A:((zpF f w o i b j).set 20 (.int .i64 0)).le F)
  (B:K (.exit 12) (zpF f w o i (b&&(p.aTD.take j).all fun x=>x != p.aTD[j]) j) H):aC.wp C (.loop PC) K F H:=by
 refine wp_loop (α:=Nat) (fun k=>(zpF f w o i (b&&(p.aTD.take k).all fun x=>x != p.aTD[j]) j).set 20 (.int .i64 k)) (fun _=>H) (fun k=>k≤j) (fun k=>j-k) 0 (aUT _) (by
   have e:(b&&(p.aTD.take 0).all fun x=>x != p.aTD[j])=b:=by cases b<;>rfl
   simp only[e];exact A) b_ ?_
 intro k M;have u:∀ h:k<p.aTD.length,(b&&(p.aTD.take (k+1)).all fun x=>x != p.aTD[j])=((b&&(p.aTD.take k).all fun x=>x != p.aTD[j])&&(p.aTD[k] != p.aTD[j])):=fun h=>by rw[aWN h,List.all_append];simp[aXN]
 have fin:∀ (c:Bool) (y:PF),k<j→(b&&(p.aTD.take (k+1)).all fun x=>x != p.aTD[j])=c→((zpF f w o i c j).set 20 (.int .i64 (k+1:Nat))).le y→eY (fun k:Nat=>(zpF f w o i (b&&(p.aTD.take k).all fun x=>x != p.aTD[j]) j).set 20 (.int .i64 k)) (fun _=>H) (fun k=>k≤j) (fun k=>j-k) (j-k) K .normal y H :=
  fun c y hlt e h=>aG (k+1) hlt Om (by rw[e]; exact h) b_
 unfold zpF at fin;simp only[go_sem,PC,sr,zpF];by_cases hlt:k<j
 ·have d:(k:Int)<(j:Nat):=Om;have l:k<p.aTD.length:=Om;have u:=u l;generalize (b&&(p.aTD.take k).all fun x=>x != p.aTD[j])=c at *
  simp only[go_sem,d];refine bS .nil dT a_ ?_;cases c with
  | false =>simp only[go_sem,PO,PP,wZz k];exact fin false _ hlt (u.trans rfl) Lq
  | true =>simp only[go_sem,PO,J,bz l,bz E,PP,wZz k];exact fin _ _ hlt (u.trans rfl) Lq
 ·have d:¬ (k:Int)<(j:Nat):=Om;have:k=j:=Om;subst this;simp only[go_sem,d];exact Up.up (by (repeat' (first|exact d_|refine c_ ?_ ?_))<;>first|(simp only[go_sem,zpF]<;>rfl)|rfl) B
def MV (aTD:Nat) (ms:List Int) (j:Nat):Bool:=within (ms.getD j 0) 0 ((aTD:Int)-1)&&(ms.take j).all fun x=>x != ms.getD j 0
theorem auO {C:Ctx} (L:sP C) (f:aD) (V:f.aTD.length≤4) (w:PV) (o i:Nat) (p:bT) (U:p.aTD.length≤9223372036854775807) (b:Bool) (K:bR) [Up K] (F:PF) (H:PH) (E:H o=some (.rows 17 [p.cells])) (O:(zpF f w o i b 0).le F)
  (M:K (.exit 10) ((((((PF.nil.set 1 (.bL f.cells)).set 6 (w)).set 7 (.aB)).set 8 (.bool (b&&(aUO p.aTD.length).all (MV f.aTD.length p.aTD)))).set 17 (.int .i64 i))) H):aC.wp C (.loop yZ) K F H:=by
 obtain⟨ok,A⟩:∃ ok,MV f.aTD.length p.aTD=ok:=⟨_,rfl⟩;rw[A] at M;refine wp_loop (α:=Nat) (fun j=>zpF f w o i (b&&(aUO j).all ok) j) (fun _=>H) (fun j=>j≤p.aTD.length) (fun j=>p.aTD.length-j) 0 (aUT _) (by
   have e:(b&&(aUO 0).all ok)=b:=by cases b<;>rfl
   simp only[e];exact O) b_ ?_
 intro j S;have l:=sB (p:=ok) j b;have y:=fun h=>sA (p:=ok) (b:=b) S h;have fin:∀ (c:Bool) (B:PF),j<p.aTD.length→(b&&(aUO (j+1)).all ok)=c→(zpF f w o i c (j+1)).le B→eY (fun j:Nat=>zpF f w o i (b&&(aUO j).all ok) j) (fun _=>H) (fun j=>j≤p.aTD.length) (fun j=>p.aTD.length-j) (p.aTD.length-j) K .normal B H :=
  fun c B hlt e h=>aG (j+1) hlt Om (by rw[e]; exact h) b_
 unfold zpF at fin;have u:(b&&(aUO j).all ok)=(b&&(aUO p.aTD.length).all ok)→K (.exit 10) ((((((PF.nil.set 1 (.bL f.cells)).set 6 (w)).set 7 (.aB)).set 8 (.bool (b&&(aUO j).all ok))).set 17 (.int .i64 i))) H:=fun e=>by rw[e]; exact M
 generalize Q:(b&&(aUO j).all ok)=c at *
 simp only[go_sem,yZ,sm,zpF,E,aUN];by_cases hlt:j<p.aTD.length
 ·have d:(j:Int)<(p.aTD.length:Nat):=Om;cases c with
  | false =>simp only[go_sem,d];exact Up.up Lq (u (y rfl).symm)
  | true =>
   have N:=qy (Om:f.aTD.length≤1000);have R:p.aTD.getD j 0=p.aTD[j]:=by simp[aUY,hlt]
   have J:ok j=(within p.aTD[j] 0 ((f.aTD.length:Int)-1)&&(p.aTD.take j).all fun x=>x != p.aTD[j]):=by rw[← A];unfold MV;rw[R]
   rw[J] at l;simp only[go_sem,d];refine bS .nil ajP a_ ?_;simp only[go_sem,sn,E,bz hlt,aUN,N];refine bY rfl (L.inn p.aTD[j] 0 ((f.aTD.length:Int)-1)) Sq a_ ?_;simp only[go_sem,so];refine aDG f w o i p U j hlt (within p.aTD[j] 0 ((f.aTD.length:Int)-1)) _ _ _ E (by (repeat' (first|exact d_|refine c_ ?_ ?_))<;>first|(simp only[go_sem,zpF]<;>rfl)|rfl) ?_;simp only[go_sem,zpF,su,wZz j];exact fin _ _ hlt (l.trans rfl) Lq
 ·have d:¬ (j:Int)<(p.aTD.length:Nat):=Om;have:j=p.aTD.length:=Om;subst this;simp only[go_sem,d];exact Up.up Lq (u Q.symm)
def Ri (aTD:Nat) (p:bT):Bool:=MO p.k p.m p.aUA p.s0 p.s1 p.s2 p.s3 p.s4&&(RQ p.m p.repair p.target p.aTM&&(decide (p.aTD.length>0)&&(aUO p.aTD.length).all (MV aTD p.aTD)))
theorem aHR (aTD:Nat) (p:bT):jQ aTD p=Ri aTD p:=by
 unfold jQ Ri;rw[aHJ,aKB];have c:decide (p.aTD.length≠0)=decide (p.aTD.length>0):=decide_eq_decide.2 Om;have d:(aUO p.aTD.length).all (fun j=>within (p.aTD.getD j 0) 0 ((aTD:Int)-1)&&!(p.aTD.take j).contains (p.aTD.getD j 0))=(aUO p.aTD.length).all (MV aTD p.aTD):=by
  congr 1;funext j;unfold MV;congr 1;generalize p.aTD.getD j 0=x
  induction p.aTD.take j with
  | nil=>rfl
  | cons a t e =>rw[List.contains_cons,List.all_cons,← e,Bool.not_or,bne,BEq.comm]
 rw[c,d];cases MO p.k p.m p.aUA p.s0 p.s1 p.s2 p.s3 p.s4<;>cases RQ p.m p.repair p.target p.aTM<;>cases decide (p.aTD.length>0)<;>simp
structure s9 (C:Ctx):Prop extends sP C where
 dur:∀ (m:Int) (rep:List RF),kB rep→∀ t h:RF,t.Ok→h.Ok→aH C 69 [.int .i64 m,frs rep,.agg t.cells,.agg h.cells] .nil (aI (.bool (RQ m rep t h)))
def lF (f:aD):List (List UInt8):=f.aTG.map bT.name
def MU (f:aD) (i:Nat):Bool:=match f.aTG[i]? with
 | some p=>Ri f.aTD.length p
 | none=>false
def nw (f:aD):Bool:=(aUO f.aTG.length).all (okL [] (lF f) (MU f))
theorem aJH {C:Ctx} (L:s9 C) (f:aD) (hf:f.Ok) (ε:f.aTG.length≤4) (β:f.aTD.length≤4) (b:Bool) (K:bR) [Up K] (F:PF) (H:PH)
  (hF:((((((PF.nil.set 1 (.bL f.cells)).set 6 (.aB)).set 7 (.aB)).set 8 (.bool b)).set 17 (.int .i64 0)):PF).le F)
  (U:∀ H',K (.exit 8) ((((PF.nil.set 1 (.bL f.cells)).set 7 (.aB)).set 8 (.bool (b&&nw f)))) H'):aC.wp C (.loop zA) K F H:=by
 obtain⟨ok,J⟩:∃ ok,okL [] (lF f) (MU f)=ok:=⟨_,rfl⟩;unfold nw at U;rw[J] at U;have δ:(lF f).length=f.aTG.length:=by simp[lF]
 refine wp_loop (α:=Nat × PV × PH) (fun s=>(((((PF.nil.set 1 (.bL f.cells)).set 6 (s.2.1)).set 7 (.aB)).set 8 (.bool (b&&(aUO s.1).all ok))).set 17 (.int .i64 s.1))) (fun s=>s.2.2) (fun s=>s.1≤f.aTG.length∧hZ s.2.2 s.2.1 [] (lF f) (b&&(aUO s.1).all ok) s.1) (fun s=>f.aTG.length-s.1)
  (0,.aB,H) ⟨aUT _,⟨[],aM.nil.mI 1,fun _=>rfl⟩⟩ (by
   have e:(b&&(aUO 0).all ok)=b:=by cases b<;>rfl
   simp only[e];exact hF) b_ ?_
 rintro⟨i,w,Q⟩ ⟨hi,hG⟩;simp only at hi hG ⊢;have fin:∀ (c:Bool) (y:PV) (A:PF) (H':PH),i<f.aTG.length→(b&&(aUO (i+1)).all ok)=c→hZ H' y [] (lF f) true (i+1) →
   ((((((PF.nil.set 1 (.bL f.cells)).set 6 (y)).set 7 (.aB)).set 8 (.bool c)).set 17 (.int .i64 (i+1:Nat))):PF).le A →
   eY (fun s:Nat × PV × PH=>(((((PF.nil.set 1 (.bL f.cells)).set 6 (s.2.1)).set 7 (.aB)).set 8 (.bool (b&&(aUO s.1).all ok))).set 17 (.int .i64 s.1))) (fun s=>s.2.2) (fun s=>s.1≤f.aTG.length∧hZ s.2.2 s.2.1 [] (lF f) (b&&(aUO s.1).all ok) s.1) (fun s=>f.aTG.length-s.1) (f.aTG.length-i) K .normal A H' :=
  fun c y A H' hlt hb R B=>aG (i+1,y,H') ⟨hlt,R.wr⟩ (by simp only; omega) (by simp only; rw[hb]; exact B) b_
 have d:=sB (p:=ok) i b;have E:=fun h=>sA (p:=ok) (b:=b) hi h;have x:(b&&(aUO i).all ok)=(b&&(aUO f.aTG.length).all ok)→K (.exit 8) ((((PF.nil.set 1 (.bL f.cells)).set 7 (.aB)).set 8 (.bool (b&&(aUO i).all ok)))) Q:=fun e=>by rw[e]; exact U Q
 generalize hc:(b&&(aUO i).all ok)=c at *
 simp only[go_sem,zA,sg,aUN];by_cases hlt:i<f.aTG.length
 ·have l:(i:Int)<(f.aTG.length:Nat):=Om;cases c with
  | false =>simp only[go_sem,l];exact Up.up Lq (x (E rfl).symm)
  | true =>
   obtain⟨γ,g1,g3⟩:=hG.ex;have V:=wJ hlt;have Y:i<(lF f).length:=Om;have Z:(lF f)[i]=(f.aTG[i]).name:=by simp[lF]
   have M:ok i=(jO ([]++(lF f).take i) ((lF f).getD i [])&&Ri f.aTD.length f.aTG[i]):=by rw[← J];unfold okL MU;rw[aVB hlt]
   have u:=hf.aTO _ (aUQ hlt);rw[M] at d;unfold Ri at d;have N:IntKind.i64.wrap ((i:Int)+1)=((i+1:Nat):Int):=dA Om;simp only[go_sem,l,sj,V];refine aO fun o ho=>?_;have g4:=g1.new ho (.rows 17 [(f.aTG[i]).cells]);have g5:=g4.at 0 rfl;simp only[go_sem];generalize Q.set o (.rows 17 [(f.aTG[i]).cells])=H2 at *
   simp only[go_sem,sk,g5];refine hZ.call L.toqE (ns:=lF f) g4 (aUT _) Om (g3 rfl) Y (by simp only[go_sem,Z]) fun y H1 h1 S=>?_;have O:=h1.at 0 rfl;generalize jO ([]++(lF f).take i) ((lF f).getD i [])=fb at *
   generalize hd:f.aTG[i]=p at *
   have rest:∀ (c:Bool) (A:PF),(zpF f y o i c 0).le A→(c&&(aUO p.aTD.length).all (MV f.aTD.length p.aTD))=(b&&(aUO (i+1)).all ok) →
     aC.wp C (.loop yZ) (eQ 10 (eQ 9 (gD C (aC.wp C (.region PQ)) (eY (fun s:Nat × PV × PH=>(((((PF.nil.set 1 (.bL f.cells)).set 6 (s.2.1)).set 7 (.aB)).set 8 (.bool (b&&(aUO s.1).all ok))).set 17 (.int .i64 s.1))) (fun s=>s.2.2) (fun s=>s.1≤f.aTG.length∧hZ s.2.2 s.2.1 [] (lF f) (b&&(aUO s.1).all ok) s.1) (fun s=>f.aTG.length-s.1) (f.aTG.length-i) K)))) A H1:=by
    intro c A B W;refine auO L.tosP f β y o i p u.aTD c _ _ _ O B ?_;rw[W];simp only[go_sem,PQ,N];exact fin _ y _ _ hlt rfl S Lq
   cases fb with
   | false =>simp only[go_sem,PN,uT];exact rest false _ (by (repeat' (first|exact d_|refine c_ ?_ ?_))<;>first|(simp only[go_sem,zpF]<;>rfl)|rfl) (by rw[d]; rfl)
   | true =>
    simp only[go_sem,PN,O];refine aA (L.nums p.k p.m p.aUA p.s0 p.s1 p.s2 p.s3 p.s4) Sq ?_;cases k0:MO p.k p.m p.aUA p.s0 p.s1 p.s2 p.s3 p.s4 with
    | false =>simp only[go_sem,uT];exact rest false _ (by (repeat' (first|exact d_|refine c_ ?_ ?_))<;>first|(simp only[go_sem,zpF]<;>rfl)|rfl) (by rw[d,k0]; rfl)
    | true =>
     simp only[go_sem,O];refine aA (L.dur p.m p.repair u.repair p.target p.aTM u.target u.aTM) Sq ?_;cases k1:RQ p.m p.repair p.target p.aTM with
     | false =>simp only[go_sem,uT];exact rest false _ (by (repeat' (first|exact d_|refine c_ ?_ ?_))<;>first|(simp only[go_sem,zpF]<;>rfl)|rfl) (by rw[d,k0,k1]; rfl)
     | true =>have X:decide ((p.aTD.length:Int)>0)=decide (p.aTD.length>0):=decide_eq_decide.2 Om;simp only[go_sem,O,aUN,X,uT];exact rest _ _ (by (repeat' (first|exact d_|refine c_ ?_ ?_))<;>first|(simp only[go_sem,zpF]<;>rfl)|rfl) (by rw[d,k0,k1]; rfl)
 ·have l:¬ (i:Int)<(f.aTG.length:Nat):=Om;have:i=f.aTG.length:=Om;subst this;simp only[go_sem,l];exact Up.up Lq (x hc.symm)
def qY (r:cF):Bool:=(r.name==[])&&((r.level==0)&&((r.parent==-1)&&((r.aTW==0)&&(cX (val r.aTR.num) (val r.aTR.den)&&(rY r.aTR==0)))))
def alF (f:aD):Bool:=match f.aTF with
 | []=>false
 | r::_=>qY r
def aAG (f:aD):Bool:=within f.aUG 1 4&&(pY f.aTJ.length f.aTD.length f.aTF.length f.aTC.length f.aTG.length f.aTE.length&&(decide (0<f.aTF.length)&&((((((KK f&&zR f)&&alF f)&&xZ f)&&zG f)&&nw f)&&Hl f)))
theorem Xn (n:Nat) (p q:Nat→Bool):(aUO n).all (fun i=>p i&&q i)=((aUO n).all p&&(aUO n).all q):=by
 induction n with
 | zero=>rfl
 | succ n c =>simp only[aXV,List.all_append,c,List.all_cons,List.all_nil,aWQ];cases (aUO n).all p<;>cases (aUO n).all q<;>cases p n<;>simp
theorem AC {α:Type} (l:List α) (p:α→Bool):(aUO l.length).all (fun i=>(l.map p).getD i false)=l.all p:=by
 refine Bool.eq_iff_iff.2 ?_;rw[aVD,aVD];constructor
 ·intro h x c;obtain⟨i,hi,rfl⟩:=aVX c;have:=h i (aVM.2 hi);simpa [aUY,hi] using this
 ·intro h i hi;have hi:=aVM.1 hi;simp[aUY,hi,h _ (aUQ hi)]
theorem HS (ns:List (List UInt8)) (n:Nat) (c:ns.length=n) (P:Nat→Bool):(aUO n).all (okL [] ns P)=(distinct ns&&(aUO n).all P):=by
 subst c;have:okL [] ns P=fun i=>(isName (ns.getD i [])&&!(ns.take i).contains (ns.getD i []))&&P i:=by funext i;rfl
 rw[this,Xn];rfl
theorem aHL (base ns:List (List UInt8)) (P Q:Nat→Bool):((aUO base.length).all (okL [] base P)&&(aUO ns.length).all (okL base ns Q))=(distinct (base++ns)&&((aUO base.length).all P&&(aUO ns.length).all Q)):=by
 have c:okL base ns Q=fun i=>(isName (ns.getD i [])&&!(base++ns.take i).contains (ns.getD i []))&&Q i:=by funext i;rfl
 have d:distinct (base++ns)=(distinct base&&(aUO ns.length).all fun i=>isName (ns.getD i [])&&!(base++ns.take i).contains (ns.getD i [])):=by
  unfold distinct;rw[aUS,List.range_add,List.all_append,List.all_map];congr 1
  ·refine Bool.eq_iff_iff.2 ?_;rw[aVD,aVD];refine forall_congr' fun i=>forall_congr' fun hi=>?_;have hi:=aVM.1 hi;have a1:(base++ns).getD i []=base.getD i []:=by simp only[aUY];rw[aXI hi]
   have a2:(base++ns).take i=base.take i:=by rw[List.take_append_of_le_length Om]
   rw[a1,a2]
  ·refine Bool.eq_iff_iff.2 ?_;rw[aVD,aVD];refine forall_congr' fun i=>forall_congr' fun _=>?_;have a1:(base++ns).getD (base.length+i) []=ns.getD i []:=by simp only[aUY];rw[aXF Om];congr 2;omega
   have a2:(base++ns).take (base.length+i)=base++ns.take i:=by rw[List.take_append,aVI Om]; congr 2; omega
   simp only[Function.comp,a1,a2]
 rw[HS base base.length rfl P,c,Xn,d];cases distinct base<;>cases (aUO base.length).all P<;>simp
theorem aAJ (r:cF):(decide (r.name=[])&&decide (r.level=0)&&decide (r.parent=-1)&&decide (r.aTW=0)&&cT r.aTR&&!bM r.aTR)=qY r:=by
 have i:decide (r.name=[])=(r.name==[]):=by cases r.name<;>rfl
 have l:decide (r.level=0)=(r.level==0):=by generalize r.level=x; by_cases h:x=0<;>simp[h]
 have p:decide (r.parent=-1)=(r.parent==-1):=by generalize r.parent=x; by_cases h:x=-1<;>simp[h]
 have u:decide (r.aTW=0)=(r.aTW==0):=by generalize r.aTW=x; by_cases h:x=0<;>simp[h]
 have h5:(cT r.aTR&&!bM r.aTR)=(cX (val r.aTR.num) (val r.aTR.den)&&(rY r.aTR==0)):=by
  rw[NK];by_cases h:val r.aTR.num=0
  ·have d:bM r.aTR=false:=by unfold bM; simp[h]
   rw[d];simp only[aVG,aWQ];cases c:cX (val r.aTR.num) (val r.aTR.den) with
   | false =>unfold cT pD;rw[c];rfl
   | true =>
    obtain⟨y,-,-⟩:=fU.1 c;unfold cT pD;rw[c,if_pos rfl,ca c,h];unfold nE;have w:val r.aTR.den/aUP 0 (val r.aTR.den)=1:=by rw[Nat.gcd_zero_left,Nat.div_self (aXB y)]
    have e:cM (0/aUP 0 (val r.aTR.den))=0:=by rw[Nat.zero_div]; exact jU
    have b1:cM 1=1:=by rw[pQ (by decide),jU]
    simp only[w,e,b1];simp
  ·have d:bM r.aTR=true:=by unfold bM; simp[h]
   rw[d];simp
 unfold qY;rw[i,l,p,u];simp only[aXN] at h5 ⊢;rw[h5]
theorem awF (f:aD) {r:cF} {t:List cF} (h:f.aTF=r::t):BZ f r t=(qY r&&(aUO t.length).all (xY f)):=by
 unfold BZ;rw[aAJ];congr 2;funext i;unfold xY;rw[h,List.getElem?_cons_succ];cases t[i]? with
 | none=>rfl
 | some d=>exact aER f i d
theorem aoP (f:aD):f.aTC.all (jD f)=(aUO f.aTC.length).all (vZ f):=by
 have:vZ f=fun i=>(f.aTC.map (jD f)).getD i false:=by
  funext i;unfold vZ;rw[aUY,aVN];cases f.aTC[i]? with
  | none=>rfl
  | some d =>
   show J3 f d=jD f d;unfold J3 jD;have:decide ((f.aTF.map cF.level).getD d.machine.toNat 0=4)=((f.aTF.map cF.level).getD d.machine.toNat 0==4):=by generalize (f.aTF.map cF.level).getD d.machine.toNat 0=u;by_cases h:u=4<;>simp[h]
   rw[this,aXN]
 rw[this,AC]
theorem arH (f:aD):f.aTG.all (jQ f.aTD.length)=(aUO f.aTG.length).all (MU f):=by
 have:MU f=fun i=>(f.aTG.map (jQ f.aTD.length)).getD i false:=by
  funext i;unfold MU;rw[aUY,aVN];cases f.aTG[i]? with
  | none=>rfl
  | some d=>exact (aHR _ d).symm
 rw[this,AC]
theorem aHT (f:aD):aAG f=dJ f:=by
 have O:uy f.aTJ.length=kO f:=by funext m;unfold uy kO;rw[aXN]
 have B:Vf f.aTG.length=oP f:=rfl;have Q:(within f.aUG 1 4&&pY f.aTJ.length f.aTD.length f.aTF.length f.aTC.length f.aTG.length f.aTE.length)=nT f:=by unfold nT pY;simp only[aXN]
 unfold aAG dJ KK zR nw Hl;rw[HS _ _ (by rw[aUN]),HS _ _ (by rw[aUN]),HS _ _ (by rw[lF,aUN]),HS _ _ (by rw[aUN]),AC,AC,AC,O,B,arH,aoP,← aXN,Q];unfold oI alF;cases l:f.aTF with
 | nil=>simp
 | cons r t =>
  have i:decide (0<f.aTF.length)=true:=by rw[l]; simp
  rw[l] at i;rw[i,aVA];simp only;rw[awF f l];have A:gZ f=(f.aTF.drop 1).map cF.name:=rfl;rw[l] at A;have N:(gZ f).length=t.length:=by rw[A]; simp
  have p:=aHL (gZ f) (mH f) (xY f) (vZ f);rw[N,show (mH f).length=f.aTC.length by simp[mH]] at p;have K:xZ f=(aUO t.length).all (okL [] (gZ f) (xY f)):=by unfold xZ;rw[l];rfl
  have M:zG f=(aUO f.aTC.length).all (okL (gZ f) (mH f) (vZ f)):=rfl;rw[K,M,← A];rw[show f.aTC.map dL.name=mH f from rfl,show f.aTG.map bT.name=lF f from rfl];generalize (aUO t.length).all (okL [] (gZ f) (xY f))=a at *
  generalize (aUO f.aTC.length).all (okL (gZ f) (mH f) (vZ f))=b at *
  generalize distinct (gZ f++mH f)=c at *
  generalize (aUO t.length).all (xY f)=d at *
  generalize (aUO f.aTC.length).all (vZ f)=e at *
  generalize nT f=s;generalize qY r=ro;generalize distinct (f.aTJ.map cG.name)=u;generalize f.aTJ.all kM=w;generalize distinct (f.aTD.map cS.name)=x;generalize f.aTD.all (kO f)=y;generalize distinct (lF f)=E;generalize (aUO f.aTG.length).all (MU f)=F;generalize distinct (f.aTE.map eT.name)=H;generalize f.aTE.all (oP f)=J;have:(s&&(((((((u&&w)&&(x&&y))&&ro)&&a)&&b)&&(E&&F))&&(H&&J)))=(s&&(ro&&((u&&w)&&((x&&y)&&((a&&b)&&((E&&F)&&(H&&J))))))):=by cases s<;>cases ro<;>cases u<;>cases w<;>cases x<;>cases y<;>simp[aXN]
  rw[this,p];cases s<;>cases ro<;>cases u<;>cases w<;>cases x<;>cases y<;>cases c<;>cases d<;>cases e<;>simp;cases E<;>cases F<;>cases H<;>cases J<;>rfl
theorem aAI (f:aD) (h:0<f.aTF.length):alF f=qY f.aTF[0]:=by
 obtain⟨a,b,c,d,e,g,i⟩:=f;cases d with
 | nil=>simp at h
 | cons r t=>rfl
theorem auV {C:Ctx} (L:s9 C) (f:aD) (l:f.Ok):HB.wp C (aU We.res (aI (.bool (dJ f)))) (PF.args [.agg f.cells]) .nil:=by
 have i:=aHT f;unfold aAG at i;have fail:∀ (F:PF) (H:PH),dJ f=false→F 2=some (.bool false)→aU [.tmp 2] (aI (.bool (dJ f))) .ret F H:=fun F H e h=>by rw[e];exact aX (vs:=[.bool false]) (.inr rfl) .nil (by simp only[go_sem,h]) a_ ⟨rfl,rfl⟩
 simp only[go_sem,HB,Gh,Gi,We];refine aA (L.inn f.aUG 1 4) rfl ?_;cases R:within f.aUG 1 4 with
 | false =>rw[R,aUV] at i;simp only[go_sem,aVG,DR];exact fail _ _ i.symm rfl
 | true =>
 rw[R,aVA] at i;simp only[go_sem,aUW,aUN];refine aA (L.sizes f.aTJ.length f.aTD.length f.aTF.length f.aTC.length f.aTG.length f.aTE.length) rfl ?_;cases k1:pY f.aTJ.length f.aTD.length f.aTF.length f.aTC.length f.aTG.length f.aTE.length with
 | false =>rw[k1,aUV] at i;simp only[go_sem,aVG,DR];exact fail _ _ i.symm rfl
 | true =>
 rw[k1,aVA] at i;obtain⟨K,x,y,M,N,X⟩:=UD k1;by_cases h0:f.aTF.length=0
 ·rw[decide_eq_false Om,aUV] at i;simp only[go_sem,aUW,aUN,bP (Om:(f.aTF.length:Int)=0),DR];exact fail _ _ i.symm rfl
 have d:0<f.aTF.length:=Om;rw[decide_eq_true d,aVA] at i;simp only[go_sem,aUW,aUN,bG (Om:(f.aTF.length:Int)≠0),Gj,Gk,Gl];refine aJG L.tosP f l K _ _ _ Lq fun Y=>?_;simp only[go_sem,rv];refine auU L.tosP f l k1 (KK f) _ _ _ Lq fun H2=>?_;have E:=gE d;have u:=(l.dom _ (aUQ d)).1;have J:=aAI f d;rw[J] at i;generalize f.aTF[0]=r at *
 have rest:∀ (c:Bool) (F:PF) (H:PH),((((((PF.nil.set 1 (.bL f.cells)).set 5 (.aB)).set 6 (.aB)).set 7 (.aB)).set 8 (.bool c)):PF).le F→c=((KK f&&zR f)&&qY r) →
   aC.wp C (.seq (.seq (.region PG) (.block 4 (.loop yX))) (.seq (.seq (.region PJ) (.block 6 (.loop yY))) (.seq (.seq (.region PL) (.block 8 (.loop zA))) (.seq (.seq (.region PR) (.block 14 (.loop zC))) (.seq (.region PU) .ret))))) (aU [.tmp 2] (aI (.bool (dJ f)))) F H:=by
  intro c F H U W;refine rZ _ (fun _ _ _ _ a b=>Up.up a b) U ?_;simp only[go_sem,PG];refine aJF L.tosP f l y d c _ _ _ Lq fun w S V=>?_;simp only[go_sem,PJ];refine auT L.tosP f l y d M x (c&&xZ f) w _ _ _ V Lq fun Z=>?_;simp only[go_sem,PL];refine aJH L f l N x ((c&&xZ f)&&zG f) _ _ _ Lq fun H5=>?_;simp only[go_sem,PR];refine aJI L.tosP f l k1 (((c&&xZ f)&&zG f)&&nw f) _ _ _ Lq fun H6=>?_;simp only[go_sem,PU];refine aX (vs:=[.bool (dJ f)]) (.inr rfl) .nil ?_ a_ ⟨rfl,rfl⟩;rw[← i,W];simp only[go_sem]
 simp only[aC.wp,go_sem] at rest;simp only[go_sem,r8,E];refine aO fun o ho=>?_;have g0:(H2.set o (.rows 7 [r.cells])) o=some (.rows 7 [r.cells]):=cO ..;simp only[go_sem];generalize H2.set o (.rows 7 [r.cells])=S at *
 cases k2:(KK f&&zR f) with
 | false =>simp only[go_sem,PE];exact rest false _ _ Lq (by rw[k2]; rfl)
 | true =>
  simp only[go_sem,PE,g0];cases p:r.name==[] with
  | false =>simp only[go_sem];exact rest false _ _ Lq (by rw[k2]; unfold qY; rw[p]; rfl)
  | true =>
   simp only[go_sem,g0];cases A:r.level==0 with
   | false =>simp only[go_sem];exact rest false _ _ Lq (by rw[k2]; unfold qY; rw[p,A]; rfl)
   | true =>
    simp only[go_sem,g0];cases B:r.parent==-1 with
    | false =>simp only[go_sem];exact rest false _ _ Lq (by rw[k2]; unfold qY; rw[p,A,B]; rfl)
    | true =>
     simp only[go_sem,g0];cases O:r.aTW==0 with
     | false =>simp only[go_sem];exact rest false _ _ Lq (by rw[k2]; unfold qY; rw[p,A,B,O]; rfl)
     | true =>
      simp only[go_sem,g0];refine aA (L.valid _ u) rfl ?_;cases Q:cX (val r.aTR.num) (val r.aTR.den) with
      | false =>simp only[go_sem];exact rest false _ _ Lq (by rw[k2]; unfold qY; rw[p,A,B,O,Q]; rfl)
      | true =>simp only[go_sem,g0];refine aA (L.sign _ u Q) rfl ?_;simp only[go_sem];exact rest _ _ _ Lq (by rw[k2]; unfold qY; rw[p,A,B,O,Q]; rfl)
def Ce:Rg:=[iA 3 (.box true (Tm 0)),iI 6 0]
def Cf:Rg:=[iF 8 4 3,iL 9 8,iM 10 1,iX 11 3 9 10,iF 12 2 11,iL 13 12,iM 7 13]
def Cg:Rg:=[iF 14 3 3,iL 15 14,iM 16 7,iX 17 7 15 16,iF 18 1 17,iL 19 18,iM 20 2,iB 21 .gtr 19 20]
def Ch:Rg:=[iF 22 3 3,iL 23 22,iM 24 7,iX 25 7 23 24,iF 26 2 25,iL 27 26,iM 7 27]
def Cd:aC:=(.seq (sq Cg (.cond (Tm 21) .skip (.exit 0))) (.block 1 (.region Ch)))
def Cj:Rg:=[iM 28 7,iM 6 28]
def FL:aC:=(sq Ce (sq Cf (.seq (.block 0 (.loop Cd)) (sq Cj .ret))))
def arV:List Nat:=[3]
def Rx:aZ:=⟨3,29,FL,[.tmp 6]⟩
def Cm:Rg:=[iA 2 (.box true (Tm 0)),iZ 4]
def Cn:Rg:=[iO 8 7 2,iK 9 67 8,iA 10 (.un .not (Tm 9))]
def Cp:Rg:=[iZ 4]
def Cq:Rg:=[iF 11 4 2,iL 12 11,iN 13 12,iA 14 (.aTK 1 8 [zI] (Tm 13) (Tm 13)),iM 5 14]
def Cr:Rg:=[iI 6 0]
def Cs:Rg:=[iM 15 6,iM 16 1,iN 17 16,iB 18 .lss 15 17]
def Ct:Rg:=[iI 7 0]
def Cu:Rg:=[iM 21 7,iM 22 1,iM 23 6,iX 24 1 22 23,iL 25 24,iN 26 25,iB 27 .lss 21 26]
def CY:Rg:=[iM 30 1,iM 31 6,iX 32 1 30 31,iL 33 32,iM 34 7,iX 35 1 33 34,iL 36 35,iC 37 .geq 36 0,iM 38 37,gM 39 1 38 true,gM 40 6 38 true,iG 41 (.aTT 1 (Tm 39) (Tm 40)) 38 true,gL 42 41 38 true,gM 43 7 38 true,iG 44 (.aTT 1 (Tm 42) (Tm 43)) 38 true,gL 45 44 38 true,gM 46 5 38 true,gN 47 46 38 true,gB 48 .lss 45 47 38 true,iP 49 38 48]
def Cv:Rg:=[iM 50 5,iM 51 1,iM 52 6,iX 53 1 51 52,iL 54 53,iM 55 7,iX 56 1 54 55,iL 57 56,iX 58 1 50 57,iL 59 58,iC 60 .add 59 1,iX 61 1 50 57,iS 1 61 60]
def yQ:Rg:=[iM 28 7,iC 29 .add 28 1,iM 7 29]
def NL:aC:=(.seq (sq Cu (.cond (Tm 27) .skip (.exit 2))) (.seq (.block 3 (sq CY (.cond (Tm 49) (.region Cv) .skip))) (.region yQ)))
def oe:Rg:=[iM 19 6,iC 20 .add 19 1,iM 6 20]
def oc:aC:=(.seq (sq Cs (.cond (Tm 18) .skip (.exit 0))) (.seq (.block 1 (sq Ct (.block 2 (.loop NL)))) (.region oe)))
def og:Rg:=[iM 62 5,iM 4 62]
def FO:aC:=(sq Cm (.seq (sq Cn (.cond (Tm 10) (sq Cp .ret) .skip)) (sq Cq (.seq (sq Cr (.block 0 (.loop oc))) (sq og .ret)))))
def asE:List Nat:=[2]
def R6:aZ:=⟨2,63,FO,[.tmp 4]⟩
theorem arU {C:Ctx} (f:aD) (i:VF f) (d:Nat) (h:d<f.aTC.length) (level:Int) (w:0≤level) (x:level≤4) :
  FL.wp C (aU Rx.res (aI (.int .i64 (cU f d level:Nat)))) (PF.args [.agg f.cells,.int .i64 d,.int .i64 level]) .nil:=by
 simp only[go_sem,FL,Ce,Cf,Rx,mR h,i.WN h];refine wp_loop (α:=Nat) (fun k=>(((PF.nil.set 2 (.int .i64 level)).set 3 (.bL f.cells)).set 7 (.int .i64 (upN f k (cQ f d))))) (fun _=>.nil) (fun k=>k≤4-level.toNat) (fun k=>4-level.toNat-k) 0 (aUT _) (by (repeat' (first|exact d_|refine c_ ?_ ?_))<;>first|(simp only[go_sem,upN]<;>rfl)|rfl) a_ ?_;intro k y;obtain⟨c,u⟩:=xH i h (k:=k) Om;simp only[go_sem,Cd,Cg,gE c,HN c];by_cases hlt:k<4-level.toNat
 ·have l:lvl f (upN f k (cQ f d))>level:=by rw[u]; omega
  have p:0<upN f k (cQ f d):=by
   rcases aWZ (upN f k (cQ f d)) with e | e
   ·rw[e,i.root.2.1] at u; omega
   ·exact e
  simp only[go_sem,l,Ch,gE c,TV c,i.WS p c];exact aG (k+1) hlt Om (by (repeat' (first|exact d_|refine c_ ?_ ?_))<;>first|(simp only[go_sem,upN]<;>rfl)|rfl) a_
 ·have l:¬ lvl f (upN f k (cQ f d))>level:=by rw[u]; omega
  have:k=4-level.toNat:=Om;subst this;simp only[go_sem,l,Cj];refine aR (.inr rfl) Ev ?_;rfl
structure aJP (C:Ctx):Prop where
 valid:∀ f:aD,f.Ok→aH C 67 [.agg f.cells] .nil (aI (.bool (dJ f)))
 rR:∀ (f:aD) (d:Nat) (level:Int),VF f→d<f.aTC.length→0≤level→level≤4→aH C 88 [.agg f.cells,.int .i64 d,.int .i64 level] .nil (aI (.int .i64 (cU f d level:Nat)))
structure anN (C:Ctx):Prop extends aJP C where
 K0:∀ (f:aD) (v:Nat),VF f→v<f.aTE.length→aH C 82 [.agg f.cells,.int .i64 v] .nil (aI (.int .i64 (fQ f v)))

theorem asC {C:Ctx} (f:aD) (l:List (List Int)) (X:oE l) (o i:Nat) (hlt:i<l.length) (K:bR) [Up K] (F:PF) (H:PH)
  (O:((((((PF.nil.set 1 (lay l)).set 2 (.bL f.cells)).set 5 (.osl o 1 0 f.aTC.length)).set 6 (.int .i64 i)).set 7 (.int .i64 0)):PF).le F) (Q:(PH.nil.set o (.rows 1 (aW (dU f.aTC.length (l.take i).flatten)))).le H)
  (U:K (.exit 2) (((((PF.nil.set 1 (lay l)).set 2 (.bL f.cells)).set 5 (.osl o 1 0 f.aTC.length)).set 6 (.int .i64 i))) (PH.nil.set o (.rows 1 (aW (dU f.aTC.length (l.take (i+1)).flatten))))):aC.wp C (.loop NL) K F H:=by
 obtain⟨Y,Z⟩:=X;have M:(l.map fun r=>[ints r])[i]?=some [ints l[i]]:=by simp[hlt]
 have R:=wW l hlt;have E:=JJ l (i+1);rw[R] at E U;rw[aUS] at E;generalize V:l[i]=row at *
 generalize hn:f.aTC.length=n at *
 generalize hA:(l.take i).flatten=A at *
 refine wp_loop (α:=Nat) (fun k=>(((((PF.nil.set 1 (lay l)).set 2 (.bL f.cells)).set 5 (.osl o 1 0 n)).set 6 (.int .i64 i)).set 7 (.int .i64 k))) (fun k=>PH.nil.set o (.rows 1 (aW (dU n (A++row.take k))))) (fun k=>k≤row.length) (fun k=>row.length-k) 0 (aUT _) O (by rw[aXW,aWF]; exact Q) ?_;intro k hk;simp only[go_sem,NL,Cu,M,aUN];by_cases u:k<row.length
 ·have c:(k:Int)<(row.length:Nat):=Om;have w:(row.map fun n=>[PV.int .i64 n])[k]?=some [.int .i64 row[k]]:=by simp[u]
  have y:A++row.take (k+1)=(A++row.take k)++[row[k]]:=by rw[aWN u,aVS]
  have fin:∀ (F:PF),((((((PF.nil.set 1 (lay l)).set 2 (.bL f.cells)).set 5 (.osl o 1 0 n)).set 6 (.int .i64 i)).set 7 (.int .i64 (k+1:Nat))):PF).le F→∀ H:PH,H o=some (.rows 1 (aW (dU n (A++row.take (k+1))))) →
    eY (fun k:Nat=>(((((PF.nil.set 1 (lay l)).set 2 (.bL f.cells)).set 5 (.osl o 1 0 n)).set 6 (.int .i64 i)).set 7 (.int .i64 k))) (fun k=>PH.nil.set o (.rows 1 (aW (dU n (A++row.take k))))) (fun k=>k≤row.length) (fun k=>row.length-k) (row.length-k) K .normal F H:=by
   intro F O H Q;exact aG (k+1) u Om O (e_ a_ Q)
  generalize hx:row[k]=x at *
  by_cases N:x≥0
  ·by_cases S:x<(n:Nat)
   ·obtain⟨d,rfl⟩:∃ d:Nat,x=d:=⟨x.toNat,by omega⟩;have p:d<n:=Om;have B:=vI (l:=dU n (A++row.take k)) (i:=d) (by rw[jA]; exact p);rw[tp _ p] at B;have W:(A++row.take k).count (d:Int)≤16777216:=by refine aWE (List.count_le_length ..) ?_;rw[aUS,aVJ]; omega
    have J:=tq (A++row.take k) p;rw[← y] at J;have hw:IntKind.i64.wrap ((((A++row.take k).count (d:Int):Nat):Int)+1)=(((A++row.take k).count (d:Int):Nat):Int)+1:=wrap_i64 Om Om;simp only[go_sem,c,CY,w,N,S,Cv,aVH,B,hw,yQ,mU,J,wZz k,M];exact fin _ Lq _ Sq
   ·have e:=AK (n:=n) (A++row.take k) (x:=x) Om;simp only[go_sem,c,CY,w,N,S,yQ,wZz k,M];exact fin _ Lq _ (by rw[y,e]; simp only[go_sem])
  ·have e:=AK (n:=n) (A++row.take k) (x:=x) Om;simp only[go_sem,c,CY,w,N,yQ,wZz k,M];exact fin _ Lq _ (by rw[y,e]; simp only[go_sem])
 ·have c:¬ (k:Int)<(row.length:Nat):=Om;have:k=row.length:=Om;subst this;simp only[go_sem,c,aVP];exact Up.up Lq U
theorem asD {C:Ctx} (L:anN C) (f:aD) (w:f.Ok) (l:List (List Int)) (u:oE l) :
  FO.wp C (aU R6.res (bX (ints (SM f l)))) (PF.args [.agg f.cells,lay l]) .nil:=by
 simp only[go_sem,FO,Cm,Cn,R6];refine aA (L.valid f w) rfl ?_;unfold SM;cases y:dJ f with
 | false =>simp only[go_sem,aVG,Cp];exact Rs rfl
 | true =>
  have A:=(VF.of y).small.aTC;have e:(f.aTC.length:Int)*((8:Nat):Int)≤140737488355328:=Om;have p:(f.aTC.length:Int)≤9223372036854775807:=Om;simp only[go_sem,aUW,Cq,aUN,e,p];refine aO fun o B=>?_;simp only[go_sem,Cr];refine wp_loop (α:=Nat) (fun i=>((((PF.nil.set 1 (lay l)).set 2 (.bL f.cells)).set 5 (.osl o 1 0 f.aTC.length)).set 6 (.int .i64 i))) (fun i=>PH.nil.set o (.rows 1 (aW (dU f.aTC.length (l.take i).flatten)))) (fun i=>i≤l.length) (fun i=>l.length-i) 0 (aUT _) Lq (e_ a_ (by rw[aXW,List.flatten_nil,ai,oV]; simp only[go_sem])) ?_;intro i hi;simp only[go_sem,oc,Cs,aUN];have x:=u.rows;by_cases hlt:i<l.length
  ·have c:(i:Int)<(l.length:Nat):=Om;simp only[go_sem,c,Ct];have d:=asC (C:=C) f l u o i hlt;simp only[aC.wp,go_sem] at d;refine d _ _ _ Lq b_ ?_;simp only[go_sem,oe,wZz i];exact aG (i+1) hlt Om Lq b_
  ·have c:¬ (i:Int)<(l.length:Nat):=Om;have:i=l.length:=Om;subst this;simp only[go_sem,c,og,aVP];refine d6 (.inr rfl) (o:=o) (s:=1) (k:=f.aTC.length) (rs:=aW (dU f.aTC.length l.flatten)) rfl Sq (by rw[cV,jA]; omega) ⟨?_,rfl⟩;rw[kc,aVI (by rw[cV,jA]; omega),fW];exact .refl _



theorem awH {C:Ctx} (l:List Int) (e:Fits l):JD.wp C (aU aiC.res (aI (.bool true))) (PF.args [ints l,ints l]) .nil:=by
 have i:l.length≤9223372036854775807:=e;simp only[go_sem,JD,J5,J6,aiC,aUN,cA (show (l.length:Int)=(l.length:Nat) from rfl),J7];refine wp_loop (α:=Nat) (fun k=>(((PF.nil.set 0 (ints l)).set 1 (ints l)).set 5 (.int .i64 k))) (fun _=>.nil) (fun k=>k≤l.length) (fun k=>l.length-k) 0 (aUT _) Lq a_ ?_;intro k p;simp only[go_sem,J4,J8,aUN];by_cases hlt:k<l.length
 ·have c:(k:Int)<(l.length:Nat):=Om;have d:(l.map fun x=>[PV.int .i64 x])[k]?=some [.int .i64 l[k]]:=by simp[hlt]
  simp only[go_sem,c];refine bS .nil dT a_ ?_;simp only[go_sem,J9,d,cA (show l[k]=l[k] from rfl),Ka,wZz k];exact aG (k+1) hlt Om Lq b_
 ·have c:¬ (k:Int)<(l.length:Nat):=Om;simp only[go_sem,c,Kb];refine aR (.inr rfl) rfl ?_;rfl




def Xr:Rg:=[iA 3 (.box true (Tm 0)),iA 4 (.box true (Tm 1)),iT 6 false]
def Xs:Rg:=[iF 15 2 3,iL 16 15,iN 17 16,iA 18 (.aTK 1 1 [zB] (Tm 17) (Tm 17)),iM 7 18]
def Xt:Rg:=[iF 19 9 4,iL 20 19,iN 21 20,iI 22 0]
def Xu:Rg:=[iB 23 .lss 22 21]
def Xv:Rg:=[iX 24 1 20 22,iL 25 24,iM 9 25]
def Xw:Rg:=[iM 26 7,iM 27 9,iX 28 1 26 27,⟨none,.store 1 (Tm 28) (.const (.bool true)),none⟩]
def Xx:Rg:=[iC 29 .add 22 1,iM 22 29]
def Xq:aC:=(sq Xu (.seq (.cond (Tm 23) .skip (.exit 0)) (.seq (.block 1 (sq Xv (.region Xw))) (.region Xx))))
def Xy:Rg:=[iF 30 3 3,iL 31 30,iN 32 31,iA 33 (.aTK 1 8 [zI] (Tm 32) (Tm 32)),iM 10 33]
def Xz:Rg:=[iM 34 2,iN 35 34,iI 36 0]
def IH:Rg:=[iB 37 .lss 36 35]
def ZX:Rg:=[iX 38 1 34 36,iL 39 38,iM 12 39]
def ZY:Rg:=[iM 40 7,iF 41 4 3,iL 42 41,iM 43 12,iX 44 3 42 43,iF 45 1 44,iL 46 45,iX 47 1 40 46,iL 48 47,iA 49 (.un .not (Tm 48))]
def Iq:Rg:=[iT 6 false]
def Ir:Rg:=[iF 50 4 3,iL 51 50,iM 52 12,iX 53 3 51 52,iF 54 2 53,iL 55 54,iM 13 55]
def Is:Rg:=[iM 56 13,iC 57 .gtr 56 0]
def It:Rg:=[iM 64 10,iM 65 13,iX 66 1 64 65,iL 67 66,iC 68 .add 67 1,iX 69 1 64 65,iS 1 69 68]
def Iu:Rg:=[iF 70 3 3,iL 71 70,iM 72 13,iX 73 7 71 72,iF 74 1 73,iL 75 74,iF 76 4 4,iA 77 (.idxA 5 1 (Tm 76) (Tm 75)),iL 78 77,iM 14 78]
def II:Rg:=[iM 79 14,iC 80 .gtr 79 0,iM 81 80,gM 82 10 81 true,gM 83 13 81 true,iG 84 (.aTT 1 (Tm 82) (Tm 83)) 81 true,gL 85 84 81 true,gM 86 14 81 true,gB 87 .gtr 85 86 81 true,iP 88 81 87]
def Iv:Rg:=[iT 6 false]
def ZZ:Rg:=[iF 58 3 3,iL 59 58,iM 60 13,iX 61 7 59 60,iF 62 2 61,iL 63 62,iM 13 63]
def ZW:aC:=(.seq (sq Is (.cond (Tm 57) .skip (.exit 4))) (.seq (.block 5 (sq It (sq Iu (sq II (.cond (Tm 88) (sq Iv .ret) .skip))))) (.region ZZ)))
def Iw:Rg:=[iC 89 .add 36 1,iM 36 89]
def AH:aC:=(sq IH (.seq (.cond (Tm 37) .skip (.exit 2)) (.seq (.block 3 (sq ZX (.seq (sq ZY (.cond (Tm 49) (sq Iq .ret) .skip)) (sq Ir (.block 4 (.loop ZW)))))) (.region Iw))))
def Ix:Rg:=[iT 6 true]
def QT:aC:=(sq Xr (sq Xs (.seq (sq Xt (.block 0 (.loop Xq))) (sq Xy (.seq (sq Xz (.block 2 (.loop AH))) (sq Ix .ret))))))
def aEI:List Nat:=[3,4]
def avG:aZ:=⟨3,90,QT,[.tmp 6]⟩
def X1:Rg:=[iT 6 false]
def X2:Rg:=[iM 9 0,iN 10 9,iI 11 0]
def th:Rg:=[iB 12 .lss 11 10]
def X3:Rg:=[iM 13 11,iX 14 1 9 11,iL 15 14,iM 7 13,iM 8 15]
def zF:Rg:=[iM 16 8,iC 17 .lss 16 0,iM 18 17,gM 19 8 18 false,gM 20 2 18 false,gB 21 .geq 19 20 18 false,iQ 22 18 21,iM 23 22,gM 24 7 23 false,gC 25 .gtr 24 0 23 false,gM 26 25 23 false,gM 27 0 26 true,gM 28 7 26 true,gC 29 .sub 28 1 26 true,iG 30 (.aTT 1 (Tm 27) (Tm 29)) 26 true,gL 31 30 26 true,gM 32 8 26 true,gB 33 .geq 31 32 26 true,iG 34 (.pick (Tm 26) (Tm 33) (.const zB)) 23 false,iQ 35 23 34]
def VZ:Rg:=[iT 6 false]
def ti:Rg:=[iC 36 .add 11 1,iM 11 36]
def tg:aC:=(sq th (.seq (.cond (Tm 12) .skip (.exit 0)) (.seq (.block 1 (sq X3 (sq zF (.cond (Tm 35) (sq VZ .ret) .skip)))) (.region ti))))
def X4:Rg:=[iM 37 0,iN 38 37,iM 39 1,iB 40 .eql 38 39,iM 6 40]
def QW:aC:=(sq X1 (.seq (sq X2 (.block 0 (.loop tg))) (sq X4 .ret)))
def aEM:List Nat:=[]
def avJ:aZ:=⟨3,41,QW,[.tmp 6]⟩
def xl:Rg:=[iA 2 (.box true (Tm 0)),iT 4 false]
def xm:Rg:=[iO 5 7 2,iK 6 96 5,iC 7 .eql 6 0,iM 8 7,gM 9 1 8 true,gC 10 .geq 9 0 8 true,iP 11 8 10,iM 12 11,gM 13 1 12 true,gF 14 5 2 12 true,gL 15 14 12 true,gN 16 15 12 true,gB 17 .lss 13 16 12 true,iP 18 12 17,iM 4 18]
def DY:aC:=(sq xl (sq xm .ret))
def aoC:List Nat:=[2]
def I1:aZ:=⟨2,19,DY,[.tmp 4]⟩
def xb:Rg:=[iA 3 (.box true (Tm 0)),iT 6 false]
def xc:Rg:=[iO 8 7 3,iM 9 1,iK2 10 203 8 9,iA 11 (.un .not (Tm 10))]
def xd:Rg:=[iT 6 false]
def xe:Rg:=[iF 12 5 3,iL 13 12,iM 14 1,iX 15 17 13 14,iO 16 17 15,iA 7 (.alloc [(.str []),zI,zI,zI,zI,zI,zI,zI,zI,.aB,.aB,zB,.aB,.aB,zB,.aB,.aB]),iS 17 7 16]
def xf:Rg:=[iM 17 2,iF 18 1 7,iL 19 18,iF 20 2 7,iL 21 20,iB 22 .add 19 21,iF 23 4 3,iL 24 23,iN 25 24,iA 26 (.call 202 [(Tm 17),(Tm 22),(Tm 25)]),iM 27 26,gO 28 7 3 27 true,gO 29 17 7 27 true,gM 30 2 27 true,iG 31 (.call 201 [(Tm 28),(Tm 29),(Tm 30)]) 27 true,iP 32 27 31,iM 6 32]
def DW:aC:=(sq xb (.seq (sq xc (.cond (Tm 11) (sq xd .ret) .skip)) (sq xe (sq xf .ret))))
def anX:List Nat:=[3]
def Iy:aZ:=⟨3,33,DW,[.tmp 6]⟩
def xg:Rg:=[iA 2 (.box true (Tm 0)),iZ 4,iI 5 0]
def xh:Rg:=[iO 7 7 2,iM 8 1,iK2 9 203 7 8,iA 10 (.un .not (Tm 9)),iM 6 10]
def xi:Rg:=[iZ 4,iI 5 1]
def QU:Rg:=[iF 12 4 2,iL 13 12,iN 14 13,iC 15 .gtr 14 12,iM 11 15]
def xj:Rg:=[iZ 4,iI 5 2]
def xk:Rd:=[(iO 16 7 2,false),(iF 17 5 2,false),(iL 18 17,false),(iM 19 1,false),(iX 20 17 18 19,false),(iO 21 17 20,false),(iK2 22 229 16 21,true),(iM 4 22,false),(iI 5 0,false)]
def DX:aC:=(sq xg (.seq (.block 0 (sq xh (.cond (Tm 6) (sq xi .ret) (sq QU (.cond (Tm 11) (sq xj .ret) .skip))))) (dq xk .ret)))
def anZ:List Nat:=[2]
def call17:aZ:=⟨2,23,DX,[.tmp 4,.tmp 5]⟩
def yc:Rg:=[iA 2 (.box true (Tm 0)),iZ 4]
def yd:Rg:=[iZ 5]
def ye:Rg:=[iM 13 1,iC 14 .eql 13 5]
def yf:Rg:=[iF 15 4 2,iL 16 15,iN 17 16,iI 18 0]
def yg:Rg:=[iB 19 .lss 18 17]
def yh:Rg:=[iM 20 18,iM 6 20]
def yi:Rg:=[iM 21 5,iM 22 6,iA 23 (.aTI true 1 1 [zI] [(0,(Tm 22))]),iA 24 (.aTI true 1 1 [.aB] [(0,(Tm 23))]),iA 25 (.append 1 24 (Tm 21) (Tm 24)),iM 5 25]
def yj:Rg:=[iC 26 .add 18 1,iM 18 26]
def yb:aC:=(sq yg (.seq (.cond (Tm 19) .skip (.exit 0)) (.seq (.block 1 (sq yh (.region yi))) (.region yj))))
def yk:Rg:=[iM 27 5,iM 4 27]
def iz:Rg:=[iF 28 3 2,iL 29 28,iN 30 29,iA 31 (.aTK 1 8 [zI] (Tm 30) (Tm 30)),iM 7 31]
def i0:Rg:=[iF 32 3 2,iL 33 32,iN 34 33,iI 35 0]
def i4:Rg:=[iB 36 .lss 35 34]
def i5:Rg:=[iM 37 35,iX 38 7 33 35,iO 39 7 38,iA 9 (.alloc [(.str []),zI,zI,zI,zB,.aB,.aB]),iM 8 37,iS 7 9 39]
def i6:Rg:=[iF 40 1 9,iL 41 40,iM 42 1,iB 43 .eql 41 42]
def i7:Rg:=[iM 44 7,iM 45 8,iM 46 5,iN 47 46,iX 48 1 44 45,iS 1 48 47]
def i8:Rg:=[iM 49 5,iA 50 (.aTI true 1 1 [.aB] [(0,(.const .aB))]),iA 51 (.append 1 24 (Tm 49) (Tm 50)),iM 5 51]
def IT:Rg:=[iC 52 .add 35 1,iM 35 52]
def ix:aC:=(sq i4 (.seq (.cond (Tm 36) .skip (.exit 2)) (.seq (.block 3 (sq i5 (sq i6 (.cond (Tm 43) (sq i7 (.region i8)) .skip)))) (.region IT))))
def i9:Rg:=[iF 53 4 2,iL 54 53,iN 55 54,iI 56 0]
def ja:Rg:=[iB 57 .lss 56 55]
def jb:Rg:=[iM 58 56,iX 59 3 54 56,iO 60 3 59,iA 11 (.alloc [(.str []),zI,zI]),iM 10 58,iS 3 11 60]
def jc:Rg:=[iF 61 2 11,iL 62 61,iM 12 62]
def IU:Rg:=[iF 63 3 2,iL 64 63,iM 65 12,iX 66 7 64 65,iF 67 1 66,iL 68 67,iM 69 1,iB 70 .gtr 68 69]
def jd:Rg:=[iF 71 3 2,iL 72 71,iM 73 12,iX 74 7 72 73,iF 75 2 74,iL 76 75,iM 12 76]
def xS:aC:=(.seq (sq IU (.cond (Tm 70) .skip (.exit 6))) (.block 7 (.region jd)))
def je:Rd:=[(iM 77 5,true),(iM 78 7,true),(iM 79 12,true),(iX 80 1 78 79,true),(iL 81 80,true),(iM 82 5,false),(iM 83 7,false),(iM 84 12,false),(iX 85 1 83 84,false),(iL 86 85,false),(iX 87 1 82 86,false),(iL 88 87,false),(iM 89 10,false),(iA 90 (.aTI true 1 1 [zI] [(0,(Tm 89))]),false),(iA 91 (.append 1 8 (Tm 88) (Tm 90)),true),(iX 92 1 77 81,false)]
def jf:Rd:=[(iS 1 92 91,true)]
def jg:Rg:=[iC 93 .add 56 1,iM 56 93]
def iy:aC:=(sq ja (.seq (.cond (Tm 57) .skip (.exit 4)) (.seq (.block 5 (sq jb (sq jc (.seq (.block 6 (.loop xS)) (dq je (.draw jf)))))) (.region jg))))
def jh:Rg:=[iM 94 5,iM 4 94]
def EA:aC:=(sq yc (sq yd (.seq (sq ye (.cond (Tm 14) (.seq (sq yf (.block 0 (.loop yb))) (sq yk .ret)) .skip)) (sq iz (.seq (sq i0 (.block 2 (.loop ix))) (.seq (sq i9 (.block 4 (.loop iy))) (sq jh .ret)))))))
def aoH:List Nat:=[2,23,24,50,90]
def Jr:aZ:=⟨2,95,EA,[.tmp 4]⟩
def gw:Rg:=[iI 4 0]
def gx:Rg:=[iI 5 1]
def gy:Rg:=[iI 6 0]
def gz:Rg:=[iM 7 6,iM 8 1,iB 9 .lss 7 8]
def ia:Rg:=[iM 12 5,iM 13 0,iM 14 6,iB 15 .sub 13 14,iB 16 .mul 12 15,iM 17 6,iC 18 .add 17 1,iB 19 .quo 16 18,iM 5 19]
def ib:Rg:=[iM 10 6,iC 11 .add 10 1,iM 6 11]
def gv:aC:=(.seq (sq gz (.cond (Tm 9) .skip (.exit 0))) (.seq (.block 1 (.region ia)) (.region ib)))
def ic:Rg:=[iM 20 5,iA 21 (.aTX true (Tm 20) (Ci 0)),iM 4 21]
def AI:aC:=(sq gw (sq gx (.seq (sq gy (.block 0 (.loop gv))) (sq ic .ret))))
def ahN:List Nat:=[]
def tj:aZ:=⟨2,22,AI,[.tmp 4]⟩
def I2:Rg:=[iI 6 0]
def I3:Rg:=[iI 7 0]
def I4:Rg:=[iM 14 0,iN 15 14,iI 16 0]
def aa:Rg:=[iB 17 .lss 16 15]
def I5:Rg:=[iX 18 1 14 16,iL 19 18,iM 9 19]
def I6:Rg:=[iI 10 0,iI 11 0]
def I7:Rg:=[iM 20 9,iN 21 20,iI 22 0]
def ac:Rg:=[iB 23 .lss 22 21]
def I8:Rg:=[iX 24 1 20 22,iL 25 24,iM 13 25]
def IL:Rg:=[iM 26 11,iM 27 1,iN 28 27,iB 29 .lss 26 28,iM 30 29,gM 31 1 30 true,gM 32 11 30 true,iG 33 (.aTT 1 (Tm 31) (Tm 32)) 30 true,gL 34 33 30 true,gM 35 13 30 true,gB 36 .lss 34 35 30 true,iP 37 30 36]
def xn:Rg:=[iM 38 11,iC 39 .add 38 1,iM 11 39]
def wT:aC:=(.seq (sq IL (.cond (Tm 37) .skip (.exit 4))) (.block 5 (.region xn)))
def BU:Rg:=[iM 40 11,iM 41 1,iN 42 41,iB 43 .lss 40 42,iM 44 43,gM 45 1 44 true,gM 46 11 44 true,iG 47 (.aTT 1 (Tm 45) (Tm 46)) 44 true,gL 48 47 44 true,gM 49 13 44 true,gB 50 .eql 48 49 44 true,iP 51 44 50]
def xo:Rg:=[iM 52 10,iC 53 .add 52 1,iM 10 53]
def BV:Rg:=[iC 54 .add 22 1,iM 22 54]
def BT:aC:=(sq ac (.seq (.cond (Tm 23) .skip (.exit 2)) (.seq (.block 3 (sq I8 (.seq (.block 4 (.loop wT)) (sq BU (.cond (Tm 51) (.region xo) .skip))))) (.region BV))))
def QZ:Rg:=[iM 55 10,iM 56 2,iB 57 .gtr 55 56]
def xp:Rg:=[iM 58 7,iC 59 .add 58 1,iM 7 59]
def RA:Rg:=[iC 60 .add 16 1,iM 16 60]
def QY:aC:=(sq aa (.seq (.cond (Tm 17) .skip (.exit 0)) (.seq (.block 1 (sq I5 (sq I6 (.seq (sq I7 (.block 2 (.loop BT))) (sq QZ (.cond (Tm 57) (.region xp) .skip)))))) (.region RA))))
def xq:Rg:=[iM 61 7,iM 6 61]
def IK:aC:=(sq I2 (sq I3 (.seq (sq I4 (.block 0 (.loop QY))) (sq xq .ret))))
def avO:List Nat:=[]
def ahO:aZ:=⟨3,62,IK,[.tmp 6]⟩
def ik:Rg:=[iA 4 (.box true (Tm 0)),iA 7 (.box true (Tm 3)),iI 8 0,iI 9 0]
def im:Rg:=[iO 13 7 4,iO 14 2 7,iK2 15 230 13 14,iM 12 15,iE 16 12 0,iE 17 12 1,iM 10 16,iM 11 17]
def IM:Rg:=[iM 19 11,iC 20 .neq 19 0,iM 18 20]
def io:Rg:=[iM 21 11,iI 8 0,iM 9 21]
def ip:Rg:=[iO 23 7 4,iM 24 1,iM 25 2,iA 26 (.call 204 [(Tm 23),(Tm 24),(Tm 25)]),iA 27 (.un .not (Tm 26)),iM 22 27]
def iq:Rg:=[iI 8 0,iI 9 1]
def ir:Rg:=[iM 28 10,iM 29 2,iF 30 5 4,iL 31 30,iM 32 1,iX 33 17 31 32,iF 34 2 33,iL 35 34,iA 36 (.call 208 [(Tm 28),(Tm 29),(Tm 35)]),iM 8 36,iI 9 0]
def AJ:aC:=(sq ik (sq im (.seq (.block 0 (sq IM (.cond (Tm 18) (sq io .ret) (sq ip (.cond (Tm 22) (sq iq .ret) .skip))))) (sq ir .ret))))
def ahR:List Nat:=[4,7]
def tk:aZ:=⟨4,37,AJ,[.tmp 8,.tmp 9]⟩
def Jp:Rg:=[iA 2 (.box false (Tm 0)),iA 3 (.box false (Tm 1)),iA 4 (.mv (.const (.lit .nilFunc)))]
def Jq:Rg:=[iA 5 (.mkfn 211 [(Tm 2),(Tm 3)]),iM 4 5]
def IS:aC:=(sq Jp (sq Jq .ret))
def avY:List Nat:=[]
def ahY:aZ:=⟨2,6,IS,[.tmp 4]⟩
def yl:Rg:=[iL 8 1,iL 9 2,iB 10 .gtr 8 9]
def ym:Rg:=[iL 11 1,iA 12 (.aTK 1 8 [zI] (Tm 11) (Tm 11)),iM 4 12]
def yn:Rg:=[iM 13 4,iN 14 13,iI 15 0]
def yo:Rg:=[iB 16 .lss 15 14]
def yq:Rg:=[iM 17 15,iM 5 17]
def yr:Rg:=[iM 18 4,iM 19 5,iM 20 5,iX 21 1 18 19,iS 1 21 20]
def yu:Rg:=[iC 22 .add 15 1,iM 15 22]
def RL:aC:=(sq yo (.seq (.cond (Tm 16) .skip (.exit 0)) (.seq (.block 1 (sq yq (.region yr))) (.region yu))))
def RM:Rg:=[iM 23 0,iM 24 4,iA 25 (.append 1 8 (.const .aB) (Tm 24)),iA 26 (.aUE (Tm 23) [(Tm 25)])]
def RN:Rg:=[iL 27 1,iC 28 .sub 27 1,iM 6 28]
def tL:Rd:=[(iM 29 6,false),(iC 30 .geq 29 0,false),(iM 31 30,false),(gM 32 4 31 true,false),(gM 33 6 31 true,false),(iG 34 (.aTT 1 (Tm 32) (Tm 33)) 31 true,false),(gL 35 34 31 true,false),(gL 36 2 31 true,false),(gL 37 1 31 true,false),(gB 38 .sub 36 37 31 true,false),(gM 39 6 31 true,false),(gB 40 .add 38 39 31 true,false),(gB 41 .eql 35 40 31 true,false),(iP 42 31 41,false)]
def IV:Rg:=[iM 43 6,iC 44 .sub 43 1,iM 6 44]
def xT:aC:=(.seq (dq tL (.cond (Tm 42) .skip (.exit 4))) (.block 5 (.region IV)))
def xV:Rg:=[iM 45 6,iC 46 .lss 45 0]
def IW:Rg:=[iM 47 4,iM 48 6,iX 49 1 47 48,iL 50 49,iC 51 .add 50 1,iX 52 1 47 48,iS 1 52 51]
def IX:Rg:=[iM 53 6,iC 54 .add 53 1,iM 7 54]
def xW:Rg:=[iM 55 7,iL 56 1,iB 57 .lss 55 56]
def IY:Rg:=[iM 60 4,iM 61 7,iM 62 4,iM 63 7,iC 64 .sub 63 1,iX 65 1 62 64,iL 66 65,iC 67 .add 66 1,iX 68 1 60 61,iS 1 68 67]
def IZ:Rg:=[iM 58 7,iC 59 .add 58 1,iM 7 59]
def xU:aC:=(.seq (sq xW (.cond (Tm 57) .skip (.exit 6))) (.seq (.block 7 (.region IY)) (.region IZ)))
def ji:aC:=(.seq (sq RM (.cond (Tm 26) .skip (.exit 2))) (.block 3 (sq RN (.seq (.block 4 (.loop xT)) (.seq (sq xV (.cond (Tm 46) .ret .skip)) (sq IW (sq IX (.block 6 (.loop xU)))))))))
def EB:aC:=(.seq (sq yl (.cond (Tm 10) .ret .skip)) (sq ym (.seq (sq yn (.block 0 (.loop RL))) (.block 2 (.loop ji)))))
def aoK:List Nat:=[]
def Js:aZ:=⟨1,69,EB,[]⟩
def Kd:Rg:=[iT 4 false]
def Ke:Rg:=[iM 6 0,iN 7 6,iM 8 1,iN 9 8,iB 10 .neq 7 9]
def awP:Rg:=[iT 4 false]
def Kf:Rg:=[iI 5 0]
def Kg:Rg:=[iM 11 5,iM 12 0,iN 13 12,iB 14 .lss 11 13]
def Kh:Rd:=[(iM 17 0,false),(iM 18 5,false),(iX 19 1 17 18,false),(iL 20 19,false),(iM 21 1,false),(iM 22 5,false),(iX 23 1 21 22,false),(iL 24 23,false),(iK2 25 94 20 24,true),(iA 26 (.un .not (Tm 25)),false)]
def awQ:Rg:=[iT 4 false]
def Ki:Rg:=[iM 15 5,iC 16 .add 15 1,iM 5 16]
def Kc:aC:=(.seq (sq Kg (.cond (Tm 14) .skip (.exit 0))) (.seq (.block 1 (dq Kh (.cond (Tm 26) (sq awQ .ret) .skip))) (.region Ki)))
def Kj:Rg:=[iT 4 true]
def JF:aC:=(sq Kd (.seq (sq Ke (.cond (Tm 10) (sq awP .ret) .skip)) (.seq (sq Kf (.block 0 (.loop Kc))) (sq Kj .ret))))
def awR:List Nat:=[]
def aiF:aZ:=⟨2,27,JF,[.tmp 4]⟩
def dP (n:Nat):Nat→Nat→List (List Nat)
 | 0,_=>[[]]
 | k+1,a=>(aWP a (n-k-a)).flatMap fun i=>(dP n k (i+1)).map (i::·)
def nH (n:Nat):List Nat→Option (List Nat)
 | []=>none
 | x::t=>match nH n t with
  | some u=>some (x::u)
  | none=>if x+1+t.length=n then none else some (aWP (x+1) (t.length+1))
theorem A2 {n:Nat}:∀ {s u:List Nat},nH n s=some u→u.length=s.length
 | [],_,h=>by cases h
 | x::t,u,h=>by
  rw[nH] at h;split at h
  ·rename_i v c;cases h;simp[A2 c]
  ·split at h
   ·cases h
   ·cases h;simp
inductive oG (n:Nat):List Nat→List (List Nat)→Prop
 | last {s:List Nat} (h:nH n s=none):oG n s [s]
 | step {s t:List Nat} {l:List (List Nat)} (h:nH n s=some t) (w:oG n t l):oG n s (s::l)
theorem oG.map {n x k:Nat} {rest:List (List Nat)} (e:(x+1+k=n∧rest=[])∨(x+1+k≠n∧oG n (aWP (x+1) (k+1)) rest)) {t:List Nat} {l:List (List Nat)} (w:oG n t l) (c:t.length=k):oG n (x::t) (l.map (x::·)++rest):=by
 induction w with
 | @last s h =>
  rcases e with ⟨d,rfl⟩ | ⟨d,h2⟩
  ·exact .last (by rw[nH,h]; simp only; rw[if_pos (by rw[c]; exact d)])
  ·exact .step (by rw[nH,h]; simp only; rw[if_neg (by rw[c]; exact d),c]) h2
 | @step s t l h _ i=>exact .step (by rw[nH,h]) (i (by rw[A2 h,c]))
theorem VP (n:Nat):∀ (k a:Nat),a+k≤n→oG n (aWP a k) (dP n k a)
 | 0,a,_=>.last rfl
 | k+1,a,h=>by
  rw[dP];obtain⟨m,d⟩:∃ m,n-k-a=m+1:=⟨n-k-a-1,by omega⟩;rw[d];clear h
  induction m generalizing a with
  | zero =>have:=oG.map (n:=n) (x:=a) (k:=k) (rest:=[]) (.inl ⟨by omega,rfl⟩) (VP n k (a+1) Om) List.length_range';rw[List.range'_succ (n:=0),List.flatMap_cons];exact this
  | succ m e =>rw[List.range'_succ (n:=m+1),List.flatMap_cons];have c:=e (a+1) Om;exact oG.map (.inr ⟨by omega,c⟩) (VP n k (a+1) Om) List.length_range'
theorem LW {n:Nat}:∀ {s:List Nat},(∀ i (h:i<s.length),s[i]+s.length=n+i)→nH n s=none
 | [],_=>rfl
 | x::t,h=>by rw[nH,LW (s:=t) fun i hi=>by have:=h (i+1) (by simpa using hi);simp only[List.getElem_cons_succ,aWH] at this;omega];have c:=h 0 (by simp);simp only[List.getElem_cons_zero,aWH] at c;simp only;rw[if_pos Om]
theorem Qd {n:Nat}:∀ {s:List Nat} (i:Nat) (hi:i<s.length),(∀ j (h:j<s.length),i<j→s[j]+s.length=n+j)→s[i]+s.length≠n+i→nH n s=some (s.take i++aWP (s[i]+1) (s.length-i))
 | [],i,hi,_,_=>by cases hi
 | x::t,0,_,h,c=>by rw[nH,LW (s:=t) fun i hi=>by have:=h (i+1) (by simpa using hi) Om;simp only[List.getElem_cons_succ,aWH] at this;omega];simp only[List.getElem_cons_zero,aWH] at c ⊢;rw[if_neg Om];rfl
 | x::t,i+1,hi,h,c=>by
  have d:i<t.length:=by simpa using hi
  simp only[List.getElem_cons_succ,aWH] at c;rw[nH,Qd (s:=t) i d (fun j l e=>by have:=h (j+1) (by simpa using l) Om;simp only[List.getElem_cons_succ,aWH] at this;omega) Om];simp only[List.getElem_cons_succ,aWH,List.take_succ_cons,List.cons_append];rw[show t.length+1-(i+1)=t.length-i by omega]
theorem BF (n:Nat):∀ (k a:Nat),∀ s∈dP n k a,s.length=k∧(∀ x∈s,a≤x∧x<n)∧s.Pairwise (· < ·)
 | 0,a,s,h=>by rw[dP,aWV] at h;subst h;exact⟨rfl,(fun x hx=>by cases hx),.nil⟩
 | k+1,a,s,h=>by
  rw[dP,List.mem_flatMap] at h;obtain⟨i,hi,h⟩:=h;rw[aVQ] at h;obtain⟨t,l,rfl⟩:=h;rw[List.mem_range'_1] at hi;obtain⟨d,c,e⟩:=BF n k (i+1) t l;refine⟨by simp[d],fun x hx=>?_,List.pairwise_cons.2 ⟨fun y p=>by have:=(c y p).1; omega,e⟩⟩;rcases aVC.1 hx with rfl | hx
  ·omega
  ·have:=c x hx; omega
theorem NO (n:Nat):∀ (k a:Nat),(dP n k a).length≤2 ^ (n-a)
 | 0,a=>by rw[dP]; exact Nat.one_le_two_pow
 | k+1,a=>by
  rw[dP];have c:∀ (m a:Nat),m+a≤n→((aWP a m).flatMap fun i=>(dP n k (i+1)).map (i::·)).length+2 ^ (n-a-m)≤2 ^ (n-a):=by
   intro m
   induction m with
   | zero=>intro a _; simp
   | succ m d =>
    intro a h;rw[List.range'_succ,List.flatMap_cons,aUS,aUN];have e:=NO n k (a+1);have l:=d (a+1) Om;rw[show n-a-(m+1)=n-(a+1)-m by omega];have p:2 ^ (n-a)=2 ^ (n-(a+1))+2 ^ (n-(a+1)):=by rw[show n-a=(n-(a+1))+1 by omega,aWL]; omega
    omega
  rcases aVL n a with h | h
  ·rw[show n-k-a=0 by omega]; simp
  ·exact aWE (Nat.le_add_right _ _) (c (n-k-a) a Om)
def kD (f:aD) (p:bT) (set:List Int):Bool:=(aUO f.aTF.length).all fun i=>!(decide (dN f p i>0)&&decide (eK f set i>dN f p i))
def rJ (f:aD) (p:bT) (d:Int):Bool:=p.aTD.contains ((mdl f d.toNat:Nat):Int)
def nB (f:aD) (p:bT) (set:List Int):Bool:=set.all (rJ f p)&&kD f p set
def mP (set:List Int) (top:Int) (i:Nat):Bool:=(decide (0≤set.getD i 0)&&decide (set.getD i 0<top))&&(decide (i=0)||decide (set.getD (i-1) 0<set.getD i 0))
def nM (set:List Int) (n top:Int):Bool:=decide ((set.length:Int)=n)&&(aUO set.length).all (mP set top)
def kC (f:aD) (aTO:Int):bT:=f.aTG.getD aTO.toNat aDQ
def pJ (p:bT):Int:=p.k+p.m
def jZ (f:aD) (aTO:Int):Bool:=dJ f&&(decide (0≤aTO)&&decide (aTO<f.aTG.length))
def pC (f:aD) (aTO:Int) (set:List Int):Bool:=jZ f aTO&&(nM set (pJ (kC f aTO)) f.aTC.length&&nB f (kC f aTO) set)
def cH (s:List Nat):List Int:=s.map fun (x:Nat)=>(x:Int)
def uH (f:aD) (p:bT):List (List Int):=((dP f.aTC.length (pJ p).toNat 0).map cH).filter (nB f p)
def iR (f:aD) (level:Int):List (List Int) :=
 if level=5 then (aUO f.aTC.length).map fun (d:Nat)=>[(d:Int)]
 else ((aUO f.aTF.length).filter fun i=>decide (lvl f i=level)).map fun i=>cH ((aUO f.aTC.length).filter fun d=>decide (cU f d level=i))
def fA (m:Int):Nat→Int
 | 0=>1
 | i+1=>Int.tdiv (fA m i*(m-i)) (i+1)
def qJ (u:List (List Int)) (s:List Nat) (d:Nat):Bool:=s.any fun i=>(u.getD i []).contains (d:Int)
def rW (f:aD) (u:List (List Int)) (c:Nat):List (List Int):=(dP u.length c 0).map fun s=>cH ((aUO f.aTC.length).filter (qJ u s))
def mD (s set:List Int):Nat:=set.countP fun d=>s.contains d
def CM (sc:List (List Int)) (set:List Int) (m:Int):Nat:=sc.countP fun s=>decide (((mD s set:Nat):Int)>m)
theorem xa:∀ {s t:List Int},s.Nodup→t.Nodup→mD s t=mD t s
 | [],t,_,_=>by simp[mD]
 | d::s,t,u,w=>by
  obtain⟨B,E⟩:=List.nodup_cons.1 u;have l:=xa E w;unfold mD at l ⊢;rw[aXZ,← l];clear l u
  induction t with
  | nil=>simp
  | cons x t p =>
   obtain⟨k1,k2⟩:=List.nodup_cons.1 w;have:=p k2;rw[aXZ,aXZ,this];by_cases e:x=d
   ·subst e;have c:(x::s).contains x=true:=by simp
    have i:s.contains x=false:=by simpa using B
    have y:t.contains x=false:=by simpa using k1
    have A:(x::t).contains x=true:=by simp
    simp only[c,i,y,A]
   ·have c:(d::s).contains x=s.contains x:=by simp[e]
    have i:(x::t).contains d=t.contains d:=by have:¬ d=x:=fun h=>e h.symm;simp[this]
    rw[c,i];omega
def eF (set:List Int) (d:Int):Nat:=(set.takeWhile fun x=>decide (x<d)).length
theorem v6 (set:List Int) (d:Int):eF set d≤set.length:=(List.takeWhile_prefix _).length_le
theorem NG (set:List Int) (d:Int) {i:Nat} (h:i<eF set d):set[i]'(Nat.lt_of_lt_of_le h (v6 set d))<d:=by
 have w:=List.takeWhile_prefix (p:=fun x=>decide (x<d)) (l:=set);have e:(set.takeWhile fun x=>decide (x<d))[i]∈set.takeWhile fun x=>decide (x<d):=aUQ h;have u:=List.all_takeWhile (p:=fun x=>decide (x<d)) (l:=set);have c:=aVD.1 u _ e;rw[w.getElem h] at c;exact of_decide_eq_true c
theorem acX (set:List Int) (d:Int) (h:eF set d<set.length):¬ set[eF set d]<d:=by
 induction set with
 | nil=>simp at h
 | cons x t i =>
  by_cases c:x<d
  ·have e:eF (x::t) d=eF t d+1:=by simp[eF,List.takeWhile_cons,c]
   simp only[e,List.getElem_cons_succ];exact i (by rw[e] at h; simpa using h)
  ·have e:eF (x::t) d=0:=by simp[eF,List.takeWhile_cons,c]
   simp only[e,List.getElem_cons_zero];exact c
theorem aAR {set:List Int} (u:set.Pairwise (· < ·)) (d:Int):set.contains d=(decide (eF set d<set.length)&&decide (set.getD (eF set d) 0=d)):=by
 by_cases h:eF set d<set.length
 ·have w:=acX set d h;rw[decide_eq_true h,aVA,aUY,aVB h,aXH];by_cases e:set[eF set d]=d
  ·rw[decide_eq_true e];simp only[List.contains_iff_mem];exact e ▸ aUQ h
  ·rw[decide_eq_false e];simp only[Bool.eq_false_iff,ne_eq,List.contains_iff_mem];intro p;obtain⟨i,hi,l⟩:=aVX p;rcases Nat.lt_trichotomy i (eF set d) with c | c | c
   ·have:=NG set d c; omega
   ·subst c; exact e l
   ·have:=List.pairwise_iff_getElem.1 u _ _ h hi c;omega
 ·rw[decide_eq_false h,aUV];simp only[Bool.eq_false_iff,ne_eq,List.contains_iff_mem];intro p;obtain⟨i,hi,l⟩:=aVX p;have:=NG set d (i:=i) Om;omega
theorem arW (set:List Int) {d e:Int} (h:d≤e):eF set d≤eF set e:=by
 induction set with
 | nil=>simp[eF]
 | cons x t l =>
  by_cases c:x<d
  ·have i:x<e:=Om;simp only[eF,List.takeWhile_cons,c,i,decide_true,if_true,aWH] at l ⊢;omega
  ·simp[eF,List.takeWhile_cons,c]
theorem azI (a b:List Nat):cH (a++b)=cH a++cH b:=aVT
theorem fZ (a:List Nat):(cH a).length=a.length:=aUN _
theorem zS {a:List Nat} {i:Nat} (h:i<a.length):(aW (cH a))[i]?=some [PV.int .i64 (a[i]:Nat)]:=by
 unfold aW cH;rw[aVN,aVN,aVB h];rfl
theorem c9 (a:List Nat) (i x:Nat):(aW (cH a)).set i [PV.int .i64 (x:Nat)]=aW (cH (a.set i x)):=by
 unfold aW cH;rw[List.map_set,List.map_set]
theorem asH {top n:Nat} (h:top<n):dP top n 0=[]:=by
 cases n with
 | zero=>omega
 | succ n =>rw[dP,show top-n-0=0 by omega];rfl
theorem oG.head {n:Nat} {s:List Nat} {l:List (List Nat)} (h:oG n s l):∃ r,l=s::r:=by
 cases h with
 | last=>exact⟨_,rfl⟩
 | step=>exact⟨_,rfl⟩
def pF (n i:Nat):List Nat:=aWP 0 i++aUR (n-i) 0
theorem aiK (n:Nat):pF n 0=aUR n 0:=by unfold pF; simp
theorem aoV {n i:Nat} (h:i≤n):(pF n i).length=n:=by unfold pF; simp; omega
theorem aiJ (n:Nat):pF n n=aWP 0 n:=by unfold pF; simp
theorem aoW {n i:Nat} (h:i<n):(pF n i).set i i=pF n (i+1):=by
 unfold pF;obtain⟨m,c⟩:∃ m,n-i=m+1:=⟨n-i-1,by omega⟩;rw[c,List.replicate_succ,aXO _ _ (by simp),List.length_range',aXQ,aYB,show n-(i+1)=m by omega,List.range'_concat];simp
def onU (s:List Nat) (j y m:Nat):List Nat:=s.take j++aWP y (m-j)++s.drop m
theorem acO {s:List Nat} {j y m:Nat} (c:j≤m) (d:m≤s.length):(onU s j y m).length=s.length:=by
 unfold onU; simp; omega
theorem aHM {s:List Nat} {j y:Nat} (h:j<s.length):s.set j y=onU s j y (j+1):=by
 unfold onU;rw[List.set_eq_take_append_cons_drop,if_pos h,show j+1-j=1 by omega];simp
theorem azY {s:List Nat} {j y m:Nat} (e:j<m) (d:m≤s.length):∃ h,(onU s j y m)[m-1]'h=y+(m-1-j):=by
 refine⟨by rw[acO Om d]; omega,?_⟩;unfold onU;have c:(s.take j).length=j:=by rw[aVJ]; omega
 rw[aYM (by simp; omega),aYL Om];simp[c]
theorem aHN {s:List Nat} {j y m:Nat} (e:j≤m) (d:m<s.length):(onU s j y m).set m (y+(m-j))=onU s j y (m+1):=by
 unfold onU;have c:(s.take j++aWP y (m-j)).length=m:=by simp; omega
 rw[aXO _ _ Om,c,aXQ,aWM d,aYB,show m+1-j=(m-j)+1 by omega,List.range'_concat];simp
theorem azX {s:List Nat} {j y:Nat}:onU s j y s.length=s.take j++aWP y (s.length-j):=by
 unfold onU; simp
theorem aEN {C:Ctx} {K:bR} [Up K] {n o1 o2 q:Nat} {y:PV} {F:PF} {H:PH} (E:n≤1000) (x:H q=some (.rows 1 (aW (cH (pF n 0))))) (u:(((((((PF.nil.set 0 (y)).set 1 (.ptr o1 1 0 0)).set 2 (.ptr o2 1 0 0)).set 4 (.osl q 1 0 n)).set 14 (.int .i64 n)).set 15 (.int .i64 0))).le F)
  (w:K (.exit 0) (((((PF.nil.set 0 (y)).set 1 (.ptr o1 1 0 0)).set 2 (.ptr o2 1 0 0)).set 4 (.osl q 1 0 n))) (H.set q (.rows 1 (aW (cH (aWP 0 n)))))):aC.wp C (.loop RL) K F H:=by
 refine wp_loop (α:=Nat × PH) (fun s=>((((((PF.nil.set 0 (y)).set 1 (.ptr o1 1 0 0)).set 2 (.ptr o2 1 0 0)).set 4 (.osl q 1 0 n)).set 14 (.int .i64 n)).set 15 (.int .i64 s.1))) (fun s=>s.2) (fun s=>s.1≤n∧s.2=H.set q (.rows 1 (aW (cH (pF n s.1))))) (fun s=>n-s.1) (0,H) ⟨aUT _,?_⟩ u b_ ?_
 ·refine PH.ext fun o=>?_;show H o=(H.set q _) o;rw[aN];split
  ·rename_i e; rw[e,x]
  ·rfl
 rintro⟨i,A⟩ ⟨hi,p⟩;simp only at hi p;subst p;simp only[go_sem,RL,yo];by_cases hlt:i<n
 ·have c:(i:Int)<(n:Nat):=Om;have B:=aoV hi;have d:=zS (a:=pF n i) (i:=i) Om;have l:i<(aW (cH (pF n i))).length:=by rw[cV,fZ]; omega
  simp only[go_sem,c,yq,yr,d,l,aVH,c9,aoW hlt,yu,wZz i];exact aG (i+1,_) ⟨hlt,rfl⟩ (by simp only; omega) Lq b_
 ·have c:¬ (i:Int)<(n:Nat):=Om;have:i=n:=Om;subst this;rw[aiJ];simp only[go_sem,c];exact Up.up Lq w
def cyF (y:PV) (o1 o2 q n:Nat):PF:=((((PF.nil.set 0 (y)).set 1 (.ptr o1 1 0 0)).set 2 (.ptr o2 1 0 0)).set 4 (.osl q 1 0 n))
theorem aoJ {C:Ctx} {K:bR} [Up K] {n top o1 o2 q:Nat} {y:PV} {s:List Nat} (V:s.length=n) (U:n≤1000) (W:top≤1000) (Q:n≤top) {F:PF} {H:PH} (b1:H o1=some (.rows 1 [[.int .i64 n]])) (b2:H o2=some (.rows 1 [[.int .i64 top]])) (E:H q=some (.rows 1 (aW (cH s))))
  (O:((cyF y o1 o2 q n).set 6 (.int .i64 ((n:Int)-1))).le F)
  (A:∀ m,m≤n→(∀ i (h:i<s.length),m≤i→s[i]+n=top+i)→(0<m→∀ (h:m-1<s.length),s[m-1]+n≠top+(m-1))→K (.exit 4) ((cyF y o1 o2 q n).set 6 (.int .i64 ((m:Int)-1))) H):aC.wp C (.loop xT) K F H:=by
 refine wp_loop (α:=Nat) (fun m=>(cyF y o1 o2 q n).set 6 (.int .i64 ((m:Int)-1))) (fun _=>H) (fun m=>m≤n∧∀ i (h:i<s.length),m≤i→s[i]+n=top+i) (fun m=>m) n ⟨aUU _,fun i h S=>by omega⟩ O b_ ?_;rintro m ⟨B,d⟩;rw[show xT=(.seq (.seq (.draw tL) (.cond (.tmp 42) .skip (.exit 4))) (.block 5 (.region IV))) from rfl];simp only[go_sem];refine bS .nil dT a_ ?_;by_cases N:m=0
 ·subst N;simp only[go_sem,tL,cyF,show ¬ ((0:Nat):Int)-1≥0 by omega];refine Up.up ?_ (A 0 B d (fun h=>by omega));unfold cyF;exact Lq
 ·obtain⟨k,rfl⟩:∃ k,m=k+1:=⟨m-1,by omega⟩;have w:(((k+1:Nat):Int)-1)=(k:Int):=Om;have x:k<s.length:=Om;have p:=zS x;have u:k<(aW (cH s)).length:=by rw[cV,fZ]; omega
  have J:IntKind.i64.wrap ((top:Int)-(n:Int))=(top:Int)-n:=wrap_i64 Om Om;have M:IntKind.i64.wrap ((top:Int)-(n:Int)+(k:Int))=(top:Int)-n+k:=wrap_i64 Om Om;have l:(k:Int)<(n:Nat):=Om;by_cases c:s[k]+n=top+k
  ·simp only[go_sem,tL,cyF,w,show (k:Int)≥0 by omega,E,p,u,l,b1,b2,aVH,J,M,bP (Om:((s[k]:Nat):Int)=(top:Int)-n+k),IV];have R:IntKind.i64.wrap ((k:Int)-1)=(k:Int)-1:=wrap_i64 Om Om;refine aG k ⟨by omega,fun i h hi=>?_⟩ Om (by (repeat' (first|exact d_|refine c_ ?_ ?_))<;>first|(simp only[go_sem,R]<;>rfl)|rfl) b_;by_cases e:i=k
   ·subst e; exact c
   ·exact d i h Om
  ·simp only[go_sem,tL,cyF,w,show (k:Int)≥0 by omega,E,p,u,l,b1,b2,aVH,J,M,bG (Om:((s[k]:Nat):Int)≠(top:Int)-n+k)];refine Up.up ?_ (A (k+1) B d (fun _ h=>c));unfold cyF
   (repeat' (first|exact d_|refine c_ ?_ ?_))<;>first|(simp only[go_sem,w]<;>rfl)|rfl
theorem aEO {C:Ctx} {K:bR} [Up K] {n o1 o2 q j x:Nat} {y:PV} {s:List Nat} (V:s.length=n) (hn:n≤1000) (hx:x≤1000000) (R:j<n) {F:PF} {H:PH} (b1:H o1=some (.rows 1 [[.int .i64 n]])) (J:¬ o1=q) (U:H q=some (.rows 1 (aW (cH (onU s j x (j+1))))))
  (N:((cyF y o1 o2 q n).set 7 (.int .i64 (j+1:Nat))).le F)
  (O:K (.exit 6) (cyF y o1 o2 q n) (H.set q (.rows 1 (aW (cH (s.take j++aWP x (n-j))))))):aC.wp C (.loop xU) K F H:=by
 refine wp_loop (α:=Nat × PH) (fun m=>(cyF y o1 o2 q n).set 7 (.int .i64 m.1)) (fun m=>m.2) (fun m=>j+1≤m.1∧m.1≤n∧m.2=H.set q (.rows 1 (aW (cH (onU s j x m.1))))) (fun m=>n-m.1) (j+1,H) ⟨aUU _,R,?_⟩ N b_ ?_
 ·refine PH.ext fun o=>?_;show H o=(H.set q _) o;rw[aN];split
  ·rename_i e; rw[e,U]
  ·rfl
 rintro⟨m,Y⟩ ⟨A,B,M⟩;simp only at A B M;subst M;have u:¬ q=o1:=fun e=>J e.symm;rw[show xU=(.seq (.seq (.region xW) (.cond (.tmp 57) .skip (.exit 6))) (.seq (.block 7 (.region IY)) (.region IZ))) from rfl];by_cases hlt:m<n
 ·have c:(m:Int)<(n:Nat):=Om;obtain⟨S,Q⟩:=azY (s:=s) (j:=j) (y:=x) (m:=m) Om Om;have d:=zS S;rw[Q] at d;have Z:=acO (s:=s) (j:=j) (y:=x) (m:=m) Om Om;have w:m-1<(aW (cH (onU s j x m))).length:=by rw[cV,fZ]; omega
  have l:m<(aW (cH (onU s j x m))).length:=by rw[cV,fZ]; omega
  have i:(aW (cH (onU s j x m)))[m]?=some [PV.int .i64 ((onU s j x m)[m]'Om:Nat)]:=zS Om;have W:IntKind.i64.wrap ((m:Int)-1)=((m-1:Nat):Int):=by rw[wrap_i64 Om Om]; omega
  have X:IntKind.i64.wrap (((x+(m-1-j):Nat):Int)+1)=((x+(m-j):Nat):Int):=by rw[wrap_i64 Om Om]; omega
  have p:((m-1:Nat):Int)<(n:Nat):=Om;have E:=aHN (s:=s) (j:=j) (y:=x) (m:=m) Om Om;simp only[go_sem,xW,cyF,b1,J,u,c,IY,W,p,d,w,aVH,X,i,l,c9,E,IZ,wZz m];refine aG (m+1,_) ⟨by simp only; omega,hlt,rfl⟩ (by simp only; omega) Lq b_
 ·have c:¬ (m:Int)<(n:Nat):=Om;have:m=n:=Om;subst this;have e:=azX (s:=s) (j:=j) (y:=x);rw[V] at e;rw[e];simp only[go_sem,xW,cyF,b1,J,u,c];refine Up.up ?_ O;unfold cyF;exact Lq
theorem oG.done {n:Nat} {s:List Nat} {l:List (List Nat)} (h:oG n s l) (d:nH n s=none):l=[s]:=by
 cases h with
 | last=>rfl
 | step c=>rw[d] at c; cases c
theorem oG.next {n:Nat} {s t:List Nat} {l:List (List Nat)} (h:oG n s l) (d:nH n s=some t):∃ r,l=s::r∧oG n t r:=by
 cases h with
 | last c=>rw[d] at c; cases c
 | step c w=>rw[d] at c; cases c; exact⟨_,rfl,w⟩
structure auX (J:Nat→PH→Prop) (ss:List (List Nat)) (top n o1 o2 q k:Nat) (s:List Nat) (G H:PH):Prop where
 lt:k<ss.length
 walk:oG top s (ss.drop k)
 len:s.length=n
 rng:∀ x∈s,x<top
 j:J k G
 le:G.le H
 g1:G o1=none
 g2:G o2=none
 gq:G q=none
 b1:H o1=some (.rows 1 [[.int .i64 n]])
 b2:H o2=some (.rows 1 [[.int .i64 top]])
 bq:H q=some (.rows 1 (aW (cH s)))
theorem avM {C:Ctx} {l o1 o2 n top:Nat} (J:Nat→PH→Prop) (d:List (List Nat)) (R:d=dP top n 0) (h1:1≤n) (hn:n≤1000) (ht:top≤1000)
  (hY:∀ k (hk:k<d.length) G c,J k G→G c=none→HE C l [.osl c 1 0 n] (G.set c (.rows 1 (aW (cH d[k])))) (fun r H'=>r=.bool true∧J (k+1) H'))
  {M H:PH} (W:J 0 M) (p:M.le H) (b1:H o1=some (.rows 1 [[.int .i64 n]])) (b2:H o2=some (.rows 1 [[.int .i64 top]])) (g1:M o1=none) (g2:M o2=none) :
  EB.wp C (aU Js.res (fun _ H'=>∃ G,J d.length G∧G.le H')) (PF.args [xM l,.ptr o1 1 0 0,.ptr o2 1 0 0]) H:=by
 simp only[go_sem,EB,yl,Js,b1,b2];by_cases c:n>top
 ·have:d=[]:=by rw[R]; exact asH c
  subst this;simp only[go_sem,show (n:Int)>(top:Nat) by omega];exact aX (vs:=[]) (.inr rfl) M rfl p ⟨M,W,b_⟩
 simp only[go_sem,show ¬ (n:Int)>(top:Nat) by omega,ym,b1,show (0:Int)≤n by omega,Int.le_refl,show (n:Int)*((8:Nat):Int)≤140737488355328 by omega,show (n:Int)≤9223372036854775807 by omega,aWK];refine aO fun q Q=>?_;obtain⟨a1,υ⟩:¬ o1=q∧¬ q=o1:=⟨(fun e=>by rw[e,Q] at b1; cases b1),fun e=>by rw[← e,Q] at b1; cases b1⟩;obtain⟨a2,φ⟩:¬ o2=q∧¬ q=o2:=⟨(fun e=>by rw[e,Q] at b2; cases b2),fun e=>by rw[← e,Q] at b2; cases b2⟩;have ez:aUR n [PV.int .i64 0]=aW (cH (pF n 0)):=by rw[aiK];unfold aW cH;rw[List.map_replicate,List.map_replicate];rfl
 rw[ez];simp only[go_sem,yn];refine aEN (n:=n) (o1:=o1) (o2:=o2) (q:=q) (y:=xM l) hn (by rw[cO]) Lq ?_;rw[PH.set_set];have Z:M q=none:=by
  cases h:M q with
  | none=>rfl
  | some x=>rw[p q x h] at Q; cases Q
 have hw:=VP top n 0 Om;rw[← R] at hw;obtain⟨r0,ε⟩:=hw.head;have N:=BF top n 0;rw[← R] at N;simp only[go_sem];refine wp_loop (α:=Nat × List Nat × PH × PH) (fun _=>cyF (xM l) o1 o2 q n) (fun x=>x.2.2.2) (fun x=>auX J d top n o1 o2 q x.1 x.2.1 x.2.2.1 x.2.2.2) (fun x=>d.length-x.1) (0,aWP 0 n,M,H.set q (.rows 1 (aW (cH (aWP 0 n))))) ?_ (by unfold cyF; exact Lq) b_ ?_
 ·exact⟨(by simp only; rw[ε]; simp),hw,List.length_range',(fun x hx=>by rw[List.mem_range'_1] at hx; omega),W,PH.le_trans p (PH.SL _ Q),g1,g2,Z,(by simp only; rw[aN,if_neg a1]; exact b1),(by simp only; rw[aN,if_neg a2]; exact b2),(by simp only; rw[cO])⟩
 clear b1 b2 g1 g2 Z Q p W hw ε ez;rintro⟨k,s,G,H⟩ A;have A:auX J d top n o1 o2 q k s G H:=A;obtain⟨hlt,U,w,ζ,W,p,g1,g2,gq,b1,b2,bq⟩:=A;have B:d.drop k=d[k]::d.drop (k+1):=aWM hlt;have σ:d[k]=s:=by obtain⟨r,F⟩:=U.head;rw[B] at F;injection F
 have S:dX H 1 (.osl q 1 0 n)=some (aW (cH s)):=by
  have:=(show bE H 1 (.osl q 1 0 (aW (cH s)).length) (aW (cH s)) from .inr ⟨q,_,rfl,bq,aUU _,aVP⟩).view
  rwa [cV,fZ,w] at this
 rw[show ji=(.seq (.seq (.region RM) (.cond (.tmp 26) .skip (.exit 2))) (.block 3 (.seq (.region RN) (.seq (.block 4 (.loop xT)) (.seq (.seq (.region xV) (.cond (.tmp 46) .ret .skip)) (.seq (.region IW) (.seq (.region IX) (.block 6 (.loop xU))))))))) from rfl];simp only[go_sem,RM,cyF];refine uO S (by unfold roomFor; rw[cV,fZ]; simp only[maxLen]; omega) (fun h=>?_) fun _ c hc=>?_
 ·have:=congrArg List.length h;rw[cV,fZ,w] at this;simp at this;omega
 rw[cV,fZ,w];have θ:G c=none:=by
  cases h:G c with
  | none=>rfl
  | some x=>rw[p c x h] at hc; cases hc
 have hy:=hY k hlt G c W θ;rw[σ] at hy;have ne:∀ {b:Nat} {x:cB},H b=some x→¬ b=c:=fun V e=>by rw[e,hc] at V; cases V
 refine⟨l,rfl,.inl ⟨_,G.set c (.rows 1 (aW (cH s))),_,Ev,?_,hy,?_⟩⟩
 ·intro o x K;rw[aN] at K ⊢;split at K
  ·rename_i e; rw[if_pos e]; exact K
  ·rename_i e; rw[if_neg e]; exact p o x K
 rintro _ H' ⟨rfl,X⟩ ι;have keep:∀ {b:Nat} {x:cB},H b=some x→G b=none→H' b=none∧((H.set c (.rows 1 (aW (cH s)))).over (G.set c (.rows 1 (aW (cH s)))) H') b=some x:=fun {b} {x} V hg=>by
  have e:=ne V;have h':H' b=none:=by
   cases h:H' b with
   | none=>rfl
   | some y =>have:=ι b y h (by rw[aN,if_neg e]; exact hg);rw[aN,if_neg e,V] at this;cases this
  refine⟨h',?_⟩;rw[hM,h'];simp only[aN,if_neg e,hg,V]
 obtain⟨k1,d1⟩:=keep b1 g1;obtain⟨k2,d2⟩:=keep b2 g2;obtain⟨kq,dq⟩:=keep bq gq;have O:H'.le ((H.set c (.rows 1 (aW (cH s)))).over (G.set c (.rows 1 (aW (cH s)))) H'):=fun o x K=>by rw[hM,K]
 generalize (H.set c (.rows 1 (aW (cH s)))).over (G.set c (.rows 1 (aW (cH s)))) H'=H2 at *
 have w1:IntKind.i64.wrap ((n:Int)-1)=(n:Int)-1:=wrap_i64 Om Om;simp only[go_sem,RN,d1,w1];refine aoJ (n:=n) (top:=top) (o1:=o1) (o2:=o2) (q:=q) (y:=xM l) (s:=s) w hn ht Om d1 d2 dq (by unfold cyF; exact Lq) fun m hm E β=>?_;by_cases m0:m=0
 ·subst m0;have ο:nH top s=none:=LW fun i hi=>by have:=E i hi (aUT _); omega
  have Y:k+1=d.length:=by have:=congrArg List.length (U.done ο);rw[aWR,aUX] at this;omega
  simp only[go_sem,cyF,xV,show ((0:Nat):Int)-1<0 by omega];exact aX (vs:=[]) (.inr rfl) H' rfl O ⟨H',by rw[← Y]; exact X,b_⟩
 ·obtain⟨j,rfl⟩:∃ j,m=j+1:=⟨m-1,by omega⟩;have u:j<s.length:=Om;have ξ:(j:Int)<(n:Nat):=Om;have e0:(((j+1:Nat):Int)-1)=(j:Int):=Om;have γ:=Qd (n:=top) (s:=s) j u (fun i hi ν=>by have:=E i hi ν; omega) (by have:=β (Nat.succ_pos _) u; simp only[Nat.add_sub_cancel] at this; omega);rw[w] at γ;have χ:=ζ s[j] (aUQ u);have κ:=zS u;have μ:j<(aW (cH s)).length:=by rw[cV,fZ]; exact u
  have w2:IntKind.i64.wrap (((s[j]:Nat):Int)+1)=((s[j]+1:Nat):Int):=dA Om;have δ:=aHM (s:=s) (j:=j) (y:=s[j]+1) u;simp only[go_sem,cyF,xV,e0,show ¬ (j:Int)<0 by omega,IW,dq,κ,μ,ξ,aVH,w2,c9,δ,IX,wZz j];refine aEO (n:=n) (o1:=o1) (o2:=o2) (q:=q) (j:=j) (x:=s[j]+1) (y:=xM l) (s:=s) w hn Om Om (by rw[aN,if_neg a1]; exact d1) a1 (by rw[cO]) (by unfold cyF; exact Lq) ?_;rw[PH.set_set];have aTY:k+1<d.length∧oG top (s.take j++aWP (s[j]+1) (n-j)) (d.drop (k+1)):=by
   obtain⟨r,F,η⟩:=U.next γ;rw[B] at F;injection F with _ F
   rw[F];refine⟨?_,η⟩;obtain⟨r2,ρ⟩:=η.head;have:=congrArg List.length F;rw[ρ,aWR,aWH] at this;omega
  have τ:auX J d top n o1 o2 q (k+1) (s.take j++aWP (s[j]+1) (n-j)) H' (H2.set q (.rows 1 (aW (cH (s.take j++aWP (s[j]+1) (n-j)))))):={
      lt:=aTY.1
      walk:=aTY.2
      len:=by simp; omega
      rng:=fun x hx=>by
       have h2:=N (d[k+1]'aTY.1) (aUQ _);have h3:d[k+1]'aTY.1=s.take j++aWP (s[j]+1) (n-j):=by obtain⟨r,F⟩:=aTY.2.head;rw[aWM aTY.1] at F;injection F
       rw[h3] at h2;exact (h2.2.1 x hx).2
      j:=X
      le:=fun o x K=>by
       have:¬ o=q:=fun e=>by rw[e,kq] at K; cases K
       rw[aN,if_neg this];exact O o x K
      g1:=k1,g2:=k2,gq:=kq
      b1:=by rw[aN,if_neg a1]; exact d1
      b2:=by rw[aN,if_neg a2]; exact d2
      bq:=by rw[cO] }
  simp only[go_sem,cyF];exact aG (k+1,s.take j++aWP (s[j]+1) (n-j),H',H2.set q (.rows 1 (aW (cH (s.take j++aWP (s[j]+1) (n-j)))))) τ (by simp only; omega) Lq b_
def rF (f:aD) (p:bT) (xs:List Int) (i:Nat):Bool:=!(decide (dN f p i>0)&&decide (eK f xs i>dN f p i))
theorem uK (f:aD) (p:bT) (xs:List Int):kD f p xs=(aUO f.aTF.length).all (rF f p xs):=rfl
theorem aoM (f:aD) (xs ys:List Int) (i:Nat):eK f xs i≤eK f (xs++ys) i:=by
 unfold eK;rw[aYH];split<;>omega
theorem arB {f:aD} {p:bT} {xs ys:List Int} {i:Nat} (h:rF f p xs i=false):rF f p (xs++ys) i=false:=by
 have:=aoM f xs ys i;unfold rF at h ⊢;simp only[Bool.not_eq_false',aVE,decide_eq_true_eq] at h ⊢;omega
theorem oi {f:aD} {p:bT} {xs:List Int} {i:Nat} (hi:i<f.aTF.length) (h:rF f p xs i=false):kD f p xs=false:=by
 rw[uK];simp only[List.all_eq_false,aVM];exact⟨i,hi,by rw[h]; simp⟩
theorem Sb {f:aD} {p:bT} {xs ys:List Int} (h:kD f p xs=false):kD f p (xs++ys)=false:=by
 rw[uK] at h;simp only[List.all_eq_false,aVM] at h;obtain⟨i,hi,h⟩:=h;exact oi hi (arB (by simpa using h))
theorem W8 (f:aD) (p:bT):kD f p []=true:=by
 rw[uK];simp only[aVD,aVM];intro i _;unfold rF eK;simp;omega
theorem alQ {f:aD} (hV:VF f) {p:bT} {xs:List Int} (h:∀ i,i<f.aTF.length→0<lvl f i→rF f p xs i=true):kD f p xs=true:=by
 rw[uK];simp only[aVD,aVM];intro i hi;have c:=hV.kN hi;by_cases e:i=0
 ·unfold rF eK;rw[if_pos e];simp;omega
 ·exact h i hi Om
theorem aHK {f:aD} {p:bT} {xs:List Int} (h:kD f p xs=true) {i:Nat} (hi:i<f.aTF.length):rF f p xs i=true:=by
 rw[uK] at h;exact aVD.1 h i (aVM.2 hi)
theorem asF (p:bT) (t:List PV) {n:Nat} (h:n<5):(if 1≤(List.drop n (PV.int .i64 p.s0::PV.int .i64 p.s1::PV.int .i64 p.s2::PV.int .i64 p.s3::PV.int .i64 p.s4::t)).length then some (List.take 1 (List.drop n (PV.int .i64 p.s0::PV.int .i64 p.s1::PV.int .i64 p.s2::PV.int .i64 p.s3::PV.int .i64 p.s4::t))) else none)=some [PV.int .i64 (p.spread n)]:=by
 have:n=0∨n=1∨n=2∨n=3∨n=4:=Om;rcases this with rfl | rfl | rfl | rfl | rfl<;>simp[bT.spread]
def IG (f:aD) (p:bT) (c oD:Nat) (set:List Int) (k:Nat):PF:=(((((((PF.nil.set 3 (.bL f.cells)).set 4 (.bL p.cells)).set 7 (.osl c 1 0 f.aTD.length)).set 10 (.osl oD 1 0 f.aTF.length)).set 34 (ints set)).set 35 (.int .i64 (set.length:Nat))).set 36 (.int .i64 k))
def ahI (f:aD) (p:bT) (c oD:Nat) (set:List Int) (k:Nat) (at_:Nat):PF:=((((((((PF.nil.set 3 (.bL f.cells)).set 4 (.bL p.cells)).set 7 (.osl c 1 0 f.aTD.length)).set 10 (.osl oD 1 0 f.aTF.length)).set 34 (ints set)).set 35 (.int .i64 (set.length:Nat))).set 36 (.int .i64 k)).set 13 (.int .i64 at_))
theorem aEJ {C:Ctx} {K:bR} [Up K] (f:aD) (hV:VF f) (p:bT) (oA oD:Nat) (set:List Int) (k:Nat) (xs:List Int) (η:xs.length≤16777216) (γ:kD f p xs=true) (d:Nat) (hd:d<f.aTC.length) {F:PF} {H:PH}
  (hF:(ahI f p oA oD set k (cQ f d)).le F) (hD:H oD=some (.rows 1 (aW (dY f xs))))
  (hR:∀ F' H',F' 6=some (.bool false)→kD f p (xs++[(d:Int)])=false→K .ret F' H')
  (hK:kD f p (xs++[(d:Int)])=true→K (.exit 4) (IG f p oA oD set k) (H.set oD (.rows 1 (aW (dY f (xs++[(d:Int)])))))) :
  aC.wp C (.loop ZW) K F H:=by
 refine wp_loop (α:=Nat × PH) (fun t=>ahI f p oA oD set k (upN f t.1 (cQ f d))) (fun t=>t.2) (fun t=>t.1≤4∧t.2=H.set oD (.rows 1 (aW (lP f xs d t.1)))∧∀ i,i<f.aTF.length→4-(t.1:Int)<lvl f i→rF f p (xs++[(d:Int)]) i=true) (fun t=>4-t.1) (0,H) ⟨aUT _,?_,?_⟩ (by rw[upN]; exact hF) b_ ?_
 ·rw[yw hV];refine PH.ext fun o=>?_;show H o=(H.set oD _) o;rw[aN];split
  ·rename_i e; rw[e,hD]
  ·rfl
 ·intro i hi hl;have:=(hV.kN hi).2.1;simp only at hl;omega
 rintro⟨j,H0⟩ ⟨hj,hH,w⟩;simp only at hj hH w;subst hH;obtain⟨x,V⟩:=xH hV hd (k:=j) hj;simp only[go_sem,ZW,Is,ahI];by_cases hlt:j<4
 ·have β:0<upN f j (cQ f d):=by
   rcases aWZ (upN f j (cQ f d)) with e | e
   ·rw[e,hV.root.2.1] at V; omega
   ·exact e
  have W:((upN f j (cQ f d):Nat):Int)>0:=Om;obtain⟨b1,b2⟩:=Ya hV xs hd hlt;have N:(aW (lP f xs d j))[upN f j (cQ f d)]?=some [.int .i64 (eK f xs (upN f j (cQ f d)))]:=by unfold aW; rw[aVN,b1]; rfl
  have ε:=X9 f xs (upN f j (cQ f d));have hw:IntKind.i64.wrap (eK f xs (upN f j (cQ f d))+1)=eK f xs (upN f j (cQ f d))+1:=wrap_i64 Om Om;have y:((upN f j (cQ f d):Nat):Int)<(f.aTF.length:Nat):=Om;have Y:upN f j (cQ f d)<(aW (lP f xs d j)).length:=by rw[cV,awD]; exact x
  have R:eK f (xs++[(d:Int)]) (upN f j (cQ f d))=eK f xs (upN f j (cQ f d))+1:=by rw[BW f xs d Om,cU,V,show 4-(4-(j:Int)).toNat=j by omega,if_pos rfl]
  have l:rF f p (xs++[(d:Int)]) (upN f j (cQ f d))=!(decide (dN f p (upN f j (cQ f d))>0)&&decide (eK f xs (upN f j (cQ f d))+1>dN f p (upN f j (cQ f d)))):=by rw[rF,R]
  have aTY:rF f p (xs++[(d:Int)]) (upN f j (cQ f d))=true→∀ i,i<f.aTF.length→4-((j+1:Nat):Int)<lvl f i→rF f p (xs++[(d:Int)]) i=true:=by
   intro h i hi hl;by_cases e:i=upN f j (cQ f d)
   ·rw[e]; exact h
   ·by_cases c:4-(j:Int)<lvl f i
    ·exact w i hi c
    ·have Q:lvl f i=4-(j:Int):=Om;have X:i≠0:=by intro e; subst e; rw[hV.root.2.1] at Q; omega
     have J:eK f (xs++[(d:Int)]) i=eK f xs i:=by rw[BW f xs d X,cU,Q,show 4-(4-(j:Int)).toNat=j by omega,if_neg (fun h=>e h.symm)]; simp
     have:=aHK γ hi;unfold rF at this ⊢;rw[J]; exact this
  have O:rF f p (xs++[(d:Int)]) (upN f j (cQ f d))=false→kD f p (xs++[(d:Int)])=false:=oi x;have Z:dN f p (upN f j (cQ f d))=p.spread (4-(j:Int)).toNat:=by rw[dN,V]
  rw[Z] at l;have δ:=N;have E:(aW (lP f xs d j)).set (upN f j (cQ f d)) [.int .i64 (eK f xs (upN f j (cQ f d))+1)]=aW (lP f xs d (j+1)):=by rw[mU,b2]
  have A:(aW (lP f xs d (j+1)))[upN f j (cQ f d)]?=some [.int .i64 (eK f xs (upN f j (cQ f d))+1)]:=by rw[← E,List.getElem?_set_self Y]
  have S:upN f (j+1) (cQ f d)=MS f (upN f j (cQ f d)):=rfl;have B:=hV.WS β x;generalize ζ:upN f j (cQ f d)=u at *
  generalize eK f xs u=dc at *
  have l0:(0:Int)≤4-(j:Int):=Om;have h5:4-(j:Int)<((5:Nat):Int):=Om;simp only[go_sem,W,It,y,aVH,N,hw,E,Iu,gE x,HN x,V,l0,h5,Nat.mul_one];rw[asF p _ (Om:(4-(j:Int)).toNat<5)];by_cases M:p.spread (4-(j:Int)).toNat>0
  ·by_cases U:dc+1>p.spread (4-(j:Int)).toNat
   ·simp only[go_sem,II,M,U,y,A,aVH,Iv];exact hR _ _ Sq (O (by rw[l,decide_eq_true M,decide_eq_true U]; rfl))
   ·simp only[go_sem,II,M,U,y,A,aVH,ZZ,gE x,TV x,B];exact aG (j+1,_) ⟨hlt,rfl,aTY (by rw[l,decide_eq_false U,aWB]; rfl)⟩ (by simp only; omega) (by (repeat' (first|exact d_|refine c_ ?_ ?_))<;>first|(simp only[go_sem,S]<;>rfl)|rfl) b_
  ·simp only[go_sem,II,M,ZZ,y,aVH,gE x,TV x,B];exact aG (j+1,_) ⟨hlt,rfl,aTY (by rw[l,decide_eq_false M]; rfl)⟩ (by simp only; omega) (by (repeat' (first|exact d_|refine c_ ?_ ?_))<;>first|(simp only[go_sem,S]<;>rfl)|rfl) b_
 ·have:j=4:=Om;subst this;have h0:upN f 4 (cQ f d)=0:=by have:=hV.kN x;omega
  have W:¬ ((upN f 4 (cQ f d):Nat):Int)>0:=Om;simp only[go_sem,W];rw[yv hV];refine Up.up ?_ (hK (alQ hV fun i hi h=>w i hi (by simpa using h)));unfold IG;exact Lq
theorem avB {f:aD} {p:bT} {set:List Int} {d:Int} (c:d∈set) (h:rJ f p d=false):nB f p set=false:=by
 unfold nB;have:set.all (rJ f p)=false:=by simp only[List.all_eq_false];exact⟨d,c,by rw[h]; simp⟩
 rw[this]; rfl
theorem avA {f:aD} {p:bT} {set:List Int} {k:Nat} (h:kD f p (set.take k)=false):nB f p set=false:=by
 have:=Sb (ys:=set.drop k) h;rw[aXG] at this;unfold nB;rw[this,aWB]
def agR (f:aD) (set:List Int):Prop:=set.length≤16777216∧∀ x∈set,0≤x∧x<(f.aTC.length:Nat)
theorem anV {C:Ctx} {K:bR} [Up K] (f:aD) (hV:VF f) (p:bT) (N oD:Nat) (hn:N≠oD) (set:List Int) (hs:agR f set) {F:PF} {H:PH}
  (Z:(IG f p N oD set 0).le F) (M:H N=some (.rows 1 (cY (marks f.aTD.length p.aTD)))) (hD:H oD=some (.rows 1 (aW (dY f []))))
  (V:∀ O H',O 6=some (.bool false)→nB f p set=false→K .ret O H')
  (hK:∀ O H',nB f p set=true→K (.exit 2) O H') :
  aC.wp C (.loop AH) K F H:=by
 obtain⟨β,U⟩:=hs;refine wp_loop (α:=Nat × PH) (fun t=>IG f p N oD set t.1) (fun t=>t.2) (fun t=>t.1≤set.length∧t.2 N=some (.rows 1 (cY (marks f.aTD.length p.aTD)))∧t.2 oD=some (.rows 1 (aW (dY f (set.take t.1))))∧(set.take t.1).all (rJ f p)=true∧kD f p (set.take t.1)=true) (fun t=>set.length-t.1) (0,H) ⟨aUT _,M,hD,rfl,W8 f p⟩ Z b_ ?_;rintro⟨k,X⟩ ⟨hk,M,hD,e,A⟩;simp only at hk M hD e A;by_cases hlt:k<set.length
 ·have i:(k:Int)<(set.length:Nat):=Om;have S:(set.map fun n=>[PV.int .i64 n])[k]?=some [.int .i64 set[k]]:=by simp[hlt]
  have B:set.take (k+1)=set.take k++[set[k]]:=aWN hlt;have hx:=U set[k] (aUQ hlt);have hm:=aUQ hlt;generalize γ:set[k]=x at *
  obtain⟨d,rfl⟩:∃ d:Nat,x=d:=⟨x.toNat,by omega⟩;have c:d<f.aTC.length:=Om;have E:(d:Int)<(f.aTC.length:Nat):=Om;obtain⟨w1,w2,w3,w4,w5⟩:=hV.drive d c;have J:((mdl f d:Nat):Int)<(f.aTD.length:Nat):=Om;have w:(cY (marks f.aTD.length p.aTD))[mdl f d]?=some [.bool (p.aTD.contains ((mdl f d:Nat):Int))]:=by have:=sH (n:=f.aTD.length) (l:=p.aTD) (m:=((mdl f d:Nat):Int)) Om J;rw[aWK] at this;unfold cY;rw[aVN,this]; rfl
  have u:rJ f p (d:Int)=p.aTD.contains ((mdl f d:Nat):Int):=by rw[rJ,aWK]
  cases W:p.aTD.contains ((mdl f d:Nat):Int) with
  | false =>rw[W] at w u;simp only[go_sem,AH,IH,IG,i,ZX,S,ZY,mR c,E,hV.SP c,J,aVH,M,w,aVG,Iq];exact V _ _ Sq (avB hm u)
  | true =>
   rw[W] at w u;simp only[go_sem,AH,IH,IG,i,ZX,S,ZY,mR c,E,hV.SP c,J,aVH,M,w,aUW,Ir,hV.WN c];have up:=fun {K:bR} [Up K] {F:PF} {H:PH}=>aEJ (C:=C) (K:=K) f hV p N oD set k (set.take k) (by rw[aVJ]; omega) A d c (F:=F) (H:=H);refine up (by unfold ahI; exact Lq) hD ?_ ?_
   ·intro O H' Y Q;simp only[go_sem];exact V _ _ Y (avA (k:=k+1) (by rw[B]; exact Q))
   ·intro R;simp only[go_sem,IG,Iw,wZz k];refine aG (k+1,X.set oD (.rows 1 (aW (dY f (set.take k++[(d:Int)]))))) ⟨hlt,?_,?_,?_,by rw[B]; exact R⟩ (by simp only; omega) Lq b_
    ·simp only[aN,if_neg hn]; exact M
    ·simp only[cO,B]
    ·rw[B];intro y hy;rcases aWI.1 hy with h | h
     ·exact aVD.1 e y h
     ·rw[aWV.1 h]; exact u
 ·have i:¬ (k:Int)<(set.length:Nat):=Om;have:k=set.length:=Om;subst this;rw[aVP] at e A;simp only[go_sem,AH,IH,IG,i];exact hK _ _ (by rw[nB,e,A]; rfl)

def aNM (down:List Int) (d:Int):Bool:=decide (0≤d)&&down.contains d
def aNN (down:List Int) (d:Int):Bool:=decide (0≤d)&&!down.contains d
def aQM (down row:List Int):Bool:=row.any (aNM down)
def aHO (down row:List Int):Nat:=row.countP (aNN down)
def aLD (f:aD) (c:Int) (down:List Int) (v:Nat) (row:List Int):Bool:=aQM down row&&decide (((aHO down row:Nat):Int)<(eZ f v).k+c)
def aNO (f:aD) (d:List (List Int)) (c:Int) (down:List Int) (n:Nat):Bool:=(aUO n).all fun v=>!aLD f c down v (d.getD v [])
def G8 (f:aD) (d:List (List Int)) (c:Int) (down:List Int):Bool:=aNO f d c down d.length


theorem jE {t:Nat} {b c:Bool} {F:PF} {H:PH} (h:F t=some (.bool b)) (e:b=c):aU [.tmp t] (aI (.bool c)) .ret F H:=by
 subst e;exact aX (.inr rfl) .nil (vs:=[.bool b]) (by rw[kV,nS,h,oZ]) a_ ⟨rfl,rfl⟩
theorem aEH {C:Ctx} (f:aD) (hV:VF f) (p:bT) (S:∀ m∈p.aTD,0≤m∧m<f.aTD.length) (i:Fits p.aTD) (set:List Int) (U:agR f set) :
  QT.wp C (aU avG.res (aI (.bool (nB f p set)))) (PF.args [.agg f.cells,.agg p.cells,ints set]) .nil:=by
 have d:=hV.small;have u:(f.aTD.length:Int)*((1:Nat):Int)≤140737488355328:=by have:=d.aTD; omega
 have w:(f.aTD.length:Int)≤9223372036854775807:=by have:=d.aTD; omega
 have x:(0:Int)≤(f.aTD.length:Int):=Om;have B:(f.aTF.length:Int)*((8:Nat):Int)≤140737488355328:=by have:=d.aTF; omega
 have E:(f.aTF.length:Int)≤9223372036854775807:=by have:=d.aTF; omega
 have F:(0:Int)≤(f.aTF.length:Int):=Om;simp only[go_sem,QT,Xr,Xs,avG,aUN,u,w,x,Int.le_refl,aWK];refine aO fun l V=>?_;rw[AG];simp only[go_sem,Xt,aUN];refine wp_loop (α:=Nat) (fun k=>(((((((PF.nil.set 2 (ints set)).set 3 (.bL f.cells)).set 4 (.bL p.cells)).set 7 (.osl l 1 0 f.aTD.length)).set 20 (ints p.aTD)).set 21 (.int .i64 (p.aTD.length:Nat))).set 22 (.int .i64 k))) (fun k=>PH.nil.set l (.rows 1 (cY (marks f.aTD.length (p.aTD.take k))))) (fun k=>k≤p.aTD.length) (fun k=>p.aTD.length-k) 0 (aUT _) Lq (by rw[aXW]; exact b_) ?_;intro k W;simp only[go_sem,Xq,Xu];by_cases hlt:k<p.aTD.length
 ·have c:(k:Int)<(p.aTD.length:Nat):=Om;have H:(p.aTD.map fun n=>[PV.int .i64 n])[k]?=some [.int .i64 p.aTD[k]]:=by simp[hlt]
  obtain⟨K,M⟩:=S _ (aUQ hlt);have y:(p.aTD[k]).toNat<(cY (marks f.aTD.length (p.aTD.take k))).length:=by rw[wR,CN]; omega
  have A:(cY (marks f.aTD.length (p.aTD.take k)))[(p.aTD[k]).toNat]?=some [.bool ((p.aTD.take k).contains p.aTD[k])]:=by unfold cY;rw[aVN,sH K M]; rfl
  have N:p.aTD.length≤9223372036854775807:=by have:=i; omega
  simp only[go_sem,c,Xv,H,Xw,K,M,aVH,A,y,jV,CO K M,Xx,wZz k];refine aG (k+1) hlt Om Lq ?_;rw[aWN hlt];exact b_
 ·have c:¬ (k:Int)<(p.aTD.length:Nat):=Om;have:k=p.aTD.length:=Om;subst this;rw[aVP];simp only[go_sem,c,Xy,aUN,B,E,F,Int.le_refl,aWK];refine aO fun oD hD=>?_;have O:l≠oD:=by rintro rfl; simp only[cO] at hD; cases hD
  rw[Fw];simp only[go_sem,Xz,aUN];refine anV (C:=C) f hV p l oD O set U (by unfold IG; (repeat' (first|exact d_|refine c_ ?_ ?_))<;>first|(simp only[go_sem,aUN]<;>rfl)|rfl) (by simp only[aN,if_neg O,if_true]) (by rw[cO]) ?_ ?_
  ·intro Q H' R e;simp only[go_sem];exact jE R e.symm
  ·intro Q H' J;simp only[go_sem,Ix];exact jE Sq J.symm
theorem anR (set:List Int) (top:Int) {k:Nat}:(aUO (k+1)).all (mP set top)=((aUO k).all (mP set top)&&mP set top k):=by
 rw[aXV,List.all_append]; simp
theorem aEL {C:Ctx} (set:List Int) (O:set.length≤1000000000000000) (n top:Int) :
  QW.wp C (aU avJ.res (aI (.bool (nM set n top)))) (PF.args [ints set,.int .i64 n,.int .i64 top]) .nil:=by
 have A:nM set n top=(decide ((set.length:Int)=n)&&(aUO set.length).all (mP set top)):=rfl;simp only[go_sem,QW,X1,X2,avJ,aUN];refine wp_loop (α:=Nat) (fun k=>((((((PF.nil.set 0 (ints set)).set 1 (.int .i64 n)).set 2 (.int .i64 top)).set 9 (ints set)).set 10 (.int .i64 (set.length:Nat))).set 11 (.int .i64 k))) (fun _=>.nil) (fun k=>k≤set.length∧(aUO k).all (mP set top)=true) (fun k=>set.length-k) 0 ⟨aUT _,rfl⟩ Lq a_ ?_;rintro k ⟨N,d⟩;have bad:k<set.length→mP set top k=false→nM set n top=false:=by
  intro h K;rw[A];have:(aUO set.length).all (mP set top)=false:=by simp only[List.all_eq_false,aVM];exact⟨k,h,by rw[K]; simp⟩
  rw[this,aWB]
 by_cases hlt:k<set.length
 ·have c:(k:Int)<(set.length:Nat):=Om;have B:(set.map fun n=>[PV.int .i64 n])[k]?=some [.int .i64 set[k]]:=by simp[hlt]
  have M:set.getD k 0=set[k]:=by simp[aUY,hlt]
  have i:mP set top k=((decide (0≤set[k])&&decide (set[k]<top))&&(decide (k=0)||decide (set.getD (k-1) 0<set[k]))):=by rw[mP,M]
  have aTY:mP set top k=true→(aUO (k+1)).all (mP set top)=true:=fun h=>by rw[anR,d,h]; rfl
  generalize set[k]=x at *
  simp only[go_sem,tg,th,c,X3,B];by_cases l:x<0
  ·simp only[go_sem,zF,l,VZ];exact jE Sq (bad hlt (by rw[i,decide_eq_false (Om:¬ 0≤x)]; rfl)).symm
  by_cases w:x≥top
  ·simp only[go_sem,zF,l,w,VZ];exact jE Sq (bad hlt (by rw[i,decide_eq_false (Om:¬ x<top),aWB]; rfl)).symm
  rw[decide_eq_true (Om:0≤x),decide_eq_true (Om:x<top),aWQ,aVA] at i;by_cases F:k=0
  ·subst F;simp only[go_sem,zF,l,w,show ¬ ((0:Nat):Int)>0 by omega,ti,wZz 0];exact aG 1 ⟨hlt,aVD.1 (aTY (by rw[i]; rfl))⟩ Om Lq a_
  obtain⟨j,rfl⟩:∃ j,k=j+1:=⟨k-1,by omega⟩;have J:IntKind.i64.wrap (((j+1:Nat):Int)-1)=(j:Int):=by rw[wrap_i64 Om Om]; omega
  have p:j<set.length:=Om;have e:(j:Int)<(set.length:Nat):=Om;have u:(set.map fun n=>[PV.int .i64 n])[j]?=some [.int .i64 set[j]]:=by simp[p]
  have E:set.getD (j+1-1) 0=set[j]:=by simp[aUY,p]
  rw[E,decide_eq_false F,Bool.false_or] at i;generalize set[j]=y at *
  by_cases H:y≥x
  ·simp only[go_sem,zF,l,w,show ((j+1:Nat):Int)>0 by omega,J,u,e,H,VZ];exact jE Sq (bad hlt (by rw[i,decide_eq_false (Om:¬ y<x)])).symm
  ·simp only[go_sem,zF,l,w,show ((j+1:Nat):Int)>0 by omega,J,u,e,H,ti,dA (Om:j+1<9223372036854775807)];exact aG (j+1+1) ⟨hlt,aVD.1 (aTY (by rw[i,decide_eq_true (Om:y<x)]))⟩ Om Lq a_
 ·have c:¬ (k:Int)<(set.length:Nat):=Om;have:k=set.length:=Om;subst this;rw[d,aWQ] at A;simp only[go_sem,tg,th,c,X4,aUN];exact jE (b:=decide ((set.length:Int)=n)) (by simp only[go_sem]; rfl) A.symm
theorem AY {f:aD} {aTO:Int} (h:jZ f aTO=true):VF f∧0≤aTO∧aTO.toNat<f.aTG.length∧aTO=(aTO.toNat:Nat):=by
 unfold jZ at h;simp only[aVE,decide_eq_true_eq] at h;exact⟨VF.of h.1,h.2.1,by omega,by omega⟩
theorem CI {f:aD} {aTO:Int} (h:jZ f aTO=true):kC f aTO∈f.aTG∧f.aTG[aTO.toNat]?=some (kC f aTO):=by
 obtain⟨_,_,c,_⟩:=AY h;have e:kC f aTO=f.aTG[aTO.toNat]:=by simp[kC,aUY,c]
 rw[e];exact⟨aUQ c,aVB c⟩
theorem aoB {C:Ctx} (val:∀ f:aD,f.Ok→aH C 96 [.agg f.cells] .nil (aI (.int .i64 (vW f)))) (f:aD) (l:f.Ok) (aTO:Int) :
  DY.wp C (aU I1.res (aI (.bool (jZ f aTO)))) (PF.args [.agg f.cells,.int .i64 aTO]) .nil:=by
 have i:=val f l;unfold vW at i;simp only[go_sem,DY,xl,xm,I1];refine aA i Ev ?_;have d:jZ f aTO=(dJ f&&(decide (0≤aTO)&&decide (aTO<f.aTG.length))):=rfl;cases e:dJ f with
 | false =>rw[e,aUV] at d;simp only[go_sem,bG (show (1:Int)≠0 by decide)];exact jE Sq d.symm
 | true =>
  rw[e,aVA] at d;by_cases c:aTO≥0
  ·rw[decide_eq_true (Om:0≤aTO),aVA] at d;simp only[go_sem,bP (show (0:Int)=0 from rfl),c,aUN];exact jE (b:=decide (aTO<f.aTG.length)) Sq d.symm
  ·rw[decide_eq_false (Om:¬ 0≤aTO),aUV] at d;simp only[go_sem,bP (show (0:Int)=0 from rfl),c,aUN];exact jE Sq d.symm
structure agQ (C:Ctx):Prop where
 adm:∀ (f:aD) (p:bT) (set:List Int),VF f→(∀ m∈p.aTD,0≤m∧m<f.aTD.length)→Fits p.aTD→agR f set→aH C 201 [.agg f.cells,.agg p.cells,ints set] .nil (aI (.bool (nB f p set)))
 asc:∀ (set:List Int) (n top:Int),set.length≤1000000000000000→aH C 202 [ints set,.int .i64 n,.int .i64 top] .nil (aI (.bool (nM set n top)))
 known:∀ (f:aD) (aTO:Int),f.Ok→aH C 203 [.agg f.cells,.int .i64 aTO] .nil (aI (.bool (jZ f aTO)))
theorem avD {set:List Int} {n top:Int} (h:nM set n top=true):(set.length:Int)=n:=by
 unfold nM at h;simp only[aVE,decide_eq_true_eq] at h;exact h.1
theorem aED {set:List Int} {n top:Int} (h:nM set n top=true):∀ x∈set,0≤x∧x<top:=by
 unfold nM at h;simp only[aVE,decide_eq_true_eq,aVD,aVM] at h;intro x d;obtain⟨i,hi,rfl⟩:=aVX d;have:=h.2 i hi;unfold mP at this;simp only[aVE,decide_eq_true_eq] at this;have c:set.getD i 0=set[i]:=by simp[aUY,hi]
 rw[c] at this;exact this.1
theorem anW {C:Ctx} (x:agQ C) (f:aD) (B:f.Ok) (aTO:Int) (set:List Int) (H:set.length≤1000000000000000) :
  DW.wp C (aU Iy.res (aI (.bool (pC f aTO set)))) (PF.args [.agg f.cells,.int .i64 aTO,ints set]) .nil:=by
 have c:pC f aTO set=(jZ f aTO&&(nM set (pJ (kC f aTO)) f.aTC.length&&nB f (kC f aTO) set)):=rfl;simp only[go_sem,DW,xb,xc,Iy];refine aA (x.known f aTO B) Ev ?_;cases w:jZ f aTO with
 | false =>rw[w,aUV] at c;simp only[go_sem,xd];exact jE Sq c.symm
 | true =>
  rw[w,aVA] at c;obtain⟨hV,E,M,K⟩:=AY w;obtain⟨i,y⟩:=CI w;have l:=hV.aTO _ i;have e:=(B.aTO _ i).aTD;have d:(f.aTG.map bT.cells)[aTO.toNat]?=some (kC f aTO).cells:=by rw[aVN,y]; rfl
  generalize kC f aTO=p at *
  have hlt:aTO<(f.aTG.length:Nat):=Om;have J:IntKind.i64.wrap (p.k+p.m)=p.k+p.m:=wrap_i64 Om Om;simp only[go_sem,aUW,xe,E,hlt,aUN,d];refine aO fun q N=>?_;simp only[go_sem,xf,aUN,J];refine aA (x.asc set (p.k+p.m) f.aTC.length H) Ev ?_;have A:pJ p=p.k+p.m:=rfl;rw[A] at c;cases u:nM set (p.k+p.m) f.aTC.length with
  | false =>rw[u,aUV] at c;simp only[go_sem];exact jE Sq c.symm
  | true =>rw[u,aVA] at c;have F:=avD u;simp only[go_sem];refine aA (x.adm f p set hV l.2.2.2.2.2.2.2 e ⟨by omega,aED u⟩) Ev ?_;simp only[go_sem];exact jE Sq c.symm
theorem IJ {m:Nat} (d:m≤1000):∀ i,i≤1000→(fA m i).natAbs≤1000 ^ i
 | 0,_=>aUU _
 | i+1,h=>by have e:=IJ d i Om;have c:((m:Int)-(i:Int)).natAbs≤1000:=Om;rw[fA,Int.natAbs_tdiv,Int.natAbs_mul,aWL];exact aWE (aXM _ _) (aXX e c)
theorem ig {m:Nat} (c:m≤1000) {i:Nat} (hi:i≤3):-1000000000≤fA m i∧fA m i≤1000000000:=by
 have h:=IJ c i Om;have:1000 ^ i≤1000 ^ 3:=aYK Om hi;have e:(1000:Nat) ^ 3=1000000000:=by decide
 omega
theorem ahM {C:Ctx} (m n:Nat) (l:m≤1000) (M:n≤3) :
  AI.wp C (aU tj.res (aI (.int .i64 (max (fA m n) 0)))) (PF.args [.int .i64 m,.int .i64 n]) .nil:=by
 simp only[go_sem,AI,gw,gx,gy,tj];refine wp_loop (α:=Nat) (fun k=>((((PF.nil.set 0 (.int .i64 m)).set 1 (.int .i64 n)).set 5 (.int .i64 (fA m k))).set 6 (.int .i64 k))) (fun _=>.nil) (fun k=>k≤n) (fun k=>n-k) 0 (aUT _) (by (repeat' (first|exact d_|refine c_ ?_ ?_))<;>first|(simp only[go_sem,fA]<;>rfl)|rfl) a_ ?_;intro k K;simp only[go_sem,gv,gz];by_cases hlt:k<n
 ·have c:(k:Int)<(n:Nat):=Om;obtain⟨b1,b2⟩:=ig l (i:=k) Om;have B:=IJ l k Om;have A:((m:Int)-(k:Int)).natAbs≤1000:=Om;have d:=aXX (aWE B (aYK Om (Om:k≤2))) A;rw[← Int.natAbs_mul] at d;have e:(1000:Nat) ^ 2*1000=1000000000:=by decide
  have E:IntKind.i64.wrap ((m:Int)-(k:Int))=(m:Int)-k:=wrap_i64 Om Om;have F:IntKind.i64.wrap (fA m k*((m:Int)-(k:Int)))=fA m k*((m:Int)-k):=wrap_i64 Om Om;have H:IntKind.i64.wrap ((k:Int)+1)=(k:Int)+1:=wrap_i64 Om Om;have u:¬ ((k:Int)+1)=0:=Om;obtain⟨x,y⟩:=ig l (i:=k+1) Om;have w:fA m (k+1)=Int.tdiv (fA m k*((m:Int)-k)) ((k:Int)+1):=by rw[fA]
  rw[w] at x y;have J:IntKind.i64.wrap (Int.tdiv (fA m k*((m:Int)-k)) ((k:Int)+1))=Int.tdiv (fA m k*((m:Int)-k)) ((k:Int)+1):=wrap_i64 Om Om;simp only[go_sem,c,ia,E,F,H,u,J];simp only[go_sem,ib,wZz k];exact aG (k+1) hlt Om (by (repeat' (first|exact d_|refine c_ ?_ ?_))<;>first|(simp only[go_sem,w]<;>rfl)|rfl) a_
 ·have c:¬ (k:Int)<(n:Nat):=Om;have:k=n:=Om;subst this;simp only[go_sem,c,ic];have p:(if fA m k<0 then 0 else fA m k)=max (fA m k) 0:=by split<;>omega
  rw[p];refine aR (.inr rfl) Ev ?_;rfl
def KI (k:Nat) (b:Bool):Nat:=if b then k+1 else k
theorem XG {α:Type} (q:α→Bool) (l:List α) {i:Nat} (h:i<l.length):(l.take (i+1)).countP q=KI ((l.take i).countP q) (q l[i]):=by
 rw[aWN h,aYH];unfold KI;cases c:q l[i]<;>simp[c]
def CL (sc:List (List Int)) (set:List Int) (m:Int) (n i:Nat):PF:=((((((PF.nil.set 1 (ints set)).set 2 (.int .i64 m)).set 7 (.int .i64 n)).set 14 (lay sc)).set 15 (.int .i64 (sc.length:Nat))).set 16 (.int .i64 i))
def mV (sc:List (List Int)) (set:List Int) (m:Int) (n i:Nat) (b:Nat) (s:List Int) (j:Nat):PF:=((((((((((PF.nil.set 1 (ints set)).set 2 (.int .i64 m)).set 7 (.int .i64 n)).set 14 (lay sc)).set 15 (.int .i64 (sc.length:Nat))).set 16 (.int .i64 i)).set 10 (.int .i64 b)).set 20 (ints s)).set 21 (.int .i64 (s.length:Nat))).set 22 (.int .i64 j))
theorem ahP {C:Ctx} {K:bR} [Up K] (sc:List (List Int)) (set:List Int) (B:set.length≤1000000000000000) (m:Int) (n i b:Nat) (s:List Int) (j:Nat) (d:Int) (k:Nat) (x:k≤eF set d) {F:PF} {H:PH}
  (y:(((mV sc set m n i b s j).set 13 (.int .i64 d)).set 11 (.int .i64 k)).le F)
  (w:K (.exit 4) (((mV sc set m n i b s j).set 13 (.int .i64 d)).set 11 (.int .i64 (eF set d:Nat))) H) :
  aC.wp C (.loop wT) K F H:=by
 refine wp_loop (α:=Nat) (fun k=>((mV sc set m n i b s j).set 13 (.int .i64 d)).set 11 (.int .i64 k)) (fun _=>H) (fun k=>k≤eF set d) (fun k=>eF set d-k) k x y b_ ?_;intro k x;have A:=v6 set d;by_cases hlt:k<set.length
 ·have l:(k:Int)<(set.length:Nat):=Om;have p:(set.map fun n=>[PV.int .i64 n])[k]?=some [.int .i64 set[k]]:=by simp[hlt]
  by_cases c:k<eF set d
  ·have u:set[k]<d:=NG set d c;simp only[go_sem,wT,IL,mV,aUN,l,p,u,xn,wZz k];exact aG (k+1) c Om Lq b_
  ·have e:k=eF set d:=Om;subst e;have u:¬ set[eF set d]<d:=acX set d hlt;simp only[go_sem,wT,IL,mV,aUN,l,p,u];refine Up.up ?_ w;unfold mV;exact Lq
 ·have l:¬ (k:Int)<(set.length:Nat):=Om;have e:k=eF set d:=Om;subst e;simp only[go_sem,wT,IL,mV,aUN,l];refine Up.up ?_ w;unfold mV;exact Lq
theorem aoD {C:Ctx} {K:bR} [Up K] (sc:List (List Int)) (set:List Int) (U:set.length≤1000000000000000) (W:set.Pairwise (· < ·)) (m:Int) (n i:Nat) (s:List Int) (X:s.length≤1000000000000000) (E:s.Pairwise (· < ·)) {F:PF} {H:PH}
  (M:((mV sc set m n i 0 s 0).set 11 (.int .i64 0)).le F)
  (N:K (.exit 2) ((CL sc set m n i).set 10 (.int .i64 (mD set s:Nat))) H) :
  aC.wp C (.loop BT) K F H:=by
 refine wp_loop (α:=Nat × Nat) (fun t=>(mV sc set m n i ((s.take t.1).countP fun d=>set.contains d) s t.1).set 11 (.int .i64 t.2)) (fun _=>H) (fun t=>t.1≤s.length∧∀ d∈s.drop t.1,t.2≤eF set d) (fun t=>s.length-t.1) (0,0) ⟨aUT _,fun d _=>aUT _⟩ (by simpa using M) b_ ?_;rintro⟨j,k⟩ ⟨S,J⟩;simp only at S J;by_cases hlt:j<s.length
 ·have u:(j:Int)<(s.length:Nat):=Om;have A:(s.map fun n=>[PV.int .i64 n])[j]?=some [.int .i64 s[j]]:=by simp[hlt]
  have l:=XG (fun d=>set.contains d) s hlt;have p:s.drop j=s[j]::s.drop (j+1):=aWM hlt;have B:k≤eF set s[j]:=J _ (by rw[p]; exact List.mem_cons_self ..);have aTY:∀ d∈s.drop (j+1),eF set s[j]≤eF set d:=by intro d Q;have:=E.sublist (List.drop_sublist j s);rw[p,List.pairwise_cons] at this;exact arW set (Int.le_of_lt (this.1 d Q))
  have e:=aAR W s[j];have O:(s.take j).countP (fun d=>set.contains d)≤j:=aWE List.countP_le_length (by rw[aVJ]; omega);generalize (s.take j).countP (fun d=>set.contains d)=b at *
  generalize s[j]=d at *
  simp only[go_sem,BT,ac,mV,u,I8,A];have Y:=fun {K:bR} [Up K] {F:PF}=>ahP (C:=C) (K:=K) sc set U m n i b s j d k B (F:=F) (H:=H);refine Y (by unfold mV; exact Lq) ?_;have V:=v6 set d;by_cases c:eF set d<set.length
  ·have x:((eF set d:Nat):Int)<(set.length:Nat):=Om;have w:(set.map fun n=>[PV.int .i64 n])[eF set d]?=some [.int .i64 set[eF set d]]:=by simp[c]
   have R:set.getD (eF set d) 0=set[eF set d]:=by simp[aUY,c]
   rw[decide_eq_true c,aVA,R] at e;by_cases y:set[eF set d]=d
   ·rw[decide_eq_true y] at e;rw[e] at l;simp only[go_sem,mV,BU,aUN,x,w,bP y,xo,wZz b,BV,wZz j];exact aG (j+1,eF set d) ⟨hlt,aTY⟩ (by simp only; omega) (by (repeat' (first|exact d_|refine c_ ?_ ?_))<;>first|(simp only[go_sem,l,KI]<;>rfl)|rfl) b_
   ·rw[decide_eq_false y] at e;rw[e] at l;simp only[go_sem,mV,BU,aUN,x,w,bG y,BV,wZz j];exact aG (j+1,eF set d) ⟨hlt,aTY⟩ (by simp only; omega) (by (repeat' (first|exact d_|refine c_ ?_ ?_))<;>first|(simp only[go_sem,l,KI]<;>rfl)|rfl) b_
  ·have x:¬ ((eF set d:Nat):Int)<(set.length:Nat):=Om;rw[decide_eq_false c,aUV] at e;rw[e] at l;simp only[go_sem,mV,BU,aUN,x,BV,wZz j];exact aG (j+1,eF set d) ⟨hlt,aTY⟩ (by simp only; omega) (by (repeat' (first|exact d_|refine c_ ?_ ?_))<;>first|(simp only[go_sem,l,KI]<;>rfl)|rfl) b_
 ·have u:¬ (j:Int)<(s.length:Nat):=Om;have:j=s.length:=Om;subst this;simp only[go_sem,BT,ac,mV,u,aVP];refine Up.up ?_ N;unfold CL mD;exact Lq
theorem avN {C:Ctx} (sc:List (List Int)) (A:sc.length≤1000000000000000) (u:∀ s∈sc,s.length≤1000000000000000∧s.Pairwise (· < ·)) (set:List Int) (y:set.length≤1000000000000000) (w:set.Pairwise (· < ·)) (m:Int) :
  IK.wp C (aU ahO.res (aI (.int .i64 (CM sc set m:Nat)))) (PF.args [lay sc,ints set,.int .i64 m]) .nil:=by
 simp only[go_sem,IK,I2,I3,I4,ahO,aUN];refine wp_loop (α:=Nat) (fun i=>CL sc set m ((sc.take i).countP fun s=>decide (((mD s set:Nat):Int)>m)) i) (fun _=>.nil) (fun i=>i≤sc.length) (fun i=>sc.length-i) 0 (aUT _) (by unfold CL; exact Lq) a_ ?_;intro i hi;by_cases hlt:i<sc.length
 ·have e:(i:Int)<(sc.length:Nat):=Om;have p:(sc.map fun r=>[ints r])[i]?=some [ints sc[i]]:=by simp[hlt]
  have d:=XG (fun s=>decide (((mD s set:Nat):Int)>m)) sc hlt;obtain⟨k1,k2⟩:=u sc[i] (aUQ hlt);have x:(sc.take i).countP (fun s=>decide (((mD s set:Nat):Int)>m))≤i:=aWE List.countP_le_length (by rw[aVJ]; omega);generalize (sc.take i).countP (fun s=>decide (((mD s set:Nat):Int)>m))=n at *
  generalize sc[i]=s at *
  have l:mD set s=mD s set:=xa (w.imp (fun h=>by omega)) (k2.imp (fun h=>by omega));simp only[go_sem,QY,aa,CL,e,I5,p,I6,I7,aUN];have one:=fun {K:bR} [Up K] {F:PF} {H:PH}=>aoD (C:=C) (K:=K) sc set y w m n i s k1 k2 (F:=F) (H:=H);refine one (by unfold mV; exact Lq) ?_;rw[l];by_cases c:((mD s set:Nat):Int)>m
  ·rw[decide_eq_true c] at d;simp only[go_sem,CL,QZ,c,xp,wZz n,RA,wZz i];exact aG (i+1) hlt Om (by (repeat' (first|exact d_|refine c_ ?_ ?_))<;>first|(simp only[go_sem,d,KI]<;>rfl)|rfl) a_
  ·rw[decide_eq_false c] at d;simp only[go_sem,CL,QZ,c,RA,wZz i];exact aG (i+1) hlt Om (by (repeat' (first|exact d_|refine c_ ?_ ?_))<;>first|(simp only[go_sem,d,KI]<;>rfl)|rfl) a_
 ·have e:¬ (i:Int)<(sc.length:Nat):=Om;have:i=sc.length:=Om;subst this;rw[aVP];simp only[go_sem,QY,aa,CL,e,xq];refine aR (.inr rfl) Ev ?_;rfl
def Kept (f:aD) (p:bT) (xs:List Int):Prop:=∀ i,i<f.aTF.length→dN f p i>0→eK f xs i≤dN f p i
theorem Kept.nil (f:aD) (p:bT):Kept f p []:=fun i _ h=>by
 have:eK f [] i=0:=by unfold eK; split<;>simp
 omega
def zY (f:aD) (p:bT) (xs:List Int) (d:Nat) (k:Nat):Prop:=∀ i,i<f.aTF.length→4-(k:Int)<lvl f i→dN f p i>0→eK f (xs++[(d:Int)]) i≤dN f p i
theorem zY.zero {f:aD} (hV:VF f) {p:bT} (xs:List Int) (d:Nat):zY f p xs d 0:=fun i hi h _=>by
 have:=hV.kN hi;omega
theorem zY.done {f:aD} (hV:VF f) {p:bT} (l:dN f p 0≤0) {xs:List Int} {d:Nat} (h:zY f p xs d 4):Kept f p (xs++[(d:Int)]):=fun i hi c=>by
 have:=hV.kN hi;by_cases e:i=0
 ·subst e; omega
 ·exact h i hi Om c
theorem zY.next {f:aD} (hV:VF f) {p:bT} {xs:List Int} {d k:Nat} (y:d<f.aTC.length) (A:k<4) (w:Kept f p xs) (h:zY f p xs d k) (x:dN f p (upN f k (cQ f d))>0→eK f (xs++[(d:Int)]) (upN f k (cQ f d))≤dN f p (upN f k (cQ f d))):zY f p xs d (k+1):=fun i hi B u=>by
 by_cases e:4-(k:Int)<lvl f i
 ·exact h i hi e u
 have l:lvl f i=4-(k:Int):=Om;by_cases c:i=upN f k (cQ f d)
 ·subst c; exact x u
 have:eK f (xs++[(d:Int)]) i=eK f xs i:=by
  unfold eK;split
  ·rfl
  ·rw[aYH,aXZ,List.countP_nil];have:qO f i (d:Int)=false:=by unfold qO cU;rw[l,show (4-(4-(k:Int)).toNat)=k by omega,aWK];simp[show ¬ upN f k (cQ f d)=i from fun h=>c h.symm]
   rw[this];simp
 rw[this];exact w i hi u
theorem aoX {q:Nat→Bool} {n:Nat}:∀ {i:Nat},i<n→q i=true→((aUO n).filter q)[(aUO i).countP q]?=some i:=by
 intro i hi c;have e:aUO n=aUO i++(i::aWP (i+1) (n-i-1)):=by rw[List.range_eq_range',List.range_eq_range',show i::aWP (i+1) (n-i-1)=aWP i (n-i-1+1) from rfl];have:=List.range'_append (s:=0) (m:=i) (n:=n-i-1+1) (step:=1);rw[Nat.one_mul,aVH] at this;rw[this];congr 1;omega
 rw[e,List.filter_append,List.filter_cons_of_pos c,List.countP_eq_length_filter,aXF (aUU _),aXQ];rfl
def InR (l:List Int) (n:Nat):Prop:=∀ x∈l,0≤x∧x<(n:Int)
def VQ (f:aD) (c:List (List Int)) (r:Int) (l:List Int):Bool:=!l.isEmpty&&G8 f c r l
def aAD (f:aD) (e:List (List Int)) (r:Int) (c:List (List Int)) (d:Nat):List (List Int):=match c.findIdx? (fun l=>G8 f e r (l++[(d:Int)])) with
 | some i=>c.set i (c.getD i []++[(d:Int)])
 | none=>c++[[(d:Int)]]
def qh (f:aD) (c:List (List Int)) (r:Int):Nat→List (List Int)
 | 0=>[]
 | d+1=>aAD f c r (qh f c r d) d
def anQ (f:aD) (c:List (List Int)) (r:Int):Bool:=(aUO f.aTC.length).all fun d=>G8 f c r [(d:Int)]
theorem set_perm:∀ (c:List (List Int)) (i:Nat) (x:Int),i<c.length→((c.set i (c.getD i []++[x])).flatten).Perm (c.flatten++[x])
 | [],i,x,h=>by cases h
 | l::c,0,x,_=>by simp only[aYB,List.getD_cons_zero,List.flatten_cons,aVS];exact List.Perm.append_left _ List.perm_append_comm
 | l::c,i+1,x,h=>by have:=set_perm c i x (by simpa using h);simp only[List.set_cons_succ,List.getD_cons_succ,List.flatten_cons,aVS];exact List.Perm.append_left _ this
structure Ig (f:aD) (now:List (List Int)) (r:Int) (n:Nat) (w:List (List Int)):Prop where
 ok:∀ l∈w,VQ f now r l=true
 len:w.flatten.length=n
 nd:w.flatten.Nodup
 rng:InR w.flatten n
theorem Ig.put {f:aD} {c:List (List Int)} {r:Int} {n:Nat} {w:List (List Int)} (h:Ig f c r n w) (y:G8 f c r [(n:Int)]=true):Ig f c r (n+1) (aAD f c r w n):=by
 have p:∀ u:List (List Int),u.flatten.Perm (w.flatten++[(n:Int)])→(∀ l∈u,VQ f c r l=true)→Ig f c r (n+1) u:=fun u e A=>by
  refine⟨A,by rw[e.length_eq,aUS,h.len]; rfl,e.nodup_iff.2 ?_,fun x B=>?_⟩
  ·rw[aXJ];refine⟨h.nd,by simp,fun a y b E=>?_⟩;rw[aWV] at E;subst E;have:=h.rng a y;omega
  ·have:=e.mem_iff.1 B;rw[aWI,aWV] at this;rcases this with B | rfl
   ·have:=h.rng x B; omega
   ·omega
 unfold aAD;split
 ·rename_i i hi;obtain⟨hlt,e,-⟩:=List.findIdx?_eq_some_iff_getElem.1 hi;refine p _ (set_perm w i n hlt) fun l d=>?_;rcases List.mem_or_eq_of_mem_set d with d | rfl
  ·exact h.ok l d
  ·unfold VQ;rw[aUY,aVB hlt,aXH,e];simp
 ·refine p _ (by rw[List.flatten_append]; simp) fun l d=>?_;rw[aWI,aWV] at d;rcases d with d | rfl
  ·exact h.ok l d
  ·unfold VQ;rw[y]; rfl
theorem Fp {f:aD} {c:List (List Int)} {r:Int} (e:anQ f c r=true):∀ d,d≤f.aTC.length→Ig f c r d (qh f c r d)
 | 0,_=>⟨(fun l h=>by cases h),rfl,.nil,fun x h=>by cases h⟩
 | d+1,i=>(Fp e d Om).put (aVD.1 e d (aVM.2 Om))
end Go.PM
namespace Go.RO
open Go
def ins (x:Int):List Int→List Int
 | []=>[x]
 | y::ys=>if y<x then y::ins x ys else if y=x then y::ys else x::y::ys
end Go.RO
namespace Go.PM
open Go Go.Na






def aDP (c:UInt8) (n:Nat):List UInt8:=[c,UInt8.ofNat (97+n/26%26),UInt8.ofNat (97+n%26)]
def Jy (ds:List cF) (level parent aTW:Nat):List cF:=ds++[⟨aDP 110 ds.length,(level:Nat),(parent:Nat),(aTW:Nat),jY⟩]
theorem ayT (a b:Nat) (e:a<4294967296) (i:b<4294967296):(mkT (a:Int) (b:Int)).Ok:=by
 rw[aaD];have c:=aXM a (aUP a b);have d:=aXM b (aUP a b);have k1:nl (a/aUP a b)≤1:=(jI _ _).2 Om;have k2:nl (b/aUP a b)≤1:=(jI _ _).2 Om;refine⟨aV _,aV _,?_,?_⟩
 ·show (aJ _).length≤_;rw[bB]; omega
 ·show (aJ _).length≤_;rw[bB]; omega
theorem Nq {n:Nat} (h:n≤1000000):dK (n:Int):=by unfold dK; omega
def Hq (ds:List cF):Prop:=∀ x∈ds,x.aTR.Ok∧dK x.level∧dK x.parent
theorem Hq.dom {ds:List cF} (h:Hq ds) {level parent aTW:Nat} (d:level≤1000) (e:parent≤1000):Hq (Jy ds level parent aTW):=fun x c=>by
 unfold Jy at c;rw[aWI,aWV] at c;rcases c with c | rfl
 ·exact h x c
 ·exact⟨ayT 0 1 (by decide) (by decide),Nq Om,Nq Om⟩
structure FM (f:aD):Prop where
 ok:f.Ok
 km:∀ p∈f.aTG,1≤p.k∧p.k≤2∧0≤p.m∧p.m≤2
 aTC:f.aTC.length≤9
 pols:1≤f.aTG.length∧f.aTG.length≤2
 vols:∀ x∈f.aTE,0≤x.aTO∧x.aTO<f.aTG.length
theorem FM.pol {f:aD} (h:FM f) {v:Nat} (d:v<f.aTE.length):vL f v<f.aTG.length∧eZ f v∈f.aTG:=by
 have e:=h.vols _ (aUQ d);have i:vL f v=(f.aTE[v]).aTO.toNat:=by rw[vL,getD_at d]
 have c:vL f v<f.aTG.length:=Om;refine⟨c,?_⟩;unfold eZ;rw[aUY,aVB c,aXH];exact aUQ c
theorem FM.K0 {f:aD} (h:FM f) {v:Nat} (c:v<f.aTE.length):1≤fQ f v∧fQ f v≤4:=by
 have:=h.km _ (h.pol c).2;unfold fQ;omega
abbrev aNU (l:List Int) (a:Nat):cB:=.rows 2 [[ints l,.int .i64 (a:Nat)]]
section
variable {C:Ctx} {F:PF} {H Hs:PH} {l:List Int} {o a:Nat}
end
structure ME where
 o:Nat
 o4:Nat
 o5:Nat
 vols:Nat
abbrev ME.boxes (E:ME) (l:List Int) (ext c d e i wp wv:PV) (a:Nat):List BX:=[(E.o5,flB ext c d e i wp wv),(E.o,aNU l a),(E.o4,flZ)]





def aPT (ds:List cF) (i:Nat) (d:cF):Prop:=∃ lev p u:Nat,d.name=aDP 110 (i+1)∧d.level=lev∧1≤lev∧lev≤4∧d.parent=p∧p≤i∧(lvs ds)[p]?=some ((lev:Int)-1)∧d.aTW=u∧1≤u∧u≤64∧d.aTR=jY
structure DV (ds:List cF):Prop where
 root:ds[0]?=some mG
 dom:∀ i (hi:i+1<ds.length),aPT ds i ds[i+1]
theorem DV.new {ds:List cF} (h:DV ds) {level parent up:Nat} (w:1≤level) (x:level≤4) (c:(lvs ds)[parent]?=some ((level:Int)-1)) (A:1≤up) (B:up≤64) :
  DV (Jy ds level parent up)∧(lvs (Jy ds level parent up))[ds.length]?=some (level:Int):=by
 have y:parent<ds.length:=by
  have:=(aVW.1 c).1
  rwa [aUN] at this
 unfold Jy;refine⟨⟨by rw[aXI Om]; exact h.root,fun i hi=>?_⟩,?_⟩
 ·simp only[aUS,aUX] at hi;by_cases hlt:i+1<ds.length
  ·rw[aYM hlt];obtain⟨lev,p,v,g1,g2,g3,g4,d,e,l,u⟩:=h.dom i hlt;exact⟨lev,p,v,g1,g2,g3,g4,d,e,zQ l,u⟩
  ·have:i+1=ds.length:=Om;rw[aYL Om];simp only[List.getElem_singleton];exact⟨level,parent,up,by rw[this],rfl,w,x,rfl,by omega,zQ c,rfl,A,B,rfl⟩
 ·unfold lvs;rw[aVT,aXF (by rw[aUN]; exact aUU _),aUN,aXQ];rfl




theorem aM.store {H:PH} {B:List BX} {L:List LI} (h:aM H B L) (i:Nat) {q s n:Nat} {rows:List (List PV)} (hi:L[i]?=some (.osl q s 0 n,s,rows)) (k:Nat) (c:List PV) :
  ∃ rs,H q=some (.rows s rs)∧n≤rs.length∧rs.take n=rows∧aM (H.set q (.rows s (rs.set k c))) B (L.set i (.osl q s 0 n,s,rows.set k c)):=by
 obtain⟨rs,u,w,e,l⟩:=(h.own i hi).id rfl;injection w with _ _ _ x
 subst x;refine⟨rs,u,e,l,h.NU i hi (.inr ⟨q,rs.set k c,by rw[aWU],by rw[cO],by rw[aWU,aWU]; exact e,by rw[aWU,List.take_set,l]⟩) (fun p d=>.inl d) fun p _ d=>?_⟩;have:p≠q:=d q rfl;rw[aN,if_neg this]

open Go Go.RowKit Go.Sort Go.Shelf Go.Proofs
section
variable {E:Env} {H:PH} {w:World}
end
section
variable {C:Ctx} {ρ:Ren} {name:Nat}
end
abbrev lists (c:List (List Int)):PV:=.sl 1 (c.map fun w=>[ints w])
abbrev WPs:=List (PV × List Int)
def dV (ps:WPs):List (List PV):=ps.map fun p=>[p.1]
def pT (ps:WPs):List LI:=ps.map fun p=>(p.1,1,aW p.2)
def wls (ps:WPs):List (List Int):=ps.map (·.2)
def fL (c:PV) (ps:WPs):List LI:=(c,1,dV ps)::pT ps
section
variable {H:PH} {B:List BX}
theorem oC (ps:WPs):(dV ps).length=ps.length:=aUN _
theorem uh {ps:WPs} {i:Nat} {v:PV} {w:List Int} (hi:ps[i]?=some (v,w)):(pT ps)[i]?=some (v,1,aW w):=by
 unfold pT;rw[aVN,hi]; rfl
theorem Q9 {ps:WPs} {i:Nat} {v:PV} {w:List Int} (hi:ps[i]?=some (v,w)):(dV ps)[i]?=some [v]:=by
 unfold dV;rw[aVN,hi]; rfl
theorem aM.WR (h:aM H B []):aM H B (fL .aB []):=h.mI 1
theorem aM.inner {c:PV} {ps:WPs} (h:aM H B (fL c ps)) {i:Nat} {v:PV} {w:List Int} (hi:ps[i]?=some (v,w)):bE H 1 v (aW w):=h.own (i+1) (uh hi)
theorem aM.outer {c:PV} {ps:WPs} (h:aM H B (fL c ps)):bE H 1 c (dV ps):=h.own 0 rfl
theorem AX (a b:List Int):aW (a++b)=aW a++aW b:=aVT
theorem aM.aNT {p:PV} {ps:WPs} (h:aM H B (fL p ps)) {i b:Nat} {v y:PV} {w src:List Int} {K:PV→PH→Prop} (hi:ps[i]?=some (v,w)) (E:dX H 1 y=some (aW src)) (x:roomFor w.length src.length b) (d:src≠[])
  (u:∀ q H',aM H' B ((p,1,dV ps)::(pT ps).set i (.osl q 1 0 (w++src).length,1,aW (w++src)))→K (.osl q 1 0 (w++src).length) H'):mB H 1 b v y K:=by
 have c:aW src≠[]:=fun e=>d (List.map_eq_nil_iff.1 e);refine h.append (i+1) (uh hi) E (by rw[cV,cV]; exact x) fun v' H' l A=>?_;obtain⟨q,rfl⟩:=A c;rw[← AX,cV] at l ⊢;exact u q H' l
theorem aM.aLE {c n i:Nat} {ps:WPs} {v':PV} {d:List Int} (h:aM H B ((.osl c 1 0 n,1,dV ps)::(pT ps).set i (v',1,aW d))) :
  ∃ rs,H c=some (.rows 1 rs)∧n≤rs.length∧rs.take n=dV ps∧aM (H.set c (.rows 1 (rs.set i [v']))) B (fL (.osl c 1 0 n) (ps.set i (v',d))):=by
 obtain⟨rs,l,p,u,w⟩:=h.store 0 rfl i [v'];refine⟨rs,l,p,u,?_⟩;have e:fL (.osl c 1 0 n) (ps.set i (v',d))=((.osl c 1 0 n,1,dV ps)::(pT ps).set i (v',1,aW d)).set 0 (.osl c 1 0 n,1,(dV ps).set i [v']):=by unfold fL dV pT;rw[List.map_set,List.map_set];rfl
 rw[e];exact w
theorem aM.aGR {c:PV} {ps:WPs} {b:Nat} {y:PV} {K:PV→PH→Prop} (h:aM H B (fL c ps)) (w:dX H 1 y=some [[.aB]]) (p:roomFor ps.length 1 b)
  (l:∀ q H',aM H' B (fL (.osl q 1 0 (ps.length+1)) (ps++[(.aB,[])]))→K (.osl q 1 0 (ps.length+1)) H'):mB H 1 b c y K:=by
 refine h.append 0 (src:=[[.aB]]) rfl w (by rw[oC]; exact p) fun v' H' i u=>?_;obtain⟨q,rfl⟩:=u (by simp);have d:=i.mI 1;rw[aUS,oC] at d ⊢;refine l q H' ?_;have e:fL (.osl q 1 0 (ps.length+1)) (ps++[(.aB,[])])=(((c,1,dV ps)::pT ps).set 0 (.osl q 1 0 (ps.length+1),1,dV ps++[[.aB]]))++[(.aB,1,[])]:=by unfold fL dV pT;rw[aVT,aVT];rfl
 rw[e];exact d
def rI (c:List (List PV)) (d:List (List Int)):Prop:=c.length=d.length∧∀ (i:Nat) r w,c[i]?=some r→d[i]?=some w→r=[ints w]∨(r=[.aB]∧w=[])
theorem rI.nil:rI [] []:=⟨rfl,fun i r w h=>by cases h⟩
theorem rI.snoc {l:List (List PV)} {p:List (List Int)} {u:PV} {w:List Int} (h:rI l p) (y:u=ints w∨(u=.aB∧w=[])):rI (l++[[u]]) (p++[w]):=by
 refine⟨by simp[h.1],fun i r x d e=>?_⟩;rcases Nat.lt_trichotomy i l.length with c | c | c
 ·rw[aXI c] at d;rw[aXI (by rw[← h.1]; exact c)] at e;exact h.2 i r x d e
 ·subst c;rw[aXF (aUU _),aXQ] at d;rw[h.1,aXF (aUU _),aXQ] at e;cases d; cases e;rcases y with rfl | ⟨rfl,rfl⟩
  ·exact .inl rfl
  ·exact .inr ⟨rfl,rfl⟩
 ·rw[aXF Om,aWG (by simp; omega)] at d;cases d
theorem rI.flat {e:List (List PV)} {u:List (List Int)} (h:rI e u):Flat e:=Flat.of fun r p c d q s rs=>by
 obtain⟨i,hi⟩:=List.mem_iff_getElem?.1 p;have l:=(aVW.1 hi).1;rcases h.2 i r _ hi (aVB (by rw[← h.1]; exact l)) with rfl | ⟨rfl,-⟩
 ·rw[aWV] at d; subst d; rfl
 ·rw[aWV] at d; subst d; rfl
theorem rI.co {y:List (List PV)} {x:List (List Int)} (h:rI y x):Co (.sl 1 y) (lists x):=by
 have u:∀ (i:Nat) r t,y[i]?=some r→(x.map fun w=>[ints w])[i]?=some t→∃ w,t=[ints w]∧(r=[ints w]∨(r=[.aB]∧w=[])):=fun i r t e c=>by
  rw[aVN] at c;cases E:x[i]? with
  | none=>rw[E] at c; cases c
  | some w =>rw[E] at c;cases c;exact⟨w,rfl,h.2 i r w e E⟩
 refine .sl (by rw[aUN,h.1]) (fun i r t e c=>?_) (fun i j p q d l=>?_)
 ·obtain⟨w,rfl,A | ⟨A,-⟩⟩:=u i r t e c<;>subst A<;>rfl
 ·unfold at2 at d l;cases e:y[i]? with
  | none=>rw[e] at d; cases d
  | some r =>
   cases c:(x.map fun w=>[ints w])[i]? with
   | none=>rw[c] at l; cases l
   | some t =>
    rw[e] at d;rw[c] at l;obtain⟨w,rfl,A⟩:=u i r t e c;rcases A with rfl | ⟨rfl,rfl⟩
    ·have:some p=some q:=d.symm.trans l;cases this;exact .refl _
    ·cases j with
     | zero=>cases d; cases l; exact .nil 1
     | succ j=>cases d
end
end Go.PM
