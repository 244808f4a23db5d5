/-
  Texts of ours, joined: R11W2 R11W3 R11W4 R11W5 R11W6 L11W14 L11W15 Jn5 Pm40 Pm41 Pm42 CsCode CsPlain CsP2 CyW1 CyW2 CyW3 CyW4 RfCode RfPlain R17Code RhW1 RfW1 RfW2 CyW5 CyW6 CyW7 CsP3 RfP2 RfP3 RfP4 RoPlain RfP5 RwP1 RwP2 R. No condition.
-/
import Derived.Test.YtgfeljaimmnmmaaGreatDoorRa1
import Derived.Test.YtgfeljaimmnmmaaGreatDoorRa2
import Derived.Test.YtgfeljaimmnmmaaGreatDoorRa3
import Derived.Test.YtgfeljaimmnmmaaGreatDoorRa4
import Derived.RangeFuncRecord
import Derived.Lib.SlicesCompact
import Derived.Shelf.Sort.Plain
import Derived.Shelf.Slices.CompactI
import Derived.Shelf.Slices.In.SortNone
set_option linter.unusedSimpArgs false
set_option linter.unusedVariables false
open Nat renaming reduceEqDiff → γ, reduceAdd → δ, reduceSub → ε, reduceMul → ζ, reduceLT → η, reduceLeDiff → θ, reduceBEq → τ
open Int renaming reduceLT → ι, reduceLE → κ, reduceEq → μ, reduceToNat → ν, reduceAdd → ξ, reduceNeg → ο, reduceBEq → ρ, reduceBNe → σ
open List renaming reduceReplicate → υ
open List renaming length_map → a6K, range → a6L, getElem_mem → a6M, replicate → a6N, length_append → a6T, mem_cons → a6V, length_singleton → a6X, getElem?_eq_getElem → a6Y, all_eq_true → a7B, getD_eq_getElem?_getD → a7C, length_take → a7D, take_of_length_le → a7F, not_mem_nil → a7G, getElem?_map → a7J, map_append → a7L, take_length → a7M, mem_map → a7N, mem_range → a7P, getElem?_eq_some_iff → a7T, append_assoc → a7V, drop_zero → a7W, getElem?_eq_none → a7Z, map_cons → a8B, length_cons → a8D, take_succ_eq_append_getElem → a8E, append_nil → a8H, drop_eq_getElem_cons → a8I, mem_append → a8J, range' → a8K, Sublist → a8L, length_set → a8M, getElem_map → a8P, length_drop → a8Q, map_nil → a8W, getElem?_append_left → a8Z, mem_singleton → a9A, getElem?_append_right → a9B, getElem_of_mem → a9C, mem_of_getElem? → a9D, length_nil → a9F, nodup_append → a9G, set_append_right → a9H, take_append_drop → a9I, ext_getElem → a9R, range_succ → a9U, all_append → a9X, getElem?_take → a9Y, drop_of_length_le → baE, length_filter_le → baF
open Nat renaming gcd → a6O, zero_le → a6Q, le_refl → a6S, mul_add → a6Z, lt_or_ge → a7H, zero_add → a7I, mul_assoc → a7K, mul_comm → a7O, add_mul → a7Q, mul_le_mul_right → a7R, le_trans → a7U, mod_eq_of_lt → a7X, mod_lt → a8A, pow_succ → a8C, add_zero → a8N, eq_zero_or_pos → a8R, min_eq_left → a8S, mul_le_mul_left → a8T, pos_of_ne_zero → a8U, add_assoc → a8X, pow_pos → a9E, pow_le_pow_right → a9J, div_lt_iff_lt_mul → a9M, sub_self → a9N, succ_mul → a9O, div_add_mod → a9Z, div_eq_of_lt → baA, div_le_self → baB
open Bool renaming not_true → a6P, false_and → a6R, true_and → a6W, not_false → a7A, and_eq_true → a7E, and_false → a7S, and_true → a8V, and_assoc → a9L, and_self → a9Q, false_eq_true → a9T
open Option renaming map_eq_some_iff → a6U, map_some → a7Y, some → a8Y, getD_some → a9K, bind_some → a9V, bind_eq_some_iff → baC
open Array renaming replicate → a8F, length_toList → a9P, getElem?_eq_some_iff → a9S, getElem?_eq_getElem → a9W, getD_eq_getD_getElem? → baD
open Int renaming toNat_natCast → a8G, tdiv → a8O
namespace Go.PM
open Go Go.Na
theorem V9 {C:Ctx} (f:aE) (hV:VF f) (p:bT) (w:Fits p.a5A) (d:Nat) (u:d<f.a4Z.length) :
  wG.wp C (aV KQ.res (aF (.bool (p.a5A.contains ((mdl f d:Nat):Int))))) (PF.args [.agg p.cells,.agg f.cells,.int .i64 d]) .nil:=by
 have y:p.a5A.length≤9223372036854775807:=w;simp only[go_sem,wG,XD,XE,KQ];refine wp_loop (α:=Nat) (fun k=>((((PF.nil.set 2 (.int .i64 d)).set 3 (.bG p.cells)).set 4 (.bG f.cells)).set 7 (.int .i64 k))) (fun _=>.nil) (fun k=>k≤p.a5A.length∧p.a5A.contains ((mdl f d:Nat):Int)=(p.a5A.drop k).contains ((mdl f d:Nat):Int)) (fun k=>p.a5A.length-k) 0 ⟨a6Q _,rfl⟩ Lq a_ ?_;rintro k ⟨A,l⟩;simp only[go_sem,XC,XF,a6K];by_cases hlt:k<p.a5A.length
 ·have i:(k:Int)<(p.a5A.length:Nat):=Om;have q:(p.a5A.map fun x=>[PV.int .i64 x])[k]?=some [.int .i64 p.a5A[k]]:=by simp[hlt]
  rw[a8I hlt,List.contains_cons] at l;have e:(p.a5A[k]==((mdl f d:Nat):Int))=(((mdl f d:Nat):Int)==p.a5A[k]):=BEq.comm;simp only[go_sem,i];refine bV .nil eM a_ ?_;cases c:((mdl f d:Nat):Int)==p.a5A[k] with
  | true =>rw[c] at e;rw[c,Bool.true_or] at l;simp only[go_sem,DP,q,pD u,hV.jv u,e,XG];refine aQ (.inr rfl) Ev ?_;rw[bO,l]
  | false =>rw[c] at e;rw[c,Bool.false_or] at l;simp only[go_sem,DP,q,pD u,hV.jv u,e,XH,wZz k];exact aD (k+1) ⟨hlt,l⟩ Om Lq b_
 ·have i:¬ (k:Int)<(p.a5A.length:Nat):=Om;have:k=p.a5A.length:=Om;subst this;rw[List.drop_length] at l;simp only[go_sem,i,XI];refine aQ (.inr rfl) Ev ?_;rw[bO,l];rfl
theorem U5 {p:Int→Bool} {xs:List Int} {k:Nat} (h:k<xs.length):(xs.take (k+1)).countP p=(xs.take k).countP p+if p xs[k] then 1 else 0:=by
 rw[a8E h,List.countP_append];by_cases c:p xs[k]<;>simp[List.countP_cons,c]
theorem avP {C:Ctx} (L:Ht C) (f:aE) (hV:VF f) (row:List Int) (J:Gk f row) (n:Nat) (E:n<f.a5C.length) :
  DQ.wp C (aV nc.res (aF (.int .i64 (row.countP (lD f n):Nat)))) (PF.args [.agg f.cells,ints row,.int .i64 n]) .nil:=by
 have H:=J.len;have u:=asZ hV E;simp only[go_sem,DQ,C8,C9,Da,nc];refine wp_loop (α:=Nat) (fun k=>(((((PF.nil.set 1 (ints row)).set 2 (.int .i64 n)).set 3 (.bG f.cells)).set 7 (.int .i64 ((row.take k).countP (lD f n):Nat))).set 8 (.int .i64 k))) (fun _=>.nil) (fun k=>k≤row.length) (fun k=>row.length-k) 0 (a6Q _) Lq a_ ?_;intro k N;simp only[go_sem,C7,Db,a6K];by_cases hlt:k<row.length
 ·have i:(k:Int)<(row.length:Nat):=Om;have y:(row.map fun x=>[PV.int .i64 x])[k]?=some [.int .i64 row[k]]:=by simp[hlt]
  have O:=J.at_ _ (a6M hlt);have w:=U5 (p:=lD f n) hlt;have M:(row.take k).countP (lD f n)≤16777216:=by have:=List.countP_le_length (p:=lD f n) (l:=row.take k);rw[a7D] at this;omega
  have q:lD f n row[k]=(decide (0≤row[k])&&decide (cL f row[k].toNat (lvl f n)=n)):=rfl;have fin:∀ (c:Nat) (A:PF),(row.take (k+1)).countP (lD f n)=c→((((((PF.nil.set 1 (ints row)).set 2 (.int .i64 n)).set 3 (.bG f.cells)).set 7 (.int .i64 c)).set 8 (.int .i64 (k+1:Nat))):PF).le A→fB (fun k:Nat=>(((((PF.nil.set 1 (ints row)).set 2 (.int .i64 n)).set 3 (.bG f.cells)).set 7 (.int .i64 ((row.take k).countP (lD f n):Nat))).set 8 (.int .i64 k))) (fun _=>.nil) (fun k=>k≤row.length) (fun k=>row.length-k) (row.length-k) (eP 0 (fV C (aC.wp C (.seq (.region SP) .ret)) (aV [.tmp 6] (aF (.int .i64 (row.countP (lD f n):Nat)))))) .normal A .nil :=
   fun c A e h=>aD (k+1) hlt Om (by rw[e]; exact h) b_
  generalize (row.take k).countP (lD f n)=c at *
  generalize row[k]=x at *
  simp only[go_sem,i];refine bV .nil (soS f) a_ ?_;by_cases B:x≥0
  ·obtain⟨d,rfl⟩:∃ d:Nat,x=d:=⟨x.toNat,by omega⟩;have K:d<f.a4Z.length:=Om;rw[decide_eq_true (Om:(0:Int)≤d),a6W,a8G] at q;rw[q] at w;simp only[go_sem,SO,y,B,eY E,sP E];refine bM (De f d (lvl f n)) (L.lS f d (lvl f n) hV K u.1 u.2) Sq a_ ?_;by_cases F:cL f d (lvl f n)=n
   ·rw[decide_eq_true F,if_pos rfl] at w;simp only[go_sem,bH (show ((cL f d (lvl f n):Nat):Int)=(n:Int) by omega),Dc,wZz c,BQ,wZz k];exact fin (c+1) _ w Lq
   ·rw[decide_eq_false F,if_neg (by decide),a8N] at w;simp only[go_sem,bF (show ((cL f d (lvl f n):Nat):Int)≠(n:Int) by omega),BQ,wZz k];exact fin c _ w Lq
  ·rw[decide_eq_false (show ¬ 0≤x from B),a6R] at q;rw[q,if_neg (by decide),a8N] at w;simp only[go_sem,SO,y,B,BQ,wZz k];exact fin c _ w Lq
 ·have i:¬ (k:Int)<(row.length:Nat):=Om;have:k=row.length:=Om;subst this;simp only[go_sem,i,SP,a7M];refine aQ (.inr rfl) Ev ?_;rfl




theorem aEB {C:Ctx} (l:List Int) (e:Fits l):HF.wp C (aV Gm.res (aF (.bool true))) (PF.args [ints l,ints l]) .nil:=by
 have i:l.length≤9223372036854775807:=e;simp only[go_sem,HF,Jr,Js,Gm,a6K,cA (show (l.length:Int)=(l.length:Nat) from rfl),Jt];refine wp_loop (α:=Nat) (fun k=>(((PF.nil.set 0 (ints l)).set 1 (ints l)).set 5 (.int .i64 k))) (fun _=>.nil) (fun k=>k≤l.length) (fun k=>l.length-k) 0 (a6Q _) Lq a_ ?_;intro k p;simp only[go_sem,Jq,Ju,a6K];by_cases hlt:k<l.length
 ·have c:(k:Int)<(l.length:Nat):=Om;have d:(l.map fun x=>[PV.int .i64 x])[k]?=some [.int .i64 l[k]]:=by simp[hlt]
  simp only[go_sem,c];refine bV .nil eM a_ ?_;simp only[go_sem,Jv,d,cA (show l[k]=l[k] from rfl),Jw,wZz k];exact aD (k+1) hlt Om Lq b_
 ·have c:¬ (k:Int)<(l.length:Nat):=Om;simp only[go_sem,c,Jx];refine aQ (.inr rfl) rfl ?_;rfl

structure mS (C:Ctx):Prop extends aTR C where
 r19:aM C 19 aPA
 r21:aM C 21 aUX
 r22:aM C 22 aZB
 r46:aM C 46 Tj
 r48:aM C 48 pi
 r49:aM C 49 He
 r51:aM C 51 p5
 r52:aM C 52 VI
 r53:aM C 53 Hg
 r54:aM C 54 Hh
 r55:aM C 55 apM
 r56:aM C 56 qc
 r57:aM C 57 Hd
 r60:aM C 60 qb
 r61:aM C 61 BP
 r62:aM C 62 VK
 r63:aM C 63 qe
 r64:aM C 64 VJ
 r65:aM C 65 VL
 r66:aM C 66 aqA
 r67:aM C 67 r8
 r68:aM C 68 apZ
 r69:aM C 69 apY
 r70:aM C 70 q9
 r71:aM C 71 rc
 r72:aM C 72 ML
 r73:aM C 73 re
 r74:aM C 74 rg
 r75:aM C 75 VM
 r76:aM C 76 GG
 r77:aM C 77 KQ
 r78:aM C 78 sat
 r79:aM C 79 aVR
 r80:aM C 80 nc
 r81:aM C 81 VA
 r83:aM C 83 aVV
 r84:aM C 84 aVZ
 r85:aM C 85 aZH
 r86:aM C 86 aSE
 r87:aM C 87 aZI
 r88:aM C 88 nb
 r89:aM C 89 a2P
 r90:aM C 90 a2S
 r94:aM C 94 Gm
theorem KC {C:Ctx} (c:mS C):fe C :=
 {sY c.tofO with
  int:=fun n p=>(c.r47.go (VG (sY c.tofO) n p) rfl).seen
  mul:=fun a b d e i l=>(c.r36.go (afE (RS c.tofO) a b d e i l) rfl).seen
  add:=fun a b d e i l=>(c.r30.go (adW (zX c.tofO) a b d e i l) rfl).seen
  sub:=fun a b d e i l=>(c.r37.go (afM (zX c.tofO) a b d e i l) rfl).seen }
theorem zY {C:Ctx} (c:mS C):NV C :=
 {KC c with
  valid:=fun x d=>c.r56.go (Eu (KC c) x.neg x.num x.den d.1 d.2.1 d.2.2.1 d.2.2.2) rfl
  big:=fun x=>c.r48.go (Eb x.1 (aH x.2.1) (aH x.2.2)) rfl }
theorem RT {C:Ctx} (c:mS C):ff C :=
 {zY c with
  fits:=fun x=>(c.r57.go (To (zY c) x) rfl).seen
  red:=fun x i=>(c.r52.go (p6 (zY c) x i) rfl).seen
  prod:=fun a b d e l p q u=>c.r60.go (Ep (KC c) a b d e l p q u) rfl }
theorem pH {C:Ctx} (c:mS C):vG C :=
 {RT c with
  order:=fun x y d e i l=>c.r51.go (Ee (RT c) x y d e i l) rfl }
theorem l5 {C:Ctx} (c:mS C):Gj C :=
 {pH c with
  less:=fun x y d e i l=>c.r49.go (Tv (pH c) x y d e i l) rfl
  same:=fun x y d e i l=>c.r53.go (T5 (pH c) x y d e i l) rfl
  sign:=fun x d i=>c.r54.go (T8 (pH c) x d i) rfl
  plus:=fun x y d e=>(c.r46.go (afV (pH c) x y d e) rfl).seen }
theorem zV {C:Ctx} (c:mS C):NR C :=
 {l5 c with
  sum:=fun l e d=>(c.r55.go (agJ (l5 c) l e d) rfl).seen
  inn:=fun n lo hi=>c.r76.go (ta n lo hi) rfl
  code:=fun k m=>c.r61.go (Rs k m) rfl }
theorem FQ {C:Ctx} (c:mS C):TY C :=
 {zV c with
  small:=fun x d=>c.r74.go (Fm (zV c) x d) rfl
  nums:=fun k m q s0 s1 s2 s3 s4=>c.r72.go (YF (zV c) k m q s0 s1 s2 s3 s4) rfl
  sizes:=fun e i l p u w=>c.r73.go (Fj e i l p u w) rfl }
theorem FS {C:Ctx} (c:mS C):TZ C :=
 {FQ c with
  smalls:=fun l d n=>c.r75.go (ri (FQ c) l d n) rfl }
theorem FT {C:Ctx} (c:mS C):UA C :=
 {FS c with
  reps:=fun l d m=>c.r66.go (ahH (FS c) l d m) rfl }
theorem FU {C:Ctx} (c:mS C):UB C :=
 have d:∀ n:Nat,aG C 65 [.int .u8 n] .nil (aF (.bool (fA n))):=fun n=>c.r65.go (qv n) rfl;have e:∀ n:Nat,aG C 63 [.int .u8 n] .nil (aF (.bool (jW n))):=fun n=>c.r63.go (Ez n) rfl
 {FT c with
  name:=fun s=>c.r62.go (qj d (fun n=>c.r64.go (qf d e n) rfl) s) rfl
  index:=fun l i s=>c.r71.go (Fc l i s) rfl }
theorem FW {C:Ctx} (c:mS C):nY C :=
 {FU c with
  fresh:=fun l e s w H d=>c.r70.go (E8 (FU c) l e s w H d) rfl }
theorem vk {C:Ctx} (c:mS C):pP C :=
 {FW c with
  law:=fun l d=>c.r68.go (agY (FW c) l d) rfl }
theorem acX {C:Ctx} (c:mS C):UC C :=
 {vk c with
  dur:=fun m rep e t h i d=>c.r69.go (agU (FT c) m rep e t h i d) rfl }
open Go Go.RowKit
def BA (R:PH→Prop):bQ
 | .normal,_,H=>R H
 | _,_,_=>False
theorem bL.putObj {E:Env} {H:PH} {w:World} {l:Nat} {o o':Obj} (hW:bL E H w) (y:w.heap[l]?=some o) (A:∀ c t b,o≠.cells c t b) (B:H l=none):bL E H (w.putObj l o'):=by
 refine⟨fun b cs h=>?_,fun q x h=>?_,fun q n h=>?_⟩
 ·obtain⟨d,ty,u,i⟩:=hW.g b cs h;have:b≠l:=fun e=>by rw[e,y] at i; exact A _ _ _ (by injection i)
  exact⟨d,ty,u,(World.putObj_heap_other this).trans i⟩
 ·obtain⟨d,i⟩:=hW.h q x h;have:q≠l:=fun e=>by rw[e,B] at h; cases h
  exact⟨by rw[World.putObj_size]; exact d,i.mono (.refl E) (World.putObj_heap_other this)⟩
 ·obtain⟨p,ty,u,d,i⟩:=hW.s q n h;have:q≠l:=fun e=>by rw[e,y] at d; exact A _ _ _ (by injection d)
  exact⟨p,ty,u,(World.putObj_heap_other this).trans d,i⟩
theorem bL.setObj {E:Env} {H:PH} {w:World} {l:Nat} {o:Obj} {x:cC} (hW:bL E H w) (i:w.heap[l]?=some o) (A:∀ c t b,o≠.cells c t b) (B:NQ E w l x):bL E (H.set l x) w:=by
 refine⟨fun b cs h=>?_,fun q y h=>?_,hW.s⟩
 ·obtain⟨u,ty,p,d⟩:=hW.g b cs h;have:¬ b=l:=fun e=>by rw[e,i] at d; exact A _ _ _ (by injection d)
  refine⟨fun y F=>u y ?_,ty,p,d⟩
  rwa [aT,if_neg this] at F
 ·rw[aT] at h;split at h
  ·rename_i e;cases h;subst e;exact⟨(a9S.1 i).1,B⟩
  ·exact hW.h q y h
theorem aBV {c:Code} {l m:Nat} {P:Program} {Q:Exit→Act→World→Prop} {d tm':Array Value} {ds:List Deferred} {w:World} (e:d=tm') (h:c.wpIn (Fz (some l)) m P Q { tmps:=tm',defers:=ds } w):c.wpIn (Fence.wide.inRound l) m P Q { tmps:=d,defers:=ds } w:=by
 subst e; exact h
section
variable {C:Ctx} {T:Tbl}
theorem W4 (U:C.P=T.P) (M:C.num=T.num) {n t l:Nat} {B J:Code} {ε O:aC} (h1:T.code n B=some ε) (h2:T.code n J=some O) (ht:t<n) {F:PF} {x:PV} {H:PH} {R:PH→Prop} (hl:H l=none)
  (Λ:ε.wp C (fV C (O.wp C) (BA R)) (F.set t x) H) :
  EZ C l [x] (H.set l (.loop F n t B J)) (fun r H'=>r=.bool true∧∃ H2,R H2∧H2 l=none∧H'=H2.set l (.loop F n t B J)):=by
 intro E w vs hN hW Θ;obtain⟨vl⟩:=vs;cases Θ with
 | cons e1 e2 =>
 cases e2;rename_i v;obtain⟨hlt,rec,S,N,δ,γ,has,θ,ο,hF⟩:=hW.h l (.loop F n t B J) (by rw[cN]);have ω:bL E H w:=hW.weaken fun o y ho=>by
  have:¬ o=l:=fun e=>by rw[e,hl] at ho; cases ho
  rw[aT,if_neg this]; exact ho
 refine⟨rec.fn,_,rec.assign,rec.body,run_yield S (by rw[γ]; rfl),?_⟩;rw[has,θ,γ];refine roundIn_of_wpIn (F:=Fence.wide) trivial ?_;have hA:dD [] n E (F.set t x) { tmps:=rec.tmps.setIfInBounds t v,defers:=[] }:=by
  refine⟨by simp[ο],rfl,fun i pv hi=>?_⟩;rw[jS] at hi;split at hi
  ·rename_i e;cases hi;subst e;simp only[baD];rw[Array.getElem?_setIfInBounds_self_of_lt Om];exact e1
  ·rename_i e;simp only[baD];rw[Array.getElem?_setIfInBounds_ne (fun h=>e h.symm),← baD];exact hF i pv hi
 rw[U];refine aBV (tm':=rec.tmps.setIfInBounds t v) (by simp) ?_;refine pR (ro:=some l) (fu:=0) U M B ε (fV C (O.wp C) (BA R)) _ E (F.set t x) H _ w h1 Λ hA ω (hN.trans M) fun e E1 F1 H1 a1 A τ υ p W=>?_;cases e with
 | exit id=>exact W.elim
 | ret=>exact W.elim
 | normal =>
  have Z:A.heap[l]?=some (.loop rec):=(p.block l hlt hl).trans S;have V:H1 l=none:=by
   cases hh:H1 l with
   | none=>rfl
   | some y =>
    rcases p.new l y hh with ⟨z,u⟩ | hge
    ·rw[hl] at u; cases u
    ·omega
  refine⟨_,run_beginRound Z N,?_⟩;have φ:=υ.putObj (o':=.loop { rec with state:=.busy }) Z (fun _ _ _ h=>by cases h) V;have Q:l<A.heap.size:=(a9S.1 Z).1;have Δ:(A.putObj l (.loop { rec with state:=.busy })).heap[l]?=some (.loop { rec with state:=.busy }):=World.putObj_heap_same Q;have ρ:(A.putObj l (.loop { rec with state:=.busy })).heap.size=A.heap.size:=World.putObj_size;have β:∀ b,b≠l→(A.putObj l (.loop { rec with state:=.busy })).heap[b]?=A.heap[b]?:=fun b hb=>World.putObj_heap_other hb;have ξ:(A.putObj l (.loop { rec with state:=.busy })).os=A.os:=rfl;have σ:(A.putObj l (.loop { rec with state:=.busy })).tape=A.tape:=rfl;have ν:(A.putObj l (.loop { rec with state:=.busy })).output=A.output:=rfl;generalize A.putObj l (.loop { rec with state:=.busy })=w2 at *
  refine pR (ro:=some l) (fu:=0) U M J O (BA R) _ E1 F1 H1 a1 w2 h2 W τ φ (p.env.num.trans (hN.trans M)) fun e2 E2 F2 H2 a2 w3 Ξ χ q X=>?_;cases e2 with
  | exit id=>exact X.elim
  | ret=>exact X.elim
  | normal =>
   have α:w3.heap[l]?=some (.loop { rec with state:=.busy }):=(q.block l (by rw[ρ]; exact Q) V).trans Δ;have μ:l<w3.heap.size:=(a9S.1 α).1;have η:H2 l=none:=by
    cases hh:H2 l with
    | none=>rfl
    | some y =>
     rcases q.new l y hh with ⟨z,u⟩ | hge
     ·rw[V] at u; cases u
     ·omega
   have ζ:({ { rec with state:=.busy } with state:=if (none:Option Code).isNone then .ready else .done,pending:=none }:Loop)=rec:=by obtain⟨a,b,c,d,e,f,g,h⟩:=rec;simp only at N δ;subst N δ;rfl
   refine⟨_,_,run_endRound none α,?_⟩;rw[ζ];have ψ:=(χ.putObj (o':=.loop rec) α (fun _ _ _ h=>by cases h) η);have κ:(w3.putObj l (.loop rec)).heap[l]?=some (.loop rec):=World.putObj_heap_same μ;have ι:E.le E2:=p.env.trans q.env;refine⟨.bool true,.bool true,E2,H2.set l (.loop F n t B J),rfl,ψ.setObj κ (fun _ _ _ h=>by cases h) ⟨rec,κ,N,δ,γ,has,θ,ο,fun i pv hi=>(hF i pv hi).mono ι⟩,.bool true,?_,rfl,H2,X,η,rfl⟩;refine⟨ι,?_,?_,?_,?_,fun b hb hn=>?_,fun o y ho=>?_,fun b cs hb=>?_⟩
   ·exact q.os.trans (ξ.trans p.os)
   ·exact q.tape.trans (σ.trans p.tape)
   ·exact q.output.trans (ν.trans p.output)
   ·have:=p.size;have:=q.size;rw[World.putObj_size];omega
   ·have Y:b≠l:=fun e=>by rw[e,cN] at hn; cases hn
    rw[aT,if_neg Y] at hn;have Γ:H1 b=none:=by
     cases hh:H1 b with
     | none=>rfl
     | some y =>
      rcases p.new b y hh with ⟨z,u⟩ | hge
      ·rw[hn] at u; cases u
      ·omega
    rw[World.putObj_heap_other Y,q.block b (by have:=p.size; omega) Γ,β b Y,p.block b hb hn]
   ·rw[aT] at ho;split at ho
    ·rename_i e;exact .inl ⟨_,by rw[e,cN]⟩
    ·rename_i e;rcases q.new o y ho with ⟨z,u⟩ | hge
     ·rcases p.new o z u with ⟨z2,K⟩ | hge
      ·exact .inl ⟨z2,by rw[aT,if_neg e]; exact K⟩
      ·exact .inr hge
     ·have:=p.size;exact .inr Om
   ·rcases q.newG b cs hb with hg | ⟨z,u⟩ | hge
    ·rcases p.newG b cs hg with hg | ⟨z,u⟩ | hge
     ·exact .inl hg
     ·have e:¬ b=l:=fun e=>by rw[e,hl] at u; cases u
      exact .inr (.inl ⟨z,by rw[aT,if_neg e]; exact u⟩)
     ·exact .inr (.inr hge)
    ·rcases p.new b z u with ⟨z2,K⟩ | hge
     ·have e:¬ b=l:=fun e=>by rw[e,hl] at K; cases K
      exact .inr (.inl ⟨z2,by rw[aT,if_neg e]; exact K⟩)
     ·exact .inr (.inr hge)
    ·have:=p.size;exact .inr (.inr Om)
end
open Go Go.RowKit
abbrev uT (D:Nat):Deferred:={ target:=.collected D,args:=#[] }
theorem bL.alloc {E:Env} {H:PH} {w:World} (hW:bL E H w) (o:Obj):bL E H (w.alloc o):=by
 have e:(w.alloc o).heap.size=w.heap.size+1:=World.size_alloc w o;have c:∀ b,b<w.heap.size→(w.alloc o).heap[b]?=w.heap[b]?:=fun b hlt=>Below.heap_alloc w o b hlt;exact hW.same Om (fun b hlt _=>c b hlt) (fun q x d=>c q (hW.h q x d).1)
section
variable {C:Ctx} {T:Tbl} {ds:List Deferred} {fu:Nat}
theorem aUE {f:FuncId} {args:Array Value} {w:World} {P:Program} {fn:Func} (e:P.funcs[f]?=some fn) (i:fn.body.isSome=true) (d:(fn.name=="runtime.NumGoroutine")=false):(callFunc f args).run P w=.ok (.enter f args) w:=by
 have c:fn.body.isNone=false:=by cases h:fn.body<;>simp_all
 simp only[callFunc,Sem.run_bind,Sem.run_pure,Result.andThen_ok,run_program,e,d,c,a9T,if_false]
def Hp (C:Ctx) (name:Nat) (cs:List PV) (F:PF) (H:PH) (n t:Nat) (c d:Code) (e:PH→Prop):Prop :=
 ∀ l,H l=none→aG C name (wB l::cs) (H.set l (.loop F n t c d)) (fun _ H'=>∃ H2,e H2∧H2.le H'∧H2 l=none∧H' l=some (.loop F n t c d))
theorem V6 (α:C.P=T.P) (Z:C.num=T.num) {n t name:Nat} {g:Operand} {pg:aP} {q A:Code} {cs:List PV} {E:Env} {F:PF} {H:PH} {a:Act} {w:World} {KH:PH→Prop} {Q:Exit→Act→World→Prop} (hg:T.opd g=some pg) (ω:pg.ev F=some (.fn name cs))
  (Γ:Hp C name cs F H n t q A KH) (Y:dD ds n E F a) (hW:bL E H w) (hN:E.num=T.num)
  (hT:∀ D W H2 w',dD (uT D::ds) n W F { a with defers:=uT D::a.defers }→bL W H2 w'→Ext E H w W H2 w'→w'.heap[D]?=some (.deferred (some []))→H2 D=none→w.heap.size≤D→KH H2→Q .normal { a with defers:=uT D::a.defers } w') :
  (Code.rangeFunc g #[t] q A).wpIn (Fz none) fu T.P Q a w:=by
 have r:=bC hg ω Y hN;generalize Φ:a.eval g=vg at r;cases r with
 | fn vc χ ψ =>
 have J:∀ o x,H o=some x→o<w.heap.size:=fun o x ho=>(hW.h o x ho).1;have nD:H w.heap.size=none:=by
  cases h:H w.heap.size with
  | none=>rfl
  | some x=>have:=J _ x h; omega
 have nl:H (w.heap.size+1)=none:=by
  cases h:H (w.heap.size+1) with
  | none=>rfl
  | some x=>have:=J _ x h; omega
 obtain⟨⟨fn,hf,R,Δ⟩,S⟩:=Γ (w.heap.size+1) nl;rw[α] at hf;refine wpIn_rangeFunc fun ν _=>?_;obtain⟨rec,M⟩:∃ rec:Loop,rec={ state:=.ready,pending:=none,fn:=ν,tmps:=a.tmps,params:=#[t],assign:=q,body:=A,defers:=w.heap.size }:=⟨_,rfl⟩;obtain⟨d,c⟩:∃ d,(w.alloc (.deferred (some []))).alloc (.loop rec)=d:=⟨_,rfl⟩;have ι:(w.alloc (.deferred (some []))).heap.size=w.heap.size+1:=World.size_alloc _ _;have Ω:d.heap.size=w.heap.size+2:=by rw[← c,World.size_alloc,ι]
 have η:∀ b,b<w.heap.size→d.heap[b]?=w.heap[b]?:=fun b R=>by rw[← c];exact (Below.heap_alloc _ _ b Om).trans (Below.heap_alloc _ _ b R)
 have ο:d.heap[w.heap.size]?=some (.deferred (some [])):=by rw[← c];exact (Below.heap_alloc _ _ _ Om).trans (World.alloc_heap_new w _)
 have ε:d.heap[w.heap.size+1]?=some (.loop rec):=by
  rw[← c];have:=World.alloc_heap_new (w.alloc (.deferred (some []))) (.loop rec)
  rwa [ι] at this
 have υ:bL E H d:=by rw[← c]; exact (hW.alloc _).alloc _
 have φ:bL E (H.set (w.heap.size+1) (.loop F n t q A)) d:=υ.setObj ε (fun _ _ _ h=>by cases h) (by subst M;exact⟨_,ε,rfl,rfl,rfl,rfl,rfl,Y.size,Y.t⟩);have Λ:d.os=w.os:=by rw[← c]; rfl
 have Ξ:d.tape=w.tape:=by rw[← c]; rfl
 have Θ:d.output=w.output:=by rw[← c]; rfl
 have K:C.num name=E.num name:=by rw[Z,hN]
 refine⟨w.heap.size+1,[uT w.heap.size],d,{ target:=.fn (.func (E.num name)) vc,args:=#[.func (.yield (w.heap.size+1)) #[] #[]] },d,E.num name,#[Value.func (.yield (w.heap.size+1)) #[] #[]]++vc,d,?_,?_,?_,?_,?_,?_⟩
 ·rw[← c,M];exact run_enterLoop_outer _ _ _ _ _
 ·simp only[resolve,Φ];simp[go_sem]
 ·exact fun _ _=>trivial
 ·simp only[invoke];exact aUE (by rw[← K]; exact hf) R Δ
 ·intro h; cases h
 ·have O:eE E (wB (w.heap.size+1)::cs) (#[Value.func (.yield (w.heap.size+1)) #[] #[]]++vc).toList:=by rw[Array.toList_append];exact .cons (.lit _) (eE.aMT (by simpa using χ) fun j p u hp hu=>ψ j p u hp (by simpa using hu))
  have hc:=S E d _ (hN.trans Z.symm) φ O;rw[α,K] at hc;refine Fz.calls (hc.mono fun e w3 he=>?_);obtain⟨v,pv,W,H',rfl,δ,hr,l,H2,τ,U,B,σ⟩:=he;obtain⟨Ψ,μ,ζ,κ,θ,-⟩:=δ.h _ _ σ;have V:w.heap.size≠w.heap.size+1:=Om;have ρ:w3.heap[w.heap.size]?=some (.deferred (some [])):=(l.block _ Om (by rw[aT,if_neg V]; exact nD)).trans ο;have γ:H' w.heap.size=none:=by
   cases hh:H' w.heap.size with
   | none=>rfl
   | some y =>
    rcases l.new _ y hh with ⟨z,N⟩ | hge
    ·rw[aT,if_neg V,nD] at N; cases N
    ·omega
  have β:H2 w.heap.size=none:=by
   cases hh:H2 w.heap.size with
   | none=>rfl
   | some y=>rw[U _ y hh] at γ; cases γ
  refine⟨μ.pending,_,run_endLoop ζ (by rw[κ]; exact fun h=>by cases h),?_⟩;rw[θ];simp only;have ξ:dD (uT w.heap.size::ds) n W F { a with defers:=uT w.heap.size::a.defers }:=⟨Y.size,by simp only; rw[Y.defers],fun i pv hi=>(Y.t i pv hi).mono l.env⟩;refine hT w.heap.size W H2 _ ξ ((δ.weaken U).putObj ζ (fun _ _ _ h=>by cases h) B) ?_ ((World.putObj_heap_other V).trans ρ) β (a6S _) τ;refine⟨l.env,l.os.trans Λ,l.tape.trans Ξ,l.output.trans Θ,?_,fun b R hn=>?_,fun o y ho=>?_,fun b cs R=>?_⟩
  ·have:=l.size;rw[World.putObj_size]; omega
  ·have X:b≠w.heap.size+1:=Om;rw[World.putObj_heap_other X,l.block b Om (by rw[aT,if_neg X]; exact hn),η b R]
  ·have X:o≠w.heap.size+1:=fun e=>by rw[e,B] at ho; cases ho
   rcases l.new o y (U o y ho) with ⟨z,N⟩ | hge
   ·rw[aT,if_neg X] at N;exact .inl ⟨z,N⟩
   ·exact .inr Om
  ·rcases l.newG b cs R with h | ⟨z,N⟩ | hge
   ·exact .inl h
   ·by_cases X:b=w.heap.size+1
    ·exact .inr (.inr Om)
    ·rw[aT,if_neg X] at N;exact .inr (.inl ⟨z,N⟩)
   ·exact .inr (.inr Om)
end
open Go Go.RowKit
inductive pO where
 | seq (a:aC) (t:pO)
 | range (g:aP) (n t:Nat) (asg bdy:Code) (pas pbd rest:aC)
def pO.wp (C : Ctx) : pO → bQ → PF → PH → Prop
  | .seq a t, K, F, H => a.wp C (fV C (t.wp C) K) F H
  | .range g n t asg bdy pas pbd rest, K, F, H => ∃ name cs KH, g.ev F = some (.fn name cs) ∧
      ((∀ (l : Nat) (x : PV) (J : PH) (J' : PH → Prop), J l = none → pas.wp C (fV C (pbd.wp C) (BA J')) (F.set t x) J →
        EZ C l [x] (J.set l (.loop F n t asg bdy)) (fun r H' => r = .bool true ∧ ∃ H2, J' H2 ∧ H2 l = none ∧ H' = H2.set l (.loop F n t asg bdy))) → Hp C name cs F H n t asg bdy KH) ∧
      ∀ H2, KH H2 → rest.wp C K F H2
namespace Tbl
variable (T:Tbl)
def tail (n:Nat):Code→Option pO
 | .seq (.rangeFunc g ps c d) rest=>match T.opd g,T.code n c,T.code n d,T.code n rest with
  | some p,some e,some i,some q=>match ps.toList with
   | [t]=>if t<n then some (.range p n t c d e i q) else none
   | _=>none
  | _,_,_,_=>none
 | .seq (.seq a (.block _ (.rangeFunc g ps c d))) rest=>match T.code n a,T.opd g,T.code n c,T.code n d,T.code n rest with
  | some l,some p,some e,some i,some q=>match ps.toList with
   | [t]=>if t<n then some (.seq l (.range p n t c d e i q)) else none
   | _=>none
  | _,_,_,_,_=>none
 | .seq a b=>match T.code n a,tail n b with
  | some l,some u=>some (.seq l u)
  | _,_=>none
 | _=>none
end Tbl
section
variable {C:Ctx} {T:Tbl} {fu:Nat}
def yT (n:Nat) (E:Env) (H:PH) (w:World) (K:bQ) (Q:Exit→Act→World→Prop):Prop :=
 ∀ ds,(ds=[]∨∃ D,ds=[uT D])→∀ e d i H' l c,dD ds n d i l→bL d H' c→Ext E H w d H' c→(∀ D,ds=[uT D]→c.heap[D]?=some (.deferred (some []))∧H' D=none∧w.heap.size≤D)→K e i H'→Q e.out l c
theorem yT.after {n:Nat} {E i:Env} {H H':PH} {w p:World} {K:bQ} {Q:Exit→Act→World→Prop} (h:yT n E H w K Q) (l:Ext E H w i H' p):yT n i H' p K Q :=
 fun ds c e q u H2 a2 B x hW A d y=>h ds c e q u H2 a2 B x hW (l.trans A) (fun D hD=>⟨(d D hD).1,(d D hD).2.1,a7U l.size (d D hD).2.2⟩) y
theorem yT.plain {n:Nat} {E:Env} {H:PH} {w:World} {K:bQ} {Q:Exit→Act→World→Prop} (h:yT n E H w K Q):NW [] n E H w K Q :=
 fun e c d H' i u l hW q p=>h [] (.inl rfl) e c d H' i u l hW q (fun D hD=>by cases hD) p
theorem l6 (q:C.P=T.P) (p:C.num=T.num) {n t:Nat} {g:Operand} {pg:aP} {ps:Array Tmp} {d i rest:Code} {M N pr:aC} {K:bQ} {Q Q0:Exit→Act→World→Prop} {E:Env} {F:PF} {H:PH} {a:Act} {w:World} (hQ:∀ a w,rest.wpIn (Fz none) fu T.P Q a w→Q0 .normal a w)
  (h1:T.opd g=some pg) (h2:T.code n d=some M) (h3:T.code n i=some N) (h4:T.code n rest=some pr) (h5:ps.toList=[t]) (ht:t<n)
  (Z:(pO.range pg n t d i M N pr).wp C K F H) (hA:dD [] n E F a) (hW:bL E H w) (hN:E.num=T.num) (hT:yT n E H w K Q) :
  (Code.rangeFunc g ps d i).wpIn (Fz none) fu T.P Q0 a w:=by
 obtain⟨name,cs,KH,k1,k2,k3⟩:=Z;have Y:ps=#[t]:=by obtain⟨l⟩:=ps;simp only at h5;subst h5;rfl
 subst Y;refine V6 (ds:=[]) q p h1 k1 (k2 fun l x J J' hJ hw=>W4 q p h2 h3 ht hJ hw) hA hW hN fun D E' H2 w' O W A hD B S V=>?_;refine hQ _ w' ?_;refine pR (ro:=none) (fu:=fu) (ds:=[uT D]) q p rest pr K Q E' F H2 _ w' h4 (k3 H2 V) O W (A.env.num.trans hN) fun e E3 F3 H3 a3 w3 R X u U=>?_;refine hT [uT D] (.inr ⟨D,rfl⟩) e E3 F3 H3 a3 w3 R X (A.trans u) (fun D' c=>?_) U;injection c with c _
 injection c with c _
 injection c with c
 subst c;have hlt:D<w'.heap.size:=(a9S.1 hD).1;refine⟨(u.block D hlt B).trans hD,?_,S⟩;cases hh:H3 D with
 | none=>rfl
 | some y =>
  rcases u.new D y hh with ⟨z,hz⟩ | hge
  ·rw[B] at hz; cases hz
  ·omega
theorem anX (p:C.P=T.P) (l:C.num=T.num) {n:Nat}:∀ (c:Code) (t:pO) (K:bQ) (Q:Exit→Act→World→Prop) (E:Env) (F:PF) (H:PH) (a:Act) (w:World),
  T.tail n c=some t→t.wp C K F H→dD [] n E F a→bL E H w→E.num=T.num→yT n E H w K Q→c.wpIn (Fz none) fu T.P Q a w:=by
 intro c
 induction c with
 | seq x y γ α =>
  intro t K Q E F H a w d B hA hW W A;unfold Tbl.tail at d;split at d
  ·rename_i g ps q u rest e;cases e;split at d
   ·rename_i pg J M pr U V Y Z;split at d
    ·rename_i t0 e5;split at d
     ·rename_i e6;cases d;exact wpIn_seq (l6 p l (fun _ _ h=>h) U V Y Z e5 e6 B hA hW W A)
     ·cases d
    ·cases d
   ·cases d
  ·rename_i a0 β g ps q u rest e;cases e;split at d
   ·rename_i X pg J M pr e0 U V Y Z;split at d
    ·rename_i t0 e5;split at d
     ·rename_i e6;cases d;have i:X.wp C (fV C ((pO.range pg n t0 q u J M pr).wp C) K) F H:=B;refine wpIn_seq (wpIn_seq (pR (ro:=none) (fu:=fu) (ds:=[]) p l a0 X (fV C ((pO.range pg n t0 q u J M pr).wp C) K) _ E F H a w e0 i hA hW W fun e N O H' R S g1 g2 g3 g4=>?_));cases e with
      | normal=>exact wpIn_block (l6 p l (fun _ _ h=>h) U V Y Z e5 e6 g4 g1 g2 (g3.env.num.trans W) (A.after g3))
      | exit id=>exact A.plain (.exit id) N O H' R S g1 g2 g3 g4
      | ret=>exact A.plain .ret N O H' R S g1 g2 g3 g4
     ·cases d
    ·cases d
   ·cases d
  ·rename_i a0 b0 _ _ e;cases e;split at d
   ·rename_i X tb U V;cases d;have i:X.wp C (fV C (tb.wp C) K) F H:=B;refine wpIn_seq (pR (ro:=none) (fu:=fu) (ds:=[]) p l x X (fV C (tb.wp C) K) _ E F H a w U i hA hW W fun e N O H' R S g1 g2 g3 g4=>?_);cases e with
    | normal=>exact α tb K Q N O H' R S V g4 g1 g2 (g3.env.num.trans W) (A.after g3)
    | exit id=>exact A.plain (.exit id) N O H' R S g1 g2 g3 g4
    | ret=>exact A.plain .ret N O H' R S g1 g2 g3 g4
   ·cases d
  ·cases d
 | _=>intro t K Q E F H a w d; simp[Tbl.tail] at d
end
structure yS where
 nparams:Nat
 ntmps:Nat
 body:pO
 res:List dQ
namespace Tbl
variable (T:Tbl)
def ajN (fn:Func):Option yS :=
 match fn.body with
 | some c=>match T.tail fn.ntmps c,T.vu fn.results.toList with
  | some b,some rs=>some ⟨fn.params.size,fn.ntmps,b,rs⟩
  | _,_=>none
 | none=>none
end Tbl
theorem ajA {C:Ctx} {T:Tbl} {H:PH} (F:C.P=T.P) (B:C.num=T.num) {name:Nat} {args:List PV} {R:PV→PH→Prop} {fn:Func} {X:yS} (hf:C.P.funcs[C.num name]?=some fn) (γ:(fn.name=="runtime.NumGoroutine")=false)
  (d:T.ajN fn=some X) (N:args.length≤X.ntmps) (h:X.body.wp C (aV X.res R) (PF.args args) H):aG C name args H R:=by
 unfold Tbl.ajN at d;split at d
 ·rename_i c W;split at d
  ·rename_i b rs u y;cases d;refine⟨⟨fn,hf,by simp[W],γ⟩,fun E w vs hN hW S=>?_⟩;have ζ:vs.size=args.length:=by simpa using S.len
   refine (callsIn_wide (n:=0)).1 (callsIn_of_wp_marks hf W trivial ?_ rfl);rw[F];have hA:dD [] fn.ntmps E (PF.args args) { tmps:=vs++a8F (fn.ntmps-vs.size) undef,defers:=[] }:=by
    refine⟨by simp only at N; simp; omega,rfl,fun i pv hi=>?_⟩;have x:i<vs.size:=by
     rw[ζ];rcases a7H i args.length with h' | h'
     ·exact h'
     ·simp[PF.args,a7Z h'] at hi
    simp only[baD];rw[Array.getElem?_append_left x,a9W x];exact S.at_ i pv _ hi (by simp[x])
   refine anX (fu:=0) F B c b (aV rs R) _ E (PF.args args) H _ w u h hA hW (hN.trans B) fun ds α e l F' H' V q A J p hm hK=>?_;have fin:∀ Y,bL l H' Y→Ext E H w l H' Y→aV rs R .ret F' H'→LeavesIn Fence.wide 0 T.P fn V.tmps (fun e q=>∃ v pv l H',e=.returned v∧bL l H' q∧aZ l pv v∧Ext E H w l H' q∧R pv H') [] .returning Y:=by
    rintro Y K Z ⟨η,O,F1,H1,H2,β,M,v0,ε,hR⟩;obtain⟨us,g1,g2⟩:=KI A K fn.results.toList rs η y O;have δ:=ly g2;obtain⟨E2,k1,k2,k3⟩:=β.sound K;have Q:=k3 (fun _=>if h:us.toArray.size=1 then us.toArray[0] else .tuple us.toArray) (fun i pv hi=>by
     simp only[PF.set,upd] at hi;split at hi
     ·cases hi; exact δ
     ·cases hi) 0 v0 ε
    refine⟨_,?_,_,v0,E2,H2,rfl,k1.weaken M,Q,(Z.trans k2).drop M,hR⟩;rw[ml,Array.mapM_eq_mapM_toList];simp[g1]
   have U:aV rs R .ret F' H'→bodyPostM Fence.wide 0 T.P fn (fun e q=>∃ v pv l H',e=.returned v∧bL l H' q∧aZ l pv v∧Ext E H w l H' q∧R pv H') .ret V q:=by
    intro hr;show LeavesInM Fence.wide 0 T.P fn V.tmps _ V.defers .returning q;rw[A.defers];rcases α with rfl | ⟨D,rfl⟩
    ·exact fin q J p hr
    ·obtain⟨m1,m2,m3⟩:=hm D rfl;refine⟨(fun h=>by cases h),.inl ⟨D,_,rfl,run_takeDeferred m1,?_⟩⟩;refine fin _ (J.putObj m1 (fun _ _ _ h=>by cases h) m2) ⟨p.env,p.os,p.tape,p.output,?_,fun b W hn=>?_,p.new,p.newG⟩ hr
     ·rw[World.putObj_size]; exact p.size
     ·rw[World.putObj_heap_other Om]; exact p.block b W hn
   cases e with
   | normal=>exact U hK
   | exit id=>exact hK.elim
   | ret=>exact U hK
  ·cases d
 ·cases d
end Go.PM
namespace Go.PM
open Go
def W9:Rg:=[iA 3 (.box true (Tm 0)),iA 4 (.box true (Tm 1)),iT 6 false]
def Xa:Rg:=[iF 15 2 3,iL 16 15,iN 17 16,iA 18 (.a5H 1 1 [zB] (Tm 17) (Tm 17)),iM 7 18]
def Xb:Rg:=[iF 19 9 4,iL 20 19,iN 21 20,iI 22 0]
def Xc:Rg:=[iB 23 .lss 22 21]
def Xd:Rg:=[iX 24 1 20 22,iL 25 24,iM 9 25]
def Xe:Rg:=[iM 26 7,iM 27 9,iX 28 1 26 27,⟨none,.store 1 (Tm 28) (.const (.bool true)),none⟩]
def Xf:Rg:=[iC 29 .add 22 1,iM 22 29]
def W8:aC:=(sq Xc (.seq (.cond (Tm 23) .skip (.exit 0)) (.seq (.block 1 (sq Xd (.region Xe))) (.region Xf))))
def Xg:Rg:=[iF 30 3 3,iL 31 30,iN 32 31,iA 33 (.a5H 1 8 [zI] (Tm 32) (Tm 32)),iM 10 33]
def Xh:Rg:=[iM 34 2,iN 35 34,iI 36 0]
def GK:Rg:=[iB 37 .lss 36 35]
def YQ:Rg:=[iX 38 1 34 36,iL 39 38,iM 12 39]
def YR:Rg:=[iM 40 7,iF 41 4 3,iL 42 41,iM 43 12,iX 44 3 42 43,iF 45 1 44,iL 46 45,iX 47 1 40 46,iL 48 47,iA 49 (.un .not (Tm 48))]
def Id:Rg:=[iT 6 false]
def Ie:Rg:=[iF 50 4 3,iL 51 50,iM 52 12,iX 53 3 51 52,iF 54 2 53,iL 55 54,iM 13 55]
def If:Rg:=[iM 56 13,iC 57 .gtr 56 0]
def Ig:Rg:=[iM 64 10,iM 65 13,iX 66 1 64 65,iL 67 66,iC 68 .add 67 1,iX 69 1 64 65,iS 1 69 68]
def Ih:Rg:=[iF 70 3 3,iL 71 70,iM 72 13,iX 73 7 71 72,iF 74 1 73,iL 75 74,iF 76 4 4,iA 77 (.idxA 5 1 (Tm 76) (Tm 75)),iL 78 77,iM 14 78]
def GL:Rg:=[iM 79 14,iC 80 .gtr 79 0,iM 81 80,gM 82 10 81 true,gM 83 13 81 true,iG 84 (.a5Q 1 (Tm 82) (Tm 83)) 81 true,gL 85 84 81 true,gM 86 14 81 true,gB 87 .gtr 85 86 81 true,iP 88 81 87]
def Ii:Rg:=[iT 6 false]
def YS:Rg:=[iF 58 3 3,iL 59 58,iM 60 13,iX 61 7 59 60,iF 62 2 61,iL 63 62,iM 13 63]
def YP:aC:=(.seq (sq If (.cond (Tm 57) .skip (.exit 4))) (.seq (.block 5 (sq Ig (sq Ih (sq GL (.cond (Tm 88) (sq Ii .ret) .skip))))) (.region YS)))
def Ij:Rg:=[iC 89 .add 36 1,iM 36 89]
def yY:aC:=(sq GK (.seq (.cond (Tm 37) .skip (.exit 2)) (.seq (.block 3 (sq YQ (.seq (sq YR (.cond (Tm 49) (sq Id .ret) .skip)) (sq Ie (.block 4 (.loop YP)))))) (.region Ij))))
def Ik:Rg:=[iT 6 true]
def OF:aC:=(sq W9 (sq Xa (.seq (sq Xb (.block 0 (.loop W8))) (sq Xg (.seq (sq Xh (.block 2 (.loop yY))) (sq Ik .ret))))))
def aNM:List Nat:=[3,4]
def aCY:aS:=⟨3,90,OF,[.tmp 6]⟩
def Xj:Rg:=[iT 6 false]
def Xk:Rg:=[iM 9 0,iN 10 9,iI 11 0]
def th:Rg:=[iB 12 .lss 11 10]
def Xl:Rg:=[iM 13 11,iX 14 1 9 11,iL 15 14,iM 7 13,iM 8 15]
def xX:Rg:=[iM 16 8,iC 17 .lss 16 0,iM 18 17,gM 19 8 18 false,gM 20 2 18 false,gB 21 .geq 19 20 18 false,iQ 22 18 21,iM 23 22,gM 24 7 23 false,gC 25 .gtr 24 0 23 false,gM 26 25 23 false,gM 27 0 26 true,gM 28 7 26 true,gC 29 .sub 28 1 26 true,iG 30 (.a5Q 1 (Tm 27) (Tm 29)) 26 true,gL 31 30 26 true,gM 32 8 26 true,gB 33 .geq 31 32 26 true,iG 34 (.pick (Tm 26) (Tm 33) (.const zB)) 23 false,iQ 35 23 34]
def UD:Rg:=[iT 6 false]
def ti:Rg:=[iC 36 .add 11 1,iM 11 36]
def tg:aC:=(sq th (.seq (.cond (Tm 12) .skip (.exit 0)) (.seq (.block 1 (sq Xl (sq xX (.cond (Tm 35) (sq UD .ret) .skip)))) (.region ti))))
def Xm:Rg:=[iM 37 0,iN 38 37,iM 39 1,iB 40 .eql 38 39,iM 6 40]
def OI:aC:=(sq Xj (.seq (sq Xk (.block 0 (.loop tg))) (sq Xm .ret)))
def aNQ:List Nat:=[]
def aDB:aS:=⟨3,41,OI,[.tmp 6]⟩
def xi:Rg:=[iA 2 (.box true (Tm 0)),iT 4 false]
def xj:Rg:=[iO 5 7 2,iK 6 96 5,iC 7 .eql 6 0,iM 8 7,gM 9 1 8 true,gC 10 .geq 9 0 8 true,iP 11 8 10,iM 12 11,gM 13 1 12 true,gF 14 5 2 12 true,gL 15 14 12 true,gN 16 15 12 true,gB 17 .lss 13 16 12 true,iP 18 12 17,iM 4 18]
def CF:aC:=(sq xi (sq xj .ret))
def aqR:List Nat:=[2]
def In:aS:=⟨2,19,CF,[.tmp 4]⟩
def w8:Rg:=[iA 3 (.box true (Tm 0)),iT 6 false]
def w9:Rg:=[iO 8 7 3,iM 9 1,iK2 10 203 8 9,iA 11 (.un .not (Tm 10))]
def xa:Rg:=[iT 6 false]
def xb:Rg:=[iF 12 5 3,iL 13 12,iM 14 1,iX 15 17 13 14,iO 16 17 15,iA 7 (.alloc [(.str []),zI,zI,zI,zI,zI,zI,zI,zI,.aB,.aB,zB,.aB,.aB,zB,.aB,.aB]),iS 17 7 16]
def xc:Rg:=[iM 17 2,iF 18 1 7,iL 19 18,iF 20 2 7,iL 21 20,iB 22 .add 19 21,iF 23 4 3,iL 24 23,iN 25 24,iA 26 (.call 202 [(Tm 17),(Tm 22),(Tm 25)]),iM 27 26,gO 28 7 3 27 true,gO 29 17 7 27 true,gM 30 2 27 true,iG 31 (.call 201 [(Tm 28),(Tm 29),(Tm 30)]) 27 true,iP 32 27 31,iM 6 32]
def CD:aC:=(sq w8 (.seq (sq w9 (.cond (Tm 11) (sq xa .ret) .skip)) (sq xb (sq xc .ret))))
def aqM:List Nat:=[3]
def Il:aS:=⟨3,33,CD,[.tmp 6]⟩
def xd:Rg:=[iA 2 (.box true (Tm 0)),iZ 4,iI 5 0]
def xe:Rg:=[iO 7 7 2,iM 8 1,iK2 9 203 7 8,iA 10 (.un .not (Tm 9)),iM 6 10]
def xf:Rg:=[iZ 4,iI 5 1]
def OG:Rg:=[iF 12 4 2,iL 13 12,iN 14 13,iC 15 .gtr 14 12,iM 11 15]
def xg:Rg:=[iZ 4,iI 5 2]
def xh:Rd:=[(iO 16 7 2,false),(iF 17 5 2,false),(iL 18 17,false),(iM 19 1,false),(iX 20 17 18 19,false),(iO 21 17 20,false),(iK2 22 229 16 21,true),(iM 4 22,false),(iI 5 0,false)]
def CE:aC:=(sq xd (.seq (.block 0 (sq xe (.cond (Tm 6) (sq xf .ret) (sq OG (.cond (Tm 11) (sq xg .ret) .skip))))) (dq xh .ret)))
def aqO:List Nat:=[2]
def call17:aS:=⟨2,23,CE,[.tmp 4,.tmp 5]⟩
def x9:Rg:=[iA 2 (.box true (Tm 0)),iZ 4]
def ya:Rg:=[iZ 5]
def yb:Rg:=[iM 13 1,iC 14 .eql 13 5]
def yc:Rg:=[iF 15 4 2,iL 16 15,iN 17 16,iI 18 0]
def yd:Rg:=[iB 19 .lss 18 17]
def ye:Rg:=[iM 20 18,iM 6 20]
def yf:Rg:=[iM 21 5,iM 22 6,iA 23 (.a5F true 1 1 [zI] [(0,(Tm 22))]),iA 24 (.a5F true 1 1 [.aB] [(0,(Tm 23))]),iA 25 (.append 1 24 (Tm 21) (Tm 24)),iM 5 25]
def yg:Rg:=[iC 26 .add 18 1,iM 18 26]
def x8:aC:=(sq yd (.seq (.cond (Tm 19) .skip (.exit 0)) (.seq (.block 1 (sq ye (.region yf))) (.region yg))))
def yh:Rg:=[iM 27 5,iM 4 27]
def gp:Rg:=[iF 28 3 2,iL 29 28,iN 30 29,iA 31 (.a5H 1 8 [zI] (Tm 30) (Tm 30)),iM 7 31]
def gr:Rg:=[iF 32 3 2,iL 33 32,iN 34 33,iI 35 0]
def gs:Rg:=[iB 36 .lss 35 34]
def gt:Rg:=[iM 37 35,iX 38 7 33 35,iO 39 7 38,iA 9 (.alloc [(.str []),zI,zI,zI,zB,.aB,.aB]),iM 8 37,iS 7 9 39]
def gv:Rg:=[iF 40 1 9,iL 41 40,iM 42 1,iB 43 .eql 41 42]
def gw:Rg:=[iM 44 7,iM 45 8,iM 46 5,iN 47 46,iX 48 1 44 45,iS 1 48 47]
def gx:Rg:=[iM 49 5,iA 50 (.a5F true 1 1 [.aB] [(0,(.const .aB))]),iA 51 (.append 1 24 (Tm 49) (Tm 50)),iM 5 51]
def GW:Rg:=[iC 52 .add 35 1,iM 35 52]
def gm:aC:=(sq gs (.seq (.cond (Tm 36) .skip (.exit 2)) (.seq (.block 3 (sq gt (sq gv (.cond (Tm 43) (sq gw (.region gx)) .skip)))) (.region GW))))
def gy:Rg:=[iF 53 4 2,iL 54 53,iN 55 54,iI 56 0]
def gz:Rg:=[iB 57 .lss 56 55]
def ia:Rg:=[iM 58 56,iX 59 3 54 56,iO 60 3 59,iA 11 (.alloc [(.str []),zI,zI]),iM 10 58,iS 3 11 60]
def ib:Rg:=[iF 61 2 11,iL 62 61,iM 12 62]
def GX:Rg:=[iF 63 3 2,iL 64 63,iM 65 12,iX 66 7 64 65,iF 67 1 66,iL 68 67,iM 69 1,iB 70 .gtr 68 69]
def ic:Rg:=[iF 71 3 2,iL 72 71,iM 73 12,iX 74 7 72 73,iF 75 2 74,iL 76 75,iM 12 76]
def wM:aC:=(.seq (sq GX (.cond (Tm 70) .skip (.exit 6))) (.block 7 (.region ic)))
def ie:Rd:=[(iM 77 5,true),(iM 78 7,true),(iM 79 12,true),(iX 80 1 78 79,true),(iL 81 80,true),(iM 82 5,false),(iM 83 7,false),(iM 84 12,false),(iX 85 1 83 84,false),(iL 86 85,false),(iX 87 1 82 86,false),(iL 88 87,false),(iM 89 10,false),(iA 90 (.a5F true 1 1 [zI] [(0,(Tm 89))]),false),(iA 91 (.append 1 8 (Tm 88) (Tm 90)),true),(iX 92 1 77 81,false)]
def ig:Rd:=[(iS 1 92 91,true)]
def ii:Rg:=[iC 93 .add 56 1,iM 56 93]
def gn:aC:=(sq gz (.seq (.cond (Tm 57) .skip (.exit 4)) (.seq (.block 5 (sq ia (sq ib (.seq (.block 6 (.loop wM)) (dq ie (.draw ig)))))) (.region ii))))
def ij:Rg:=[iM 94 5,iM 4 94]
def CH:aC:=(sq x9 (sq ya (.seq (sq yb (.cond (Tm 14) (.seq (sq yc (.block 0 (.loop x8))) (sq yh .ret)) .skip)) (sq gp (.seq (sq gr (.block 2 (.loop gm))) (.seq (sq gy (.block 4 (.loop gn))) (sq ij .ret)))))))
def aqW:List Nat:=[2,23,24,50,90]
def Je:aS:=⟨2,95,CH,[.tmp 4]⟩
def fl:Rg:=[iI 4 0]
def fm:Rg:=[iI 5 1]
def fp:Rg:=[iI 6 0]
def fq:Rg:=[iM 7 6,iM 8 1,iB 9 .lss 7 8]
def ft:Rg:=[iM 12 5,iM 13 0,iM 14 6,iB 15 .sub 13 14,iB 16 .mul 12 15,iM 17 6,iC 18 .add 17 1,iB 19 .quo 16 18,iM 5 19]
def fv:Rg:=[iM 10 6,iC 11 .add 10 1,iM 6 11]
def fk:aC:=(.seq (sq fq (.cond (Tm 9) .skip (.exit 0))) (.seq (.block 1 (.region ft)) (.region fv)))
def fw:Rg:=[iM 20 5,iA 21 (.a5U true (Tm 20) (Ci 0)),iM 4 21]
def yZ:aC:=(sq fl (sq fm (.seq (sq fp (.block 0 (.loop fk))) (sq fw .ret))))
def aiM:List Nat:=[]
def tj:aS:=⟨2,22,yZ,[.tmp 4]⟩
def Io:Rg:=[iI 6 0]
def Ip:Rg:=[iI 7 0]
def Iq:Rg:=[iM 14 0,iN 15 14,iI 16 0]
def YT:Rg:=[iB 17 .lss 16 15]
def Ir:Rg:=[iX 18 1 14 16,iL 19 18,iM 9 19]
def Is:Rg:=[iI 10 0,iI 11 0]
def Iu:Rg:=[iM 20 9,iN 21 20,iI 22 0]
def YU:Rg:=[iB 23 .lss 22 21]
def Iv:Rg:=[iX 24 1 20 22,iL 25 24,iM 13 25]
def GN:Rg:=[iM 26 11,iM 27 1,iN 28 27,iB 29 .lss 26 28,iM 30 29,gM 31 1 30 true,gM 32 11 30 true,iG 33 (.a5Q 1 (Tm 31) (Tm 32)) 30 true,gL 34 33 30 true,gM 35 13 30 true,gB 36 .lss 34 35 30 true,iP 37 30 36]
def xk:Rg:=[iM 38 11,iC 39 .add 38 1,iM 11 39]
def vK:aC:=(.seq (sq GN (.cond (Tm 37) .skip (.exit 4))) (.block 5 (.region xk)))
def AW:Rg:=[iM 40 11,iM 41 1,iN 42 41,iB 43 .lss 40 42,iM 44 43,gM 45 1 44 true,gM 46 11 44 true,iG 47 (.a5Q 1 (Tm 45) (Tm 46)) 44 true,gL 48 47 44 true,gM 49 13 44 true,gB 50 .eql 48 49 44 true,iP 51 44 50]
def xl:Rg:=[iM 52 10,iC 53 .add 52 1,iM 10 53]
def AX:Rg:=[iC 54 .add 22 1,iM 22 54]
def AV:aC:=(sq YU (.seq (.cond (Tm 23) .skip (.exit 2)) (.seq (.block 3 (sq Iv (.seq (.block 4 (.loop vK)) (sq AW (.cond (Tm 51) (.region xl) .skip))))) (.region AX))))
def OL:Rg:=[iM 55 10,iM 56 2,iB 57 .gtr 55 56]
def xm:Rg:=[iM 58 7,iC 59 .add 58 1,iM 7 59]
def OM:Rg:=[iC 60 .add 16 1,iM 16 60]
def OK:aC:=(sq YT (.seq (.cond (Tm 17) .skip (.exit 0)) (.seq (.block 1 (sq Ir (sq Is (.seq (sq Iu (.block 2 (.loop AV))) (sq OL (.cond (Tm 57) (.region xm) .skip)))))) (.region OM))))
def xn:Rg:=[iM 61 7,iM 6 61]
def GM:aC:=(sq Io (sq Ip (.seq (sq Iq (.block 0 (.loop OK))) (sq xn .ret))))
def aDI:List Nat:=[]
def aiN:aS:=⟨3,62,GM,[.tmp 6]⟩
def ga:Rg:=[iA 4 (.box true (Tm 0)),iA 7 (.box true (Tm 3)),iI 8 0,iI 9 0]
def gb:Rg:=[iO 13 7 4,iO 14 2 7,iK2 15 230 13 14,iM 12 15,iE 16 12 0,iE 17 12 1,iM 10 16,iM 11 17]
def GO:Rg:=[iM 19 11,iC 20 .neq 19 0,iM 18 20]
def gd:Rg:=[iM 21 11,iI 8 0,iM 9 21]
def ge:Rg:=[iO 23 7 4,iM 24 1,iM 25 2,iA 26 (.call 204 [(Tm 23),(Tm 24),(Tm 25)]),iA 27 (.un .not (Tm 26)),iM 22 27]
def gf:Rg:=[iI 8 0,iI 9 1]
def gg:Rg:=[iM 28 10,iM 29 2,iF 30 5 4,iL 31 30,iM 32 1,iX 33 17 31 32,iF 34 2 33,iL 35 34,iA 36 (.call 208 [(Tm 28),(Tm 29),(Tm 35)]),iM 8 36,iI 9 0]
def zA:aC:=(sq ga (sq gb (.seq (.block 0 (sq GO (.cond (Tm 18) (sq gd .ret) (sq ge (.cond (Tm 22) (sq gf .ret) .skip))))) (sq gg .ret))))
def aiQ:List Nat:=[4,7]
def tk:aS:=⟨4,37,zA,[.tmp 8,.tmp 9]⟩
def Jc:Rg:=[iA 2 (.box false (Tm 0)),iA 3 (.box false (Tm 1)),iA 4 (.mv (.const (.lit .nilFunc)))]
def Jd:Rg:=[iA 5 (.mkfn 211 [(Tm 2),(Tm 3)]),iM 4 5]
def GU:aC:=(sq Jc (sq Jd .ret))
def aDS:List Nat:=[]
def aiW:aS:=⟨2,6,GU,[.tmp 4]⟩
def yi:Rg:=[iL 8 1,iL 9 2,iB 10 .gtr 8 9]
def yj:Rg:=[iL 11 1,iA 12 (.a5H 1 8 [zI] (Tm 11) (Tm 11)),iM 4 12]
def yk:Rg:=[iM 13 4,iN 14 13,iI 15 0]
def yl:Rg:=[iB 16 .lss 15 14]
def ym:Rg:=[iM 17 15,iM 5 17]
def yn:Rg:=[iM 18 4,iM 19 5,iM 20 5,iX 21 1 18 19,iS 1 21 20]
def yo:Rg:=[iC 22 .add 15 1,iM 15 22]
def OW:aC:=(sq yl (.seq (.cond (Tm 16) .skip (.exit 0)) (.seq (.block 1 (sq ym (.region yn))) (.region yo))))
def OX:Rg:=[iM 23 0,iM 24 4,iA 25 (.append 1 8 (.const .aB) (Tm 24)),iA 26 (.a6B (Tm 23) [(Tm 25)])]
def OY:Rg:=[iL 27 1,iC 28 .sub 27 1,iM 6 28]
def sD:Rd:=[(iM 29 6,false),(iC 30 .geq 29 0,false),(iM 31 30,false),(gM 32 4 31 true,false),(gM 33 6 31 true,false),(iG 34 (.a5Q 1 (Tm 32) (Tm 33)) 31 true,false),(gL 35 34 31 true,false),(gL 36 2 31 true,false),(gL 37 1 31 true,false),(gB 38 .sub 36 37 31 true,false),(gM 39 6 31 true,false),(gB 40 .add 38 39 31 true,false),(gB 41 .eql 35 40 31 true,false),(iP 42 31 41,false)]
def GY:Rg:=[iM 43 6,iC 44 .sub 43 1,iM 6 44]
def wN:aC:=(.seq (dq sD (.cond (Tm 42) .skip (.exit 4))) (.block 5 (.region GY)))
def wP:Rg:=[iM 45 6,iC 46 .lss 45 0]
def GZ:Rg:=[iM 47 4,iM 48 6,iX 49 1 47 48,iL 50 49,iC 51 .add 50 1,iX 52 1 47 48,iS 1 52 51]
def HA:Rg:=[iM 53 6,iC 54 .add 53 1,iM 7 54]
def wQ:Rg:=[iM 55 7,iL 56 1,iB 57 .lss 55 56]
def HB:Rg:=[iM 60 4,iM 61 7,iM 62 4,iM 63 7,iC 64 .sub 63 1,iX 65 1 62 64,iL 66 65,iC 67 .add 66 1,iX 68 1 60 61,iS 1 68 67]
def HC:Rg:=[iM 58 7,iC 59 .add 58 1,iM 7 59]
def wO:aC:=(.seq (sq wQ (.cond (Tm 57) .skip (.exit 6))) (.seq (.block 7 (.region HB)) (.region HC)))
def ik:aC:=(.seq (sq OX (.cond (Tm 26) .skip (.exit 2))) (.block 3 (sq OY (.seq (.block 4 (.loop wN)) (.seq (sq wP (.cond (Tm 46) .ret .skip)) (sq GZ (sq HA (.block 6 (.loop wO)))))))))
def CI:aC:=(.seq (sq yi (.cond (Tm 10) .ret .skip)) (sq yj (.seq (sq yk (.block 0 (.loop OW))) (.block 2 (.loop ik)))))
def aqZ:List Nat:=[]
def Jf:aS:=⟨1,69,CI,[]⟩
def Jz:Rg:=[iT 4 false]
def J0:Rg:=[iM 6 0,iN 7 6,iM 8 1,iN 9 8,iB 10 .neq 7 9]
def aEH:Rg:=[iT 4 false]
def J1:Rg:=[iI 5 0]
def J2:Rg:=[iM 11 5,iM 12 0,iN 13 12,iB 14 .lss 11 13]
def J3:Rd:=[(iM 17 0,false),(iM 18 5,false),(iX 19 1 17 18,false),(iL 20 19,false),(iM 21 1,false),(iM 22 5,false),(iX 23 1 21 22,false),(iL 24 23,false),(iK2 25 94 20 24,true),(iA 26 (.un .not (Tm 25)),false)]
def aEI:Rg:=[iT 4 false]
def J4:Rg:=[iM 15 5,iC 16 .add 15 1,iM 5 16]
def Jy:aC:=(.seq (sq J2 (.cond (Tm 14) .skip (.exit 0))) (.seq (.block 1 (dq J3 (.cond (Tm 26) (sq aEI .ret) .skip))) (.region J4)))
def J5:Rg:=[iT 4 true]
def HH:aC:=(sq Jz (.seq (sq J0 (.cond (Tm 10) (sq aEH .ret) .skip)) (.seq (sq J1 (.block 0 (.loop Jy))) (sq J5 .ret))))
def aEJ:List Nat:=[]
def ajD:aS:=⟨2,27,HH,[.tmp 4]⟩
open Go Go.Na
def cM (n:Nat):Nat→Nat→List (List Nat)
 | 0,_=>[[]]
 | k+1,a=>(a8K a (n-k-a)).flatMap fun i=>(cM n k (i+1)).map (i::·)
def mN (n:Nat):List Nat→Option (List Nat)
 | []=>none
 | x::t=>match mN n t with
  | some u=>some (x::u)
  | none=>if x+1+t.length=n then none else some (a8K (x+1) (t.length+1))
theorem A2 {n:Nat}:∀ {s u:List Nat},mN n s=some u→u.length=s.length
 | [],_,h=>by cases h
 | x::t,u,h=>by
  rw[mN] at h;split at h
  ·rename_i v c;cases h;simp[A2 c]
  ·split at h
   ·cases h
   ·cases h;simp
inductive nC (n:Nat):List Nat→List (List Nat)→Prop
 | last {s:List Nat} (h:mN n s=none):nC n s [s]
 | step {s t:List Nat} {l:List (List Nat)} (h:mN n s=some t) (w:nC n t l):nC n s (s::l)
theorem nC.map {n x k:Nat} {rest:List (List Nat)} (e:(x+1+k=n∧rest=[])∨(x+1+k≠n∧nC n (a8K (x+1) (k+1)) rest)) {t:List Nat} {l:List (List Nat)} (w:nC n t l) (c:t.length=k):nC n (x::t) (l.map (x::·)++rest):=by
 induction w with
 | @last s h =>
  rcases e with ⟨d,rfl⟩ | ⟨d,h2⟩
  ·exact .last (by rw[mN,h]; simp only; rw[if_pos (by rw[c]; exact d)])
  ·exact .step (by rw[mN,h]; simp only; rw[if_neg (by rw[c]; exact d),c]) h2
 | @step s t l h _ i=>exact .step (by rw[mN,h]) (i (by rw[A2 h,c]))
theorem TO (n:Nat):∀ (k a:Nat),a+k≤n→nC n (a8K a k) (cM n k a)
 | 0,a,_=>.last rfl
 | k+1,a,h=>by
  rw[cM];obtain⟨m,d⟩:∃ m,n-k-a=m+1:=⟨n-k-a-1,by omega⟩;rw[d];clear h
  induction m generalizing a with
  | zero =>have:=nC.map (n:=n) (x:=a) (k:=k) (rest:=[]) (.inl ⟨by omega,rfl⟩) (TO n k (a+1) Om) List.length_range';rw[List.range'_succ (n:=0),List.flatMap_cons];exact this
  | succ m e =>rw[List.range'_succ (n:=m+1),List.flatMap_cons];have c:=e (a+1) Om;exact nC.map (.inr ⟨by omega,c⟩) (TO n k (a+1) Om) List.length_range'
theorem JK {n:Nat}:∀ {s:List Nat},(∀ i (h:i<s.length),s[i]+s.length=n+i)→mN n s=none
 | [],_=>rfl
 | x::t,h=>by rw[mN,JK (s:=t) fun i hi=>by have:=h (i+1) (by simpa using hi);simp only[List.getElem_cons_succ,a8D] at this;omega];have c:=h 0 (by simp);simp only[List.getElem_cons_zero,a8D] at c;simp only;rw[if_pos Om]
theorem Pl {n:Nat}:∀ {s:List Nat} (i:Nat) (hi:i<s.length),(∀ j (h:j<s.length),i<j→s[j]+s.length=n+j)→s[i]+s.length≠n+i→mN n s=some (s.take i++a8K (s[i]+1) (s.length-i))
 | [],i,hi,_,_=>by cases hi
 | x::t,0,_,h,c=>by rw[mN,JK (s:=t) fun i hi=>by have:=h (i+1) (by simpa using hi) Om;simp only[List.getElem_cons_succ,a8D] at this;omega];simp only[List.getElem_cons_zero,a8D] at c ⊢;rw[if_neg Om];rfl
 | x::t,i+1,hi,h,c=>by
  have d:i<t.length:=by simpa using hi
  simp only[List.getElem_cons_succ,a8D] at c;rw[mN,Pl (s:=t) i d (fun j l e=>by have:=h (j+1) (by simpa using l) Om;simp only[List.getElem_cons_succ,a8D] at this;omega) Om];simp only[List.getElem_cons_succ,a8D,List.take_succ_cons,List.cons_append];rw[show t.length+1-(i+1)=t.length-i by omega]
theorem mI (n:Nat):∀ (k a:Nat),∀ s∈cM n k a,s.length=k∧(∀ x∈s,a≤x∧x<n)∧s.Pairwise (· < ·)
 | 0,a,s,h=>by rw[cM,a9A] at h;subst h;exact⟨rfl,(fun x hx=>by cases hx),.nil⟩
 | k+1,a,s,h=>by
  rw[cM,List.mem_flatMap] at h;obtain⟨i,hi,h⟩:=h;rw[a7N] at h;obtain⟨t,l,rfl⟩:=h;rw[List.mem_range'_1] at hi;obtain⟨d,c,e⟩:=mI n k (i+1) t l;refine⟨by simp[d],fun x hx=>?_,List.pairwise_cons.2 ⟨fun y p=>by have:=(c y p).1; omega,e⟩⟩;rcases a6V.1 hx with rfl | hx
  ·omega
  ·have:=c x hx; omega
theorem pL (n:Nat):∀ (k a:Nat),(cM n k a).length≤2 ^ (n-a)
 | 0,a=>by rw[cM]; exact Nat.one_le_two_pow
 | k+1,a=>by
  rw[cM];have c:∀ (m a:Nat),m+a≤n→((a8K a m).flatMap fun i=>(cM n k (i+1)).map (i::·)).length+2 ^ (n-a-m)≤2 ^ (n-a):=by
   intro m
   induction m with
   | zero=>intro a _; simp
   | succ m d =>
    intro a h;rw[List.range'_succ,List.flatMap_cons,a6T,a6K];have e:=pL n k (a+1);have l:=d (a+1) Om;rw[show n-a-(m+1)=n-(a+1)-m by omega];have p:2 ^ (n-a)=2 ^ (n-(a+1))+2 ^ (n-(a+1)):=by rw[show n-a=(n-(a+1))+1 by omega,a8C]; omega
    omega
  rcases a7H n a with h | h
  ·rw[show n-k-a=0 by omega]; simp
  ·exact a7U (Nat.le_add_right _ _) (c (n-k-a) a Om)
def gI (f:aE) (p:bT) (set:List Int):Bool:=(a6L f.a5C.length).all fun i=>!(decide (dV f p i>0)&&decide (eU f set i>dV f p i))
def lT (f:aE) (p:bT) (d:Int):Bool:=p.a5A.contains ((mdl f d.toNat:Nat):Int)
def lH (f:aE) (p:bT) (set:List Int):Bool:=set.all (lT f p)&&gI f p set
def kC (set:List Int) (top:Int) (i:Nat):Bool:=(decide (0≤set.getD i 0)&&decide (set.getD i 0<top))&&(decide (i=0)||decide (set.getD (i-1) 0<set.getD i 0))
def mD (set:List Int) (n top:Int):Bool:=decide ((set.length:Int)=n)&&(a6L set.length).all (kC set top)
def fN (f:aE) (a5L:Int):bT:=f.a5D.getD a5L.toNat aMS
def fR (p:bT):Int:=p.k+p.m
def fX (f:aE) (a5L:Int):Bool:=dS f&&(decide (0≤a5L)&&decide (a5L<f.a5D.length))
def oK (f:aE) (a5L:Int) (set:List Int):Bool:=fX f a5L&&(mD set (fR (fN f a5L)) f.a4Z.length&&lH f (fN f a5L) set)
def bK (s:List Nat):List Int:=s.map fun (x:Nat)=>(x:Int)
def nM (f:aE) (p:bT):List (List Int):=((cM f.a4Z.length (fR p).toNat 0).map bK).filter (lH f p)
def eX (f:aE) (level:Int):List (List Int) :=
 if level=5 then (a6L f.a4Z.length).map fun (d:Nat)=>[(d:Int)]
 else ((a6L f.a5C.length).filter fun i=>decide (lvl f i=level)).map fun i=>bK ((a6L f.a4Z.length).filter fun d=>decide (cL f d level=i))
def cZ (m:Int):Nat→Int
 | 0=>1
 | i+1=>a8O (cZ m i*(m-i)) (i+1)
def iW (u:List (List Int)) (s:List Nat) (d:Nat):Bool:=s.any fun i=>(u.getD i []).contains (d:Int)
def nK (f:aE) (u:List (List Int)) (count:Nat):List (List Int):=(cM u.length count 0).map fun s=>bK ((a6L f.a4Z.length).filter (iW u s))
def iH (s set:List Int):Nat:=set.countP fun d=>s.contains d
def sN (sc:List (List Int)) (set:List Int) (m:Int):Nat:=sc.countP fun s=>decide (((iH s set:Nat):Int)>m)
theorem wz:∀ {s t:List Int},s.Nodup→t.Nodup→iH s t=iH t s
 | [],t,_,_=>by simp[iH]
 | d::s,t,q,u=>by
  obtain⟨A,B⟩:=List.nodup_cons.1 q;have l:=wz B u;unfold iH at l ⊢;rw[List.countP_cons,← l];clear l q
  induction t with
  | nil=>simp
  | cons x t p =>
   obtain⟨k1,k2⟩:=List.nodup_cons.1 u;have:=p k2;rw[List.countP_cons,List.countP_cons,this];by_cases e:x=d
   ·subst e;have c:(x::s).contains x=true:=by simp
    have i:s.contains x=false:=by simpa using A
    have w:t.contains x=false:=by simpa using k1
    have y:(x::t).contains x=true:=by simp
    simp only[c,i,w,y]
   ·have c:(d::s).contains x=s.contains x:=by simp[e]
    have i:(x::t).contains d=t.contains d:=by have:¬ d=x:=fun h=>e h.symm;simp[this]
    rw[c,i];omega
def dY (set:List Int) (d:Int):Nat:=(set.takeWhile fun x=>decide (x<d)).length
theorem wb (set:List Int) (d:Int):dY set d≤set.length:=(List.takeWhile_prefix _).length_le
theorem KT (set:List Int) (d:Int) {i:Nat} (h:i<dY set d):set[i]'(Nat.lt_of_lt_of_le h (wb set d))<d:=by
 have u:=List.takeWhile_prefix (p:=fun x=>decide (x<d)) (l:=set);have e:(set.takeWhile fun x=>decide (x<d))[i]∈set.takeWhile fun x=>decide (x<d):=a6M h;have q:=List.all_takeWhile (p:=fun x=>decide (x<d)) (l:=set);have c:=a7B.1 q _ e;rw[u.getElem h] at c;exact of_decide_eq_true c
theorem adS (set:List Int) (d:Int) (h:dY set d<set.length):¬ set[dY set d]<d:=by
 induction set with
 | nil=>simp at h
 | cons x t i =>
  by_cases c:x<d
  ·have e:dY (x::t) d=dY t d+1:=by simp[dY,List.takeWhile_cons,c]
   simp only[e,List.getElem_cons_succ];exact i (by rw[e] at h; simpa using h)
  ·have e:dY (x::t) d=0:=by simp[dY,List.takeWhile_cons,c]
   simp only[e,List.getElem_cons_zero];exact c
theorem aHT {set:List Int} (q:set.Pairwise (· < ·)) (d:Int):set.contains d=(decide (dY set d<set.length)&&decide (set.getD (dY set d) 0=d)):=by
 by_cases h:dY set d<set.length
 ·have u:=adS set d h;rw[decide_eq_true h,a6W,a7C,a6Y h,a9K];by_cases e:set[dY set d]=d
  ·rw[decide_eq_true e];simp only[List.contains_iff_mem];exact e ▸ a6M h
  ·rw[decide_eq_false e];simp only[Bool.eq_false_iff,ne_eq,List.contains_iff_mem];intro p;obtain⟨i,hi,l⟩:=a9C p;rcases Nat.lt_trichotomy i (dY set d) with c | c | c
   ·have:=KT set d c; omega
   ·subst c; exact e l
   ·have:=List.pairwise_iff_getElem.1 q _ _ h hi c;omega
 ·rw[decide_eq_false h,a6R];simp only[Bool.eq_false_iff,ne_eq,List.contains_iff_mem];intro p;obtain⟨i,hi,l⟩:=a9C p;have:=KT set d (i:=i) Om;omega
theorem avR (set:List Int) {d e:Int} (h:d≤e):dY set d≤dY set e:=by
 induction set with
 | nil=>simp[dY]
 | cons x t l =>
  by_cases c:x<d
  ·have i:x<e:=Om;simp only[dY,List.takeWhile_cons,c,i,decide_true,if_true,a8D] at l ⊢;omega
  ·simp[dY,List.takeWhile_cons,c]
theorem Oy (a b:List Nat):bK (a++b)=bK a++bK b:=a7L
theorem eF (a:List Nat):(bK a).length=a.length:=a6K _
theorem tZ {a:List Nat} {i:Nat} (h:i<a.length):(aY (bK a))[i]?=some [PV.int .i64 (a[i]:Nat)]:=by
 unfold aY bK;rw[a7J,a7J,a6Y h];rfl
theorem bw (a:List Nat) (i x:Nat):(aY (bK a)).set i [PV.int .i64 (x:Nat)]=aY (bK (a.set i x)):=by
 unfold aY bK;rw[List.map_set,List.map_set]
theorem awP {top n:Nat} (h:top<n):cM top n 0=[]:=by
 cases n with
 | zero=>omega
 | succ n =>rw[cM,show top-n-0=0 by omega];rfl
theorem nC.head {n:Nat} {s:List Nat} {l:List (List Nat)} (h:nC n s l):∃ r,l=s::r:=by
 cases h with
 | last=>exact⟨_,rfl⟩
 | step=>exact⟨_,rfl⟩
def oQ (n i:Nat):List Nat:=a8K 0 i++a6N (n-i) 0
theorem ajI (n:Nat):oQ n 0=a6N n 0:=by unfold oQ; simp
theorem arL {n i:Nat} (h:i≤n):(oQ n i).length=n:=by unfold oQ; simp; omega
theorem ajH (n:Nat):oQ n n=a8K 0 n:=by unfold oQ; simp
theorem arM {n i:Nat} (h:i<n):(oQ n i).set i i=oQ n (i+1):=by
 unfold oQ;obtain⟨m,c⟩:∃ m,n-i=m+1:=⟨n-i-1,by omega⟩;rw[c,List.replicate_succ,a9H _ _ (by simp),List.length_range',a9N,List.set_cons_zero,show n-(i+1)=m by omega,List.range'_concat];simp
def onU (s:List Nat) (j y m:Nat):List Nat:=s.take j++a8K y (m-j)++s.drop m
theorem acV {s:List Nat} {j y m:Nat} (c:j≤m) (d:m≤s.length):(onU s j y m).length=s.length:=by
 unfold onU; simp; omega
theorem aQF {s:List Nat} {j y:Nat} (h:j<s.length):s.set j y=onU s j y (j+1):=by
 unfold onU;rw[List.set_eq_take_append_cons_drop,if_pos h,show j+1-j=1 by omega];simp
theorem aGV {s:List Nat} {j y m:Nat} (e:j<m) (d:m≤s.length):∃ h,(onU s j y m)[m-1]'h=y+(m-1-j):=by
 refine⟨by rw[acV Om d]; omega,?_⟩;unfold onU;have c:(s.take j).length=j:=by rw[a7D]; omega
 rw[List.getElem_append_left (by simp; omega),List.getElem_append_right Om];simp[c]
theorem aQG {s:List Nat} {j y m:Nat} (e:j≤m) (d:m<s.length):(onU s j y m).set m (y+(m-j))=onU s j y (m+1):=by
 unfold onU;have c:(s.take j++a8K y (m-j)).length=m:=by simp; omega
 rw[a9H _ _ Om,c,a9N,a8I d,List.set_cons_zero,show m+1-j=(m-j)+1 by omega,List.range'_concat];simp
theorem aGU {s:List Nat} {j y:Nat}:onU s j y s.length=s.take j++a8K y (s.length-j):=by
 unfold onU; simp
theorem aNR {C:Ctx} {K:bQ} [Up K] {n o1 o2 q:Nat} {y:PV} {F:PF} {H:PH} (E:n≤1000) (x:H q=some (.rows 1 (aY (bK (oQ n 0))))) (u:(((((((PF.nil.set 0 (y)).set 1 (.ptr o1 1 0 0)).set 2 (.ptr o2 1 0 0)).set 4 (.osl q 1 0 n)).set 14 (.int .i64 n)).set 15 (.int .i64 0))).le F)
  (w:K (.exit 0) (((((PF.nil.set 0 (y)).set 1 (.ptr o1 1 0 0)).set 2 (.ptr o2 1 0 0)).set 4 (.osl q 1 0 n))) (H.set q (.rows 1 (aY (bK (a8K 0 n)))))):aC.wp C (.loop OW) K F H:=by
 refine wp_loop (α:=Nat × PH) (fun s=>((((((PF.nil.set 0 (y)).set 1 (.ptr o1 1 0 0)).set 2 (.ptr o2 1 0 0)).set 4 (.osl q 1 0 n)).set 14 (.int .i64 n)).set 15 (.int .i64 s.1))) (fun s=>s.2) (fun s=>s.1≤n∧s.2=H.set q (.rows 1 (aY (bK (oQ n s.1))))) (fun s=>n-s.1) (0,H) ⟨a6Q _,?_⟩ u b_ ?_
 ·refine PH.ext fun o=>?_;show H o=(H.set q _) o;rw[aT];split
  ·rename_i e; rw[e,x]
  ·rfl
 rintro⟨i,A⟩ ⟨hi,p⟩;simp only at hi p;subst p;simp only[go_sem,OW,yl];by_cases hlt:i<n
 ·have c:(i:Int)<(n:Nat):=Om;have B:=arL hi;have d:=tZ (a:=oQ n i) (i:=i) Om;have l:i<(aY (bK (oQ n i))).length:=by rw[cY,eF]; omega
  simp only[go_sem,c,ym,yn,d,l,a7I,bw,arM hlt,yo,wZz i];exact aD (i+1,_) ⟨hlt,rfl⟩ (by simp only; omega) Lq b_
 ·have c:¬ (i:Int)<(n:Nat):=Om;have:i=n:=Om;subst this;rw[ajH];simp only[go_sem,c];exact Up.up Lq w
def cyF (y:PV) (o1 o2 q n:Nat):PF:=((((PF.nil.set 0 (y)).set 1 (.ptr o1 1 0 0)).set 2 (.ptr o2 1 0 0)).set 4 (.osl q 1 0 n))
theorem aqY {C:Ctx} {K:bQ} [Up K] {n top o1 o2 q:Nat} {y:PV} {s:List Nat} (V:s.length=n) (U:n≤1000) (W:top≤1000) (Q:n≤top) {F:PF} {H:PH} (b1:H o1=some (.rows 1 [[.int .i64 n]])) (b2:H o2=some (.rows 1 [[.int .i64 top]])) (E:H q=some (.rows 1 (aY (bK s))))
  (O:((cyF y o1 o2 q n).set 6 (.int .i64 ((n:Int)-1))).le F)
  (A:∀ m,m≤n→(∀ i (h:i<s.length),m≤i→s[i]+n=top+i)→(0<m→∀ (h:m-1<s.length),s[m-1]+n≠top+(m-1))→K (.exit 4) ((cyF y o1 o2 q n).set 6 (.int .i64 ((m:Int)-1))) H):aC.wp C (.loop wN) K F H:=by
 refine wp_loop (α:=Nat) (fun m=>(cyF y o1 o2 q n).set 6 (.int .i64 ((m:Int)-1))) (fun _=>H) (fun m=>m≤n∧∀ i (h:i<s.length),m≤i→s[i]+n=top+i) (fun m=>m) n ⟨a6S _,fun i h S=>by omega⟩ O b_ ?_;rintro m ⟨B,d⟩;rw[show wN=(.seq (.seq (.draw sD) (.cond (.tmp 42) .skip (.exit 4))) (.block 5 (.region GY))) from rfl];simp only[go_sem];refine bV .nil eM a_ ?_;by_cases N:m=0
 ·subst N;simp only[go_sem,sD,cyF,show ¬ ((0:Nat):Int)-1≥0 by omega];refine Up.up ?_ (A 0 B d (fun h=>by omega));unfold cyF;exact Lq
 ·obtain⟨k,rfl⟩:∃ k,m=k+1:=⟨m-1,by omega⟩;have w:(((k+1:Nat):Int)-1)=(k:Int):=Om;have x:k<s.length:=Om;have p:=tZ x;have u:k<(aY (bK s)).length:=by rw[cY,eF]; omega
  have J:IntKind.i64.wrap ((top:Int)-(n:Int))=(top:Int)-n:=wrap_i64 Om Om;have M:IntKind.i64.wrap ((top:Int)-(n:Int)+(k:Int))=(top:Int)-n+k:=wrap_i64 Om Om;have l:(k:Int)<(n:Nat):=Om;by_cases c:s[k]+n=top+k
  ·simp only[go_sem,sD,cyF,w,show (k:Int)≥0 by omega,E,p,u,l,b1,b2,a7I,J,M,bH (Om:((s[k]:Nat):Int)=(top:Int)-n+k),GY];have R:IntKind.i64.wrap ((k:Int)-1)=(k:Int)-1:=wrap_i64 Om Om;refine aD k ⟨by omega,fun i h hi=>?_⟩ Om (by (repeat' (first|exact c_|refine d_ ?_ ?_))<;>first|(simp only[go_sem,R]<;>rfl)|rfl) b_;by_cases e:i=k
   ·subst e; exact c
   ·exact d i h Om
  ·simp only[go_sem,sD,cyF,w,show (k:Int)≥0 by omega,E,p,u,l,b1,b2,a7I,J,M,bF (Om:((s[k]:Nat):Int)≠(top:Int)-n+k)];refine Up.up ?_ (A (k+1) B d (fun _ h=>c));unfold cyF
   (repeat' (first|exact c_|refine d_ ?_ ?_))<;>first|(simp only[go_sem,w]<;>rfl)|rfl
theorem aNS {C:Ctx} {K:bQ} [Up K] {n o1 o2 q j x:Nat} {y:PV} {s:List Nat} (V:s.length=n) (hn:n≤1000) (hx:x≤1000000) (R:j<n) {F:PF} {H:PH} (b1:H o1=some (.rows 1 [[.int .i64 n]])) (J:¬ o1=q) (U:H q=some (.rows 1 (aY (bK (onU s j x (j+1))))))
  (N:((cyF y o1 o2 q n).set 7 (.int .i64 (j+1:Nat))).le F)
  (O:K (.exit 6) (cyF y o1 o2 q n) (H.set q (.rows 1 (aY (bK (s.take j++a8K x (n-j))))))):aC.wp C (.loop wO) K F H:=by
 refine wp_loop (α:=Nat × PH) (fun m=>(cyF y o1 o2 q n).set 7 (.int .i64 m.1)) (fun m=>m.2) (fun m=>j+1≤m.1∧m.1≤n∧m.2=H.set q (.rows 1 (aY (bK (onU s j x m.1))))) (fun m=>n-m.1) (j+1,H) ⟨a6S _,R,?_⟩ N b_ ?_
 ·refine PH.ext fun o=>?_;show H o=(H.set q _) o;rw[aT];split
  ·rename_i e; rw[e,U]
  ·rfl
 rintro⟨m,Y⟩ ⟨A,B,M⟩;simp only at A B M;subst M;have u:¬ q=o1:=fun e=>J e.symm;rw[show wO=(.seq (.seq (.region wQ) (.cond (.tmp 57) .skip (.exit 6))) (.seq (.block 7 (.region HB)) (.region HC))) from rfl];by_cases hlt:m<n
 ·have c:(m:Int)<(n:Nat):=Om;obtain⟨S,Q⟩:=aGV (s:=s) (j:=j) (y:=x) (m:=m) Om Om;have d:=tZ S;rw[Q] at d;have Z:=acV (s:=s) (j:=j) (y:=x) (m:=m) Om Om;have w:m-1<(aY (bK (onU s j x m))).length:=by rw[cY,eF]; omega
  have l:m<(aY (bK (onU s j x m))).length:=by rw[cY,eF]; omega
  have i:(aY (bK (onU s j x m)))[m]?=some [PV.int .i64 ((onU s j x m)[m]'Om:Nat)]:=tZ Om;have W:IntKind.i64.wrap ((m:Int)-1)=((m-1:Nat):Int):=by rw[wrap_i64 Om Om]; omega
  have X:IntKind.i64.wrap (((x+(m-1-j):Nat):Int)+1)=((x+(m-j):Nat):Int):=by rw[wrap_i64 Om Om]; omega
  have p:((m-1:Nat):Int)<(n:Nat):=Om;have E:=aQG (s:=s) (j:=j) (y:=x) (m:=m) Om Om;simp only[go_sem,wQ,cyF,b1,J,u,c,HB,W,p,d,w,a7I,X,i,l,bw,E,HC,wZz m];refine aD (m+1,_) ⟨by simp only; omega,hlt,rfl⟩ (by simp only; omega) Lq b_
 ·have c:¬ (m:Int)<(n:Nat):=Om;have:m=n:=Om;subst this;have e:=aGU (s:=s) (j:=j) (y:=x);rw[V] at e;rw[e];simp only[go_sem,wQ,cyF,b1,J,u,c];refine Up.up ?_ O;unfold cyF;exact Lq
theorem nC.done {n:Nat} {s:List Nat} {l:List (List Nat)} (h:nC n s l) (d:mN n s=none):l=[s]:=by
 cases h with
 | last=>rfl
 | step c=>rw[d] at c; cases c
theorem nC.next {n:Nat} {s t:List Nat} {l:List (List Nat)} (h:nC n s l) (d:mN n s=some t):∃ r,l=s::r∧nC n t r:=by
 cases h with
 | last c=>rw[d] at c; cases c
 | step c w=>rw[d] at c; cases c; exact⟨_,rfl,w⟩
structure aCI (J:Nat→PH→Prop) (ss:List (List Nat)) (top n o1 o2 q k:Nat) (s:List Nat) (G H:PH):Prop where
 lt:k<ss.length
 walk:nC top s (ss.drop k)
 len:s.length=n
 rng:∀ x∈s,x<top
 j:J k G
 le:G.le H
 g1:G o1=none
 g2:G o2=none
 gq:G q=none
 b1:H o1=some (.rows 1 [[.int .i64 n]])
 b2:H o2=some (.rows 1 [[.int .i64 top]])
 bq:H q=some (.rows 1 (aY (bK s)))
theorem aDG {C:Ctx} {l o1 o2 n top:Nat} (J:Nat→PH→Prop) (d:List (List Nat)) (R:d=cM top n 0) (h1:1≤n) (hn:n≤1000) (ht:top≤1000)
  (hY:∀ k (hk:k<d.length) G c,J k G→G c=none→EZ C l [.osl c 1 0 n] (G.set c (.rows 1 (aY (bK d[k])))) (fun r H'=>r=.bool true∧J (k+1) H'))
  {M H:PH} (W:J 0 M) (p:M.le H) (b1:H o1=some (.rows 1 [[.int .i64 n]])) (b2:H o2=some (.rows 1 [[.int .i64 top]])) (g1:M o1=none) (g2:M o2=none) :
  CI.wp C (aV Jf.res (fun _ H'=>∃ G,J d.length G∧G.le H')) (PF.args [wB l,.ptr o1 1 0 0,.ptr o2 1 0 0]) H:=by
 simp only[go_sem,CI,yi,Jf,b1,b2];by_cases c:n>top
 ·have:d=[]:=by rw[R]; exact awP c
  subst this;simp only[go_sem,show (n:Int)>(top:Nat) by omega];exact bA (vs:=[]) (.inr rfl) M rfl p ⟨M,W,b_⟩
 simp only[go_sem,show ¬ (n:Int)>(top:Nat) by omega,yj,b1,show (0:Int)≤n by omega,Int.le_refl,show (n:Int)*((8:Nat):Int)≤140737488355328 by omega,show (n:Int)≤9223372036854775807 by omega,a8G];refine aR fun q Q=>?_;obtain⟨a1,υ⟩:¬ o1=q∧¬ q=o1:=⟨(fun e=>by rw[e,Q] at b1; cases b1),fun e=>by rw[← e,Q] at b1; cases b1⟩;obtain⟨a2,φ⟩:¬ o2=q∧¬ q=o2:=⟨(fun e=>by rw[e,Q] at b2; cases b2),fun e=>by rw[← e,Q] at b2; cases b2⟩;have ez:a6N n [PV.int .i64 0]=aY (bK (oQ n 0)):=by rw[ajI];unfold aY bK;rw[List.map_replicate,List.map_replicate];rfl
 rw[ez];simp only[go_sem,yk];refine aNR (n:=n) (o1:=o1) (o2:=o2) (q:=q) (y:=wB l) hn (by rw[cN]) Lq ?_;rw[PH.set_set];have Z:M q=none:=by
  cases h:M q with
  | none=>rfl
  | some x=>rw[p q x h] at Q; cases Q
 have hw:=TO top n 0 Om;rw[← R] at hw;obtain⟨r0,ε⟩:=hw.head;have N:=mI top n 0;rw[← R] at N;simp only[go_sem];refine wp_loop (α:=Nat × List Nat × PH × PH) (fun _=>cyF (wB l) o1 o2 q n) (fun x=>x.2.2.2) (fun x=>aCI J d top n o1 o2 q x.1 x.2.1 x.2.2.1 x.2.2.2) (fun x=>d.length-x.1) (0,a8K 0 n,M,H.set q (.rows 1 (aY (bK (a8K 0 n))))) ?_ (by unfold cyF; exact Lq) b_ ?_
 ·exact⟨(by simp only; rw[ε]; simp),hw,List.length_range',(fun x hx=>by rw[List.mem_range'_1] at hx; omega),W,PH.le_trans p (PH.PZ _ Q),g1,g2,Z,(by simp only; rw[aT,if_neg a1]; exact b1),(by simp only; rw[aT,if_neg a2]; exact b2),(by simp only; rw[cN])⟩
 clear b1 b2 g1 g2 Z Q p W hw ε ez;rintro⟨k,s,G,H⟩ A;have A:aCI J d top n o1 o2 q k s G H:=A;obtain⟨hlt,U,w,ζ,W,p,g1,g2,gq,b1,b2,bq⟩:=A;have B:d.drop k=d[k]::d.drop (k+1):=a8I hlt;have σ:d[k]=s:=by obtain⟨r,F⟩:=U.head;rw[B] at F;injection F
 have S:dT H 1 (.osl q 1 0 n)=some (aY (bK s)):=by
  have:=(show bP H 1 (.osl q 1 0 (aY (bK s)).length) (aY (bK s)) from .inr ⟨q,_,rfl,bq,a6S _,a7M⟩).view
  rwa [cY,eF,w] at this
 rw[show ik=(.seq (.seq (.region OX) (.cond (.tmp 26) .skip (.exit 2))) (.block 3 (.seq (.region OY) (.seq (.block 4 (.loop wN)) (.seq (.seq (.region wP) (.cond (.tmp 46) .ret .skip)) (.seq (.region GZ) (.seq (.region HA) (.block 6 (.loop wO))))))))) from rfl];simp only[go_sem,OX,cyF];refine tG S (by unfold roomFor; rw[cY,eF]; simp only[maxLen]; omega) (fun h=>?_) fun _ c hc=>?_
 ·have:=congrArg List.length h;rw[cY,eF,w] at this;simp at this;omega
 rw[cY,eF,w];have θ:G c=none:=by
  cases h:G c with
  | none=>rfl
  | some x=>rw[p c x h] at hc; cases hc
 have hy:=hY k hlt G c W θ;rw[σ] at hy;have ne:∀ {b:Nat} {x:cC},H b=some x→¬ b=c:=fun V e=>by rw[e,hc] at V; cases V
 refine⟨l,rfl,.inl ⟨_,G.set c (.rows 1 (aY (bK s))),_,Ev,?_,hy,?_⟩⟩
 ·intro o x K;rw[aT] at K ⊢;split at K
  ·rename_i e; rw[if_pos e]; exact K
  ·rename_i e; rw[if_neg e]; exact p o x K
 rintro _ H' ⟨rfl,X⟩ ι;have keep:∀ {b:Nat} {x:cC},H b=some x→G b=none→H' b=none∧((H.set c (.rows 1 (aY (bK s)))).over (G.set c (.rows 1 (aY (bK s)))) H') b=some x:=fun {b} {x} V hg=>by
  have e:=ne V;have h':H' b=none:=by
   cases h:H' b with
   | none=>rfl
   | some y =>have:=ι b y h (by rw[aT,if_neg e]; exact hg);rw[aT,if_neg e,V] at this;cases this
  refine⟨h',?_⟩;rw[gG,h'];simp only[aT,if_neg e,hg,V]
 obtain⟨k1,d1⟩:=keep b1 g1;obtain⟨k2,d2⟩:=keep b2 g2;obtain⟨kq,dq⟩:=keep bq gq;have O:H'.le ((H.set c (.rows 1 (aY (bK s)))).over (G.set c (.rows 1 (aY (bK s)))) H'):=fun o x K=>by rw[gG,K]
 generalize (H.set c (.rows 1 (aY (bK s)))).over (G.set c (.rows 1 (aY (bK s)))) H'=H2 at *
 have w1:IntKind.i64.wrap ((n:Int)-1)=(n:Int)-1:=wrap_i64 Om Om;simp only[go_sem,OY,d1,w1];refine aqY (n:=n) (top:=top) (o1:=o1) (o2:=o2) (q:=q) (y:=wB l) (s:=s) w hn ht Om d1 d2 dq (by unfold cyF; exact Lq) fun m hm E β=>?_;by_cases m0:m=0
 ·subst m0;have ο:mN top s=none:=JK fun i hi=>by have:=E i hi (a6Q _); omega
  have Y:k+1=d.length:=by have:=congrArg List.length (U.done ο);rw[a8Q,a6X] at this;omega
  simp only[go_sem,cyF,wP,show ((0:Nat):Int)-1<0 by omega];exact bA (vs:=[]) (.inr rfl) H' rfl O ⟨H',by rw[← Y]; exact X,b_⟩
 ·obtain⟨j,rfl⟩:∃ j,m=j+1:=⟨m-1,by omega⟩;have u:j<s.length:=Om;have ξ:(j:Int)<(n:Nat):=Om;have e0:(((j+1:Nat):Int)-1)=(j:Int):=Om;have γ:=Pl (n:=top) (s:=s) j u (fun i hi ν=>by have:=E i hi ν; omega) (by have:=β (Nat.succ_pos _) u; simp only[Nat.add_sub_cancel] at this; omega);rw[w] at γ;have χ:=ζ s[j] (a6M u);have κ:=tZ u;have μ:j<(aY (bK s)).length:=by rw[cY,eF]; exact u
  have w2:IntKind.i64.wrap (((s[j]:Nat):Int)+1)=((s[j]+1:Nat):Int):=cW Om;have δ:=aQF (s:=s) (j:=j) (y:=s[j]+1) u;simp only[go_sem,cyF,wP,e0,show ¬ (j:Int)<0 by omega,GZ,dq,κ,μ,ξ,a7I,w2,bw,δ,HA,wZz j];refine aNS (n:=n) (o1:=o1) (o2:=o2) (q:=q) (j:=j) (x:=s[j]+1) (y:=wB l) (s:=s) w hn Om Om (by rw[aT,if_neg a1]; exact d1) a1 (by rw[cN]) (by unfold cyF; exact Lq) ?_;rw[PH.set_set];have a5V:k+1<d.length∧nC top (s.take j++a8K (s[j]+1) (n-j)) (d.drop (k+1)):=by
   obtain⟨r,F,η⟩:=U.next γ;rw[B] at F;injection F with _ F
   rw[F];refine⟨?_,η⟩;obtain⟨r2,ρ⟩:=η.head;have:=congrArg List.length F;rw[ρ,a8Q,a8D] at this;omega
  have τ:aCI J d top n o1 o2 q (k+1) (s.take j++a8K (s[j]+1) (n-j)) H' (H2.set q (.rows 1 (aY (bK (s.take j++a8K (s[j]+1) (n-j)))))):={
      lt:=a5V.1
      walk:=a5V.2
      len:=by simp; omega
      rng:=fun x hx=>by
       have h2:=N (d[k+1]'a5V.1) (a6M _);have h3:d[k+1]'a5V.1=s.take j++a8K (s[j]+1) (n-j):=by obtain⟨r,F⟩:=a5V.2.head;rw[a8I a5V.1] at F;injection F
       rw[h3] at h2;exact (h2.2.1 x hx).2
      j:=X
      le:=fun o x K=>by
       have:¬ o=q:=fun e=>by rw[e,kq] at K; cases K
       rw[aT,if_neg this];exact O o x K
      g1:=k1,g2:=k2,gq:=kq
      b1:=by rw[aT,if_neg a1]; exact d1
      b2:=by rw[aT,if_neg a2]; exact d2
      bq:=by rw[cN] }
  simp only[go_sem,cyF];exact aD (k+1,s.take j++a8K (s[j]+1) (n-j),H',H2.set q (.rows 1 (aY (bK (s.take j++a8K (s[j]+1) (n-j)))))) τ (by simp only; omega) Lq b_
def lK (f:aE) (p:bT) (xs:List Int) (i:Nat):Bool:=!(decide (dV f p i>0)&&decide (eU f xs i>dV f p i))
theorem tD (f:aE) (p:bT) (xs:List Int):gI f p xs=(a6L f.a5C.length).all (lK f p xs):=rfl
theorem arA (f:aE) (xs ys:List Int) (i:Nat):eU f xs i≤eU f (xs++ys) i:=by
 unfold eU;rw[List.countP_append];split<;>omega
theorem auF {f:aE} {p:bT} {xs ys:List Int} {i:Nat} (h:lK f p xs i=false):lK f p (xs++ys) i=false:=by
 have:=arA f xs ys i;unfold lK at h ⊢;simp only[Bool.not_eq_false',a7E,decide_eq_true_eq] at h ⊢;omega
theorem KX {f:aE} {p:bT} {xs:List Int} {i:Nat} (hi:i<f.a5C.length) (h:lK f p xs i=false):gI f p xs=false:=by
 rw[tD];simp only[List.all_eq_false,a7P];exact⟨i,hi,by rw[h]; simp⟩
theorem Ry {f:aE} {p:bT} {xs ys:List Int} (h:gI f p xs=false):gI f p (xs++ys)=false:=by
 rw[tD] at h;simp only[List.all_eq_false,a7P] at h;obtain⟨i,hi,h⟩:=h;exact KX hi (auF (by simpa using h))
theorem Wg (f:aE) (p:bT):gI f p []=true:=by
 rw[tD];simp only[a7B,a7P];intro i _;unfold lK eU;simp;omega
theorem ny {f:aE} (hV:VF f) {p:bT} {xs:List Int} (h:∀ i,i<f.a5C.length→0<lvl f i→lK f p xs i=true):gI f p xs=true:=by
 rw[tD];simp only[a7B,a7P];intro i hi;have c:=hV.jR hi;by_cases e:i=0
 ·unfold lK eU;rw[if_pos e];simp;omega
 ·exact h i hi Om
theorem aQD {f:aE} {p:bT} {xs:List Int} (h:gI f p xs=true) {i:Nat} (hi:i<f.a5C.length):lK f p xs i=true:=by
 rw[tD] at h;exact a7B.1 h i (a7P.2 hi)
theorem Df (p:bT) (t:List PV) {n:Nat} (h:n<5):(if 1≤(List.drop n (PV.int .i64 p.s0::PV.int .i64 p.s1::PV.int .i64 p.s2::PV.int .i64 p.s3::PV.int .i64 p.s4::t)).length then some (List.take 1 (List.drop n (PV.int .i64 p.s0::PV.int .i64 p.s1::PV.int .i64 p.s2::PV.int .i64 p.s3::PV.int .i64 p.s4::t))) else none)=some [PV.int .i64 (p.spread n)]:=by
 have:n=0∨n=1∨n=2∨n=3∨n=4:=Om;rcases this with rfl | rfl | rfl | rfl | rfl<;>simp[bT.spread]
def GJ (f:aE) (p:bT) (c oD:Nat) (set:List Int) (k:Nat):PF:=(((((((PF.nil.set 3 (.bG f.cells)).set 4 (.bG p.cells)).set 7 (.osl c 1 0 f.a5A.length)).set 10 (.osl oD 1 0 f.a5C.length)).set 34 (ints set)).set 35 (.int .i64 (set.length:Nat))).set 36 (.int .i64 k))
def aiH (f:aE) (p:bT) (c oD:Nat) (set:List Int) (k:Nat) (at_:Nat):PF:=((((((((PF.nil.set 3 (.bG f.cells)).set 4 (.bG p.cells)).set 7 (.osl c 1 0 f.a5A.length)).set 10 (.osl oD 1 0 f.a5C.length)).set 34 (ints set)).set 35 (.int .i64 (set.length:Nat))).set 36 (.int .i64 k)).set 13 (.int .i64 at_))
theorem aNN {C:Ctx} {K:bQ} [Up K] (f:aE) (hV:VF f) (p:bT) (oA oD:Nat) (set:List Int) (k:Nat) (xs:List Int) (ζ:xs.length≤16777216) (β:gI f p xs=true) (d:Nat) (hd:d<f.a4Z.length) {F:PF} {H:PH}
  (hF:(aiH f p oA oD set k (dC f d)).le F) (hD:H oD=some (.rows 1 (aY (lW f xs))))
  (hR:∀ F' H',F' 6=some (.bool false)→gI f p (xs++[(d:Int)])=false→K .ret F' H')
  (hK:gI f p (xs++[(d:Int)])=true→K (.exit 4) (GJ f p oA oD set k) (H.set oD (.rows 1 (aY (lW f (xs++[(d:Int)])))))) :
  aC.wp C (.loop YP) K F H:=by
 refine wp_loop (α:=Nat × PH) (fun t=>aiH f p oA oD set k (upN f t.1 (dC f d))) (fun t=>t.2) (fun t=>t.1≤4∧t.2=H.set oD (.rows 1 (aY (mF f xs d t.1)))∧∀ i,i<f.a5C.length→4-(t.1:Int)<lvl f i→lK f p (xs++[(d:Int)]) i=true) (fun t=>4-t.1) (0,H) ⟨a6Q _,?_,?_⟩ (by rw[upN]; exact hF) b_ ?_
 ·rw[arC hV];refine PH.ext fun o=>?_;show H o=(H.set oD _) o;rw[aT];split
  ·rename_i e; rw[e,hD]
  ·rfl
 ·intro i hi hl;have:=(hV.jR hi).2.1;simp only at hl;omega
 rintro⟨j,H0⟩ ⟨hj,hH,q⟩;simp only at hj hH q;subst hH;obtain⟨w,U⟩:=GC hV hd (k:=j) hj;simp only[go_sem,YP,If,aiH];by_cases hlt:j<4
 ·have Z:0<upN f j (dC f d):=by
   rcases a8R (upN f j (dC f d)) with e | e
   ·rw[e,hV.root.2.1] at U; omega
   ·exact e
  have V:((upN f j (dC f d):Nat):Int)>0:=Om;obtain⟨b1,b2⟩:=aNX hV xs hd hlt;have M:(aY (mF f xs d j))[upN f j (dC f d)]?=some [.int .i64 (eU f xs (upN f j (dC f d)))]:=by unfold aY; rw[a7J,b1]; rfl
  have δ:=aNW f xs (upN f j (dC f d));have hw:IntKind.i64.wrap (eU f xs (upN f j (dC f d))+1)=eU f xs (upN f j (dC f d))+1:=wrap_i64 Om Om;have x:((upN f j (dC f d):Nat):Int)<(f.a5C.length:Nat):=Om;have X:upN f j (dC f d)<(aY (mF f xs d j)).length:=by rw[cY,aDY]; exact w
  have Q:eU f (xs++[(d:Int)]) (upN f j (dC f d))=eU f xs (upN f j (dC f d))+1:=by rw[AY f xs d Om,cL,U,show 4-(4-(j:Int)).toNat=j by omega,if_pos rfl]
  have l:lK f p (xs++[(d:Int)]) (upN f j (dC f d))=!(decide (dV f p (upN f j (dC f d))>0)&&decide (eU f xs (upN f j (dC f d))+1>dV f p (upN f j (dC f d)))):=by rw[lK,Q]
  have a5V:lK f p (xs++[(d:Int)]) (upN f j (dC f d))=true→∀ i,i<f.a5C.length→4-((j+1:Nat):Int)<lvl f i→lK f p (xs++[(d:Int)]) i=true:=by
   intro h i hi hl;by_cases e:i=upN f j (dC f d)
   ·rw[e]; exact h
   ·by_cases c:4-(j:Int)<lvl f i
    ·exact q i hi c
    ·have O:lvl f i=4-(j:Int):=Om;have W:i≠0:=by intro e; subst e; rw[hV.root.2.1] at O; omega
     have E:eU f (xs++[(d:Int)]) i=eU f xs i:=by rw[AY f xs d W,cL,O,show 4-(4-(j:Int)).toNat=j by omega,if_neg (fun h=>e h.symm)]; simp
     have:=aQD β hi;unfold lK at this ⊢;rw[E]; exact this
  have N:lK f p (xs++[(d:Int)]) (upN f j (dC f d))=false→gI f p (xs++[(d:Int)])=false:=KX w;have Y:dV f p (upN f j (dC f d))=p.spread (4-(j:Int)).toNat:=by rw[dV,U]
  rw[Y] at l;have γ:=M;have B:(aY (mF f xs d j)).set (upN f j (dC f d)) [.int .i64 (eU f xs (upN f j (dC f d))+1)]=aY (mF f xs d (j+1)):=by rw[zp,b2]
  have y:(aY (mF f xs d (j+1)))[upN f j (dC f d)]?=some [.int .i64 (eU f xs (upN f j (dC f d))+1)]:=by rw[← B,List.getElem?_set_self X]
  have R:upN f (j+1) (dC f d)=JW f (upN f j (dC f d)):=rfl;have A:=hV.vj Z w;generalize ε:upN f j (dC f d)=u at *
  generalize eU f xs u=dc at *
  have l0:(0:Int)≤4-(j:Int):=Om;have h5:4-(j:Int)<((5:Nat):Int):=Om;simp only[go_sem,V,Ig,x,a7I,M,hw,B,Ih,eY w,sP w,U,l0,h5,Nat.mul_one];rw[Df p _ (Om:(4-(j:Int)).toNat<5)];by_cases J:p.spread (4-(j:Int)).toNat>0
  ·by_cases S:dc+1>p.spread (4-(j:Int)).toNat
   ·simp only[go_sem,GL,J,S,x,y,a7I,Ii];exact hR _ _ Sq (N (by rw[l,decide_eq_true J,decide_eq_true S]; rfl))
   ·simp only[go_sem,GL,J,S,x,y,a7I,YS,eY w,lz w,A];exact aD (j+1,_) ⟨hlt,rfl,a5V (by rw[l,decide_eq_false S,a7S]; rfl)⟩ (by simp only; omega) (by (repeat' (first|exact c_|refine d_ ?_ ?_))<;>first|(simp only[go_sem,R]<;>rfl)|rfl) b_
  ·simp only[go_sem,GL,J,YS,x,a7I,eY w,lz w,A];exact aD (j+1,_) ⟨hlt,rfl,a5V (by rw[l,decide_eq_false J]; rfl)⟩ (by simp only; omega) (by (repeat' (first|exact c_|refine d_ ?_ ?_))<;>first|(simp only[go_sem,R]<;>rfl)|rfl) b_
 ·have:j=4:=Om;subst this;have h0:upN f 4 (dC f d)=0:=by have:=hV.jR w;omega
  have V:¬ ((upN f 4 (dC f d):Nat):Int)>0:=Om;simp only[go_sem,V];rw[arB hV];refine Up.up ?_ (hK (ny hV fun i hi h=>q i hi (by simpa using h)));unfold GJ;exact Lq
theorem aCM {f:aE} {p:bT} {set:List Int} {d:Int} (c:d∈set) (h:lT f p d=false):lH f p set=false:=by
 unfold lH;have:set.all (lT f p)=false:=by simp only[List.all_eq_false];exact⟨d,c,by rw[h]; simp⟩
 rw[this]; rfl
theorem aCL {f:aE} {p:bT} {set:List Int} {k:Nat} (h:gI f p (set.take k)=false):lH f p set=false:=by
 have:=Ry (ys:=set.drop k) h;rw[a9I] at this;unfold lH;rw[this,a7S]
def ahS (f:aE) (set:List Int):Prop:=set.length≤16777216∧∀ x∈set,0≤x∧x<(f.a4Z.length:Nat)
theorem aqK {C:Ctx} {K:bQ} [Up K] (f:aE) (hV:VF f) (p:bT) (M oD:Nat) (hn:M≠oD) (set:List Int) (hs:ahS f set) {F:PF} {H:PH}
  (Y:(GJ f p M oD set 0).le F) (J:H M=some (.rows 1 (dB (marks f.a5A.length p.a5A)))) (hD:H oD=some (.rows 1 (aY (lW f []))))
  (U:∀ N H',N 6=some (.bool false)→lH f p set=false→K .ret N H')
  (Z:∀ N H',lH f p set=true→K (.exit 2) N H') :
  aC.wp C (.loop yY) K F H:=by
 obtain⟨β,S⟩:=hs;refine wp_loop (α:=Nat × PH) (fun t=>GJ f p M oD set t.1) (fun t=>t.2) (fun t=>t.1≤set.length∧t.2 M=some (.rows 1 (dB (marks f.a5A.length p.a5A)))∧t.2 oD=some (.rows 1 (aY (lW f (set.take t.1))))∧(set.take t.1).all (lT f p)=true∧gI f p (set.take t.1)=true) (fun t=>set.length-t.1) (0,H) ⟨a6Q _,J,hD,rfl,Wg f p⟩ Y b_ ?_;rintro⟨k,W⟩ ⟨hk,J,hD,e,w⟩;simp only at hk J hD e w;by_cases hlt:k<set.length
 ·have i:(k:Int)<(set.length:Nat):=Om;have R:(set.map fun n=>[PV.int .i64 n])[k]?=some [.int .i64 set[k]]:=by simp[hlt]
  have A:set.take (k+1)=set.take k++[set[k]]:=a8E hlt;have hx:=S set[k] (a6M hlt);have hm:=a6M hlt;generalize γ:set[k]=x at *
  obtain⟨d,rfl⟩:∃ d:Nat,x=d:=⟨x.toNat,by omega⟩;have c:d<f.a4Z.length:=Om;have B:(d:Int)<(f.a4Z.length:Nat):=Om;obtain⟨w1,w2,w3,w4,w5⟩:=hV.drive d c;have E:((mdl f d:Nat):Int)<(f.a5A.length:Nat):=Om;have u:(dB (marks f.a5A.length p.a5A))[mdl f d]?=some [.bool (p.a5A.contains ((mdl f d:Nat):Int))]:=by have:=zP (n:=f.a5A.length) (l:=p.a5A) (m:=((mdl f d:Nat):Int)) Om E;rw[a8G] at this;unfold dB;rw[a7J,this]; rfl
  have q:lT f p (d:Int)=p.a5A.contains ((mdl f d:Nat):Int):=by rw[lT,a8G]
  cases V:p.a5A.contains ((mdl f d:Nat):Int) with
  | false =>rw[V] at u q;simp only[go_sem,yY,GK,GJ,i,YQ,R,YR,pD c,B,hV.jv c,E,a7I,J,u,a7A,Id];exact U _ _ Sq (aCM hm q)
  | true =>
   rw[V] at u q;simp only[go_sem,yY,GK,GJ,i,YQ,R,YR,pD c,B,hV.jv c,E,a7I,J,u,a6P,Ie,hV.uj c];have up:=fun {K:bQ} [Up K] {F:PF} {H:PH}=>aNN (C:=C) (K:=K) f hV p M oD set k (set.take k) (by rw[a7D]; omega) w d c (F:=F) (H:=H);refine up (by unfold aiH; exact Lq) hD ?_ ?_
   ·intro N H' X O;simp only[go_sem];exact U _ _ X (aCL (k:=k+1) (by rw[A]; exact O))
   ·intro Q;simp only[go_sem,GJ,Ij,wZz k];refine aD (k+1,W.set oD (.rows 1 (aY (lW f (set.take k++[(d:Int)]))))) ⟨hlt,?_,?_,?_,by rw[A]; exact Q⟩ (by simp only; omega) Lq b_
    ·simp only[aT,if_neg hn]; exact J
    ·simp only[cN,A]
    ·rw[A];intro y hy;rcases a8J.1 hy with h | h
     ·exact a7B.1 e y h
     ·rw[a9A.1 h]; exact q
 ·have i:¬ (k:Int)<(set.length:Nat):=Om;have:k=set.length:=Om;subst this;rw[a7M] at e w;simp only[go_sem,yY,GK,GJ,i];exact Z _ _ (by rw[lH,e,w]; rfl)

def aYV (down:List Int) (d:Int):Bool:=decide (0≤d)&&down.contains d
def aYW (down:List Int) (d:Int):Bool:=decide (0≤d)&&!down.contains d
def a2I (down row:List Int):Bool:=row.any (aYV down)
def aQH (down row:List Int):Nat:=row.countP (aYW down)
def aVW (f:aE) (c:Int) (down:List Int) (v:Nat) (row:List Int):Bool:=a2I down row&&decide (((aQH down row:Nat):Int)<(KB f v).k+c)
def aYX (f:aE) (d:List (List Int)) (c:Int) (down:List Int) (n:Nat):Bool:=(a6L n).all fun v=>!aVW f c down v (d.getD v [])
def Gn (f:aE) (d:List (List Int)) (c:Int) (down:List Int):Bool:=aYX f d c down d.length
def acY:Rg:=[iA 3 (.box true (Tm 0)),iA 4 (.box true (Tm 1)),iT 6 false]
def acZ:Rg:=[iM 10 2,iN 11 10,iF 12 1 4,iL 13 12,iF 14 2 4,iL 15 14,iB 16 .add 13 15,iB 17 .neq 11 16]
def adA:Rg:=[iT 6 false]
def adB:Rg:=[iI 7 0]
def vn:Rg:=[iM 18 7,iM 19 2,iN 20 19,iB 21 .lss 18 20]
def yK:Rd:=[(iM 24 2,false),(iM 25 7,false),(iX 26 1 24 25,false),(iL 27 26,false),(iC 28 .lss 27 0,false),(iM 29 28,false),(gM 30 2 29 false,false),(gM 31 7 29 false,false),(iG 32 (.a5Q 1 (Tm 30) (Tm 31)) 29 false,false),(gL 33 32 29 false,false),(gF 34 4 3 29 false,false),(gL 35 34 29 false,false),(gN 36 35 29 false,false),(gB 37 .geq 33 36 29 false,false),(iQ 38 29 37,false),(iM 39 38,false),(gM 40 7 39 false,false),(gC 41 .gtr 40 0 39 false,false),(gM 42 41 39 false,false),(gM 43 2 42 true,false),(gM 44 7 42 true,false),(iG 45 (.a5Q 1 (Tm 43) (Tm 44)) 42 true,false),(gL 46 45 42 true,false),(gM 47 2 42 true,false),(gM 48 7 42 true,false),(gC 49 .sub 48 1 42 true,false),(iG 50 (.a5Q 1 (Tm 47) (Tm 49)) 42 true,false),(gL 51 50 42 true,false),(gB 52 .leq 46 51 42 true,false),(iG 53 (.pick (Tm 42) (Tm 52) (.const zB)) 39 false,false),(iQ 54 39 53,false),(iM 55 54,false),(gO 56 17 4 55 false,false),(gO 57 7 3 55 false,false),(gM 58 2 55 false,false),(gM 59 7 55 false,false),(iG 60 (.a5Q 1 (Tm 58) (Tm 59)) 55 false,false),(gL 61 60 55 false,false),(iG 62 (.call 77 [(Tm 56),(Tm 57),(Tm 61)]) 55 false,true),(iG 63 (.un .not (Tm 62)) 55 false,false),(iQ 64 55 63,false)]
def yL:Rg:=[iT 6 false]
def vp:Rg:=[iM 22 7,iC 23 .add 22 1,iM 7 23]
def vm:aC:=(.seq (sq vn (.cond (Tm 21) .skip (.exit 0))) (.seq (.block 1 (dq yK (.cond (Tm 64) (sq yL .ret) .skip))) (.region vp)))
def adC:Rg:=[iI 8 1]
def Qq:Rg:=[iM 65 8,iF 66 3 3,iL 67 66,iN 68 67,iB 69 .lss 65 68]
def Qr:Rg:=[iF 72 3 3,iL 73 72,iM 74 8,iX 75 7 73 74,iF 76 1 75,iL 77 76,iF 78 4 4,iA 79 (.idxA 5 1 (Tm 78) (Tm 77)),iL 80 79,iM 9 80]
def cn:Rg:=[iM 81 9,iC 82 .gtr 81 0,iM 83 82,gO 84 7 3 83 true,gM 85 2 83 true,gM 86 8 83 true,iG 87 (.call 80 [(Tm 84),(Tm 85),(Tm 86)]) 83 true,gM 88 9 83 true,gB 89 .gtr 87 88 83 true,iP 90 83 89]
def Qs:Rg:=[iT 6 false]
def cp:Rg:=[iM 70 8,iC 71 .add 70 1,iM 8 71]
def cl:aC:=(.seq (sq Qq (.cond (Tm 69) .skip (.exit 2))) (.seq (.block 3 (sq Qr (sq cn (.cond (Tm 90) (sq Qs .ret) .skip)))) (.region cp)))
def Qt:Rg:=[iT 6 true]
def RU:aC:=(sq acY (.seq (sq acZ (.cond (Tm 17) (sq adA .ret) .skip)) (.seq (sq adB (.block 0 (.loop vm))) (.seq (sq adC (.block 2 (.loop cl))) (sq Qt .ret)))))
def aQO:List Nat:=[3,4]
def aHE:aS:=⟨3,91,RU,[.tmp 6]⟩
def Bw:Rg:=[iA 3 (.box true (Tm 0)),iT 6 false]
def Bx:Rd:=[(iO 7 7 3,false),(iK 8 67 7,true),(iM 9 8,false),(gM 10 1 9 true,false),(gC 11 .geq 10 0 9 true,false),(iP 12 9 11,false),(iM 13 12,false),(gM 14 1 13 true,false),(gF 15 5 3 13 true,false),(gL 16 15 13 true,false),(gN 17 16 13 true,false),(gB 18 .lss 14 17 13 true,false),(iP 19 13 18,false),(iM 20 19,false),(gO 21 7 3 20 true,false),(gF 22 5 3 20 true,false),(gL 23 22 20 true,false),(gM 24 1 20 true,false),(iG 25 (.a5Q 17 (Tm 23) (Tm 24)) 20 true,false),(gO 26 17 25 20 true,false),(gM 27 2 20 true,false),(iG 28 (.call 213 [(Tm 21),(Tm 26),(Tm 27)]) 20 true,true),(iP 29 20 28,false),(iM 6 29,false)]
def DM:aC:=(sq Bw (dq Bx .ret))
def auQ:List Nat:=[3]
def FX:aS:=⟨3,30,DM,[.tmp 6]⟩
def KE:Rg:=[iZ 6]
def KF:Rg:=[iM 11 2,iC 12 .eql 11 0]
def l8:Rg:=[iA 13 (.a5F true 1 1 [.aB] [(0,(.const .aB))]),iM 6 13]
def l9:Rg:=[iZ 7]
def ma:Rg:=[iM 14 0,iM 8 14]
def mb:Rg:=[iM 15 8,iM 16 2,iB 17 .add 15 16,iM 18 1,iB 19 .leq 17 18]
def me:Rg:=[iM 22 8,iC 23 .add 22 1,iM 24 1,iM 25 2,iC 26 .sub 25 1,iA 27 (.call 215 [(Tm 23),(Tm 24),(Tm 26)]),iM 9 27]
def mf:Rg:=[iI 10 0]
def mg:Rg:=[iM 28 10,iM 29 9,iN 30 29,iB 31 .lss 28 30]
def mh:Rg:=[iM 34 7,iM 35 8,iA 36 (.a5F false 1 1 [zI] [(0,(Tm 35))]),iM 37 9,iM 38 10,iX 39 1 37 38,iL 40 39,iA 41 (.append 1 8 (Tm 36) (Tm 40)),iA 42 (.a5F true 1 1 [.aB] [(0,(Tm 41))]),iA 43 (.append 1 24 (Tm 34) (Tm 42)),iM 7 43]
def WZ:Rg:=[iM 32 10,iC 33 .add 32 1,iM 10 33]
def WX:aC:=(.seq (sq mg (.cond (Tm 31) .skip (.exit 2))) (.seq (.block 3 (.region mh)) (.region WZ)))
def XA:Rg:=[iM 20 8,iC 21 .add 20 1,iM 8 21]
def WY:aC:=(.seq (sq mb (.cond (Tm 19) .skip (.exit 0))) (.seq (.block 1 (sq me (sq mf (.block 2 (.loop WX))))) (.region XA)))
def XB:Rg:=[iM 44 7,iM 6 44]
def sZ:aC:=(sq KE (.seq (sq KF (.cond (Tm 12) (sq l8 .ret) .skip)) (sq l9 (.seq (sq ma (.block 0 (.loop WY))) (sq XB .ret)))))
def amF:List Nat:=[13,42]
def UX:aS:=⟨3,45,sZ,[.tmp 6]⟩
def adD:Rg:=[iA 2 (.box true (Tm 0)),iZ 4,iI 5 0]
def adE:Rg:=[iO 10 7 2,iK 11 67 10,iA 12 (.un .not (Tm 11)),iM 13 12,gM 14 1 13 false,gC 15 .lss 14 0 13 false,iQ 16 13 15,iM 17 16,gM 18 1 17 false,gF 19 5 2 17 false,gL 20 19 17 false,gN 21 20 17 false,gB 22 .geq 18 21 17 false,iQ 23 17 22]
def UW:Rg:=[iZ 4,iI 5 1]
def vr:Rg:=[iF 24 4 2,iL 25 24,iN 26 25,iC 27 .gtr 26 12]
def adF:Rg:=[iZ 4,iI 5 2]
def adG:Rg:=[iF 28 5 2,iL 29 28,iM 30 1,iX 31 17 29 30,iO 32 17 31,iA 6 (.alloc [(.str []),zI,zI,zI,zI,zI,zI,zI,zI,.aB,.aB,zB,.aB,.aB,zB,.aB,.aB]),iS 17 6 32]
def adH:Rg:=[iZ 7]
def adI:Rg:=[iF 33 4 2,iL 34 33,iN 35 34,iF 36 1 6,iL 37 36,iF 38 2 6,iL 39 38,iB 40 .add 37 39,iA 41 (.call 215 [(Ci 0),(Tm 35),(Tm 40)]),iM 8 41]
def adJ:Rg:=[iI 9 0]
def adK:Rg:=[iM 42 9,iM 43 8,iN 44 43,iB 45 .lss 42 44]
def Qv:Rd:=[(iO 48 7 2,false),(iO 49 17 6,false),(iM 50 8,false),(iM 51 9,false),(iX 52 1 50 51,false),(iL 53 52,false),(iA 54 (.call 213 [(Tm 48),(Tm 49),(Tm 53)]),true)]
def Qw:Rg:=[iM 55 7,iM 56 8,iM 57 9,iX 58 1 56 57,iL 59 58,iA 60 (.a5F true 1 1 [.aB] [(0,(Tm 59))]),iA 61 (.append 1 24 (Tm 55) (Tm 60)),iM 7 61]
def cq:Rg:=[iM 46 9,iC 47 .add 46 1,iM 9 47]
def Qu:aC:=(.seq (sq adK (.cond (Tm 45) .skip (.exit 0))) (.seq (.block 1 (dq Qv (.cond (Tm 54) (.region Qw) .skip))) (.region cq)))
def Qx:Rg:=[iM 62 7,iM 4 62,iI 5 0]
def RV:aC:=(sq adD (.seq (sq adE (.cond (Tm 23) (sq UW .ret) .skip)) (.seq (sq vr (.cond (Tm 27) (sq adF .ret) .skip)) (sq adG (sq adH (sq adI (.seq (sq adJ (.block 0 (.loop Qu))) (sq Qx .ret))))))))
def aQQ:List Nat:=[2,60]
def vq:aS:=⟨2,63,RV,[.tmp 4,.tmp 5]⟩
def Cs:Rg:=[iA 2 (.box true (Tm 0)),iZ 4]
def Ct:Rg:=[iZ 5]
def Cu:Rg:=[iM 8 1,iC 9 .eql 8 5]
def Cv:Rg:=[iI 6 0]
def Cw:Rg:=[iM 10 6,iF 11 4 2,iL 12 11,iN 13 12,iB 14 .lss 10 13]
def Cx:Rg:=[iM 17 5,iM 18 6,iA 19 (.a5F true 1 1 [zI] [(0,(Tm 18))]),iA 20 (.a5F true 1 1 [.aB] [(0,(Tm 19))]),iA 21 (.append 1 24 (Tm 17) (Tm 20)),iM 5 21]
def Cy:Rg:=[iM 15 6,iC 16 .add 15 1,iM 6 16]
def Cr:aC:=(.seq (sq Cw (.cond (Tm 14) .skip (.exit 0))) (.seq (.block 1 (.region Cx)) (.region Cy)))
def Cz:Rg:=[iM 22 5,iM 4 22]
def C0:Rg:=[iI 7 0]
def m7:Rg:=[iM 23 7,iF 24 3 2,iL 25 24,iN 26 25,iB 27 .lss 23 26]
def m8:Rg:=[iF 30 3 2,iL 31 30,iM 32 7,iX 33 7 31 32,iF 34 1 33,iL 35 34,iM 36 1,iB 37 .eql 35 36]
def m9:Rg:=[iM 38 5,iO 39 7 2,iM 40 7,iK2 41 81 39 40,iA 42 (.a5F true 1 1 [.aB] [(0,(Tm 41))]),iA 43 (.append 1 24 (Tm 38) (Tm 42)),iM 5 43]
def KP:Rg:=[iM 28 7,iC 29 .add 28 1,iM 7 29]
def m6:aC:=(.seq (sq m7 (.cond (Tm 27) .skip (.exit 2))) (.seq (.block 3 (sq m8 (.cond (Tm 37) (.region m9) .skip))) (.region KP)))
def na:Rg:=[iM 44 5,iM 4 44]
def DN:aC:=(sq Cs (sq Ct (.seq (sq Cu (.cond (Tm 9) (.seq (sq Cv (.block 0 (.loop Cr))) (sq Cz .ret)) .skip)) (.seq (sq C0 (.block 2 (.loop m6))) (sq na .ret)))))
def avA:List Nat:=[2,19,20,42]
def Ro:aS:=⟨2,45,DN,[.tmp 4]⟩
def adM:Rg:=[iT 4 false]
def adN:Rg:=[iI 5 0]
def adO:Rg:=[iM 6 5,iM 7 0,iN 8 7,iB 9 .lss 6 8]
def v7:Rg:=[iM 12 0,iM 13 5,iX 14 1 12 13,iL 15 14,iM 16 1,iB 17 .eql 15 16]
def adP:Rg:=[iT 4 true]
def adQ:Rg:=[iM 10 5,iC 11 .add 10 1,iM 5 11]
def adL:aC:=(.seq (sq adO (.cond (Tm 9) .skip (.exit 0))) (.seq (.block 1 (sq v7 (.cond (Tm 17) (sq adP .ret) .skip))) (.region adQ)))
def adR:Rg:=[iT 4 false]
def RY:aC:=(sq adM (.seq (sq adN (.block 0 (.loop adL))) (sq adR .ret)))
def aQU:List Nat:=[]
def aHH:aS:=⟨2,18,RY,[.tmp 4]⟩
def Rc:Rg:=[iA 2 (.box true (Tm 0)),iA 3 (.box true (Tm 1)),iZ 4,iI 5 0]
def Re:Rg:=[iO 16 7 2,iK 17 67 16,iA 18 (.un .not (Tm 17)),iM 19 18,gF 20 0 3 19 false,gL 21 20 19 false,gC 22 .lss 21 1 19 false,iQ 23 19 22,iM 24 23,gF 25 0 3 24 false,gL 26 25 24 false,gC 27 .gtr 26 5 24 false,iQ 28 24 27,iM 29 28,gF 30 1 3 29 false,gL 31 30 29 false,gC 32 .lss 31 1 29 false,iQ 33 29 32,iM 34 33,gF 35 1 3 34 false,gL 36 35 34 false,gC 37 .gtr 36 3 34 false,iQ 38 34 37]
def uE:Rg:=[iZ 4,iI 5 1]
def cw:Rg:=[iF 39 4 2,iL 40 39,iN 41 40,iC 42 .gtr 41 12]
def Rf:Rg:=[iZ 4,iI 5 2]
def Rh:Rg:=[iO 43 7 2,iF 44 0 3,iL 45 44,iK2 46 217 43 45,iM 6 46]
def Ri:Rg:=[iI 7 1]
def Rj:Rg:=[iI 8 0]
def Rk:Rg:=[iM 47 8,iF 48 1 3,iL 49 48,iB 50 .lss 47 49]
def Rl:Rg:=[iM 53 7,iM 54 6,iN 55 54,iM 56 8,iB 57 .sub 55 56,iB 58 .mul 53 57,iM 59 8,iC 60 .add 59 1,iB 61 .quo 58 60,iM 7 61]
def Cb:Rg:=[iM 51 8,iC 52 .add 51 1,iM 8 52]
def Ca:aC:=(.seq (sq Rk (.cond (Tm 50) .skip (.exit 0))) (.seq (.block 1 (.region Rl)) (.region Cb)))
def SG:Rg:=[iM 62 7,iC 63 .gtr 62 512]
def Cc:Rg:=[iZ 4,iI 5 2]
def Cd:Rg:=[iM 64 6,iN 65 64,iF 66 1 3,iL 67 66,iA 68 (.call 215 [(Ci 0),(Tm 65),(Tm 67)]),iM 9 68]
def Ce:Rg:=[iZ 10]
def Cf:Rg:=[iI 11 0]
def Cg:Rg:=[iM 69 11,iM 70 9,iN 71 70,iB 72 .lss 69 71]
def Ch:Rg:=[iZ 12]
def Cj:Rg:=[iI 13 0]
def Ck:Rg:=[iM 75 13,iF 76 4 2,iL 77 76,iN 78 77,iB 79 .lss 75 78]
def Cl:Rg:=[iT 14 false]
def Cm:Rg:=[iI 15 0]
def Cn:Rg:=[iM 82 15,iM 83 9,iM 84 11,iX 85 1 83 84,iL 86 85,iN 87 86,iB 88 .lss 82 87]
def SH:Rg:=[iM 91 14,iM 92 91,gM 93 6 92 false,gM 94 9 92 false,gM 95 11 92 false,iG 96 (.a5Q 1 (Tm 94) (Tm 95)) 92 false,gL 97 96 92 false,gM 98 15 92 false,iG 99 (.a5Q 1 (Tm 97) (Tm 98)) 92 false,gL 100 99 92 false,iG 101 (.a5Q 1 (Tm 93) (Tm 100)) 92 false,gL 102 101 92 false,gM 103 13 92 false,gK2 104 218 102 103 92 false,iQ 105 92 104,iM 14 105]
def SI:Rg:=[iM 89 15,iC 90 .add 89 1,iM 15 90]
def SD:aC:=(.seq (sq Cn (.cond (Tm 88) .skip (.exit 6))) (.seq (.block 7 (.region SH)) (.region SI)))
def SJ:Rg:=[iM 106 14]
def Cp:Rg:=[iM 107 12,iM 108 13,iA 109 (.a5F true 1 1 [zI] [(0,(Tm 108))]),iA 110 (.append 1 8 (Tm 107) (Tm 109)),iM 12 110]
def SK:Rg:=[iM 80 13,iC 81 .add 80 1,iM 13 81]
def SE:aC:=(.seq (sq Ck (.cond (Tm 79) .skip (.exit 4))) (.seq (.block 5 (sq Cl (.seq (sq Cm (.block 6 (.loop SD))) (sq SJ (.cond (Tm 106) (.region Cp) .skip))))) (.region SK)))
def SL:Rg:=[iM 111 10,iM 112 12,iA 113 (.a5F true 1 1 [.aB] [(0,(Tm 112))]),iA 114 (.append 1 24 (Tm 111) (Tm 113)),iM 10 114]
def SM:Rg:=[iM 73 11,iC 74 .add 73 1,iM 11 74]
def SF:aC:=(.seq (sq Cg (.cond (Tm 72) .skip (.exit 2))) (.seq (.block 3 (sq Ch (.seq (sq Cj (.block 4 (.loop SE))) (.region SL)))) (.region SM)))
def Cq:Rg:=[iM 115 10,iM 4 115,iI 5 0]
def KN:aC:=(sq Rc (.seq (sq Re (.cond (Tm 38) (sq uE .ret) .skip)) (.seq (sq cw (.cond (Tm 42) (sq Rf .ret) .skip)) (sq Rh (sq Ri (.seq (sq Rj (.block 0 (.loop Ca))) (.seq (sq SG (.cond (Tm 63) (sq Cc .ret) .skip)) (sq Cd (sq Ce (.seq (sq Cf (.block 2 (.loop SF))) (sq Cq .ret)))))))))))
def aHO:List Nat:=[2,3,109,113]
def m5:aS:=⟨2,116,KN,[.tmp 4,.tmp 5]⟩
def Q2:Rg:=[iI 6 0]
def Q3:Rg:=[iI 7 0]
def Q4:Rg:=[iI 8 0]
def Q5:Rg:=[iM 11 8,iM 12 0,iN 13 12,iB 14 .lss 11 13]
def Q6:Rg:=[iI 9 0]
def Q7:Rg:=[iI 10 0]
def Q8:Rg:=[iM 17 10,iM 18 1,iN 19 18,iB 20 .lss 17 19]
def Q9:Rd:=[(iM 23 0,false),(iM 24 8,false),(iX 25 1 23 24,false),(iL 26 25,false),(iM 27 1,false),(iM 28 10,false),(iX 29 1 27 28,false),(iL 30 29,false),(iK2 31 218 26 30,true)]
def Ra:Rg:=[iM 32 9,iC 33 .add 32 1,iM 9 33]
def cu:Rg:=[iM 21 10,iC 22 .add 21 1,iM 10 22]
def Bz:aC:=(.seq (sq Q8 (.cond (Tm 20) .skip (.exit 2))) (.seq (.block 3 (dq Q9 (.cond (Tm 31) (.region Ra) .skip))) (.region cu)))
def RZ:Rg:=[iM 34 9,iM 35 2,iB 36 .gtr 34 35]
def B5:Rg:=[iM 37 7,iC 38 .add 37 1,iM 7 38]
def SA:Rg:=[iM 15 8,iC 16 .add 15 1,iM 8 16]
def B0:aC:=(.seq (sq Q5 (.cond (Tm 14) .skip (.exit 0))) (.seq (.block 1 (sq Q6 (.seq (sq Q7 (.block 2 (.loop Bz))) (sq RZ (.cond (Tm 36) (.region B5) .skip))))) (.region SA)))
def B6:Rg:=[iM 39 7,iM 6 39]
def KM:aC:=(sq Q2 (sq Q3 (.seq (sq Q4 (.block 0 (.loop B0))) (sq B6 .ret))))
def aHJ:List Nat:=[]
def amK:aS:=⟨3,40,KM,[.tmp 6]⟩
def mo:Rg:=[iA 4 (.box true (Tm 0)),iA 7 (.box true (Tm 3)),iI 8 0,iI 9 0]
def mp:Rg:=[iO 13 7 4,iO 14 2 7,iK2 15 219 13 14,iM 12 15,iE 16 12 0,iE 17 12 1,iM 10 16,iM 11 17]
def KL:Rg:=[iM 18 11,iC 19 .neq 18 0]
def mq:Rg:=[iM 20 11,iI 8 0,iM 9 20]
def mr:Rg:=[iO 21 7 4,iM 22 1,iM 23 2,iA 24 (.call 214 [(Tm 21),(Tm 22),(Tm 23)]),iA 25 (.un .not (Tm 24))]
def mu:Rg:=[iI 8 0,iI 9 1]
def mw:Rg:=[iM 26 10,iM 27 2,iF 28 5 4,iL 29 28,iM 30 1,iX 31 17 29 30,iF 32 2 31,iL 33 32,iA 34 (.call 220 [(Tm 26),(Tm 27),(Tm 33)]),iM 8 34,iI 9 0]
def AB:aC:=(sq mo (sq mp (.seq (sq KL (.cond (Tm 19) (sq mq .ret) .skip)) (.seq (sq mr (.cond (Tm 25) (sq mu .ret) .skip)) (sq mw .ret)))))
def amJ:List Nat:=[4,7]
def v8:aS:=⟨4,35,AB,[.tmp 8,.tmp 9]⟩
theorem aEX {xs:List Int} {k:Nat} {d:Int} (h:k<xs.length):(xs.take (k+1)).contains d=((xs.take k).contains d||decide (xs[k]=d)):=by
 rw[Bool.eq_iff_iff];rw[List.contains_iff_mem,a8E h,a8J,a9A,Bool.or_eq_true,List.contains_iff_mem,decide_eq_true_eq];exact⟨fun h=>h.imp id Eq.symm,fun h=>h.imp id Eq.symm⟩
theorem aQT {C:Ctx} (l:List Int) (w:l.length≤1000000000000000) (x:Int):RY.wp C (aV aHH.res (aF (.bool (l.contains x)))) (PF.args [ints l,.int .i64 x]) .nil:=by
 simp only[go_sem,RY,adM,adN,aHH];refine wp_loop (α:=Nat) (fun k=>(((PF.nil.set 0 (ints l)).set 1 (.int .i64 x)).set 5 (.int .i64 k))) (fun _=>.nil) (fun k=>k≤l.length∧(l.take k).contains x=false) (fun k=>l.length-k) 0 ⟨a6Q _,by simp⟩ Lq a_ ?_;rintro k ⟨u,p⟩;simp only[go_sem,adL,adO,a6K];by_cases hlt:k<l.length
 ·have e:(k:Int)<(l.length:Nat):=Om;have i:(l.map fun n=>[PV.int .i64 n])[k]?=some [.int .i64 l[k]]:=by simp[hlt]
  have q:=aEX (d:=x) hlt;by_cases c:l[k]=x
  ·simp only[go_sem,e,v7,i,bH c,adP];refine aQ (.inr rfl) rfl ?_;rw[bO];exact congrArg PV.bool (List.contains_iff_mem.2 (c ▸ a6M hlt)).symm
  ·simp only[go_sem,e,v7,i,bF c,adQ,wZz k];exact aD (k+1) ⟨hlt,by rw[q,p]; simp[c]⟩ Om Lq b_
 ·have e:¬ (k:Int)<(l.length:Nat):=Om;have:k=l.length:=Om;subst this;rw[a7M] at p;simp only[go_sem,e,adR];refine aQ (.inr rfl) rfl ?_;rw[bO,p]


theorem dP {t:Nat} {b c:Bool} {F:PF} {H:PH} (h:F t=some (.bool b)) (e:b=c):aV [.tmp t] (aF (.bool c)) .ret F H:=by
 subst e;exact bA (.inr rfl) .nil (vs:=[.bool b]) (by rw[jU,mX,h,oG]) a_ ⟨rfl,rfl⟩
theorem aNL {C:Ctx} (f:aE) (hV:VF f) (p:bT) (R:∀ m∈p.a5A,0≤m∧m<f.a5A.length) (i:Fits p.a5A) (set:List Int) (S:ahS f set) :
  OF.wp C (aV aCY.res (aF (.bool (lH f p set)))) (PF.args [.agg f.cells,.agg p.cells,ints set]) .nil:=by
 have d:=hV.small;have q:(f.a5A.length:Int)*((1:Nat):Int)≤140737488355328:=by have:=d.a5A; omega
 have u:(f.a5A.length:Int)≤9223372036854775807:=by have:=d.a5A; omega
 have w:(0:Int)≤(f.a5A.length:Int):=Om;have A:(f.a5C.length:Int)*((8:Nat):Int)≤140737488355328:=by have:=d.a5C; omega
 have B:(f.a5C.length:Int)≤9223372036854775807:=by have:=d.a5C; omega
 have E:(0:Int)≤(f.a5C.length:Int):=Om;simp only[go_sem,OF,W9,Xa,aCY,a6K,q,u,w,Int.le_refl,a8G];refine aR fun l U=>?_;rw[OD];simp only[go_sem,Xb,a6K];refine wp_loop (α:=Nat) (fun k=>(((((((PF.nil.set 2 (ints set)).set 3 (.bG f.cells)).set 4 (.bG p.cells)).set 7 (.osl l 1 0 f.a5A.length)).set 20 (ints p.a5A)).set 21 (.int .i64 (p.a5A.length:Nat))).set 22 (.int .i64 k))) (fun k=>PH.nil.set l (.rows 1 (dB (marks f.a5A.length (p.a5A.take k))))) (fun k=>k≤p.a5A.length) (fun k=>p.a5A.length-k) 0 (a6Q _) Lq (by rw[List.take_zero]; exact b_) ?_;intro k V;simp only[go_sem,W8,Xc];by_cases hlt:k<p.a5A.length
 ·have c:(k:Int)<(p.a5A.length:Nat):=Om;have F:(p.a5A.map fun n=>[PV.int .i64 n])[k]?=some [.int .i64 p.a5A[k]]:=by simp[hlt]
  obtain⟨J,K⟩:=R _ (a6M hlt);have x:(p.a5A[k]).toNat<(dB (marks f.a5A.length (p.a5A.take k))).length:=by rw[AU,QB]; omega
  have y:(dB (marks f.a5A.length (p.a5A.take k)))[(p.a5A[k]).toNat]?=some [.bool ((p.a5A.take k).contains p.a5A[k])]:=by unfold dB;rw[a7J,zP J K]; rfl
  have M:p.a5A.length≤9223372036854775807:=by have:=i; omega
  simp only[go_sem,c,Xd,F,Xe,J,K,a7I,y,x,jP,QC J K,Xf,wZz k];refine aD (k+1) hlt Om Lq ?_;rw[a8E hlt];exact b_
 ·have c:¬ (k:Int)<(p.a5A.length:Nat):=Om;have:k=p.a5A.length:=Om;subst this;rw[a7M];simp only[go_sem,c,Xg,a6K,A,B,E,Int.le_refl,a8G];refine aR fun oD hD=>?_;have N:l≠oD:=by rintro rfl; simp only[cN] at hD; cases hD
  rw[aBY];simp only[go_sem,Xh,a6K];refine aqK (C:=C) f hV p l oD N set S (by unfold GJ; (repeat' (first|exact c_|refine d_ ?_ ?_))<;>first|(simp only[go_sem,a6K]<;>rfl)|rfl) (by simp only[aT,if_neg N,if_true]) (by rw[cN]) ?_ ?_
  ·intro O H' Q e;simp only[go_sem];exact dP Q e.symm
  ·intro O H' H;simp only[go_sem,Ik];exact dP Sq H.symm
theorem aqI (set:List Int) (top:Int) {k:Nat}:(a6L (k+1)).all (kC set top)=((a6L k).all (kC set top)&&kC set top k):=by
 rw[a9U,a9X]; simp
theorem aNP {C:Ctx} (set:List Int) (O:set.length≤1000000000000000) (n top:Int) :
  OI.wp C (aV aDB.res (aF (.bool (mD set n top)))) (PF.args [ints set,.int .i64 n,.int .i64 top]) .nil:=by
 have A:mD set n top=(decide ((set.length:Int)=n)&&(a6L set.length).all (kC set top)):=rfl;simp only[go_sem,OI,Xj,Xk,aDB,a6K];refine wp_loop (α:=Nat) (fun k=>((((((PF.nil.set 0 (ints set)).set 1 (.int .i64 n)).set 2 (.int .i64 top)).set 9 (ints set)).set 10 (.int .i64 (set.length:Nat))).set 11 (.int .i64 k))) (fun _=>.nil) (fun k=>k≤set.length∧(a6L k).all (kC set top)=true) (fun k=>set.length-k) 0 ⟨a6Q _,rfl⟩ Lq a_ ?_;rintro k ⟨N,d⟩;have i:k<set.length→kC set top k=false→mD set n top=false:=by
  intro h K;rw[A];have:(a6L set.length).all (kC set top)=false:=by simp only[List.all_eq_false,a7P];exact⟨k,h,by rw[K]; simp⟩
  rw[this,a7S]
 by_cases hlt:k<set.length
 ·have c:(k:Int)<(set.length:Nat):=Om;have B:(set.map fun n=>[PV.int .i64 n])[k]?=some [.int .i64 set[k]]:=by simp[hlt]
  have M:set.getD k 0=set[k]:=by simp[a7C,hlt]
  have l:kC set top k=((decide (0≤set[k])&&decide (set[k]<top))&&(decide (k=0)||decide (set.getD (k-1) 0<set[k]))):=by rw[kC,M]
  have a5V:kC set top k=true→(a6L (k+1)).all (kC set top)=true:=fun h=>by rw[aqI,d,h]; rfl
  generalize set[k]=x at *
  simp only[go_sem,tg,th,c,Xl,B];by_cases p:x<0
  ·simp only[go_sem,xX,p,UD];exact dP Sq (i hlt (by rw[l,decide_eq_false (Om:¬ 0≤x)]; rfl)).symm
  by_cases w:x≥top
  ·simp only[go_sem,xX,p,w,UD];exact dP Sq (i hlt (by rw[l,decide_eq_false (Om:¬ x<top),a7S]; rfl)).symm
  rw[decide_eq_true (Om:0≤x),decide_eq_true (Om:x<top),a8V,a6W] at l;by_cases F:k=0
  ·subst F;simp only[go_sem,xX,p,w,show ¬ ((0:Nat):Int)>0 by omega,ti,wZz 0];exact aD 1 ⟨hlt,a7B.1 (a5V (by rw[l]; rfl))⟩ Om Lq a_
  obtain⟨j,rfl⟩:∃ j,k=j+1:=⟨k-1,by omega⟩;have J:IntKind.i64.wrap (((j+1:Nat):Int)-1)=(j:Int):=by rw[wrap_i64 Om Om]; omega
  have q:j<set.length:=Om;have e:(j:Int)<(set.length:Nat):=Om;have u:(set.map fun n=>[PV.int .i64 n])[j]?=some [.int .i64 set[j]]:=by simp[q]
  have E:set.getD (j+1-1) 0=set[j]:=by simp[a7C,q]
  rw[E,decide_eq_false F,Bool.false_or] at l;generalize set[j]=y at *
  by_cases H:y≥x
  ·simp only[go_sem,xX,p,w,show ((j+1:Nat):Int)>0 by omega,J,u,e,H,UD];exact dP Sq (i hlt (by rw[l,decide_eq_false (Om:¬ y<x)])).symm
  ·simp only[go_sem,xX,p,w,show ((j+1:Nat):Int)>0 by omega,J,u,e,H,ti,cW (Om:j+1<9223372036854775807)];exact aD (j+1+1) ⟨hlt,a7B.1 (a5V (by rw[l,decide_eq_true (Om:y<x)]))⟩ Om Lq a_
 ·have c:¬ (k:Int)<(set.length:Nat):=Om;have:k=set.length:=Om;subst this;rw[d,a8V] at A;simp only[go_sem,tg,th,c,Xm,a6K];exact dP (b:=decide ((set.length:Int)=n)) (by simp only[go_sem]; rfl) A.symm
theorem nH {f:aE} {a5L:Int} (h:fX f a5L=true):VF f∧0≤a5L∧a5L.toNat<f.a5D.length∧a5L=(a5L.toNat:Nat):=by
 unfold fX at h;simp only[a7E,decide_eq_true_eq] at h;exact⟨VF.of h.1,h.2.1,by omega,by omega⟩
theorem nA {f:aE} {a5L:Int} (h:fX f a5L=true):fN f a5L∈f.a5D∧f.a5D[a5L.toNat]?=some (fN f a5L):=by
 obtain⟨_,_,c,_⟩:=nH h;have e:fN f a5L=f.a5D[a5L.toNat]:=by simp[fN,a7C,c]
 rw[e];exact⟨a6M c,a6Y c⟩
theorem aqQ {C:Ctx} (val:∀ f:aE,f.Ok→aG C 96 [.agg f.cells] .nil (aF (.int .i64 (wH f)))) (f:aE) (l:f.Ok) (a5L:Int) :
  CF.wp C (aV In.res (aF (.bool (fX f a5L)))) (PF.args [.agg f.cells,.int .i64 a5L]) .nil:=by
 have i:=val f l;unfold wH at i;simp only[go_sem,CF,xi,xj,In];refine aA i Ev ?_;have d:fX f a5L=(dS f&&(decide (0≤a5L)&&decide (a5L<f.a5D.length))):=rfl;cases e:dS f with
 | false =>rw[e,a6R] at d;simp only[go_sem,bF (show (1:Int)≠0 by decide)];exact dP Sq d.symm
 | true =>
  rw[e,a6W] at d;by_cases c:a5L≥0
  ·rw[decide_eq_true (Om:0≤a5L),a6W] at d;simp only[go_sem,bH (show (0:Int)=0 from rfl),c,a6K];exact dP (b:=decide (a5L<f.a5D.length)) Sq d.symm
  ·rw[decide_eq_false (Om:¬ 0≤a5L),a6R] at d;simp only[go_sem,bH (show (0:Int)=0 from rfl),c,a6K];exact dP Sq d.symm
structure ahR (C:Ctx):Prop where
 adm:∀ (f:aE) (p:bT) (set:List Int),VF f→(∀ m∈p.a5A,0≤m∧m<f.a5A.length)→Fits p.a5A→ahS f set→aG C 201 [.agg f.cells,.agg p.cells,ints set] .nil (aF (.bool (lH f p set)))
 asc:∀ (set:List Int) (n top:Int),set.length≤1000000000000000→aG C 202 [ints set,.int .i64 n,.int .i64 top] .nil (aF (.bool (mD set n top)))
 known:∀ (f:aE) (a5L:Int),f.Ok→aG C 203 [.agg f.cells,.int .i64 a5L] .nil (aF (.bool (fX f a5L)))
theorem aCO {set:List Int} {n top:Int} (h:mD set n top=true):(set.length:Int)=n:=by
 unfold mD at h;simp only[a7E,decide_eq_true_eq] at h;exact h.1
theorem aNH {set:List Int} {n top:Int} (h:mD set n top=true):∀ x∈set,0≤x∧x<top:=by
 unfold mD at h;simp only[a7E,decide_eq_true_eq,a7B,a7P] at h;intro x d;obtain⟨i,hi,rfl⟩:=a9C d;have:=h.2 i hi;unfold kC at this;simp only[a7E,decide_eq_true_eq] at this;have c:set.getD i 0=set[i]:=by simp[a7C,hi]
 rw[c] at this;exact this.1
theorem aqL {C:Ctx} (x:ahR C) (f:aE) (B:f.Ok) (a5L:Int) (set:List Int) (H:set.length≤1000000000000000) :
  CD.wp C (aV Il.res (aF (.bool (oK f a5L set)))) (PF.args [.agg f.cells,.int .i64 a5L,ints set]) .nil:=by
 have c:oK f a5L set=(fX f a5L&&(mD set (fR (fN f a5L)) f.a4Z.length&&lH f (fN f a5L) set)):=rfl;simp only[go_sem,CD,w8,w9,Il];refine aA (x.known f a5L B) Ev ?_;cases w:fX f a5L with
 | false =>rw[w,a6R] at c;simp only[go_sem,xa];exact dP Sq c.symm
 | true =>
  rw[w,a6W] at c;obtain⟨hV,E,M,K⟩:=nH w;obtain⟨i,y⟩:=nA w;have l:=hV.a5L _ i;have e:=(B.a5L _ i).a5A;have d:(f.a5D.map bT.cells)[a5L.toNat]?=some (fN f a5L).cells:=by rw[a7J,y]; rfl
  generalize fN f a5L=p at *
  have hlt:a5L<(f.a5D.length:Nat):=Om;have J:IntKind.i64.wrap (p.k+p.m)=p.k+p.m:=wrap_i64 Om Om;simp only[go_sem,a6P,xb,E,hlt,a6K,d];refine aR fun q N=>?_;simp only[go_sem,xc,a6K,J];refine aA (x.asc set (p.k+p.m) f.a4Z.length H) Ev ?_;have A:fR p=p.k+p.m:=rfl;rw[A] at c;cases u:mD set (p.k+p.m) f.a4Z.length with
  | false =>rw[u,a6R] at c;simp only[go_sem];exact dP Sq c.symm
  | true =>rw[u,a6W] at c;have F:=aCO u;simp only[go_sem];refine aA (x.adm f p set hV l.2.2.2.2.2.2.2 e ⟨by omega,aNH u⟩) Ev ?_;simp only[go_sem];exact dP Sq c.symm
theorem wK {m:Nat} (d:m≤1000):∀ i,i≤1000→(cZ m i).natAbs≤1000 ^ i
 | 0,_=>a6S _
 | i+1,h=>by have e:=wK d i Om;have c:((m:Int)-(i:Int)).natAbs≤1000:=Om;rw[cZ,Int.natAbs_tdiv,Int.natAbs_mul,a8C];exact a7U (baB _ _) (Nat.mul_le_mul e c)
theorem wL {m:Nat} (c:m≤1000) {i:Nat} (hi:i≤3):-1000000000≤cZ m i∧cZ m i≤1000000000:=by
 have h:=wK c i Om;have:1000 ^ i≤1000 ^ 3:=a9J Om hi;have e:(1000:Nat) ^ 3=1000000000:=by decide
 omega
theorem aiL {C:Ctx} (m n:Nat) (l:m≤1000) (K:n≤3) :
  yZ.wp C (aV tj.res (aF (.int .i64 (max (cZ m n) 0)))) (PF.args [.int .i64 m,.int .i64 n]) .nil:=by
 simp only[go_sem,yZ,fl,fm,fp,tj];refine wp_loop (α:=Nat) (fun k=>((((PF.nil.set 0 (.int .i64 m)).set 1 (.int .i64 n)).set 5 (.int .i64 (cZ m k))).set 6 (.int .i64 k))) (fun _=>.nil) (fun k=>k≤n) (fun k=>n-k) 0 (a6Q _) (by (repeat' (first|exact c_|refine d_ ?_ ?_))<;>first|(simp only[go_sem,cZ]<;>rfl)|rfl) a_ ?_;intro k J;simp only[go_sem,fk,fq];by_cases hlt:k<n
 ·have c:(k:Int)<(n:Nat):=Om;obtain⟨b1,b2⟩:=wL l (i:=k) Om;have A:=wK l k Om;have y:((m:Int)-(k:Int)).natAbs≤1000:=Om;have d:=Nat.mul_le_mul (a7U A (a9J Om (Om:k≤2))) y;rw[← Int.natAbs_mul] at d;have e:(1000:Nat) ^ 2*1000=1000000000:=by decide
  have B:IntKind.i64.wrap ((m:Int)-(k:Int))=(m:Int)-k:=wrap_i64 Om Om;have E:IntKind.i64.wrap (cZ m k*((m:Int)-(k:Int)))=cZ m k*((m:Int)-k):=wrap_i64 Om Om;have F:IntKind.i64.wrap ((k:Int)+1)=(k:Int)+1:=wrap_i64 Om Om;have q:¬ ((k:Int)+1)=0:=Om;obtain⟨w,x⟩:=wL l (i:=k+1) Om;have u:cZ m (k+1)=a8O (cZ m k*((m:Int)-k)) ((k:Int)+1):=by rw[cZ]
  rw[u] at w x;have H:IntKind.i64.wrap (a8O (cZ m k*((m:Int)-k)) ((k:Int)+1))=a8O (cZ m k*((m:Int)-k)) ((k:Int)+1):=wrap_i64 Om Om;simp only[go_sem,c,ft,B,E,F,q,H];simp only[go_sem,fv,wZz k];exact aD (k+1) hlt Om (by (repeat' (first|exact c_|refine d_ ?_ ?_))<;>first|(simp only[go_sem,u]<;>rfl)|rfl) a_
 ·have c:¬ (k:Int)<(n:Nat):=Om;have:k=n:=Om;subst this;simp only[go_sem,c,fw];have p:(if cZ m k<0 then 0 else cZ m k)=max (cZ m k) 0:=by split<;>omega
  rw[p];refine aQ (.inr rfl) Ev ?_;rfl
def sJ (k:Nat) (b:Bool):Nat:=if b then k+1 else k
theorem uO {α:Type} (q:α→Bool) (l:List α) {i:Nat} (h:i<l.length):(l.take (i+1)).countP q=sJ ((l.take i).countP q) (q l[i]):=by
 rw[a8E h,List.countP_append];unfold sJ;cases c:q l[i]<;>simp[c]
def BK (sc:List (List Int)) (set:List Int) (m:Int) (n i:Nat):PF:=((((((PF.nil.set 1 (ints set)).set 2 (.int .i64 m)).set 7 (.int .i64 n)).set 14 (lay sc)).set 15 (.int .i64 (sc.length:Nat))).set 16 (.int .i64 i))
def mA (sc:List (List Int)) (set:List Int) (m:Int) (n i:Nat) (b:Nat) (s:List Int) (j:Nat):PF:=((((((((((PF.nil.set 1 (ints set)).set 2 (.int .i64 m)).set 7 (.int .i64 n)).set 14 (lay sc)).set 15 (.int .i64 (sc.length:Nat))).set 16 (.int .i64 i)).set 10 (.int .i64 b)).set 20 (ints s)).set 21 (.int .i64 (s.length:Nat))).set 22 (.int .i64 j))
theorem aiO {C:Ctx} {K:bQ} [Up K] (sc:List (List Int)) (set:List Int) (A:set.length≤1000000000000000) (m:Int) (n i b:Nat) (s:List Int) (j:Nat) (d:Int) (k:Nat) (w:k≤dY set d) {F:PF} {H:PH}
  (x:(((mA sc set m n i b s j).set 13 (.int .i64 d)).set 11 (.int .i64 k)).le F)
  (u:K (.exit 4) (((mA sc set m n i b s j).set 13 (.int .i64 d)).set 11 (.int .i64 (dY set d:Nat))) H) :
  aC.wp C (.loop vK) K F H:=by
 refine wp_loop (α:=Nat) (fun k=>((mA sc set m n i b s j).set 13 (.int .i64 d)).set 11 (.int .i64 k)) (fun _=>H) (fun k=>k≤dY set d) (fun k=>dY set d-k) k w x b_ ?_;intro k w;have y:=wb set d;by_cases hlt:k<set.length
 ·have l:(k:Int)<(set.length:Nat):=Om;have p:(set.map fun n=>[PV.int .i64 n])[k]?=some [.int .i64 set[k]]:=by simp[hlt]
  by_cases c:k<dY set d
  ·have q:set[k]<d:=KT set d c;simp only[go_sem,vK,GN,mA,a6K,l,p,q,xk,wZz k];exact aD (k+1) c Om Lq b_
  ·have e:k=dY set d:=Om;subst e;have q:¬ set[dY set d]<d:=adS set d hlt;simp only[go_sem,vK,GN,mA,a6K,l,p,q];refine Up.up ?_ u;unfold mA;exact Lq
 ·have l:¬ (k:Int)<(set.length:Nat):=Om;have e:k=dY set d:=Om;subst e;simp only[go_sem,vK,GN,mA,a6K,l];refine Up.up ?_ u;unfold mA;exact Lq
theorem aqS {C:Ctx} {K:bQ} [Up K] (sc:List (List Int)) (set:List Int) (S:set.length≤1000000000000000) (V:set.Pairwise (· < ·)) (m:Int) (n i:Nat) (s:List Int) (W:s.length≤1000000000000000) (B:s.Pairwise (· < ·)) {F:PF} {H:PH}
  (J:((mA sc set m n i 0 s 0).set 11 (.int .i64 0)).le F)
  (M:K (.exit 2) ((BK sc set m n i).set 10 (.int .i64 (iH set s:Nat))) H) :
  aC.wp C (.loop AV) K F H:=by
 refine wp_loop (α:=Nat × Nat) (fun t=>(mA sc set m n i ((s.take t.1).countP fun d=>set.contains d) s t.1).set 11 (.int .i64 t.2)) (fun _=>H) (fun t=>t.1≤s.length∧∀ d∈s.drop t.1,t.2≤dY set d) (fun t=>s.length-t.1) (0,0) ⟨a6Q _,fun d _=>a6Q _⟩ (by simpa using J) b_ ?_;rintro⟨j,k⟩ ⟨R,E⟩;simp only at R E;by_cases hlt:j<s.length
 ·have q:(j:Int)<(s.length:Nat):=Om;have y:(s.map fun n=>[PV.int .i64 n])[j]?=some [.int .i64 s[j]]:=by simp[hlt]
  have l:=uO (fun d=>set.contains d) s hlt;have p:s.drop j=s[j]::s.drop (j+1):=a8I hlt;have A:k≤dY set s[j]:=E _ (by rw[p]; exact List.mem_cons_self ..);have a5V:∀ d∈s.drop (j+1),dY set s[j]≤dY set d:=by intro d O;have:=B.sublist (List.drop_sublist j s);rw[p,List.pairwise_cons] at this;exact avR set (Int.le_of_lt (this.1 d O))
  have e:=aHT V s[j];have N:(s.take j).countP (fun d=>set.contains d)≤j:=a7U List.countP_le_length (by rw[a7D]; omega);generalize (s.take j).countP (fun d=>set.contains d)=b at *
  generalize s[j]=d at *
  simp only[go_sem,AV,YU,mA,q,Iv,y];have X:=fun {K:bQ} [Up K] {F:PF}=>aiO (C:=C) (K:=K) sc set S m n i b s j d k A (F:=F) (H:=H);refine X (by unfold mA; exact Lq) ?_;have U:=wb set d;by_cases c:dY set d<set.length
  ·have w:((dY set d:Nat):Int)<(set.length:Nat):=Om;have u:(set.map fun n=>[PV.int .i64 n])[dY set d]?=some [.int .i64 set[dY set d]]:=by simp[c]
   have Q:set.getD (dY set d) 0=set[dY set d]:=by simp[a7C,c]
   rw[decide_eq_true c,a6W,Q] at e;by_cases x:set[dY set d]=d
   ·rw[decide_eq_true x] at e;rw[e] at l;simp only[go_sem,mA,AW,a6K,w,u,bH x,xl,wZz b,AX,wZz j];exact aD (j+1,dY set d) ⟨hlt,a5V⟩ (by simp only; omega) (by (repeat' (first|exact c_|refine d_ ?_ ?_))<;>first|(simp only[go_sem,l,sJ]<;>rfl)|rfl) b_
   ·rw[decide_eq_false x] at e;rw[e] at l;simp only[go_sem,mA,AW,a6K,w,u,bF x,AX,wZz j];exact aD (j+1,dY set d) ⟨hlt,a5V⟩ (by simp only; omega) (by (repeat' (first|exact c_|refine d_ ?_ ?_))<;>first|(simp only[go_sem,l,sJ]<;>rfl)|rfl) b_
  ·have w:¬ ((dY set d:Nat):Int)<(set.length:Nat):=Om;rw[decide_eq_false c,a6R] at e;rw[e] at l;simp only[go_sem,mA,AW,a6K,w,AX,wZz j];exact aD (j+1,dY set d) ⟨hlt,a5V⟩ (by simp only; omega) (by (repeat' (first|exact c_|refine d_ ?_ ?_))<;>first|(simp only[go_sem,l,sJ]<;>rfl)|rfl) b_
 ·have q:¬ (j:Int)<(s.length:Nat):=Om;have:j=s.length:=Om;subst this;simp only[go_sem,AV,YU,mA,q,a7M];refine Up.up ?_ M;unfold BK iH;exact Lq
theorem aDH {C:Ctx} (sc:List (List Int)) (y:sc.length≤1000000000000000) (q:∀ s∈sc,s.length≤1000000000000000∧s.Pairwise (· < ·)) (set:List Int) (x:set.length≤1000000000000000) (u:set.Pairwise (· < ·)) (m:Int) :
  GM.wp C (aV aiN.res (aF (.int .i64 (sN sc set m:Nat)))) (PF.args [lay sc,ints set,.int .i64 m]) .nil:=by
 simp only[go_sem,GM,Io,Ip,Iq,aiN,a6K];refine wp_loop (α:=Nat) (fun i=>BK sc set m ((sc.take i).countP fun s=>decide (((iH s set:Nat):Int)>m)) i) (fun _=>.nil) (fun i=>i≤sc.length) (fun i=>sc.length-i) 0 (a6Q _) (by unfold BK; exact Lq) a_ ?_;intro i hi;by_cases hlt:i<sc.length
 ·have e:(i:Int)<(sc.length:Nat):=Om;have p:(sc.map fun r=>[ints r])[i]?=some [ints sc[i]]:=by simp[hlt]
  have d:=uO (fun s=>decide (((iH s set:Nat):Int)>m)) sc hlt;obtain⟨k1,k2⟩:=q sc[i] (a6M hlt);have w:(sc.take i).countP (fun s=>decide (((iH s set:Nat):Int)>m))≤i:=a7U List.countP_le_length (by rw[a7D]; omega);generalize (sc.take i).countP (fun s=>decide (((iH s set:Nat):Int)>m))=n at *
  generalize sc[i]=s at *
  have l:iH set s=iH s set:=wz (u.imp (fun h=>by omega)) (k2.imp (fun h=>by omega));simp only[go_sem,OK,YT,BK,e,Ir,p,Is,Iu,a6K];have one:=fun {K:bQ} [Up K] {F:PF} {H:PH}=>aqS (C:=C) (K:=K) sc set x u m n i s k1 k2 (F:=F) (H:=H);refine one (by unfold mA; exact Lq) ?_;rw[l];by_cases c:((iH s set:Nat):Int)>m
  ·rw[decide_eq_true c] at d;simp only[go_sem,BK,OL,c,xm,wZz n,OM,wZz i];exact aD (i+1) hlt Om (by (repeat' (first|exact c_|refine d_ ?_ ?_))<;>first|(simp only[go_sem,d,sJ]<;>rfl)|rfl) a_
  ·rw[decide_eq_false c] at d;simp only[go_sem,BK,OL,c,OM,wZz i];exact aD (i+1) hlt Om (by (repeat' (first|exact c_|refine d_ ?_ ?_))<;>first|(simp only[go_sem,d,sJ]<;>rfl)|rfl) a_
 ·have e:¬ (i:Int)<(sc.length:Nat):=Om;have:i=sc.length:=Om;subst this;rw[a7M];simp only[go_sem,OK,YT,BK,e,xn];refine aQ (.inr rfl) Ev ?_;rfl
def Kept (f:aE) (p:bT) (xs:List Int):Prop:=∀ i,i<f.a5C.length→dV f p i>0→eU f xs i≤dV f p i
theorem Kept.nil (f:aE) (p:bT):Kept f p []:=fun i _ h=>by
 have:eU f [] i=0:=by unfold eU; split<;>simp
 omega
def yR (f:aE) (p:bT) (xs:List Int) (d:Nat) (k:Nat):Prop:=∀ i,i<f.a5C.length→4-(k:Int)<lvl f i→dV f p i>0→eU f (xs++[(d:Int)]) i≤dV f p i
theorem yR.zero {f:aE} (hV:VF f) {p:bT} (xs:List Int) (d:Nat):yR f p xs d 0:=fun i hi h _=>by
 have:=hV.jR hi;omega
theorem yR.done {f:aE} (hV:VF f) {p:bT} (l:dV f p 0≤0) {xs:List Int} {d:Nat} (h:yR f p xs d 4):Kept f p (xs++[(d:Int)]):=fun i hi c=>by
 have:=hV.jR hi;by_cases e:i=0
 ·subst e; omega
 ·exact h i hi Om c
theorem yR.next {f:aE} (hV:VF f) {p:bT} {xs:List Int} {d k:Nat} (x:d<f.a4Z.length) (y:k<4) (u:Kept f p xs) (h:yR f p xs d k) (w:dV f p (upN f k (dC f d))>0→eU f (xs++[(d:Int)]) (upN f k (dC f d))≤dV f p (upN f k (dC f d))):yR f p xs d (k+1):=fun i hi A q=>by
 by_cases e:4-(k:Int)<lvl f i
 ·exact h i hi e q
 have l:lvl f i=4-(k:Int):=Om;by_cases c:i=upN f k (dC f d)
 ·subst c; exact w q
 have:eU f (xs++[(d:Int)]) i=eU f xs i:=by
  unfold eU;split
  ·rfl
  ·rw[List.countP_append,List.countP_cons,List.countP_nil];have:lD f i (d:Int)=false:=by unfold lD cL;rw[l,show (4-(4-(k:Int)).toNat)=k by omega,a8G];simp[show ¬ upN f k (dC f d)=i from fun h=>c h.symm]
   rw[this];simp
 rw[this];exact u i hi q
theorem arN {q:Nat→Bool} {n:Nat}:∀ {i:Nat},i<n→q i=true→((a6L n).filter q)[(a6L i).countP q]?=some i:=by
 intro i hi c;have e:a6L n=a6L i++(i::a8K (i+1) (n-i-1)):=by rw[List.range_eq_range',List.range_eq_range',show i::a8K (i+1) (n-i-1)=a8K i (n-i-1+1) from rfl];have:=List.range'_append (s:=0) (m:=i) (n:=n-i-1+1) (step:=1);rw[Nat.one_mul,a7I] at this;rw[this];congr 1;omega
 rw[e,List.filter_append,List.filter_cons_of_pos c,List.countP_eq_length_filter,a9B (a6S _),a9N];rfl
def InR (l:List Int) (n:Nat):Prop:=∀ x∈l,0≤x∧x<(n:Int)
def TP (f:aE) (c:List (List Int)) (r:Int) (l:List Int):Bool:=!l.isEmpty&&Gn f c r l
def aHC (f:aE) (e:List (List Int)) (r:Int) (c:List (List Int)) (d:Nat):List (List Int):=match c.findIdx? (fun l=>Gn f e r (l++[(d:Int)])) with
 | some i=>c.set i (c.getD i []++[(d:Int)])
 | none=>c++[[(d:Int)]]
def qd (f:aE) (c:List (List Int)) (r:Int):Nat→List (List Int)
 | 0=>[]
 | d+1=>aHC f c r (qd f c r d) d
def aqH (f:aE) (c:List (List Int)) (r:Int):Bool:=(a6L f.a4Z.length).all fun d=>Gn f c r [(d:Int)]
theorem set_perm:∀ (c:List (List Int)) (i:Nat) (x:Int),i<c.length→((c.set i (c.getD i []++[x])).flatten).Perm (c.flatten++[x])
 | [],i,x,h=>by cases h
 | l::c,0,x,_=>by simp only[List.set_cons_zero,List.getD_cons_zero,List.flatten_cons,a7V];exact List.Perm.append_left _ List.perm_append_comm
 | l::c,i+1,x,h=>by have:=set_perm c i x (by simpa using h);simp only[List.set_cons_succ,List.getD_cons_succ,List.flatten_cons,a7V];exact List.Perm.append_left _ this
structure Hx (f:aE) (now:List (List Int)) (r:Int) (n:Nat) (w:List (List Int)):Prop where
 ok:∀ l∈w,TP f now r l=true
 len:w.flatten.length=n
 nd:w.flatten.Nodup
 rng:InR w.flatten n
theorem Hx.put {f:aE} {c:List (List Int)} {r:Int} {n:Nat} {w:List (List Int)} (h:Hx f c r n w) (q:Gn f c r [(n:Int)]=true):Hx f c r (n+1) (aHC f c r w n):=by
 have p:∀ u:List (List Int),u.flatten.Perm (w.flatten++[(n:Int)])→(∀ l∈u,TP f c r l=true)→Hx f c r (n+1) u:=fun u e y=>by
  refine⟨y,by rw[e.length_eq,a6T,h.len]; rfl,e.nodup_iff.2 ?_,fun x A=>?_⟩
  ·rw[a9G];refine⟨h.nd,by simp,fun a q b B=>?_⟩;rw[a9A] at B;subst B;have:=h.rng a q;omega
  ·have:=e.mem_iff.1 A;rw[a8J,a9A] at this;rcases this with A | rfl
   ·have:=h.rng x A; omega
   ·omega
 unfold aHC;split
 ·rename_i i hi;obtain⟨hlt,e,-⟩:=List.findIdx?_eq_some_iff_getElem.1 hi;refine p _ (set_perm w i n hlt) fun l d=>?_;rcases List.mem_or_eq_of_mem_set d with d | rfl
  ·exact h.ok l d
  ·unfold TP;rw[a7C,a6Y hlt,a9K,e];simp
 ·refine p _ (by rw[List.flatten_append]; simp) fun l d=>?_;rw[a8J,a9A] at d;rcases d with d | rfl
  ·exact h.ok l d
  ·unfold TP;rw[q]; rfl
theorem Ey {f:aE} {c:List (List Int)} {r:Int} (e:aqH f c r=true):∀ d,d≤f.a4Z.length→Hx f c r d (qd f c r d)
 | 0,_=>⟨(fun l h=>by cases h),rfl,.nil,fun x h=>by cases h⟩
 | d+1,i=>(Ey e d Om).put (a7B.1 e d (a7P.2 Om))
end Go.PM
namespace Go.RO
open Go
def ins (x:Int):List Int→List Int
 | []=>[x]
 | y::ys=>if y<x then y::ins x ys else if y=x then y::ys else x::y::ys
end Go.RO
namespace Go.PM
open Go Go.Na






def aMR (c:UInt8) (n:Nat):List UInt8:=[c,UInt8.ofNat (97+n/26%26),UInt8.ofNat (97+n%26)]
def Jk (ds:List cE) (level parent a5T:Nat):List cE:=ds++[⟨aMR 110 ds.length,(level:Nat),(parent:Nat),(a5T:Nat),lG⟩]
theorem aGB (a b:Nat) (e:a<4294967296) (i:b<4294967296):(mkT (a:Int) (b:Int)).Ok:=by
 rw[Z2];have c:=baB a (a6O a b);have d:=baB b (a6O a b);have k1:nl (a/a6O a b)≤1:=(iJ _ _).2 Om;have k2:nl (b/a6O a b)≤1:=(iJ _ _).2 Om;refine⟨aX _,aX _,?_,?_⟩
 ·show (aH _).length≤_;rw[bB]; omega
 ·show (aH _).length≤_;rw[bB]; omega
theorem M7 {n:Nat} (h:n≤1000000):dE (n:Int):=by unfold dE; omega
def Ho (ds:List cE):Prop:=∀ x∈ds,x.a5O.Ok∧dE x.level∧dE x.parent
theorem Ho.dom {ds:List cE} (h:Ho ds) {level parent a5T:Nat} (d:level≤1000) (e:parent≤1000):Ho (Jk ds level parent a5T):=fun x c=>by
 unfold Jk at c;rw[a8J,a9A] at c;rcases c with c | rfl
 ·exact h x c
 ·exact⟨aGB 0 1 (by decide) (by decide),M7 Om,M7 Om⟩
structure FM (f:aE):Prop where
 ok:f.Ok
 km:∀ p∈f.a5D,1≤p.k∧p.k≤2∧0≤p.m∧p.m≤2
 a4Z:f.a4Z.length≤9
 pols:1≤f.a5D.length∧f.a5D.length≤2
 vols:∀ x∈f.a5B,0≤x.a5L∧x.a5L<f.a5D.length
theorem FM.pol {f:aE} (h:FM f) {v:Nat} (d:v<f.a5B.length):DL f v<f.a5D.length∧KB f v∈f.a5D:=by
 have e:=h.vols _ (a6M d);have i:DL f v=(f.a5B[v]).a5L.toNat:=by rw[DL,getD_at d]
 have c:DL f v<f.a5D.length:=Om;refine⟨c,?_⟩;unfold KB;rw[a7C,a6Y c,a9K];exact a6M c
abbrev aZJ (l:List Int) (a:Nat):cC:=.rows 2 [[ints l,.int .i64 (a:Nat)]]
section
variable {C:Ctx} {F:PF} {H Hs:PH} {l:List Int} {o a:Nat}
end
structure ME where
 o:Nat
 o4:Nat
 o5:Nat
 vols:Nat
abbrev ME.boxes (E:ME) (l:List Int) (ext c d e i wp wv:PV) (a:Nat):List BX:=[(E.o5,flB ext c d e i wp wv),(E.o,aZJ l a),(E.o4,flZ)]





def a1N (ds:List cE) (i:Nat) (d:cE):Prop:=∃ c p u:Nat,d.name=aMR 110 (i+1)∧d.level=c∧1≤c∧c≤4∧d.parent=p∧p≤i∧(lvs ds)[p]?=some ((c:Int)-1)∧d.a5T=u∧1≤u∧u≤64∧d.a5O=lG
structure DV (ds:List cE):Prop where
 root:ds[0]?=some uX
 dom:∀ i (hi:i+1<ds.length),a1N ds i ds[i+1]
theorem DV.new {ds:List cE} (h:DV ds) {level parent up:Nat} (w:1≤level) (x:level≤4) (d:(lvs ds)[parent]?=some ((level:Int)-1)) (A:1≤up) (B:up≤64) :
  DV (Jk ds level parent up)∧(lvs (Jk ds level parent up))[ds.length]?=some (level:Int):=by
 have y:parent<ds.length:=by
  have:=(a7T.1 d).1
  rwa [a6K] at this
 unfold Jk;refine⟨⟨by rw[a8Z Om]; exact h.root,fun i hi=>?_⟩,?_⟩
 ·simp only[a6T,a6X] at hi;by_cases hlt:i+1<ds.length
  ·rw[List.getElem_append_left hlt];obtain⟨c,p,v,g1,g2,g3,g4,e,l,q,u⟩:=h.dom i hlt;exact⟨c,p,v,g1,g2,g3,g4,e,l,Zy q,u⟩
  ·have:i+1=ds.length:=Om;rw[List.getElem_append_right Om];simp only[List.getElem_singleton];exact⟨level,parent,up,by rw[this],rfl,w,x,rfl,by omega,Zy d,rfl,A,B,rfl⟩
 ·unfold lvs;rw[a7L,a9B (by rw[a6K]; exact a6S _),a6K,a9N];rfl




theorem aN.store {H:PH} {B:List BX} {L:List LI} (h:aN H B L) (i:Nat) {q s n:Nat} {rows:List (List PV)} (hi:L[i]?=some (.osl q s 0 n,s,rows)) (k:Nat) (c:List PV) :
  ∃ rs,H q=some (.rows s rs)∧n≤rs.length∧rs.take n=rows∧aN (H.set q (.rows s (rs.set k c))) B (L.set i (.osl q s 0 n,s,rows.set k c)):=by
 obtain⟨rs,u,w,e,l⟩:=(h.own i hi).id rfl;injection w with _ _ _ x
 subst x;refine⟨rs,u,e,l,h.LC i hi (.inr ⟨q,rs.set k c,by rw[a8M],by rw[cN],by rw[a8M,a8M]; exact e,by rw[a8M,List.take_set,l]⟩) (fun p d=>.inl d) fun p _ d=>?_⟩;have:p≠q:=d q rfl;rw[aT,if_neg this]
def aSF:Rg:=[iA 4 (.box false (Tm 1)),iA 6 (.alloc [zI,zI]),iI 7 0]
def aSG:Rg:=[iF 10 1 4,iL 11 10,iC 12 .lss 11 0,iM 13 12,gF 14 1 4 13 false,gL 15 14 13 false,gM 16 0 13 false,gB 17 .geq 15 16 13 false,iQ 18 13 17]
def aSH:Rg:=[iA 19 (.build [zI,zI] []),iS 2 6 19,iI 7 110]
def aSI:Rd:=[(iA 21 (.a6F (true,[.int .i64,.int .i64])),true),(iA 22 (.build [zI,zI] [(0,1,(Ci 1)),(1,1,(Ci 1))]),true),(⟨none,.insert (true,[.int .i64,.int .i64]) (Tm 21) (Tm 22) (Ci 2),none⟩,true),(iA 23 (.build [zI,zI] [(0,1,(Ci 2)),(1,1,(Ci 2))]),true),(⟨none,.insert (true,[.int .i64,.int .i64]) (Tm 21) (Tm 23) (Ci 3),none⟩,true),(iA 24 (.build [zI,zI] [(0,1,(Ci 3)),(1,1,(Ci 3))]),true),(⟨none,.insert (true,[.int .i64,.int .i64]) (Tm 21) (Tm 24) (Ci 1),none⟩,true),(iA 25 (.build [zI,zI] [(0,1,(Ci 3)),(1,1,(Ci 4))]),true),(⟨none,.insert (true,[.int .i64,.int .i64]) (Tm 21) (Tm 25) (Ci 5),none⟩,true),(iM 26 21,false),(iF 27 0 4,true),(iL 28 27,true),(iM 29 2,true),(iA 30 (.build [zI,zI] [(0,1,(Tm 28)),(1,1,(Tm 29))]),true),(iA 31 (.lookup (true,[.int .i64,.int .i64]) zI (Tm 26) (Tm 30) true),false),(iM 20 31,false),(iE 32 20 0,false),(iE 33 20 1,false),(iM 8 32,false),(iM 9 33,false)]
def aSJ:Rg:=[iM 40 9,iA 41 (.un .not (Tm 40)),iM 39 41]
def aSK:Rg:=[iA 42 (.build [zI,zI] []),iS 2 6 42,iI 7 110]
def aSL:Rg:=[iM 44 2,iC 45 .neq 44 3,iM 43 45]
def aSM:Rg:=[iM 46 8,iF 47 0 4,iS 1 47 46]
def aSN:Rg:=[iF 49 1 4,iL 50 49,iM 51 0,iC 52 .sub 51 1,iB 53 .eql 50 52,iM 48 53]
def aSO:Rg:=[iF 54 0 4,⟨none,.store 1 (Tm 54) (Ci 4),none⟩]
def aJP:Rg:=[iM 34 8,iF 35 1 4,iL 36 35,iC 37 .add 36 1,iA 38 (.build [zI,zI] [(0,1,(Tm 34)),(1,1,(Tm 37))]),iS 2 4 38]
def aJQ:Rg:=[iO 55 2 4,iS 2 6 55,iI 7 0]
def awO:aC:=(sq aSF (.seq (sq aSG (.cond (Tm 18) (sq aSH .ret) .skip)) (dq aSI (.seq (.block 0 (sq aSJ (.cond (Tm 39) (sq aSK .ret) (sq aSL (.cond (Tm 43) (.region aSM) (sq aSN (.cond (Tm 48) (.region aSO) (.region aJP)))))))) (sq aJQ .ret)))))
def step:aS:=⟨3,56,awO,[.cell 6 (some 2),.tmp 7]⟩
def aQW:Rg:=[iT 4 false]
def aQX:Rg:=[iM 6 0,iN 7 6,iM 8 1,iN 9 8,iB 10 .neq 7 9]
def aQY:Rg:=[iT 4 false]
def aQZ:Rg:=[iI 5 0]
def aRA:Rg:=[iM 11 5,iM 12 0,iN 13 12,iB 14 .lss 11 13]
def aRB:Rd:=[(iM 17 0,false),(iM 18 5,false),(iX 19 1 17 18,false),(iL 20 19,false),(iM 21 1,false),(iM 22 5,false),(iX 23 1 21 22,false),(iL 24 23,false),(iB 25 .neq 20 24,false)]
def aRC:Rg:=[iT 4 false]
def aRD:Rg:=[iM 15 5,iC 16 .add 15 1,iM 5 16]
def aQV:aC:=(.seq (sq aRA (.cond (Tm 14) .skip (.exit 0))) (.seq (.block 1 (dq aRB (.cond (Tm 25) (sq aRC .ret) .skip))) (.region aRD)))
def aRE:Rg:=[iT 4 true]
def avD:aC:=(sq aQW (.seq (sq aQX (.cond (Tm 10) (sq aQY .ret) .skip)) (.seq (sq aQZ (.block 0 (.loop aQV))) (sq aRE .ret))))
def same:aS:=⟨2,26,avD,[.tmp 4]⟩
def aCQ:Rg:=[iT 0 false]
def aCR:Rg:=[iA 10 (.call 144 [(Ci 1)]),iA 1 (.alloc [zI,zI]),iS 2 1 10]
def aCS:Rg:=[iO 12 2 1,iA 13 (.call 145 [(Ci 1),(Tm 12),(Ci 1)]),iM 11 13,iE 14 11 0,iE 15 11 1,iA 2 (.alloc [zI,zI]),iS 2 2 14,iM 3 15]
def aCT:Rg:=[iO 17 2 2,iA 18 (.call 145 [(Ci 1),(Tm 17),(Ci 2)]),iM 16 18,iE 19 16 0,iE 20 16 1,iA 4 (.alloc [zI,zI]),iS 2 4 19,iM 5 20]
def aCU:Rg:=[iO 22 2 4,iA 23 (.call 145 [(Ci 1),(Tm 22),(Ci 3)]),iM 21 23,iE 24 21 0,iE 25 21 1,iA 6 (.alloc [zI,zI]),iS 2 6 24,iM 7 25]
def aCV:Rg:=[iO 27 2 6,iA 28 (.call 145 [(Ci 1),(Tm 27),(Ci 1)]),iM 26 28,iE 29 26 0,iE 30 26 1,iA 8 (.alloc [zI,zI]),iS 2 8 29,iM 9 30]
def aCW:Rg:=[iO 31 2 1,iA 32 (.build [zI,zI] [(0,1,(Ci 1))]),iA 33 (.eqs false [.int,.int] (Tm 31) (Tm 32)),iM 34 33,gM 35 3 34 true,gC 36 .eql 35 0 34 true,iP 37 34 36,iM 38 37,gM 39 5 38 true,gC 40 .eql 39 0 38 true,iP 41 38 40,iM 42 41,gM 43 7 42 true,gC 44 .eql 43 0 42 true,iP 45 42 44,iM 46 45,gM 47 9 46 true,gC 48 .eql 47 110 46 true,iP 49 46 48,iM 50 49,gO 51 2 6 50 true,iG 52 (.build [zI,zI] [(0,1,(Ci 4))]) 50 true,iG 53 (.eqs false [.int,.int] (Tm 51) (Tm 52)) 50 true,iP 54 50 53,iM 55 54,iG 56 (.a5F true 1 2 [zI] [(0,(Ci 2)),(1,(Ci 1))]) 55 true,iG 57 (.a5F true 1 1 [.aB] [(0,(Tm 56))]) 55 true,gO 58 2 6 55 true,gK2 59 146 57 58 55 true,iG 60 (.a5F true 1 2 [zI] [(0,(Ci 1)),(1,(Ci 2))]) 55 true,gK2 61 91 59 60 55 true,iP 62 55 61,iM 63 62,iG 64 (.call 144 [(Ci 0)]) 63 true,iG 65 (.build [zI,zI] [(0,1,(Ci 4))]) 63 true,iG 66 (.eqs false [.int,.int] (Tm 64) (Tm 65)) 63 true,iP 67 63 66,iM 0 67]
def aiD:aC:=(sq aCQ (sq aCR (sq aCS (sq aCT (sq aCU (sq aCV (sq aCW .ret)))))))
def Gl:aS:=⟨0,68,aiD,[.tmp 0]⟩
def aUK:Rg:=[iA 5 (.box true (Tm 1)),iT 8 false]
def aUL:Rg:=[iM 20 3,iN 21 20,iC 22 .gtr 21 20]
def aUM:Rg:=[iA 23 (.call 26 []),iM 8 23]
def aUN:Rg:=[iI 9 0]
def aUO:Rg:=[iM 24 9,iM 25 3,iN 26 25,iB 27 .lss 24 26]
def aUP:Rg:=[iM 30 3,iM 31 9,iX 32 1 30 31,iL 33 32,iN 34 33,iC 35 .gtr 34 20]
def aUQ:Rg:=[iA 36 (.call 26 []),iM 8 36]
def aUR:Rg:=[iM 28 9,iC 29 .add 28 1,iM 9 29]
def aUJ:aC:=(.seq (sq aUO (.cond (Tm 27) .skip (.exit 0))) (.seq (.block 1 (sq aUP (.cond (Tm 35) (sq aUQ .ret) .skip))) (.region aUR)))
def aUS:Rg:=[iM 37 0,iA 38 (.call 24 [(Tm 37),(Ci 5)]),iM 10 38]
def aPD:Rd:=[(iF 39 0 5,false),(iL 40 39,false),(iA 41 (.call 24 [(Tm 40),(Ci 5)]),true),(iA 42 (.bin .add (Ci 1) (Tm 41)),true),(iF 43 1 5,true),(iL 44 43,true),(iA 45 (.call 24 [(Tm 44),(Ci 5)]),true),(iA 46 (.build [zI,zI] [(0,1,(Tm 42)),(1,1,(Tm 45))]),false),(iA 11 (.alloc [zI,zI]),true),(iS 2 11 46,true)]
def aPE:Rg:=[iM 48 0,iO 49 2 5,iM 50 2,iA 51 (.call 145 [(Tm 48),(Tm 49),(Tm 50)]),iM 47 51,iE 52 47 0,iE 53 47 1,iA 12 (.alloc [zI,zI]),iS 2 12 52,iM 13 53]
def aPF:Rg:=[iM 55 0,iO 56 2 5,iM 57 2,iA 58 (.call 92 [(Tm 55),(Tm 56),(Tm 57)]),iM 54 58,iE 59 54 0,iE 60 54 1,iA 14 (.alloc [zI,zI]),iS 2 14 59,iM 15 60]
def aPG:Rd:=[(iM 62 10,true),(iO 63 2 11,true),(iM 64 2,false),(iA 65 (.call 24 [(Tm 64),(Ci 4)]),true),(iA 66 (.bin .add (Ci 1) (Tm 65)),false),(iA 67 (.call 145 [(Tm 62),(Tm 63),(Tm 66)]),true),(iM 61 67,false),(iE 68 61 0,false),(iE 69 61 1,true),(iA 16 (.alloc [zI,zI]),true),(iS 2 16 68,true),(iM 17 69,false)]
def aPH:Rd:=[(iM 71 10,true),(iO 72 2 11,true),(iM 73 2,false),(iA 74 (.call 24 [(Tm 73),(Ci 4)]),true),(iA 75 (.bin .add (Ci 1) (Tm 74)),false),(iA 76 (.call 92 [(Tm 71),(Tm 72),(Tm 75)]),true),(iM 70 76,false),(iE 77 70 0,false),(iE 78 70 1,true),(iA 18 (.alloc [zI,zI]),true),(iS 2 18 77,true),(iM 19 78,false)]
def aPI:Rd:=[(iA 79 (.call 26 []),true),(iM 80 79,false),(gO 81 2 12 80 true,false),(gO 82 2 14 80 true,false),(iG 83 (.eqs false [.int,.int] (Tm 81) (Tm 82)) 80 true,false),(iP 84 80 83,false),(iM 85 84,false),(gM 86 13 85 true,false),(gM 87 15 85 true,false),(gB 88 .eql 86 87 85 true,false),(iP 89 85 88,false),(iM 90 89,false),(gO 91 2 16 90 true,false),(gO 92 2 18 90 true,false),(iG 93 (.eqs false [.int,.int] (Tm 91) (Tm 92)) 90 true,false),(iP 94 90 93,false),(iM 95 94,false),(gM 96 17 95 true,false),(gM 97 19 95 true,false),(gB 98 .eql 96 97 95 true,false),(iP 99 95 98,false),(iM 100 99,false),(gM 101 3 100 true,false),(gO 102 2 5 100 true,false),(gK2 103 146 101 102 100 true,true),(gM 104 3 100 true,true),(gO 105 2 5 100 true,true),(gK2 106 93 104 105 100 true,true),(gK2 107 91 103 106 100 true,true),(iP 108 100 107,false),(iM 109 108,false),(gM 110 3 109 true,false),(gO 111 2 11 109 true,false),(gK2 112 146 110 111 109 true,true),(gM 113 3 109 true,true),(gO 114 2 11 109 true,true),(gK2 115 93 113 114 109 true,true),(gK2 116 91 112 115 109 true,true),(iP 117 109 116,false),(iM 8 117,false)]
def aFE:aC:=(sq aUK (.seq (sq aUL (.cond (Tm 22) (sq aUM .ret) .skip)) (.seq (sq aUN (.block 0 (.loop aUJ))) (sq aUS (dq aPD (sq aPE (sq aPF (dq aPG (dq aPH (dq aPI .ret))))))))))
def law:aS:=⟨4,118,aFE,[.tmp 8]⟩
open Go Go.RowKit Go.Sort Go.Shelf Go.Proofs
section
variable {E:Env} {H:PH} {w:World}
end
section
variable {C:Ctx} {ρ:Ren} {name:Nat}
end
abbrev lists (c:List (List Int)):PV:=.sl 1 (c.map fun w=>[ints w])
abbrev WPs:=List (PV × List Int)
def cV (ps:WPs):List (List PV):=ps.map fun p=>[p.1]
def mG (ps:WPs):List LI:=ps.map fun p=>(p.1,1,aY p.2)
def wls (ps:WPs):List (List Int):=ps.map (·.2)
def dL (c:PV) (ps:WPs):List LI:=(c,1,cV ps)::mG ps
section
variable {H:PH} {B:List BX}
theorem kM (ps:WPs):(cV ps).length=ps.length:=a6K _
theorem ue {ps:WPs} {i:Nat} {v:PV} {w:List Int} (hi:ps[i]?=some (v,w)):(mG ps)[i]?=some (v,1,aY w):=by
 unfold mG;rw[a7J,hi]; rfl
theorem Qe {ps:WPs} {i:Nat} {v:PV} {w:List Int} (hi:ps[i]?=some (v,w)):(cV ps)[i]?=some [v]:=by
 unfold cV;rw[a7J,hi]; rfl
theorem aN.sS (h:aN H B []):aN H B (dL .aB []):=h.mV 1
theorem aN.inner {c:PV} {ps:WPs} (h:aN H B (dL c ps)) {i:Nat} {v:PV} {w:List Int} (hi:ps[i]?=some (v,w)):bP H 1 v (aY w):=h.own (i+1) (ue hi)
theorem aN.outer {c:PV} {ps:WPs} (h:aN H B (dL c ps)):bP H 1 c (cV ps):=h.own 0 rfl
theorem zN (a b:List Int):aY (a++b)=aY a++aY b:=a7L
theorem aN.aZE {p:PV} {ps:WPs} (h:aN H B (dL p ps)) {i b:Nat} {v y:PV} {w src:List Int} {K:PV→PH→Prop} (hi:ps[i]?=some (v,w)) (E:dT H 1 y=some (aY src)) (x:roomFor w.length src.length b) (d:src≠[])
  (u:∀ q H',aN H' B ((p,1,cV ps)::(mG ps).set i (.osl q 1 0 (w++src).length,1,aY (w++src)))→K (.osl q 1 0 (w++src).length) H'):mJ H 1 b v y K:=by
 have c:aY src≠[]:=fun e=>d (List.map_eq_nil_iff.1 e);refine h.append (i+1) (ue hi) E (by rw[cY,cY]; exact x) fun v' H' l A=>?_;obtain⟨q,rfl⟩:=A c;rw[← zN,cY] at l ⊢;exact u q H' l
theorem aN.aVX {c n i:Nat} {ps:WPs} {v':PV} {d:List Int} (h:aN H B ((.osl c 1 0 n,1,cV ps)::(mG ps).set i (v',1,aY d))) :
  ∃ rs,H c=some (.rows 1 rs)∧n≤rs.length∧rs.take n=cV ps∧aN (H.set c (.rows 1 (rs.set i [v']))) B (dL (.osl c 1 0 n) (ps.set i (v',d))):=by
 obtain⟨rs,l,p,q,u⟩:=h.store 0 rfl i [v'];refine⟨rs,l,p,q,?_⟩;have e:dL (.osl c 1 0 n) (ps.set i (v',d))=((.osl c 1 0 n,1,cV ps)::(mG ps).set i (v',1,aY d)).set 0 (.osl c 1 0 n,1,(cV ps).set i [v']):=by unfold dL cV mG;rw[List.map_set,List.map_set];rfl
 rw[e];exact u
theorem aN.aPQ {c:PV} {ps:WPs} {b:Nat} {y:PV} {K:PV→PH→Prop} (h:aN H B (dL c ps)) (w:dT H 1 y=some [[.aB]]) (p:roomFor ps.length 1 b)
  (l:∀ q H',aN H' B (dL (.osl q 1 0 (ps.length+1)) (ps++[(.aB,[])]))→K (.osl q 1 0 (ps.length+1)) H'):mJ H 1 b c y K:=by
 refine h.append 0 (src:=[[.aB]]) rfl w (by rw[kM]; exact p) fun v' H' i u=>?_;obtain⟨q,rfl⟩:=u (by simp);have d:=i.mV 1;rw[a6T,kM] at d ⊢;refine l q H' ?_;have e:dL (.osl q 1 0 (ps.length+1)) (ps++[(.aB,[])])=(((c,1,cV ps)::mG ps).set 0 (.osl q 1 0 (ps.length+1),1,cV ps++[[.aB]]))++[(.aB,1,[])]:=by unfold dL cV mG;rw[a7L,a7L];rfl
 rw[e];exact d
def nO (c:List (List PV)) (d:List (List Int)):Prop:=c.length=d.length∧∀ (i:Nat) r w,c[i]?=some r→d[i]?=some w→r=[ints w]∨(r=[.aB]∧w=[])
theorem nO.nil:nO [] []:=⟨rfl,fun i r w h=>by cases h⟩
theorem nO.snoc {l:List (List PV)} {p:List (List Int)} {u:PV} {w:List Int} (h:nO l p) (q:u=ints w∨(u=.aB∧w=[])):nO (l++[[u]]) (p++[w]):=by
 refine⟨by simp[h.1],fun i r x d e=>?_⟩;rcases Nat.lt_trichotomy i l.length with c | c | c
 ·rw[a8Z c] at d;rw[a8Z (by rw[← h.1]; exact c)] at e;exact h.2 i r x d e
 ·subst c;rw[a9B (a6S _),a9N] at d;rw[h.1,a9B (a6S _),a9N] at e;cases d; cases e;rcases q with rfl | ⟨rfl,rfl⟩
  ·exact .inl rfl
  ·exact .inr ⟨rfl,rfl⟩
 ·rw[a9B Om,a7Z (by simp; omega)] at d;cases d
theorem nO.flat {e:List (List PV)} {u:List (List Int)} (h:nO e u):Flat e:=Flat.of fun r p c d q s rs=>by
 obtain⟨i,hi⟩:=List.mem_iff_getElem?.1 p;have l:=(a7T.1 hi).1;rcases h.2 i r _ hi (a6Y (by rw[← h.1]; exact l)) with rfl | ⟨rfl,-⟩
 ·rw[a9A] at d; subst d; rfl
 ·rw[a9A] at d; subst d; rfl
theorem nO.co {y:List (List PV)} {x:List (List Int)} (h:nO y x):Co (.sl 1 y) (lists x):=by
 have u:∀ (i:Nat) r t,y[i]?=some r→(x.map fun w=>[ints w])[i]?=some t→∃ w,t=[ints w]∧(r=[ints w]∨(r=[.aB]∧w=[])):=fun i r t e c=>by
  rw[a7J] at c;cases E:x[i]? with
  | none=>rw[E] at c; cases c
  | some w =>rw[E] at c;cases c;exact⟨w,rfl,h.2 i r w e E⟩
 refine .sl (by rw[a6K,h.1]) (fun i r t e c=>?_) (fun i j p q d l=>?_)
 ·obtain⟨w,rfl,A | ⟨A,-⟩⟩:=u i r t e c<;>subst A<;>rfl
 ·unfold at2 at d l;cases e:y[i]? with
  | none=>rw[e] at d; cases d
  | some r =>
   cases c:(x.map fun w=>[ints w])[i]? with
   | none=>rw[c] at l; cases l
   | some t =>
    rw[e] at d;rw[c] at l;obtain⟨w,rfl,A⟩:=u i r t e c;rcases A with rfl | ⟨rfl,rfl⟩
    ·have:some p=some q:=d.symm.trans l;cases this;exact .refl _
    ·cases j with
     | zero=>cases d; cases l; exact .nil 1
     | succ j=>cases d
end
def Fx (u:PV):Prop:=∀ q s rs,PV.frz q s rs u=u
theorem Fx.int (k:IntKind) (n:Int):Fx (.int k n):=fun _ _ _=>rfl
theorem Fx.bool (b:Bool):Fx (.bool b):=fun _ _ _=>rfl
theorem Fx.sl (n:Nat) (r:List (List PV)):Fx (.sl n r):=fun _ _ _=>rfl
theorem Fx.aB:Fx .aB:=fun _ _ _=>rfl
theorem Fx.ptr (q z i c:Nat):Fx (.ptr q z i c):=fun _ _ _=>rfl
theorem Fx.bG (c:List PV):Fx (.bG c):=fun _ _ _=>rfl
theorem bP.dA {H:PH} {s:Nat} {v:PV} {rows:List (List PV)} (h:bP H s v rows) (q z:Nat) (rs:List (List PV)):PV.frz q z rs v=PV.dA q z rs v:=by
 rcases h with ⟨-,rfl⟩ | ⟨p,rs',rfl,-⟩<;>rfl
def Tu (φ:PV→PV) (F:PF):PF:=fun i=>(F i).map φ
theorem yP (φ:PV→PV) (F:PF) (i:Nat):Tu φ F i=(F i).map φ:=rfl
theorem zS:∀ (ps:WPs) {H:PH} {B:List BX} {y:PV} (l:List (List PV)) (d:List (List Int)),nO l d→aN H B ((y,1,l++cV ps)::mG ps)→(∀ b∈B,∀ q s rs,cC.frz q s rs b.2=b.2) →
  ∃ (φ:PV→PV) (A:PH),Co (φ y) (lists (d++wls ps))∧(∀ u,Fx u→φ u=u)∧(∀ e:Int,φ (.tup [y,.int .i64 e])=.tup [φ y,.int .i64 e])∧aN A B []∧(∀ F:PF,iU F H (Tu φ F) A)∧∀ o,(H o=none∨y.oid=some o∨∃ p∈ps,p.1.oid=some o)→A o=none
 | [],H,B,y,l,d,J,h,hB=>by
  have M:l++cV []=l:=a8H l;have e1:d++wls []=d:=a8H d;rw[M] at h;rw[e1];rcases h.own 0 rfl with ⟨Q,rfl⟩ | ⟨q,rs,rfl,_⟩
  ·refine⟨id,H,?_,fun _ _=>rfl,fun _=>rfl,h.aiZ 0,fun F=>?_,fun o ho=>?_⟩
   ·subst Q;have:d=[]:=List.length_eq_zero_iff.1 J.1.symm;subst this;exact .nil 1
   ·have:Tu id F=F:=funext fun i=>by rw[yP]; simp
    rw[this];exact .refl _ _
   ·rcases ho with ho | ho | ⟨p,hp,-⟩
    ·exact ho
    ·cases ho
    ·cases hp
  ·obtain⟨rs,X,Y,Z,z4,K⟩:=h.frz 0 rfl;refine⟨PV.frz q 1 rs,H.frz q 1 rs,?_,fun u N=>N _ _ _,fun e=>?_,?_,fun F=>.step q X (.refl _ _),fun o ho=>?_⟩
   ·rw[Z]; exact J.co
   ·show PV.tup [PV.dA q 1 rs (.osl q 1 0 l.length),.int .i64 e]=_;rw[Y,Z]
   ·have O:(B.map fun b=>(b.1,b.2.frz q 1 rs))=B:=by
     conv=>rhs; rw[← List.map_id B]
     refine List.map_congr_left fun b R=>?_;rw[hB b R q 1 rs]; rfl
    rw[O] at K;exact K
   ·rw[yD];rcases ho with ho | ho | ⟨p,hp,-⟩
    ·rw[ho]; split<;>rfl
    ·have:q=o:=by injection ho
     rw[if_pos this.symm]
    ·cases hp
 | (v,w)::ps,H,B,y,l,d,J,h,hB=>by
  have eo:∀ u:PV,l++[[u]]++cV ps=l++[u]::cV ps:=fun u=>by rw[a7V]; rfl
  have ew:d++[w]++wls ps=d++wls ((v,w)::ps):=by rw[a7V]; rfl
  have ho:bP H 1 v (aY w):=h.own 1 rfl;rcases ho with ⟨Q,rfl⟩ | ⟨q,rs,rfl,_⟩
  ·have hw:w=[]:=List.map_eq_nil_iff.1 Q;have h2:=h.aiZ 1;obtain⟨φ,A,k1,k2,S,U,V,W⟩:=zS ps (l++[[.aB]]) (d++[w]) (J.snoc (.inr ⟨rfl,hw⟩)) (by rw[eo]; exact h2) hB;rw[ew] at k1;refine⟨φ,A,k1,k2,S,U,V,fun o ho=>W o ?_⟩;rcases ho with ho | ho | ⟨p,hp,ho⟩
   ·exact .inl ho
   ·exact .inr (.inl ho)
   ·rcases a6V.1 hp with rfl | hp
    ·cases ho
    ·exact .inr (.inr ⟨p,hp,ho⟩)
  ·obtain⟨rs,X,Y,Z,z4,K⟩:=h.frz 1 rfl;have O:(B.map fun b=>(b.1,b.2.frz q 1 rs))=B:=by
    conv=>rhs; rw[← List.map_id B]
    refine List.map_congr_left fun b R=>?_;rw[hB b R q 1 rs]; rfl
   have y0:PV.dA q 1 rs y=y:=z4 0 _ (by decide) rfl;have E:PV.frz q 1 rs y=y:=((h.own 0 rfl).dA q 1 rs).trans y0;have yp:∀ p∈ps,PV.dA q 1 rs p.1=p.1:=fun p hp=>by obtain⟨j,hj⟩:=List.mem_iff_getElem?.1 hp;exact z4 (j+2) (p.1,1,aY p.2) Om (ue hj)
   have er:(l++cV ((.osl q 1 0 (aY w).length,w)::ps)).map (fun r=>r.map (PV.dA q 1 rs))=l++[[ints w]]++cV ps:=by
    rw[a7L,J.flat,a7V];congr 1;show [PV.dA q 1 rs (.osl q 1 0 (aY w).length)]::(cV ps).map _=_;rw[Y];have:(cV ps).map (fun r=>r.map (PV.dA q 1 rs))=cV ps:=by unfold cV;rw[List.map_map];refine List.map_congr_left fun p hp=>?_;show [PV.dA q 1 rs p.1]=_;rw[yp p hp]
    rw[this];rfl
   have ei:(mG ps).map (fun x=>(x.1,x.2.1,x.2.2.map fun r=>r.map (PV.dA q 1 rs)))=mG ps:=by unfold mG;rw[List.map_map];refine List.map_congr_left fun p _=>?_;show (p.1,1,(aY p.2).map fun r=>r.map (PV.dA q 1 rs))=_;rw[show (aY p.2).map (fun r=>r.map (PV.dA q 1 rs))=aY p.2 from Flat.map p.2 (fun x c hc q s rs=>by rw[a9A] at hc; subst hc; rfl) q 1 rs]
   have z6:aN (H.frz q 1 rs) B ((y,1,l++[[ints w]]++cV ps)::mG ps):=by rw[O] at K;have z7:aN (H.frz q 1 rs) B ((y,1,(l++cV ((.osl q 1 0 (aY w).length,w)::ps)).map (fun r=>r.map (PV.dA q 1 rs)))::(mG ps).map (fun x=>(x.1,x.2.1,x.2.2.map fun r=>r.map (PV.dA q 1 rs)))):=K;rw[er,ei] at z7;exact z7
   obtain⟨φ,A,k1,k2,S,U,V,W⟩:=zS ps (l++[[ints w]]) (d++[w]) (J.snoc (.inl rfl)) z6 hB;rw[ew] at k1;refine⟨fun u=>φ (PV.frz q 1 rs u),A,?_,fun u N=>?_,fun e=>?_,U,fun F=>.step q X ?_,fun o ho=>W o ?_⟩
   ·simp only;rw[E]; exact k1
   ·simp only;rw[N,k2 u N]
   ·simp only;rw[E];have yt:PV.frz q 1 rs (.tup [y,.int .i64 e])=.tup [PV.frz q 1 rs y,.int .i64 e]:=by rcases h.own 0 rfl with ⟨-,M⟩ | ⟨p,rs',M,-⟩<;>(subst M; rfl)
    rw[yt,E,S]
   ·have:Tu (fun u=>φ (PV.frz q 1 rs u)) F=Tu φ (F.frz q 1 rs):=funext fun i=>by rw[yP,yP,qQ,Option.map_map];rfl
    rw[this];exact V _
   ·rw[yD];rcases ho with ho | ho | ⟨p,hp,ho⟩
    ·left; rw[ho]; split<;>rfl
    ·exact .inr (.inl ho)
    ·rcases a6V.1 hp with rfl | hp
     ·have:q=o:=by injection ho
      left; rw[if_pos this.symm]
     ·exact .inr (.inr ⟨p,hp,ho⟩)
theorem nB {res:List dQ} {F:PF} {H:PH} {d:PV} {ps:WPs} {c:Int} {e:jZ} (x:e=.normal∨e=.ret) (h:dQ.evs F H res=some [d,.int .i64 c]) (u:aN H [] (dL d ps)):aV res (bX (.tup [lists (wls ps),.int .i64 c])) e F H:=by
 obtain⟨φ,B,k1,-,y,-,A,-⟩:=zS ps [] [] .nil u (fun b w=>by cases w);refine yM x h ⟨_,_,.nil,A _,a_,φ (bO [d,.int .i64 c]),?_,?_⟩
 ·rw[yP,jS,if_pos rfl]; rfl
 ·show bX _ (φ (.tup [d,.int .i64 c])) .nil;rw[y];refine⟨.tup rfl fun j p q i l=>?_,rfl⟩
  match j with
  | 0=>cases i; cases l; exact k1
  | 1=>cases i; cases l; exact .refl _
  | j+2=>cases i
theorem bP.lenOf {H:PH} {v:PV} {rows:List (List PV)} {s:Nat} (h:bP H s v rows):PV.sL v=some (.int .i64 (rows.length:Nat)):=by
 rcases h with ⟨rfl,rfl⟩ | ⟨q,rs,rfl,-⟩<;>rfl
theorem aN.aVB {H:PH} {B:List BX} {e:PV} {ps:WPs} (h:aN H B (dL e ps)) {i:Nat} (hi:i<ps.length) :
  ∃ d rs,e=.osl d 1 0 ps.length∧H d=some (.rows 1 rs)∧rs[i]?=some [ps[i].1]∧i<rs.length:=by
 rcases h.outer with ⟨c,-⟩ | ⟨q,rs,rfl,c,h2,h3⟩
 ·have:(cV ps).length=0:=by rw[c]; rfl
  rw[kM] at this;omega
 ·rw[kM] at h2 h3;refine⟨q,rs,by rw[kM],c,?_,by omega⟩;have:=Qe (ps:=ps) (i:=i) (v:=ps[i].1) (w:=ps[i].2) (by rw[a6Y hi]);rw[← h3,List.getElem?_take_of_lt hi] at this;exact this
theorem aN.aPW {H:PH} {B:List BX} {c:PV} {ps:WPs} (h:aN H B (dL c ps)):PV.sL c=some (.int .i64 (ps.length:Nat)):=by
 have:=h.outer.lenOf
 rwa [kM] at this
theorem uM (ps:WPs):(wls ps).length=ps.length:=a6K _
theorem KJ {res:List dQ} {F:PF} {H:PH} {c:PV} {ps:WPs} {e:jZ} (l:e=.normal∨e=.ret) (h:dQ.evs F H res=some [c]) (d:aN H [] (dL c ps)):aV res (bX (lists (wls ps))) e F H:=by
 obtain⟨φ,q,k1,-,-,-,p,-⟩:=zS ps [] [] .nil d (fun b i=>by cases i);refine yM l h ⟨_,_,.nil,p _,a_,φ (bO [c]),?_,?_⟩
 ·rw[yP,jS,if_pos rfl]; rfl
 ·exact⟨k1,rfl⟩
def II (f:aE) (lv:Int) (i:Nat):Bool:=decide (lvl f i=lv)
def AZ (f:aE) (lv:Int):List Nat:=(a6L f.a5C.length).filter (II f lv)
def dZ (f:aE) (lv:Int) (i:Nat):Nat:=(a6L i).countP (II f lv)
def eW (f:aE) (lv:Int) (k:Nat):List Int:=(a6L f.a5C.length).map fun i=>if i<k∧lvl f i=lv then ((dZ f lv i:Nat):Int) else 0
def mU (f:aE) (lv:Int) (d i:Nat):List Nat:=(a6L d).filter fun e=>decide (cL f e lv=i)
def nT (f:aE) (lv:Int) (d:Nat):List (List Int):=(AZ f lv).map fun i=>bK (mU f lv d i)
theorem c9 (f:aE) {lv:Int} (h:lv≠5):eX f lv=nT f lv f.a4Z.length:=by
 unfold eX;rw[if_neg h]; rfl
theorem Dy (f:aE):eX f 5=(a6L f.a4Z.length).map fun (d:Nat)=>[(d:Int)]:=by
 unfold eX;rw[if_pos rfl]
theorem amD (f:aE) (lv:Int) (k:Nat):(eW f lv k).length=f.a5C.length:=by unfold eW; simp
theorem V3 (f:aE) (lv:Int):eW f lv 0=a6N f.a5C.length 0:=by
 unfold eW;refine a9R (by simp) fun i c d=>?_;simp
theorem Bu {f:aE} {lv:Int} {k i:Nat} (hi:i<f.a5C.length):(eW f lv k)[i]?=some (if i<k∧lvl f i=lv then ((dZ f lv i:Nat):Int) else 0):=by
 unfold eW;rw[a7J,List.getElem?_range hi]; rfl
theorem amC {f:aE} {lv:Int} {k:Nat} (h:lvl f k=lv):(eW f lv k).set k ((dZ f lv k:Nat):Int)=eW f lv (k+1):=by
 refine a9R (by simp[eW]) fun i c d=>?_;simp only[eW,List.getElem_set,a8P,List.getElem_range];by_cases e:k=i
 ·subst e; rw[if_pos rfl,if_pos ⟨by omega,h⟩]
 ·rw[if_neg e];have:i<k↔i<k+1:=Om;simp only[this]
theorem V2 {f:aE} {lv:Int} {k:Nat} (h:lvl f k≠lv):eW f lv k=eW f lv (k+1):=by
 refine a9R (by simp[eW]) fun i c d=>?_;simp only[eW,a8P,List.getElem_range];by_cases e:k=i
 ·subst e; rw[if_neg Om,if_neg (fun x=>h x.2)]
 ·have:i<k↔i<k+1:=Om;simp only[this]
theorem apD {f:aE} {lv:Int} {k:Nat} (h:lvl f k=lv):dZ f lv (k+1)=dZ f lv k+1:=by
 unfold dZ II;rw[a9U,List.countP_append]; simp[h]
theorem Wx {f:aE} {lv:Int} {k:Nat} (h:lvl f k≠lv):dZ f lv (k+1)=dZ f lv k:=by
 unfold dZ II;rw[a9U,List.countP_append]; simp[h]
theorem aAZ (f:aE) (lv:Int) (k:Nat):dZ f lv k≤k:=a7U List.countP_le_length (by simp)
theorem afL {f:aE} {lv:Int} {a:Nat} (c:a<f.a5C.length) (h:lvl f a=lv):(AZ f lv)[dZ f lv a]?=some a:=arN (q:=II f lv) c (by rw[II,decide_eq_true h])
theorem Vc (f:aE) (lv:Int) (d i:Nat):mU f lv (d+1) i=if cL f d lv=i then mU f lv d i++[d] else mU f lv d i:=by
 unfold mU;rw[a9U,List.filter_append];by_cases h:cL f d lv=i<;>simp[h]
theorem jl (f:aE) (lv:Int) (d i:Nat):(mU f lv d i).length≤d:=a7U (baF ..) (by simp)
theorem aDZ (f:aE) (lv:Int):(AZ f lv).Nodup:=List.nodup_range.filter _
theorem aLR {f:aE} {lv:Int} {d:Nat} (B:cL f d lv<f.a5C.length) (h:lvl f (cL f d lv)=lv) {ps:WPs} (q:wls ps=nT f lv d) {v:PV} {w:List Int} (hi:ps[dZ f lv (cL f d lv)]?=some (v,w)) (v':PV) :
  w.length≤d∧wls (ps.set (dZ f lv (cL f d lv)) (v',w++[(d:Int)]))=nT f lv (d+1):=by
 have l:=afL B h;have u:w=bK (mU f lv d (cL f d lv)):=by
  have c:(wls ps)[dZ f lv (cL f d lv)]?=some w:=by unfold wls; rw[a7J,hi]; rfl
  rw[q,nT,a7J,l] at c;injection c with c
  exact c.symm
 refine⟨by rw[u]; unfold bK; rw[a6K]; exact jl ..,?_⟩;have p:wls (ps.set (dZ f lv (cL f d lv)) (v',w++[(d:Int)]))=(nT f lv d).set (dZ f lv (cL f d lv)) (w++[(d:Int)]):=by rw[← q];unfold wls;rw[List.map_set]
 rw[p,u];unfold nT;refine a9R (by simp) fun i c p=>?_;have il:i<(AZ f lv).length:=by simpa using p
 rw[List.getElem_set];simp only[a8P];rw[Vc];obtain⟨E,x⟩:=a7T.1 l;by_cases e:dZ f lv (cL f d lv)=i
 ·subst e;rw[if_pos rfl,x,if_pos rfl];unfold bK;rw[a7L]; rfl
 ·rw[if_neg e,if_neg];intro y;have A:(AZ f lv)[dZ f lv (cL f d lv)]=(AZ f lv)[i]:=x.trans y;exact e ((List.getElem_inj (aDZ f lv)).1 A)
def xH (n:Nat):List (List PV):=(a6L n).map fun (d:Nat)=>[ints [(d:Int)]]
theorem B7 (n:Nat):(xH n).length=n:=by unfold xH; simp
theorem mz (n:Nat):xH (n+1)=xH n++[[ints [(n:Int)]]]:=by unfold xH; rw[a9U,a7L]; rfl
theorem Dx (f:aE):lay (eX f 5)=.sl 1 (xH f.a4Z.length):=by
 rw[Dy];unfold xH;show PV.sl 1 (List.map _ (List.map _ _))=_;rw[List.map_map];rfl
theorem Ww (f:aE) (lv:Int):nT f lv 0=a6N (dZ f lv f.a5C.length) []:=by
 unfold nT dZ;rw[List.countP_eq_length_filter];refine a9R (by simp[AZ]) fun i c d=>?_;simp[mU,bK]
theorem ou (f:aE) (lv:Int) (d:Nat):(nT f lv d).length=(AZ f lv).length:=by unfold nT; simp
def unB (f:aE) (lv:Int) (c:Nat) (d:PV) (k:Nat):PF:=(((((((PF.nil.set 1 (.int .i64 lv)).set 2 (.bG f.cells)).set 5 (d)).set 7 (.osl c 1 0 f.a5C.length)).set 33 (.sl 7 (f.a5C.map cE.cells))).set 34 (.int .i64 (f.a5C.length:Nat))).set 35 (.int .i64 k))
def unC (f:aE) (lv:Int) (c:Nat) (e:PV) (d:Nat):PF:=(((((((PF.nil.set 1 (.int .i64 lv)).set 2 (.bG f.cells)).set 5 (e)).set 7 (.osl c 1 0 f.a5C.length)).set 54 (.sl 3 (f.a4Z.map dN.cells))).set 55 (.int .i64 (f.a4Z.length:Nat))).set 56 (.int .i64 d))
def unE (f:aE) (lv:Int) (c:Nat) (e:PV) (d at_:Nat):PF:=(((((((((PF.nil.set 1 (.int .i64 lv)).set 2 (.bG f.cells)).set 5 (e)).set 7 (.osl c 1 0 f.a5C.length)).set 54 (.sl 3 (f.a4Z.map dN.cells))).set 55 (.int .i64 (f.a4Z.length:Nat))).set 56 (.int .i64 d)).set 10 (.int .i64 d)).set 12 (.int .i64 at_))
theorem aqX {C:Ctx} {K:bQ} [Up K] (f:aE) (hV:VF f) (lv:Int) (M:1≤lv) (N:lv≤4) (x:Nat) (A:PV) (d:Nat) (J:d<f.a4Z.length) {F:PF} {H:PH}
  (E:(unE f lv x A d (dC f d)).le F) (B:K (.exit 6) (unE f lv x A d (cL f d lv)) H):aC.wp C (.loop wM) K F H:=by
 refine wp_loop (α:=Nat) (fun j=>unE f lv x A d (upN f j (dC f d))) (fun _=>H) (fun j=>(j:Int)≤4-lv) (fun j=>4-j) 0 Om (by rw[upN]; exact E) b_ ?_;intro j O;obtain⟨l,y⟩:=GC hV J (k:=j) Om;have p:((upN f j (dC f d):Nat):Int)<(f.a5C.length:Nat):=Om;by_cases c:(j:Int)<4-lv
 ·have i:4-(j:Int)>lv:=Om;have u:0<upN f j (dC f d):=by
   rcases a8R (upN f j (dC f d)) with e | e
   ·rw[e,hV.root.2.1] at y; omega
   ·exact e
  have w:upN f (j+1) (dC f d)=JW f (upN f j (dC f d)):=rfl;have q:=hV.vj u l;simp only[go_sem,wM,GX,unE,p,eY l,sP l,y,i,ic,lz l,q];exact aD (j+1) Om Om (by (repeat' (first|exact c_|refine d_ ?_ ?_))<;>first|(simp only[go_sem,w]<;>rfl)|rfl) b_
 ·have i:¬ 4-(j:Int)>lv:=Om;have e:cL f d lv=upN f j (dC f d):=by rw[cL,show 4-lv.toNat=j by omega]
  rw[e] at B;simp only[go_sem,wM,GX,unE,p,eY l,sP l,y,i];refine Up.up ?_ B;unfold unE;exact Lq
theorem aqV {C:Ctx} (f:aE) (hV:VF f) (lv:Int) (h1:1≤lv) (h5:lv≤5) :
  CH.wp C (aV Je.res (bX (lay (eX f lv)))) (PF.args [.agg f.cells,.int .i64 lv]) .nil:=by
 have Z:=hV.small;have hd:=Z.a4Z;have μ:=Z.a5C;simp only[go_sem,CH,x9,ya,yb,Je];by_cases c5:lv=5
 ·subst c5;rw[Dx];simp only[go_sem,bH (show (5:Int)=5 from rfl),yc,a6K];refine wp_loop (α:=Nat × PV × PH) (fun s=>(((PF.nil.set 5 (s.2.1)).set 17 (.int .i64 (f.a4Z.length:Nat))).set 18 (.int .i64 s.1))) (fun s=>s.2.2) (fun s=>s.1≤f.a4Z.length∧bP s.2.2 1 s.2.1 (xH s.1)) (fun s=>f.a4Z.length-s.1) (0,.aB,.nil) ⟨a6Q _,.nil⟩ Lq b_ ?_;rintro⟨k,v,H⟩ ⟨hk,hO⟩;simp only at hk hO;simp only[go_sem,x8,yd];by_cases hlt:k<f.a4Z.length
  ·have e:(k:Int)<(f.a4Z.length:Nat):=Om;simp only[go_sem,e,ye,yf];refine eZ (src:=[[ints [(k:Int)]]]) hO (by simp only[go_sem]; rfl) (by unfold roomFor; rw[B7]; simp only[a6X,maxLen]; omega) fun v' H' V _=>?_;rw[← mz] at V;simp only[go_sem,yg,wZz k];exact aD (k+1,v',H') ⟨hlt,V⟩ (by simp only; omega) Lq b_
  ·have e:¬ (k:Int)<(f.a4Z.length:Nat):=Om;have:k=f.a4Z.length:=Om;subst this;simp only[go_sem,e,yh];exact qG (.inr rfl) hO Sq
 have h4:lv≤4:=Om;rw[c9 f c5];have δ:(f.a5C.length:Int)*((8:Nat):Int)≤140737488355328:=Om;have ε:(f.a5C.length:Int)≤9223372036854775807:=Om;have ζ:(0:Int)≤(f.a5C.length:Int):=Om;simp only[go_sem,bF c5,gp,a6K,δ,ε,ζ,Int.le_refl,a8G];refine aR fun A hP=>?_;have ez:a6N f.a5C.length [PV.int .i64 0]=aY (eW f lv 0):=by rw[V3,VU]
 rw[ez];have U:aN (PH.nil.set A (.rows 1 (aY (eW f lv 0)))) [(A,.rows 1 (aY (eW f lv 0)))] (dL .aB []):=((aN.nil (H:=PH.nil)).new hP _).sS;simp only[go_sem,gr,a6K];refine wp_loop (α:=Nat × PV × WPs × PH) (fun s=>unB f lv A s.2.1 s.1) (fun s=>s.2.2.2) (fun s=>s.1≤f.a5C.length∧wls s.2.2.1=a6N (dZ f lv s.1) []∧aN s.2.2.2 [(A,.rows 1 (aY (eW f lv s.1)))] (dL s.2.1 s.2.2.1)) (fun s=>f.a5C.length-s.1) (0,.aB,[],_) ⟨a6Q _,rfl,U⟩ (by unfold unB; exact Lq) b_ ?_;clear U ez hP;rintro⟨i,vo,ps,H⟩ ⟨hi,l,p⟩;simp only at hi l p;simp only[go_sem,gm,gs,unB];by_cases hlt:i<f.a5C.length
 ·have e:(i:Int)<(f.a5C.length:Nat):=Om;have ι:ps.length=dZ f lv i:=by have:=congrArg List.length l;rw[uM,List.length_replicate] at this;exact this
  have Q:=aAZ f lv i;simp only[go_sem,e,gt,eY hlt];refine aR fun q R=>?_;have E:=p.at 0 rfl;have n1:¬ A=q:=by rintro rfl; rw[E] at R; cases R
  have M:=fun x=>p.new R x;simp only[go_sem,gv,sP hlt];by_cases c:lvl f i=lv
  ·have X:=p.aPW;have B:=Bu (f:=f) (lv:=lv) (k:=i) hlt;have y:(aY (eW f lv i))[i]?=some [.int .i64 (if i<i∧lvl f i=lv then ((dZ f lv i:Nat):Int) else 0)]:=by unfold aY; rw[a7J,B]; rfl
   have θ:i<(aY (eW f lv i)).length:=by rw[cY,amD]; exact hlt
   have S:(aY (eW f lv i)).set i [.int .i64 (ps.length:Nat)]=aY (eW f lv (i+1)):=by rw[zp,ι,amC c]
   have h3:=fun x=>(M x).set 0 rfl (.rows 1 (aY (eW f lv (i+1))));simp only[go_sem,bH c,gw,X,e,n1,E,y,θ,a7I,S,gx];refine (h3 _).aPQ Sq (by unfold roomFor; simp only[maxLen]; omega) fun q2 H2 h4=>?_;simp only[go_sem,GW,wZz i];refine aD (i+1,PV.osl q2 1 0 (ps.length+1),ps++[(PV.aB,[])],H2) ⟨hlt,?_,h4.sF 1⟩ (by simp only; omega) Lq b_;simp only;rw[apD c,List.replicate_succ'];unfold wls at l ⊢;rw[a7L,l]; rfl
  ·have S:eW f lv i=eW f lv (i+1):=V2 c;simp only[go_sem,bF c,GW,wZz i];refine aD (i+1,vo,ps,_) ⟨hlt,?_,?_⟩ (by simp only; omega) Lq b_
   ·simp only; rw[Wx c]; exact l
   ·simp only; rw[← S]; exact (M _).sF 1
 have e:¬ (i:Int)<(f.a5C.length:Nat):=Om;have:i=f.a5C.length:=Om;subst this;rw[← Ww] at l;simp only[go_sem,e,gy,a6K];refine wp_loop (α:=Nat × PV × WPs × PH) (fun s=>unC f lv A s.2.1 s.1) (fun s=>s.2.2.2) (fun s=>s.1≤f.a4Z.length∧wls s.2.2.1=nT f lv s.1∧aN s.2.2.2 [(A,.rows 1 (aY (eW f lv f.a5C.length)))] (dL s.2.1 s.2.2.1)) (fun s=>f.a4Z.length-s.1) (0,vo,ps,H) ⟨a6Q _,l,p⟩ (by unfold unC; exact Lq) b_ ?_;clear l p hi hlt e;rintro⟨d,vo,ps,H⟩ ⟨η,l,p⟩;simp only at η l p;simp only[go_sem,gn,gz,unC];by_cases hlt:d<f.a4Z.length
 ·have e:(d:Int)<(f.a4Z.length:Nat):=Om;simp only[go_sem,e,ia,pD hlt];refine aR fun q R=>?_;have E:=p.at 0 rfl;have n1:¬ A=q:=by rintro rfl; rw[E] at R; cases R
  have M:=fun x=>(p.new R x).sF 1;simp only[go_sem,ib,hV.uj hlt];generalize hx:cC.rows 3 _=x;have M:=M x;have N:=M.at 0 rfl;generalize H.set q x=H1 at *
  have up:=fun {K:bQ} [Up K] {F:PF} {H:PH}=>aqX (C:=C) (K:=K) f hV lv h1 h4 A vo d hlt (F:=F) (H:=H);refine up (by unfold unE; exact Lq) ?_;obtain⟨a1,a2⟩:=GC hV hlt (k:=4-lv.toNat) Om;have a3:lvl f (cL f d lv)=lv:=by rw[cL,a2]; omega
  have a1:cL f d lv<f.a5C.length:=a1;have γ:((cL f d lv:Nat):Int)<(f.a5C.length:Nat):=Om;have B:=Bu (f:=f) (lv:=lv) (k:=f.a5C.length) a1;rw[if_pos ⟨a1,a3⟩] at B;have y:(aY (eW f lv f.a5C.length))[cL f d lv]?=some [.int .i64 (dZ f lv (cL f d lv):Nat)]:=by unfold aY; rw[a7J,B]; rfl
  have J:dZ f lv (cL f d lv)<ps.length:=by have:=(a7T.1 (afL a1 a3)).1;rw[← uM,l,ou];exact this
  have O:=fun v'=>aLR (ps:=ps) a1 a3 l (a6Y J) v';have Q:ps[dZ f lv (cL f d lv)]?=some (ps[dZ f lv (cL f d lv)].1,ps[dZ f lv (cL f d lv)].2):=by rw[a6Y J]
  have ν:ps[dZ f lv (cL f d lv)]=(ps[dZ f lv (cL f d lv)].1,ps[dZ f lv (cL f d lv)].2):=rfl;obtain⟨qo,rs,rfl,b1,b2,b3⟩:=M.aVB J;generalize ps[dZ f lv (cL f d lv)].2=w at *
  generalize ps[dZ f lv (cL f d lv)].1=v at *
  generalize dZ f lv (cL f d lv)=u at *
  have β:(u:Int)<(ps.length:Nat):=Om;have ξ:=(O .aB).1;simp only[go_sem,unE];refine bV (PH.nil.set A (.rows 1 (aY (eW f lv f.a5C.length)))) eM (PH.aJ a_ N) ?_;simp only[go_sem,ie,γ,N,y,a7I,β,b1,b2,b3];refine M.aZE (src:=[(d:Int)]) Q (by simp only[go_sem]; rfl) (by unfold roomFor; simp only[a6X,maxLen]; omega) (by simp) fun q2 H2 h5=>?_;have Y:=h5.at 0 rfl;refine⟨PH.aJ a_ Y,?_⟩;obtain⟨rs2,e1,e2,e3,h6⟩:=h5.aVX;have κ:u<rs2.length:=Om;have W:rs2[u]?=some [v]:=by have:=Qe Q;rw[← e3,List.getElem?_take_of_lt J] at this;exact this
  refine bV .nil eM a_ ?_;simp only[go_sem,ig,e1,κ,W,ii,wZz d];refine⟨a_,?_⟩;refine aD (d+1,PV.osl qo 1 0 ps.length,ps.set u (PV.osl q2 1 0 (w++[(d:Int)]).length,w++[(d:Int)]),H2.set qo (.rows 1 (rs2.set u [.osl q2 1 0 (w++[(d:Int)]).length]))) ⟨hlt,(O _).2,h6⟩ (by simp only; omega) Lq (by simp only; exact b_)
 ·have e:¬ (d:Int)<(f.a4Z.length:Nat):=Om;have:d=f.a4Z.length:=Om;subst this;simp only[go_sem,e,ij];rw[← l];exact KJ (.inr rfl) Sq (p.sF 0)
def I5:List aU:=[
 ⟨(some 2),.box true (.tmp 0),none⟩,
 ⟨(some 3),.box true (.tmp 1),none⟩,
 ⟨(some 4),.mv (.const .aB),none⟩]
def I6:List aU:=[
 ⟨(some 5),.alloc [.aB],none⟩]
def I7:List aU:=[
 ⟨(some 7),.a6C 1 (.tmp 3),none⟩,
 ⟨(some 8),.load none (.tmp 7),none⟩,
 ⟨(some 9),.a6C 2 (.tmp 3),none⟩,
 ⟨(some 10),.load none (.tmp 9),none⟩,
 ⟨(some 11),.bin .add (.tmp 8) (.tmp 10),none⟩,
 ⟨(some 12),.a6C 4 (.tmp 2),none⟩,
 ⟨(some 13),.load none (.tmp 12),none⟩,
 ⟨(some 14),.len (.tmp 13),none⟩,
 ⟨(some 15),.call 210 [(.tmp 11),(.tmp 14)],none⟩]
def I8:List aU:=[
 ⟨(some 6),.mv (.tmp 16),none⟩]
def I9:List aU:=[
 ⟨(some 17),.load (some 7) (.tmp 2),none⟩,
 ⟨(some 18),.load (some 17) (.tmp 3),none⟩,
 ⟨(some 19),.mv (.tmp 6),none⟩,
 ⟨(some 20),.call 201 [(.tmp 17),(.tmp 18),(.tmp 19)],none⟩]
def Ja:List aU:=[
 ⟨(some 21),.load none (.tmp 5),none⟩,
 ⟨(some 22),.mv (.tmp 6),none⟩,
 ⟨(some 23),.a5F true 1 1 [.aB] [(0,(.tmp 22))],none⟩,
 ⟨(some 24),.append 1 24 (.tmp 21) (.tmp 23),none⟩,
 ⟨none,.store 1 (.tmp 5) (.tmp 24),none⟩]
def Jb:List aU:=[
 ⟨(some 25),.load none (.tmp 5),none⟩,
 ⟨(some 4),.mv (.tmp 25),none⟩]
def x6:aC:=(.region I8)
def x7:aC:=(.block 1 (.seq (.region I9) (.cond (.tmp 20) (.region Ja) .skip)))
def gl:aC:=(.seq (.region Jb) .ret)
def GT (c d:Code):pO:=(.seq (.region I5) (.seq (.region I6) (.seq (.region I7) (.range (.tmp 15) 26 16 c d x6 x7 gl))))
def aDQ:List Nat:=[2,3,23]
def aiV (c d:Code):yS:=⟨2,26,GT c d,[.tmp 4]⟩
def Ix:List aU:=[
 ⟨(some 2),.box true (.tmp 0),none⟩,
 ⟨(some 3),.box true (.tmp 1),none⟩,
 ⟨(some 4),.mv (.const .aB),none⟩,
 ⟨(some 5),.mv (.const (.int .i64 0)),none⟩]
def Iy:List aU:=[
 ⟨(some 17),.load (some 7) (.tmp 2),none⟩,
 ⟨(some 18),.call 96 [(.tmp 17)],none⟩,
 ⟨(some 19),.bin .neq (.tmp 18) (.const (.int .i64 0)),none⟩,
 ⟨(some 20),.mv (.tmp 19),none⟩,
 ⟨(some 21),.a6C 0 (.tmp 3),(some (20,false))⟩,
 ⟨(some 22),.load none (.tmp 21),(some (20,false))⟩,
 ⟨(some 23),.bin .lss (.tmp 22) (.const (.int .i64 1)),(some (20,false))⟩,
 ⟨(some 24),.pick (.tmp 20) (.const (.bool true)) (.tmp 23),none⟩,
 ⟨(some 25),.mv (.tmp 24),none⟩,
 ⟨(some 26),.a6C 0 (.tmp 3),(some (25,false))⟩,
 ⟨(some 27),.load none (.tmp 26),(some (25,false))⟩,
 ⟨(some 28),.bin .gtr (.tmp 27) (.const (.int .i64 5)),(some (25,false))⟩,
 ⟨(some 29),.pick (.tmp 25) (.const (.bool true)) (.tmp 28),none⟩,
 ⟨(some 30),.mv (.tmp 29),none⟩,
 ⟨(some 31),.a6C 1 (.tmp 3),(some (30,false))⟩,
 ⟨(some 32),.load none (.tmp 31),(some (30,false))⟩,
 ⟨(some 33),.bin .lss (.tmp 32) (.const (.int .i64 1)),(some (30,false))⟩,
 ⟨(some 34),.pick (.tmp 30) (.const (.bool true)) (.tmp 33),none⟩,
 ⟨(some 35),.mv (.tmp 34),none⟩,
 ⟨(some 36),.a6C 1 (.tmp 3),(some (35,false))⟩,
 ⟨(some 37),.load none (.tmp 36),(some (35,false))⟩,
 ⟨(some 38),.bin .gtr (.tmp 37) (.const (.int .i64 3)),(some (35,false))⟩,
 ⟨(some 39),.pick (.tmp 35) (.const (.bool true)) (.tmp 38),none⟩]
def tN:List aU:=[
 ⟨(some 4),.mv (.const .aB),none⟩,
 ⟨(some 5),.mv (.const (.int .i64 1)),none⟩]
def Iz:List aU:=[
 ⟨(some 40),.load (some 7) (.tmp 2),none⟩,
 ⟨(some 41),.a6C 0 (.tmp 3),none⟩,
 ⟨(some 42),.load none (.tmp 41),none⟩,
 ⟨(some 43),.call 206 [(.tmp 40),(.tmp 42)],none⟩,
 ⟨(some 6),.alloc [.aB],none⟩,
 ⟨none,.store 1 (.tmp 6) (.tmp 43),none⟩]
def I0:List aU:=[
 ⟨(some 44),.a6C 4 (.tmp 2),none⟩,
 ⟨(some 45),.load none (.tmp 44),none⟩,
 ⟨(some 46),.len (.tmp 45),none⟩,
 ⟨(some 47),.bin .gtr (.tmp 46) (.const (.int .i64 12)),none⟩,
 ⟨(some 48),.mv (.tmp 47),none⟩,
 ⟨(some 49),.load none (.tmp 6),(some (48,false))⟩,
 ⟨(some 50),.len (.tmp 49),(some (48,false))⟩,
 ⟨(some 51),.a6C 1 (.tmp 3),(some (48,false))⟩,
 ⟨(some 52),.load none (.tmp 51),(some (48,false))⟩,
 ⟨(some 53),.call 207 [(.tmp 50),(.tmp 52)],(some (48,false))⟩,
 ⟨(some 54),.bin .gtr (.tmp 53) (.const (.int .i64 512)),(some (48,false))⟩,
 ⟨(some 55),.pick (.tmp 48) (.const (.bool true)) (.tmp 54),none⟩]
def YV:List aU:=[
 ⟨(some 4),.mv (.const .aB),none⟩,
 ⟨(some 5),.mv (.const (.int .i64 2)),none⟩]
def I1:List aU:=[
 ⟨(some 7),.alloc [.aB],none⟩]
def I2:List aU:=[
 ⟨(some 56),.a6C 1 (.tmp 3),none⟩,
 ⟨(some 57),.load none (.tmp 56),none⟩,
 ⟨(some 58),.load none (.tmp 6),none⟩,
 ⟨(some 59),.len (.tmp 58),none⟩,
 ⟨(some 60),.call 210 [(.tmp 57),(.tmp 59)],none⟩]
def I3:List aU:=[
 ⟨(some 8),.mv (.tmp 61),none⟩]
def I4:List aU:=[
 ⟨(some 62),.a6C 4 (.tmp 2),none⟩,
 ⟨(some 63),.load none (.tmp 62),none⟩,
 ⟨(some 64),.len (.tmp 63),none⟩,
 ⟨(some 65),.a5H 1 1 [(.bool false)] (.tmp 64) (.tmp 64),none⟩,
 ⟨(some 9),.mv (.tmp 65),none⟩]
def xp:List aU:=[
 ⟨(some 66),.mv (.tmp 8),none⟩,
 ⟨(some 67),.len (.tmp 66),none⟩,
 ⟨(some 68),.mv (.const (.int .i64 0)),none⟩]
def xq:List aU:=[
 ⟨(some 69),.bin .lss (.tmp 68) (.tmp 67),none⟩]
def xr:List aU:=[
 ⟨(some 70),.a5Q 1 (.tmp 66) (.tmp 68),none⟩,
 ⟨(some 71),.load none (.tmp 70),none⟩,
 ⟨(some 11),.mv (.tmp 71),none⟩]
def xt:List aU:=[
 ⟨(some 72),.load none (.tmp 6),none⟩,
 ⟨(some 73),.mv (.tmp 11),none⟩,
 ⟨(some 74),.a5Q 1 (.tmp 72) (.tmp 73),none⟩,
 ⟨(some 75),.load none (.tmp 74),none⟩,
 ⟨(some 76),.len (.tmp 75),none⟩,
 ⟨(some 77),.mv (.const (.int .i64 0)),none⟩]
def xu:List aU:=[
 ⟨(some 78),.bin .lss (.tmp 77) (.tmp 76),none⟩]
def xv:List aU:=[
 ⟨(some 79),.a5Q 1 (.tmp 75) (.tmp 77),none⟩,
 ⟨(some 80),.load none (.tmp 79),none⟩,
 ⟨(some 13),.mv (.tmp 80),none⟩]
def xw:List aU:=[
 ⟨(some 81),.mv (.tmp 9),none⟩,
 ⟨(some 82),.mv (.tmp 13),none⟩,
 ⟨(some 83),.a5Q 1 (.tmp 81) (.tmp 82),none⟩,
 ⟨none,.store 1 (.tmp 83) (.const (.bool true)),none⟩]
def xx:List aU:=[
 ⟨(some 84),.bin .add (.tmp 77) (.const (.int .i64 1)),none⟩,
 ⟨(some 77),.mv (.tmp 84),none⟩]
def OP:aC:=(.seq (.region xu) (.seq (.cond (.tmp 78) .skip (.exit 4)) (.seq (.block 5 (.seq (.region xv) (.region xw))) (.region xx))))
def xy:List aU:=[
 ⟨(some 85),.bin .add (.tmp 68) (.const (.int .i64 1)),none⟩,
 ⟨(some 68),.mv (.tmp 85),none⟩]
def OQ:aC:=(.seq (.region xq) (.seq (.cond (.tmp 69) .skip (.exit 2)) (.seq (.block 3 (.seq (.region xr) (.seq (.region xt) (.block 4 (.loop OP))))) (.region xy))))
def xz:List aU:=[
 ⟨(some 14),.mv (.const .aB),none⟩]
def x2:List aU:=[
 ⟨(some 86),.mv (.tmp 9),none⟩,
 ⟨(some 87),.len (.tmp 86),none⟩,
 ⟨(some 88),.mv (.const (.int .i64 0)),none⟩]
def x3:List aU:=[
 ⟨(some 89),.bin .lss (.tmp 88) (.tmp 87),none⟩]
def OS:List aU:=[
 ⟨(some 90),.mv (.tmp 88),none⟩,
 ⟨(some 91),.a5Q 1 (.tmp 86) (.tmp 88),none⟩,
 ⟨(some 92),.load none (.tmp 91),none⟩,
 ⟨(some 15),.mv (.tmp 90),none⟩,
 ⟨(some 16),.mv (.tmp 92),none⟩]
def OT:List aU:=[
 ⟨(some 93),.mv (.tmp 16),none⟩]
def x4:List aU:=[
 ⟨(some 94),.mv (.tmp 14),none⟩,
 ⟨(some 95),.mv (.tmp 15),none⟩,
 ⟨(some 96),.a5F true 1 1 [(.int .i64 0)] [(0,(.tmp 95))],none⟩,
 ⟨(some 97),.append 1 8 (.tmp 94) (.tmp 96),none⟩,
 ⟨(some 14),.mv (.tmp 97),none⟩]
def OU:List aU:=[
 ⟨(some 98),.bin .add (.tmp 88) (.const (.int .i64 1)),none⟩,
 ⟨(some 88),.mv (.tmp 98),none⟩]
def OR:aC:=(.seq (.region x3) (.seq (.cond (.tmp 89) .skip (.exit 6)) (.seq (.block 7 (.seq (.region OS) (.seq (.region OT) (.cond (.tmp 93) (.region x4) .skip)))) (.region OU))))
def OV:List aU:=[
 ⟨(some 99),.load none (.tmp 7),none⟩,
 ⟨(some 100),.mv (.tmp 14),none⟩,
 ⟨(some 101),.a5F true 1 1 [.aB] [(0,(.tmp 100))],none⟩,
 ⟨(some 102),.append 1 24 (.tmp 99) (.tmp 101),none⟩,
 ⟨none,.store 1 (.tmp 7) (.tmp 102),none⟩]
def x5:List aU:=[
 ⟨(some 103),.load none (.tmp 7),none⟩,
 ⟨(some 4),.mv (.tmp 103),none⟩,
 ⟨(some 5),.mv (.const (.int .i64 0)),none⟩]
def ON:aC:=(.region I3)
def OO:aC:=(.block 1 (.seq (.region I4) (.seq (.seq (.region xp) (.block 2 (.loop OQ))) (.seq (.region xz) (.seq (.seq (.region x2) (.block 6 (.loop OR))) (.region OV))))))
def gk:aC:=(.seq (.region x5) .ret)
def GR (c d:Code):pO:=(.seq (.region Ix) (.seq (.seq (.region Iy) (.cond (.tmp 39) (.seq (.region tN) .ret) .skip)) (.seq (.region Iz) (.seq (.seq (.region I0) (.cond (.tmp 55) (.seq (.region YV) .ret) .skip)) (.seq (.region I1) (.seq (.region I2) (.range (.tmp 60) 104 61 c d ON OO gk)))))))
def aDO:List Nat:=[2,3,96,101]
def aiU (c d:Code):yS:=⟨2,104,GR c d,[.tmp 4,.tmp 5]⟩
theorem asI {C:Ctx} {H:PH} {name:Nat} {pre:List PV} {v u:PV} {l:List Int} (w:Plain u) (p:∀ x∈pre,Fx x) (i:bP H 1 v (aY l)) (c:l≠[]) (h:aG C name (pre++[ints l]) .nil (aF u)) :
  ∃ q,v=.osl q 1 0 l.length∧(∃ x,H q=some x)∧aG C name (pre++[v]) (H.only [q]) (fun r H'=>r=u∧H'=H.only [q]):=by
 rcases i with ⟨d,-⟩ | ⟨q,rs,rfl,h1,h2,h3⟩
 ·exact absurd (List.map_eq_nil_iff.1 d) c
 ·rw[cY] at h2 h3 ⊢;refine⟨q,rfl,⟨_,h1⟩,?_⟩;rw[ci h1];refine aG.aFF w ?_;have e:pre.map (PV.frz q 1 rs)=pre:=by
   conv=>rhs; rw[← List.map_id pre]
   exact List.map_congr_left fun x y=>p x y q 1 rs
  rw[a7L,e,a8B,a8W,tR h2,h3];exact h
theorem yF {α:Type} (L:List α) (x:α) (n:Nat) (h:L.length=n):(L++[x])[n]?=some x:=by
 subst h; simp
theorem BL (c:PV) (ps:WPs):(dL c ps).length=ps.length+1:=by unfold dL mG; simp
structure aTW (f:aE) (now:List (List Int)) (r:Int) (d:Nat) (ps:WPs):Prop where
 eq:wls ps=qd f now r d
 num:ps.length≤d
 len:∀ i (h:i<ps.length),1≤(ps[i].2).length∧(ps[i].2).length≤d
theorem aTW.of {f:aE} {c:List (List Int)} {r:Int} (q:aqH f c r=true) {d:Nat} (u:d≤f.a4Z.length) {ps:WPs} (h:wls ps=qd f c r d):aTW f c r d ps:=by
 have k:=Ey q d u;rw[← h] at k;have e:∀ i (h:i<ps.length),ps[i].2∈wls ps:=fun i hi=>a7N.2 ⟨ps[i],a6M hi,rfl⟩;have ne:∀ l∈wls ps,1≤l.length:=fun l y=>by
  have:=k.ok l y;unfold TP at this;cases l with
  | nil=>cases this
  | cons x xs=>rw[a8D]; omega
 refine⟨h,?_,fun i hi=>⟨ne _ (e i hi),?_⟩⟩
 ·have p:(wls ps).length≤(wls ps).flatten.length:=by
   generalize wls ps=w at ne
   induction w with
   | nil=>exact a6S _
   | cons l w B =>have:=B fun x A=>ne x (List.mem_cons_of_mem _ A);have:=ne l (by simp);rw[List.flatten_cons,a6T,a8D];omega
  rw[uM,k.len] at p;exact p
 ·have:=(List.sublist_flatten_of_mem (e i hi)).length_le;rw[k.len] at this;exact this
def aTU (n top:Int) (r:PV) (H':PH):Prop:=∃ o1 o2,o1≠o2∧r=.fn 211 [.ptr o1 1 0 0,.ptr o2 1 0 0]∧H'=(PH.nil.set o1 (.rows 1 [[.int .i64 n]])).set o2 (.rows 1 [[.int .i64 top]])
theorem aDR {C:Ctx} (n top:Int):GU.wp C (aV aiW.res (aTU n top)) (PF.args [.int .i64 n,.int .i64 top]) .nil:=by
 simp only[go_sem,GU,Jc,aiW];refine aR fun o1 e=>?_;simp only[go_sem];refine aR fun o2 c=>?_;have d:o1≠o2:=by rintro rfl; simp only[cN] at c; cases c
 simp only[go_sem,Jd];exact bA (.inr rfl) _ (vs:=[.fn 211 [.ptr o1 1 0 0,.ptr o2 1 0 0]]) Sq b_ ⟨o1,o2,d,rfl,rfl⟩
structure dz (C:Ctx):Prop extends ahR C where
 subs:∀ n top:Int,aG C 210 [.int .i64 n,.int .i64 top] .nil (aTU n top)
 iter:∀ (l o1 o2 n top:Nat) (J:Nat→PH→Prop) (ss:List (List Nat)),ss=cM top n 0→1≤n→n≤1000→top≤1000 →
  (∀ k (hk:k<ss.length) G c,J k G→G c=none→EZ C l [.osl c 1 0 n] (G.set c (.rows 1 (aY (bK ss[k])))) (fun r H'=>r=.bool true∧J (k+1) H')) →
  ∀ G0 H:PH,J 0 G0→G0.le H→H o1=some (.rows 1 [[.int .i64 n]])→H o2=some (.rows 1 [[.int .i64 top]])→G0 o1=none→G0 o2=none→aG C 211 [wB l,.ptr o1 1 0 0,.ptr o2 1 0 0] H (fun _ H'=>∃ G,J ss.length G∧G.le H')
theorem jm {C:Ctx} (Lb:dz C) {F:PF} {H:PH} {n m t o1 o2 top:Nat} {d i:Code} {O Q:aC} {A:List (List Nat)} (X:A=cM top n 0) (h1:1≤n) (hn:n≤1000) (ht:top≤1000) (α:o1≠o2)
  (I:Nat→PH→Prop) (u:PH) (hI:I 0 u) (N:u.le H) (b1:H o1=some (.rows 1 [[.int .i64 n]])) (b2:H o2=some (.rows 1 [[.int .i64 top]])) (g1:u o1=none) (g2:u o2=none)
  (hY:∀ (l:Nat) (x:PV) (J:PH) (Y:PH→Prop),J l=none→O.wp C (fV C (Q.wp C) (BA Y)) (F.set t x) J→EZ C l [x] (J.set l (.loop F m t d i)) (fun r H'=>r=.bool true∧∃ H2,Y H2∧H2 l=none∧H'=H2.set l (.loop F m t d i)))
  (hb:∀ k (Z:k<A.length) G c,I k G→G c=none→O.wp C (fV C (Q.wp C) (BA (I (k+1)))) (F.set t (.osl c 1 0 n)) (G.set c (.rows 1 (aY (bK A[k]))))) :
  Hp C 211 [.ptr o1 1 0 0,.ptr o2 1 0 0] F H m t d i (I A.length):=by
 intro l R;have E:u l=none:=by
  cases h:u l with
  | none=>rfl
  | some x=>rw[N l x h] at R; cases R
 have n1:¬ o1=l:=fun e=>by rw[e,R] at b1; cases b1
 have n2:¬ o2=l:=fun e=>by rw[e,R] at b2; cases b2
 refine (Lb.iter l o1 o2 n top (fun k G=>∃ p,I k p∧p l=none∧G=p.set l (.loop F m t d i)) A X h1 hn ht ?_ (u.set l (.loop F m t d i)) (H.set l (.loop F m t d i)) ⟨u,hI,E,rfl⟩ ?_ ?_ ?_ ?_ ?_).post ?_
 ·rintro k Z G c ⟨p,B,q,rfl⟩ U;have K:¬ c=l:=fun e=>by rw[e,cN] at U; cases U
  have M:¬ l=c:=fun e=>K e.symm;have V:p c=none:=by rwa [aT,if_neg K] at U
  have:=hY l (.osl c 1 0 n) (p.set c (.rows 1 (aY (bK A[k])))) (I (k+1)) (by rw[aT,if_neg M]; exact q) (hb k Z p c B V);have e:(p.set c (.rows 1 (aY (bK A[k])))).set l (.loop F m t d i)=(p.set l (.loop F m t d i)).set c (.rows 1 (aY (bK A[k]))):=by
   refine PH.ext fun o=>?_;simp only[aT];by_cases S:o=l
   ·subst S; rw[if_pos rfl,if_neg M,if_pos rfl]
   ·rw[if_neg S,if_neg S]
  rw[e] at this;exact this
 ·intro o x y;rw[aT] at y ⊢;split at y
  ·rename_i e; rw[if_pos e]; exact y
  ·rename_i e; rw[if_neg e]; exact N o x y
 ·rw[aT,if_neg n1]; exact b1
 ·rw[aT,if_neg n2]; exact b2
 ·rw[aT,if_neg n1]; exact g1
 ·rw[aT,if_neg n2]; exact g2
 ·rintro r H' ⟨G,⟨p,B,q,rfl⟩,w⟩;have W:H' l=some (.loop F m t d i):=w l _ (by rw[cN]);exact⟨r,.refl _,p,B,(fun o x y=>w o x (by
   have:¬ o=l:=fun e=>by rw[e,q] at y; cases y
   rw[aT,if_neg this]; exact y)),q,W⟩
def aMN (d:Nat) (e:List (List Int)) (G:PH):Prop:=∃ c ps,aN G [(d,.rows 1 [[c]])] (dL c ps)∧wls ps=e
theorem aDP {C:Ctx} (Lb:dz C) (J K:Code) (f:aE) (hV:VF f) (hd:f.a4Z.length≤12) (p:bT) (hp:∀ m∈p.a5A,0≤m∧m<f.a5A.length) (S:Fits p.a5A) (hk:1≤p.k) (ν:p.k≤6) (hm:0≤p.m) (ξ:p.m≤4) :
  (GT J K).wp C (aV (aiV J K).res (bX (lay (nM f p)))) (PF.args [.agg f.cells,.agg p.cells]) .nil:=by
 obtain⟨n,hn⟩:∃ n:Nat,(n:Int)=fR p:=⟨(p.k+p.m).toNat,by unfold fR; omega⟩;have β:1≤n∧n≤10:=by unfold fR at hn; omega
 have hw:IntKind.i64.wrap (p.k+p.m)=(n:Int):=by rw[hn]; exact wrap_i64 Om Om
 simp only[go_sem,GT,pO.wp,I5,I6,aiV];refine aR fun B γ=>?_;simp only[go_sem,I7,hw,a6K];refine kJ (Lb.subs n f.a4Z.length) Sq a_ ?_;rintro r H' ⟨o1,o2,l,rfl,rfl⟩ R;have W:¬ B=o1:=fun e=>by have:=R o1 _ (by rw[aT,if_neg l,cN]) rfl;rw[← e,cN] at this; cases this
 have X:¬ B=o2:=fun e=>by have:=R o2 _ (by rw[cN]) rfl;rw[← e,cN] at this; cases this
 have κ:¬ o2=o1:=fun e=>l e.symm;simp only[go_sem];generalize N:PF.set _ 15 _=F;have f2:F 2=some (.bG f.cells):=by rw[← N]; simp only[go_sem]
 have f3:F 3=some (.bG p.cells):=by rw[← N]; simp only[go_sem]
 have f5:F 5=some (.ptr B 1 0 0):=by rw[← N]; simp only[go_sem]
 have μ:F 15=some (.fn 211 [.ptr o1 1 0 0,.ptr o2 1 0 0]):=by rw[← N]; simp only[go_sem]
 clear N;have ε:cM f.a4Z.length n 0=cM f.a4Z.length (fR p).toNat 0:=by rw[← hn]; rfl
 have Q:=mI f.a4Z.length n 0;have hE:nM f p=((cM f.a4Z.length n 0).map bK).filter (lH f p):=by rw[ε]; rfl
 refine⟨211,[.ptr o1 1 0 0,.ptr o2 1 0 0],aMN B (((((cM f.a4Z.length n 0).take (cM f.a4Z.length n 0).length)).map bK).filter (lH f p)),rfl,fun hY=>?_,fun H2 O=>?_⟩
 ·refine jm (m:=26) (t:=16) Lb rfl β.1 Om Om l (fun k=>aMN B ((((cM f.a4Z.length n 0).take k).map bK).filter (lH f p))) (PH.nil.set B (.rows 1 [[.aB]])) ⟨.aB,[],((aN.nil (H:=PH.nil)).new γ _).sS,rfl⟩ ?_ ?_ ?_ ?_ ?_ hY ?_
  ·intro o x Z;rw[aT] at Z;split at Z
   ·rename_i e;rw[gG]; simp only[aT,e,if_neg W,if_neg X,UP,if_true];exact Z
   ·cases Z
  ·rw[gG]; simp only[aT,if_neg l,if_true]
  ·rw[gG]; simp only[aT,if_true]
  ·rw[aT,if_neg (fun e=>W e.symm)]; rfl
  ·rw[aT,if_neg (fun e=>X e.symm)]; rfl
  rintro k hk G c ⟨vo,ps,E,w⟩ hc;have δ:=Q _ (a6M hk);have ζ:(cM f.a4Z.length n 0).take (k+1)=(cM f.a4Z.length n 0).take k++[(cM f.a4Z.length n 0)[k]]:=a8E hk;generalize (cM f.a4Z.length n 0)[k]=s at *
  obtain⟨sl,Y,-⟩:=δ;have i:((((cM f.a4Z.length n 0).take (k+1)).map bK).filter (lH f p))=wls ps++if lH f p (bK s) then [bK s] else []:=by rw[ζ,a7L,List.filter_append,w];congr 1;by_cases c:lH f p (bK s)<;>simp[c]
  have U:(aY (bK s)).length=n:=by rw[cY,eF,sl]
  have M:=E.alR (s:=1) (rows:=aY (bK s)) hc;have hO:bP (G.set c (.rows 1 (aY (bK s)))) 1 (.osl c 1 0 n) (aY (bK s)):=by
   have:=M.own ((dL vo ps).length) (yF _ _ _ rfl)
   rwa [U] at this
  have ο:ps.length≤4096:=by
   rw[← uM,w];refine a7U (baF ..) ?_;rw[a6K,a7D];have h1:=pL f.a4Z.length n 0;have M:2 ^ (f.a4Z.length-0)≤2 ^ 12:=a9J Om Om;have e:(2:Nat) ^ 12=4096:=by decide
   omega
  have d:=Lb.adm f p (bK s) hV hp S ⟨by rw[eF]; omega,fun x V=>by obtain⟨y,hy,rfl⟩:=a7N.1 V;have:=Y y hy;omega⟩;obtain⟨q,e1,V,d⟩:=asI (C:=C) (name:=201) (pre:=[.agg f.cells,.agg p.cells]) (u:=.bool (lH f p (bK s))) (.bool _) (fun x V=>by
   simp only[a6V,a7G,or_false] at V;rcases V with rfl | rfl
   ·exact fun _ _ _=>rfl
   ·exact fun _ _ _=>rfl) hO (fun e=>by have:=congrArg List.length e; rw[eF,sl] at this; simp at this; omega) d
  have eq:c=q:=by injection e1
  subst eq;have ι:=M.at 0 rfl;have θ:¬ B=c:=fun e=>by have:=E.at 0 rfl; rw[e,hc] at this; cases this
  simp only[go_sem,x6,I8,x7,I9,f2,f3];refine apQ (cs:=[]) (vs:=[.agg f.cells,.agg p.cells,.osl c 1 0 n]) (by rw[a8H]; exact d) Sq (UV _ _) ?_;cases A:lH f p (bK s) with
  | true =>
   rw[A,if_pos rfl] at i;simp only[go_sem,Ja,f5,θ,E.at 0 rfl];refine M.append 0 (rows:=cV ps) (src:=[[.osl c 1 0 n]]) rfl Sq (by unfold roomFor; rw[kM]; simp only[a6X,maxLen]; omega) fun v' H' h3 η=>?_;obtain⟨q2,rfl⟩:=η (by simp);have α:=h3.at 0 rfl;have h4:=h3.set 0 rfl (cC.rows 1 [[PV.osl q2 1 0 (cV ps++[[PV.osl c 1 0 n]]).length]]);simp only[go_sem,α,f5,a6V,a7G,or_false,forall_eq];refine⟨PV.osl q2 1 0 (cV ps++[[PV.osl c 1 0 n]]).length,ps++[(.osl c 1 0 n,bK s)],?_,?_⟩
   ·have e:dL (.osl q2 1 0 (cV ps++[[PV.osl c 1 0 n]]).length) (ps++[(PV.osl c 1 0 n,bK s)])=((dL vo ps)++[(PV.osl c 1 0 (aY (bK s)).length,1,aY (bK s))]).set 0 (.osl q2 1 0 (cV ps++[[PV.osl c 1 0 n]]).length,1,cV ps++[[PV.osl c 1 0 n]]):=by rw[U];unfold dL cV mG;rw[a7L,a7L];rfl
    rw[e];exact h4
   ·rw[i];unfold wls;rw[a7L]; rfl
  | false =>rw[A,if_neg (by decide),a8H] at i;simp only[go_sem];exact⟨vo,ps,M.sub (a8L.refl _) (List.sublist_append_left ..),i.symm⟩
 ·rw[a7M,← hE] at O;obtain⟨vo,ps,E,w⟩:=O;have hb:=E.at 0 rfl;simp only[go_sem,gl,Jb,f5,hb];rw[← w];exact KJ (.inr rfl) Sq (E.sF 0)
def oL (f:aE) (a5L:Int):Int:=if fX f a5L then (if f.a4Z.length>12 then 2 else 0) else 1
def sA (f:aE) (a5L:Int):List (List Int):=if oL f a5L=0 then nM f (fN f a5L) else []
structure Hm (C:Ctx):Prop extends dz C where
 sets:∀ (f:aE) (p:bT),VF f→f.a4Z.length≤12→(∀ m∈p.a5A,0≤m∧m<f.a5A.length)→Fits p.a5A→1≤p.k→p.k≤6→0≤p.m→p.m≤4→aG C 229 [.agg f.cells,.agg p.cells] .nil (aF (lay (nM f p)))
def cyS (r:PV):Spec:=fun _ _=>some ([],fun _=>aF r)
theorem aqN {C:Ctx} (w:Hm C) (f:aE) (x:f.Ok) (a5L:Int) :
  CE.wp C (aV call17.res (bX (.tup [lay (sA f a5L),.int .i64 (oL f a5L)]))) (PF.args [.agg f.cells,.int .i64 a5L]) .nil:=by
 have hB:sA f a5L=if oL f a5L=0 then nM f (fN f a5L) else []:=rfl
 have e:oL f a5L=if fX f a5L then (if f.a4Z.length>12 then 2 else 0) else 1:=rfl
 simp only[go_sem,CE,xd,xe,call17];refine aA (w.known f a5L x) Ev ?_;cases q:fX f a5L with
 | false =>rw[q,if_neg (by decide)] at e;rw[e,if_neg (by decide)] at hB;rw[hB,e];simp only[go_sem,a7A,xf];exact nB (.inr rfl) Sq (aN.sS aN.nil)
 | true =>
  rw[q,if_pos rfl] at e;obtain⟨hV,y,B,A⟩:=nH q;obtain⟨p,u⟩:=nA q;have d:=hV.a5L _ p;have l:=(x.a5L _ p).a5A;have i:(f.a5D.map bT.cells)[a5L.toNat]?=some (fN f a5L).cells:=by rw[a7J,u]; rfl
  have hlt:a5L<(f.a5D.length:Nat):=Om;by_cases c:f.a4Z.length>12
  ·rw[if_pos c] at e;rw[e,if_neg (by decide)] at hB;rw[hB,e];simp only[go_sem,a6P,OG,a6K,show (f.a4Z.length:Int)>12 by omega,xg];exact nB (.inr rfl) Sq (aN.sS aN.nil)
  ·rw[if_neg c] at e;rw[e,if_pos rfl] at hB;rw[hB,e];simp only[go_sem,a6P,OG,a6K,show ¬ (f.a4Z.length:Int)>12 by omega];refine bV .nil (cyS (lay (nM f (fN f a5L)))) a_ ?_;simp only[go_sem,xh,y,hlt,a6K,i];refine bM rfl (w.sets f (fN f a5L) hV Om d.2.2.2.2.2.2.2 l d.1 d.2.1 d.2.2.1 d.2.2.2.1) Sq a_ ?_;simp only[go_sem];exact bA (.inr rfl) .nil (vs:=[lay (nM f (fN f a5L)),.int .i64 0]) Sq a_ (aF.aVS ⟨rfl,rfl⟩)
structure UOk (n:Nat) (U:List (List Int)):Prop where
 len:U.length≤1000
 at_:∀ u∈U,u.length≤1000∧∀ d∈u,0≤d∧d<n
def mZ (U:List (List Int)) (s:List Nat):List Int:=s.flatMap fun i=>U.getD i []
theorem S5 (U:List (List Int)) (s:List Nat) {i:Nat} (h:i<s.length):mZ U (s.take (i+1))=mZ U (s.take i)++U.getD s[i] []:=by
 unfold mZ;rw[a8E h,List.flatMap_append]; simp
theorem Wy (U:List (List Int)) (s:List Nat) (d:Nat):(mZ U s).contains (d:Int)=iW U s d:=by
 unfold mZ iW
 induction s with
 | nil=>rfl
 | cons i s c=>rw[List.flatMap_cons,List.contains_append,c,List.any_cons]
theorem aqU {C:Ctx} {K:bQ} [Up K] (W V q c nd n i:Nat) (E:PV) (u:List Int) (β:u.length≤1000) (hu:∀ d∈u,0≤d∧d<nd) (l:List Int) {F:PF} {H:PH} {B:List BX} {L:List LI}
  (w:aN H B L) (b:Nat) (Y:B[b]?=some (q,.rows 1 (dB (marks nd l))))
  (Z:(((((((((((PF.nil.set 2 (E)).set 6 (.ptr W 1 0 0)).set 7 (.ptr V 1 0 0)).set 9 (.osl q 1 0 nd)).set 66 (.osl c 1 0 n)).set 67 (.int .i64 n)).set 68 (.int .i64 i)).set 75 (ints u)).set 76 (.int .i64 (u.length:Nat))).set 77 (.int .i64 0))).le F)
  (hK:∀ H',aN H' (B.set b (q,.rows 1 (dB (marks nd (l++u))))) L→K (.exit 4) ((((((((PF.nil.set 2 (E)).set 6 (.ptr W 1 0 0)).set 7 (.ptr V 1 0 0)).set 9 (.osl q 1 0 nd)).set 66 (.osl c 1 0 n)).set 67 (.int .i64 n)).set 68 (.int .i64 i))) H') :
  aC.wp C (.loop OP) K F H:=by
 refine wp_loop (α:=Nat × PH) (fun s=>((((((((((PF.nil.set 2 (E)).set 6 (.ptr W 1 0 0)).set 7 (.ptr V 1 0 0)).set 9 (.osl q 1 0 nd)).set 66 (.osl c 1 0 n)).set 67 (.int .i64 n)).set 68 (.int .i64 i)).set 75 (ints u)).set 76 (.int .i64 (u.length:Nat))).set 77 (.int .i64 s.1))) (fun s=>s.2) (fun s=>s.1≤u.length∧aN s.2 (B.set b (q,.rows 1 (dB (marks nd (l++u.take s.1))))) L) (fun s=>u.length-s.1) (0,H) ⟨a6Q _,?_⟩ Z b_ ?_
 ·rw[List.take_zero,a8H];have e:B.set b (q,.rows 1 (dB (marks nd l)))=B:=by obtain⟨h1,A⟩:=a7T.1 Y;rw[← A,List.set_getElem_self]
  rw[e]; exact w
 rintro⟨j,X⟩ ⟨hj,w⟩;simp only at hj w;have J:b<B.length:=(a7T.1 Y).1;have x:(B.set b (q,cC.rows 1 (dB (marks nd (l++u.take j)))))[b]?=some (q,.rows 1 (dB (marks nd (l++u.take j)))):=List.getElem?_set_self J;simp only[go_sem,OP,xu];by_cases hlt:j<u.length
 ·have p:(j:Int)<(u.length:Nat):=Om;have Q:(u.map fun n=>[PV.int .i64 n])[j]?=some [.int .i64 u[j]]:=by simp[hlt]
  obtain⟨S,U⟩:=hu _ (a6M hlt);have R:u.take (j+1)=u.take j++[u[j]]:=a8E hlt;have N:(u[j]).toNat<(dB (marks nd (l++u.take j))).length:=by rw[AU,QB]; omega
  have M:(dB (marks nd (l++u.take j)))[(u[j]).toNat]?=some [.bool ((l++u.take j).contains u[j])]:=by unfold dB;rw[a7J,zP S U]; rfl
  have O:=w.at b x;have A:=w.set b x (.rows 1 (dB (marks nd (l++u.take (j+1)))));rw[List.set_set] at A;have y:=QC (l:=l++u.take j) S U;rw[a7V,← R] at y;simp only[go_sem,p,xv,Q,xw,S,U,a7I,O,M,N,jP,y,xx,wZz j];exact aD (j+1,X.set q (.rows 1 (dB (marks nd (l++u.take (j+1)))))) ⟨hlt,A⟩ (by simp only; omega) Lq b_
 ·have p:¬ (j:Int)<(u.length:Nat):=Om;have:j=u.length:=Om;subst this;rw[a7M] at w;simp only[go_sem,p];exact Up.up Lq (hK X w)
def scB (d i c e:Nat) (p:PV) (U:List (List Int)) (s:List Nat) (nd:Nat) (l:List Int):List BX:=[(d,.rows 1 [[p]]),(i,.rows 1 [[lay U]]),(c,.rows 1 (aY (bK s))),(e,.rows 1 (dB (marks nd l)))]
theorem U6 {C:Ctx} {K:bQ} [Up K] (w p q c nd n:Nat) (A S:PV) (U:List (List Int)) (Z:UOk nd U) (s:List Nat) (hs:s.length=n) (O:∀ x∈s,x<U.length) (hn:n≤1000) {F:PF} {H:PH} {L:List LI}
  (l:aN H (scB p w c q S U s nd []) L)
  (X:((((((((PF.nil.set 2 (A)).set 6 (.ptr w 1 0 0)).set 7 (.ptr p 1 0 0)).set 9 (.osl q 1 0 nd)).set 66 (.osl c 1 0 n)).set 67 (.int .i64 n)).set 68 (.int .i64 0))).le F)
  (Y:∀ H',aN H' (scB p w c q S U s nd (mZ U s)) L→K (.exit 2) (((((PF.nil.set 2 (A)).set 6 (.ptr w 1 0 0)).set 7 (.ptr p 1 0 0)).set 9 (.osl q 1 0 nd))) H') :
  aC.wp C (.loop OQ) K F H:=by
 refine wp_loop (α:=Nat × PH) (fun t=>(((((((PF.nil.set 2 (A)).set 6 (.ptr w 1 0 0)).set 7 (.ptr p 1 0 0)).set 9 (.osl q 1 0 nd)).set 66 (.osl c 1 0 n)).set 67 (.int .i64 n)).set 68 (.int .i64 t.1))) (fun t=>t.2) (fun t=>t.1≤s.length∧aN t.2 (scB p w c q S U s nd (mZ U (s.take t.1))) L) (fun t=>s.length-t.1) (0,H) ⟨a6Q _,l⟩ X b_ ?_;rintro⟨i,W⟩ ⟨hi,l⟩;simp only at hi l;simp only[go_sem,OQ,xq];by_cases hlt:i<s.length
 ·have d:(i:Int)<(n:Nat):=Om;have hc:=l.at 2 rfl;have N:=l.at 1 rfl;have J:=tZ hlt;have M:i<(aY (bK s)).length:=by rw[cY,eF]; exact hlt
  have Q:=O s[i] (a6M hlt);have R:((s[i]:Nat):Int)<(U.length:Nat):=Om;have e:=S5 U s hlt;have y:=Z.at_ U[s[i]] (a6M Q);have E:U.getD s[i] []=U[s[i]]:=by simp[a7C,Q]
  have B:(U.map fun r=>[ints r])[s[i]]?=some [ints U[s[i]]]:=by simp[Q]
  rw[E] at e;generalize U[s[i]]=u at *
  generalize s[i]=x at *
  simp only[go_sem,d,xr,hc,J,M,a7I,xt,N,R,a6K,B];have one:=fun {K:bQ} [Up K] {F:PF}=>aqU (C:=C) (K:=K) w p q c nd n i A u y.1 y.2 (mZ U (s.take i)) (F:=F) l 3 rfl;refine one (by (repeat' (first|exact c_|refine d_ ?_ ?_))<;>first|(simp only[go_sem,a6K]<;>rfl)|rfl) fun H' V=>?_;rw[← e] at V;simp only[go_sem,xy,wZz i];exact aD (i+1,H') ⟨hlt,V⟩ (by simp only; omega) Lq b_
 ·have d:¬ (i:Int)<(n:Nat):=Om;have:i=s.length:=Om;subst this;rw[a7M] at l;simp only[go_sem,d];exact Up.up Lq (Y W l)
def scD (l:List Int) (k:Nat):List Int:=bK ((a6L k).filter fun d=>l.contains (d:Int))
theorem aHR (l:List Int) (k:Nat):scD l (k+1)=if l.contains (k:Int) then scD l k++[(k:Int)] else scD l k:=by
 unfold scD;rw[a9U,List.filter_append,Oy];by_cases h:l.contains (k:Int)
 ·rw[if_pos h]; simp[bK] at h ⊢; simp[h]
 ·rw[if_neg h]; simp[bK] at h ⊢; simp[h]
theorem aRN (l:List Int) (k:Nat):(scD l k).length≤k:=by
 unfold scD;rw[eF];exact a7U (baF ..) (by simp)
theorem Iw {C:Ctx} {K:bQ} [Up K] (u q A c nd:Nat) (V:nd≤1000) (B E:PV) (U:List (List Int)) (s:List Nat) (l:List Int) {F:PF} {H:PH} {L:List LI}
  (i:aN H (scB q u c A E U s nd l) L)
  (Q:((((((((PF.nil.set 2 (B)).set 6 (.ptr u 1 0 0)).set 7 (.ptr q 1 0 0)).set 14 (.aB)).set 86 (.osl A 1 0 nd)).set 87 (.int .i64 nd)).set 88 (.int .i64 0))).le F)
  (R:∀ v H',aN H' (scB q u c A E U s nd l) (L++[(v,1,aY (scD l nd))])→K (.exit 6) (((((PF.nil.set 2 (B)).set 6 (.ptr u 1 0 0)).set 7 (.ptr q 1 0 0)).set 14 (v))) H') :
  aC.wp C (.loop OR) K F H:=by
 refine wp_loop (α:=Nat × PV × PH) (fun t=>(((((((PF.nil.set 2 (B)).set 6 (.ptr u 1 0 0)).set 7 (.ptr q 1 0 0)).set 14 (t.2.1)).set 86 (.osl A 1 0 nd)).set 87 (.int .i64 nd)).set 88 (.int .i64 t.1))) (fun t=>t.2.2) (fun t=>t.1≤nd∧aN t.2.2 (scB q u c A E U s nd l) (L++[(t.2.1,1,aY (scD l t.1))])) (fun t=>nd-t.1) (0,.aB,H) ⟨a6Q _,i.mV 1⟩ Q b_ ?_;clear i;rintro⟨k,v,J⟩ ⟨S,i⟩;simp only at S i;simp only[go_sem,OR,x3];by_cases hlt:k<nd
 ·have e:(k:Int)<(nd:Nat):=Om;have x:=i.at 3 rfl;have d:=aHR l k;have O:=aRN l k;have w:k<(dB (marks nd l)).length:=by rw[AU,QB]; exact hlt
  have p:(dB (marks nd l))[k]?=some [.bool (l.contains (k:Int))]:=by have:=zP (n:=nd) (l:=l) (m:=(k:Int)) Om e;rw[a8G] at this;unfold dB;rw[a7J,this]; rfl
  cases N:l.contains (k:Int) with
  | true =>
   rw[N] at p d;rw[if_pos rfl] at d;simp only[go_sem,e,OS,x,p,w,a7I,OT,x4];refine i.append L.length (rows:=aY (scD l k)) (src:=[[.int .i64 k]]) (yF _ _ _ rfl) Sq (by unfold roomFor; rw[cY]; simp only[a6X,maxLen]; omega) fun v' H' M _=>?_;have y:aY (scD l k)++[[.int .i64 k]]=aY (scD l (k+1)):=by rw[d,zN]; rfl
   rw[y,a9H _ _ (a6S _),a9N] at M;simp only[go_sem,OU,wZz k];exact aD (k+1,v',H') ⟨hlt,M⟩ (by simp only; omega) Lq b_
  | false =>rw[N] at p d;rw[if_neg (by decide)] at d;rw[← d] at i;simp only[go_sem,e,OS,x,p,w,a7I,OT,OU,wZz k];exact aD (k+1,v,J) ⟨hlt,i⟩ (by simp only; omega) Lq b_
 ·have e:¬ (k:Int)<(nd:Nat):=Om;have:k=nd:=Om;subst this;simp only[go_sem,e];exact Up.up Lq (R v J i)
def eK (f:aE) (lv c:Int):Int:=if dS f&&(decide (1≤lv)&&decide (lv≤5)&&decide (1≤c)&&decide (c≤3)) then (if 12<f.a4Z.length∨512<cZ ((eX f lv).length:Nat) c.toNat then 2 else 0) else 1
def jM (f:aE) (lv c:Int):List (List Int):=if eK f lv c=0 then nK f (eX f lv) c.toNat else []
structure Hn (C:Ctx):Prop extends Hm C where
 val:∀ f:aE,f.Ok→aG C 96 [.agg f.cells] .nil (aF (.int .i64 (wH f)))
 units:∀ (f:aE) (lv:Int),VF f→1≤lv→lv≤5→aG C 206 [.agg f.cells,.int .i64 lv] .nil (aF (lay (eX f lv)))
 choose:∀ m n:Nat,m≤1000→n≤3→aG C 207 [.int .i64 m,.int .i64 n] .nil (aF (.int .i64 (max (cZ m n) 0)))
theorem LN {f:aE} (hV:VF f) (lv:Int):UOk f.a4Z.length (eX f lv)∧(eX f lv).length≤40:=by
 have B:=hV.small.a4Z;have q:=hV.small.a5C;by_cases c:lv=5
 ·subst c;rw[Dy];refine⟨⟨by simp; omega,fun u l=>?_⟩,by simp; omega⟩;obtain⟨d,e,rfl⟩:=a7N.1 l;rw[a7P] at e;refine⟨by simp,fun x p=>?_⟩;rw[a9A] at p;omega
 ·rw[c9 f c];have w:(nT f lv f.a4Z.length).length≤40:=by rw[ou];exact a7U (baF ..) (by simp; omega)
  refine⟨⟨by omega,fun u l=>?_⟩,w⟩;obtain⟨i,-,rfl⟩:=a7N.1 l;refine⟨by rw[eF]; have:=jl f lv f.a4Z.length i; omega,fun x p=>?_⟩;obtain⟨y,A,rfl⟩:=a7N.1 p;have:=a7P.1 (List.mem_filter.1 A).1;omega
theorem aVQ (U:List (List Int)) (s:List Nat) (nd:Nat):scD (mZ U s) nd=bK ((a6L nd).filter (iW U s)):=by
 unfold scD;congr 2;funext d;exact Wy U s d
instance upDone {R:PH→Prop}:Up (BA R):=⟨fun {e F c H} _ h=>by cases e<;>exact h⟩
def Hu (d e:Nat) (U:List (List Int)) (i:List (List Int)) (G:PH):Prop:=∃ c ps,aN G [(d,.rows 1 [[c]]),(e,.rows 1 [[lay U]])] (dL c ps)∧wls ps=i
theorem U7 {C:Ctx} (f:aE) (hV:VF f) (U:List (List Int)) (hU:UOk f.a4Z.length U) (X:U.length≤40) (n:Nat) (α:1≤n) (hn:n≤3) (B l:Nat) (F:PF) (f2:F 2=some (.bG f.cells)) (f6:F 6=some (.ptr B 1 0 0)) (f7:F 7=some (.ptr l 1 0 0)) (k:Nat) (Y:k<(cM U.length n 0).length) (G:PH) (c:Nat)
  (hI:Hu l B U (((cM U.length n 0).take k).map fun s=>bK ((a6L f.a4Z.length).filter (iW U s))) G) (hc:G c=none) :
  ON.wp C (fV C (OO.wp C) (BA (Hu l B U (((cM U.length n 0).take (k+1)).map fun s=>bK ((a6L f.a4Z.length).filter (iW U s)))))) (F.set 61 (.osl c 1 0 n)) (G.set c (.rows 1 (aY (bK (cM U.length n 0)[k])))):=by
 obtain⟨u,ps,hH,Z⟩:=hI;have y:=hV.small;have M:(f.a4Z.length:Int)*((1:Nat):Int)≤140737488355328:=by have:=y.a4Z; omega
 have N:(f.a4Z.length:Int)≤9223372036854775807:=by have:=y.a4Z; omega
 have d:(0:Int)≤(f.a4Z.length:Int):=Om;have Q:=mI U.length n 0 _ (a6M Y);have R:(cM U.length n 0).take (k+1)=(cM U.length n 0).take k++[(cM U.length n 0)[k]]:=a8E Y;have β:ps.length≤1099511627776:=by
  rw[← uM,Z,a6K,a7D];have h1:=pL U.length n 0;have V:2 ^ (U.length-0)≤2 ^ 40:=a9J Om Om;have e:(2:Nat) ^ 40=1099511627776:=by decide
  omega
 generalize (cM U.length n 0)[k]=s at *
 obtain⟨sl,J,-⟩:=Q;rw[R,a7L,← Z];have V:=hH.new hc (.rows 1 (aY (bK s)));simp only[go_sem,ON,I3,OO,I4,f2,a6K,M,N,d,Int.le_refl,a8G];refine aR fun S O=>?_;rw[OD];have h3:=V.new O (.rows 1 (dB (marks f.a4Z.length [])));simp only[go_sem,xp];have mk:=fun {K:bQ} [Up K] {F:PF} {H:PH}=>U6 (C:=C) (K:=K) B l S c f.a4Z.length n (.bG f.cells) u U hU s sl (fun x hx=>(J x hx).2) Om (F:=F) (H:=H) (L:=dL u ps);refine mk h3 (by (repeat' (first|exact c_|refine d_ ?_ ?_))<;>first|(simp only[go_sem,f2,f6,f7]<;>rfl)|rfl) fun H1 h4=>?_;simp only[go_sem,xz,x2];have dr:=fun {K:bQ} [Up K] {F:PF} {H:PH}=>Iw (C:=C) (K:=K) B l S c f.a4Z.length (by have:=y.a4Z; omega) (.bG f.cells) u U s (mZ U s) (F:=F) (H:=H) (L:=dL u ps);refine dr h4 Lq fun v H2 h5=>?_;have W:=h5.own (dL u ps).length (yF _ _ _ rfl);have E:=h5.at 0 rfl;rw[aVQ] at h5 W;generalize hD:bK ((a6L f.a4Z.length).filter (iW U s))=D at *
 have fin:∀ (i:Nat) (H':PH),aN H' (scB l B c S u U s f.a4Z.length (mZ U s)) ((dL u ps++[(v,1,aY D)]).set 0 (PV.osl i 1 0 (cV ps++[[v]]).length,1,cV ps++[[v]]))→Hu l B U (wls ps++[D]) (H'.set l (.rows 1 [[PV.osl i 1 0 (cV ps++[[v]]).length]])):=by
  intro i H' w;have h7:=w.set 0 rfl (cC.rows 1 [[PV.osl i 1 0 (cV ps++[[v]]).length]]);refine⟨PV.osl i 1 0 (cV ps++[[v]]).length,ps++[(v,D)],?_,?_⟩
  ·have e:dL (PV.osl i 1 0 (cV ps++[[v]]).length) (ps++[(v,D)])=(dL u ps++[(v,1,aY D)]).set 0 (PV.osl i 1 0 (cV ps++[[v]]).length,1,cV ps++[[v]]):=by unfold dL cV mG;rw[a7L,a7L];rfl
   rw[e];exact (h7.sF 3).sF 2
  ·unfold wls;rw[a7L]; rfl
 have p:roomFor (cV ps).length 1 24:=by unfold roomFor; rw[kM]; simp only[maxLen]; omega
 rcases W with ⟨-,rfl⟩ | ⟨q,rs,rfl,-,-,-⟩
 ·simp only[go_sem,OV,E,a6V,a7G,or_false,forall_eq];refine h5.append 0 (rows:=cV ps) (src:=[[PV.aB]]) rfl Sq p fun v' H' w A=>?_;obtain⟨i,rfl⟩:=A (by simp);have d:=w.at 0 rfl;simp only[go_sem,d,a6V,a7G,or_false,forall_eq];exact fin i H' w
 ·simp only[go_sem,OV,E,a6V,a7G,or_false,forall_eq];refine h5.append 0 (rows:=cV ps) (src:=[[PV.osl q 1 0 (aY D).length]]) rfl Sq p fun v' H' w A=>?_;obtain⟨i,rfl⟩:=A (by simp);have d:=w.at 0 rfl;simp only[go_sem,d,a6V,a7G,or_false,forall_eq];exact fin i H' w
abbrev pS (lv c:Int):PV:=.agg [.int .i64 lv,.int .i64 c]
theorem aDN {C:Ctx} (J:Hn C) (K M:Code) (f:aE) (hf:f.Ok) (lv d:Int) :
  (GR K M).wp C (aV (aiU K M).res (bX (.tup [lay (jM f lv d),.int .i64 (eK f lv d)]))) (PF.args [.agg f.cells,pS lv d]) .nil:=by
 have hB:jM f lv d=if eK f lv d=0 then nK f (eX f lv) d.toNat else []:=rfl
 have O:eK f lv d=if dS f&&(decide (1≤lv)&&decide (lv≤5)&&decide (1≤d)&&decide (d≤3)) then (if 12<f.a4Z.length∨512<cZ ((eX f lv).length:Nat) d.toNat then 2 else 0) else 1:=rfl
 have hv:=J.val f hf;unfold wH at hv;have l:∀ (e:Int) (F:PF) (H:PH),e≠0→eK f lv d=e→F 4=some .aB→F 5=some (.int .i64 e)→aV [.tmp 4,.tmp 5] (bX (.tup [lay (jM f lv d),.int .i64 (eK f lv d)])) .ret F H:=by intro e F H he i h2 h3;rw[i,if_neg he] at hB;rw[hB,i];exact nB (H:=H) (.inr rfl) (by simp only[go_sem,h2,h3]) (show aN H [] (dL .aB []) from aN.sS aN.nil)
 have X:(dS f&&(decide (1≤lv)&&decide (lv≤5)&&decide (1≤d)&&decide (d≤3)))=false→eK f lv d=1:=fun h=>by rw[O,h]; rfl
 simp only[go_sem,GR,pO.wp,Ix,Iy,aiU];refine aA hv Ev ?_;cases hp:dS f with
 | false =>have i:=X (by rw[hp]; rfl);simp only[go_sem,dK (show (1:Int)≠0 by decide),tN];exact l 1 _ _ (by decide) i Sq Sq
 | true =>
  have hV:=VF.of hp;by_cases N:lv<1
  ·have i:=X (by rw[decide_eq_false (Om:¬ 1≤lv)]; simp);simp only[go_sem,cA (show (0:Int)=0 from rfl),N,tN];exact l 1 _ _ (by decide) i Sq Sq
  by_cases c2:lv>5
  ·have i:=X (by rw[decide_eq_false (Om:¬ lv≤5)]; simp);simp only[go_sem,cA (show (0:Int)=0 from rfl),N,c2,tN];exact l 1 _ _ (by decide) i Sq Sq
  by_cases c3:d<1
  ·have i:=X (by rw[decide_eq_false (Om:¬ 1≤d)]; simp);simp only[go_sem,cA (show (0:Int)=0 from rfl),N,c2,c3,tN];exact l 1 _ _ (by decide) i Sq Sq
  by_cases c4:d>3
  ·have i:=X (by rw[decide_eq_false (Om:¬ d≤3)]; simp);simp only[go_sem,cA (show (0:Int)=0 from rfl),N,c2,c3,c4,tN];exact l 1 _ _ (by decide) i Sq Sq
  obtain⟨n,rfl⟩:∃ n:Nat,d=n:=⟨d.toNat,by omega⟩;rw[hp,decide_eq_true (Om:1≤lv),decide_eq_true (Om:lv≤5),decide_eq_true (Om:(1:Int)≤(n:Int)),decide_eq_true (Om:(n:Int)≤3),a9Q,a9Q,a9Q,a9Q,if_pos rfl,a8G] at O;rw[a8G] at hB;obtain⟨hU,R⟩:=LN hV lv;have w:=J.units f lv hV Om Om;generalize eX f lv=U at *
  simp only[go_sem,cA (show (0:Int)=0 from rfl),N,c2,c3,c4,Iz];refine aA w Ev ?_;simp only[go_sem];refine aR fun q δ=>?_;simp only[go_sem,I0,a6K];by_cases c5:12<f.a4Z.length
  ·have i:eK f lv n=2:=by rw[O,if_pos (.inl c5)]
   simp only[go_sem,show (f.a4Z.length:Int)>12 by omega,YV];exact l 2 _ _ (by decide) i Sq Sq
  simp only[go_sem,show ¬ (f.a4Z.length:Int)>12 by omega];refine aA (J.choose U.length n Om Om) Ev ?_;by_cases c6:512<cZ (U.length:Nat) n
  ·have i:eK f lv n=2:=by rw[O,if_pos (.inr c6)]
   simp only[go_sem,show max (cZ (U.length:Nat) n) 0>512 by omega,YV];exact l 2 _ _ (by decide) i Sq Sq
  have i:eK f lv n=0:=by rw[O,if_neg (fun h=>h.elim c5 c6)]
  rw[i,if_pos rfl] at hB;rw[hB,i];simp only[go_sem,show ¬ max (cZ (U.length:Nat) n) 0>512 by omega,I1];refine aR fun p E=>?_;have ζ:¬ p=q:=by rintro rfl; rw[cN] at E; cases E
  have y:¬ q=p:=fun e=>ζ e.symm;simp only[go_sem,I2,y,a6K];refine kJ (J.subs n U.length) Sq a_ ?_;rintro r H' ⟨o1,o2,B,rfl,rfl⟩ γ;have α:∀ o x,(((PH.nil.set o1 (.rows 1 [[.int .i64 n]])).set o2 (.rows 1 [[.int .i64 (U.length:Nat)]])):PH) o=some x→¬ p=o∧¬ q=o:=fun o x h=>by
   have:=γ o x h rfl;refine⟨fun e=>?_,fun e=>?_⟩
   ·rw[← e,cN] at this; cases this
   ·rw[← e,aT,if_neg y,cN] at this; cases this
  obtain⟨V,Y⟩:=α o1 _ (by rw[aT,if_neg B,cN]);obtain⟨W,Z⟩:=α o2 _ (by rw[cN]);simp only[go_sem];generalize Q:PF.set _ 60 _=F;have f2:F 2=some (.bG f.cells):=by rw[← Q]; simp only[go_sem]
  have f6:F 6=some (.ptr q 1 0 0):=by rw[← Q]; simp only[go_sem]
  have f7:F 7=some (.ptr p 1 0 0):=by rw[← Q]; simp only[go_sem]
  have η:F 60=some (.fn 211 [.ptr o1 1 0 0,.ptr o2 1 0 0]):=by rw[← Q]; simp only[go_sem]
  clear Q;have A:nK f U n=((cM U.length n 0).take (cM U.length n 0).length).map fun s=>bK ((a6L f.a4Z.length).filter (iW U s)):=by rw[a7M]; rfl
  have u:aN ((PH.nil.set q (.rows 1 [[lay U]])).set p (.rows 1 [[.aB]])) [(p,.rows 1 [[.aB]]),(q,.rows 1 [[lay U]])] (dL .aB []):=((((aN.nil (H:=PH.nil)).new δ _).new E _).perm (List.Perm.swap _ _ _) (List.Perm.refl _)).sS;refine⟨211,[.ptr o1 1 0 0,.ptr o2 1 0 0],Hu p q U (nK f U n),rfl,fun hY=>?_,fun H2 β=>?_⟩
  ·rw[A];refine jm (m:=104) (t:=61) J.todz rfl Om Om Om B (fun k=>Hu p q U (((cM U.length n 0).take k).map fun s=>bK ((a6L f.a4Z.length).filter (iW U s)))) ((PH.nil.set q (.rows 1 [[lay U]])).set p (.rows 1 [[.aB]])) ⟨.aB,[],u,rfl⟩ ?_ ?_ ?_ ?_ ?_ hY fun k hk G c hI hc=>U7 f hV U hU R n Om Om q p F f2 f6 f7 k hk G c hI hc
   ·intro o x S;rw[gG];have e1:¬ o=o1:=fun e=>by rw[e,aT,if_neg (fun h=>V h.symm),aT,if_neg (fun h=>Y h.symm)] at S; cases S
    have e2:¬ o=o2:=fun e=>by rw[e,aT,if_neg (fun h=>W h.symm),aT,if_neg (fun h=>Z h.symm)] at S; cases S
    have:((PH.nil.set o1 (.rows 1 [[.int .i64 n]])).set o2 (.rows 1 [[.int .i64 (U.length:Nat)]]):PH) o=none:=by rw[aT,if_neg e2,aT,if_neg e1]; rfl
    rw[this];exact S
   ·rw[gG]; simp only[aT,if_neg B,if_true]
   ·rw[gG]; simp only[aT,if_true]
   ·rw[aT,if_neg (fun e=>V e.symm),aT,if_neg (fun e=>Y e.symm)]; rfl
   ·rw[aT,if_neg (fun e=>W e.symm),aT,if_neg (fun e=>Z e.symm)]; rfl
  ·obtain⟨vo,ps,hH,ε⟩:=β;have hb:=hH.at 0 rfl;simp only[go_sem,gk,x5,f7,hb];rw[← ε];exact nB (.inr rfl) Sq ((hH.sF 0).sF 0)
theorem U1 {set:List Int} {n top:Int} (h:mD set n top=true):set.Pairwise (· < ·):=by
 unfold mD at h;simp only[a7E,decide_eq_true_eq,a7B,a7P] at h;have c:∀ i (hi:i+1<set.length),set[i]<set[i+1]:=by
  intro i hi;have:=h.2 (i+1) hi;unfold kC at this;have g1:set.getD (i+1) 0=set[i+1]:=by simp[a7C,hi]
  have g2:set.getD (i+1-1) 0=set[i]:=by simp[a7C,show i<set.length by omega]
  rw[g1,g2] at this;simp only[a7E,Bool.or_eq_true,decide_eq_true_eq] at this;rcases this.2 with h | h
  ·omega
  ·exact h
 rw[List.pairwise_iff_getElem];intro i j hi q e;obtain⟨d,rfl⟩:∃ d,j=i+1+d:=⟨j-i-1,by omega⟩;clear e
 induction d with
 | zero=>exact c i q
 | succ d u =>have l:=u Om;have p:=c (i+1+d) Om;exact Int.lt_trans l p
theorem Vz {l:List Nat} (h:l.Pairwise (· < ·)):(bK l).Pairwise (· < ·):=by
 unfold bK;rw[List.pairwise_map];exact h.imp fun h=>by omega
theorem Rr {f:aE} (hV:VF f) (U:List (List Int)) (l:U.length≤40) (n:Nat):(nK f U n).length≤1099511627776∧∀ s∈nK f U n,s.length≤24∧s.Pairwise (· < ·):=by
 have p:=hV.small.a4Z;unfold nK;constructor
 ·rw[a6K];have d:=pL U.length n 0;have i:2 ^ (U.length-0)≤2 ^ 40:=a9J Om Om;have e:(2:Nat) ^ 40=1099511627776:=by decide
  omega
 ·intro s c;obtain⟨t,-,rfl⟩:=a7N.1 c;refine⟨?_,Vz (List.pairwise_lt_range.filter _)⟩;rw[eF];exact a7U (baF ..) (by simp; omega)
def lE (f:aE) (a5L:Int) (set:List Int) (lv c:Int):Int:=if eK f lv c≠0 then eK f lv c else if oK f a5L set then 0 else 1
def qY (f:aE) (a5L:Int) (set:List Int) (lv c:Int):Nat:=if lE f a5L set lv c=0 then sN (jM f lv c) set (fN f a5L).m else 0
structure aqF (C:Ctx):Prop extends Hn C where
 uG:∀ (f:aE) (lv cnt:Int),f.Ok→aG C 230 [.agg f.cells,pS lv cnt] .nil (aF (.tup [lay (jM f lv cnt),.int .i64 (eK f lv cnt)]))
 admis:∀ (f:aE) (a5L:Int) (set:List Int),f.Ok→set.length≤1000000000000000→aG C 204 [.agg f.cells,.int .i64 a5L,ints set] .nil (aF (.bool (oK f a5L set)))
 loss:∀ (sc:List (List Int)) (set:List Int) (m:Int),sc.length≤1000000000000000→(∀ s∈sc,s.length≤1000000000000000∧s.Pairwise (· < ·))→set.length≤1000000000000000→set.Pairwise (· < ·)→aG C 208 [lay sc,ints set,.int .i64 m] .nil (aF (.int .i64 (sN sc set m:Nat)))
theorem aiP {C:Ctx} (p:aqF C) (f:aE) (x:f.Ok) (a5L:Int) (set:List Int) (y:set.length≤1000000000000000) (lv d:Int) :
  zA.wp C (aV tk.res (aF (.tup [.int .i64 (qY f a5L set lv d:Nat),.int .i64 (lE f a5L set lv d)]))) (PF.args [.agg f.cells,.int .i64 a5L,ints set,pS lv d]) .nil:=by
 have hB:qY f a5L set lv d=if lE f a5L set lv d=0 then sN (jM f lv d) set (fN f a5L).m else 0:=rfl
 have e:lE f a5L set lv d=if eK f lv d≠0 then eK f lv d else if oK f a5L set then 0 else 1:=rfl
 simp only[go_sem,zA,ga,gb,tk];refine aA (p.uG f lv d x) Ev ?_;by_cases c:eK f lv d≠0
 ·rw[if_pos c] at e;rw[e,if_neg c] at hB;simp only[go_sem,GO,dK c,gd];refine aQ (.inr rfl) Ev ?_;rw[hB,e]; rfl
 have c:eK f lv d=0:=Decidable.not_not.1 c;rw[if_neg (fun h=>h c)] at e;simp only[go_sem,GO,c,cA (show (0:Int)=0 from rfl),ge];refine aA (p.admis f a5L set x y) Ev ?_;cases i:oK f a5L set with
 | false =>rw[i,if_neg (by decide)] at e;rw[e,if_neg (by decide)] at hB;simp only[go_sem,a7A,gf];refine aQ (.inr rfl) Ev ?_;rw[hB,e]; rfl
 | true =>
  rw[i,if_pos rfl] at e;rw[e,if_pos rfl] at hB;have u:fX f a5L=true∧mD set (fR (fN f a5L)) f.a4Z.length=true:=by unfold oK at i;simp only[a7E] at i;exact⟨i.1,i.2.1⟩
  obtain⟨hV,B,H,F⟩:=nH u.1;obtain⟨E,q⟩:=nA u.1;have l:(f.a5D.map bT.cells)[a5L.toNat]?=some (fN f a5L).cells:=by rw[a7J,q]; rfl
  have hlt:a5L<(f.a5D.length:Nat):=Om;have w:jM f lv d=nK f (eX f lv) d.toNat:=by unfold jM; rw[if_pos c]
  obtain⟨k1,k2⟩:=Rr hV (eX f lv) (LN hV lv).2 d.toNat;rw[← w] at k1 k2;simp only[go_sem,a6P,gg,B,hlt,a6K,l];refine aA (p.loss (jM f lv d) set (fN f a5L).m Om (fun s A=>⟨by have:=(k2 s A).1; omega,(k2 s A).2⟩) y (U1 u.2)) Ev ?_;simp only[go_sem];refine aQ (.inr rfl) Ev ?_;rw[hB,e]; rfl
def Au:Rg:=[iT 0 false]
def Av:Rg:=[iA 10 (.call 27 [(.const .aB),(Ci 1),(Ci 0)]),iA 1 (.alloc [zI,.aB,.aB,.aB,.aB,.aB,.aB]),iS 7 1 10]
def Aw:Rg:=[iO 12 7 1,iA 13 (.call 205 [(Tm 12),(Ci 0)]),iM 11 13,iE 14 11 0,iE 15 11 1,iM 2 14,iM 3 15]
def Ax:Rg:=[iO 17 7 1,iA 18 (.build [zI,zI] [(0,1,(Ci 5)),(1,1,(Ci 1))]),iK2 19 230 17 18,iM 16 19,iE 20 16 0,iE 21 16 1,iM 4 20,iM 5 21]
def Ay:Rg:=[iO 23 7 1,iA 24 (.a5F true 1 1 [zI] [(0,(Ci 0))]),iA 25 (.build [zI,zI] [(0,1,(Ci 1)),(1,1,(Ci 1))]),iA 26 (.call 209 [(Tm 23),(Ci 0),(Tm 24),(Tm 25)]),iM 22 26,iE 27 22 0,iE 28 22 1,iM 6 27,iM 7 28]
def Az:Rg:=[iO 30 7 1,iA 31 (.call 205 [(Tm 30),(Ci 5)]),iM 29 31,iE 32 29 0,iE 33 29 1,iM 8 32,iM 9 33]
def A0:Rg:=[iM 34 3,iC 35 .eql 34 0,iM 36 35,gM 37 2 36 true,iG 38 (.a5F true 1 1 [zI] [(0,(Ci 0))]) 36 true,iG 39 (.a5F true 1 1 [.aB] [(0,(Tm 38))]) 36 true,gK2 40 212 37 39 36 true,iP 41 36 40,iM 42 41,gM 43 5 42 true,gC 44 .eql 43 0 42 true,iP 45 42 44,iM 46 45,gM 47 4 46 true,iG 48 (.a5F true 1 1 [zI] [(0,(Ci 0))]) 46 true,iG 49 (.a5F true 1 1 [.aB] [(0,(Tm 48))]) 46 true,gK2 50 212 47 49 46 true,iP 51 46 50,iM 52 51,gM 53 7 52 true,gC 54 .eql 53 0 52 true,iP 55 52 54,iM 56 55,gM 57 6 56 true,gC 58 .eql 57 1 56 true,iP 59 56 58,iM 60 59,gM 61 9 60 true,gC 62 .eql 61 1 60 true,iP 63 60 62,iM 0 63]
def CU:aC:=(sq Au (sq Av (sq Aw (sq Ax (sq Ay (sq Az (sq A0 .ret)))))))
def atI:List Nat:=[24,38,39,48,49]
def O0:aS:=⟨0,64,CU,[.tmp 0]⟩
def A3:Rg:=[iA 4 (.alloc [zI,zI])]
def A4:Rg:=[iM 5 0,iA 6 (.conv .i64 (Tm 5)),iC 7 .rem 6 5,iA 8 (.bin .add (Ci 1) (Tm 7)),iM 9 1,iA 10 (.conv .i64 (Tm 9)),iC 11 .rem 10 3,iA 12 (.bin .add (Ci 1) (Tm 11)),iA 13 (.build [zI,zI] [(0,1,(Tm 8)),(1,1,(Tm 12))]),iS 2 4 13]
def DH:aC:=(sq A3 (sq A4 .ret))
def atL:List Nat:=[]
def Pm:aS:=⟨2,14,DH,[.cell 4 (some 2)]⟩
def acC:Rg:=[iA 5 (.box true (Tm 0)),iT 10 false]
def acD:Rg:=[iF 20 1 5,iL 21 20,iN 22 21,iF 23 2 5,iL 24 23,iN 25 24,iB 26 .add 22 25,iF 27 5 5,iL 28 27,iN 29 28,iB 30 .add 26 29,iC 31 .gtr 30 12,iM 32 31,gF 33 3 5 32 false,gL 34 33 32 false,gN 35 34 32 false,gC 36 .gtr 35 30 32 false,iQ 37 32 36,iM 38 37,gF 39 4 5 38 false,gL 40 39 38 false,gN 41 40 38 false,gC 42 .gtr 41 20 38 false,iQ 43 38 42,iM 44 43,gF 45 6 5 44 false,gL 46 45 44 false,gN 47 46 44 false,gC 48 .gtr 47 10 44 false,iQ 49 44 48,iM 50 49,gM 51 2 50 false,gN 52 51 50 false,gC 53 .gtr 52 30 50 false,iQ 54 50 53]
def va:Rg:=[iA 55 (.call 222 []),iM 10 55]
def acE:Rg:=[iM 56 3,iM 57 4,iA 58 (.build [zI,zI] [(0,1,(Tm 56)),(1,1,(Tm 57))]),iA 11 (.alloc [zI,zI]),iS 2 11 58]
def acF:Rg:=[iO 60 7 5,iM 61 1,iK2 62 205 60 61,iM 59 62,iE 63 59 0,iE 64 59 1,iM 12 63,iM 13 64]
def acG:Rg:=[iO 66 7 5,iM 67 1,iK2 68 216 66 67,iM 65 68,iE 69 65 0,iE 70 65 1,iM 14 69,iM 15 70]
def acH:Rg:=[iO 72 7 5,iM 73 1,iM 74 2,iO 75 2 11,iA 76 (.call 209 [(Tm 72),(Tm 73),(Tm 74),(Tm 75)]),iM 71 76,iE 77 71 0,iE 78 71 1,iM 16 77,iM 17 78]
def acI:Rg:=[iO 80 7 5,iM 81 1,iM 82 2,iO 83 2 11,iA 84 (.call 221 [(Tm 80),(Tm 81),(Tm 82),(Tm 83)]),iM 79 84,iE 85 79 0,iE 86 79 1,iM 18 85,iM 19 86]
def acJ:Rd:=[(iM 87 13,false),(iM 88 15,false),(iB 89 .eql 87 88,false),(iM 90 89,false),(gM 91 17 90 true,false),(gM 92 19 90 true,false),(gB 93 .eql 91 92 90 true,false),(iP 94 90 93,false),(iM 95 94,false),(gM 96 16 95 true,false),(gM 97 18 95 true,false),(gB 98 .eql 96 97 95 true,false),(iP 99 95 98,false),(iM 100 99,false),(gM 101 12 100 true,false),(gM 102 14 100 true,false),(gK2 103 212 101 102 100 true,true),(iP 104 100 103,false),(iM 105 104,false),(gO 106 7 5 105 true,false),(gM 107 1 105 true,false),(gM 108 2 105 true,false),(iG 109 (.call 204 [(Tm 106),(Tm 107),(Tm 108)]) 105 true,true),(gO 110 7 5 105 true,true),(gM 111 1 105 true,true),(gM 112 2 105 true,true),(iG 113 (.call 214 [(Tm 110),(Tm 111),(Tm 112)]) 105 true,true),(iG 114 (.eqb false (Tm 109) (Tm 113)) 105 true,false),(iP 115 105 114,false),(iM 116 115,false),(iG 117 (.call 222 []) 116 true,true),(iP 118 116 117,false),(iM 10 118,false)]
def QV:aC:=(sq acC (.seq (sq acD (.cond (Tm 54) (sq va .ret) .skip)) (sq acE (sq acF (sq acG (sq acH (sq acI (dq acJ .ret))))))))
def aQA:List Nat:=[5]
def alY:aS:=⟨5,119,QV,[.tmp 10]⟩
structure aML (C:Ctx):Prop where
 same1:∀ l:List Int,Fits l→aG C 94 [ints l,ints l] .nil (aF (.bool true))
 fleet:∀ (l:List Nat),(∀ x∈l,x<256)→l.length≤9223372036854775807→∀ a4Z a5B:Nat,a4Z≤60→a5B≤50 →
  aG C 27 [.sl 1 (mP l),.int .i64 a4Z,.int .i64 a5B] .nil (aF (.agg (kT (l.take 400) a4Z a5B 0).1.cells))
 all:∀ (f:aE) (a5L:Int),f.Ok→aG C 205 [.agg f.cells,.int .i64 a5L] .nil (aF (.tup [lay (sA f a5L),.int .i64 (oL f a5L)]))
 uG:∀ (f:aE) (lv cnt:Int),f.Ok→aG C 230 [.agg f.cells,pS lv cnt] .nil (aF (.tup [lay (jM f lv cnt),.int .i64 (eK f lv cnt)]))
 loss:∀ (f:aE) (a5L:Int) (set:List Int) (lv cnt:Int),f.Ok→set.length≤1000000000000000→aG C 209 [.agg f.cells,.int .i64 a5L,ints set,pS lv cnt] .nil (aF (.tup [.int .i64 (qY f a5L set lv cnt:Nat),.int .i64 (lE f a5L set lv cnt)]))
theorem aEG {C:Ctx} (same1:∀ l:List Int,Fits l→aG C 94 [ints l,ints l] .nil (aF (.bool true))) (a:List (List Int)) (i:a.length≤9000000000000000000) (e:∀ w∈a,w.length≤9000000000000000000) :
  HH.wp C (aV ajD.res (aF (.bool true))) (PF.args [lay a,lay a]) .nil:=by
 simp only[go_sem,HH,Jz,J0,ajD,a6K,cA (show (a.length:Int)=(a.length:Nat) from rfl),J1];refine wp_loop (α:=Nat) (fun k=>(((PF.nil.set 0 (lay a)).set 1 (lay a)).set 5 (.int .i64 k))) (fun _=>.nil) (fun k=>k≤a.length) (fun k=>a.length-k) 0 (a6Q _) Lq a_ ?_;intro k p;simp only[go_sem,Jy,J2,a6K];by_cases hlt:k<a.length
 ·have c:(k:Int)<(a.length:Nat):=Om;have d:(a.map fun w=>[ints w])[k]?=some [ints a[k]]:=by simp[hlt]
  have q:=e a[k] (a6M hlt);generalize a[k]=x at *
  simp only[go_sem,c];refine bV .nil (cyS (.bool true)) a_ ?_;simp only[go_sem,J3,d,a6K];refine bM rfl (same1 x Om) Sq a_ ?_;simp only[go_sem,a6P,J4,wZz k];exact aD (k+1) hlt Om Lq a_
 ·have c:¬ (k:Int)<(a.length:Nat):=Om;simp only[go_sem,c,J5];refine aQ (.inr rfl) Ev ?_;rfl
noncomputable def oT:aE:=(kT [] 1 0 0).1
theorem VC:oT.Ok:=aVF (by decide +kernel)
theorem c7:sA oT 0=[[0]]∧oL oT 0=0∧oL oT 5=1:=by decide +kernel
theorem Dh:jM oT 5 1=[[0]]∧eK oT 5 1=0:=by decide +kernel
theorem Dg:qY oT 0 [0] 1 1=1∧lE oT 0 [0] 1 1=0:=by decide +kernel
structure Hl (C:Ctx):Prop extends aML C where
 sets:∀ a:List (List Int),a.length≤9000000000000000000→(∀ w∈a,w.length≤9000000000000000000)→aG C 212 [lay a,lay a] .nil (aF (.bool true))
theorem atK {C:Ctx} (a b:Nat) (w:a<256) (x:b<256):DH.wp C (aV Pm.res (aF (pS (1+a%5:Nat) (1+b%3:Nat)))) (PF.args [.int .u8 a,.int .u8 b]) .nil:=by
 have e:IntKind.i64.wrap (a:Int)=a:=wrap_i64 Om Om;have i:IntKind.i64.wrap (b:Int)=b:=wrap_i64 Om Om;have c:Int.tmod (a:Int) 5=((a%5:Nat):Int):=by rw[Int.tmod_eq_emod_of_nonneg Om]; omega
 have d:Int.tmod (b:Int) 3=((b%3:Nat):Int):=by rw[Int.tmod_eq_emod_of_nonneg Om]; omega
 have l:IntKind.i64.wrap ((a%5:Nat):Int)=((a%5:Nat):Int):=wrap_i64 Om Om;have p:IntKind.i64.wrap ((b%3:Nat):Int)=((b%3:Nat):Int):=wrap_i64 Om Om;have q:IntKind.i64.wrap (1+((a%5:Nat):Int))=((1+a%5:Nat):Int):=by rw[wrap_i64 Om Om]; omega
 have u:IntKind.i64.wrap (1+((b%3:Nat):Int))=((1+b%3:Nat):Int):=by rw[wrap_i64 Om Om]; omega
 simp only[go_sem,DH,A3,Pm];refine aR fun o y=>?_;simp only[go_sem,A4,e,i,c,d,l,p,q,u,a6V,a7G,or_false,forall_eq,forall_eq_or_imp];refine aQ (.inr rfl) (vs:=[pS (1+a%5:Nat) (1+b%3:Nat)]) ?_ rfl;simp only[go_sem]
theorem atH {C:Ctx} (L:Hl C):CU.wp C (aV O0.res (aF (.bool true))) (PF.args []) .nil:=by
 have p:=L.fleet [] (fun x q=>by cases q) (by decide) 1 0 (by decide) (by decide);have c:aG C 27 [.sl 1 (mP []),.int .i64 (1:Nat),.int .i64 (0:Nat)] .nil (aF (.agg oT.cells)):=p;have d:=L.all oT 0 VC;rw[c7.1,c7.2.1] at d;have e:=L.uG oT 5 1 VC;rw[Dh.1,Dh.2] at e;have i:=L.loss oT 0 [0] 1 1 VC (by decide);rw[Dg.1,Dg.2] at i;have l:=L.all oT 5 VC;rw[c7.2.2] at l;have h5:=L.sets [[0]] (by decide) (by decide);generalize oT=f at *
 simp only[go_sem,CU,Au,Av,O0];refine aA (c.args (.aiT (.nil 1) (.aiT (.refl _) (.aiT (.refl _) .a2K)))) (by simp only[go_sem]; rfl) ?_;simp only[go_sem];refine aR fun o u=>?_;simp only[go_sem,Aw];refine aA d Sq ?_;simp only[go_sem,Ax];refine aA e Sq ?_;simp only[go_sem,Ay];refine aA i (by simp only[go_sem]; rfl) ?_;simp only[go_sem,Az];refine aA l Sq ?_;simp only[go_sem,A0,bH (show (0:Int)=0 from rfl)];refine aA h5 (by simp only[go_sem]; rfl) ?_;simp only[go_sem,bH (show (0:Int)=0 from rfl)];refine aA h5 (by simp only[go_sem]; rfl) ?_;simp only[go_sem,bH (show (0:Int)=0 from rfl),bH (show ((1:Nat):Int)=1 from rfl),bH (show (1:Int)=1 from rfl)];refine aQ (.inr rfl) Ev ?_;rfl
theorem Wi (n k a:Nat) (h:a<n):cM n (k+1) a=(cM n k (a+1)).map (a::·)++cM n (k+1) (a+1):=by
 rw[cM];by_cases c:n-k-a=0
 ·have d:n-k-(a+1)=0:=Om;rw[cM,c,d];have:cM n k (a+1)=[]:=by
   cases k with
   | zero=>omega
   | succ k=>rw[cM,show n-k-(a+1)=0 by omega]; rfl
  rw[this]; rfl
 ·obtain⟨m,e⟩:∃ m,n-k-a=m+1:=⟨n-k-a-1,by omega⟩;rw[cM,e,List.range'_succ,List.flatMap_cons,show n-k-(a+1)=m by omega]
def Grow (P:List Nat→Bool):Prop:=∀ s t:List Nat,(∀ x∈s,x∈t)→P s=true→P t=true
theorem Grow.cons {P:List Nat→Bool} (h:Grow P) (a:Nat):Grow fun s=>P (a::s):=fun s t c i =>
 h (a::s) (a::t) (fun x d=>(a6V.1 d).elim (fun e=>e ▸ List.mem_cons_self) fun d=>List.mem_cons_of_mem _ (c x d)) i
def gZ (n k a:Nat) (P:List Nat→Bool):Nat:=(cM n k a).countP P
theorem zC (n k a:Nat) (h:a<n) (P:List Nat→Bool):gZ n (k+1) a P=gZ n k (a+1) (fun s=>P (a::s))+gZ n (k+1) (a+1) P:=by
 unfold gZ;rw[Wi n k a h,List.countP_append,List.countP_map];rfl
theorem aqT (n k a:Nat) {P Q:List Nat→Bool} (h:∀ s,P s=true→Q s=true):gZ n k a P≤gZ n k a Q:=List.countP_mono_left fun s _ c=>h s c
theorem CG (n a:Nat) (P:List Nat→Bool):gZ n 0 a P=if P [] then 1 else 0:=by
 unfold gZ; rw[cM,List.countP_cons,List.countP_nil,a7I]
theorem GP (n:Nat):∀ (m k a:Nat) (P:List Nat→Bool),Grow P→a+m=n→(m-k)*gZ n k a P≤(k+1)*gZ n (k+1) a P
 | 0,k,a,P,_,_=>by rw[Nat.zero_sub,Nat.zero_mul]; exact a6Q _
 | m+1,0,a,P,d,h=>by
  rw[zC n 0 a Om,CG,CG];have l:=GP n m 0 (a+1) P d Om;rw[CG] at l;cases i:P [] with
  | false=>rw[if_neg (by simp)]; omega
  | true =>have p:P [a]=true:=d [] [a] (fun x e=>by cases e) i;rw[if_pos i] at l;rw[if_pos rfl,if_pos p];omega
 | m+1,k+1,a,P,d,h=>by
  have A:=GP n m (k+1) (a+1) P d Om;have B:=GP n m k (a+1) (fun s=>P (a::s)) (d.cons a) Om;have q:=aqT n (k+1) (a+1) (P:=P) (Q:=fun s=>P (a::s)) fun s u=>d s (a::s) (fun x e=>List.mem_cons_of_mem _ e) u;rw[zC n k a Om,zC n (k+1) a Om];generalize gZ n (k+1) (a+1) P=x at *
  generalize gZ n (k+1+1) (a+1) P=y at *
  generalize gZ n k (a+1) (fun s=>P (a::s))=z at *
  generalize gZ n (k+1) (a+1) (fun s=>P (a::s))=w at *
  rw[show m+1-(k+1)=m-k by omega,a6Z,a6Z];have E:(m-k)*x≤(m-(k+1))*x+x:=by
   rcases a7H k m with c | c
   ·rw[show m-k=(m-(k+1))+1 by omega,a9O]; exact a6S _
   ·rw[show m-k=0 by omega,Nat.zero_mul]; exact a6Q _
  have F:(k+1+1)*w=(k+1)*w+w:=a9O _ _;omega
theorem aDL {n k:Nat} {P:List Nat→Bool} (e:Grow P) (h:2*k+1≤n):gZ n k 0 P≤gZ n (k+1) 0 P:=by
 have c:=GP n n k 0 P e Om;have d:(k+1)*gZ n k 0 P≤(n-k)*gZ n k 0 P:=a7R _ Om;exact Nat.le_of_mul_le_mul_left (a7U d c) Om
theorem Np (f:aE) (u:List (List Int)) (k:Nat) (set:List Int) (m:Int):sN (nK f u k) set m=gZ u.length k 0 fun s=>decide (((iH (bK ((a6L f.a4Z.length).filter (iW u s))) set:Nat):Int)>m):=by
 unfold sN nK gZ;rw[List.countP_map];rfl
theorem asU {f:aE} {u:List (List Int)} {k:Nat} {set:List Int} {m:Int} (h:2*k+1≤u.length):sN (nK f u k) set m≤sN (nK f u (k+1)) set m:=by
 rw[Np,Np];refine aDL (fun s t l q=>?_) h;have w:=of_decide_eq_true q;refine decide_eq_true ?_;have:iH (bK ((a6L f.a4Z.length).filter (iW u s))) set≤iH (bK ((a6L f.a4Z.length).filter (iW u t))) set:=by unfold iH;refine List.countP_mono_left fun d _ e=>?_;rw[List.contains_iff_mem] at e ⊢;unfold bK at e ⊢;rw[a7N] at e ⊢;obtain⟨x,c,rfl⟩:=e;refine⟨x,?_,rfl⟩;rw[List.mem_filter] at c ⊢;refine⟨c.1,?_⟩;unfold iW at c ⊢;rw[List.any_eq_true] at c ⊢;obtain⟨-,i,hi,p⟩:=c;exact⟨i,l i hi,p⟩
 omega
def lvC (L:Int) (ds:List cE):Nat:=ds.countP fun x=>decide (x.level=L)
theorem aFU (f:aE) (L:Int):((a6L f.a5C.length).filter fun i=>decide (lvl f i=L)).length=lvC L f.a5C:=by
 rw[← List.countP_eq_length_filter];unfold lvC lvl;have c:∀ (ds:List cE),(a6L ds.length).countP (fun i=>decide ((ds.map cE.level).getD i 0=L))=ds.countP fun x=>decide (x.level=L):=by
  intro ds
  induction ds with
  | nil=>rfl
  | cons d ds e =>rw[a8D,List.range_succ_eq_map,List.countP_cons,List.countP_map,List.countP_cons,← e];rfl
 exact c f.a5C
theorem Im:∀ m:Fin 10,∀ c:Fin 4,cZ (m.val:Int) c.val≤512:=by decide
theorem aBA (f:aE) (lv:Int):(eX f lv).length=if lv=5 then f.a4Z.length else lvC lv f.a5C:=by
 unfold eX;split
 ·simp
 ·rw[a6K]; exact aFU f lv
structure AR (f:aE):Prop where
 ok:f.Ok
 valid:dS f=true
 a4Z:f.a4Z.length≤9
 lv:∀ L:Int,1≤L→L≤4→lvC L f.a5C≤8
theorem AR.num {f:aE} (h:AR f) {lv:Int} (c:1≤lv) (h5:lv≤5):(eX f lv).length≤9:=by
 rw[aBA];split
 ·exact h.a4Z
 ·have:=h.lv lv c Om; omega
theorem AR.uG {f:aE} (h:AR f) {lv:Int} (d:1≤lv) (h5:lv≤5) {c:Nat} (i:1≤c) (l:c≤3):eK f lv c=0:=by
 have p:=h.num d h5;have e:=Im ⟨(eX f lv).length,by omega⟩ ⟨c,by omega⟩;simp only at e;unfold eK;rw[h.valid,decide_eq_true d,decide_eq_true h5,decide_eq_true (Om:(1:Int)≤(c:Int)),decide_eq_true (Om:(c:Int)≤3),a9Q,a9Q,a9Q,a9Q,if_pos rfl,a8G,if_neg];have:=h.a4Z;omega
theorem AR.all {f:aE} (h:AR f) {p:Int} (d:fX f p=true):oL f p=0∧sA f p=nM f (fN f p):=by
 have c:oL f p=0:=by unfold oL;rw[d,if_pos rfl,if_neg];have:=h.a4Z;omega
 exact⟨c,by unfold sA; rw[if_pos c]⟩
theorem aCP {s:List Nat} {n top:Nat} (l:s.length=n) (p:∀ x∈s,x<top) (q:s.Pairwise (· < ·)):mD (bK s) n top=true:=by
 unfold mD;rw[eF,l,decide_eq_true rfl,a6W];simp only[a7B,a7P];intro i hi;have d:i<s.length:=Om;have g:(bK s).getD i 0=(s[i]:Nat):=by unfold bK; simp[a7C,d]
 unfold kC;rw[g];have u:=p _ (a6M d);simp only[a7E,Bool.or_eq_true,decide_eq_true_eq];refine⟨by omega,?_⟩;by_cases c:i=0
 ·exact .inl c
 ·right;have e:i-1<s.length:=Om;have g2:(bK s).getD (i-1) 0=(s[i-1]:Nat):=by unfold bK; simp[a7C,e]
  rw[g2];have:=List.pairwise_iff_getElem.1 q (i-1) i e d Om;omega
theorem aHU {f:aE} {p:Int} (c:fX f p=true) {set:List Int} (h:set∈nM f (fN f p)):oK f p set=true∧set.length≤8:=by
 obtain⟨hV,-⟩:=nH c;have d:=hV.a5L _ (nA c).1;unfold nM at h;rw[List.mem_filter] at h;obtain⟨i,l⟩:=h;obtain⟨s,q,rfl⟩:=a7N.1 i;obtain⟨k1,k2,w⟩:=mI _ _ _ _ q;have e:((fR (fN f p)).toNat:Int)=fR (fN f p):=by unfold fR; omega
 have:=aCP k1 (fun x u=>(k2 x u).2) w;rw[e] at this;refine⟨by unfold oK; rw[c,this,l]; rfl,?_⟩;rw[eF,k1];unfold fR; omega
theorem AR.more {f:aE} (h:AR f) {p:Int} (u:fX f p=true) {lv:Int} (i:1≤lv) (h5:lv≤5) {c:Nat} (q:1≤c) (y:c≤2) (w:2*c+1≤(eX f lv).length) {set:List Int} (x:set∈nM f (fN f p)) :
  lE f p set lv c=0∧lE f p set lv ((c+1:Nat):Int)=0∧qY f p set lv c≤qY f p set lv ((c+1:Nat):Int):=by
 have s1:=h.uG i h5 q (Om:c≤3);have s2:=h.uG i h5 (Om:1≤c+1) (Om:c+1≤3);obtain⟨l,-⟩:=aHU u x;have d:lE f p set lv c=0:=by unfold lE; rw[s1,l]; rfl
 have e:lE f p set lv ((c+1:Nat):Int)=0:=by unfold lE; rw[s2,l]; rfl
 refine⟨d,e,?_⟩;unfold qY jM;rw[if_pos d,if_pos e,if_pos s1,if_pos s2,a8G,a8G];exact asU w
structure aqE (C:Ctx):Prop extends Hl C where
 Gl:aG C 222 [] .nil (aF (.bool true))
 fails:∀ a b:Nat,a<256→b<256→aG C 223 [.int .u8 a,.int .u8 b] .nil (aF (pS (1+a%5:Nat) (1+b%3:Nat)))
def chT (n k a i:Nat):List (List Nat):=(a8K a (i-a)).flatMap fun x=>(cM n k (x+1)).map (x::·)
theorem aDF (n k a:Nat):chT n k a a=[]:=by unfold chT; rw[a9N]; rfl
theorem aDE (n k a:Nat) {i:Nat} (h:a≤i):chT n k a (i+1)=chT n k a i++(cM n k (i+1)).map (i::·):=by
 unfold chT;rw[show i+1-a=(i-a)+1 by omega,List.range'_concat,List.flatMap_append,Nat.one_mul,show a+(i-a)=i by omega];simp
theorem aDD (n k a i:Nat) (h:i=a∨i≤n-k) (c:n≤i+k):chT n k a i=cM n (k+1) a:=by
 unfold chT;rw[cM,show i-a=n-k-a by omega]
theorem aUA (n k a:Nat) {i:Nat} (h:a≤i) (e:i+k<n):(chT n k a (i+1)).length≤(cM n (k+1) a).length:=by
 obtain⟨d,c⟩:∃ d,n-k-a=(i+1-a)+d:=⟨n-k-a-(i+1-a),by omega⟩;unfold chT;rw[cM,c,← List.range'_append (s:=a) (m:=i+1-a) (n:=d) (step:=1),List.flatMap_append,a6T];omega
def fI (l:List (List Nat)):List (List Int):=l.map bK
theorem Oz (a b:List (List Nat)):fI (a++b)=fI a++fI b:=a7L
theorem l7 {C:Ctx} (k a n:Nat) (hk:k≤10) (ha:a≤1000) (hn:n≤40) (rec:∀ E X:Nat,E≤1000→k=X+1→aG C 215 [.int .i64 E,.int .i64 n,.int .i64 X] .nil (aF (lay (fI (cM n X E))))) :
  sZ.wp C (aV UX.res (bX (lay (fI (cM n k a))))) (PF.args [.int .i64 a,.int .i64 n,.int .i64 k]) .nil:=by
 cases k with
 | zero =>simp only[go_sem,sZ,KE,KF,bH (show ((0:Nat):Int)=0 from rfl),l8,UX];refine bA (.inr rfl) .nil (vs:=[.sl 1 [[.aB]]]) Sq a_ ⟨?_,rfl⟩;exact (nO.nil.snoc (u:=.aB) (w:=[]) (.inr ⟨rfl,rfl⟩)).co
 | succ k =>
  have M:=fun (E:Nat) (h:E≤1000)=>rec E k h rfl;clear rec;have ζ:=pL n (k+1) a;have Z:2 ^ (n-a)≤2 ^ 40:=a9J Om Om;have β:(2:Nat) ^ 40=1099511627776:=by decide
  have wk:IntKind.i64.wrap (((k+1:Nat):Int)-1)=(k:Int):=by rw[wrap_i64 Om Om]; omega
  simp only[go_sem,sZ,KE,KF,bF (Om:((k+1:Nat):Int)≠0),l9,ma,UX];refine wp_loop (α:=Nat × PV × WPs × PH) (fun s=>((((PF.nil.set 1 (.int .i64 n)).set 2 (.int .i64 (k+1:Nat))).set 7 (s.2.1)).set 8 (.int .i64 s.1))) (fun s=>s.2.2.2) (fun s=>a≤s.1∧(s.1=a∨s.1≤n-k)∧wls s.2.2.1=fI (chT n k a s.1)∧aN s.2.2.2 [] (dL s.2.1 s.2.2.1)) (fun s=>n-s.1) (a,.aB,[],.nil) ⟨a6S _,.inl rfl,by simp only; rw[aDF]; rfl,aN.sS aN.nil⟩ Lq b_ ?_;rintro⟨i,Q,ps,H⟩ ⟨A,K,p,y⟩;simp only at A K p y;have wi:IntKind.i64.wrap ((i:Int)+((k+1:Nat):Int))=(i:Int)+((k+1:Nat):Int):=wrap_i64 Om Om;simp only[go_sem,WY,mb,wi];by_cases c:i+(k+1)≤n
  ·have S:(i:Int)+((k+1:Nat):Int)≤(n:Nat):=Om;have d:=aDE n k a A;have J:=aUA n k a A (Om:i+k<n);have hr:=M (i+1) Om;have F:=mI n k (i+1);generalize cM n k (i+1)=R at *
   have γ:R.length≤1099511627776:=by rw[d,a6T,a6K] at J;omega
   simp only[go_sem,S,me,wZz i,wk];refine aA hr Sq ?_;simp only[go_sem,mf];refine wp_loop (α:=Nat × PV × WPs × PH) (fun s=>((((((PF.nil.set 1 (.int .i64 n)).set 2 (.int .i64 (k+1:Nat))).set 7 (s.2.1)).set 8 (.int .i64 i)).set 9 (lay (fI R))).set 10 (.int .i64 s.1))) (fun s=>s.2.2.2) (fun s=>s.1≤R.length∧wls s.2.2.1=fI (chT n k a i++(R.take s.1).map (i::·))∧aN s.2.2.2 [] (dL s.2.1 s.2.2.1)) (fun s=>R.length-s.1) (0,Q,ps,H) ⟨a6Q _,by simp only; rw[p]; simp,y⟩ Lq b_ ?_;clear p y;rintro⟨j,Q,ps,H⟩ ⟨hj,p,y⟩;simp only at hj p y;have B:(fI R).length=R.length:=a6K _;simp only[go_sem,WX,mg,a6K,B];by_cases x:j<R.length
   ·have l:(j:Int)<(R.length:Nat):=Om;have V:((fI R).map fun r=>[ints r])[j]?=some [ints (bK R[j])]:=by unfold fI; simp[x]
    have W:R.take (j+1)=R.take j++[R[j]]:=a8E x;have ε:=(F _ (a6M x)).1;have δ:ps.length≤1099511627776:=by have U:=congrArg List.length p;rw[uM] at U;unfold fI at U;rw[a6K,a6T,a6K,a7D] at U;rw[d,a6T,a6K] at J;omega
    generalize R[j]=r at *
    simp only[go_sem,l,mh];refine aR fun o ho=>?_;have h2:=y.alR (s:=1) (rows:=aY [(i:Int)]) ho;simp only[go_sem,l,B,a6K,V];refine h2.append (ps.length+1) (rows:=aY [(i:Int)]) (src:=aY (bK r)) (yF _ _ _ (BL _ _)) rfl (by unfold roomFor; rw[cY,cY,eF]; simp only[a6X,maxLen]; omega) fun v' H' O _=>?_;have N:aY [(i:Int)]++aY (bK r)=aY (bK (i::r)):=rfl;rw[N] at O;have hO:bP H' 1 v' (aY (bK (i::r))):=O.own (ps.length+1) (by rw[List.getElem?_set_self (by rw[a6T,BL]; simp)]);rcases hO with ⟨h0,-⟩ | ⟨q,rs,rfl,-,-,-⟩
    ·cases h0
    rw[a9H _ _ (by rw[BL]; exact a6S _),BL,a9N] at O;simp only[go_sem,a6V,a7G,or_false,forall_eq];refine O.append 0 (rows:=cV ps) (src:=[[PV.osl q 1 0 (aY (bK (i::r))).length]]) rfl Sq (by unfold roomFor; rw[kM]; simp only[a6X,maxLen]; omega) fun Y H2 h4 _=>?_;simp only[go_sem,WZ,wZz j];refine aD (j+1,Y,ps++[(PV.osl q 1 0 (aY (bK (i::r))).length,bK (i::r))],H2) ⟨x,?_,?_⟩ (by simp only; omega) (by (repeat' (first|exact c_|refine d_ ?_ ?_))<;>first|(simp only[go_sem,B]<;>rfl)|rfl) b_
    ·simp only;rw[W,a7L,← a7V,Oz,← p];unfold wls;rw[a7L]; rfl
    ·have e:dL Y (ps++[(PV.osl q 1 0 (aY (bK (i::r))).length,bK (i::r))])=((dL Q ps)++[(PV.osl q 1 0 (aY (bK (i::r))).length,1,aY (bK (i::r)))]).set 0 (Y,1,cV ps++[[PV.osl q 1 0 (aY (bK (i::r))).length]]):=by unfold dL cV mG;rw[a7L,a7L];rfl
     simp only;rw[e];exact h4
   ·have l:¬ (j:Int)<(R.length:Nat):=Om;have:j=R.length:=Om;subst this;rw[a7M,← d] at p;simp only[go_sem,l,XA,wZz i];exact aD (i+1,Q,ps,H) ⟨by simp only; omega,.inr (by simp only; omega),p,y⟩ (by simp only; omega) Lq b_
  ·have S:¬ (i:Int)+((k+1:Nat):Int)≤(n:Nat):=Om;rw[aDD n k a i K Om] at p;simp only[go_sem,S,XB];rw[← p];exact KJ (.inr rfl) Sq y
structure Gh (C:Ctx):Prop where
 allowed:∀ (f:aE) (p:bT) (d:Nat),VF f→Fits p.a5A→d<f.a4Z.length→aG C 77 [.agg p.cells,.agg f.cells,.int .i64 d] .nil (aF (.bool (p.a5A.contains ((mdl f d:Nat):Int))))
 count:∀ (f:aE) (row:List Int) (n:Nat),VF f→Gk f row→n<f.a5C.length→aG C 80 [.agg f.cells,ints row,.int .i64 n] .nil (aF (.int .i64 (row.countP (lD f n):Nat)))
 valid:∀ f:aE,f.Ok→aG C 67 [.agg f.cells] .nil (aF (.bool (dS f)))
def jT (f:aE) (p:bT) (set:List Int):Bool:=mD set (fR p) f.a4Z.length&&lH f p set
def jK (f:aE) (p:bT) (set:List Int) (i:Nat):Bool:=kC set f.a4Z.length i&&lT f p (set.getD i 0)
theorem Qp {f:aE} {p:bT} {set:List Int} (q:(set.length:Int)=fR p):jT f p set=((a6L set.length).all (jK f p set)&&gI f p set):=by
 unfold jT mD lH;rw[decide_eq_true q,a6W,← a9L];congr 1;have e:set.all (lT f p)=(a6L set.length).all fun i=>lT f p (set.getD i 0):=by
  rw[Bool.eq_iff_iff,a7B,a7B];constructor
  ·intro h i hi;have hi:=a7P.1 hi;have c:set.getD i 0=set[i]:=by simp[a7C,hi]
   rw[c]; exact h _ (a6M hi)
  ·intro h x u;obtain⟨i,hi,rfl⟩:=a9C u;have c:set.getD i 0=set[i]:=by simp[a7C,hi]
   have:=h i (a7P.2 hi)
   rwa [c] at this
 rw[e,Bool.eq_iff_iff,a7E,a7B,a7B,a7B];constructor
 ·rintro⟨d,l⟩ i hi;unfold jK; rw[d i hi,l i hi]; rfl
 ·intro h;refine⟨fun i hi=>?_,fun i hi=>?_⟩
  ·have:=h i hi; unfold jK at this; rw[a7E] at this; exact this.1
  ·have:=h i hi; unfold jK at this; rw[a7E] at this; exact this.2
theorem aQM {f:aE} {p:bT} {set:List Int} (c:(set.length:Int)=fR p) {i:Nat} (hi:i<set.length) (h:jK f p set i=false):jT f p set=false:=by
 rw[Qp c];have:(a6L set.length).all (jK f p set)=false:=by simp only[List.all_eq_false,a7P];exact⟨i,hi,by rw[h]; simp⟩
 rw[this,a6R]
theorem Qo (f:aE) (p:bT) (set:List Int) (k:Nat):(a6L (k+1)).all (jK f p set)=((a6L k).all (jK f p set)&&jK f p set k):=by
 rw[a9U,a9X]; simp
theorem V5 {C:Ctx} {K:bQ} [Up K] (L:Gh C) (f:aE) (hV:VF f) (p:bT) (set:List Int) (U:Gk f set) {F:PF} {H:PH}
  (M:(((((PF.nil.set 2 (ints set)).set 3 (.bG f.cells)).set 4 (.bG p.cells)).set 8 (.int .i64 1))).le F)
  (O:∀ x H',x 6=some (.bool false)→gI f p set=false→K .ret x H')
  (N:∀ x H',gI f p set=true→K (.exit 2) x H'):aC.wp C (.loop cl) K F H:=by
 have R:=hV.small.a5C;have u:=hV.root.1;refine wp_loop (α:=Nat) (fun k=>((((PF.nil.set 2 (ints set)).set 3 (.bG f.cells)).set 4 (.bG p.cells)).set 8 (.int .i64 k))) (fun _=>H) (fun k=>1≤k∧k≤f.a5C.length∧∀ i,1≤i→i<k→lK f p set i=true) (fun k=>f.a5C.length-k) 1 ⟨a6S _,u,fun i J X=>by omega⟩ M b_ ?_;rintro k ⟨J,Y,d⟩;simp only[go_sem,cl,Qq,a6K];by_cases hlt:k<f.a5C.length
 ·have c:(k:Int)<(f.a5C.length:Nat):=Om;have E:=hV.jR hlt;have V:0≤lvl f k:=E.1;have W:lvl f k<((5:Nat):Int):=Om;have l:=L.count f set k hV U hlt;have Q:eU f set k=((set.countP (lD f k):Nat):Int):=by unfold eU; rw[if_neg Om]
  rw[← Q] at l;have q:lK f p set k=!(decide (p.spread (lvl f k).toNat>0)&&decide (eU f set k>p.spread (lvl f k).toNat)):=by rw[lK,dV]
  have a5V:lK f p set k=true→∀ i,1≤i→i<k+1→lK f p set i=true:=fun h i B S=>by
   by_cases e:i=k
   ·rw[e]; exact h
   ·exact d i B Om
  have w:lK f p set k=false→gI f p set=false:=KX hlt;simp only[go_sem,c,Qr,eY hlt,sP hlt,V,W,Nat.mul_one];rw[Df p _ (Om:(lvl f k).toNat<5)];by_cases y:p.spread (lvl f k).toNat>0
  ·simp only[go_sem,cn,y];refine aA l Sq ?_;by_cases A:eU f set k>p.spread (lvl f k).toNat
   ·simp only[go_sem,A,Qs];exact O _ _ Sq (w (by rw[q,decide_eq_true y,decide_eq_true A]; rfl))
   ·simp only[go_sem,A,cp,wZz k];exact aD (k+1) ⟨by omega,hlt,a5V (by rw[q,decide_eq_false A,a7S]; rfl)⟩ Om Lq b_
  ·simp only[go_sem,cn,y,cp,wZz k];exact aD (k+1) ⟨by omega,hlt,a5V (by rw[q,decide_eq_false y]; rfl)⟩ Om Lq b_
 ·have c:¬ (k:Int)<(f.a5C.length:Nat):=Om;simp only[go_sem,c];refine N _ _ (ny hV fun i hi h=>d i ?_ Om);have:=hV.jR hi;rcases a8R i with e | e
  ·have:=this.2.2.2 e; omega
  ·omega
theorem aQN {C:Ctx} (L:Gh C) (f:aE) (hV:VF f) (p:bT) (H:Fits p.a5A) (hk:1≤p.k) (β:p.k≤6) (hm:0≤p.m) (γ:p.m≤4) (set:List Int) (hl:set.length≤1000000000000000) :
  RU.wp C (aV aHE.res (aF (.bool (jT f p set)))) (PF.args [.agg f.cells,.agg p.cells,ints set]) .nil:=by
 have hw:IntKind.i64.wrap (p.k+p.m)=p.k+p.m:=wrap_i64 Om Om;have M:fR p=p.k+p.m:=rfl;simp only[go_sem,RU,acY,acZ,aHE,a6K,hw];by_cases O:(set.length:Int)=p.k+p.m
 ·have w:(set.length:Int)=fR p:=by rw[M]; exact O
  simp only[go_sem,cA O,adB];refine wp_loop (α:=Nat) (fun k=>((((PF.nil.set 2 (ints set)).set 3 (.bG f.cells)).set 4 (.bG p.cells)).set 7 (.int .i64 k))) (fun _=>.nil) (fun k=>k≤set.length∧(a6L k).all (jK f p set)=true) (fun k=>set.length-k) 0 ⟨a6Q _,rfl⟩ Lq a_ ?_;rintro k ⟨hk,l⟩;by_cases hlt:k<set.length
  ·have c:(k:Int)<(set.length:Nat):=Om;have q:(set.map fun n=>[PV.int .i64 n])[k]?=some [.int .i64 set[k]]:=by simp[hlt]
   have S:set.getD k 0=set[k]:=by simp[a7C,hlt]
   have d:jK f p set k=(((decide (0≤set[k])&&decide (set[k]<(f.a4Z.length:Nat)))&&(decide (k=0)||decide (set.getD (k-1) 0<set[k])))&&lT f p set[k]):=by rw[jK,kC,S]
   have a5V:jK f p set k=true→(a6L (k+1)).all (jK f p set)=true:=fun h=>by rw[Qo,l,h]; rfl
   have e:=aQM (f:=f) (p:=p) w hlt;have fin:∀ (x:Int) (b:Bool),x=set[k]→0≤x→x<(f.a4Z.length:Nat)→aG C 77 [.agg p.cells,.agg f.cells,.int .i64 x] .nil (aF (.bool (lT f p x))):=fun x b _ h0 Q=>by have:=L.allowed f p x.toNat hV H Om;rw[show (x.toNat:Int)=x by omega] at this;exact this
   have fin:=fin set[k] true rfl;generalize set[k]=x at *
   simp only[go_sem,vm,vn,c,a6K];refine bV .nil (cyS (.bool (lT f p x))) a_ ?_;by_cases A:x<0
   ·simp only[go_sem,yK,q,c,A,a6K,yL];exact dP Sq (e (by rw[d,decide_eq_false (Om:¬ 0≤x)]; rfl)).symm
   by_cases N:x≥(f.a4Z.length:Nat)
   ·simp only[go_sem,yK,q,c,A,N,a6K,yL];exact dP Sq (e (by rw[d,decide_eq_false (Om:¬ x<(f.a4Z.length:Nat)),a7S]; rfl)).symm
   rw[decide_eq_true (Om:0≤x),decide_eq_true (Om:x<(f.a4Z.length:Nat)),a8V,a6W] at d;have B:=fin Om Om;by_cases W:k=0
   ·subst W;rw[decide_eq_true rfl,Bool.true_or,a6W] at d;simp only[go_sem,yK,q,c,A,N,a6K,show ¬ ((0:Nat):Int)>0 by omega];refine bM rfl B Sq a_ ?_;cases E:lT f p x with
    | true =>rw[E] at d;simp only[go_sem,a6P,vp,wZz 0];exact aD 1 ⟨hlt,a7B.1 (a5V d)⟩ Om Lq a_
    | false =>rw[E] at d;simp only[go_sem,a7A,yL];exact dP Sq (e d).symm
   obtain⟨j,rfl⟩:∃ j,k=j+1:=⟨k-1,by omega⟩;have Y:IntKind.i64.wrap (((j+1:Nat):Int)-1)=(j:Int):=by rw[wrap_i64 Om Om]; omega
   have J:j<set.length:=Om;have u:(j:Int)<(set.length:Nat):=Om;have K:(set.map fun n=>[PV.int .i64 n])[j]?=some [.int .i64 set[j]]:=by simp[J]
   have U:set.getD (j+1-1) 0=set[j]:=by simp[a7C,J]
   rw[U,decide_eq_false W,Bool.false_or] at d;generalize set[j]=y at *
   by_cases X:x≤y
   ·simp only[go_sem,yK,q,c,A,N,a6K,show ((j+1:Nat):Int)>0 by omega,Y,K,u,X,yL];exact dP Sq (e (by rw[d,decide_eq_false (Om:¬ y<x)]; rfl)).symm
   rw[decide_eq_true (Om:y<x),a6W] at d;simp only[go_sem,yK,q,c,A,N,a6K,show ((j+1:Nat):Int)>0 by omega,Y,K,u,X];refine bM rfl B Sq a_ ?_;cases E:lT f p x with
   | true =>rw[E] at d;simp only[go_sem,a6P,vp,cW (Om:j+1<9223372036854775807)];exact aD (j+1+1) ⟨hlt,a7B.1 (a5V d)⟩ Om Lq a_
   | false =>rw[E] at d;simp only[go_sem,a7A,yL];exact dP Sq (e d).symm
  ·have c:¬ (k:Int)<(set.length:Nat):=Om;have:k=set.length:=Om;subst this;have R:=Qp (f:=f) (p:=p) w;rw[l,a6W] at R;have hr:Gk f set:=⟨by omega,fun x hx=>by
    obtain⟨i,hi,rfl⟩:=a9C hx;have Q:=a7B.1 l i (a7P.2 hi);unfold jK kC at Q;have S:set.getD i 0=set[i]:=by simp[a7C,hi]
    rw[S] at Q;simp only[a7E,decide_eq_true_eq] at Q;omega⟩
   simp only[go_sem,vm,vn,c,a6K,adC];refine V5 (C:=C) L f hV p set hr Lq ?_ ?_
   ·intro Z H' h6 F;simp only[go_sem];exact dP h6 (R.trans F).symm
   ·intro Z H' V;simp only[go_sem,Qt];exact dP Sq (R.trans V).symm
 ·simp only[go_sem,dK O,adA];exact dP Sq (show jT f p set=false by unfold jT mD; rw[decide_eq_false (show ¬ (set.length:Int)=fR p from fun h=>O (by rw[h,M]))]; rfl).symm
structure d3 (C:Ctx):Prop extends Gh C where
 adm:∀ (f:aE) (p:bT) (set:List Int),VF f→Fits p.a5A→1≤p.k→p.k≤6→0≤p.m→p.m≤4→set.length≤1000000000000000→aG C 213 [.agg f.cells,.agg p.cells,ints set] .nil (aF (.bool (jT f p set)))
 choose:∀ k a n:Nat,k≤10→a≤1000→n≤40→aG C 215 [.int .i64 a,.int .i64 n,.int .i64 k] .nil (aF (lay (fI (cM n k a))))
def a1Q (name:Nat) (r d:PV):Spec:=fun c _=>if c=name then some ([],fun _=>aF r) else some ([],fun _=>aF d)
theorem auP {C:Ctx} (L:d3 C) (f:aE) (x:f.Ok) (a5L:Int) (set:List Int) (A:set.length≤1000000000000000) :
  DM.wp C (aV FX.res (aF (.bool (oK f a5L set)))) (PF.args [.agg f.cells,.int .i64 a5L,ints set]) .nil:=by
 have e:oK f a5L set=(fX f a5L&&jT f (fN f a5L) set):=rfl;have d:fX f a5L=(dS f&&(decide (0≤a5L)&&decide (a5L<f.a5D.length))):=rfl;simp only[go_sem,DM,Bw,FX];refine bV .nil (a1Q 67 (.bool (dS f)) (.bool (jT f (fN f a5L) set))) a_ ?_;simp only[go_sem,Bx];refine bM rfl (L.valid f x) Sq a_ ?_;cases y:dS f with
 | false =>rw[y,a6R] at d;rw[d,a6R] at e;simp only[go_sem];exact dP Sq e.symm
 | true =>
  rw[y,a6W] at d;by_cases u:a5L≥0
  ·rw[decide_eq_true (Om:0≤a5L),a6W] at d;by_cases q:a5L<(f.a5D.length:Nat)
   ·rw[decide_eq_true q] at d;rw[d,a6W] at e;obtain⟨hV,B,F,E⟩:=nH d;obtain⟨p,w⟩:=nA d;have c:=hV.a5L _ p;have l:=(x.a5L _ p).a5A;have i:(f.a5D.map bT.cells)[a5L.toNat]?=some (fN f a5L).cells:=by rw[a7J,w]; rfl
    simp only[go_sem,u,q,a6K,i];refine bM rfl (L.adm f (fN f a5L) set hV l c.1 c.2.1 c.2.2.1 c.2.2.2.1 A) Sq a_ ?_;simp only[go_sem];exact dP Sq e.symm
   ·rw[decide_eq_false q] at d;rw[d,a6R] at e;simp only[go_sem,u,q,a6K];exact dP Sq e.symm
  ·rw[decide_eq_false (Om:¬ 0≤a5L),a6R] at d;rw[d,a6R] at e;simp only[go_sem,u,a6K];exact dP Sq e.symm
theorem aHV {f:aE} (hV:VF f) (p:bT) (y:1≤p.k) (A:0≤p.m):nM f p=(fI (cM f.a4Z.length (fR p).toNat 0)).filter (jT f p):=by
 unfold nM fI;refine List.filter_congr fun x q=>?_;obtain⟨s,u,rfl⟩:=a7N.1 q;obtain⟨k1,k2,w⟩:=mI _ _ _ _ u;have e:((fR p).toNat:Int)=fR p:=by unfold fR; omega
 have h:mD (bK s) (fR p) f.a4Z.length=true:=by
  rw[← e];unfold mD;rw[eF,k1,decide_eq_true rfl,a6W];simp only[a7B,a7P];intro i hi;have d:i<s.length:=Om;have g:(bK s).getD i 0=(s[i]:Nat):=by unfold bK; simp[a7C,d]
  unfold kC;rw[g];have q:=(k2 _ (a6M d)).2;simp only[a7E,Bool.or_eq_true,decide_eq_true_eq];refine⟨by omega,?_⟩;by_cases c:i=0
  ·exact .inl c
  ·right;have l:i-1<s.length:=Om;have g2:(bK s).getD (i-1) 0=(s[i-1]:Nat):=by unfold bK; simp[a7C,l]
   rw[g2];have:=List.pairwise_iff_getElem.1 w (i-1) i l d Om;omega
 unfold jT;rw[h,a6W]
def mO (c:List (List Int)):List (List PV):=c.map fun w=>[ints w]
theorem SB (c:List (List Int)):(mO c).length=c.length:=a6K _
theorem V8 (d:List (List Int)):nO (mO d) d:=by
 refine⟨SB d,fun i r w c e=>.inl ?_⟩;unfold mO at c;rw[a7J,e] at c;injection c with c
 exact c.symm
theorem amH {res:List dQ} {F:PF} {H:PH} {i:PV} {d:List (List Int)} {c:Int} {e:jZ} (A:e=.normal∨e=.ret) (h:dQ.evs F H res=some [i,.int .i64 c]) (x:aN H [] [(i,1,mO d)]):aV res (bX (.tup [lists d,.int .i64 c])) e F H:=by
 have l:aN H [] ((i,1,mO d++cV [])::mG []):=by rw[show mO d++cV []=mO d from a8H _]; exact x
 obtain⟨φ,J,k1,-,B,-,E,-⟩:=zS [] (mO d) d (V8 d) l (fun b y=>by cases y);rw[show d++wls []=d from a8H _] at k1;refine yM A h ⟨_,_,.nil,E _,a_,φ (bO [i,.int .i64 c]),?_,?_⟩
 ·rw[yP,jS,if_pos rfl]; rfl
 ·show bX _ (φ (.tup [i,.int .i64 c])) .nil;rw[B];refine⟨.tup rfl fun j p q u w=>?_,rfl⟩
  match j with
  | 0=>cases u; cases w; exact k1
  | 1=>cases u; cases w; exact .refl _
  | j+2=>cases u
theorem aQP {C:Ctx} (L:d3 C) (f:aE) (hf:f.Ok) (a5L:Int) :
  RV.wp C (aV vq.res (bX (.tup [lay (sA f a5L),.int .i64 (oL f a5L)]))) (PF.args [.agg f.cells,.int .i64 a5L]) .nil:=by
 have hB:sA f a5L=if oL f a5L=0 then nM f (fN f a5L) else []:=rfl
 have l:oL f a5L=if fX f a5L then (if f.a4Z.length>12 then 2 else 0) else 1:=rfl
 have x:fX f a5L=(dS f&&(decide (0≤a5L)&&decide (a5L<f.a5D.length))):=rfl;have Q:∀ F:PF,fX f a5L=false→F 4=some .aB→F 5=some (.int .i64 1)→aV [.tmp 4,.tmp 5] (bX (.tup [lay (sA f a5L),.int .i64 (oL f a5L)])) .ret F .nil:=by intro F hk h1 h2;rw[hk,if_neg (by decide)] at l;rw[l,if_neg (by decide)] at hB;rw[hB,l];exact nB (.inr rfl) (by simp only[go_sem,h1,h2]) (aN.sS aN.nil)
 simp only[go_sem,RV,adD,adE,vq];refine aA (L.valid f hf) Ev ?_;cases hp:dS f with
 | false =>simp only[go_sem,a7A,UW];exact Q _ (by rw[x,hp]; rfl) Sq Sq
 | true =>
 rw[hp,a6W] at x;by_cases O:a5L<0
 ·simp only[go_sem,a6P,O,UW];exact Q _ (by rw[x,decide_eq_false (Om:¬ 0≤a5L)]; rfl) Sq Sq
 by_cases R:a5L≥(f.a5D.length:Nat)
 ·simp only[go_sem,a6P,O,R,a6K,UW];exact Q _ (by rw[x,decide_eq_false (Om:¬ a5L<(f.a5D.length:Nat)),a7S]) Sq Sq
 rw[decide_eq_true (Om:0≤a5L),decide_eq_true (Om:a5L<(f.a5D.length:Nat)),a9Q] at x;rw[x,if_pos rfl] at l;obtain⟨hV,h0,hm,he⟩:=nH x;obtain⟨N,U⟩:=nA x;have d:=hV.a5L _ N;have M:=(hf.a5L _ N).a5A;have K:(f.a5D.map bT.cells)[a5L.toNat]?=some (fN f a5L).cells:=by rw[a7J,U]; rfl
 by_cases c:f.a4Z.length>12
 ·rw[if_pos c] at l;rw[l,if_neg (by decide)] at hB;rw[hB,l];simp only[go_sem,a6P,O,R,a6K,vr,show (f.a4Z.length:Int)>12 by omega,adF];exact nB (.inr rfl) Sq (aN.sS aN.nil)
 rw[if_neg c] at l;rw[l,if_pos rfl,aHV hV _ d.1 d.2.2.1] at hB;rw[hB,l];clear hB l Q;generalize fN f a5L=p at *
 obtain⟨n,W⟩:∃ n:Nat,(n:Int)=fR p:=⟨(p.k+p.m).toNat,by unfold fR; omega⟩;have ε:1≤n∧n≤10:=by unfold fR at W; omega
 have hw:IntKind.i64.wrap (p.k+p.m)=(n:Int):=by rw[W]; exact wrap_i64 Om Om
 have hlt:a5L<(f.a5D.length:Nat):=Om;have V:=L.choose n 0 f.a4Z.length Om Om Om;have E:=fun (set:List Int) (hs:set.length≤1000000000000000)=>L.adm f p set hV M d.1 d.2.1 d.2.2.1 d.2.2.2.1 hs;have J:=mI f.a4Z.length n 0;have η:=pL f.a4Z.length n 0;have β:2 ^ (f.a4Z.length-0)≤2 ^ 12:=a9J Om Om;have γ:(2:Nat) ^ 12=4096:=by decide
 rw[← W,a8G];generalize cM f.a4Z.length n 0=S at *
 simp only[go_sem,a6P,O,R,a6K,vr,show ¬ (f.a4Z.length:Int)>12 by omega,adG,h0,hlt,K];refine aR fun q hq=>?_;simp only[go_sem,adH,adI,a6K,hw];refine aA V (by simp only[go_sem]; rfl) ?_;simp only[go_sem,adJ];have B:aN (PH.nil.set q (.rows 17 [p.cells])) [(q,.rows 17 [p.cells])] [(.aB,1,mO [])]:=((aN.nil (H:=PH.nil)).new hq _).mV 1;refine wp_loop (α:=Nat × PV × PH) (fun s=>(((((PF.nil.set 2 (.bG f.cells)).set 6 (.ptr q 17 0 0)).set 7 (s.2.1)).set 8 (lay (fI S))).set 9 (.int .i64 s.1))) (fun s=>s.2.2) (fun s=>s.1≤S.length∧aN s.2.2 [(q,.rows 17 [p.cells])] [(s.2.1,1,mO ((fI (S.take s.1)).filter (jT f p)))]) (fun s=>S.length-s.1) (0,.aB,_) ⟨a6Q _,B⟩ Lq b_ ?_;clear B hq;rintro⟨j,v,H⟩ ⟨hj,A⟩;simp only at hj A;have u:(fI S).length=S.length:=a6K _;simp only[go_sem,Qu,adK,a6K,u];by_cases w:j<S.length
 ·have e:(j:Int)<(S.length:Nat):=Om;have y:((fI S).map fun r=>[ints r])[j]?=some [ints (bK S[j])]:=by unfold fI; simp[w]
  have Y:S.take (j+1)=S.take j++[S[j]]:=a8E w;have ζ:=(J _ (a6M w)).1;generalize S[j]=r at *
  have i:(fI (S.take (j+1))).filter (jT f p)=(fI (S.take j)).filter (jT f p)++if jT f p (bK r) then [bK r] else []:=by rw[Y,Oz,List.filter_append];congr 1;unfold fI;by_cases cc:jT f p (bK r)<;>simp[cc]
  have δ:((fI (S.take j)).filter (jT f p)).length≤4096:=by refine a7U (baF ..) ?_;unfold fI;rw[a6K,a7D]; omega
  have X:=A.at 0 rfl;simp only[go_sem,e];refine bV .nil (cyS (.bool (jT f p (bK r)))) a_ ?_;simp only[go_sem,Qv,X,e,u,a6K,y];refine bM rfl (E (bK r) (by rw[eF]; omega)) Sq a_ ?_;cases hb:jT f p (bK r) with
  | true =>rw[hb,if_pos rfl] at i;simp only[go_sem,Qw,e,u,a6K,y];refine A.append 0 (rows:=mO ((fI (S.take j)).filter (jT f p))) (src:=[[ints (bK r)]]) rfl Sq (by unfold roomFor; rw[SB]; simp only[a6X,maxLen]; omega) fun v' H' Z _=>?_;simp only[go_sem,cq,wZz j];refine aD (j+1,v',H') ⟨w,?_⟩ (by simp only; omega) (by (repeat' (first|exact c_|refine d_ ?_ ?_))<;>first|(simp only[go_sem,u]<;>rfl)|rfl) b_;simp only;rw[i];unfold mO at Z ⊢;rw[a7L];exact Z
  | false =>rw[hb,if_neg (by decide),a8H] at i;simp only[go_sem,cq,wZz j];refine aD (j+1,v,H) ⟨w,?_⟩ (by simp only; omega) (by (repeat' (first|exact c_|refine d_ ?_ ?_))<;>first|(simp only[go_sem,u]<;>rfl)|rfl) b_;simp only;rw[i];exact A
 ·have e:¬ (j:Int)<(S.length:Nat):=Om;have:j=S.length:=Om;subst this;rw[a7M] at A;simp only[go_sem,e,Qx];exact amH (.inr rfl) Sq (A.sF 0)
structure d6 (C:Ctx):Prop extends d3 C where
 a4Z:∀ (f:aE) (dom:Int),f.Ok→aG C 81 [.agg f.cells,.int .i64 dom] .nil (aF (ints (FC f dom)))
 has:∀ (l:List Int) (x:Int),l.length≤1000000000000000→aG C 218 [ints l,.int .i64 x] .nil (aF (.bool (l.contains x)))
theorem U9 {f:aE} (c:dS f=true) {lv:Int} {i:Nat} (hi:i<f.a5C.length) (h:lvl f i=lv):FC f i=bK (mU f lv f.a4Z.length i):=by
 unfold FC;rw[if_pos ⟨c,by omega,by omega⟩];subst h;rfl
def xI (f:aE) (lv:Int) (k:Nat):List (List Int):=((a6L k).filter (II f lv)).map fun i=>bK (mU f lv f.a4Z.length i)
theorem amM (f:aE) (lv:Int) (k:Nat):xI f lv (k+1)=if lvl f k=lv then xI f lv k++[bK (mU f lv f.a4Z.length k)] else xI f lv k:=by
 unfold xI;rw[a9U,List.filter_append,a7L];by_cases h:lvl f k=lv
 ·rw[if_pos h]; simp[II,h]
 ·rw[if_neg h]; simp[II,h]
theorem auU (f:aE) (lv:Int) (k:Nat):(xI f lv k).length≤k:=by
 unfold xI;rw[a6K];exact a7U (baF ..) (by simp)
theorem auZ {C:Ctx} (L:d6 C) (f:aE) (A:f.Ok) (x:dS f=true) (lv:Int) (E:1≤lv) (h5:lv≤5) :
  DN.wp C (aV Ro.res (bX (lay (eX f lv)))) (PF.args [.agg f.cells,.int .i64 lv]) .nil:=by
 have hV:=VF.of x;have F:=hV.small.a4Z;have y:=hV.small.a5C;simp only[go_sem,DN,Cs,Ct,Cu,Ro];by_cases u:lv=5
 ·subst u;rw[Dx];simp only[go_sem,bH (show (5:Int)=5 from rfl),Cv];refine wp_loop (α:=Nat × PV × PH) (fun s=>(((PF.nil.set 2 (.bG f.cells)).set 5 (s.2.1)).set 6 (.int .i64 s.1))) (fun s=>s.2.2) (fun s=>s.1≤f.a4Z.length∧bP s.2.2 1 s.2.1 (xH s.1)) (fun s=>f.a4Z.length-s.1) (0,.aB,.nil) ⟨a6Q _,.nil⟩ Lq b_ ?_;rintro⟨k,v,H⟩ ⟨w,p⟩;simp only at w p;simp only[go_sem,Cr,Cw,a6K];by_cases hlt:k<f.a4Z.length
  ·have d:(k:Int)<(f.a4Z.length:Nat):=Om;simp only[go_sem,d,Cx];refine eZ (src:=[[ints [(k:Int)]]]) p (by simp only[go_sem]; rfl) (by unfold roomFor; rw[B7]; simp only[a6X,maxLen]; omega) fun v' H' l _=>?_;rw[← mz] at l;simp only[go_sem,Cy,wZz k];exact aD (k+1,v',H') ⟨hlt,l⟩ (by simp only; omega) Lq b_
  ·have d:¬ (k:Int)<(f.a4Z.length:Nat):=Om;have:k=f.a4Z.length:=Om;subst this;simp only[go_sem,d,Cz];exact qG (.inr rfl) p Sq
 rw[c9 f u];simp only[go_sem,bF u,C0];refine wp_loop (α:=Nat × PV × PH) (fun s=>((((PF.nil.set 1 (.int .i64 lv)).set 2 (.bG f.cells)).set 5 (s.2.1)).set 7 (.int .i64 s.1))) (fun s=>s.2.2) (fun s=>s.1≤f.a5C.length∧bP s.2.2 1 s.2.1 (mO (xI f lv s.1))) (fun s=>f.a5C.length-s.1) (0,.aB,.nil) ⟨a6Q _,.nil⟩ Lq b_ ?_;rintro⟨k,v,H⟩ ⟨w,p⟩;simp only at w p;simp only[go_sem,m6,m7,a6K];by_cases hlt:k<f.a5C.length
 ·have d:(k:Int)<(f.a5C.length:Nat):=Om;have i:=amM f lv k;have B:=auU f lv k;simp only[go_sem,d,m8,eY hlt,sP hlt];by_cases c:lvl f k=lv
  ·rw[if_pos c] at i;have q:=L.a4Z f k A;rw[U9 x hlt c] at q;simp only[go_sem,bH c,m9];refine aA q Sq ?_;simp only[go_sem];refine eZ (src:=[[ints (bK (mU f lv f.a4Z.length k))]]) p Sq (by unfold roomFor; rw[SB]; simp only[a6X,maxLen]; omega) fun v' H' l _=>?_;have e:mO (xI f lv k)++[[ints (bK (mU f lv f.a4Z.length k))]]=mO (xI f lv (k+1)):=by rw[i]; unfold mO; rw[a7L]; rfl
   rw[e] at l;simp only[go_sem,KP,wZz k];exact aD (k+1,v',H') ⟨hlt,l⟩ (by simp only; omega) Lq b_
  ·rw[if_neg c] at i;rw[← i] at p;simp only[go_sem,bF c,KP,wZz k];exact aD (k+1,v,H) ⟨hlt,p⟩ (by simp only; omega) Lq b_
 ·have d:¬ (k:Int)<(f.a5C.length:Nat):=Om;have:k=f.a5C.length:=Om;subst this;simp only[go_sem,d,na];exact qG (.inr rfl) p Sq
theorem aHI {C:Ctx} (L:d6 C) (sc:List (List Int)) (H:sc.length≤1000000000000000) (A:∀ s∈sc,s.length≤1000000000000000) (set:List Int) (K:set.length≤1000000000000000) (m:Int) :
  KM.wp C (aV amK.res (aF (.int .i64 (sN sc set m:Nat)))) (PF.args [lay sc,ints set,.int .i64 m]) .nil:=by
 simp only[go_sem,KM,Q2,Q3,Q4,amK];refine wp_loop (α:=Nat) (fun i=>(((((PF.nil.set 0 (lay sc)).set 1 (ints set)).set 2 (.int .i64 m)).set 7 (.int .i64 ((sc.take i).countP fun s=>decide (((iH s set:Nat):Int)>m):Nat))).set 8 (.int .i64 i))) (fun _=>.nil) (fun i=>i≤sc.length) (fun i=>sc.length-i) 0 (a6Q _) Lq a_ ?_;intro i hi;simp only[go_sem,B0,Q5,a6K];by_cases hlt:i<sc.length
 ·have q:(i:Int)<(sc.length:Nat):=Om;have w:(sc.map fun r=>[ints r])[i]?=some [ints sc[i]]:=by simp[hlt]
  have p:=uO (fun s=>decide (((iH s set:Nat):Int)>m)) sc hlt;have k1:=A sc[i] (a6M hlt);have F:(sc.take i).countP (fun s=>decide (((iH s set:Nat):Int)>m))≤i:=a7U List.countP_le_length (by rw[a7D]; omega);generalize (sc.take i).countP (fun s=>decide (((iH s set:Nat):Int)>m))=n at *
  generalize sc[i]=s at *
  simp only[go_sem,q,Q6,Q7];refine wp_loop (α:=Nat) (fun j=>(((((((PF.nil.set 0 (lay sc)).set 1 (ints set)).set 2 (.int .i64 m)).set 7 (.int .i64 n)).set 8 (.int .i64 i)).set 9 (.int .i64 ((set.take j).countP fun d=>s.contains d:Nat))).set 10 (.int .i64 j))) (fun _=>.nil) (fun j=>j≤set.length) (fun j=>set.length-j) 0 (a6Q _) Lq a_ ?_;intro j J;simp only[go_sem,Bz,Q8,a6K];by_cases u:j<set.length
  ·have l:(j:Int)<(set.length:Nat):=Om;have y:(set.map fun n=>[PV.int .i64 n])[j]?=some [.int .i64 set[j]]:=by simp[u]
   have e:=uO (fun d=>s.contains d) set u;have E:(set.take j).countP (fun d=>s.contains d)≤j:=a7U List.countP_le_length (by rw[a7D]; omega);generalize (set.take j).countP (fun d=>s.contains d)=b at *
   generalize set[j]=d at *
   simp only[go_sem,l];refine bV .nil (cyS (.bool (s.contains d))) a_ ?_;simp only[go_sem,Q9,q,w,a6K,l,y];refine bM rfl (L.has s d k1) Sq a_ ?_;cases B:s.contains d with
   | true =>rw[B] at e;simp only[go_sem,Ra,wZz b,cu,wZz j];exact aD (j+1) u Om (by (repeat' (first|exact c_|refine d_ ?_ ?_))<;>first|(simp only[go_sem,e,sJ]<;>rfl)|rfl) a_
   | false =>rw[B] at e;simp only[go_sem,cu,wZz j];exact aD (j+1) u Om (by (repeat' (first|exact c_|refine d_ ?_ ?_))<;>first|(simp only[go_sem,e,sJ]<;>rfl)|rfl) a_
  ·have l:¬ (j:Int)<(set.length:Nat):=Om;have:j=set.length:=Om;subst this;have x:set.countP (fun d=>s.contains d)=iH s set:=rfl;rw[a7M,x];by_cases c:((iH s set:Nat):Int)>m
   ·rw[decide_eq_true c] at p;simp only[go_sem,l,RZ,c,B5,wZz n,SA,wZz i];exact aD (i+1) hlt Om (by (repeat' (first|exact c_|refine d_ ?_ ?_))<;>first|(simp only[go_sem,p,sJ]<;>rfl)|rfl) a_
   ·rw[decide_eq_false c] at p;simp only[go_sem,l,RZ,c,SA,wZz i];exact aD (i+1) hlt Om (by (repeat' (first|exact c_|refine d_ ?_ ?_))<;>first|(simp only[go_sem,p,sJ]<;>rfl)|rfl) a_
 ·have q:¬ (i:Int)<(sc.length:Nat):=Om;have:i=sc.length:=Om;subst this;rw[a7M];simp only[go_sem,q,B6];refine aQ (.inr rfl) Ev ?_;rfl
structure EV (C:Ctx):Prop extends d6 C where
 units:∀ (f:aE) (lv:Int),f.Ok→dS f=true→1≤lv→lv≤5→aG C 217 [.agg f.cells,.int .i64 lv] .nil (aF (lay (eX f lv)))
theorem aHM {C:Ctx} {K:bQ} [Up K] (L:EV C) (w:PV) (U:List (List Int)) {n:Nat} (W:UOk n U) (S:List (List Nat)) (j:Nat) (Z:j<S.length) (s:List Nat) (X:S[j]?=some s) (J:∀ x∈s,x<U.length) (Y:s.length≤1000) (O v:PV) (d:Nat) {F:PF} {H:PH}
  (R:((((((((((PF.nil.set 2 (w)).set 6 (lay U)).set 9 (lay (fI S))).set 10 (O)).set 11 (.int .i64 j)).set 12 (v)).set 13 (.int .i64 d)).set 14 (.bool false)).set 15 (.int .i64 0))).le F)
  (V:K (.exit 6) (((((((((PF.nil.set 2 (w)).set 6 (lay U)).set 9 (lay (fI S))).set 10 (O)).set 11 (.int .i64 j)).set 12 (v)).set 13 (.int .i64 d)).set 14 (.bool (iW U s d)))) H):aC.wp C (.loop SD) K F H:=by
 have p:(j:Int)<(S.length:Nat):=Om;have i:(fI S).length=S.length:=a6K _;have l:((fI S).map fun r=>[ints r])[j]?=some [ints (bK s)]:=by unfold fI; rw[a7J,a7J,X]; rfl
 have q:(bK s).length=s.length:=eF s;refine wp_loop (α:=Nat) (fun k=>(((((((((PF.nil.set 2 (w)).set 6 (lay U)).set 9 (lay (fI S))).set 10 (O)).set 11 (.int .i64 j)).set 12 (v)).set 13 (.int .i64 d)).set 14 (.bool (iW U (s.take k) d))).set 15 (.int .i64 k))) (fun _=>H) (fun k=>k≤s.length) (fun k=>s.length-k) 0 (a6Q _) R b_ ?_;intro k hk;simp only[go_sem,SD,Cn,p,i,a6K,l,q];by_cases hlt:k<s.length
 ·have e:(k:Int)<(s.length:Nat):=Om;have E:((bK s).map fun n=>[PV.int .i64 n])[k]?=some [.int .i64 (s[k]:Nat)]:=tZ hlt;have M:=J s[k] (a6M hlt);have N:((s[k]:Nat):Int)<(U.length:Nat):=Om;have B:=W.at_ U[s[k]] (a6M M);have A:U.getD s[k] []=U[s[k]]:=by simp[a7C,M]
  have y:(U.map fun r=>[ints r])[s[k]]?=some [ints U[s[k]]]:=by simp[M]
  have c:iW U (s.take (k+1)) d=(iW U (s.take k) d||(U[s[k]]).contains (d:Int)):=by unfold iW;rw[a8E hlt,List.any_append,← A]; simp
  generalize U[s[k]]=u at *
  generalize s[k]=x at *
  cases Q:iW U (s.take k) d with
  | true =>rw[Q,Bool.true_or] at c;simp only[go_sem,e,SH,SI,wZz k];exact aD (k+1) hlt Om (by (repeat' (first|exact c_|refine d_ ?_ ?_))<;>first|(simp only[go_sem,c,i]<;>rfl)|rfl) b_
  | false =>rw[Q,Bool.false_or] at c;simp only[go_sem,e,SH,p,i,a6K,l,q,E,N,y];refine aA (L.has u d (by have:=B.1; omega)) Sq ?_;simp only[go_sem,SI,wZz k];exact aD (k+1) hlt Om (by (repeat' (first|exact c_|refine d_ ?_ ?_))<;>first|(simp only[go_sem,c,i]<;>rfl)|rfl) b_
 ·have e:¬ (k:Int)<(s.length:Nat):=Om;have:k=s.length:=Om;subst this;rw[a7M];simp only[go_sem,e];exact Up.up (by (repeat' (first|exact c_|refine d_ ?_ ?_))<;>first|(simp only[go_sem,i]<;>rfl)|rfl) V
def dnL (U:List (List Int)) (s:List Nat) (d:Nat):List Int:=bK ((a6L d).filter (iW U s))
theorem aDX (U:List (List Int)) (s:List Nat) (d:Nat):dnL U s (d+1)=if iW U s d then dnL U s d++[(d:Int)] else dnL U s d:=by
 unfold dnL;rw[a9U,List.filter_append,Oy];by_cases h:iW U s d
 ·rw[if_pos h]; simp[bK,h]
 ·rw[if_neg h]; simp[bK,h]
theorem aNV (U:List (List Int)) (s:List Nat) (d:Nat):(dnL U s d).length≤d:=by
 unfold dnL;rw[eF];exact a7U (baF ..) (by simp)
theorem auY {C:Ctx} {K:bQ} [Up K] (L:EV C) (f:aE) (R:f.a4Z.length≤24) (U:List (List Int)) {n:Nat} (N:UOk n U) (S:List (List Nat)) (j:Nat) (O:j<S.length) (s:List Nat) (Q:S[j]?=some s) (w:∀ x∈s,x<U.length) (u:s.length≤1000) (p:PV) {F:PF} {H:PH} {Ls:List LI}
  (i:aN H [] Ls)
  (J:((((((((PF.nil.set 2 (.bG f.cells)).set 6 (lay U)).set 9 (lay (fI S))).set 10 (p)).set 11 (.int .i64 j)).set 12 (.aB)).set 13 (.int .i64 0))).le F)
  (M:∀ v H',aN H' [] (Ls++[(v,1,aY (dnL U s f.a4Z.length))])→K (.exit 4) (((((((PF.nil.set 2 (.bG f.cells)).set 6 (lay U)).set 9 (lay (fI S))).set 10 (p)).set 11 (.int .i64 j)).set 12 (v))) H'):aC.wp C (.loop SE) K F H:=by
 refine wp_loop (α:=Nat × PV × PH) (fun t=>(((((((PF.nil.set 2 (.bG f.cells)).set 6 (lay U)).set 9 (lay (fI S))).set 10 (p)).set 11 (.int .i64 j)).set 12 (t.2.1)).set 13 (.int .i64 t.1))) (fun t=>t.2.2) (fun t=>t.1≤f.a4Z.length∧aN t.2.2 [] (Ls++[(t.2.1,1,aY (dnL U s t.1))])) (fun t=>f.a4Z.length-t.1) (0,.aB,H) ⟨a6Q _,i.mV 1⟩ J b_ ?_;clear i;rintro⟨d,v,y⟩ ⟨q,i⟩;simp only at q i;simp only[go_sem,SE,Ck,a6K];by_cases hlt:d<f.a4Z.length
 ·have e:(d:Int)<(f.a4Z.length:Nat):=Om;have c:=aDX U s d;have E:=aNV U s d;simp only[go_sem,e,Cl,Cm];have inn:=fun {K:bQ} [Up K] {F:PF} {H:PH}=>aHM (C:=C) (K:=K) L (.bG f.cells) U N S j O s Q w u p v d (F:=F) (H:=H);refine inn Lq ?_;cases B:iW U s d with
  | true =>
   rw[B,if_pos rfl] at c;simp only[go_sem,SJ,Cp];refine i.append Ls.length (rows:=aY (dnL U s d)) (src:=[[.int .i64 d]]) (yF _ _ _ rfl) Sq (by unfold roomFor; rw[cY]; simp only[a6X,maxLen]; omega) fun v' H' A _=>?_;have l:aY (dnL U s d)++[[.int .i64 d]]=aY (dnL U s (d+1)):=by rw[c,zN]; rfl
   rw[l,a9H _ _ (a6S _),a9N] at A;simp only[go_sem,SK,wZz d];exact aD (d+1,v',H') ⟨hlt,A⟩ (by simp only; omega) Lq b_
  | false =>rw[B,if_neg (by decide)] at c;rw[← c] at i;simp only[go_sem,SJ,SK,wZz d];exact aD (d+1,v,y) ⟨hlt,i⟩ (by simp only; omega) Lq b_
 ·have e:¬ (d:Int)<(f.a4Z.length:Nat):=Om;have:d=f.a4Z.length:=Om;subst this;simp only[go_sem,e];exact Up.up Lq (M v y i)
theorem auX {C:Ctx} {K:bQ} [Up K] (L:EV C) (f:aE) (Q:f.a4Z.length≤24) (U:List (List Int)) {n:Nat} (O:UOk n U) (S:List (List Nat)) (M:∀ s∈S,s.length≤1000∧∀ x∈s,x<U.length) (N:S.length≤1099511627776) {F:PF} {H:PH}
  (B:((((((PF.nil.set 2 (.bG f.cells)).set 6 (lay U)).set 9 (lay (fI S))).set 10 (.aB)).set 11 (.int .i64 0))).le F)
  (E:∀ l ps H',aN H' [] (dL l ps)→wls ps=S.map (fun s=>dnL U s f.a4Z.length)→K (.exit 2) ((PF.nil.set 10 (l))) H'):aC.wp C (.loop SF) K F H:=by
 refine wp_loop (α:=Nat × PV × WPs × PH) (fun t=>(((((PF.nil.set 2 (.bG f.cells)).set 6 (lay U)).set 9 (lay (fI S))).set 10 (t.2.1)).set 11 (.int .i64 t.1))) (fun t=>t.2.2.2) (fun t=>t.1≤S.length∧wls t.2.2.1=(S.take t.1).map (fun s=>dnL U s f.a4Z.length)∧aN t.2.2.2 [] (dL t.2.1 t.2.2.1)) (fun t=>S.length-t.1) (0,.aB,[],.nil) ⟨a6Q _,rfl,aN.sS aN.nil⟩ B a_ ?_;rintro⟨j,l,ps,H⟩ ⟨R,y,A⟩;simp only at R y A;have i:(fI S).length=S.length:=a6K _;simp only[go_sem,SF,Cg,a6K,i];by_cases hlt:j<S.length
 ·have c:(j:Int)<(S.length:Nat):=Om;obtain⟨s1,s2⟩:=M S[j] (a6M hlt);have V:ps.length≤1099511627776:=by rw[← uM,y,a6K,a7D]; omega
  have w:(S.take (j+1)).map (fun s=>dnL U s f.a4Z.length)=wls ps++[dnL U S[j] f.a4Z.length]:=by rw[a8E hlt,a7L,← y]; rfl
  have one:=fun {K:bQ} [Up K] {F:PF} {H:PH}=>auY (C:=C) (K:=K) L f Q U O S j hlt S[j] (a6Y hlt) s2 s1 l (F:=F) (H:=H) (Ls:=dL l ps);simp only[go_sem,c,Ch,Cj];refine one A (by (repeat' (first|exact c_|refine d_ ?_ ?_))<;>first|(simp only[go_sem,i]<;>rfl)|rfl) fun v H2 h5=>?_;have J:=h5.own (dL l ps).length (yF _ _ _ rfl);generalize dnL U S[j] f.a4Z.length=D at *
  have p:roomFor (cV ps).length 1 24:=by unfold roomFor; rw[kM]; simp only[maxLen]; omega
  have fin:∀ (d:PV) (H':PH),aN H' [] ((dL l ps++[(v,1,aY D)]).set 0 (d,1,cV ps++[[v]]))→aN H' [] (dL d (ps++[(v,D)]))∧wls (ps++[(v,D)])=wls ps++[D]:=by
   intro d H' u;refine⟨?_,?_⟩
   ·have e:dL d (ps++[(v,D)])=(dL l ps++[(v,1,aY D)]).set 0 (d,1,cV ps++[[v]]):=by unfold dL cV mG;rw[a7L,a7L];rfl
    rw[e];exact u
   ·unfold wls;rw[a7L]; rfl
  rcases J with ⟨-,rfl⟩ | ⟨q,rs,rfl,-,-,-⟩
  ·simp only[go_sem,SL,a6V,a7G,or_false,forall_eq];refine h5.append 0 (rows:=cV ps) (src:=[[PV.aB]]) rfl Sq p fun d H' u _=>?_;obtain⟨k1,k2⟩:=fin d H' u;simp only[go_sem,SM,wZz j];exact aD (j+1,d,_,H') ⟨hlt,k2.trans w.symm,k1⟩ (by simp only; omega) (by (repeat' (first|exact c_|refine d_ ?_ ?_))<;>first|(simp only[go_sem,i]<;>rfl)|rfl) b_
  ·simp only[go_sem,SL,a6V,a7G,or_false,forall_eq];refine h5.append 0 (rows:=cV ps) (src:=[[PV.osl q 1 0 (aY D).length]]) rfl Sq p fun d H' u _=>?_;obtain⟨k1,k2⟩:=fin d H' u;simp only[go_sem,SM,wZz j];exact aD (j+1,d,_,H') ⟨hlt,k2.trans w.symm,k1⟩ (by simp only; omega) (by (repeat' (first|exact c_|refine d_ ?_ ?_))<;>first|(simp only[go_sem,i]<;>rfl)|rfl) b_
 ·have c:¬ (j:Int)<(S.length:Nat):=Om;have:j=S.length:=Om;subst this;rw[a7M] at y;simp only[go_sem,c];exact Up.up Lq (E l ps H A y)
theorem aHN {C:Ctx} (L:EV C) (f:aE) (X:f.Ok) (lv c:Int) :
  KN.wp C (aV m5.res (bX (.tup [lay (jM f lv c),.int .i64 (eK f lv c)]))) (PF.args [.agg f.cells,pS lv c]) .nil:=by
 have hB:jM f lv c=if eK f lv c=0 then nK f (eX f lv) c.toNat else []:=rfl
 have A:eK f lv c=if dS f&&(decide (1≤lv)&&decide (lv≤5)&&decide (1≤c)&&decide (c≤3)) then (if 12<f.a4Z.length∨512<cZ ((eX f lv).length:Nat) c.toNat then 2 else 0) else 1:=rfl
 have l:∀ (e:Int) (F:PF),e≠0→eK f lv c=e→F 4=some .aB→F 5=some (.int .i64 e)→aV [.tmp 4,.tmp 5] (bX (.tup [lay (jM f lv c),.int .i64 (eK f lv c)])) .ret F .nil:=by intro e F he d h2 h3;rw[d,if_neg he] at hB;rw[hB,d];exact nB (.inr rfl) (by simp only[go_sem,h2,h3]) (aN.sS aN.nil)
 have E:(dS f&&(decide (1≤lv)&&decide (lv≤5)&&decide (1≤c)&&decide (c≤3)))=false→eK f lv c=1:=fun h=>by rw[A,h]; rfl
 simp only[go_sem,KN,Rc,Re,m5];refine aA (L.valid f X) Ev ?_;cases J:dS f with
 | false =>have d:=E (by rw[J]; rfl);simp only[go_sem,a7A,uE];exact l 1 _ (by decide) d Sq Sq
 | true =>
  have hV:=VF.of J;by_cases w:lv<1
  ·have d:=E (by rw[decide_eq_false (Om:¬ 1≤lv)]; simp);simp only[go_sem,a6P,w,uE];exact l 1 _ (by decide) d Sq Sq
  by_cases y:lv>5
  ·have d:=E (by rw[decide_eq_false (Om:¬ lv≤5)]; simp);simp only[go_sem,a6P,w,y,uE];exact l 1 _ (by decide) d Sq Sq
  by_cases H:c<1
  ·have d:=E (by rw[decide_eq_false (Om:¬ 1≤c)]; simp);simp only[go_sem,a6P,w,y,H,uE];exact l 1 _ (by decide) d Sq Sq
  by_cases M:c>3
  ·have d:=E (by rw[decide_eq_false (Om:¬ c≤3)]; simp);simp only[go_sem,a6P,w,y,H,M,uE];exact l 1 _ (by decide) d Sq Sq
  obtain⟨n,rfl⟩:∃ n:Nat,c=n:=⟨c.toNat,by omega⟩;rw[J,decide_eq_true (Om:1≤lv),decide_eq_true (Om:lv≤5),decide_eq_true (Om:(1:Int)≤(n:Int)),decide_eq_true (Om:(n:Int)≤3),a9Q,a9Q,a9Q,a9Q,if_pos rfl,a8G] at A;rw[a8G] at hB;obtain⟨hU,W⟩:=LN hV lv;have q:=L.units f lv X J Om Om;generalize eX f lv=U at *
  by_cases R:12<f.a4Z.length
  ·have d:eK f lv n=2:=by rw[A,if_pos (.inl R)]
   simp only[go_sem,a6P,w,y,H,M,cw,a6K,show (f.a4Z.length:Int)>12 by omega,Rf];exact l 2 _ (by decide) d Sq Sq
  simp only[go_sem,a6P,w,y,H,M,cw,a6K,show ¬ (f.a4Z.length:Int)>12 by omega,Rh];refine aA q Ev ?_;simp only[go_sem,Ri,Rj];refine wp_loop (α:=Nat) (fun k=>(((((PF.nil.set 2 (.bG f.cells)).set 3 (.bG [.int .i64 lv,.int .i64 n])).set 6 (lay U)).set 7 (.int .i64 (cZ (U.length:Nat) k))).set 8 (.int .i64 k))) (fun _=>.nil) (fun k=>k≤n) (fun k=>n-k) 0 (a6Q _) (by (repeat' (first|exact c_|refine d_ ?_ ?_))<;>first|(simp only[go_sem,cZ]<;>rfl)|rfl) a_ ?_;intro k hk;have O:U.length≤1000:=Om;simp only[go_sem,Ca,Rk];by_cases hlt:k<n
  ·have p:(k:Int)<(n:Nat):=Om;obtain⟨b1,b2⟩:=wL O (i:=k) Om;have K:=wK O k Om;have hb:((U.length:Int)-(k:Int)).natAbs≤1000:=Om;have B:=Nat.mul_le_mul (a7U K (a9J Om (Om:k≤2))) hb;rw[← Int.natAbs_mul] at B;have e:(1000:Nat) ^ 2*1000=1000000000:=by decide
   have w1:IntKind.i64.wrap ((U.length:Int)-(k:Int))=(U.length:Int)-k:=wrap_i64 Om Om;have w2:IntKind.i64.wrap (cZ (U.length:Nat) k*((U.length:Int)-(k:Int)))=cZ (U.length:Nat) k*((U.length:Int)-k):=wrap_i64 Om Om;have w3:IntKind.i64.wrap ((k:Int)+1)=(k:Int)+1:=wrap_i64 Om Om;have Q:¬ ((k:Int)+1)=0:=Om;obtain⟨b3,b4⟩:=wL O (i:=k+1) Om;have Z:cZ (U.length:Nat) (k+1)=a8O (cZ (U.length:Nat) k*((U.length:Int)-k)) ((k:Int)+1):=by rw[cZ]
   rw[Z] at b3 b4;have w4:IntKind.i64.wrap (a8O (cZ (U.length:Nat) k*((U.length:Int)-k)) ((k:Int)+1))=a8O (cZ (U.length:Nat) k*((U.length:Int)-k)) ((k:Int)+1):=wrap_i64 Om Om;simp only[go_sem,p,Rl,a6K,w1,w2,w3,Q,w4,Cb,wZz k];exact aD (k+1) hlt Om (by (repeat' (first|exact c_|refine d_ ?_ ?_))<;>first|(simp only[go_sem,Z]<;>rfl)|rfl) a_
  have p:¬ (k:Int)<(n:Nat):=Om;have:k=n:=Om;subst this;by_cases V:512<cZ (U.length:Nat) k
  ·have d:eK f lv k=2:=by rw[A,if_pos (.inr V)]
   simp only[go_sem,p,SG,show cZ (U.length:Nat) k>512 by omega,Cc];exact l 2 _ (by decide) d Sq Sq
  have d:eK f lv k=0:=by rw[A,if_neg (fun h=>h.elim R V)]
  rw[d,if_pos rfl] at hB;rw[hB,d];have N:=L.choose k 0 U.length Om Om Om;have u:=mI U.length k 0;have γ:=pL U.length k 0;have Y:2 ^ (U.length-0)≤2 ^ 40:=a9J Om Om;have β:(2:Nat) ^ 40=1099511627776:=by decide
  have hP:nK f U k=(cM U.length k 0).map fun s=>dnL U s f.a4Z.length:=rfl;rw[hP];generalize cM U.length k 0=S at *
  simp only[go_sem,p,SG,show ¬ cZ (U.length:Nat) k>512 by omega,Cd,a6K];refine aA N (by simp only[go_sem]; rfl) ?_;simp only[go_sem,Ce,Cf];refine auX (C:=C) L f Om U hU S (fun s K=>⟨by have:=(u s K).1; omega,fun x hx=>((u s K).2.1 x hx).2⟩) Om Lq fun vo ps H' hH hw=>?_;simp only[go_sem,Cq];rw[← hw];exact nB (.inr rfl) Sq hH
structure aqG (C:Ctx):Prop extends EV C where
 uG:∀ (f:aE) (lv cnt:Int),f.Ok→aG C 219 [.agg f.cells,pS lv cnt] .nil (aF (.tup [lay (jM f lv cnt),.int .i64 (eK f lv cnt)]))
 admis:∀ (f:aE) (a5L:Int) (set:List Int),f.Ok→set.length≤1000000000000000→aG C 214 [.agg f.cells,.int .i64 a5L,ints set] .nil (aF (.bool (oK f a5L set)))
 lost:∀ (sc:List (List Int)) (set:List Int) (m:Int),sc.length≤1000000000000000→(∀ s∈sc,s.length≤1000000000000000)→set.length≤1000000000000000→aG C 220 [lay sc,ints set,.int .i64 m] .nil (aF (.int .i64 (sN sc set m:Nat)))
theorem amI {C:Ctx} (p:aqG C) (f:aE) (w:f.Ok) (a5L:Int) (set:List Int) (x:set.length≤1000000000000000) (lv d:Int) :
  AB.wp C (aV v8.res (aF (.tup [.int .i64 (qY f a5L set lv d:Nat),.int .i64 (lE f a5L set lv d)]))) (PF.args [.agg f.cells,.int .i64 a5L,ints set,pS lv d]) .nil:=by
 have hB:qY f a5L set lv d=if lE f a5L set lv d=0 then sN (jM f lv d) set (fN f a5L).m else 0:=rfl
 have e:lE f a5L set lv d=if eK f lv d≠0 then eK f lv d else if oK f a5L set then 0 else 1:=rfl
 simp only[go_sem,AB,mo,mp,v8];refine aA (p.uG f lv d w) Ev ?_;by_cases c:eK f lv d≠0
 ·rw[if_pos c] at e;rw[e,if_neg c] at hB;simp only[go_sem,KL,dK c,mq];refine aQ (.inr rfl) Ev ?_;rw[hB,e]; rfl
 have c:eK f lv d=0:=Decidable.not_not.1 c;rw[if_neg (fun h=>h c)] at e;simp only[go_sem,KL,c,cA (show (0:Int)=0 from rfl),mr];refine aA (p.admis f a5L set w x) Ev ?_;cases i:oK f a5L set with
 | false =>rw[i,if_neg (by decide)] at e;rw[e,if_neg (by decide)] at hB;simp only[go_sem,a7A,mu];refine aQ (.inr rfl) Ev ?_;rw[hB,e]; rfl
 | true =>
  rw[i,if_pos rfl] at e;rw[e,if_pos rfl] at hB;have y:fX f a5L=true:=by unfold oK at i;simp only[a7E] at i;exact i.1
  obtain⟨hV,A,H,F⟩:=nH y;obtain⟨B,q⟩:=nA y;have l:(f.a5D.map bT.cells)[a5L.toNat]?=some (fN f a5L).cells:=by rw[a7J,q]; rfl
  have hlt:a5L<(f.a5D.length:Nat):=Om;have u:jM f lv d=nK f (eX f lv) d.toNat:=by unfold jM; rw[if_pos c]
  obtain⟨k1,k2⟩:=Rr hV (eX f lv) (LN hV lv).2 d.toNat;rw[← u] at k1 k2;simp only[go_sem,a6P,mw,A,hlt,a6K,l];refine aA (p.lost (jM f lv d) set (fN f a5L).m Om (fun s E=>by have:=(k2 s E).1; omega) x) Ev ?_;simp only[go_sem];refine aQ (.inr rfl) Ev ?_;rw[hB,e]; rfl
structure aqD (C:Ctx):Prop extends aqE C where
 vq:∀ (f:aE) (a5L:Int),f.Ok→aG C 216 [.agg f.cells,.int .i64 a5L] .nil (aF (.tup [lay (sA f a5L),.int .i64 (oL f a5L)]))
 m5:∀ (f:aE) (lv cnt:Int),f.Ok→aG C 219 [.agg f.cells,pS lv cnt] .nil (aF (.tup [lay (jM f lv cnt),.int .i64 (eK f lv cnt)]))
 admis:∀ (f:aE) (a5L:Int) (set:List Int),f.Ok→set.length≤1000000000000000→aG C 204 [.agg f.cells,.int .i64 a5L,ints set] .nil (aF (.bool (oK f a5L set)))
 FX:∀ (f:aE) (a5L:Int) (set:List Int),f.Ok→set.length≤1000000000000000→aG C 214 [.agg f.cells,.int .i64 a5L,ints set] .nil (aF (.bool (oK f a5L set)))
 rloss:∀ (f:aE) (a5L:Int) (set:List Int) (lv cnt:Int),f.Ok→set.length≤1000000000000000→aG C 221 [.agg f.cells,.int .i64 a5L,ints set,pS lv cnt] .nil (aF (.tup [.int .i64 (qY f a5L set lv cnt:Nat),.int .i64 (lE f a5L set lv cnt)]))
theorem ahW (f:aE) (a5L:Int):(sA f a5L).length≤4096∧∀ w∈sA f a5L,w.length≤1000:=by
 unfold sA;split
 ·rename_i h;unfold oL at h;split at h
  ·rename_i d;split at h
   ·cases h
   ·rename_i u;obtain⟨hV,-⟩:=nH d;have i:=hV.a5L _ (nA d).1;unfold nM;constructor
    ·refine a7U (baF ..) ?_;rw[a6K];have p:=pL f.a4Z.length (fR (fN f a5L)).toNat 0;have q:2 ^ (f.a4Z.length-0)≤2 ^ 12:=a9J Om Om;have e:(2:Nat) ^ 12=4096:=by decide
     omega
    ·intro w c;obtain⟨s,l,rfl⟩:=a7N.1 (List.mem_filter.1 c).1;rw[eF,(mI _ _ _ _ l).1];unfold fR; omega
  ·cases h
 ·exact⟨by simp,fun w c=>by cases c⟩
def a1R (b:Bool):Spec:=fun c _=>match c with
 | 204 | 214=>some ([],fun _=>aF (.bool b))
 | _=>some ([],fun _=>aF (.bool true))
theorem aPZ {C:Ctx} (d:aqD C) (f:aE) (i:f.Ok) (a5L:Int) (set:List Int) (lv c:Int) :
  QV.wp C (aV alY.res (aF (.bool true))) (PF.args [.agg f.cells,.int .i64 a5L,ints set,.int .i64 lv,.int .i64 c]) .nil:=by
 obtain⟨a1,a2⟩:=ahW f a5L;have k1:=d.all f a5L i;have k2:=d.vq f a5L i;have y:=d.sets (sA f a5L) Om (fun w x=>by have:=a2 w x; omega);have early:∀ F:PF,wpOps C va (aC.wp C .ret (aV [.tmp 10] (aF (.bool true)))) F .nil:=by intro F;simp only[go_sem,va];refine aA d.Gl Ev ?_;simp only[go_sem];exact dP Sq rfl
 simp only[go_sem,QV,acC,acD,alY,a6K];by_cases e:IntKind.i64.wrap (IntKind.i64.wrap ((f.a5G.length:Int)+(f.a5A.length:Nat))+(f.a5D.length:Nat))>12
 ·simp only[go_sem,e];exact early _
 by_cases l:(f.a5C.length:Int)>30
 ·simp only[go_sem,e,l,a6K];exact early _
 by_cases p:(f.a4Z.length:Int)>20
 ·simp only[go_sem,e,l,p,a6K];exact early _
 by_cases q:(f.a5B.length:Int)>10
 ·simp only[go_sem,e,l,p,q,a6K];exact early _
 by_cases u:(set.length:Int)>30
 ·simp only[go_sem,e,l,p,q,u,a6K];exact early _
 have A:=d.admis f a5L set i Om;have B:=d.FX f a5L set i Om;have E:=d.loss f a5L set lv c i Om;have H:=d.rloss f a5L set lv c i Om;simp only[go_sem,e,l,p,q,u,a6K,acE];refine aR fun o J=>?_;simp only[go_sem,a6V,a7G,or_false,forall_eq,forall_eq_or_imp,acF];refine aA k1 Sq ?_;simp only[go_sem,acG];refine aA k2 Sq ?_;simp only[go_sem,acH];refine aA E Sq ?_;simp only[go_sem,acI];refine aA H Sq ?_;simp only[go_sem];refine bV _ (a1R (oK f a5L set)) b_ ?_;simp only[go_sem,acJ,bH (show oL f a5L=oL f a5L from rfl),bH (show lE f a5L set lv c=lE f a5L set lv c from rfl),bH (show ((qY f a5L set lv c:Nat):Int)=(qY f a5L set lv c:Nat) from rfl)];refine bM rfl y Sq b_ ?_;simp only[go_sem];refine bM rfl A Sq b_ ?_;simp only[go_sem];refine bM rfl B Sq b_ ?_;simp only[go_sem,beq_self_eq_true];refine bM rfl d.Gl Ev b_ ?_;simp only[go_sem];exact dP Sq rfl

def fg (C:Ctx) (k:Nat) (c:yS):Prop:=∀ (args:List PV) (H:PH) (R:PV→PH→Prop),args.length≤c.ntmps→c.body.wp C (aV c.res R) (PF.args args) H→aG C k args H R
theorem fg.go {C:Ctx} {k:Nat} {c:yS} (r:fg C k c) {args:List PV} {H:PH} {R:PV→PH→Prop} (h:c.body.wp C (aV c.res R) (PF.args args) H) (d:Nat.ble args.length c.ntmps=true):aG C k args H R:=r args H R (Nat.le_of_ble_eq_true d) h
structure cF (C:Ctx):Prop where
 r0:aM C 0 jw
 r1:aM C 1 Gx
 r2:aM C 2 akR
 r4:aM C 4 kp
 r5:aM C 5 alF
 r7:aM C 7 ko
 r27:aM C 27 js
 r28:aM C 28 alE
 r29:aM C 29 Gy
 r30:aM C 30 aoU
 r31:aM C 31 G3
 r32:aM C 32 aoV
 r33:aM C 33 udiv
 r34:aM C 34 aoZ
 r35:aM C 35 G5
 r36:aM C 36 apB
 r37:aM C 37 apE
 r38:aM C 38 G7
 r39:aM C 39 VD
 r40:aM C 40 G4
 r41:aM C 41 oj
 r42:aM C 42 oo
 r43:aM C 43 G6
 r44:aM C 44 ov
 r45:aM C 45 uup
 r46:aM C 46 Tj
 r47:aM C 47 apJ
 r48:aM C 48 pi
 r49:aM C 49 He
 r50:aM C 50 p4
 r51:aM C 51 p5
 r52:aM C 52 VI
 r53:aM C 53 Hg
 r54:aM C 54 Hh
 r55:aM C 55 apM
 r56:aM C 56 qc
 r57:aM C 57 Hd
 r58:aM C 58 VH
 r59:aM C 59 Hi
 r60:aM C 60 qb
 r61:aM C 61 BP
 r62:aM C 62 VK
 r63:aM C 63 qe
 r64:aM C 64 VJ
 r65:aM C 65 VL
 r66:aM C 66 aqA
 r67:aM C 67 r8
 r68:aM C 68 apZ
 r69:aM C 69 apY
 r70:aM C 70 q9
 r71:aM C 71 rc
 r72:aM C 72 ML
 r73:aM C 73 re
 r74:aM C 74 rg
 r75:aM C 75 VM
 r76:aM C 76 GG
 r77:aM C 77 KQ
 r80:aM C 80 nc
 r81:aM C 81 VA
 r88:aM C 88 nb
 r94:aM C 94 Gm
 r95:aM C 95 ajR
 r96:aM C 96 ajX
 r97:aM C 97 jd
 r98:aM C 98 Gq
 r99:aM C 99 Gr
 r100:aM C 100 Gs
 r101:aM C 101 gone
 r102:aM C 102 Gt
 r103:aM C 103 je
 r104:aM C 104 gin
 r105:aM C 105 ajS
 r106:aM C 106 ajT
 r107:aM C 107 Gu
 r108:aM C 108 Gv
 r109:aM C 109 jh
 r110:aM C 110 Gw
 r111:aM C 111 Ln
 r112:aM C 112 ajU
 r113:aM C 113 YZ
 r114:aM C 114 ajF
 r115:aM C 115 iy
 r116:aM C 116 FI
 r117:aM C 117 tw
 r118:aM C 118 jc
 r119:aM C 119 ajE
 r120:aM C 120 rO
 r121:aM C 121 jb
 r122:aM C 122 Gp
 r123:aM C 123 jp
 r124:aM C 124 PY
 r125:aM C 125 QA
 r126:aM C 126 FL
 r127:aM C 127 alJ
 r128:aM C 128 Gz
 r129:aM C 129 alL
 r130:aM C 130 alN
 r131:aM C 131 alS
 r132:aM C 132 G1
 r133:aM C 133 alW
 r134:aM C 134 alZ
 r135:aM C 135 G2
 r136:aM C 136 UU
 r137:aM C 137 lj
 r138:aM C 138 yI
 r139:aM C 139 JR
 r140:aM C 140 ll
 r141:aM C 141 ln
 r142:aM C 142 BM
 r143:aM C 143 nup
 r201:aM C 201 aCY
 r202:aM C 202 aDB
 r203:aM C 203 In
 r204:aM C 204 Il
 r205:aM C 205 call17
 r206:aM C 206 Je
 r207:aM C 207 tj
 r208:aM C 208 aiN
 r209:aM C 209 tk
 r210:aM C 210 aiW
 r211:aM C 211 Jf
 r212:aM C 212 ajD
 r213:aM C 213 aHE
 r214:aM C 214 FX
 r215:aM C 215 UX
 r216:aM C 216 vq
 r217:aM C 217 Ro
 r218:aM C 218 aHH
 r219:aM C 219 m5
 r220:aM C 220 amK
 r221:aM C 221 v8
 r222:aM C 222 O0
 r223:aM C 223 Pm
 r229:∃ asg bdy,fg C 229 (aiV asg bdy)
 r230:∃ asg bdy,fg C 230 (aiU asg bdy)
namespace Y
theorem kE {C:Ctx} (c:cF C):pN C :=
 have len:∀ xs,Lim xs→xs.length≤35184372087808→aG C 138 [aI xs] .nil (aF (.int .i64 (nl (val xs):Nat))):=fun xs h l=>c.r138.go (lk xs h l) rfl
 {length:=len
  large:=fun xs h l=>c.r137.go (A5 xs (len xs h l)) rfl
  sized:=fun xs h l=>(c.r141.go (Bk xs h (len xs h l)) rfl).seen
  trim:=fun xs h l=>(c.r135.go (P7 xs h l (len xs h l)) rfl).seen
  make:=fun v h=>c.r132.go (Po v h len) rfl
  cmp:=fun xs ys d e i p=>c.r129.go (aaW xs ys d e i p (len xs d i) (len ys e p)) rfl }
theorem alI {C:Ctx} (c:cF C):ep C :=
 {subtract:=fun A W Z v f o hW l i e p d=>c.r142.go (QY A W Z v f hW l i e p d o) rfl
  restore:=fun A W Z v o hW l i e=>c.r139.go (WN A W Z v hW l i e o) rfl }
theorem bk {C:Ctx} (c:cF C):YO C :=
 {L:=kE c
  D:=alI c
  up:=fun a s i u e=>c.r143.go (atT a s i u e) rfl
  short:=fun a d i l p e=>c.r140.go (Ba (kE c) a d i l p e) rfl
  lengthO:=fun xs o w q=>c.r138.go (WL xs w q o) rfl }
theorem zQ {C:Ctx} (c:cF C) (A B:Nat) (hB:B≠0) (e:nl A≤900) (d:nl B≤900):aG C 136 [aI (aH A),aI (aH B)] .nil (aF (pC A B)) :=
 (c.r136.go (kw (bk c) A B hB e d) rfl).seen
theorem kX {C:Ctx} (c:cF C):qO C :=
 {kE c with
  bits:=fun xs h l=>c.r128.go (O3 xs h l ((kE c).length xs h l)) rfl
  add:=fun xs ys d e i p=>(c.r127.go (aaO (kE c) xs ys d e i p) rfl).seen
  sub:=fun xs ys d e i p=>(c.r134.go (acK (kE c) xs ys d e i p) rfl).seen
  mul:=fun xs ys d e i p=>(c.r133.go (abX (kE c) xs ys d e i p) rfl).seen
  gcd:=fun xs ys d e i p=>(c.r131.go (abP (kE c) (zQ c) xs ys d e i p) rfl).seen
  div:=fun xs ys d e i p=>(c.r130.go (abH (kE c) (zQ c) xs ys d e i p) rfl).seen }
theorem pW {C:Ctx} (c:cF C):AP C :=
 {kX c with
  times:=fun a b d i e l p q=>c.r121.go (yx (kX c) a b d i e l p q) rfl
  zero:=fun neg a b d e=>c.r122.go (Km (kX c) neg a b d e) rfl
  valid:=fun neg a b d i e l=>c.r118.go (y7 (kX c) neg a b d i e l) rfl
  abs:=fun v w x=>c.r119.go (Xt (kX c) v w x) rfl
  lowest:=fun neg a b d i e l p q u=>(c.r120.go (ir (kX c) neg a b d i e l p q u) rfl).seen }
theorem PL {C:Ctx} (c:cF C) (x y:RF) (d:x.Ok) (e:y.Ok):aG C 113 [.agg x.cells,.agg y.cells] .nil (aF (frV (gU x.v y.v))) :=
 (c.r113.go (Xy (pW c) x.neg y.neg x.num x.den y.num y.den d.1 d.2.1 e.1 e.2.1 d.2.2.1 d.2.2.2 e.2.2.1 e.2.2.2) rfl).seen
theorem HO {C:Ctx} (c:cF C):d8 C :=
 {pW c with
  frac:=fun n d u p=>(c.r115.go (Ke (pW c) n d u.1 u.2 p.1 p.2) rfl).seen
  red:=fun x e=>by rw[← mj];exact (c.r116.go (i4 (pW c) x.neg x.num x.den e.1 e.2.1 e.2.2.1 e.2.2.2) rfl).seen
  ord:=fun x y e i=>(c.r114.go (X8 (pW c) x.neg y.neg x.num x.den y.num y.den e.1 e.2.1 i.1 i.2.1 e.2.2.1 e.2.2.2 i.2.2.1 i.2.2.2) rfl).seen
  plus:=PL c
  tot:=fun l q=>(c.r117.go (Ye (pW c) (PL c) l q.all q.fits) rfl).seen }
theorem pV {C:Ctx} (c:cF C):qV C :=
 have inn:∀ n lo hi:Int,aG C 104 [.int .i64 n,.int .i64 lo,.int .i64 hi] .nil (aF (.bool (within n lo hi))):=fun n lo hi=>(c.r104.go (arU n lo hi) rfl).seen;have lS:∀ x:RF,x.Ok→aG C 97 [.agg x.cells] .nil (aF (.bool (cH x))):=fun x i=>(c.r97.go (za (kX c) x i) rfl).seen;have lim:∀ x:RF,x.Ok→aG C 105 [.agg x.cells] .nil (aF (.bool (cP x))):=fun x i=>(c.r105.go (Y4 (HO c) x i) rfl).seen;have d:∀ n:Nat,aG C 126 [.int .u8 n] .nil (aF (.bool (fA n))):=fun n=>c.r126.go (jo n) rfl;have e:∀ n:Nat,aG C 124 [.int .u8 n] .nil (aF (.bool (jW n))):=fun n=>c.r124.go (zt n) rfl
 {HO c with
  inn:=inn
  lS:=lS
  lim:=lim
  one:=fun x i=>(c.r101.go (Zb (HO c) x i) rfl).seen
  allf:=fun p fn l q h=>(c.r99.go (K3 p fn l q h) rfl).seen
  alli:=fun p fn l q h=>(c.r100.go (Le p fn l q h) rfl).seen
  allb:=fun p fn l q h=>(c.r98.go (Kr p fn l q h) rfl).seen
  ends1:=fun b=>(c.r103.go (zd b) rfl).seen
  num1:=fun n=>(c.r107.go (L5 inn n) rfl).seen
  rate1:=fun x i=>(c.r109.go (zk lim lS x i) rfl).seen
  name:=fun s=>c.r123.go (Nh d (fun n=>c.r125.go (zu d e n) rfl) s) rfl }
theorem PI {C:Ctx} (c:cF C):d7 C :=
 {pV c with
  num:=fun p d=>(c.r106.go (Y7 (pV c) p d) rfl).seen
  rate:=fun p d=>(c.r108.go (Mb (pV c) p d) rfl).seen
  uniq:=fun l e=>(c.r110.go (Mf (pV c) l e) rfl).seen }
theorem PJ {C:Ctx} (c:cF C):NP C :=
 {PI c with
  ends:=fun l e d=>(c.r102.go (Lt (pV c) l e d) rfl).seen }
theorem Kb {C:Ctx} (c:cF C):jN C :=
 {PJ c with
  law:=fun l e=>(c.r95.go (Yv (PJ c) l e) rfl).seen
  pol:=fun p n q i=>(c.r112.go (Zf (PI c) p q n i) rfl).seen
  a5I:=fun f d=>(c.r111.go (Yo (pV c) f d) rfl).seen }
theorem tu {C:Ctx} (c:cF C) (f:aE) (d:f.Ok):aG C 96 [.agg f.cells] .nil (aF (.int .i64 (wH f))):=(c.r96.go (Zo (Kb c) f d) rfl).seen
theorem jL {C:Ctx} (c:cF C):oP C:={ trimM:=fun xs h l=>c.r38.go (Te xs h l) rfl }
theorem RQ {C:Ctx} (c:cF C):e8 C :=
 {jL c with
  make:=fun v h=>(c.r35.go (S1 (jL c) v h) rfl).seen
  large:=fun xs h l=>(c.r41.go (Dl (jL c) xs h l) rfl).seen
  cmp:=fun xs ys d e i p=>c.r32.go (aeD (jL c) xs ys d e i p) rfl }
theorem RS {C:Ctx} (c:cF C):fc C :=
 {RQ c with
  minus:=fun a b e i l q d=>(c.r42.go (Do (jL c) a b e i l q d) rfl).seen
  times:=fun a b e i d p=>(c.r44.go (D0 (jL c) a b e i d p) rfl).seen }
theorem zX {C:Ctx} (c:cF C):NU C :=
 {RS c with
  plus:=fun a b i l d e=>(c.r43.go (S7 (jL c) a b i l d e) rfl).seen }
theorem Qn {C:Ctx} (c:cF C):EY C :=
 {zX c with
  bits:=fun xs h l=>c.r31.go (Sa (jL c) xs h l) rfl
  upM:=fun a n e d i p=>c.r45.go (aBC (jL c) a n e d i p) rfl
  down:=fun a n e d i=>(c.r40.go (Sr (jL c) a n e d i) rfl).seen }
theorem zW {C:Ctx} (c:cF C):NS C :=
 {RQ c with
  divide:=fun A B hB e d=>(c.r39.go (n6 (Qn c) A B hB e d) rfl).seen }
theorem RR {C:Ctx} (c:cF C):fa C :=
 {zW c with
  gcd:=fun a b d e i l=>(c.r34.go (aeW (zW c) a b d e i l) rfl).seen
  div:=fun a b d e i l=>(c.r33.go (aeO (zW c) a b d e i l) rfl).seen }
theorem l4 {C:Ctx} (c:cF C):Gi C :=
 {RR c with
  lowest:=fun neg a b i l p q u w e=>(c.r58.go (pj (RR c) neg a b i l p q u w e) rfl).seen
  size:=fun v d=>c.r59.go (Ub v d.1 d.2) rfl }
theorem sY {C:Ctx} (c:cF C):NT C :=
 {l4 c with
  fmk:=fun n d i e=>(c.r50.go (Tz (l4 c) n d i e) rfl).seen }
theorem JD {C:Ctx} (c:cF C) (hi:oJ C):AS C :=
 {sY c with
  int:=fun n d=>(c.r47.go (VG (sY c) n d) rfl).seen
  itoa:=hi
  next:=fun l v T o n a d e=>c.r4.go (Oq T o n a d e) rfl }
theorem QH {C:Ctx} (c:cF C) (hi:oJ C):eg C :=
 {JD c hi with
  frac:=fun l v T o a d=>c.r1.go (N0 (JD c hi) T o a d) rfl }
theorem QI {C:Ctx} (c:cF C) (hi:oJ C):qN C :=
 {QH c hi with
  rep:=fun l v T o a m e d=>c.r5.go (aaF (QH c hi) T o a m e d) rfl
  name:=fun s n p i=>c.r29.go (Ol (JD c hi) s n p i) rfl }
theorem QJ {C:Ctx} (c:cF C) (hi:oJ C):lO C :=
 {QI c hi with
  law:=fun l v T o dV a i d e=>c.r2.go (Z3 (QI c hi) T o dV a i d e) rfl }
theorem QK {C:Ctx} (c:cF C) (hi:oJ C):el C :=
 {QJ c hi with
  grow:=fun l v T mc a4Z d e i=>ZM (QJ c hi) T mc a4Z d e i (fun args H R p h=>c.r7 args H R (by rw[p]; decide) h) 4 (a6S _) }
theorem atD {C:Ctx} (c:cF C) (hi:oJ C):Hr C :=
 {QK c hi with
  new:=fun l p q=>c.r28.go (aaA l p q) rfl
  fleet:=fun l v T o a4Z a5B a d e i=>EW.exact (c.r0.go (Ae (QK c hi) T o a4Z a5B a d e i) rfl) }
theorem KC {C:Ctx} (c:cF C):fe C :=
 {sY c with
  int:=fun n p=>(c.r47.go (VG (sY c) n p) rfl).seen
  mul:=fun a b d e i l=>(c.r36.go (afE (RS c) a b d e i l) rfl).seen
  add:=fun a b d e i l=>(c.r30.go (adW (zX c) a b d e i l) rfl).seen
  sub:=fun a b d e i l=>(c.r37.go (afM (zX c) a b d e i l) rfl).seen }
theorem zY {C:Ctx} (c:cF C):NV C :=
 {KC c with
  valid:=fun x d=>c.r56.go (Eu (KC c) x.neg x.num x.den d.1 d.2.1 d.2.2.1 d.2.2.2) rfl
  big:=fun x=>c.r48.go (Eb x.1 (aH x.2.1) (aH x.2.2)) rfl }
theorem RT {C:Ctx} (c:cF C):ff C :=
 {zY c with
  fits:=fun x=>(c.r57.go (To (zY c) x) rfl).seen
  red:=fun x i=>(c.r52.go (p6 (zY c) x i) rfl).seen
  prod:=fun a b d e l p q u=>c.r60.go (Ep (KC c) a b d e l p q u) rfl }
theorem pH {C:Ctx} (c:cF C):vG C :=
 {RT c with
  order:=fun x y d e i l=>c.r51.go (Ee (RT c) x y d e i l) rfl }
theorem l5 {C:Ctx} (c:cF C):Gj C :=
 {pH c with
  less:=fun x y d e i l=>c.r49.go (Tv (pH c) x y d e i l) rfl
  same:=fun x y d e i l=>c.r53.go (T5 (pH c) x y d e i l) rfl
  sign:=fun x d i=>c.r54.go (T8 (pH c) x d i) rfl
  plus:=fun x y d e=>(c.r46.go (afV (pH c) x y d e) rfl).seen }
theorem zV {C:Ctx} (c:cF C):NR C :=
 {l5 c with
  sum:=fun l e d=>(c.r55.go (agJ (l5 c) l e d) rfl).seen
  inn:=fun n lo hi=>c.r76.go (ta n lo hi) rfl
  code:=fun k m=>c.r61.go (Rs k m) rfl }
theorem FQ {C:Ctx} (c:cF C):TY C :=
 {zV c with
  small:=fun x d=>c.r74.go (Fm (zV c) x d) rfl
  nums:=fun k m q s0 s1 s2 s3 s4=>c.r72.go (YF (zV c) k m q s0 s1 s2 s3 s4) rfl
  sizes:=fun e i l p u w=>c.r73.go (Fj e i l p u w) rfl }
theorem FS {C:Ctx} (c:cF C):TZ C :=
 {FQ c with
  smalls:=fun l d n=>c.r75.go (ri (FQ c) l d n) rfl }
theorem FT {C:Ctx} (c:cF C):UA C :=
 {FS c with
  reps:=fun l d m=>c.r66.go (ahH (FS c) l d m) rfl }
theorem FU {C:Ctx} (c:cF C):UB C :=
 have d:∀ n:Nat,aG C 65 [.int .u8 n] .nil (aF (.bool (fA n))):=fun n=>c.r65.go (qv n) rfl;have e:∀ n:Nat,aG C 63 [.int .u8 n] .nil (aF (.bool (jW n))):=fun n=>c.r63.go (Ez n) rfl
 {FT c with
  name:=fun s=>c.r62.go (qj d (fun n=>c.r64.go (qf d e n) rfl) s) rfl
  index:=fun l i s=>c.r71.go (Fc l i s) rfl }
theorem FW {C:Ctx} (c:cF C):nY C :=
 {FU c with
  fresh:=fun l e s w H d=>c.r70.go (E8 (FU c) l e s w H d) rfl }
theorem vk {C:Ctx} (c:cF C):pP C :=
 {FW c with
  law:=fun l d=>c.r68.go (agY (FW c) l d) rfl }
theorem acX {C:Ctx} (c:cF C):UC C :=
 {vk c with
  dur:=fun m rep e t h i d=>c.r69.go (agU (FT c) m rep e t h i d) rfl }
theorem aBW {C:Ctx} (c:cF C) (f:aE) (d:f.Ok):aG C 67 [.agg f.cells] .nil (aF (.bool (dS f))):=c.r67.go (aCG (acX c) f d) rfl
theorem aWS {C:Ctx} (c:cF C):ahR C :=
 {adm:=fun f p set hV l d q=>c.r201.go (aNL f hV p l d set q) rfl
  asc:=fun set n top i=>c.r202.go (aNP set i n top) rfl
  known:=fun f a5L e=>c.r203.go (aqQ (tu c) f e a5L) rfl }
theorem aMZ {C:Ctx} (c:cF C):dz C :=
 {aWS c with
  subs:=fun n top=>c.r210.go (aDR n top) rfl
  iter:=fun l o1 o2 n top J x e i u w q y H p d b1 b2 g1 g2=>c.r211.go (aDG J x e i u w q p d b1 b2 g1 g2) rfl }
theorem aNA {C:Ctx} (c:cF C):Hm C :=
 {aMZ c with
  sets:=fun f p hV u y d w l x q=>by obtain⟨e,i,r⟩:=c.r229;exact (r.go (aDP (aMZ c) e i f hV u p y d w l x q) rfl).seen }
theorem aNB {C:Ctx} (c:cF C):Hn C :=
 {aNA c with
  val:=tu c
  units:=fun f lv hV d h5=>(c.r206.go (aqV f hV lv d h5) rfl).seen
  choose:=fun m n e i=>c.r207.go (aiL m n e i) rfl }
theorem apU {C:Ctx} (c:cF C):aqF C :=
 {aNB c with
  uG:=fun f lv i l=>by obtain⟨d,e,r⟩:=c.r230;exact (r.go (aDN (aNB c) d e f l lv i) rfl).seen
  admis:=fun f a5L set l x=>c.r204.go (aqL (aWS c) f l a5L set x) rfl
  loss:=fun sc set m p q u w=>c.r208.go (aDH sc p q set u w m) rfl }
theorem aWR {C:Ctx} (c:cF C) (hi:oJ C):aML C :=
 {same1:=fun l d=>c.r94.go (aEB l d) rfl
  fleet:=fun l u d a4Z a5B i q=>(c.r27.go (atA (atD c hi) l u d a4Z a5B i q) rfl).seen
  all:=fun f a5L p=>(c.r205.go (aqN (aNA c) f p a5L) rfl).seen
  uG:=(apU c).uG
  loss:=fun f a5L set lv e p d=>c.r209.go (aiP (apU c) f p a5L set d lv e) rfl }
theorem aMY {C:Ctx} (c:cF C) (hi:oJ C):Hl C :=
 { aWR c hi with sets:=fun a d e=>c.r212.go (aEG (aWR c hi).same1 a d e) rfl }
theorem a0C {C:Ctx} (c:cF C) (hi:oJ C):aqE C :=
 {aMY c hi with
  Gl:=c.r222.go (atH (aMY c hi)) rfl
  fails:=fun a b d e=>c.r223.go (atK a b d e) rfl }
theorem aWT {C:Ctx} (c:cF C):Ht C :=
 {valid:=aBW c
  lS:=fun f d level p l e i=>c.r88.go (avB f p d l level e i) rfl }
theorem aWU {C:Ctx} (c:cF C):Gh C :=
 {allowed:=fun f p d hV e i=>c.r77.go (V9 f hV p e d i) rfl
  count:=fun f row n hV q l=>c.r80.go (avP (aWT c) f hV row q n l) rfl
  valid:=aBW c }
theorem agT {C:Ctx} (c:cF C):∀ k a n:Nat,k≤10→a≤1000→n≤40→aG C 215 [.int .i64 a,.int .i64 n,.int .i64 k] .nil (aF (lay (fI (cM n k a))))
 | 0,a,n,l,i,d=>(c.r215.go (l7 0 a n l i d fun _ _ _ h=>by cases h) rfl).seen
 | k+1,a,n,l,i,d=>(c.r215.go (l7 (k+1) a n l i d fun p q h e=>by cases e; exact agT c k p n Om h d) rfl).seen
theorem apV {C:Ctx} (c:cF C):d3 C :=
 {aWU c with
  adm:=fun f p set hV d l e u i q=>c.r213.go (aQN (aWU c) f hV p d l e u i set q) rfl
  choose:=agT c }
theorem apW {C:Ctx} (c:cF C):d6 C :=
 {apV c with
  a4Z:=fun f dom d=>(c.r81.go (amP (aWT c) f d dom) rfl).seen
  has:=fun l x h=>c.r218.go (aQT l h x) rfl }
theorem aNC {C:Ctx} (c:cF C):EV C :=
 { apW c with units:=fun f lv e i d h5=>(c.r217.go (auZ (apW c) f e i lv d h5) rfl).seen }
theorem apX {C:Ctx} (c:cF C):aqG C :=
 {aNC c with
  uG:=fun f lv d e=>(c.r219.go (aHN (aNC c) f e lv d) rfl).seen
  admis:=fun f a5L set e q=>c.r214.go (auP (apV c) f e a5L set q) rfl
  lost:=fun sc set m i l p=>c.r220.go (aHI (apW c) sc i l set p m) rfl }
theorem a0B {C:Ctx} (c:cF C) (hi:oJ C):aqD C :=
 {a0C c hi with
  vq:=fun f a5L e=>(c.r216.go (aQP (apV c) f e a5L) rfl).seen
  m5:=(apX c).uG
  admis:=(apU c).admis
  FX:=(apX c).admis
  rloss:=fun f a5L set lv d e i=>c.r221.go (amI (apX c) f e a5L set i lv d) rfl }
end Y
theorem a3C {C:Ctx} (c:cF C) (hi:oJ C) (r:aM C 226 alY) (f:aE) (e:f.Ok) (a5L:Int) (set:List Int) (lv d:Int):aG C 226 [.agg f.cells,.int .i64 a5L,ints set,.int .i64 lv,.int .i64 d] .nil (aF (.bool true)) :=
 r.go (aPZ (Y.a0B c hi) f e a5L set lv d) rfl
end Go.PM
