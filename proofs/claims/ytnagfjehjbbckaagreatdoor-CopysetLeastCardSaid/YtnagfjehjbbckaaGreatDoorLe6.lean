/-
  Texts of ours, joined: CzW3 CyR1 CyR2 CyR3 CyR4 CyR5 CyR6 CyR7 CyR8 L17Code CyW17 CyW18 CsP4 CsP5 CyP1 CyL1 CyL2 CzW4 CzL1 CzL2 CzL3 CzL4 JzLeast. No condition.
-/
import Derived.Test.YtnagfjehjbbckaaGreatDoorLe1
import Derived.Test.YtnagfjehjbbckaaGreatDoorLe2
import Derived.Test.YtnagfjehjbbckaaGreatDoorLe3
import Derived.Test.YtnagfjehjbbckaaGreatDoorLe4
import Derived.Test.YtnagfjehjbbckaaGreatDoorLe5

set_option linter.unusedSimpArgs false
set_option linter.unusedVariables false
open Nat renaming reduceEqDiff → γ, reduceAdd → δ, reduceSub → ε, reduceMul → ζ, reduceLT → η, reduceLeDiff → θ, reduceBEq → τ
open Int renaming reduceLT → ι, reduceLE → κ, reduceEq → μ, reduceToNat → ν, reduceAdd → ξ, reduceNeg → ο, reduceBEq → ρ, reduceBNe → σ
open List renaming reduceReplicate → υ
open List renaming length_map → a1K, replicate → a1M, getElem_mem → a1N, length_append → a1P, mem_cons → a1R, range → a1S, length_singleton → a1T, getElem?_eq_getElem → a1V, length_take → a2A, not_mem_nil → a2B, take_of_length_le → a2C, all_eq_true → a2F, mem_map → a2G, getElem?_map → a2K, getD_eq_getElem?_getD → a2L, map_append → a2N, take_length → a2O, getElem?_eq_some_iff → a2P, drop_zero → a2S, append_assoc → a2T, map_cons → a2Y, getElem?_eq_none → a2Z, mem_append → a3A, mem_range → a3B, getElem_of_mem → a3D, length_cons → a3E, range' → a3H, take_succ_eq_append_getElem → a3I, append_nil → a3J, drop_eq_getElem_cons → a3K, getElem_map → a3L, length_drop → a3M, Sublist → a3N, mem_singleton → a3O, map_nil → a3Q, mem_of_getElem? → a3R, length_set → a3U, getElem?_append_left → a3Y, length_nil → a3Z, nodup_append → a4C, getElem?_append_right → a4E, take_append_drop → a4H, ext_getElem → a4O, set_append_right → a4P, set_cons_zero → a4R, getElem?_take → a4U, map_congr_left → a4V, drop_of_length_le → a5C, getElem_append_right → a5D
open Nat renaming gcd → a1L, le_refl → a1O, mul_add → a1U, zero_le → a1X, lt_or_ge → a2D, mul_assoc → a2E, zero_add → a2H, mul_comm → a2M, mul_le_mul_right → a2Q, add_mul → a2R, mod_eq_of_lt → a2U, le_trans → a2X, mod_lt → a3C, pow_succ → a3F, add_zero → a3S, add_assoc → a3V, min_eq_left → a3W, mul_le_mul_left → a3X, pos_of_ne_zero → a4A, eq_zero_or_pos → a4D, pow_pos → a4F, div_le_self → a4I, succ_mul → a4J, div_lt_iff_lt_mul → a4L, mul_le_mul → a4S, div_add_mod → a4W, div_eq_of_lt → a4X, pow_le_pow_right → a4Y
open Option renaming map_eq_some_iff → a1Q, map_some → a2V, some → a3T, getD_some → a4G, bind_eq_some_iff → a4Z, bind_some → a5A
open Bool renaming not_true → a1W, false_and → a1Y, and_eq_true → a1Z, not_false → a2I, true_and → a2J, and_false → a2W, and_true → a4B, false_eq_true → a4K, and_self → a4N
open Array renaming replicate → a3G, length_toList → a4M, getElem?_eq_some_iff → a4Q, getElem?_eq_getElem → a4T, getD_eq_getD_getElem? → a5B
open Int renaming toNat_natCast → a3P
namespace Go.PM
open Go Go.Na
abbrev qG:List PV:=[.bool false,.aB,.aB]
theorem rD {f:aJ} {a0L lv cnt:Int} {c:List RF} {e:Int} {res:List dH} (i:e≠0) (h:sH f a0L lv cnt c=e) {F:PF} {H:PH} (d:dH.evs F H res=some [.aB,.agg qG,.int .i64 e]) :
  aX res (cD (mL f a0L lv cnt c)) .ret F H:=by
 have l:mL f a0L lv cnt c=.tup [ints [],.agg (dN false [] []),.int .i64 e]:=by unfold mL uQ;rw[h,if_neg i];show PV.tup [ints [],.agg (dN false (aE 0) (aE 0)),.int .i64 e]=_;rw[dO]
 rw[l];exact aZ (.inr rfl) .nil d a_ ⟨CoL.tup (.cons (.nil 1) (.cons (CoL.agg (.cons (.refl _) (.cons (.nil 1) (.cons (.nil 1) .nil)))) (.cons (.refl _) .nil))),rfl⟩
def y6:Option (List Int)→PV
 | none=>.aB
 | some s=>ints s
theorem YK:y6 none=.aB:=(rfl)
theorem rN (s:List Int):y6 (some s)=ints s:=(rfl)
def YJ (c:List Int→FV):Option (List Int)→List PV
 | none=>qG
 | some s=>(c s).rf.cells
theorem aaY {f:aJ} {a0L lv cnt:Int} {c:List RF} {res:List dH} (h:sH f a0L lv cnt c=0) {s:List Int} (e:jR (iR f a0L lv cnt c) (eD f (cI f a0L))=some s) {F:PF} {H:PH}
  (d:dH.evs F H res=some [ints s,.agg (iR f a0L lv cnt c s).rf.cells,.int .i64 0]):aX res (cD (mL f a0L lv cnt c)) .ret F H:=by
 have i:mL f a0L lv cnt c=.tup [ints s,.agg (iR f a0L lv cnt c s).rf.cells,.int .i64 0]:=by unfold mL uQ;rw[h,if_pos rfl,e];rfl
 rw[i];exact aZ (.inr rfl) .nil d a_ ⟨.refl _,rfl⟩
theorem yD {f:aJ} {p:cB} {s:List Int} (h:s∈eD f p):s.length=(gW p).toNat∧∀ d∈s,0≤d∧d<f.aZZ.length:=by
 unfold eD at h;obtain⟨t,l,rfl⟩:=a2G.1 (List.mem_filter.1 h).1;obtain⟨c,e,-⟩:=qR _ _ _ t l;refine⟨by rw[fK,c],fun d i=>?_⟩;obtain⟨x,u,rfl⟩:=a2G.1 i;have:=e x u;omega
theorem Ju {f:aJ} {p:cB} {s:List Int} (h:s∈eD f p):s.Pairwise (· < ·):=by
 unfold eD at h;obtain⟨t,c,rfl⟩:=a2G.1 (List.mem_filter.1 h).1;exact SA (qR _ _ _ t c).2.2
theorem wh (f:aJ) (p:cB) (i:f.aZZ.length≤12):(eD f p).length≤4096:=by
 unfold eD;refine a2X (List.length_filter_le ..) ?_;rw[a1K];have c:=yF f.aZZ.length (gW p).toNat 0;have d:2 ^ (f.aZZ.length-0)≤2 ^ 12:=a4Y Om Om;have e:(2:Nat) ^ 12=4096:=by decide
 omega
theorem DS {α:Type} {c:α→FV} {l:List α} {b:α} (h:jR c l=some b):b∈l:=by
 obtain⟨r,rfl⟩:∃ r,l=List.reverse r:=⟨l.reverse,by simp⟩
 induction r with
 | nil=>cases h
 | cons s r e =>
  rw[List.reverse_cons] at h ⊢;rw[KJ] at h;cases d:jR c r.reverse with
  | none =>rw[d] at h;simp only[zL,a3T.injEq] at h;simp[h]
  | some i =>
   rw[d] at h;unfold zL at h;simp only at h;split at h
   ·cases h; simp
   ·cases h; exact List.mem_append_left _ (e d)
theorem yB (x:FV):val x.rf.num=x.2.1∧val x.rf.den=x.2.2∧x.rf.neg=x.1:=by
 have:=x.abA;unfold RF.v at this;obtain⟨n,a,b⟩:=x;injection this with d c
 injection c with c e
 exact⟨c,e,d⟩
theorem Q4 (x y:FV):vL x.rf.neg (val x.rf.num) (val x.rf.den) y.rf.neg (val y.rf.num) (val y.rf.den)=if cG x.2.1 x.2.2&&cG y.2.1 y.2.2 then .tup [.int .i64 (lG x y),.int .i64 0] else .tup [.int .i64 0,.int .i64 1]:=by
 obtain⟨c,d,e⟩:=yB x;obtain⟨g1,g2,g3⟩:=yB y;rw[c,d,e,g1,g2,g3]; rfl
theorem O7 (a:Nat):cG a 0=false:=by
 cases h:cG a 0 with
 | false=>rfl
 | true=>exact absurd rfl (dU.1 h).1
theorem aiC {C:Ctx} (W:auX C) (f:aJ) (hf:f.Ok) (a0L lv cnt:Int) (e:List RF) (hp:∀ x∈e,x.Ok) (a':∀ x∈e,nl (val x.num)≤8∧nl (val x.den)≤8) (f':e.length≤1000000) :
  AG.wp C (aX Bi.res (cD (mL f a0L lv cnt e))) (PF.args [.agg f.cells,.int .i64 a0L,oY lv cnt,frs e]) .nil:=by
 have X:sH f a0L lv cnt e=if fN f lv cnt≠0 then fN f lv cnt else if (decide (0≤a0L)&&decide (a0L<f.a0D.length))&&(decide (e.length=f.aZZ.length)&&e.all jG) then (if eD f (cI f a0L)=[] then 12 else 0) else 1:=rfl
 simp only[go_sem,AG,ot,Bi];refine aQ fun K i'=>?_;have h1:aP (PH.nil.set K (.rows 3 [qG])) [(K,.rows 3 [qG])] []:=aP.nil.new (H:=PH.nil) rfl _;generalize (PH.nil.set K _)=H1 at *
 have Q:=h1.at 0 rfl;simp only[go_sem,ou];refine aA (W.vC f lv cnt hf) Sq ?_;by_cases c:fN f lv cnt≠0
 ·simp only[go_sem,KZ,dX c,ov,Q];exact rD c (by rw[X,if_pos c]) Sq
 have c:fN f lv cnt=0:=Decidable.not_not.1 c;rw[if_neg (fun h=>h c)] at X;obtain⟨Λ,Y⟩:=im c;have R:((decide (0≤a0L)&&decide (a0L<f.a0D.length))&&(decide (e.length=f.aZZ.length)&&e.all jG))=false→sH f a0L lv cnt e=1:=fun h=>by rw[X,h]; rfl
 simp only[go_sem,KZ,c,bR (show (0:Int)=0 from rfl),ow];by_cases c1:a0L<0
 ·simp only[go_sem,c1,yU,Q];exact rD (by decide) (R (by rw[decide_eq_false (Om:¬ 0≤a0L)]; simp)) Sq
 by_cases c2:a0L≥(f.a0D.length:Nat)
 ·simp only[go_sem,c1,a1K,c2,yU,Q];exact rD (by decide) (R (by rw[decide_eq_false (Om:¬ a0L<(f.a0D.length:Nat))]; simp)) Sq
 by_cases c3:e.length=f.aZZ.length
 rotate_left
 ·simp only[go_sem,c1,a1K,c2,dX (Om:(e.length:Int)≠(f.aZZ.length:Nat)),yU,Q];exact rD (by decide) (R (by rw[decide_eq_false c3]; simp)) Sq
 simp only[go_sem,c1,a1K,c2,bR (Om:(e.length:Int)=(f.aZZ.length:Nat)),oz];have υ:fW f a0L=true:=by unfold fW;rw[Λ,decide_eq_true (Om:0≤a0L),decide_eq_true (Om:a0L<(f.a0D.length:Nat))]; rfl
 refine wp_loop (α:=Nat × PH) (fun t=>((((((((PF.nil.set 1 (.int .i64 a0L)).set 3 (frs e)).set 4 (.cT f.cells)).set 9 (.ptr K 3 0 0)).set 11 (lay (dE f lv cnt))).set 56 (frs e)).set 57 (.int .i64 (e.length:Nat))).set 58 (.int .i64 t.1))) (fun t=>t.2)
  (fun t=>t.1≤e.length∧(∀ x∈e.take t.1,jG x=true)∧aP t.2 [(K,.rows 3 [qG])] []) (fun t=>e.length-t.1) (0,H1) ⟨a1X _,(fun x h=>by cases h),h1⟩ Lq b_ ?_
 rintro⟨k,H2⟩ ⟨hk,B,h2⟩;simp only at hk B h2 ⊢;have Q:=h2.at 0 rfl;simp only[go_sem,ZJ,pd];by_cases hlt:k<e.length
 ·have w:(k:Int)<(e.length:Nat):=Om;have hr:(e.map RF.cells)[k]?=some (e[k]).cells:=by simp[hlt]
  have Φ:=W.price1 e[k] (hp _ (a1N hlt));have c':e.take (k+1)=e.take k++[e[k]]:=a3I hlt;have φ:e[k]∈e:=a1N hlt;generalize e[k]=y at *
  simp only[go_sem,w,pe,a1K,hr];refine aQ fun j' χ=>?_;have h3:=(h2.new χ (.rows 3 [y.cells])).dropLast;have Q:=h3.at 0 rfl;simp only[go_sem,pi];refine aA Φ Sq ?_;cases hm:jG y with
  | false =>
   simp only[go_sem,a2I,ZL,Q];refine rD (by decide) (R ?_) Sq;have:e.all jG=false:=by
    cases hh:e.all jG with
    | false=>rfl
    | true=>rw[a2F.1 hh _ φ] at hm; cases hm
   rw[this]; simp
  | true =>
   simp only[go_sem,a1W,ZM,wZz k];refine aK (k+1,_) ⟨hlt,fun x hx=>?_,h3⟩ (by simp only; omega) Lq b_;simp only at hx;rw[c'] at hx;rcases a3A.1 hx with hx | hx
   ·exact B x hx
   ·rw[a3O.1 hx]; exact hm
 have w:¬ (k:Int)<(e.length:Nat):=Om;have θ:k=e.length:=Om;subst θ;rw[a2O] at B;rw[decide_eq_true (Om:0≤a0L),decide_eq_true (Om:a0L<(f.a0D.length:Nat)),decide_eq_true c3,a2F.2 B,a4N,a4N,if_pos rfl] at X;have Z:Modest e:=fun x hx=>⟨(NH (B x hx)).elim fun r h=>h.2.2.2,a' x hx⟩;obtain⟨hV,h0,hm,he⟩:=mZ υ;obtain⟨τ,Θ⟩:=mP υ;have E:=hV.a0L _ τ;have σ:=(hf.a0L _ τ).a0A;have ο:(f.a0D.map cB.cells)[a0L.toNat]?=some (cI f a0L).cells:=by rw[a2K,Θ]; rfl
 have Ξ:a0L<(f.a0D.length:Nat):=Om;have μ:=W.sets f (cI f a0L) hV Y E.2.2.2.2.2.2.2 σ E.1 E.2.1 E.2.2.1 E.2.2.2.1;obtain⟨e',ν⟩:=yC hV (eX f lv) (tL hV lv).2 cnt.toNat;have Ψ:dE f lv cnt=mF f (eX f lv) cnt.toNat:=by unfold dE; rw[if_pos c]
 rw[← Ψ] at e' ν;have ι:=fun (set:List Int) (h:set.length≤1000000000000000) (hs:set.Pairwise (· < ·))=>W.loss (dE f lv cnt) set (cI f a0L).m Om (fun s hs=>⟨by have:=(ν s hs).1; omega,(ν s hs).2⟩) h hs;have hP:∀ set,iR f a0L lv cnt e set=iD e (fT (dE f lv cnt) set (cI f a0L).m) set:=fun _=>rfl;have N:∀ set,fT (dE f lv cnt) set (cI f a0L).m≤9223372036854775807:=fun set=>by have:fT (dE f lv cnt) set (cI f a0L).m≤(dE f lv cnt).length:=List.countP_le_length;omega
 have Ω:(gW (cI f a0L)).toNat≤8∧1≤(gW (cI f a0L)).toNat:=by unfold gW; omega
 have J:=fun s (h:s∈eD f (cI f a0L))=>yD h;have b':=fun s (h:s∈eD f (cI f a0L))=>Ju h;have h':=wh f (cI f a0L) Y;simp only[go_sem,w,ZN,h0,Ξ,a1K,ο];refine aQ fun F ψ=>?_;have h3:=h2.new ψ (.rows 17 [(cI f a0L).cells]);simp only[go_sem,ZO,ZP];refine aQ fun A ω=>?_;have h4:=h3.new ω (.rows 3 [qG]);generalize g':(H2.set F _).set A _=H4 at *
 have β:=h4.at 1 rfl;simp only[go_sem,ZQ,β];refine aA μ Sq ?_;simp only[go_sem,a1K];have ζ:∀ t∈eD f (cI f a0L),(iR f a0L lv cnt e t).rf.Ok∧cG (iR f a0L lv cnt e t).2.1 (iR f a0L lv cnt e t).2.2=true:=fun t ht=>by have h1:=N t;have h2:=(J t ht).1;exact LM (sT Z (n:=fT (dE f lv cnt) t (cI f a0L).m) Om t Om) Om
 generalize hS:eD f (cI f a0L)=S at *
 generalize η:iR f a0L lv cnt e=l at *
 refine wp_loop (α:=Nat × PH) (fun t=>(((((((((PF.nil.set 3 (frs e)).set 9 (.ptr K 3 0 0)).set 11 (lay (dE f lv cnt))).set 15 (.ptr F 17 0 0)).set 16 (y6 (jR l (S.take t.1)))).set 17 (.ptr A 3 0 0)).set 74 (lay S)).set 75 (.int .i64 (S.length:Nat))).set 76 (.int .i64 t.1))) (fun t=>t.2)
  (fun t=>t.1≤S.length∧aP t.2 [(K,.rows 3 [qG]),(F,.rows 17 [(cI f a0L).cells]),(A,.rows 3 [YJ l (jR l (S.take t.1))])] []) (fun t=>S.length-t.1) (0,H4) ⟨a1X _,h4⟩ Lq b_ ?_
 rintro⟨k,H5⟩ ⟨hk,h5⟩;simp only at hk h5 ⊢;have Q:=h5.at 0 rfl;have β:=h5.at 1 rfl;have p:=h5.at 2 rfl;simp only[go_sem,ZK,ZR];by_cases hlt:k<S.length
 ·have w:(k:Int)<(S.length:Nat):=Om;have ρ:(S.map fun r=>[ints r])[k]?=some [ints S[k]]:=by simp[hlt]
  have κ:S[k]∈S:=a1N hlt;obtain⟨g1,g2⟩:=J _ κ;have g3:=ι S[k] Om (b' _ κ);have g4:=N S[k];have g5:l S[k]=iD e (fT (dE f lv cnt) S[k] (cI f a0L).m) S[k]:=by rw[← η]; rfl
  have g6:=W.fr.frac (fT (dE f lv cnt) S[k] (cI f a0L).m) 1 (by unfold cL; omega) (by unfold cL; omega);rw[akO g4] at g6;have u:=KJ l (S.take k) S[k];rw[← a3I hlt] at u;obtain⟨ξ,Δ⟩:=ζ _ κ;generalize hs:S[k]=s at *
  generalize fT (dE f lv cnt) s (cI f a0L).m=n at *
  simp only[go_sem,w,ZS,ρ,a1K,ZT,β];refine aA g3 Sq ?_;simp only[go_sem];refine aA g6 Sq ?_;simp only[go_sem];refine aQ fun d' Γ=>?_;have h6:=h5.new Γ (.rows 3 [(FV.rf (false,n,1)).cells]);simp only[go_sem,ZU,a1K];refine Mx W e hp Z n Om s Om (fun d hd=>by have:=g2 d hd; omega) K F A d' (lay (dE f lv cnt)) (y6 (jR l (S.take k))) (lay S) (S.length:Nat) k [(K,.rows 3 [qG]),(F,.rows 17 [(cI f a0L).cells]),(A,.rows 3 [YJ l (jR l (S.take k))])] _ _ _ Lq h6 fun H7 h7=>?_;rw[← g5] at h7;have p:=h7.at 2 rfl;have U:=h7.at 3 rfl;cases M:jR l (S.take k) with
  | none =>
   have hc:=(W.fr.ord (l s).rf (FV.rf (false,0,0)) ξ ⟨aU _,aU _,(by show (aE 0).length≤_; rw[dO]; decide),(by show (aE 0).length≤_; rw[dO]; decide)⟩);rw[Q4] at hc;simp only[O7,a2W,a4K,if_false] at hc;have hz:(FV.rf (false,0,0)).cells=dN false [] []:=by show dN false (aE 0) (aE 0)=_;rw[dO]
   rw[hz] at hc;rw[M] at h7 u p;have p:H7 A=some (.rows 3 [qG]):=p;simp only[go_sem,EF,U,p,YK];refine aA (hc.args (.cons (.refl _) (.cons (CoL.agg (.cons (.refl _) (.cons (.nil 1) (.cons (.nil 1) .nil)))) .nil))) Sq ?_;simp only[go_sem,EG];refine bX .nil eH a_ ?_;simp only[go_sem,EH,U,p];refine⟨a_,?_⟩;simp only[go_sem,vE,wZz k];refine aK (k+1,_) ⟨hlt,?_⟩ (by simp only; omega) (by (repeat' (first|exact d_|refine c_ ?_ ?_))<;>first|(simp only[go_sem,u,zL,rN]<;>rfl)|rfl) b_;show aP _ [(K,.rows 3 [qG]),(F,.rows 17 [(cI f a0L).cells]),(A,.rows 3 [YJ l (jR l (S.take (k+1)))])] [];rw[u];exact (h7.set 2 rfl (.rows 3 [(l s).rf.cells])).mW 3
  | some b =>
   obtain⟨b1,b2⟩:=ζ b (by rw[← hS] at *; exact List.mem_of_mem_take (DS M));have δ:=(J b (List.mem_of_mem_take (DS M))).1;have hc:=W.fr.ord (l s).rf (l b).rf ξ b1;rw[Q4,Δ,b2,a4N,if_pos rfl] at hc;rw[M] at h7 u p;have p:H7 A=some (.rows 3 [(l b).rf.cells]):=p;obtain⟨x,r,rfl⟩:∃ x r,b=x::r:=by
    cases b with
    | nil=>simp at δ; omega
    | cons x r=>exact⟨x,r,rfl⟩
   have O:(ints (x::r)).uL=some false:=rfl;simp only[go_sem,EF,U,p,rN];refine aA hc Sq ?_;simp only[go_sem,EG,O];by_cases V:lG (l s) (l (x::r))<0
   ·have u:jR l (S.take (k+1))=some s:=by rw[u]; unfold zL; simp only[if_pos V]
    simp only[go_sem,V];refine bX .nil eH a_ ?_;simp only[go_sem,EH,U,p];refine⟨a_,?_⟩;simp only[go_sem,vE,wZz k];refine aK (k+1,_) ⟨hlt,?_⟩ (by simp only; omega) (by (repeat' (first|exact d_|refine c_ ?_ ?_))<;>first|(simp only[go_sem,u,rN]<;>rfl)|rfl) b_;show aP _ [(K,.rows 3 [qG]),(F,.rows 17 [(cI f a0L).cells]),(A,.rows 3 [YJ l (jR l (S.take (k+1)))])] [];rw[u];exact (h7.set 2 rfl (.rows 3 [(l s).rf.cells])).mW 3
   ·have u:jR l (S.take (k+1))=some (x::r):=by rw[u]; unfold zL; simp only[if_neg V]
    simp only[go_sem,V,vE,wZz k];refine aK (k+1,_) ⟨hlt,?_⟩ (by simp only; omega) (by (repeat' (first|exact d_|refine c_ ?_ ?_))<;>first|(simp only[go_sem,u,rN]<;>rfl)|rfl) b_;show aP _ [(K,.rows 3 [qG]),(F,.rows 17 [(cI f a0L).cells]),(A,.rows 3 [YJ l (jR l (S.take (k+1)))])] [];rw[u];exact h7.mW 3
 have w:¬ (k:Int)<(S.length:Nat):=Om;have θ:k=S.length:=Om;subst θ;rw[a2O] at h5 p;simp only[go_sem,w,a2O];cases M:jR l S with
 | none =>
  have γ:S=[]:=by
   rcases nr l S (fun t ht=>(dU.1 (ζ t ht).2).1) with ⟨-,h⟩ | ⟨i,b,h,-⟩
   ·exact h
   ·rw[h] at M; cases M
  rw[if_pos γ] at X;simp only[go_sem,EI,YK,ZZ,Q];exact rD (by decide) X Sq
 | some b =>
  have ε:=DS M;have γ:¬ S=[]:=fun h=>by rw[h] at ε; cases ε
  have δ:=(J b ε).1;rw[if_neg γ] at X;rw[M] at p;have p:H5 A=some (.rows 3 [(l b).rf.cells]):=p;have O:(ints b).uL=some false:=by
   cases b with
   | nil=>simp at δ; omega
   | cons x r=>rfl
  simp only[go_sem,EI,rN,O];refine bX .nil eH a_ ?_;simp only[go_sem,aa,Q,p];refine⟨a_,?_⟩;rw[← η,← hS] at M;rw[← η];exact aaY X M Sq








def uc:Rg:=[iT 0 false]
def ud:Rg:=[iA 10 (.call 27 [(.const .aB),(Ci 1),(Ci 0)]),iA 1 (.alloc [zI,.aB,.aB,.aB,.aB,.aB,.aB]),iS 7 1 10]
def ue:Rg:=[iO 12 7 1,iA 13 (.call 205 [(Tm 12),(Ci 0)]),iM 11 13,iE 14 11 0,iE 15 11 1,iM 2 14,iM 3 15]
def ug:Rg:=[iO 17 7 1,iA 18 (.build [zI,zI] [(0,1,(Ci 5)),(1,1,(Ci 1))]),iK2 19 230 17 18,iM 16 19,iE 20 16 0,iE 21 16 1,iM 4 20,iM 5 21]
def uh:Rg:=[iO 23 7 1,iA 24 (.a0F true 1 1 [zI] [(0,(Ci 0))]),iA 25 (.build [zI,zI] [(0,1,(Ci 1)),(1,1,(Ci 1))]),iA 26 (.call 209 [(Tm 23),(Ci 0),(Tm 24),(Tm 25)]),iM 22 26,iE 27 22 0,iE 28 22 1,iM 6 27,iM 7 28]
def ui:Rg:=[iO 30 7 1,iA 31 (.call 205 [(Tm 30),(Ci 5)]),iM 29 31,iE 32 29 0,iE 33 29 1,iM 8 32,iM 9 33]
def uj:Rg:=[iM 34 3,iC 35 .eql 34 0,iM 36 35,gM 37 2 36 true,iG 38 (.a0F true 1 1 [zI] [(0,(Ci 0))]) 36 true,iG 39 (.a0F true 1 1 [.aB] [(0,(Tm 38))]) 36 true,gK2 40 212 37 39 36 true,iP 41 36 40,iM 42 41,gM 43 5 42 true,gC 44 .eql 43 0 42 true,iP 45 42 44,iM 46 45,gM 47 4 46 true,iG 48 (.a0F true 1 1 [zI] [(0,(Ci 0))]) 46 true,iG 49 (.a0F true 1 1 [.aB] [(0,(Tm 48))]) 46 true,gK2 50 212 47 49 46 true,iP 51 46 50,iM 52 51,gM 53 7 52 true,gC 54 .eql 53 0 52 true,iP 55 52 54,iM 56 55,gM 57 6 56 true,gC 58 .eql 57 1 56 true,iP 59 56 58,iM 60 59,gM 61 9 60 true,gC 62 .eql 61 1 60 true,iP 63 60 62,iM 0 63]
def AU:aC:=(sq uc (sq ud (sq ue (sq ug (sq uh (sq ui (sq uj .ret)))))))
def akV:List Nat:=[24,38,39,48,49]
def Ho:aR:=⟨0,64,AU,[.tmp 0]⟩
def um:Rg:=[iA 4 (.alloc [zI,zI])]
def uo:Rg:=[iM 5 0,iA 6 (.conv .i64 (Tm 5)),iC 7 .rem 6 5,iA 8 (.bin .add (Ci 1) (Tm 7)),iM 9 1,iA 10 (.conv .i64 (Tm 9)),iC 11 .rem 10 3,iA 12 (.bin .add (Ci 1) (Tm 11)),iA 13 (.build [zI,zI] [(0,1,(Tm 8)),(1,1,(Tm 12))]),iS 2 4 13]
def BH:aC:=(sq um (sq uo .ret))
def akY:List Nat:=[]
def Ik:aR:=⟨2,14,BH,[.cell 4 (some 2)]⟩
structure aFL (C:Ctx):Prop where
 same1:∀ l:List Int,Fits l→aF C 94 [ints l,ints l] .nil (aH (.bool true))
 fleet:∀ (l:List Nat),(∀ x∈l,x<256)→l.length≤9223372036854775807→∀ aZZ a0B:Nat,aZZ≤60→a0B≤50 →
  aF C 27 [.sl 1 (jW l),.int .i64 aZZ,.int .i64 a0B] .nil (aH (.agg (fL (l.take 400) aZZ a0B 0).1.cells))
 all:∀ (f:aJ) (a0L:Int),f.Ok→aF C 205 [.agg f.cells,.int .i64 a0L] .nil (aH (.tup [lay (j9 f a0L),.int .i64 (AA f a0L)]))
 vC:∀ (f:aJ) (lv cnt:Int),f.Ok→aF C 230 [.agg f.cells,oY lv cnt] .nil (aH (.tup [lay (dE f lv cnt),.int .i64 (fN f lv cnt)]))
 loss:∀ (f:aJ) (a0L:Int) (set:List Int) (lv cnt:Int),f.Ok→set.length≤1000000000000000→aF C 209 [.agg f.cells,.int .i64 a0L,ints set,oY lv cnt] .nil (aH (.tup [.int .i64 (vO f a0L set lv cnt:Nat),.int .i64 (nY f a0L set lv cnt)]))
theorem awS {C:Ctx} (same1:∀ l:List Int,Fits l→aF C 94 [ints l,ints l] .nil (aH (.bool true))) (a:List (List Int)) (i:a.length≤9000000000000000000) (e:∀ w∈a,w.length≤9000000000000000000) :
  EW.wp C (aX Ym.res (aH (.bool true))) (PF.args [lay a,lay a]) .nil:=by
 simp only[go_sem,EW,Ck,Cl,Ym,a1K,bR (show (a.length:Int)=(a.length:Nat) from rfl),Cm];refine wp_loop (α:=Nat) (fun k=>(((PF.nil.set 0 (lay a)).set 1 (lay a)).set 5 (.int .i64 k))) (fun _=>.nil) (fun k=>k≤a.length) (fun k=>a.length-k) 0 (a1X _) Lq a_ ?_;intro k p;simp only[go_sem,Cj,Cn,a1K];by_cases hlt:k<a.length
 ·have c:(k:Int)<(a.length:Nat):=Om;have d:(a.map fun w=>[ints w])[k]?=some [ints a[k]]:=by simp[hlt]
  have u:=e a[k] (a1N hlt);generalize a[k]=x at *
  simp only[go_sem,c];refine bX .nil (cyS (.bool true)) a_ ?_;simp only[go_sem,Cp,d,a1K];refine cK rfl (same1 x Om) Sq a_ ?_;simp only[go_sem,a1W,Cq,wZz k];exact aK (k+1) hlt Om Lq a_
 ·have c:¬ (k:Int)<(a.length:Nat):=Om;simp only[go_sem,c,Cr];refine bE (.inr rfl) Ev ?_;rfl
noncomputable def oC:aJ:=(fL [] 1 0 0).1
theorem RC:oC.Ok:=aPQ (by decide +kernel)
theorem XM:j9 oC 0=[[0]]∧AA oC 0=0∧AA oC 5=1:=by decide +kernel
theorem wk:dE oC 5 1=[[0]]∧fN oC 5 1=0:=by decide +kernel
theorem wj:vO oC 0 [0] 1 1=1∧nY oC 0 [0] 1 1=0:=by decide +kernel
structure Ae (C:Ctx):Prop extends aFL C where
 sets:∀ a:List (List Int),a.length≤9000000000000000000→(∀ w∈a,w.length≤9000000000000000000)→aF C 212 [lay a,lay a] .nil (aH (.bool true))
theorem akX {C:Ctx} (a b:Nat) (x:a<256) (y:b<256):BH.wp C (aX Ik.res (aH (oY (1+a%5:Nat) (1+b%3:Nat)))) (PF.args [.int .u8 a,.int .u8 b]) .nil:=by
 have e:IntKind.i64.wrap (a:Int)=a:=wrap_i64 Om Om;have i:IntKind.i64.wrap (b:Int)=b:=wrap_i64 Om Om;have c:Int.tmod (a:Int) 5=((a%5:Nat):Int):=by rw[Int.tmod_eq_emod_of_nonneg Om]; omega
 have d:Int.tmod (b:Int) 3=((b%3:Nat):Int):=by rw[Int.tmod_eq_emod_of_nonneg Om]; omega
 have l:IntKind.i64.wrap ((a%5:Nat):Int)=((a%5:Nat):Int):=wrap_i64 Om Om;have p:IntKind.i64.wrap ((b%3:Nat):Int)=((b%3:Nat):Int):=wrap_i64 Om Om;have u:IntKind.i64.wrap (1+((a%5:Nat):Int))=((1+a%5:Nat):Int):=by rw[wrap_i64 Om Om]; omega
 have w:IntKind.i64.wrap (1+((b%3:Nat):Int))=((1+b%3:Nat):Int):=by rw[wrap_i64 Om Om]; omega
 simp only[go_sem,BH,um,Ik];refine aQ fun o A=>?_;simp only[go_sem,uo,e,i,c,d,l,p,u,w,a1R,a2B,or_false,forall_eq,forall_eq_or_imp];refine bE (.inr rfl) (vs:=[oY (1+a%5:Nat) (1+b%3:Nat)]) ?_ rfl;simp only[go_sem]
theorem akU {C:Ctx} (L:Ae C):AU.wp C (aX Ho.res (aH (.bool true))) (PF.args []) .nil:=by
 have p:=L.fleet [] (fun x u=>by cases u) (by decide) 1 0 (by decide) (by decide);have c:aF C 27 [.sl 1 (jW []),.int .i64 (1:Nat),.int .i64 (0:Nat)] .nil (aH (.agg oC.cells)):=p;have d:=L.all oC 0 RC;rw[XM.1,XM.2.1] at d;have e:=L.vC oC 5 1 RC;rw[wk.1,wk.2] at e;have i:=L.loss oC 0 [0] 1 1 RC (by decide);rw[wj.1,wj.2] at i;have l:=L.all oC 5 RC;rw[XM.2.2] at l;have h5:=L.sets [[0]] (by decide) (by decide);generalize oC=f at *
 simp only[go_sem,AU,uc,ud,Ho];refine aA (c.args (.Ya (.nil 1) (.Ya (.refl _) (.Ya (.refl _) .aXE)))) (by simp only[go_sem]; rfl) ?_;simp only[go_sem];refine aQ fun o w=>?_;simp only[go_sem,ue];refine aA d Sq ?_;simp only[go_sem,ug];refine aA e Sq ?_;simp only[go_sem,uh];refine aA i (by simp only[go_sem]; rfl) ?_;simp only[go_sem,ui];refine aA l Sq ?_;simp only[go_sem,uj,bN (show (0:Int)=0 from rfl)];refine aA h5 (by simp only[go_sem]; rfl) ?_;simp only[go_sem,bN (show (0:Int)=0 from rfl)];refine aA h5 (by simp only[go_sem]; rfl) ?_;simp only[go_sem,bN (show (0:Int)=0 from rfl),bN (show ((1:Nat):Int)=1 from rfl),bN (show (1:Int)=1 from rfl)];refine bE (.inr rfl) Ev ?_;rfl
theorem Oq (n k a:Nat) (h:a<n):cW n (k+1) a=(cW n k (a+1)).map (a::·)++cW n (k+1) (a+1):=by
 rw[cW];by_cases c:n-k-a=0
 ·have d:n-k-(a+1)=0:=Om;rw[cW,c,d];have:cW n k (a+1)=[]:=by
   cases k with
   | zero=>omega
   | succ k=>rw[cW,show n-k-(a+1)=0 by omega]; rfl
  rw[this]; rfl
 ·obtain⟨m,e⟩:∃ m,n-k-a=m+1:=⟨n-k-a-1,by omega⟩;rw[cW,e,List.range'_succ,List.flatMap_cons,show n-k-(a+1)=m by omega]
def Grow (P:List Nat→Bool):Prop:=∀ s t:List Nat,(∀ x∈s,x∈t)→P s=true→P t=true
theorem Grow.cons {P:List Nat→Bool} (h:Grow P) (a:Nat):Grow fun s=>P (a::s):=fun s t c i =>
 h (a::s) (a::t) (fun x d=>(a1R.1 d).elim (fun e=>e ▸ List.mem_cons_self) fun d=>List.mem_cons_of_mem _ (c x d)) i
def gY (n k a:Nat) (P:List Nat→Bool):Nat:=(cW n k a).countP P
theorem xK (n k a:Nat) (h:a<n) (P:List Nat→Bool):gY n (k+1) a P=gY n k (a+1) (fun s=>P (a::s))+gY n (k+1) (a+1) P:=by
 unfold gY;rw[Oq n k a h,List.countP_append,List.countP_map];rfl
theorem aiB (n k a:Nat) {P Q:List Nat→Bool} (h:∀ s,P s=true→Q s=true):gY n k a P≤gY n k a Q:=List.countP_mono_left fun s _ c=>h s c
theorem AF (n a:Nat) (P:List Nat→Bool):gY n 0 a P=if P [] then 1 else 0:=by
 unfold gY; rw[cW,List.countP_cons,List.countP_nil,a2H]
theorem EB (n:Nat):∀ (m k a:Nat) (P:List Nat→Bool),Grow P→a+m=n→(m-k)*gY n k a P≤(k+1)*gY n (k+1) a P
 | 0,k,a,P,_,_=>by rw[Nat.zero_sub,Nat.zero_mul]; exact a1X _
 | m+1,0,a,P,d,h=>by
  rw[xK n 0 a Om,AF,AF];have l:=EB n m 0 (a+1) P d Om;rw[AF] at l;cases i:P [] with
  | false=>rw[if_neg (by simp)]; omega
  | true =>have p:P [a]=true:=d [] [a] (fun x e=>by cases e) i;rw[if_pos i] at l;rw[if_pos rfl,if_pos p];omega
 | m+1,k+1,a,P,d,h=>by
  have B:=EB n m (k+1) (a+1) P d Om;have E:=EB n m k (a+1) (fun s=>P (a::s)) (d.cons a) Om;have u:=aiB n (k+1) (a+1) (P:=P) (Q:=fun s=>P (a::s)) fun s A=>d s (a::s) (fun x e=>List.mem_cons_of_mem _ e) A;rw[xK n k a Om,xK n (k+1) a Om];generalize gY n (k+1) (a+1) P=x at *
  generalize gY n (k+1+1) (a+1) P=y at *
  generalize gY n k (a+1) (fun s=>P (a::s))=z at *
  generalize gY n (k+1) (a+1) (fun s=>P (a::s))=w at *
  rw[show m+1-(k+1)=m-k by omega,a1U,a1U];have F:(m-k)*x≤(m-(k+1))*x+x:=by
   rcases a2D k m with c | c
   ·rw[show m-k=(m-(k+1))+1 by omega,a4J]; exact a1O _
   ·rw[show m-k=0 by omega,Nat.zero_mul]; exact a1X _
  have H:(k+1+1)*w=(k+1)*w+w:=a4J _ _;omega
theorem avY {n k:Nat} {P:List Nat→Bool} (e:Grow P) (h:2*k+1≤n):gY n k 0 P≤gY n (k+1) 0 P:=by
 have c:=EB n n k 0 P e Om;have d:(k+1)*gY n k 0 P≤(n-k)*gY n k 0 P:=a2Q _ Om;exact Nat.le_of_mul_le_mul_left (a2X d c) Om
theorem Gi (f:aJ) (u:List (List Int)) (k:Nat) (set:List Int) (m:Int):fT (mF f u k) set m=gY u.length k 0 fun s=>decide (((kZ (bZ ((a1S f.aZZ.length).filter (oX u s))) set:Nat):Int)>m):=by
 unfold fT mF gY;rw[List.countP_map];rfl
theorem akH {f:aJ} {u:List (List Int)} {k:Nat} {set:List Int} {m:Int} (h:2*k+1≤u.length):fT (mF f u k) set m≤fT (mF f u (k+1)) set m:=by
 rw[Gi,Gi];refine avY (fun s t l w=>?_) h;have y:=of_decide_eq_true w;refine decide_eq_true ?_;have:kZ (bZ ((a1S f.aZZ.length).filter (oX u s))) set≤kZ (bZ ((a1S f.aZZ.length).filter (oX u t))) set:=by unfold kZ;refine List.countP_mono_left fun d _ e=>?_;rw[List.contains_iff_mem] at e ⊢;unfold bZ at e ⊢;rw[a2G] at e ⊢;obtain⟨x,c,rfl⟩:=e;refine⟨x,?_,rfl⟩;rw[List.mem_filter] at c ⊢;refine⟨c.1,?_⟩;unfold oX at c ⊢;rw[List.any_eq_true] at c ⊢;obtain⟨-,i,hi,p⟩:=c;exact⟨i,l i hi,p⟩
 omega
def lvC (L:Int) (ds:List cN):Nat:=ds.countP fun x=>decide (x.level=L)
def lvT:Nat→Int→Nat
 | 0,_=>0
 | k+1,L=>(if 4-k=2 then 1 else 2)*((if ((4-k:Nat):Int)=L then 1 else 0)+lvT k L)
theorem FP (l:List Nat) (mc aZZ domain:Nat) (s:GS):∀ i,(iH l mc aZZ domain s i).a0I=s.a0I
 | 0=>rfl
 | i+1=>by
  rw[iH];simp only;split
  ·exact FP l mc aZZ domain s i
  ·exact FP l mc aZZ domain s i
theorem aHC (l:List Nat) (level domain:Nat) (s:GS) (L:Int):lvC L (kG l level domain s).a0I=lvC L s.a0I+if (level:Int)=L then 1 else 0:=by
 unfold kG lvC;simp only[List.countP_append,List.countP_cons,List.countP_nil,a2H,decide_eq_true_eq]
theorem Eu {l:List Nat} {level aZZ domain b:Nat} {rec:Nat→GS→GS} {L:Int} (c:∀ d s,lvC L (rec d s).a0I≤lvC L s.a0I+b) (s:GS):∀ i,lvC L (fC l level aZZ domain rec s i).a0I≤lvC L s.a0I+i*((if (level:Int)=L then 1 else 0)+b)
 | 0=>by rw[fC]; omega
 | i+1=>by
  have p:=Eu (l:=l) (level:=level) (aZZ:=aZZ) (domain:=domain) c s i;rw[fC];simp only;rw[a4J];split
  ·omega
  ·have e:=c ((kG l level domain (fC l level aZZ domain rec s i)).a0I.length-1) (kG l level domain (fC l level aZZ domain rec s i));rw[aHC] at e;omega
theorem Ex (l:List Nat) (mc aZZ:Nat) (L:Int):∀ (k domain:Nat) (s:GS),lvC L (eF l mc aZZ k domain s).a0I≤lvC L s.a0I+lvT k L
 | 0,domain,s=>by rw[eF];rw[FP];exact Nat.le_add_right _ _
 | k+1,domain,s=>by rw[eF];have c:=Eu (l:=l) (level:=4-k) (aZZ:=aZZ) (domain:=domain) (rec:=eF l mc aZZ k) (Ex l mc aZZ L k) { s with a:=(aD l 2 s.a).2 } (if 4-k=2 then 1 else 1+(aD l 2 s.a).1);refine a2X c (Nat.add_le_add_left ?_ _);rw[lvT];refine a2Q _ ?_;have:=cE l (show 0<2 by decide) s.a;split<;>omega
theorem aiZ (l:List Nat) (aZZ a0B a:Nat) {L:Int} (d:1≤L) (e:L≤4):lvC L (fL l aZZ a0B a).1.a0C≤8:=by
 unfold fL;simp only;refine a2X (Ex l _ aZZ L 4 0 _) ?_;have c:lvC L [jU]=0:=by unfold lvC jU;simp only[List.countP_cons,List.countP_nil,decide_eq_true_eq];rw[if_neg Om]
 rw[c];have:L=1∨L=2∨L=3∨L=4:=Om;rcases this with rfl | rfl | rfl | rfl<;>decide
theorem ayD (f:aJ) (L:Int):((a1S f.a0C.length).filter fun i=>decide (lvl f i=L)).length=lvC L f.a0C:=by
 rw[← List.countP_eq_length_filter];unfold lvC lvl;have c:∀ (ds:List cN),(a1S ds.length).countP (fun i=>decide ((ds.map cN.level).getD i 0=L))=ds.countP fun x=>decide (x.level=L):=by
  intro ds
  induction ds with
  | nil=>rfl
  | cons d ds e =>rw[a3E,List.range_succ_eq_map,List.countP_cons,List.countP_map,List.countP_cons,← e];rfl
 exact c f.a0C
theorem A8:∀ m:Fin 10,∀ c:Fin 4,eP (m.val:Int) c.val≤512:=by decide
theorem yg (l:List Nat) (aZZ a0B:Nat) {a:Nat} (h:a≤l.length):(fL l aZZ a0B a).1.aZZ.length≤aZZ:=by
 have p:=bK l 2 h;have e:=bK l 2 p;obtain⟨d,-⟩:=GD l e (1+(aD l 2 (aD l 2 a).2).1);have i:=bK l 2 d;obtain⟨c,-⟩:=wB l (1+(aD l 2 (aD l 2 a).2).1) i (1+(aD l 2 (fZ l (aD l 2 (aD l 2 a).2).2 (1+(aD l 2 (aD l 2 a).2).1)).2).1);obtain⟨u,-⟩:=FQ (mc:=1+(aD l 2 (fZ l (aD l 2 (aD l 2 a).2).2 (1+(aD l 2 (aD l 2 a).2).1)).2).1) 4 0 (⟨by simp,a1X _,c⟩:GOk l aZZ ⟨[jU],[],_⟩);exact u.a0S
theorem JX (l:List Nat) (a0A a:Nat):∀ k,(dB l a0A a k).1.length=k
 | 0=>rfl
 | k+1=>by have:=JX l a0A a k;rw[dB];simp[this]
theorem M1 (l:List Nat) (aZZ a0B a:Nat):1≤(fL l aZZ a0B a).1.a0D.length:=by
 unfold fL;simp only;rw[JX];omega
theorem asS (f:aJ) (lv:Int):(eX f lv).length=if lv=5 then f.aZZ.length else lvC lv f.a0C:=by
 unfold eX;split
 ·simp
 ·rw[a1K]; exact ayD f lv
structure tO (f:aJ):Prop where
 ok:f.Ok
 valid:jP f=true
 aZZ:f.aZZ.length≤9
 lv:∀ L:Int,1≤L→L≤4→lvC L f.a0C≤8
theorem tO.num {f:aJ} (h:tO f) {lv:Int} (c:1≤lv) (h5:lv≤5):(eX f lv).length≤9:=by
 rw[asS];split
 ·exact h.aZZ
 ·have:=h.lv lv c Om; omega
theorem tO.vC {f:aJ} (h:tO f) {lv:Int} (d:1≤lv) (h5:lv≤5) {c:Nat} (i:1≤c) (l:c≤3):fN f lv c=0:=by
 have p:=h.num d h5;have e:=A8 ⟨(eX f lv).length,by omega⟩ ⟨c,by omega⟩;simp only at e;unfold fN;rw[h.valid,decide_eq_true d,decide_eq_true h5,decide_eq_true (Om:(1:Int)≤(c:Int)),decide_eq_true (Om:(c:Int)≤3),a4N,a4N,a4N,a4N,if_pos rfl,a3P,if_neg];have:=h.aZZ;omega
theorem tO.all {f:aJ} (h:tO f) {p:Int} (d:fW f p=true):AA f p=0∧j9 f p=eD f (cI f p):=by
 have c:AA f p=0:=by unfold AA;rw[d,if_pos rfl,if_neg];have:=h.aZZ;omega
 exact⟨c,by unfold j9; rw[if_pos c]⟩
theorem avE {s:List Nat} {n top:Nat} (l:s.length=n) (p:∀ x∈s,x<top) (u:s.Pairwise (· < ·)):pM (bZ s) n top=true:=by
 unfold pM;rw[fK,l,decide_eq_true rfl,a2J];simp only[a2F,a3B];intro i hi;have d:i<s.length:=Om;have g:(bZ s).getD i 0=(s[i]:Nat):=by unfold bZ; simp[a2L,d]
 unfold mV;rw[g];have w:=p _ (a1N d);simp only[a1Z,Bool.or_eq_true,decide_eq_true_eq];refine⟨by omega,?_⟩;by_cases c:i=0
 ·exact .inl c
 ·right;have e:i-1<s.length:=Om;have g2:(bZ s).getD (i-1) 0=(s[i-1]:Nat):=by unfold bZ; simp[a2L,e]
  rw[g2];have:=List.pairwise_iff_getElem.1 u (i-1) i e d Om;omega
theorem Jv {f:aJ} {p:Int} (c:fW f p=true) {set:List Int} (h:set∈eD f (cI f p)):DO f p set=true∧set.length≤8:=by
 obtain⟨hV,-⟩:=mZ c;have d:=hV.a0L _ (mP c).1;unfold eD at h;rw[List.mem_filter] at h;obtain⟨i,l⟩:=h;obtain⟨s,u,rfl⟩:=a2G.1 i;obtain⟨k1,k2,y⟩:=qR _ _ _ _ u;have e:((gW (cI f p)).toNat:Int)=gW (cI f p):=by unfold gW; omega
 have:=avE k1 (fun x w=>(k2 x w).2) y;rw[e] at this;refine⟨by unfold DO; rw[c,this,l]; rfl,?_⟩;rw[fK,k1];unfold gW; omega
theorem tO.more {f:aJ} (h:tO f) {p:Int} (w:fW f p=true) {lv:Int} (i:1≤lv) (h5:lv≤5) {c:Nat} (u:1≤c) (A:c≤2) (x:2*c+1≤(eX f lv).length) {set:List Int} (y:set∈eD f (cI f p)) :
  nY f p set lv c=0∧nY f p set lv ((c+1:Nat):Int)=0∧vO f p set lv c≤vO f p set lv ((c+1:Nat):Int):=by
 have s1:=h.vC i h5 u (Om:c≤3);have s2:=h.vC i h5 (Om:1≤c+1) (Om:c+1≤3);obtain⟨l,-⟩:=Jv w y;have d:nY f p set lv c=0:=by unfold nY; rw[s1,l]; rfl
 have e:nY f p set lv ((c+1:Nat):Int)=0:=by unfold nY; rw[s2,l]; rfl
 refine⟨d,e,?_⟩;unfold vO dE;rw[if_pos d,if_pos e,if_pos s1,if_pos s2,a3P,a3P];exact akH x
structure ahM (C:Ctx):Prop extends Ae C where
 yz:aF C 222 [] .nil (aH (.bool true))
 fails:∀ a b:Nat,a<256→b<256→aF C 223 [.int .u8 a,.int .u8 b] .nil (aH (oY (1+a%5:Nat) (1+b%3:Nat)))

theorem aIS (n:Nat):mkT n 1=FV.rf (false,n,1):=by
 rw[QS,Int.natAbs_natCast,decide_eq_false (Om:¬ (n:Int)<0)]; rfl
theorem aPS (x y:FV):tE x.rf y.rf=lG x y:=by
 obtain⟨c,d,e⟩:=yB x;obtain⟨g1,g2,g3⟩:=yB y;unfold tE;rw[c,d,e,g1,g2,g3]; rfl
theorem JC {x:FV} (h:cG x.2.1 x.2.2=true):x.rf.valid:=by
 obtain⟨c,d,e⟩:=yB x;unfold RF.valid;rw[c,d]; exact h
section
variable {C:Ctx} {F:PF} {H:PH}
theorem Qi {o s:Nat} {rs:List (List PV)}:∀ {args:List aN} {vs:List PV},aN.evs F args=some vs→(∀ a∈args,∃ t,a=.tmp t)→aN.evs (F.frz o s rs) args=some (vs.map (PV.frz o s rs))
 | [],vs,h,_=>by rw[CS] at h;cases h;rfl
 | a::p,vs,h,c=>by
  obtain⟨t,rfl⟩:=c a (by simp);rw[qJ,CR] at h;split at h
  ·rename_i v l d e;cases h;rw[qJ,CR,mK,d,Qi e fun b i=>c b (List.mem_cons_of_mem _ i)];rfl
  ·cases h
theorem Mn {name s:Nat} {u r:PV} {rows:List (List PV)} {pre:List PV} {args:List aN} {d:Option Nat} {K:PF→PH→Prop} (N:bP H s u rows) (h:aF C name (pre++[.sl s rows]) .nil (aH r)) (y:aN.evs F args=some (pre++[u])) (B:∀ a∈args,∃ t,a=.tmp t) (c:∀ x∈pre,Fx x)
  (p:∀ (l:PF) (J:PH) (M:PV),Seen s M rows→(∀ t,F t=some u→l t=some M)→(∀ i w,F i=some w→Fx w→l i=some w)→(∀ o x,H o=some x→u.oid≠some o→(∀ q s rs,bY.frz q s rs x=x)→J o=some x)→K (l.put d r) J):hL C name args [] d K F H:=by
 rcases N with ⟨rfl,rfl⟩ | ⟨q,rs,rfl,h1,h2,h3⟩
 ·refine aA (vs:=pre++[.aB]) (h.args ?_) y (p F H .aB (.inl ⟨rfl,rfl⟩) (fun t h=>h) (fun i w h _=>h) fun o x h _ _=>h);clear h y c p
  induction pre with
  | nil=>exact .cons (.nil s) .nil
  | cons x xs R=>exact .cons (.refl x) R
 ·refine .inr ⟨_,_,.step q h1 (.refl _ _),pre++[.sl s rows],.nil,aH r,?_,a_,h,?_⟩
  ·rw[Qi y B,a2V,a3J,a2N];congr 2
   ·conv=>rhs; rw[← List.map_id pre]
    exact a4V fun x E=>c x E _ _ _
   ·rw[a2Y,a3Q,qY h2,h3]
  ·rintro S H' ⟨rfl,rfl⟩ -;rw[PH.tG];refine p _ _ (.sl s rows) (.inr rfl) (fun t B=>?_) (fun i w hi Q=>?_) fun o x O A E=>?_
   ·rw[mK,B,a2V,qY h2,h3]
   ·rw[mK,hi,a2V,Q]
   ·have:o≠q:=fun e=>A (by rw[e]; rfl);rw[tB,if_neg this,O,a2V,E]
end
abbrev cw (l:List Int):PV:=.sl 1 (l.map fun x=>[.int .i8 x])
theorem S0 (n d:Int) (e:cL n) (c:cL d) (p:d≠0):(mkT n d).Ok∧nl (val (mkT n d).num)≤8∧nl (val (mkT n d).den)≤8:=by
 have i:nl n.natAbs≤2:=jB (by unfold cL at e; omega);have l:nl d.natAbs≤2:=jB (by unfold cL at c; omega);unfold mkT lF FV.rf;simp only;have u:=nC (a1L n.natAbs d.natAbs) i;have w:=nC (a1L n.natAbs d.natAbs) l;refine⟨⟨aU _,aU _,?_,?_⟩,?_,?_⟩
 ·simp only[aW]; omega
 ·simp only[aW]; omega
 ·simp only[aT]; omega
 ·simp only[aT]; omega
abbrev CZ (l:List RF):List (List PV):=l.map RF.cells
theorem RU (l:List RF) (h:l.length≤1000):roomFor (CZ l).length 1 56:=by
 unfold roomFor;simp only[a1K,maxLen]; omega
theorem aMU:(FV.rf (false,0,0)).Ok:=by
 refine⟨aU _,aU _,?_,?_⟩
 ·show (aE 0).length≤_;rw[dO]; decide
 ·show (aE 0).length≤_;rw[dO]; decide
theorem aaX {f:aJ} {a0L lv cnt:Int} {d:List RF} (F:∀ x∈d,nl (val x.num)≤8∧nl (val x.den)≤8) :
  ∃ (J:List Int) (x:RF) (e:Int),mL f a0L lv cnt d=.tup [ints J,.agg x.cells,.int .i64 e]∧x.Ok∧J.length≤1000:=by
 unfold mL;refine⟨_,_,_,rfl,?_⟩;cases y:uQ f a0L lv cnt d with
 | none=>exact⟨aMU,a1X _⟩
 | some b =>
  unfold uQ at y;split at y
  ·rename_i i;unfold sH at i;split at i
   ·rename_i w; exact absurd i w
   ·rename_i c;have c:fN f lv cnt=0:=Decidable.not_not.1 c;split at i
    ·rename_i w;simp only[a1Z,decide_eq_true_eq,a2F] at w;obtain⟨⟨Q,R⟩,U,l⟩:=w;obtain⟨A,K⟩:=im c;have p:fW f a0L=true:=by unfold fW;rw[A,decide_eq_true Q,decide_eq_true R]; rfl
     have u:Modest d:=fun x N=>⟨(NH (l x N)).elim fun r h=>h.2.2.2,F x N⟩;obtain⟨hV,-,-,-⟩:=mZ p;have M:=hV.a0L _ (mP p).1;have E:(gW (cI f a0L)).toNat≤8:=by unfold gW; omega
     have O:=(yD (DS y)).1;obtain⟨H,-⟩:=yC hV (eX f lv) (tL hV lv).2 cnt.toNat;have B:dE f lv cnt=mF f (eX f lv) cnt.toNat:=by unfold dE; rw[if_pos c]
     rw[← B] at H;have S:fT (dE f lv cnt) b (cI f a0L).m≤(dE f lv cnt).length:=List.countP_le_length;refine⟨(LM (sT u (n:=fT (dE f lv cnt) b (cI f a0L).m) Om b Om) Om).1,?_⟩;show b.length≤1000;omega
    ·cases i
  ·cases y
theorem aiQ {C:Ctx} (a b:List Int) (w:a.length≤9000000000000000000) (y:b.length≤9000000000000000000):rR.wp C (aX QF.res (aH (.bool (decide (a=b))))) (PF.args [ints a,ints b]) .nil:=by
 simp only[go_sem,rR,UI,UJ,QF,a1K];by_cases c:a.length=b.length
 ·simp only[go_sem,bR (Om:(a.length:Int)=(b.length:Nat)),UK];refine wp_loop (α:=Nat) (fun k=>(((PF.nil.set 0 (ints a)).set 1 (ints b)).set 5 (.int .i64 k))) (fun _=>.nil) (fun k=>k≤a.length∧a.take k=b.take k) (fun k=>a.length-k) 0 ⟨a1X _,rfl⟩ Lq a_ ?_;rintro k ⟨A,i⟩;simp only[go_sem,UH,UL,a1K];by_cases hlt:k<a.length
  ·have d:(k:Int)<(a.length:Nat):=Om;have l:k<b.length:=Om;have p:(a.map fun x=>[PV.int .i64 x])[k]?=some [.int .i64 a[k]]:=by simp[hlt]
   have u:(b.map fun x=>[PV.int .i64 x])[k]?=some [.int .i64 b[k]]:=by simp[l]
   simp only[go_sem,d];refine bX .nil eH a_ ?_;simp only[go_sem,UM,p,u];by_cases e:a[k]=b[k]
   ·simp only[go_sem,bR e,UN,wZz k];exact aK (k+1) ⟨hlt,by rw[a3I hlt,a3I l,i,e]⟩ Om Lq a_
   ·simp only[go_sem,dX e,Ch];refine bE (.inr rfl) Ev ?_;rw[cO,decide_eq_false fun h=>e (by subst h; rfl)]
  ·have d:¬ (k:Int)<(a.length:Nat):=Om;have:k=a.length:=Om;subst this;rw[a2O,c,a2O] at i;simp only[go_sem,d,UO];refine bE (.inr rfl) Ev ?_;rw[cO,decide_eq_true i]
 ·simp only[go_sem,dX (Om:¬ (a.length:Int)=(b.length:Nat)),Cg];refine bE (.inr rfl) Ev ?_;rw[cO,decide_eq_false fun h=>c (by rw[h])]
structure Ai (C:Ctx):Prop extends ahM C where
 int:∀ n:Int,cL n→aF C 47 [.int .i64 n] .nil (aH (.agg (mkT n 1).cells))
 price:∀ (f:aJ) (a0L lv cnt:Int) (prices:List RF),f.Ok→(∀ x∈prices,x.Ok)→(∀ x∈prices,nl (val x.num)≤8∧nl (val x.den)≤8)→prices.length≤1000000→aF C 231 [.agg f.cells,.int .i64 a0L,oY lv cnt,frs prices] .nil (aH (mL f a0L lv cnt prices))
 same2:∀ a b:List Int,a.length≤9000000000000000000→b.length≤9000000000000000000→aF C 94 [ints a,ints b] .nil (aH (.bool (decide (a=b))))
 less:∀ x y:RF,x.Ok→y.Ok→x.valid→y.valid→aF C 49 [.agg x.cells,.agg y.cells] .nil (aH (.bool (decide (tE x y<0))))
 eq:∀ x y:RF,x.Ok→y.Ok→x.valid→y.valid→aF C 53 [.agg x.cells,.agg y.cells] .nil (aH (.bool (tE x y==0)))
 good:∀ x:RF,x.Ok→aF C 56 [.agg x.cells] .nil (aH (.bool (cG (val x.num) (val x.den))))
 nj:∀ x y:RF,x.Ok→y.Ok→aF C 280 [.agg x.cells,.agg y.cells] .nil (aH (frV (oP x.v y.v)))
def czQ (l:List Int) (d:Nat):RF:=if d<l.length then mkT (Int.tmod (l.getD d 0) 6) 1 else mkT 0 1
def lE (l:List Int) (n:Nat):List RF:=(a1S n).map (czQ l)
theorem aiK (xs:List Int) (d:Nat):CZ (lE xs d)++[(czQ xs d).cells]=CZ (lE xs (d+1)):=by
 unfold lE;rw[List.range_succ,a2N];show _=((a1S d).map (czQ xs)++[czQ xs d]).map RF.cells;rw[a2N]; rfl
theorem fc (n:Int) (h:cL n):jG (mkT n 1)=true:=by
 have d:nl n.natAbs≤2:=jB (by unfold cL at h; omega);have l:nl 1=1:=by rw[nl,mQ]; rfl
 have c:cG (val (mkT n 1).num) (val (mkT n 1).den)=true:=(G6 n h).2;have e:=nC (a1L n.natAbs 1) d;have i:=nC (a1L n.natAbs 1) (Om:nl 1≤2);unfold jG mB;rw[if_pos c,VS c,QS];unfold lF;simp only[aT,a1Z,decide_eq_true_eq];exact⟨e,i⟩
theorem B7 {l:List Int} (i:∀ x∈l,-128≤x∧x≤127) (d:Nat):((czQ l d).Ok∧nl (val (czQ l d).num)≤8∧nl (val (czQ l d).den)≤8)∧jG (czQ l d)=true:=by
 have c:cL 0:=by unfold cL; omega
 unfold czQ;split
 ·rename_i h;have w:=i _ (a1N h);have e:cL (Int.tmod (l.getD d 0) 6):=by rw[a2L,a1V h,a4G];have p:=Int.lt_tmod_of_pos l[d] (show (0:Int)<6 by decide);have u:=Int.tmod_lt_of_pos l[d] (show (0:Int)<6 by decide);unfold cL; omega
  exact⟨S0 _ 1 e (by unfold cL; omega) (by decide),fc _ e⟩
 ·exact⟨S0 0 1 c (by unfold cL; omega) (by decide),fc _ c⟩
theorem aGW {l:List Int} (c:∀ x∈l,-128≤x∧x≤127) (n:Nat):(∀ x∈lE l n,x.Ok)∧(∀ x∈lE l n,nl (val x.num)≤8∧nl (val x.den)≤8)∧(lE l n).all jG=true:=by
 refine⟨fun x e=>?_,fun x e=>?_,a2F.2 fun x e=>?_⟩<;>obtain⟨d,-,rfl⟩:=a2G.1 e
 ·exact (B7 c d).1.1
 ·exact (B7 c d).1.2
 ·exact (B7 c d).2
theorem Nw {C:Ctx} (U:Ai C) (f:aJ) (β:f.aZZ.length≤24) (xs:List Int) (hx:∀ x∈xs,-128≤x∧x≤127) (q:Int) (S:bY) (c e:Nat) (K:bV) [Up K] (F:PF) (H:PH)
  (X:(((((((PF.nil.set 4 (cw xs)).set 11 (.ptr c 7 0 0)).set 12 (.int .i64 q)).set 13 (.ptr e 2 0 0)).set 14 (.aB)).set 15 (.int .i64 0))).le F)
  (Y:aP H [(c,.rows 7 [f.cells]),(e,S)] [(.aB,3,[])])
  (Z:∀ v H',aP H' [(c,.rows 7 [f.cells]),(e,S)] [(v,3,CZ (lE xs f.aZZ.length))]→K (.exit 0) ((((((PF.nil.set 4 (cw xs)).set 11 (.ptr c 7 0 0)).set 12 (.int .i64 q)).set 13 (.ptr e 2 0 0)).set 14 (v))) H') :
  aC.wp C (.loop HJ) K F H:=by
 have V:cL 0:=by unfold cL; omega
 refine sR _ (fun _ _ _ _ a b=>Up.up a b) X ?_;refine wp_loop (α:=Nat × PV × PH) (fun t=>((((((PF.nil.set 4 (cw xs)).set 11 (.ptr c 7 0 0)).set 12 (.int .i64 q)).set 13 (.ptr e 2 0 0)).set 14 (t.2.1)).set 15 (.int .i64 t.1))) (fun t=>t.2.2)
  (fun t=>t.1≤f.aZZ.length∧aP t.2.2 [(c,.rows 7 [f.cells]),(e,S)] [(t.2.1,3,CZ (lE xs t.1))]) (fun t=>f.aZZ.length-t.1) (0,.aB,H) ⟨a1X _,Y⟩ Lq b_ ?_
 rintro⟨d,v,H1⟩ ⟨hd,y⟩;simp only at hd y ⊢;have O:=y.at 0 rfl;have u:(lE xs d).length≤1000:=by unfold lE; simp; omega
 simp only[go_sem,HJ,u1,O,a1K];by_cases hlt:d<f.aZZ.length
 ·have i:(d:Int)<(f.aZZ.length:Nat):=Om;have M:czQ xs d=if d<xs.length then mkT (Int.tmod (xs.getD d 0) 6) 1 else mkT 0 1:=rfl
  have J:=aiK xs d;simp only[go_sem,i,u5];refine aA (U.int 0 V) Sq ?_;simp only[go_sem];refine aQ fun δ l=>?_;have W:=y.new l (.rows 3 [(mkT 0 1).cells]);have p:=W.at 2 rfl;simp only[go_sem,u6,a1K];by_cases B:d<xs.length
  ·have w:(d:Int)<(xs.length:Nat):=Om;have R:(xs.map fun x=>[PV.int .i8 x])[d]?=some [.int .i8 xs[d]]:=by simp[B]
   have γ:=hx _ (a1N B);have w1:IntKind.i64.wrap xs[d]=xs[d]:=wrap_i64 Om Om;have m1:=Int.lt_tmod_of_pos xs[d] (show (0:Int)<6 by decide);have m2:=Int.tmod_lt_of_pos xs[d] (show (0:Int)<6 by decide);have w2:IntKind.i64.wrap (Int.tmod xs[d] 6)=Int.tmod xs[d] 6:=wrap_i64 Om Om;have E:=U.int (Int.tmod xs[d] 6) (by unfold cL; omega);rw[if_pos B,a2L,a1V B,a4G] at M;rw[← M] at E;simp only[go_sem,w,u7,R,a1K,w1,w2];refine aA E Sq ?_;simp only[go_sem];have A:=y.new l (.rows 3 [(czQ xs d).cells]);have p:=A.at 2 rfl;simp only[go_sem,HM,p];refine A.append 0 (src:=[(czQ xs d).cells]) rfl Sq (RU _ u) fun v' N Q _=>?_;simp only[go_sem,HN,wZz d];refine aK (d+1,v',N) ⟨hlt,?_⟩ (by simp only; omega) Lq b_;have h5:=Q.mW 2;rw[a4R,J] at h5;exact h5
  ·have w:¬ (d:Int)<(xs.length:Nat):=Om;rw[if_neg B] at M;simp only[go_sem,w,← M];have A:=y.new l (.rows 3 [(czQ xs d).cells]);have p:=A.at 2 rfl;simp only[go_sem,HM,p];refine A.append 0 (src:=[(czQ xs d).cells]) rfl Sq (RU _ u) fun v' N Q _=>?_;simp only[go_sem,HN,wZz d];refine aK (d+1,v',N) ⟨hlt,?_⟩ (by simp only; omega) Lq b_;have h5:=Q.mW 2;rw[a4R,J] at h5;exact h5
 ·have i:¬ (d:Int)<(f.aZZ.length:Nat):=Om;have:d=f.aZZ.length:=Om;subst this;simp only[go_sem,i];exact Up.up Lq (Z v _ y)
theorem Nu {C:Ctx} (Lb:Ai C) (i:List RF) (hp:∀ x∈i,x.Ok) (hm:Modest i) (n:Nat) (hn:n<18446744073709551616) (S:List (List Int)) (k:Nat) (hk:k<S.length) (set:List Int) (hS:S[k]=set) (hs:set.length≤12) (δ:∀ d∈set,0≤d∧d<i.length)
  (J M N l:Nat) (O Q R U V:PV) (B:List BX) (K:bV) [Up K] (F:PF) (H:PH)
  (hF:((((((((((((((PF.nil.set 11 (.ptr J 7 0 0)).set 12 (O)).set 13 (.ptr M 2 0 0)).set 14 (frs i)).set 17 (Q)).set 18 (.ptr N 3 0 0)).set 19 (R)).set 20 (lay S)).set 22 (U)).set 23 (.int .i64 k)).set 25 (V)).set 26 (.ptr l 3 0 0)).set 27 (.int .i64 0))).le F)
  (hH:aP H (B++[(l,.rows 3 [(FV.rf (false,n,1)).cells])]) [])
  (hK:∀ H',aP H' (B++[(l,.rows 3 [(FV.rf (iD i n set)).cells])]) []→K (.exit 4) (((((((((((((PF.nil.set 11 (.ptr J 7 0 0)).set 12 (O)).set 13 (.ptr M 2 0 0)).set 14 (frs i)).set 17 (Q)).set 18 (.ptr N 3 0 0)).set 19 (R)).set 20 (lay S)).set 22 (U)).set 23 (.int .i64 k)).set 25 (V)).set 26 (.ptr l 3 0 0))) H') :
  aC.wp C (.loop HK) K F H:=by
 have u:(S.map fun r=>[ints r])[k]?=some [ints set]:=by rw[a2K,a1V hk,hS]; rfl
 have y:(k:Int)<(S.length:Nat):=Om;refine sR _ (fun _ _ _ _ a b=>Up.up a b) hF ?_;refine wp_loop (α:=Nat × PH) (fun t=>(((((((((((((PF.nil.set 11 (.ptr J 7 0 0)).set 12 (O)).set 13 (.ptr M 2 0 0)).set 14 (frs i)).set 17 (Q)).set 18 (.ptr N 3 0 0)).set 19 (R)).set 20 (lay S)).set 22 (U)).set 23 (.int .i64 k)).set 25 (V)).set 26 (.ptr l 3 0 0)).set 27 (.int .i64 t.1))) (fun t=>t.2)
  (fun t=>t.1≤set.length∧aP t.2 (B++[(l,.rows 3 [(FV.rf (iD i n (set.take t.1))).cells])]) []) (fun t=>set.length-t.1) (0,H) ⟨a1X _,hH⟩ Lq b_ ?_
 rintro⟨j,H1⟩ ⟨hj,X⟩;simp only at hj X ⊢;simp only[go_sem,HK,gk,u,y,a1K];by_cases hlt:j<set.length
 ·have p:(j:Int)<(set.length:Nat):=Om;have Y:(set.map fun x=>[PV.int .i64 x])[j]?=some [.int .i64 set[j]]:=by simp[hlt]
  have hd:=δ _ (a1N hlt);have Z:=sT hm hn (set.take j) (by rw[a2A]; omega);have E:iD i n (set.take (j+1))=(oP (iD i n (set.take j)) (jT i set[j])).got:=by rw[a3I hlt,EC]
  obtain⟨ε,-⟩:=LM Z (by rw[a2A]; omega);have W:=X.xF;generalize set[j]=d at *
  obtain⟨e,rfl⟩:∃ e:Nat,d=e:=⟨d.toNat,by omega⟩;have A:e<i.length:=Om;have β:(e:Int)<(i.length:Nat):=hd.2;have ζ:(i.map RF.cells)[e]?=some (i[e]).cells:=by simp[A]
  have η:jT i e=(i[e]).v:=by unfold jT; simp[a2L,A]
  have w:=Lb.nj (FV.rf (iD i n (set.take j))) i[e] ε (hp _ (a1N A));rw[FV.abA,← η,QI,← E] at w;have c1:¬ (e:Int)<0:=Om;have c2:¬ (e:Int)≥(i.length:Nat):=Om;generalize iD i n (set.take j)=c at *
  generalize γ:iD i n (set.take (j+1))=c' at *
  simp only[go_sem,p,gl,y,u,Y,a1K,c1,c2];refine bX .nil (stS 280 (.tup [.agg c'.rf.cells,.int .i64 (oP c (jT i e)).err]) .aB) a_ ?_;simp only[go_sem,gm,W,y,u,p,Y,β,a1K,ζ];refine cK rfl w Sq a_ ?_;simp only[go_sem,W];refine⟨a_,?_⟩;simp only[go_sem,gn,wZz j];refine aK (j+1,_) ⟨hlt,?_⟩ (by simp only; omega) Lq b_;show aP _ (B++[(l,.rows 3 [(FV.rf (iD i n (set.take (j+1)))).cells])]) [];rw[γ];exact X.DH _
 ·have p:¬ (j:Int)<(set.length:Nat):=Om;have:j=set.length:=Om;subst this;rw[a2O] at X;simp only[go_sem,p];exact Up.up Lq (hK _ X)
theorem Nv {C:Ctx} (V:Ai C) (f:aJ) (hf:f.Ok) (G:tO f) (q:Nat) (Z:fW f q=true) (lv l:Nat) (h1:1≤lv) (h5:lv≤5) (k1:1≤l) (k3:l≤3) (e:List RF) (hp:∀ x∈e,x.Ok) (hm:Modest e) (ψ:e.length=f.aZZ.length)
  (A:Nat) (u:List Int) (Y:(eD f (cI f q))[A]?=some u) (μ:∀ t∈eD f (cI f q),¬ lG (iR f q lv l e t) (iR f q lv l e u)<0) (ν:∀ j t,j<A→(eD f (cI f q))[j]?=some t→lG (iR f q lv l e t) (iR f q lv l e u)≠0)
  (B E J:Nat) (F:PF) (H:PH)
  (hF:(((((((((((PF.nil.set 11 (.ptr B 7 0 0)).set 12 (.int .i64 q)).set 13 (.ptr E 2 0 0)).set 14 (frs e)).set 17 (ints u)).set 18 (.ptr J 3 0 0)).set 19 (.int .i64 0)).set 20 (lay (eD f (cI f q)))).set 22 (.bool true)).set 23 (.int .i64 0))).le F)
  (hH:aP H [(B,.rows 7 [f.cells]),(E,.rows 2 [[.int .i64 lv,.int .i64 l]]),(J,.rows 3 [(iR f q lv l e u).rf.cells])] []) :
  aC.wp C (.seq (.block 2 (.loop HL)) (.seq (.region HO) .ret)) (aX [.tmp 10] (aH (.bool true))) F H:=by
 have ε:=G.vC (lv:=lv) Om Om k1 k3;obtain⟨hV,-,-,-⟩:=mZ Z;have τ:=hV.a0L _ (mP Z).1;have ο:(gW (cI f q)).toNat≤8:=by unfold gW; omega
 have ξ:=Oh f (cI f q);have hd:=G.aZZ;have M:=fun s (h:s∈eD f (cI f q))=>yD h;obtain⟨σ,-⟩:=yC hV (eX f lv) (tL hV lv).2 (l:Int).toNat;have ζ:dE f lv l=mF f (eX f lv) (l:Int).toNat:=by unfold dE; rw[if_pos ε]
 rw[← ζ] at σ;have O:∀ set,fT (dE f lv l) set (cI f q).m≤9223372036854775807:=fun set=>by have:fT (dE f lv l) set (cI f q).m≤(dE f lv l).length:=List.countP_le_length;omega
 have N:∀ s∈eD f (cI f q),aF C 209 [.agg f.cells,.int .i64 q,ints s,oY lv l] .nil (aH (.tup [.int .i64 (fT (dE f lv l) s (cI f q).m:Nat),.int .i64 0])):=fun s hs=>by
  obtain⟨ha,hl⟩:=Jv Z hs;have e1:nY f q s lv l=0:=by unfold nY; rw[ε,ha]; rfl
  have e2:vO f q s lv l=fT (dE f lv l) s (cI f q).m:=by unfold vO; rw[if_pos e1]
  have:=V.loss f q s lv l hf Om
  rwa [e1,e2] at this
 have γ:∀ t∈eD f (cI f q),(iR f q lv l e t).rf.Ok∧cG (iR f q lv l e t).2.1 (iR f q lv l e t).2.2=true:=fun t ht=>by have h1:=O t;have h2:=(M t ht).1;exact LM (sT hm (n:=fT (dE f lv l) t (cI f q).m) Om t Om) Om
 have β:=a3R Y;have δ:=(a2P.1 Y).1;obtain⟨b1,b2⟩:=γ u β;have υ:=(M u β).1;have Q:=OH (dU.1 b2).1;have p:=V.good _ b1;rw[(yB _).1,(yB _).2.1,b2] at p;have χ:=wh f (cI f q) Om;have hP:∀ t,iR f q lv l e t=iD e (fT (dE f lv l) t (cI f q).m) t:=fun _=>rfl;generalize iR f q lv l e=i at *
 generalize eD f (cI f q)=S at *
 refine sR _ (fun _ _ _ _ a b=>Up.up a b) hF ?_;simp only[go_sem];refine wp_loop (α:=Nat × PH) (fun t=>((((((((((PF.nil.set 11 (.ptr B 7 0 0)).set 12 (.int .i64 q)).set 13 (.ptr E 2 0 0)).set 14 (frs e)).set 17 (ints u)).set 18 (.ptr J 3 0 0)).set 19 (.int .i64 0)).set 20 (lay S)).set 22 (.bool (decide (t.1≤A)))).set 23 (.int .i64 t.1))) (fun t=>t.2)
  (fun t=>t.1≤S.length∧aP t.2 [(B,.rows 7 [f.cells]),(E,.rows 2 [[.int .i64 lv,.int .i64 l]]),(J,.rows 3 [(i u).rf.cells])] []) (fun t=>S.length-t.1) (0,H) ⟨a1X _,hH⟩ (by (repeat' (first|exact d_|refine c_ ?_ ?_))<;>first|(simp only[go_sem,decide_eq_true (a1X A)]<;>rfl)|rfl) b_ ?_
 rintro⟨k,H1⟩ ⟨hk,h2⟩;simp only at hk h2 ⊢;have η:=h2.at 0 rfl;have θ:=h2.at 1 rfl;simp only[go_sem,HL,gg,a1K];by_cases hlt:k<S.length
 ·have y:(k:Int)<(S.length:Nat):=Om;have W:(S.map fun r=>[ints r])[k]?=some [ints S[k]]:=by simp[hlt]
  have U:S[k]∈S:=a1N hlt;have g1:=N _ U;have g2:=O S[k];have g3:=V.int (fT (dE f lv l) S[k] (cI f q).m:Nat) (by unfold cL; omega);rw[aIS] at g3;obtain⟨g4,g5⟩:=M _ U;have g6:=hP S[k];have rc:=fun (n:Nat) (hn:n<18446744073709551616)=>Nu V e hp hm n hn S k hlt S[k] rfl Om (fun d hd=>by have:=g5 d hd; omega);have g7:=V.same2 S[k] u Om Om;obtain⟨a1,a2⟩:=γ _ U;have g8:=V.less (i S[k]).rf (i u).rf a1 b1 (JC a2) (JC b2);have g9:=V.eq (i S[k]).rf (i u).rf a1 b1 (JC a2) (JC b2);rw[aPS] at g8 g9;rw[decide_eq_false (μ _ U)] at g8;have ι:k<A→lG (i S[k]) (i u)≠0:=fun h=>ν k _ h (a1V hlt);have X:S[k]=u↔k=A:=by
   obtain⟨_,he⟩:=a2P.1 Y;rw[← he];refine⟨fun h=>?_,fun h=>by subst h; rfl⟩;have hw:=List.pairwise_iff_getElem.1 ξ;rcases Nat.lt_trichotomy k A with g | g | g
   ·exact absurd h (hw k A hlt δ g)
   ·exact g
   ·exact absurd h.symm (hw A k δ hlt g)
  generalize hs:S[k]=s at *
  generalize fT (dE f lv l) s (cI f q).m=n at *
  simp only[go_sem,y];refine bX .nil (cyS (.tup [.int .i64 n,.int .i64 0])) a_ ?_;simp only[go_sem,gh,η,θ,y,W,a1K];refine cK rfl g1 Sq a_ ?_;simp only[go_sem,gi];refine aA g3 Sq ?_;simp only[go_sem];refine aQ fun ρ κ=>?_;have h3:=h2.new κ (.rows 3 [(FV.rf (false,n,1)).cells]);simp only[go_sem,gj];refine rc n Om B E J ρ (.int .i64 q) (ints u) (.int .i64 0) (.bool (decide (k≤A))) (.int .i64 0) [(B,.rows 7 [f.cells]),(E,.rows 2 [[.int .i64 lv,.int .i64 l]]),(J,.rows 3 [(i u).rf.cells])] _ _ _ Lq h3 fun H4 h4=>?_;rw[← g6] at h4;have w:=h4.at 2 rfl;have K:=h4.at 3 rfl;have h6:=h4.mW 3;simp only[go_sem,gp,y,W,a1K];refine aA g7 Sq ?_;rcases Nat.lt_trichotomy k A with c | c | c
  ·have R:¬ s=u:=fun h=>by have:=X.1 h; omega
   have c2:(lG (i s) (i u)==0)=false:=bF (ι c);rw[c2] at g9;simp only[go_sem,wC,decide_eq_true (Nat.le_of_lt c),decide_eq_false R,a2I,wD,bR (show (0:Int)=0 from rfl),w];refine aA p Sq ?_;simp only[go_sem,a1W,w,K];refine aA g8 Sq ?_;simp only[go_sem,w,K];refine aA g9 Sq ?_;simp only[go_sem,wE,wZz k];exact aK (k+1,_) ⟨hlt,h6⟩ (by simp only; omega) (by (repeat' (first|exact d_|refine c_ ?_ ?_))<;>first|(simp only[go_sem,decide_eq_true (show k+1≤A from c)]<;>rfl)|rfl) b_
  ·subst c;have R:s=u:=X.2 rfl;rw[← R] at Q;rw[← R,Q] at g9;have c2:((0:Int)==0)=true:=rfl;rw[c2] at g9;rw[← R] at w p g8 h6;simp only[go_sem,wC,decide_eq_true (a1O k),decide_eq_true R,a1W,wD,bR (show (0:Int)=0 from rfl),w];refine aA p Sq ?_;simp only[go_sem,a1W,w,K];refine aA g8 Sq ?_;simp only[go_sem,w,K];refine aA g9 Sq ?_;simp only[go_sem,a1W,wE,wZz k];rw[R] at h6;exact aK (k+1,_) ⟨hlt,h6⟩ (by simp only; omega) (by (repeat' (first|exact d_|refine c_ ?_ ?_))<;>first|(simp only[go_sem,decide_eq_false (Om:¬ k+1≤k)]<;>rfl)|rfl) b_
  ·have R:¬ s=u:=fun h=>by have:=X.1 h; omega
   simp only[go_sem,wC,decide_eq_false (Om:¬ k≤A),decide_eq_false R,wD,bR (show (0:Int)=0 from rfl),w];refine aA p Sq ?_;simp only[go_sem,a1W,w,K];refine aA g8 Sq ?_;simp only[go_sem,wE,wZz k];exact aK (k+1,_) ⟨hlt,h6⟩ (by simp only; omega) (by (repeat' (first|exact d_|refine c_ ?_ ?_))<;>first|(simp only[go_sem,decide_eq_false (Om:¬ k+1≤A)]<;>rfl)|rfl) b_
 have y:¬ (k:Int)<(S.length:Nat):=Om;have φ:k=S.length:=Om;simp only[go_sem,y,HO,decide_eq_false (Om:¬ k≤A),a2I];refine aA V.yz Sq ?_;simp only[go_sem];exact gP Sq rfl
theorem alB {C:Ctx} (S:Ai C) (l:List Nat) (X:∀ x∈l,x<256) (hl:l.length≤9223372036854775807) (p E B:Nat) (hp:p<256) (Θ:E<256) (φ:B<256) (xs:List Int) (hx:∀ x∈xs,-128≤x∧x≤127) :
  BJ.wp C (aX fx.res (aH (.bool true))) (PF.args [.sl 1 (jW l),.int .u8 p,.int .u8 E,.int .u8 B,cw xs]) .nil:=by
 have ω:=S.fleet l X hl 7 0 (by decide) (by decide);obtain⟨hv,hf⟩:=C0 (l.take 400) 7 0 0 (by decide) (by decide);have Φ:=M1 (l.take 400) 7 0 0;have χ:=yg (l.take 400) 7 0 (a1X _);have G:tO (fL (l.take 400) 7 0 0).1:=⟨hf,hv,by omega,fun L h1 h4=>aiZ _ _ _ _ h1 h4⟩;clear χ;generalize (fL (l.take 400) 7 0 0).1=f at *
 have hV:=VF.of hv;have j':=hV.small.a0D;have ψ:=hV.small.aZZ;have N:=S.fails E B Θ φ;have k':p%f.a0D.length<f.a0D.length:=a3C _ Om;have w1:IntKind.i64.wrap (p:Int)=p:=wrap_i64 Om Om;have t1:Int.tmod (p:Int) (f.a0D.length:Nat)=((p%f.a0D.length:Nat):Int):=by rw[Int.tmod_eq_emod_of_nonneg Om]; omega
 have w2:IntKind.i64.wrap ((p%f.a0D.length:Nat):Int)=((p%f.a0D.length:Nat):Int):=wrap_i64 Om Om;have Ξ:¬ (f.a0D.length:Int)=0:=Om;obtain⟨b',c'⟩:1≤1+E%5∧1+E%5≤5:=Om;obtain⟨Z,α⟩:1≤1+B%3∧1+B%3≤3:=Om;generalize p%f.a0D.length=q at *
 generalize 1+E%5=lv at *
 generalize 1+B%3=i at *
 have O:fW f q=true:=by unfold fW;rw[hv,decide_eq_true (Om:(0:Int)≤(q:Int)),decide_eq_true (Om:(q:Int)<(f.a0D.length:Nat))]; rfl
 have η:=G.vC (lv:=lv) Om Om Z α;obtain⟨ε,K,δ⟩:=aGW hx f.aZZ.length;have W:(lE xs f.aZZ.length).length=f.aZZ.length:=by unfold lE; simp
 have R:Modest (lE xs f.aZZ.length):=fun x hx=>⟨(NH (a2F.1 δ x hx)).elim fun r h=>h.2.2.2,K x hx⟩;have hE:sH f q lv i (lE xs f.aZZ.length)=if eD f (cI f q)=[] then 12 else 0:=by unfold sH;rw[if_neg (fun h=>h η),decide_eq_true (Om:(0:Int)≤(q:Int)),decide_eq_true (Om:(q:Int)<(f.a0D.length:Nat)),decide_eq_true W,δ]; rfl
 have A:=S.price f q lv i (lE xs f.aZZ.length) hf ε K Om;obtain⟨σ,τ⟩:=G.all O;have Q:=S.all f q hf;rw[σ,τ] at Q;obtain⟨bs,x,e,ζ,l',i'⟩:=aaX (f:=f) (a0L:=q) (lv:=lv) (cnt:=i) K;have d:=ζ;rw[ζ] at A;simp only[go_sem,BJ,uv,uw,fx];refine aA ω (by simp only[go_sem]; rfl) ?_;simp only[go_sem];refine aQ fun u h'=>?_;have h1:aP (PH.nil.set u (.rows 7 [f.cells])) [(u,.rows 7 [f.cells])] []:=aP.nil.new (H:=PH.nil) rfl _;simp only[go_sem,ux,w1,a1K,Ξ,t1,w2,uy];refine aA N Sq ?_;simp only[go_sem];refine aQ fun F ο=>?_;have h2:=(h1.new ο (.rows 2 [[.int .i64 lv,.int .i64 i]])).sC 3;simp only[go_sem,uz,u0];refine Nw S f ψ xs hx q _ u F _ _ _ Lq h2 fun v H3 V=>?_;have β:=V.at 0 rfl;have γ:=V.at 1 rfl;have hO:=V.own 0 rfl;have d':v.oid≠some u:=fun hq=>V.neL 0 0 rfl rfl hq rfl;have e':v.oid≠some F:=fun hq=>V.neL 1 0 rfl rfl hq rfl;have Λ:=V.ne 0 1 rfl rfl (by decide);simp only[go_sem,fy,β,γ];refine Mn (pre:=[.agg f.cells,.int .i64 q,oY lv i]) hO A (by simp only[go_sem]; rfl) (by simp) (fun y hy=>?_) fun F1 Y v1 Ω κ M J=>?_
 ·simp only[a1R,a2B,or_false] at hy;rcases hy with rfl | rfl | rfl
  ·exact fun _ _ _=>rfl
  ·exact fun _ _ _=>rfl
  ·exact fun _ _ _=>rfl
 have f11:F1 11=some (.ptr u 7 0 0):=M 11 _ Sq (fun _ _ _=>rfl);have U:F1 12=some (.int .i64 q):=M 12 _ Sq (fun _ _ _=>rfl);have f13:F1 13=some (.ptr F 2 0 0):=M 13 _ Sq (fun _ _ _=>rfl);have f14:F1 14=some v1:=κ 14 Sq;have ν:=J u _ β d' (fun _ _ _=>rfl);have ξ:=J F _ γ e' (fun _ _ _=>rfl);have h4:aP Y [(u,.rows 7 [f.cells]),(F,.rows 2 [[.int .i64 lv,.int .i64 i]])] []:=⟨fun b X=>by
   simp only[a1R,a2B,or_false] at X;rcases X with rfl | rfl
   ·exact ν
   ·exact ξ,(fun y hy=>by cases hy),by simp[eM,eC,Λ]⟩
 clear M J κ V h2 h1 hO;simp only[go_sem];refine aQ fun μ ρ=>?_;have h5:=h4.new ρ (.rows 3 [x.cells]);have a':=h5.at 0 rfl;simp only[go_sem,fz,f11,U,a'];refine aA Q (by simp only[go_sem,U]) ?_;simp only[go_sem,ga,bR (show (0:Int)=0 from rfl),gb,a1K];by_cases c:eD f (cI f q)=[]
 ·rw[if_pos c] at hE;have he:e=12:=by
   unfold mL at d;rw[hE] at d;injection d with d
   injection d with _ d
   injection d with _ d
   injection d with d _
   injection d with _ d
   exact d.symm
  subst he;simp only[go_sem,c,a3Z,bN (show ((0:Nat):Int)=0 from rfl),gd];refine aA S.yz Sq ?_;simp only[go_sem];exact gP Sq rfl
 ·rw[if_neg c] at hE;have Δ:¬ (((eD f (cI f q)).length:Nat):Int)=0:=by have:(eD f (cI f q)).length≠0:=fun h=>c (List.length_eq_zero_iff.1 h);omega
  obtain⟨hV,-,-,-⟩:=mZ O;have g':=hV.a0L _ (mP O).1;have Ψ:(gW (cI f q)).toNat≤8∧1≤(gW (cI f q)).toNat:=by unfold gW; omega
  have good:∀ s∈eD f (cI f q),(iR f q lv i (lE xs f.aZZ.length) s).2.2≠0:=fun s hs=>by
   have h1:=(yD hs).1;obtain⟨f',-⟩:=yC hV (eX f lv) (tL hV lv).2 (i:Int).toNat;have θ:dE f lv i=mF f (eX f lv) (i:Int).toNat:=by unfold dE; rw[if_pos η]
   rw[← θ] at f';have hn:fT (dE f lv i) s (cI f q).m≤(dE f lv i).length:=List.countP_le_length;exact (sT R (n:=fT (dE f lv i) s (cI f q).m) Om s Om).1
  rcases nr (iR f q lv i (lE xs f.aZZ.length)) (eD f (cI f q)) good with ⟨-,h⟩ | ⟨i0,b,X,hi0,hl1,hl2⟩
  ·exact absurd h c
  have hB:uQ f q lv i (lE xs f.aZZ.length)=some b:=by unfold uQ; rw[if_pos hE,X]
  have w:PV.tup [ints bs,.agg x.cells,.int .i64 e]=.tup [ints b,.agg (iR f q lv i (lE xs f.aZZ.length) b).rf.cells,.int .i64 0]:=by rw[← d];unfold mL;rw[hB,hE]; rfl
  injection w with w
  injection w with q1 w
  injection w with q2 w
  injection w with q3 _
  injection q2 with q2
  have ι:v1=frs (lE xs f.aZZ.length):=by
   have υ:=a3R hi0;obtain⟨j1,j2⟩:=yD υ;rcases Ω with ⟨h0,-⟩ | h0
   ·exfalso;have Γ:(CZ (lE xs f.aZZ.length)).length=0:=by rw[h0]; rfl
    rw[a1K,W] at Γ;cases b with
    | nil=>simp at j1; omega
    | cons y t =>have:=j2 y (by simp);omega
   ·exact h0
  simp only[go_sem,bF Δ,ge,gf];refine Nv S f hf G q O lv i b' c' Z α _ ε R W i0 b hi0 hl1 hl2 u F μ _ _ ?_ ?_
  ·(repeat' (first|exact d_|refine c_ ?_ ?_))<;>first|(simp only[go_sem,f11,U,f13,f14,ι,q1,q3]<;>rfl)|rfl
  ·show aP (Y.set μ (.rows 3 [x.cells])) _ _;rw[show x.cells=(iR f q lv i (lE xs f.aZZ.length) b).rf.cells from q2] at h5 ⊢;exact h5
structure bG (C:Ctx):Prop where
 r0:aO C 0 de
 r1:aO C 1 zg
 r2:aO C 2 Zp
 r4:aO C 4 fb
 r5:aO C 5 Z4
 r7:aO C 7 fa
 r27:aO C 27 db
 r28:aO C 28 Z3
 r29:aO C 29 zh
 r30:aO C 30 adU
 r31:aO C 31 zm
 r32:aO C 32 adV
 r33:aO C 33 udiv
 r34:aO C 34 adZ
 r35:aO C 35 zo
 r36:aO C 36 aeB
 r37:aO C 37 aeE
 r38:aO C 38 zq
 r39:aO C 39 RD
 r40:aO C 40 zn
 r41:aO C 41 i7
 r42:aO C 42 i9
 r43:aO C 43 zp
 r44:aO C 44 je
 r45:aO C 45 uup
 r46:aO C 46 Lm
 r47:aO C 47 aeJ
 r48:aO C 48 jk
 r49:aO C 49 zz
 r50:aO C 50 jt
 r51:aO C 51 ju
 r52:aO C 52 RI
 r53:aO C 53 z8
 r54:aO C 54 Aa
 r55:aO C 55 aRE
 r56:aO C 56 j4
 r57:aO C 57 zy
 r58:aO C 58 RH
 r59:aO C 59 Ab
 r60:aO C 60 j3
 r94:aO C 94 QF
 r95:aO C 95 Y0
 r96:aO C 96 Y6
 r97:aO C 97 cj
 r98:aO C 98 y9
 r99:aO C 99 za
 r100:aO C 100 zb
 r101:aO C 101 gone
 r102:aO C 102 zc
 r103:aO C 103 ck
 r104:aO C 104 gin
 r105:aO C 105 Y1
 r106:aO C 106 Y2
 r107:aO C 107 zd
 r108:aO C 108 ze
 r109:aO C 109 cp
 r110:aO C 110 zf
 r111:aO C 111 D6
 r112:aO C 112 Y3
 r113:aO C 113 UP
 r114:aO C 114 Yo
 r115:aO C 115 b9
 r116:aO C 116 CY
 r117:aO C 117 kw
 r118:aO C 118 ci
 r119:aO C 119 Yn
 r120:aO C 120 qW
 r121:aO C 121 ch
 r122:aO C 122 y8
 r123:aO C 123 c8
 r124:aO C 124 MS
 r125:aO C 125 MU
 r126:aO C 126 DB
 r127:aO C 127 Z8
 r128:aO C 128 zi
 r129:aO C 129 aaA
 r130:aO C 130 aaC
 r131:aO C 131 aaG
 r132:aO C 132 zj
 r133:aO C 133 aaN
 r134:aO C 134 aaP
 r135:aO C 135 zk
 r136:aO C 136 QV
 r137:aO C 137 fw
 r138:aO C 138 wX
 r139:aO C 139 HV
 r140:aO C 140 gs
 r141:aO C 141 gv
 r142:aO C 142 zJ
 r143:aO C 143 nup
 r201:aO C 201 avM
 r202:aO C 202 avP
 r203:aO C 203 A9
 r204:aO C 204 A6
 r205:aO C 205 call17
 r206:aO C 206 B5
 r207:aO C 207 kh
 r208:aO C 208 X4
 r209:aO C 209 ki
 r210:aO C 210 Yf
 r211:aO C 211 B6
 r212:aO C 212 Ym
 r222:aO C 222 Ho
 r223:aO C 223 Ik
 r231:aO C 231 Bi
 r232:aO C 232 kj
 r278:aO C 278 ku
 r279:aO C 279 C6
 r280:aO C 280 nj
 r281:aO C 281 aEF
 r229:∃ asg bdy,YI C 229 (Ye asg bdy)
 r230:∃ asg bdy,YI C 230 (Yd asg bdy)
namespace Z
theorem kI {C:Ctx} (c:bG C):oS C :=
 have len:∀ xs,Lim xs→xs.length≤35184372087808→aF C 138 [aG xs] .nil (aH (.int .i64 (nl (val xs):Nat))):=fun xs h l=>c.r138.go (gr xs h l) rfl
 {length:=len
  large:=fun xs h l=>c.r137.go (uq xs (len xs h l)) rfl
  sized:=fun xs h l=>(c.r141.go (vp xs h (len xs h l)) rfl).seen
  trim:=fun xs h l=>(c.r135.go (I3 xs h l (len xs h l)) rfl).seen
  make:=fun v h=>c.r132.go (Il v h len) rfl
  cmp:=fun xs ys d e i p=>c.r129.go (Tx xs ys d e i p (len xs d i) (len ys e p)) rfl }
theorem Z7 {C:Ctx} (c:bG C):YB C :=
 {subtract:=fun A W Z v f o hW l i e p d=>c.r142.go (NT A W Z v f hW l i e p d o) rfl
  restore:=fun A W Z v o hW l i e=>c.r139.go (SQ A W Z v hW l i e o) rfl }
theorem WJ {C:Ctx} (c:bG C):TV C :=
 {L:=kI c
  D:=Z7 c
  up:=fun a s i w e=>c.r143.go (alH a s i w e) rfl
  short:=fun a d i l p e=>c.r140.go (vb (kI c) a d i l p e) rfl
  lengthO:=fun xs o x u=>c.r138.go (SO xs x u o) rfl }
theorem xU {C:Ctx} (c:bG C) (A B:Nat) (hB:B≠0) (e:nl A≤900) (d:nl B≤900):aF C 136 [aG (aE A),aG (aE B)] .nil (aH (oJ A B)) :=
 (c.r136.go (fg (WJ c) A B hB e d) rfl).seen
theorem kW {C:Ctx} (c:bG C):pU C :=
 {kI c with
  bits:=fun xs h l=>c.r128.go (Hr xs h l ((kI c).length xs h l)) rfl
  add:=fun xs ys d e i p=>(c.r127.go (Tq (kI c) xs ys d e i p) rfl).seen
  sub:=fun xs ys d e i p=>(c.r134.go (Uv (kI c) xs ys d e i p) rfl).seen
  mul:=fun xs ys d e i p=>(c.r133.go (Uq (kI c) xs ys d e i p) rfl).seen
  gcd:=fun xs ys d e i p=>(c.r131.go (Uh (kI c) (xU c) xs ys d e i p) rfl).seen
  div:=fun xs ys d e i p=>(c.r130.go (T9 (kI c) (xU c) xs ys d e i p) rfl).seen }
theorem pB {C:Ctx} (c:bG C):yN C :=
 {kW c with
  times:=fun a b d i e l p u=>c.r121.go (ri (kW c) a b d i e l p u) rfl
  zero:=fun neg a b d e=>c.r122.go (C9 (kW c) neg a b d e) rfl
  valid:=fun neg a b d i e l=>c.r118.go (rt (kW c) neg a b d i e l) rfl
  abs:=fun v x y=>c.r119.go (Qj (kW c) v x y) rfl
  lowest:=fun neg a b d i e l p u w=>(c.r120.go (bu (kW c) neg a b d i e l p u w) rfl).seen }
theorem MD {C:Ctx} (c:bG C) (x y:RF) (d:x.Ok) (e:y.Ok):aF C 113 [.agg x.cells,.agg y.cells] .nil (aH (frV (fU x.v y.v))) :=
 (c.r113.go (Qo (pB c) x.neg y.neg x.num x.den y.num y.den d.1 d.2.1 e.1 e.2.1 d.2.2.1 d.2.2.2 e.2.2.1 e.2.2.2) rfl).seen
theorem tQ {C:Ctx} (c:bG C):yM C :=
 {pB c with
  frac:=fun n d w p=>(c.r115.go (C1 (pB c) n d w.1 w.2 p.1 p.2) rfl).seen
  red:=fun x e=>by rw[← ic];exact (c.r116.go (ca (pB c) x.neg x.num x.den e.1 e.2.1 e.2.2.1 e.2.2.2) rfl).seen
  ord:=fun x y e i=>(c.r114.go (Qy (pB c) x.neg y.neg x.num x.den y.num y.den e.1 e.2.1 i.1 i.2.1 e.2.2.1 e.2.2.2 i.2.2.1 i.2.2.2) rfl).seen
  plus:=MD c
  tot:=fun l u=>(c.r117.go (Q9 (pB c) (MD c) l u.all u.fits) rfl).seen }
theorem pA {C:Ctx} (c:bG C):qE C :=
 have inn:∀ n lo hi:Int,aF C 104 [.int .i64 n,.int .i64 lo,.int .i64 hi] .nil (aH (.bool (within n lo hi))):=fun n lo hi=>(c.r104.go (ajH n lo hi) rfl).seen;have nP:∀ x:RF,x.Ok→aF C 97 [.agg x.cells] .nil (aH (.bool (bS x))):=fun x i=>(c.r97.go (rx (kW c) x i) rfl).seen;have lim:∀ x:RF,x.Ok→aF C 105 [.agg x.cells] .nil (aH (.bool (eT x))):=fun x i=>(c.r105.go (R1 (tQ c) x i) rfl).seen;have d:∀ n:Nat,aF C 126 [.int .u8 n] .nil (aH (.bool (gR n))):=fun n=>c.r126.go (c7 n) rfl;have e:∀ n:Nat,aF C 124 [.int .u8 n] .nil (aH (.bool (pX n))):=fun n=>c.r124.go (sw n) rfl
 {tQ c with
  inn:=inn
  nP:=nP
  lim:=lim
  one:=fun x i=>(c.r101.go (R8 (tQ c) x i) rfl).seen
  allf:=fun p fn l u h=>(c.r99.go (Dn p fn l u h) rfl).seen
  alli:=fun p fn l u h=>(c.r100.go (Dx p fn l u h) rfl).seen
  allb:=fun p fn l u h=>(c.r98.go (Dd p fn l u h) rfl).seen
  ends1:=fun b=>(c.r103.go (r8 b) rfl).seen
  num1:=fun n=>(c.r107.go (Ej inn n) rfl).seen
  rate1:=fun x i=>(c.r109.go (sg lim nP x i) rfl).seen
  name:=fun s=>c.r123.go (Ga d (fun n=>c.r125.go (s7 d e n) rfl) s) rfl }
theorem MA {C:Ctx} (c:bG C):XW C :=
 {pA c with
  num:=fun p d=>(c.r106.go (R4 (pA c) p d) rfl).seen
  rate:=fun p d=>(c.r108.go (Ep (pA c) p d) rfl).seen
  uniq:=fun l e=>(c.r110.go (Ez (pA c) l e) rfl).seen }
theorem MB {C:Ctx} (c:bG C):JZ C :=
 {MA c with
  ends:=fun l e d=>(c.r102.go (Ea (pA c) l e d) rfl).seen }
theorem Cx {C:Ctx} (c:bG C):jM C :=
 {MB c with
  law:=fun l e=>(c.r95.go (Rs (MB c) l e) rfl).seen
  pol:=fun p n u i=>(c.r112.go (Sd (MA c) p u n i) rfl).seen
  a0I:=fun f d=>(c.r111.go (Rl (pA c) f d) rfl).seen }
theorem kr {C:Ctx} (c:bG C) (f:aJ) (d:f.Ok):aF C 96 [.agg f.cells] .nil (aH (.int .i64 (vD f))):=(c.r96.go (Sm (Cx c) f d) rfl).seen
theorem jI {C:Ctx} (c:bG C):mS C:={ trimM:=fun xs h l=>c.r38.go (Lh xs h l) rfl }
theorem OJ {C:Ctx} (c:bG C):YD C :=
 {jI c with
  make:=fun v h=>(c.r35.go (K3 (jI c) v h) rfl).seen
  large:=fun xs h l=>(c.r41.go (wr (jI c) xs h l) rfl).seen
  cmp:=fun xs ys d e i p=>c.r32.go (Vn (jI c) xs ys d e i p) rfl }
theorem OL {C:Ctx} (c:bG C):YF C :=
 {OJ c with
  minus:=fun a b e i l u d=>(c.r42.go (ww (jI c) a b e i l u d) rfl).seen
  times:=fun a b e i d p=>(c.r44.go (xf (jI c) a b e i d p) rfl).seen }
theorem xY {C:Ctx} (c:bG C):KE C :=
 {OL c with
  plus:=fun a b i l d e=>(c.r43.go (K9 (jI c) a b i l d e) rfl).seen }
theorem Jj {C:Ctx} (c:bG C):CM C :=
 {xY c with
  bits:=fun xs h l=>c.r31.go (Ka (jI c) xs h l) rfl
  upM:=fun a n e d i p=>c.r45.go (asU (jI c) a n e d i p) rfl
  down:=fun a n e d i=>(c.r40.go (Kr (jI c) a n e d i) rfl).seen }
theorem xX {C:Ctx} (c:bG C):KC C :=
 {OJ c with
  divide:=fun A B hB e d=>(c.r39.go (iv (Jj c) A B hB e d) rfl).seen }
theorem OK {C:Ctx} (c:bG C):YE C :=
 {xX c with
  gcd:=fun a b d e i l=>(c.r34.go (V7 (xX c) a b d e i l) rfl).seen
  div:=fun a b d e i l=>(c.r33.go (Vz (xX c) a b d e i l) rfl).seen }
theorem gz {C:Ctx} (c:bG C):yy C :=
 {OK c with
  lowest:=fun neg a b i l p u w x e=>(c.r58.go (jl (OK c) neg a b i l p u w x e) rfl).seen
  size:=fun v d=>c.r59.go (Me v d.1 d.2) rfl }
theorem qA {C:Ctx} (c:bG C):KD C :=
 {gz c with
  fmk:=fun n d i e=>(c.r50.go (L3 (gz c) n d i e) rfl).seen }
theorem HA {C:Ctx} (c:bG C) (hi:nN C):yP C :=
 {qA c with
  int:=fun n d=>(c.r47.go (DK (qA c) n d) rfl).seen
  itoa:=hi
  next:=fun l v T o n a d e=>c.r4.go (Hh T o n a d e) rfl }
theorem NB {C:Ctx} (c:bG C) (hi:nN C):XZ C :=
 {HA c hi with
  frac:=fun l v T o a d=>c.r1.go (Gs (HA c hi) T o a d) rfl }
theorem NC {C:Ctx} (c:bG C) (hi:nN C):pT C :=
 {NB c hi with
  rep:=fun l v T o a m e d=>c.r5.go (Tf (NB c hi) T o a m e d) rfl
  name:=fun s n p i=>c.r29.go (He (HA c hi) s n p i) rfl }
theorem ND {C:Ctx} (c:bG C) (hi:nN C):lK C :=
 {NC c hi with
  law:=fun l v T o dY a i d e=>c.r2.go (S3 (NC c hi) T o dY a i d e) rfl }
theorem NE {C:Ctx} (c:bG C) (hi:nN C):YA C :=
 {ND c hi with
  grow:=fun l v T mc aZZ d e i=>VB (ND c hi) T mc aZZ d e i (fun args H R p h=>c.r7 args H R (by rw[p]; decide) h) 4 (a1O _) }
theorem akR {C:Ctx} (c:bG C) (hi:nN C):Al C :=
 {NE c hi with
  new:=fun l p u=>c.r28.go (Ta l p u) rfl
  fleet:=fun l v T o aZZ a0B a d e i=>CK.exact (c.r0.go (th (NE c hi) T o aZZ a0B a d e i) rfl) }
theorem zN {C:Ctx} (c:bG C):YG C :=
 {qA c with
  int:=fun n p=>(c.r47.go (DK (qA c) n p) rfl).seen
  mul:=fun a b d e i l=>(c.r36.go (Wf (OL c) a b d e i l) rfl).seen
  add:=fun a b d e i l=>(c.r30.go (Vg (xY c) a b d e i l) rfl).seen
  sub:=fun a b d e i l=>(c.r37.go (Wn (xY c) a b d e i l) rfl).seen }
theorem xZ {C:Ctx} (c:bG C):KF C :=
 {zN c with
  valid:=fun x d=>c.r56.go (PW (zN c) x.neg x.num x.den d.1 d.2.1 d.2.2.1 d.2.2.2) rfl
  big:=fun x=>c.r48.go (xq x.1 (aE x.2.1) (aE x.2.2)) rfl }
theorem OM {C:Ctx} (c:bG C):YH C :=
 {xZ c with
  fits:=fun x=>(c.r57.go (Lr (xZ c) x) rfl).seen
  red:=fun x i=>(c.r52.go (jv (xZ c) x i) rfl).seen
  prod:=fun a b d e l p u w=>c.r60.go (x7 (zN c) a b d e l p u w) rfl }
theorem oN {C:Ctx} (c:bG C):uD C :=
 {OM c with
  order:=fun x y d e i l=>c.r51.go (xu (OM c) x y d e i l) rfl }
theorem zl {C:Ctx} (c:bG C):Xm C :=
 {oN c with
  less:=fun x y d e i l=>c.r49.go (Ly (oN c) x y d e i l) rfl
  same:=fun x y d e i l=>c.r53.go (L8 (oN c) x y d e i l) rfl
  sign:=fun x d i=>c.r54.go (Mb (oN c) x d i) rfl
  plus:=fun x y d e=>(c.r46.go (Wx (oN c) x y d e) rfl).seen }
theorem aRK {C:Ctx} (c:bG C):Xi C :=
 {adm:=fun f p set hV l d u=>c.r201.go (aGO f hV p l d set u) rfl
  asc:=fun set n top i=>c.r202.go (aGS set i n top) rfl
  known:=fun f a0L e=>c.r203.go (ahY (kr c) f e a0L) rfl }
theorem aGA {C:Ctx} (c:bG C):XU C :=
 {aRK c with
  subs:=fun n top=>c.r210.go (awE n top) rfl
  iter:=fun l o1 o2 n top J y e i w x u A H p d b1 b2 g1 g2=>c.r211.go (avS J y e i w x u p d b1 b2 g1 g2) rfl }
theorem aGB {C:Ctx} (c:bG C):Af C :=
 {aGA c with
  sets:=fun f p hV w A d x l y u=>by obtain⟨e,i,r⟩:=c.r229;exact (r.go (awC (aGA c) e i f hV w p A d x l y u) rfl).seen }
theorem aGC {C:Ctx} (c:bG C):Ag C :=
 {aGB c with
  val:=kr c
  units:=fun f lv hV d h5=>(c.r206.go (aiF f hV lv d h5) rfl).seen
  choose:=fun m n e i=>c.r207.go (X2 m n e i) rfl }
theorem afD {C:Ctx} (c:bG C):Ah C :=
 {aGC c with
  vC:=fun f lv cnt i=>by obtain⟨d,e,r⟩:=c.r230;exact (r.go (awA (aGC c) d e f i lv cnt) rfl).seen
  admis:=fun f a0L set i x=>c.r204.go (ahT (aRK c) f i a0L set x) rfl
  loss:=fun sc set m l p u w=>c.r208.go (avT sc l p set u w m) rfl }
theorem aRJ {C:Ctx} (c:bG C) (hi:nN C):aFL C :=
 {same1:=fun l d=>c.r94.go (awN l d) rfl
  fleet:=fun l u d aZZ a0B e p=>(c.r27.go (akM (akR c hi) l u d aZZ a0B e p) rfl).seen
  all:=fun f a0L i=>(c.r205.go (ahV (aGB c) f i a0L) rfl).seen
  vC:=(afD c).vC
  loss:=fun f a0L set lv cnt i d=>c.r209.go (X6 (afD c) f i a0L set d lv cnt) rfl }
theorem aFZ {C:Ctx} (c:bG C) (hi:nN C):Ae C :=
 { aRJ c hi with sets:=fun a d e=>c.r212.go (awS (aRJ c hi).same1 a d e) rfl }
theorem aUY {C:Ctx} (c:bG C) (hi:nN C):ahM C :=
 {aFZ c hi with
  yz:=c.r222.go (akU (aFZ c hi)) rfl
  fails:=fun a b d e=>c.r223.go (akX a b d e) rfl }
theorem aRL {C:Ctx} (c:bG C) (x:RF):aF C 279 [.agg x.cells] .nil (aH (.agg x.HG.cells)):=c.r279.go (ajA x) rfl
theorem aXY {C:Ctx} (c:bG C) (x:RF) (d:x.Ok):aF C 281 [.agg x.cells] .nil (aH (.agg x.opp.cells)):=c.r281.go (aLZ (jI c) x d) rfl
theorem aXZ {C:Ctx} (c:bG C) (x y:RF) (d:x.Ok) (e:y.Ok):aF C 280 [.agg x.cells,.agg y.cells] .nil (aH (frV (oP x.v y.v))):=c.r280.go (aMB (zl c).plus (aXY c) x y d e) rfl
theorem zPr {C:Ctx} (c:bG C):auX C :=
 {afD c with
  fr:=tQ c
  ku:=fun x y d e=>c.r278.go (aHM (tQ c) (aRL c) x y d e) rfl
  price1:=fun x d=>c.r232.go (Yb (tQ c) x d) rfl }
theorem aRM {C:Ctx} (c:bG C) (f:aJ) (a0L lv cnt:Int) (d:List RF) (p:f.Ok) (e:∀ x∈d,x.Ok) (i:∀ x∈d,nl (val x.num)≤8∧nl (val x.den)≤8) (l:d.length≤1000000):aF C 231 [.agg f.cells,.int .i64 a0L,oY lv cnt,frs d] .nil (aH (mL f a0L lv cnt d)) :=
 (c.r231.go (aiC (zPr c) f p a0L lv cnt d e i l) rfl).seen
theorem aXX {C:Ctx} (c:bG C) (n:Int) (h:cL n):aF C 47 [.int .i64 n] .nil (aH (.agg (mkT n 1).cells)):=(c.r47.go (DK (qA c) n h) rfl).seen
theorem zLl {C:Ctx} (c:bG C) (hi:nN C):Ai C :=
 {aUY c hi with
  int:=aXX c
  price:=aRM c
  same2:=fun a b e i=>c.r94.go (aiQ a b e i) rfl
  less:=(zl c).less
  eq:=(zl c).same
  good:=fun x d=>c.r56.go (PW (zN c) x.neg x.num x.den d.1 d.2.1 d.2.2.1 d.2.2.2) rfl
  nj:=aXZ c }
end Z
theorem atS {C:Ctx} (c:bG C) (hi:nN C) (r:aO C 238 fx) (l:List Nat) (u:∀ x∈l,x<256) (w:l.length≤9223372036854775807) (p lv d:Nat) (y:p<256) (i:lv<256) (e:d<256) (xs:List Int) (A:∀ x∈xs,-128≤x∧x≤127) :
  aF C 238 [.sl 1 (jW l),.int .u8 p,.int .u8 lv,.int .u8 d,cw xs] .nil (aH (.bool true)):=r.go (alB (Z.zLl c hi) l u w p lv d y i e xs A) rfl
end Go.PM
