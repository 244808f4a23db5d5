/-
  Texts of ours, joined: MkW8 MkW9 MkW10 MkW11 MkW12 MkW13 MkW14 MkW15 MkW16 L11W1 R2Code R2W1 R2W2 R2W3 R2W4 R2W5 R2W6 R2W7 R2W8 Jn1 Jn2 Pm37 Pm40 Pm41 Pm42 Jy0. No condition.
-/
import Derived.Test.YtnagfjehjbbckaaGreatDoorHo1
import Derived.Test.YtnagfjehjbbckaaGreatDoorHo2
import Derived.Test.YtnagfjehjbbckaaGreatDoorHo3
import Derived.RangeFuncRecord
set_option linter.unusedSimpArgs false
set_option linter.unusedVariables false
open Nat renaming reduceEqDiff → γ, reduceAdd → δ, reduceSub → ε, reduceMul → ζ, reduceLT → η, reduceLeDiff → θ, reduceBEq → τ
open Int renaming reduceLT → ι, reduceLE → κ, reduceEq → μ, reduceToNat → ν, reduceAdd → ξ, reduceNeg → ο, reduceBEq → ρ, reduceBNe → σ
open List renaming reduceReplicate → υ
open List renaming length_map → aUN, range → aUO, getElem_mem → aUQ, replicate → aUR, length_append → aUS, length_singleton → aUX, getD_eq_getElem?_getD → aUY, getElem?_eq_getElem → aVB, mem_cons → aVC, all_eq_true → aVD, take_of_length_le → aVI, length_take → aVJ, not_mem_nil → aVK, mem_range → aVM, getElem?_map → aVN, take_length → aVP, mem_map → aVQ, append_assoc → aVS, map_append → aVT, getElem?_eq_some_iff → aVW, getElem_of_mem → aVX, drop_zero → aVY, map_cons → aVZ, getElem_map → aWD, append_nil → aWF, getElem?_eq_none → aWG, length_cons → aWH, mem_append → aWI, drop_eq_getElem_cons → aWM, take_succ_eq_append_getElem → aWN, range' → aWP, length_drop → aWR, map_nil → aWS, Sublist → aWT, length_set → aWU, mem_singleton → aWV, length_nil → aXD, ext_getElem → aXE, getElem?_append_right → aXF, take_append_drop → aXG, getElem?_append_left → aXI, nodup_append → aXJ, mem_of_getElem? → aXL, set_append_right → aXO, range_succ → aXV, take_zero → aXW, countP_cons → aXZ, getElem?_take → aYA, set_cons_zero → aYB, countP_append → aYH, drop_of_length_le → aYI, map_congr_left → aYJ, getElem_append_right → aYL, getElem_append_left → aYM
open Nat renaming gcd → aUP, zero_le → aUT, le_refl → aUU, mul_add → aVF, zero_add → aVH, lt_or_ge → aVL, mul_assoc → aVO, mul_comm → aVR, add_mul → aVU, mul_le_mul_right → aVV, mod_eq_of_lt → aWA, le_trans → aWE, mod_lt → aWJ, pow_succ → aWL, min_eq_left → aWW, add_assoc → aWX, add_zero → aWY, eq_zero_or_pos → aWZ, mul_le_mul_left → aXA, pos_of_ne_zero → aXB, pow_pos → aXK, div_le_self → aXM, div_lt_iff_lt_mul → aXP, sub_self → aXQ, succ_mul → aXR, mul_le_mul → aXX, div_add_mod → aYC, div_eq_of_lt → aYD, pow_le_pow_right → aYK
open Bool renaming false_and → aUV, not_true → aUW, true_and → aVA, and_eq_true → aVE, not_false → aVG, and_false → aWB, and_true → aWQ, and_assoc → aXN, false_eq_true → aXU
open Option renaming map_eq_some_iff → aUZ, map_some → aWC, some → aXC, getD_some → aXH, bind_eq_some_iff → aYE, bind_some → aYF
open Int renaming toNat_natCast → aWK
open Array renaming replicate → aWO, length_toList → aXS, getElem?_eq_some_iff → aXT, getElem?_eq_getElem → aXY, getD_eq_getD_getElem? → aYG
namespace Go.PM
open Go Go.Na
def agS (G:GE) (v:PV) (mc:Nat) (s':GS) (r:PV) (B':List BX) (L':List LI):Prop:=r=.tup []∧∃ c d,B'=G.boxes v mc c d s'.a∧L'=mE s' c d
def gh (C:Ctx) (l:List Nat) (v:PV) (mc aTC k:Nat):Prop :=
 ∀ (G:GE) (d e:PV) (s:GS) (dom:Nat) (x:cF),GOk l aTC s→s.aTL[dom]?=some x→x.level=4-(k:Int)→∀ c,aM c (G.boxes v mc d e s.a) (mE s d e) →
  aH C 7 [.ptr G.o 2 0 0,.ptr G.fo 7 0 0,.int .i64 dom,.int .i64 aTC] c (fun r H'=>∃ B' L',agS G v mc (eX l mc aTC k dom s) r B' L'∧aM H' B' L')
theorem apO {lv:Nat} (h:lv≤4):([45,115,114,107,109]:List UInt8)[lv]?=some (lL lv):=by
 match lv,h with
 | 0,_=>rfl
 | 1,_=>rfl
 | 2,_=>rfl
 | 3,_=>rfl
 | 4,_=>rfl
theorem XR {C:Ctx} {l:List Nat} {v:PV} (G:GE) (mc aTC dom lv n i k p:Nat) (β:lv=4-k) (hk:k<4) (w:gh C l v mc aTC k) (g:GS) (x:cF) (a:Nat) (U:GOk l aTC { g with aTL:=g.aTL++[x],a:=a }) (hx:x.level=(lv:Nat)) (V u:PV) (α:aTC≤60) (K:bR) (F:PF) (H:PH)
  (c:(fE G dom aTC lv n i).le F) (f11:F 11=some (.ptr p 7 0 0)) (E:aM H (G.boxes v mc V u a++[(p,.rows 7 [x.cells])]) (mE g V u))
  (hK:∀ d y R H',(fE G dom aTC lv n i).le R→aM H' (G.boxes v mc d y (eX l mc aTC k g.aTL.length { g with aTL:=g.aTL++[x],a:=a }).a) (mE (eX l mc aTC k g.aTL.length { g with aTL:=g.aTL++[x],a:=a }) d y)→K .normal R H') :
  aC.wp C (.draw SR) (gD C (aC.wp C (.region SS)) K) F H:=by
 have f0:F 0=some (.ptr G.o 2 0 0):=c 0 _ (by unfold fE; simp only[go_sem]);have f1:F 1=some (.ptr G.fo 7 0 0):=c 1 _ (by unfold fE; simp only[go_sem]);have f2:F 2=some (.int .i64 dom):=c 2 _ (by unfold fE; simp only[go_sem]);have f3:F 3=some (.int .i64 aTC):=c 3 _ (by unfold fE; simp only[go_sem]);have f8:F 8=some (.int .i64 lv):=c 8 _ (by unfold fE; simp only[go_sem]);have f9:F 9=some (.int .i64 n):=c 9 _ (by unfold fE; simp only[go_sem]);have Z:F 10=some (.int .i64 i):=c 10 _ (by unfold fE; simp only[go_sem]);have N:=U.aTL;simp only[aUS,aUX] at N;have b1:=E.at 1 rfl;have b2:=E.at 2 rfl;have A:(1:Nat)*7≤16777216:=by decide
 refine bS .nil dT a_ ?_;simp only[go_sem,SR,f1,f11,b1,b2,A,aVC,aVK,or_false,forall_eq,forall_eq_or_imp];refine E.append 0 (src:=[x.cells]) rfl rfl (by unfold roomFor; rw[aUN]; simp only[aUX,maxLen]; omega) fun d H2 B hw=>?_;obtain⟨q,rfl⟩:=hw (by simp);have hl:(kL g.aTL++[x.cells]).length=g.aTL.length+1:=by simp
 rw[hl] at B ⊢;have X:=B.at 1 rfl;refine⟨a_,?_⟩;simp only[go_sem,X,aVC,aVK,or_false,forall_eq];have S:=B.set 1 rfl (flB G.ext G.wl (.osl G.qm 4 0 mc) (.osl q 7 0 (g.aTL.length+1)) u G.wp G.wv);have c2:=S.at 1 rfl;refine⟨a_,?_⟩;have e:kL (g.aTL++[x])=kL g.aTL++[x.cells]:=by simp[kL]
 have Y:IntKind.i64.wrap (((g.aTL.length+1:Nat):Int)-1)=(g.aTL.length:Int):=by rw[wrap_i64 Om Om]; omega
 simp only[go_sem,SS,f0,f1,f3,Y];have h4:aM (H2.set G.fo (flB G.ext G.wl (.osl G.qm 4 0 mc) (.osl q 7 0 (g.aTL.length+1)) u G.wp G.wv)) (G.boxes v mc (.osl q 7 0 (g.aTL.length+1)) u a++[(p,.rows 7 [x.cells])]) (mE { g with aTL:=g.aTL++[x],a:=a } (.osl q 7 0 (g.aTL.length+1)) u++[]):=by unfold mE;simp only;rw[e];exact S
 refine GU h4 (fun W M=>w G _ u { g with aTL:=g.aTL++[x],a:=a } g.aTL.length x U (by simp) (by rw[hx]; omega) W M) rfl ?_;rintro r B' L' H' ⟨rfl,O,Q,rfl,rfl⟩ J;refine hK O Q _ _ ?_ (J.sub (List.sublist_append_left ..) (by rw[aWF]; exact aWT.refl _));unfold fE;exact Lq
theorem QB {C:Ctx} (U:nK C) {l:List Nat} {v:PV} (T:Tp l v) (G:GE) (mc aTC dom n k:Nat) (hk:k<4) (W:aTC≤60) (hn:n≤10) (Q:gh C l v mc aTC k) (s:GS) (hs:GOk l aTC s) (ζ:0<s.aTL.length) (N O:PV) (K:bR) (F:PF) (H:PH)
  (hF:(fE G dom aTC (4-k) n 0).le F) (B:aM H (G.boxes v mc N O s.a) (mE s N O))
  (Z:∀ e y A x H',(e=.exit 0∨e=.ret)→aM H' (G.boxes v mc y A (gJ l (4-k) aTC dom (eX l mc aTC k) s n).a) (mE (gJ l (4-k) aTC dom (eX l mc aTC k) s n) y A)→K e x H') :
  aC.wp C (.loop xC) K F H:=by
 obtain⟨lv,S⟩:∃ lv,lv=4-k:=⟨_,rfl⟩;rw[← S] at hF Z;refine wp_loop (α:=Nat × PV × PV × PH) (fun t=>fE G dom aTC lv n t.1) (fun t=>t.2.2.2) (fun t=>t.1≤n∧aM t.2.2.2 (G.boxes v mc t.2.1 t.2.2.1 (gJ l lv aTC dom (eX l mc aTC k) s t.1).a) (mE (gJ l lv aTC dom (eX l mc aTC k) s t.1) t.2.1 t.2.2.1)) (fun t=>n-t.1) (0,N,O,H) ⟨aUT _,B⟩ hF b_ ?_;rintro⟨i,N,O,H0⟩ ⟨hi,B⟩;simp only at hi B ⊢;obtain⟨Y,u,gu⟩:=be (level:=lv) (dom:=dom) (fun d t ht=>JX (mc:=mc) k d ht) hs i;have J:=fun h=>ajC (l:=l) (level:=lv) (aTC:=aTC) (dom:=dom) (rec:=eX l mc aTC k) (s:=s) (i:=i) h n hi;have w:gJ l lv aTC dom (eX l mc aTC k) s (i+1)=(if qM aTC (gJ l lv aTC dom (eX l mc aTC k) s i) then gJ l lv aTC dom (eX l mc aTC k) s i else eX l mc aTC k ((nN l lv dom (gJ l lv aTC dom (eX l mc aTC k) s i)).aTL.length-1) (nN l lv dom (gJ l lv aTC dom (eX l mc aTC k) s i))):=rfl;simp only[go_sem,xC,cb,fE];by_cases hlt:i<n
 ·have M:(i:Int)<(n:Nat):=Om;generalize hg:gJ l lv aTC dom (eX l mc aTC k) s i=g at *
  have ε:0<g.aTL.length:=by rw[gu,aUS]; omega
  have b1:=B.at 1 rfl;have lr:=(B.own 1 rfl).tT;have ld:=(B.own 0 rfl).tT;rw[aUN] at lr ld;have ei:=wZz i;simp only[go_sem,M,cc,bG (Om:((lv:Nat):Int)≠5),Ao,b1,lr];by_cases c1:aTC≤g.aTV.length
  ·have V:qM aTC g=true:=by unfold qM; simp[c1]
   simp only[go_sem,show (g.aTV.length:Int)≥(aTC:Nat) by omega];exact Z _ N O _ _ (.inr rfl) (by rw[J V]; exact B)
  simp only[go_sem,show ¬ (g.aTV.length:Int)≥(aTC:Nat) by omega,b1,ld];by_cases c2:35≤g.aTL.length
  ·have V:qM aTC g=true:=by unfold qM; simp[c2]
   simp only[go_sem,show (g.aTL.length:Int)≥35 by omega];exact Z _ N O _ _ (.inr rfl) (by rw[J V]; exact B)
  have V:qM aTC g=false:=by unfold qM; simp[c1,c2]
  rw[if_neg (by rw[V]; decide)] at w;simp only[go_sem,show ¬ (g.aTL.length:Int)≥35 by omega];have ls:=apO (Om:lv≤4);refine bS .nil (mkS l v) a_ ?_;have γ:pS [[PV.int IntKind.u8 (((lL lv).toNat:Nat):Int)]]=some [lL lv]:=by simp[pS]
  obtain⟨X,x0,β,-⟩:=Yb (level:=lv) (dom:=dom) Y V;have δ:(nN l lv dom g).aTL.length-1=g.aTL.length:=by rw[β]; simp
  rw[δ] at w;have h1:=B.set 0 rfl (bA v (aE l 16 g.a).2);have a1:=bJ l 16 Y.a;have n1:=bZ l (show 0<16 by decide) g.a;have e1:IntKind.i64.wrap (1+((aE l 16 g.a).1:Int))=((1+(aE l 16 g.a).1:Nat):Int):=by rw[wrap_i64 Om Om]; omega
  simp only[go_sem,Ap,ls,γ,b1,ld];refine JA U.totG (s:=[lL lv]) (n:=g.aTL.length) (by simp) (by have:=Y.aTL; omega) rfl a_ ?_;simp only[go_sem];refine sD U.totF T (o:=G.o) (n:=16) (a:=g.a) Om Y.a rfl (B.at 0 rfl) a_ ?_;simp only[go_sem,e1];refine aEP U.totF (n:=0) (by unfold dK; omega) rfl a_ ?_;simp only[go_sem,aVC,aVK,or_false,forall_eq,forall_eq_or_imp];refine aO fun p hp=>?_;have h2:=h1.new hp (.rows 7 [(⟨[lL lv]++cC g.aTL.length,(lv:Nat),(dom:Nat),(1+(aE l 16 g.a).1:Nat),jY⟩:cF).cells]);simp only[go_sem,aVC,aVK,or_false,forall_eq,forall_eq_or_imp];refine⟨a_,?_⟩;simp only[go_sem,Aq];refine cR U.totF T (o:=G.o) (n:=3) (a:=(aE l 16 g.a).2) (by decide) a1 rfl (h2.at 0 rfl) ?_;have h3:=h2.set 0 rfl (bA v (aE l 3 (aE l 16 g.a).2).2);have a2:=bJ l 3 a1;by_cases c3:(aE l 3 (aE l 16 g.a).2).1=0
  ·have hd:nN l lv dom g={ g with aTL:=g.aTL++[⟨[lL lv]++cC g.aTL.length,(lv:Nat),(dom:Nat),(1+(aE l 16 g.a).1:Nat),mkT 1 ((2+(aE l 6 (aE l 3 (aE l 16 g.a).2).2).1:Nat):Int)⟩],a:=(aE l 6 (aE l 3 (aE l 16 g.a).2).2).2 }:=by unfold nN; simp only[c3,if_true]
   rw[hd] at w X;have n2:=bZ l (show 0<6 by decide) (aE l 3 (aE l 16 g.a).2).2;have e2:IntKind.i64.wrap (2+((aE l 6 (aE l 3 (aE l 16 g.a).2).2).1:Int))=((2+(aE l 6 (aE l 3 (aE l 16 g.a).2).2).1:Nat):Int):=by rw[wrap_i64 Om Om]; omega
   simp only[go_sem,bP (show (((aE l 3 (aE l 16 g.a).2).1:Nat):Int)=0 by omega),Ar];refine cR U.totF T (o:=G.o) (n:=6) (a:=(aE l 3 (aE l 16 g.a).2).2) (by decide) a2 rfl (h3.at 0 rfl) ?_;have h4:=h3.set 0 rfl (bA v (aE l 6 (aE l 3 (aE l 16 g.a).2).2).2);rw[PH.set_set] at h4;simp only[go_sem,e2];refine aA (U.fmk 1 ((2+(aE l 6 (aE l 3 (aE l 16 g.a).2).2).1:Nat):Int) (by unfold dK; omega) (by unfold dK; omega)) rfl ?_;unfold xI;rw[if_neg Om];simp only[go_sem,show ¬ p=G.o from h4.ne 2 0 rfl rfl (by decide)];have h5:=h4.set 2 rfl (.rows 7 [(⟨[lL lv]++cC g.aTL.length,(lv:Nat),(dom:Nat),(1+(aE l 16 g.a).1:Nat),mkT 1 ((2+(aE l 6 (aE l 3 (aE l 16 g.a).2).2).1:Nat):Int)⟩:cF).cells])
   try simp only[wx]
   refine XR G mc aTC dom lv n i k p S hk Q g _ _ X rfl N O W _ _ _ (by unfold fE; exact Lq) rfl h5 ?_;intro y A x H' c E;rw[← w] at E;have R:x 10=some (.int .i64 i):=c 10 _ (by unfold fE; simp only[go_sem]);have g0:x 0=some (.ptr G.o 2 0 0):=c 0 _ (by unfold fE; simp only[go_sem]);have g1:x 1=some (.ptr G.fo 7 0 0):=c 1 _ (by unfold fE; simp only[go_sem]);have g2:x 2=some (.int .i64 dom):=c 2 _ (by unfold fE; simp only[go_sem]);have g3:x 3=some (.int .i64 aTC):=c 3 _ (by unfold fE; simp only[go_sem]);have g8:x 8=some (.int .i64 lv):=c 8 _ (by unfold fE; simp only[go_sem]);have g9:x 9=some (.int .i64 n):=c 9 _ (by unfold fE; simp only[go_sem]);simp only[go_sem,xD,R,ei];refine aG (i+1,y,A,H') ⟨hlt,E⟩ (by simp only; omega) ?_ b_;exact Lq
  ·have hd:nN l lv dom g={ g with aTL:=g.aTL++[⟨[lL lv]++cC g.aTL.length,(lv:Nat),(dom:Nat),(1+(aE l 16 g.a).1:Nat),jY⟩],a:=(aE l 3 (aE l 16 g.a).2).2 }:=by unfold nN; simp only[c3,if_false]
   rw[hd] at w X;simp only[go_sem,bG (show ¬ (((aE l 3 (aE l 16 g.a).2).1:Nat):Int)=0 by omega)]
   try simp only[wx]
   refine XR G mc aTC dom lv n i k p S hk Q g _ _ X rfl N O W _ _ _ (by unfold fE; exact Lq) rfl h3 ?_;intro y A x H' c E;rw[← w] at E;have R:x 10=some (.int .i64 i):=c 10 _ (by unfold fE; simp only[go_sem]);have g0:x 0=some (.ptr G.o 2 0 0):=c 0 _ (by unfold fE; simp only[go_sem]);have g1:x 1=some (.ptr G.fo 7 0 0):=c 1 _ (by unfold fE; simp only[go_sem]);have g2:x 2=some (.int .i64 dom):=c 2 _ (by unfold fE; simp only[go_sem]);have g3:x 3=some (.int .i64 aTC):=c 3 _ (by unfold fE; simp only[go_sem]);have g8:x 8=some (.int .i64 lv):=c 8 _ (by unfold fE; simp only[go_sem]);have g9:x 9=some (.int .i64 n):=c 9 _ (by unfold fE; simp only[go_sem]);simp only[go_sem,xD,R,ei];refine aG (i+1,y,A,H') ⟨hlt,E⟩ (by simp only; omega) ?_ b_;exact Lq
 ·have M:¬ (i:Int)<(n:Nat):=Om;have:i=n:=Om;subst this;simp only[go_sem,M];exact Z _ N O _ _ (.inl rfl) B
theorem Oq {C:Ctx} (M:nK C) {l:List Nat} {v:PV} (T:Tp l v) (mc aTC k:Nat) (R:0<mc) (F:mc≤1000) (y:aTC≤60) (hk:k≤4) (J:∀ X,k=X+1→gh C l v mc aTC X) (G:GE) (U K:PV) (s:GS) (dom:Nat) (x:cF)
  (N:GOk l aTC s) (W:s.aTL[dom]?=some x) (hl:x.level=4-(k:Int)) (O:PH) (B:aM O (G.boxes v mc U K s.a) (mE s U K)) :
  yK.wp C (aU Hb.res (fun r H'=>∃ B' L',agS G v mc (eX l mc aTC k dom s) r B' L'∧aM H' B' L')) (PF.args [.ptr G.o 2 0 0,.ptr G.fo 7 0 0,.int .i64 dom,.int .i64 aTC]) O:=by
 have w:dom<s.aTL.length:=(aVW.1 W).1;have b1:=B.at 1 rfl;have fin:∀ (e:mC) (c d:PV) (p:PF) (H':PH),(e=.exit 0∨e=.ret)→aM H' (G.boxes v mc c d (eX l mc aTC k dom s).a) (mE (eX l mc aTC k dom s) c d) →
   eQ 0 (aU Hb.res (fun r H'=>∃ B' L',agS G v mc (eX l mc aTC k dom s) r B' L'∧aM H' B' L')) e p H':=by
  intro e c d p H' E i;rcases E with rfl | rfl
  ·rw[DU,if_pos rfl];exact aX (vs:=[]) (.inl rfl) H' rfl b_ ⟨_,_,⟨rfl,c,d,rfl,rfl⟩,i⟩
  ·exact aX (vs:=[]) (.inr rfl) H' rfl b_ ⟨_,_,⟨rfl,c,d,rfl,rfl⟩,i⟩
 obtain⟨q,rs,Z,e2,e3,e4⟩:∃ q rs,U=.osl q 7 0 s.aTL.length∧O q=some (.rows 7 rs)∧s.aTL.length≤rs.length∧rs.take s.aTL.length=kL s.aTL:=by
  rcases B.own 0 rfl with ⟨u,_⟩ | ⟨q,rs,u,h2,h3,h4⟩
  ·have:=congrArg List.length u;rw[aUN] at this;simp at this; rw[this] at w; simp at w
  ·rw[aUN] at u h3 h4;exact⟨q,rs,u,h2,h3,h4⟩
 have S:rs[dom]?=some x.cells:=by
  have:(kL s.aTL)[dom]?=some x.cells:=by simp[kL,W]
  rw[← e4,List.getElem?_take_of_lt w] at this;exact this
 subst Z;have Y:(dom:Int)<(s.aTL.length:Nat):=Om;have ew:IntKind.i64.wrap (x.level+1)=((5-k:Nat):Int):=by rw[hl,wrap_i64 Om Om]; omega
 have β:=bZ l (show 0<2 by decide) s.a;have en:IntKind.i64.wrap (1+((aE l 2 s.a).1:Int))=((1+(aE l 2 s.a).1:Nat):Int):=by rw[wrap_i64 Om Om]; omega
 have u:=B.set 0 rfl (bA v (aE l 2 s.a).2);have A:GOk l aTC { s with a:=(aE l 2 s.a).2 }:=⟨N.aTL,N.aTV,bJ l 2 N.a⟩;have α:¬ q=G.o:=fun h=>B.neL 0 0 rfl rfl rfl h.symm;simp only[go_sem,yK,Or,b1,Y,e2,S,ew,Ot];refine cR M.totF T (o:=G.o) (n:=2) (a:=s.a) (by decide) N.a (by simp only[go_sem]; rfl) (B.at 0 rfl) ?_;simp only[go_sem,en,Ou];cases k with
 | zero =>
  simp only[go_sem,bG (Om:¬ ((5-0:Nat):Int)=2),LH];refine Oo (C:=C) M T G mc aTC dom (1+(aE l 2 s.a).1) R F y Om { s with a:=(aE l 2 s.a).2 } A _ K _ _ _ ?_ u ?_
  ·unfold fE;exact Lq
  ·intro c d p H' i;exact fin _ c d p H' (.inl rfl) i
 | succ k =>
  have H:=J k rfl;by_cases V:4-k=2
  ·have Q:eX l mc aTC (k+1) dom s=gJ l (4-k) aTC dom (eX l mc aTC k) { s with a:=(aE l 2 s.a).2 } 1:=by simp only[eX,if_pos V]
   simp only[go_sem,bP (show ((5-(k+1):Nat):Int)=2 by omega),Ov,LH];refine QB (C:=C) M T G mc aTC dom 1 k Om y (by decide) H { s with a:=(aE l 2 s.a).2 } A (by simp only; omega) _ K _ _ _ ?_ u ?_
   ·unfold fE
    (repeat' (first|exact d_|refine c_ ?_ ?_))<;>first|(simp only[go_sem,show 4-k=5-(k+1) by omega]<;>rfl)|rfl
   ·intro e c d p H' E i;rw[← Q] at i;exact fin e c d p H' E i
  ·have Q:eX l mc aTC (k+1) dom s=gJ l (4-k) aTC dom (eX l mc aTC k) { s with a:=(aE l 2 s.a).2 } (1+(aE l 2 s.a).1):=by simp only[eX,if_neg V]
   simp only[go_sem,bG (show ¬ ((5-(k+1):Nat):Int)=2 by omega),LH];refine QB (C:=C) M T G mc aTC dom (1+(aE l 2 s.a).1) k Om y Om H { s with a:=(aE l 2 s.a).2 } A (by simp only; omega) _ K _ _ _ ?_ u ?_
   ·unfold fE
    (repeat' (first|exact d_|refine c_ ?_ ?_))<;>first|(simp only[go_sem,show 4-k=5-(k+1) by omega]<;>rfl)|rfl
   ·intro e c d p H' E i;rw[← Q] at i;exact fin e c d p H' E i
theorem Mu {C:Ctx} (u:nK C) {l:List Nat} {v:PV} (T:Tp l v) (mc aTC:Nat) (i:0<mc) (c:mc≤1000) (d:aTC≤60)
  (w:∀ (args:List PV) (H:PH) (R:PV→PH→Prop),args.length=4→yK.wp C (aU Hb.res R) (PF.args args) H→aH C 7 args H R):∀ k,k≤4→gh C l v mc aTC k
 | 0,h=>fun G F J s dom x B E A p y=>w _ _ _ rfl (Oq u T mc aTC 0 i c d h (fun _ e=>by omega) G F J s dom x B E A p y)
 | k+1,h=>fun G F J s dom x B E A p y=>w _ _ _ rfl (Oq u T mc aTC (k+1) i c d h (fun K e=>by have:K=k:=Om;subst this;exact Mu u T mc aTC i c d w K Om) G F J s dom x B E A p y)
theorem aGF (l:List Nat) (dN:Nat) {a:Nat} (h:a≤l.length):(rE l dN a).2≤l.length:=(ul l (1+(aE l dN a).1) (bJ l dN h) (1+(aE l dN a).1)).1
theorem KL (l:List Nat) {a:Nat} (h:a≤l.length):∀ k,(gV l a k).2≤l.length∧(gV l a k).1.length=k
 | 0=>⟨h,rfl⟩
 | k+1=>by obtain⟨c,d⟩:=KL l h k;exact⟨aGF l 2 c,by simp only[gV,aUS,aUX,d]⟩
theorem yM (l:List Nat) (aTJ:Nat) {a:Nat} (h:a≤l.length):∀ k,(eN l aTJ a k).2≤l.length∧(eN l aTJ a k).1.length=k
 | 0=>⟨h,rfl⟩
 | k+1=>by obtain⟨c,d⟩:=yM l aTJ h k;exact⟨bJ l aTJ (bJ l 8 (bJ l 4 c)),by simp only[eN,aUS,aUX,d]⟩
structure FE where
 o:Nat
 o6:Nat
 o7:Nat
 aTC:Nat
 aTE:Nat
abbrev flZ:cB:=flB (.int .i64 0) .aB .aB .aB .aB .aB .aB
abbrev FE.boxes (E:FE) (v ext c d e i l p:PV) (a:Nat):List BX:=[(E.o,bA v a),(E.o7,flB ext c d e i l p),(E.o6,flZ)]
def fS (E:FE):PF:=(((((PF.nil.set 0 (.ptr E.o 2 0 0)).set 1 (.int .i64 E.aTC)).set 2 (.int .i64 E.aTE)).set 6 (.ptr E.o6 7 0 0)).set 7 (.ptr E.o7 7 0 0))
abbrev iJ (l:List cG):List (List PV):=l.map cG.cells
abbrev kA (l:List cS):List (List PV):=l.map cS.cells
theorem WO {E:FE} {F:PF} (c:F 0=some (.ptr E.o 2 0 0)) (d:F 1=some (.int .i64 E.aTC)) (e:F 2=some (.int .i64 E.aTE)) (i:F 6=some (.ptr E.o6 7 0 0)) (h7:F 7=some (.ptr E.o7 7 0 0)):(fS E).le F :=
 c_ (c_ (c_ (c_ (c_ d_ c) d) e) i) h7
theorem ayN {C:Ctx} (N:nK C) {l:List Nat} {v:PV} (T:Tp l v) (E:FE) (n a:Nat) (hn:n≤10) (V:a≤l.length) (ext:PV) (K:bR) (F:PF) (H:PH)
  (S:(((fS E).set 8 (.int .i64 n)).set 9 (.int .i64 0)).le F) (w:aM H (E.boxes v ext .aB .aB .aB .aB .aB .aB a) [])
  (U:∀ A M H',(fS E).le M→aM H' (E.boxes v ext A .aB .aB .aB .aB .aB (gV l a n).2) [(A,4,iJ (gV l a n).1)]→K (.exit 0) M H') :
  aC.wp C (.loop SQ) K F H:=by
 refine wp_loop (α:=Nat × PV × PH) (fun t=>((fS E).set 8 (.int .i64 n)).set 9 (.int .i64 t.1)) (fun t=>t.2.2) (fun t=>t.1≤n∧aM t.2.2 (E.boxes v ext t.2.1 .aB .aB .aB .aB .aB (gV l a t.1).2) [(t.2.1,4,iJ (gV l a t.1).1)]) (fun t=>n-t.1) (0,.aB,H) ⟨aUT _,w.mI 4⟩ S b_ ?_;rintro⟨i,A,Y⟩ ⟨hi,w⟩;simp only at hi w ⊢;obtain⟨k1,k2⟩:=KL l V i;have u:gV l a (i+1)=((gV l a i).1++[{ (rE l 2 (gV l a i).2).1 with name:=[108,97,119]++cC i }],(rE l 2 (gV l a i).2).2):=rfl;simp only[go_sem,SQ,Aj,fS];by_cases hlt:i<n
 ·have c:(i:Int)<(n:Nat):=Om;generalize Z:gV l a i=g at *
  simp only[go_sem,c,Ak];refine lK (N.law l v T E.o 2 g.2 (by decide) (by decide) k1) (w.at 0 rfl) rfl ?_;have Q:=w.set 0 rfl (bA v (rE l 2 g.2).2);generalize hz:rE l 2 g.2=z at *
  simp only[go_sem];refine aO fun p W=>?_;have R:=Q.new W (.rows 4 [z.1.cells]);simp only[go_sem,Al,aVC,aVK,or_false,forall_eq,forall_eq_or_imp];refine aA (N.name [108,97,119] i (by decide) Om) rfl ?_;have x:=R.set 3 rfl (.rows 4 [({ z.1 with name:=[108,97,119]++cC i }:cG).cells]);rw[PH.set_set] at x;have b1:=x.at 1 rfl;have y:¬ E.o7=p:=x.ne 1 3 rfl rfl (by decide);have d:¬ E.o7=E.o:=x.ne 1 0 rfl rfl (by decide);simp only[aN,if_neg y,if_neg d] at b1;have J:(1:Nat)*4≤16777216:=by decide
  simp only[go_sem,Am,y,d,b1,J,aVC,aVK,or_false,forall_eq,forall_eq_or_imp];refine x.append 0 (src:=[({ z.1 with name:=[108,97,119]++cC i }:cG).cells]) rfl rfl (by unfold roomFor; rw[aUN]; simp only[aUX,maxLen]; omega) fun w' H2 O X=>?_;obtain⟨q,rfl⟩:=X (by simp);have b2:=O.at 1 rfl;simp only[go_sem,b2,aVC,aVK,or_false,forall_eq];have h5:=O.set 1 rfl (flB ext (.osl q 4 0 (iJ g.1++[({ z.1 with name:=[108,97,119]++cC i }:cG).cells]).length) .aB .aB .aB .aB .aB);simp only[go_sem,An,wZz i];refine aG (i+1,.osl q 4 0 (iJ g.1++[({ z.1 with name:=[108,97,119]++cC i }:cG).cells]).length,_) ⟨hlt,?_⟩ (by simp only; omega) ?_ b_
  ·rw[u];have e:iJ (g.1++[{ z.1 with name:=[108,97,119]++cC i }])=iJ g.1++[({ z.1 with name:=[108,97,119]++cC i }:cG).cells]:=by simp[iJ]
   simp only;rw[e];exact h5.dropLast (B:=E.boxes v ext _ .aB .aB .aB .aB .aB z.2)
  ·exact Lq
 ·have c:¬ (i:Int)<(n:Nat):=Om;have:i=n:=Om;subst this;simp only[go_sem,c];exact U A _ _ (WO rfl rfl rfl rfl rfl) w
theorem ajY {C:Ctx} (O:nK C) {l:List Nat} {v:PV} (T:Tp l v) (E:FE) (n a nl:Nat) (hn:n≤10) (β:nl≤1000) (ha:a≤l.length) (ext d:PV) (aTJ:List cG) (U:aTJ.length=nl) (K:bR) (F:PF) (H:PH)
  (hF:(((fS E).set 11 (.int .i64 n)).set 12 (.int .i64 0)).le F) (p:aM H (E.boxes v ext d .aB .aB .aB .aB .aB a) [(d,4,iJ aTJ)])
  (hK:∀ A Q H',(fS E).le Q→Q 11=some (.int .i64 n)→aM H' (E.boxes v ext d A .aB .aB .aB .aB (eN l nl a n).2) [(d,4,iJ aTJ),(A,4,kA (eN l nl a n).1)]→K (.exit 2) Q H') :
  aC.wp C (.loop KU) K F H:=by
 refine wp_loop (α:=Nat × PV × PH) (fun t=>((fS E).set 11 (.int .i64 n)).set 12 (.int .i64 t.1)) (fun t=>t.2.2) (fun t=>t.1≤n∧aM t.2.2 (E.boxes v ext d t.2.1 .aB .aB .aB .aB (eN l nl a t.1).2) [(d,4,iJ aTJ),(t.2.1,4,kA (eN l nl a t.1).1)]) (fun t=>n-t.1) (0,.aB,H) ⟨aUT _,p.mI 4⟩ hF b_ ?_;rintro⟨i,A,Z⟩ ⟨hi,p⟩;simp only at hi p ⊢;obtain⟨k1,k2⟩:=yM l nl ha i;have u:eN l nl a (i+1)=((eN l nl a i).1++[⟨[109]++cC i,(1+(aE l 4 (eN l nl a i).2).1:Nat),(1+(aE l 8 (aE l 4 (eN l nl a i).2).2).1:Nat),((aE l nl (aE l 8 (aE l 4 (eN l nl a i).2).2).2).1:Nat)⟩],(aE l nl (aE l 8 (aE l 4 (eN l nl a i).2).2).2).2):=rfl;simp only[go_sem,KU,kp,fS];by_cases hlt:i<n
 ·have c:(i:Int)<(n:Nat):=Om;generalize hg:eN l nl a i=g at *
  have hx:=bZ l (show 0<4 by decide) g.2;have V:=bJ l 4 k1;have hy:=bZ l (show 0<8 by decide) (aE l 4 g.2).2;have W:=bJ l 8 V;have az:=bJ l nl W;have R:=p.set 0 rfl (bA v (aE l 4 g.2).2);have w:=R.set 0 rfl (bA v (aE l 8 (aE l 4 g.2).2).2);have h3:=w.set 0 rfl (bA v (aE l nl (aE l 8 (aE l 4 g.2).2).2).2);generalize J:aE l 4 g.2=x at *
  generalize M:aE l 8 x.2=y at *
  generalize N:aE l nl y.2=z at *
  have b1:=p.at 1 rfl;have Y:=(p.own 0 rfl).tT;rw[aUN,U] at Y;have B:(PH.nil.set E.o7 (flB ext d A .aB .aB .aB .aB)).le Z:=e_ a_ b1;have ex:IntKind.i64.wrap (1+(x.1:Int))=((1+x.1:Nat):Int):=by rw[wrap_i64 Om Om]; omega
  have ey:IntKind.i64.wrap (1+(y.1:Int))=((1+y.1:Nat):Int):=by rw[wrap_i64 Om Om]; omega
  simp only[go_sem,c];refine bS (PH.nil.set E.o7 (flB ext d A .aB .aB .aB .aB)) (mkS l v) B ?_;simp only[go_sem,kr];refine JA O.totG (s:=[109]) (n:=i) (by decide) Om rfl B ?_;simp only[go_sem];refine sD O.totF T (o:=E.o) (n:=4) (a:=g.2) (by decide) k1 rfl (p.at 0 rfl) ?_ ?_
  ·rw[J]; exact e_ a_ (R.at 1 rfl)
  rw[J];simp only[go_sem,ex];refine sD O.totF T (o:=E.o) (n:=8) (a:=x.2) (by decide) V rfl (R.at 0 rfl) ?_ ?_
  ·rw[M]; exact e_ a_ (w.at 1 rfl)
  rw[M];simp only[go_sem,ey,Y];rw[PH.set_set] at w;refine sD O.totF T (o:=E.o) (n:=nl) (a:=y.2) Om W rfl (w.at 0 rfl) ?_ ?_
  ·rw[N]; exact e_ a_ ((w.set 0 rfl (bA v z.2)).at 1 rfl)
  rw[N];have X:=w.set 0 rfl (bA v z.2);have S:(1:Nat)*4≤16777216:=by decide
  simp only[go_sem,S,aVC,aVK,or_false,forall_eq,forall_eq_or_imp];rw[PH.set_set] at X;refine X.append 1 (src:=[(⟨[109]++cC i,(1+x.1:Nat),(1+y.1:Nat),(z.1:Nat)⟩:cS).cells]) rfl rfl (by unfold roomFor; rw[aUN]; simp only[aUX,maxLen]; omega) fun w' H2 h5 hw=>?_;obtain⟨q,rfl⟩:=hw (by simp);have b2:=h5.at 1 rfl;refine⟨e_ a_ b2,?_⟩;refine bS .nil dT a_ ?_;simp only[go_sem,ku,b2,aVC,aVK,or_false,forall_eq];have h6:=h5.set 1 rfl (flB ext d (.osl q 4 0 (kA g.1++[(⟨[109]++cC i,(1+x.1:Nat),(1+y.1:Nat),(z.1:Nat)⟩:cS).cells]).length) .aB .aB .aB .aB);refine⟨a_,?_⟩;simp only[go_sem,kw,wZz i];refine aG (i+1,.osl q 4 0 (kA g.1++[(⟨[109]++cC i,(1+x.1:Nat),(1+y.1:Nat),(z.1:Nat)⟩:cS).cells]).length,_) ⟨hlt,?_⟩ (by simp only; omega) ?_ b_
  ·rw[u];have e:kA (g.1++[⟨[109]++cC i,(1+x.1:Nat),(1+y.1:Nat),(z.1:Nat)⟩])=kA g.1++[(⟨[109]++cC i,(1+x.1:Nat),(1+y.1:Nat),(z.1:Nat)⟩:cS).cells]:=by simp[kA]
   simp only;rw[e];exact h6
  ·exact Lq
 ·have c:¬ (i:Int)<(n:Nat):=Om;have:i=n:=Om;subst this;simp only[go_sem,c];exact hK A _ _ (WO rfl rfl rfl rfl rfl) rfl p
abbrev xQ (x:bT) (w:PV):List PV:=[.str x.name,.int .i64 x.k,.int .i64 x.m,.int .i64 x.aUA,.int .i64 x.s0,.int .i64 x.s1,.int .i64 x.s2,.int .i64 x.s3,.int .i64 x.s4,w,frs x.repair,
 .bool x.target.neg,aK x.target.num,aK x.target.den,.bool x.aTM.neg,aK x.aTM.num,aK x.aTM.den]
def uq (E:FE) (mc n i:Nat):PF:=(((fS E).set 11 (.int .i64 mc)).set 13 (.int .i64 n)).set 14 (.int .i64 i)
structure PAt (E:FE) (mc n i:Nat) (F:PF):Prop where
 f0:F 0=some (.ptr E.o 2 0 0)
 f1:F 1=some (.int .i64 E.aTC)
 f2:F 2=some (.int .i64 E.aTE)
 f6:F 6=some (.ptr E.o6 7 0 0)
 f7:F 7=some (.ptr E.o7 7 0 0)
 f11:F 11=some (.int .i64 mc)
 f13:F 13=some (.int .i64 n)
 f14:F 14=some (.int .i64 i)
def rH (l:List Nat) (a:Nat):Nat→List Int × Nat
 | 0=>([],a)
 | j+1=>let s:=rH l a j
  let t:=gX l s.2
  (s.1++[t.1],t.2)
theorem uL (l:List Nat) {a:Nat} (h:a≤l.length):(gX l a).2≤l.length:=by
 unfold gX;simp only;split
 ·exact bJ l 3 (bJ l 3 h)
 ·exact bJ l 3 h
theorem wb (l:List Nat) {a:Nat} (h:a≤l.length):∀ j,(rH l a j).2≤l.length∧(rH l a j).1.length=j
 | 0=>⟨h,rfl⟩
 | j+1=>by obtain⟨c,d⟩:=wb l h j;exact⟨uL l c,by simp only[rH,aUS,aUX,d]⟩
abbrev rG (pre post:List PV) (s:List Int):List PV:=pre++(s.map fun x=>PV.int .i64 x)++aUR (4-s.length) (.int .i64 0)++post
theorem aIA {pre post:List PV} {s:List Int} (c:pre.length=5) (e:s.length<4) (x:Int):(rG pre post s).set (5+s.length) (.int .i64 x)=rG pre post (s++[x]):=by
 obtain⟨k,d⟩:∃ k,4-s.length=k+1:=⟨3-s.length,by omega⟩;unfold rG;rw[aUS,aUX,show 4-(s.length+1)=k by omega,d,List.replicate_succ,aVT,aVZ,aWS];rw[List.set_append_left _ _ (by simp[c]),aXO _ _ (by simp[c])];have:5+s.length-(pre++s.map fun x=>PV.int .i64 x).length=0:=by simp[c]
 rw[this,aYB];simp
theorem aAV {pre post:List PV} {s:List Int} (d:pre.length=5) (e:s.length<4):rG pre post s=rG pre post (s++[0]):=by
 obtain⟨k,c⟩:∃ k,4-s.length=k+1:=⟨3-s.length,by omega⟩;unfold rG;rw[aUS,aUX,show 4-(s.length+1)=k by omega,c,List.replicate_succ,aVT,aVZ,aWS];simp
theorem ajZ {C:Ctx} (Z:nK C) {l:List Nat} {v:PV} (T:Tp l v) (E:FE) (mc n i a p:Nat) (ha:a≤l.length) (B:List BX) (L:List LI) (pre post:List PV) (d:pre.length=5) (y:post.length=8) (K:bR) (F:PF) (H:PH)
  (u:PAt E mc n i F) (S:F 15=some (.ptr p 17 0 0)) (U:F 16=some (.int .i64 1)) (A:aM H ((E.o,bA v a)::B++[(p,.rows 17 [rG pre post []])]) L)
  (hK:∀ Q H',PAt E mc n i Q→Q 15=some (.ptr p 17 0 0)→aM H' ((E.o,bA v (rH l a 4).2)::B++[(p,.rows 17 [rG pre post (rH l a 4).1])]) L→K (.exit 6) Q H') :
  aC.wp C (.loop yE) K F H:=by
 refine wp_loop (α:=Nat × PH) (fun t=>((uq E mc n i).set 15 (.ptr p 17 0 0)).set 16 (.int .i64 (t.1+1:Nat))) (fun t=>t.2) (fun t=>t.1≤4∧aM t.2 ((E.o,bA v (rH l a t.1).2)::B++[(p,.rows 17 [rG pre post (rH l a t.1).1])]) L) (fun t=>4-t.1) (0,H) ⟨aUT _,A⟩ ?_ b_ ?_
 ·unfold uq fS
  (repeat' (first|exact d_|refine c_ ?_ ?_))<;>first|(simp only[go_sem,u.f0,u.f1,u.f2,u.f6,u.f7,u.f11,u.f13,u.f14,S,U]<;>rfl)|rfl
 rintro⟨j,H0⟩ ⟨hj,A⟩;simp only at hj A ⊢;obtain⟨k1,k2⟩:=wb l ha j;have e:rH l a (j+1)=((rH l a j).1++[(gX l (rH l a j).2).1],(gX l (rH l a j).2).2):=rfl;simp only[go_sem,yE,la,uq,fS];by_cases hlt:j<4
 ·generalize hg:rH l a j=g at *
  have ei:=dA (Om:j+1<9223372036854775807);simp only[go_sem,show ((j+1:Nat):Int)<5 by omega,lf];refine cR Z.totF T (o:=E.o) (n:=3) (a:=g.2) (by decide) k1 (by simp only[go_sem]; rfl) (A.at 0 rfl) ?_;have N:aM _ ((E.o,bA v (aE l 3 g.2).2)::B++[(p,.rows 17 [rG pre post g.1])]) L:=A.set 0 rfl (bA v (aE l 3 g.2).2);by_cases c:(aE l 3 g.2).1=0
  ·have Y:gX l g.2=(((1+(aE l 3 (aE l 3 g.2).2).1:Nat):Int),(aE l 3 (aE l 3 g.2).2).2):=by unfold gX; simp only[c,if_true]
   have n2:=bZ l (show 0<3 by decide) (aE l 3 g.2).2;have e2:IntKind.i64.wrap (1+((aE l 3 (aE l 3 g.2).2).1:Int))=((1+(aE l 3 (aE l 3 g.2).2).1:Nat):Int):=by rw[wrap_i64 Om Om]; omega
   simp only[go_sem,bP (show (((aE l 3 g.2).1:Nat):Int)=0 by omega),lg];refine cR Z.totF T (o:=E.o) (n:=3) (a:=(aE l 3 g.2).2) (by decide) (bJ l 3 k1) (by simp only[go_sem]; rfl) (N.at 0 rfl) ?_;have O:aM _ ((E.o,bA v (aE l 3 (aE l 3 g.2).2).2)::B++[(p,.rows 17 [rG pre post g.1])]) L:=N.set 0 rfl (bA v (aE l 3 (aE l 3 g.2).2).2);have R:=O.QN;rw[PH.set_set] at R O;have M:¬ p=E.o:=fun h=>by have X:=O.ndB;simp[eU,h] at X
   simp only[aN,if_neg M] at R;have W:((j+1:Nat):Int)<((5:Nat):Int):=Om;have V:(0:Int)≤((j+1:Nat):Int):=Om;have β:(rG pre post g.1).length=17:=by simp[rG,d,y,k2]; omega
   have w:=aIA (pre:=pre) (post:=post) (s:=g.1) d Om ((1+(aE l 3 (aE l 3 g.2).2).1:Nat):Int);rw[k2] at w;have J:4+(j+1)*1=5+j:=Om;have x:5+j+1≤17:=Om;simp only[go_sem,e2,W,V,J,M,R,x,aVC,aVK,or_false,forall_eq,w,KZ,ei];refine aG (j+1,_) ⟨hlt,?_⟩ (by simp only; omega) ?_ b_
   ·rw[e,Y];exact O.v8 _
   ·exact Lq
  ·have Y:gX l g.2=(0,(aE l 3 g.2).2):=by unfold gX; simp only[c,if_false]
   simp only[go_sem,bG (show ¬ (((aE l 3 g.2).1:Nat):Int)=0 by omega),KZ,ei];refine aG (j+1,_) ⟨hlt,?_⟩ (by simp only; omega) ?_ b_
   ·rw[aAV (pre:=pre) (post:=post) (s:=g.1) d Om] at N;rw[e,Y];exact N
   ·exact Lq
 ·have:j=4:=Om;subst this;simp only[go_sem,show ¬ ((4+1:Nat):Int)<5 by decide];exact hK _ _ ⟨by simp only[go_sem],by simp only[go_sem],by simp only[go_sem],by simp only[go_sem],by simp only[go_sem],by simp only[go_sem],by simp only[go_sem],by simp only[go_sem]⟩ Sq A
theorem aM.pR {E:FE} {v ext c d e i l p:PV} {a:Nat} {H:PH} {B:List BX} {L:List LI} (h:aM H (E.boxes v ext c d e i l p a++B) L) (b:Nat):aM (H.set E.o (bA v b)) (E.boxes v ext c d e i l p b++B) L:=h.set 0 rfl _
abbrev du (s:List UInt8) (k m q:Int) (w r c d e:PV) (h:RF):List PV:=[.str s,.int .i64 k,.int .i64 m,.int .i64 q,.int .i64 0,.int .i64 0,.int .i64 0,.int .i64 0,.int .i64 0,w,r,c,d,e,.bool h.neg,aK h.num,aK h.den]
theorem ayO {C : Ctx} (Lb : nK C) {l : List Nat} {v : PV} (T : Tp l v) (E : FE) (mc n i a : Nat) (ha : a ≤ l.length) (hi : i < 50) (ext w1 w2 w3 w4 w5 w6 : PV) (L : List LI) (rest : aC) (K : bR) (F : PF) (H : PH)
    (hF : PAt E mc n i F) (hH : aM H (E.boxes v ext w1 w2 w3 w4 w5 w6 a) L)
    (hK : ∀ p F' H', PAt E mc n i F' → F' 15 = some (.ptr p 17 0 0) →
      (let k := aE l 2 a; let m := aE l 3 k.2; let h := aE l 4 m.2; let q := aE l (m.1 + 1) h.2; let r := kP l q.2 (max m.1 1); let g := aE l 9 r.2
       aM H' (E.boxes v ext w1 w2 w3 w4 w5 w6 g.2 ++ [(p, .rows 17 [rG [.str ([112] ++ cC i), .int .i64 (1 + k.1 : Nat), .int .i64 (m.1 : Nat), .int .i64 (1 + k.1 + q.1 : Nat), .int .i64 0]
        ([.aB, frs r.1] ++ (mkT (g.1 : Nat) 8).cells ++ (mkT ((1 + h.1 : Nat) : Int) 1).cells) []])]) L) → aC.wp C rest K F' H') :
    aC.wp C (.seq (.region KX) (.seq (.seq (.draw yF) (.draw yG)) (.seq (.region yH) (.seq (.region yI) rest)))) K F H := by
  obtain ⟨f0, f1, f2, f6, f7, f11, f13, f14⟩ := hF;have nk := bZ l (show 0 < 2 by decide) a;have ak := bJ l 2 ha;have nm := bZ l (show 0 < 3 by decide) (aE l 2 a).2;have am := bJ l 3 ak;simp only at hK;generalize hk : aE l 2 a = k at *
  generalize hm : aE l 3 k.2 = m at *
  have nh := bZ l (show 0 < 4 by decide) m.2;have ah := bJ l 4 am;generalize hh : aE l 4 m.2 = h at *
  have nq := bZ l (Om : 0 < m.1 + 1) h.2;have aq := bJ l (m.1 + 1) ah;generalize hq : aE l (m.1 + 1) h.2 = q at *
  have ar := HU l aq (max m.1 1);generalize hr : kP l q.2 (max m.1 1) = r at *
  have ng := bZ l (show 0 < 9 by decide) r.2;have ag := bJ l 9 ar;generalize hg : aE l 9 r.2 = g at *
  have ek : IntKind.i64.wrap (1 + (k.1 : Int)) = ((1 + k.1 : Nat) : Int) := by rw [wrap_i64 Om Om]; omega
  have eh : IntKind.i64.wrap (1 + (h.1 : Int)) = ((1 + h.1 : Nat) : Int) := by rw [wrap_i64 Om Om]; omega
  have em : IntKind.i64.wrap ((m.1 : Int) + 1) = ((m.1 + 1 : Nat) : Int) := dA Om;have eq' : IntKind.i64.wrap (((1 + k.1 : Nat) : Int) + (q.1 : Int)) = ((1 + k.1 + q.1 : Nat) : Int) := by rw [wrap_i64 Om Om]; omega
  have h0 : aM H (E.boxes v ext w1 w2 w3 w4 w5 w6 a ++ []) L := by rw [aWF]; exact hH
  simp only[go_sem,KX,f14];refine aA (Lb.name [112] i (by decide) Om) rfl ?_;simp only[go_sem,f0];refine cR Lb.totF T (o := E.o) (n := 2) (a := a) (by decide) ha rfl (h0.at 0 rfl) ?_;have g1 := h0.pR k.2;rw [hk];simp only[go_sem,ek,f0];refine cR Lb.totF T (o := E.o) (n := 3) (a := k.2) (by decide) ak rfl (g1.at 0 rfl) ?_;have g2 := g1.pR m.2;rw [hm];rw [PH.set_set] at g2;simp only[go_sem,f0];refine cR Lb.totF T (o := E.o) (n := 4) (a := m.2) (by decide) am rfl (g2.at 0 rfl) ?_;have g3 := g2.pR h.2;rw [hh];rw [PH.set_set] at g3;simp only[go_sem,eh];refine aA (Lb.int ((1 + h.1 : Nat) : Int) (by unfold dK; omega)) rfl ?_;simp only[go_sem,aVC,aVK,or_false,forall_eq,forall_eq_or_imp];refine aO fun p hp => ?_;have g4 := g3.new hp (.rows 17 [du ([112] ++ cC i) (1 + k.1 : Nat) (m.1 : Nat) 0 .aB .aB (.bool false) .aB .aB (mkT ((1 + h.1 : Nat) : Int) 1)]);have hpo : ¬ p = E.o := g4.ne 3 0 rfl rfl (by decide);have hop : ¬ E.o = p := fun e => hpo e.symm;have q2 : ∀ (F2 : PF) (H2 : PH), PAt E mc n i F2 → F2 15 = some (.ptr p 17 0 0) → aM H2 (E.boxes v ext w1 w2 w3 w4 w5 w6 h.2 ++ [(p, .rows 17 [du ([112] ++ cC i) (1 + k.1 : Nat) (m.1 : Nat) 0 .aB .aB (.bool false) .aB .aB (mkT ((1 + h.1 : Nat) : Int) 1)])]) L →
      aC.wp C (.seq (.seq (.draw yF) (.draw yG)) (.seq (.region yH) (.seq (.region yI) rest))) K F2 H2 := by
    intro F2 H2 hF2 f15 hH2;obtain ⟨f0, f1, f2, f6, f7, f11, f13, f14⟩ := hF2;have bp := hH2.at 3 rfl;have hHs : (PH.nil.set p (.rows 17 [du ([112] ++ cC i) (1 + k.1 : Nat) (m.1 : Nat) 0 .aB .aB (.bool false) .aB .aB (mkT ((1 + h.1 : Nat) : Int) 1)])).le H2 := e_ a_ bp;simp only[go_sem];refine bS _ (mkS l v) hHs ?_;simp only[go_sem,yF,f15,bp,em,f0];refine sD Lb.totF T (o := E.o) (n := m.1 + 1) (a := h.2) Om ah rfl (hH2.at 0 rfl) ?_ ?_
    · rw [hq]; exact e_ a_ ((hH2.pR q.2).at 3 rfl)
    rw [hq];have g5 := hH2.pR q.2;simp only[go_sem,eq',f15];refine bS .nil dT a_ ?_;simp only[go_sem,yG,hpo,bp];refine ⟨a_, ?_⟩;have g6 : aM _ (E.boxes v ext w1 w2 w3 w4 w5 w6 q.2 ++ [(p, .rows 17 [du ([112] ++ cC i) (1 + k.1 : Nat) (m.1 : Nat) (1 + k.1 + q.1 : Nat) .aB .aB (.bool false) .aB .aB (mkT ((1 + h.1 : Nat) : Int) 1)])]) L := g5.set 3 rfl (.rows 17 [du ([112] ++ cC i) (1 + k.1 : Nat) (m.1 : Nat) (1 + k.1 + q.1 : Nat) .aB .aB (.bool false) .aB .aB (mkT ((1 + h.1 : Nat) : Int) 1)]);have bq := g6.at 3 rfl;simp only[go_sem,yH,f0,f15];refine lK (Lb.rep l v T E.o q.2 m.1 Om aq) (g6.at 0 rfl) rfl ?_;have g7 := g6.pR r.2;rw [hr];simp only[go_sem,hpo,f15];have g8 : aM _ (E.boxes v ext w1 w2 w3 w4 w5 w6 r.2 ++ [(p, .rows 17 [du ([112] ++ cC i) (1 + k.1 : Nat) (m.1 : Nat) (1 + k.1 + q.1 : Nat) .aB (frs r.1) (.bool false) .aB .aB (mkT ((1 + h.1 : Nat) : Int) 1)])]) L := g7.set 3 rfl (.rows 17 [du ([112] ++ cC i) (1 + k.1 : Nat) (m.1 : Nat) (1 + k.1 + q.1 : Nat) .aB (frs r.1) (.bool false) .aB .aB (mkT ((1 + h.1 : Nat) : Int) 1)]);simp only[go_sem,yI,f0];refine cR Lb.totF T (o := E.o) (n := 9) (a := r.2) (by decide) ar rfl (g8.at 0 rfl) ?_;have g9 := g8.pR g.2;rw [hg];simp only[go_sem];refine aA (Lb.fmk (g.1 : Int) 8 (by unfold dK; omega) (by unfold dK; omega)) rfl ?_;unfold xI;rw [if_neg (by decide)];simp only[go_sem,f15,hpo];have g10 := g9.set 3 rfl (.rows 17 [rG [.str ([112] ++ cC i), .int .i64 (1 + k.1 : Nat), .int .i64 (m.1 : Nat), .int .i64 (1 + k.1 + q.1 : Nat), .int .i64 0]
        ([.aB, frs r.1] ++ (mkT (g.1 : Nat) 8).cells ++ (mkT ((1 + h.1 : Nat) : Int) 1).cells) []])
    refine hK p _ _ ⟨by simp only[go_sem,f0], by simp only[go_sem,f1], by simp only[go_sem,f2], by simp only[go_sem,f6], by simp only[go_sem,f7], by simp only[go_sem,f11], by simp only[go_sem,f13], by simp only[go_sem,f14]⟩ (by simp only[go_sem,f15]) g10
  simp only [aC.wp, go_sem] at q2;simp only[go_sem,aVC,aVK,or_false,forall_eq,forall_eq_or_imp];exact q2 _ _ ⟨by simp only[go_sem,f0], by simp only[go_sem,f1], by simp only[go_sem,f2], by simp only[go_sem,f6], by simp only[go_sem,f7], by simp only[go_sem,f11], by simp only[go_sem,f13], by simp only[go_sem,f14]⟩ rfl g4
abbrev FE.lists (p u w x y:PV) (e:List cG) (i:List cS) (c:List cF) (d:List dL) (l:List (List PV)):List LI:=[(p,4,iJ e),(u,4,kA i),(w,7,kL c),(x,3,mS d),(y,17,l)]
theorem ayP {C:Ctx} (Lb:nK C) {l:List Nat} {v:PV} (T:Tp l v) (E:FE) (mc n i a:Nat) (ha:a≤l.length) (η:0<mc) (μ:mc≤50) (ext y A B J w5:PV) (lw:List cG) (md:List cS) (dm:List cF) (dv:List dL) (pr:List (List PV)) (ρ:pr.length≤50)
  (s:List UInt8) (k m q:Int) (r t h:RF) (N:List RF) (p:Nat) (K:bR) (F:PF) (H:PH)
  (hF:PAt E mc n i F) (u:F 15=some (.ptr p 17 0 0))
  (hH:aM H (E.boxes v ext y A B J w5 .aB a++[(p,.rows 17 [rG [.str s,.int .i64 k,.int .i64 m,.int .i64 q,.int .i64 0] ([.aB,frs N]++t.cells++h.cells) []])]) (FE.lists y A B J w5 lw md dm dv pr))
  (V:(let M:=rH l a 4; let f:=aE l mc M.2; let b:=aE l 2 f.2
   let ms:List Int × Nat:=if 1<mc then (if b.1=0 then ([(f.1:Int),1-(f.1:Int)],b.2) else ([(f.1:Int)],b.2)) else ([(f.1:Int)],f.2)
   ∀ (w d:PV) (W:PF) (H':PH) (B':List BX),PAt E mc n i W→(∃ o,w=.osl o 1 0 ms.1.length)→aM H' (E.boxes v ext y A B J d .aB ms.2++B')
    (FE.lists y A B J d lw md dm dv (pr++[xQ ⟨s,k,m,q,0,(M.1.getD 0 0),(M.1.getD 1 0),(M.1.getD 2 0),(M.1.getD 3 0),ms.1,N,t,h⟩ w])++[(w,1,aW ms.1)])→K .normal W H')) :
  aC.wp C (.seq (.seq (.region KY) (.block 6 (.loop yE))) (.seq (.region LC) (.seq (.region LD) (.seq (.seq (.region LE) (.cond (.tmp 143) (.region LF) .skip)) (.region yJ))))) K F H:=by
 obtain⟨f0,f1,f2,f6,f7,f11,f13,f14⟩:=hF;simp only[go_sem,KY];refine ajZ (C:=C) Lb T E mc n i a p ha [(E.o7,flB ext y A B J w5 .aB),(E.o6,flZ)] _ _ _ rfl rfl _ _ H ⟨by simp only[go_sem,f0],by simp only[go_sem,f1],by simp only[go_sem,f2],by simp only[go_sem,f6],by simp only[go_sem,f7],by simp only[go_sem,f11],by simp only[go_sem,f13],by simp only[go_sem,f14]⟩ (by simp only[go_sem,u]) rfl hH ?_;clear f0 f1 f2 f6 f7 f11 f13 f14 u hH;intro F1 H1 ε u x;obtain⟨f0,f1,f2,f6,f7,f11,f13,f14⟩:=ε;obtain⟨α,ls⟩:=wb l ha 4;have ι:∃ O Q R S,(rH l a 4).1=[O,Q,R,S]:=⟨_,_,_,_,rfl⟩;simp only at V;generalize ν:rH l a 4=M at *
 obtain⟨O,Q,R,S,hx⟩:=ι;rw[hx] at V x;replace x:aM H1 (E.boxes v ext y A B J w5 .aB M.2++[(p,.rows 17 [xQ ⟨s,k,m,q,0,O,Q,R,S,[],N,t,h⟩ .aB])]) (FE.lists y A B J w5 lw md dm dv pr):=x;have nf:=bZ l η M.2;have af:=bJ l mc α;generalize hf:aE l mc M.2=f at *
 have ab:=bJ l 2 af;generalize hb:aE l 2 f.2=b at *
 have Z:¬ p=E.o:=x.ne 3 0 rfl rfl (by decide);have θ:¬ p=E.o7:=x.ne 3 1 rfl rfl (by decide);have ο:¬ E.o7=p:=fun e=>θ e.symm;have ξ:¬ E.o7=E.o:=x.ne 1 0 rfl rfl (by decide);simp only[go_sem,LC,f0,f11];refine cR Lb.totF T (o:=E.o) (n:=mc) (a:=M.2) Om α rfl (x.at 0 rfl) ?_;have h2:=x.set 0 rfl (bA v f.2);rw[hf];simp only[go_sem,LD];refine aO fun o ho=>?_;have h3:=h2.azN (s:=1) (rows:=aW [(f.1:Int)]) ho;have b3:=h3.at 3 rfl;have ob:¬ p=o:=h3.neL 3 5 rfl rfl rfl;have σ:¬ E.o7=o:=h3.neL 1 5 rfl rfl rfl;have τ:¬ E.o=o:=h3.neL 0 5 rfl rfl rfl;simp only[aN,if_neg ob,if_neg Z] at b3;simp only[go_sem,u,ob,Z,b3,aVC,aVK,or_false,forall_eq];have h4:=h3.set 3 rfl (.rows 17 [xQ ⟨s,k,m,q,0,O,Q,R,S,[],N,t,h⟩ (.osl o 1 0 1)]);have fin:∀ (w:PV) (ms:List Int) (a':Nat) (W:PF) (H':PH),PAt E mc n i W→W 15=some (.ptr p 17 0 0)→(∃ o,w=.osl o 1 0 ms.length) →
   aM H' (E.boxes v ext y A B J w5 .aB a'++[(p,.rows 17 [xQ ⟨s,k,m,q,0,O,Q,R,S,ms,N,t,h⟩ w])]) (FE.lists y A B J w5 lw md dm dv pr++[(w,1,aW ms)]) →
   (∀ (d:PV) (U:PF) (H2:PH),PAt E mc n i U→aM H2 (E.boxes v ext y A B J d .aB a'++[(p,.rows 17 [xQ ⟨s,k,m,q,0,O,Q,R,S,ms,N,t,h⟩ w])]) (FE.lists y A B J d lw md dm dv (pr++[xQ ⟨s,k,m,q,0,O,Q,R,S,ms,N,t,h⟩ w])++[(w,1,aW ms)])→K .normal U H2) →
   wpOps C yJ (K .normal) W H':=by
  intro w ms a' W H' δ u hw Y ζ;obtain⟨wo,rfl⟩:=hw;obtain⟨f0,f1,f2,f6,f7,f11,f13,f14⟩:=δ;have c1:=Y.at 1 rfl;have c3:=Y.at 3 rfl;have γ:(1:Nat)*17≤16777216:=by decide
  simp only[go_sem,yJ,f7,u,c1,c3,γ,aVC,aVK,or_false,forall_eq,forall_eq_or_imp];refine Y.append 4 (src:=[xQ ⟨s,k,m,q,0,O,Q,R,S,ms,N,t,h⟩ (.osl wo 1 0 ms.length)]) rfl rfl (by unfold roomFor; simp only[aUX,maxLen]; omega) fun d H2 h5 κ=>?_;obtain⟨q5,rfl⟩:=κ (by simp);have c2:=h5.at 1 rfl;simp only[go_sem,c2,aVC,aVK,or_false,forall_eq];exact ζ _ _ _ ⟨by simp only[go_sem,f0],by simp only[go_sem,f1],by simp only[go_sem,f2],by simp only[go_sem,f6],by simp only[go_sem,f7],by simp only[go_sem,f11],by simp only[go_sem,f13],by simp only[go_sem,f14]⟩ (h5.set 1 rfl (flB ext y A B J _ .aB))
 simp only[go_sem,LE,f11];by_cases c:1<mc
 ·have c':(mc:Int)>1:=Om;simp only[go_sem,c',f0];refine cR Lb.totF T (o:=E.o) (n:=2) (a:=f.2) (by decide) af rfl (h4.at 0 rfl) ?_;have h5:=h4.set 0 rfl (bA v b.2);rw[hb];by_cases c2:b.1=0
  ·have X:(b.1:Int)=0:=Om;rw[if_pos c,if_pos c2] at V;have e1:IntKind.i64.wrap (1-(f.1:Int))=1-(f.1:Int):=wrap_i64 Om Om;have c3:=h5.at 3 rfl;have β:(1:Nat)*1≤16777216:=by decide
   simp only[go_sem,bP X,LF,u,Z,e1,β];refine h5.append 5 (src:=[[.int .i64 (1-(f.1:Int))]]) rfl rfl (by unfold roomFor; simp only[aW,aUN,aUX,maxLen]; omega) fun w' H2 h6 hw=>?_;obtain⟨q2,rfl⟩:=hw (by simp);have c4:=h6.at 3 rfl;simp only[go_sem,c4,u,aVC,aVK,or_false,forall_eq];have h7:=h6.set 3 rfl (.rows 17 [xQ ⟨s,k,m,q,0,O,Q,R,S,[(f.1:Int),1-(f.1:Int)],N,t,h⟩ (.osl q2 1 0 2)]);exact fin (.osl q2 1 0 2) [(f.1:Int),1-(f.1:Int)] b.2 _ _ ⟨by simp only[go_sem,f0],by simp only[go_sem,f1],by simp only[go_sem,f2],by simp only[go_sem,f6],by simp only[go_sem,f7],by simp only[go_sem,f11],by simp only[go_sem,f13],by simp only[go_sem,f14]⟩ (by simp only[go_sem,u]) ⟨q2,rfl⟩ h7 (fun d U H2 g1 g2=>V _ d U H2 _ g1 ⟨q2,rfl⟩ g2)
  ·have X:¬ (b.1:Int)=0:=Om;rw[if_pos c,if_neg c2] at V;simp only[go_sem,bG X];exact fin (.osl o 1 0 1) [(f.1:Int)] b.2 _ _ ⟨by simp only[go_sem,f0],by simp only[go_sem,f1],by simp only[go_sem,f2],by simp only[go_sem,f6],by simp only[go_sem,f7],by simp only[go_sem,f11],by simp only[go_sem,f13],by simp only[go_sem,f14]⟩ (by simp only[go_sem,u]) ⟨o,rfl⟩ h5 (fun d U H2 g1 g2=>V _ d U H2 _ g1 ⟨o,rfl⟩ g2)
 ·have c':¬ (mc:Int)>1:=Om;rw[if_neg c] at V;simp only[go_sem,c'];exact fin (.osl o 1 0 1) [(f.1:Int)] f.2 _ _ ⟨by simp only[go_sem,f0],by simp only[go_sem,f1],by simp only[go_sem,f2],by simp only[go_sem,f6],by simp only[go_sem,f7],by simp only[go_sem,f11],by simp only[go_sem,f13],by simp only[go_sem,f14]⟩ (by simp only[go_sem,u]) ⟨o,rfl⟩ h4 (fun d U H2 g1 g2=>V _ d U H2 _ g1 ⟨o,rfl⟩ g2)
abbrev mF (l:List bT):List (List PV):=l.map bT.cells
abbrev oT (l:List eT):List (List PV):=l.map eT.cells
theorem oM {rows:List (List PV)} (h:∀ r∈rows,∀ c∈r,c.oid=none):Flat rows:=Flat.of fun r e c d q s rs=>j5 (h r e c d) q s rs
theorem aaB (l:List cG):Flat (iJ l):=oM fun r e c d=>by
 obtain⟨x,_,rfl⟩:=aVQ.1 e;simp only[cG.cells,aVC,aVK,or_false] at d;rcases d with rfl | rfl | rfl | rfl<;>rfl
theorem aaC (l:List cS):Flat (kA l):=oM fun r e c d=>by
 obtain⟨x,_,rfl⟩:=aVQ.1 e;simp only[cS.cells,aVC,aVK,or_false] at d;rcases d with rfl | rfl | rfl | rfl<;>rfl
theorem X8 (l:List cF):Flat (kL l):=oM fun r e c d=>by
 obtain⟨x,_,rfl⟩:=aVQ.1 e;simp only[cF.cells,aVC,aVK,or_false] at d;rcases d with rfl | rfl | rfl | rfl | rfl | rfl | rfl<;>rfl
theorem Yc (l:List dL):Flat (mS l):=oM fun r e c d=>by
 obtain⟨x,_,rfl⟩:=aVQ.1 e;simp only[dL.cells,aVC,aVK,or_false] at d;rcases d with rfl | rfl | rfl<;>rfl
theorem aIU (l:List eT):Flat (oT l):=oM fun r e c d=>by
 obtain⟨x,_,rfl⟩:=aVQ.1 e;simp only[eT.cells,aVC,aVK,or_false] at d;rcases d with rfl | rfl<;>rfl
theorem acP (l:List bT):Flat (mF l):=oM fun r e c d=>by
 obtain⟨x,_,rfl⟩:=aVQ.1 e;simp only[bT.cells,aVC,aVK,or_false] at d;rcases d with rfl | rfl | rfl | rfl | rfl | rfl | rfl | rfl | rfl | rfl | rfl | rfl | rfl | rfl | rfl | rfl | rfl<;>rfl
theorem alC (l:List Nat) (mc i:Nat) {a:Nat} (h:a≤l.length):(mL l mc i a).2≤l.length:=by
 have d:=bJ l 9 (HU l (bJ l ((aE l 3 (aE l 2 a).2).1+1) (bJ l 4 (bJ l 3 (bJ l 2 h)))) (max (aE l 3 (aE l 2 a).2).1 1));have c:=bJ l mc (uL l (uL l (uL l (uL l d))));unfold mL;simp only;split
 ·split
  ·exact bJ l 2 c
  ·exact bJ l 2 c
 ·exact c
theorem uC (l:List Nat) (mc:Nat) {a:Nat} (h:a≤l.length):∀ k,(dW l mc a k).2≤l.length∧(dW l mc a k).1.length=k
 | 0=>⟨h,rfl⟩
 | k+1=>by obtain⟨c,d⟩:=uC l mc h k;exact⟨alC l mc k c,by simp only[dW,aUS,aUX,d]⟩
theorem GN (l:List Nat) (pc:Nat) {a:Nat} (h:a≤l.length):∀ k,(eP l pc a k).2≤l.length∧(eP l pc a k).1.length=k
 | 0=>⟨h,rfl⟩
 | k+1=>by obtain⟨c,d⟩:=GN l pc h k;exact⟨bJ l pc c,by simp only[eP,aUS,aUX,d]⟩
theorem Oh {C:Ctx} (Lb:nK C) {l:List Nat} {v:PV} (T:Tp l v) (E:FE) (mc n a:Nat) (hn:n≤10) (θ:0<mc) (Y:mc≤50) (ha:a≤l.length) (N:Int) (d e u y:PV) (R:List cG) (S:List cS) (O:List cF) (Q:List dL) (K:bR) (F:PF) (H:PH)
  (J:PAt E mc n 0 F) (V:aM H (E.boxes v (.int .i64 N) d e u y .aB .aB a) [(d,4,iJ R),(e,4,kA S),(u,7,kL O),(y,3,mS Q)])
  (hK:∀ U F' H',(fS E).le F'→aM H' (E.boxes v (.int .i64 N) d e u y U .aB (dW l mc a n).2) (FE.lists d e u y U R S O Q (mF (dW l mc a n).1))→K (.exit 4) F' H') :
  aC.wp C (.loop KV) K F H:=by
 refine wp_loop (α:=Nat × PV × PH) (fun t=>uq E mc n t.1) (fun t=>t.2.2) (fun t=>t.1≤n∧aM t.2.2 (E.boxes v (.int .i64 N) d e u y t.2.1 .aB (dW l mc a t.1).2) (FE.lists d e u y t.2.1 R S O Q (mF (dW l mc a t.1).1))) (fun t=>n-t.1) (0,.aB,H) ⟨aUT _,V.mI 17⟩ ?_ b_ ?_
 ·unfold uq fS
  (repeat' (first|exact d_|refine c_ ?_ ?_))<;>first|(simp only[go_sem,J.f0,J.f1,J.f2,J.f6,J.f7,J.f11,J.f13,J.f14]<;>rfl)|rfl
 rintro⟨i,U,H0⟩ ⟨hi,V⟩;simp only at hi V ⊢;obtain⟨k1,k2⟩:=uC l mc ha i;have B:dW l mc a (i+1)=((dW l mc a i).1++[(mL l mc i (dW l mc a i).2).1],(mL l mc i (dW l mc a i).2).2):=rfl;simp only[go_sem,KV,k7,uq,fS];by_cases hlt:i<n
 ·have A:(i:Int)<(n:Nat):=Om;generalize hg:dW l mc a i=g at *
  simp only[go_sem,A];refine ayO (C:=C) Lb T E mc n i g.2 k1 Om (.int .i64 N) d e u y U .aB _ _ _ _ H0 ⟨by simp only[go_sem],by simp only[go_sem],by simp only[go_sem],by simp only[go_sem],by simp only[go_sem],by simp only[go_sem],by simp only[go_sem],by simp only[go_sem]⟩ V ?_;intro p F1 H1 γ β W;simp only at W;have ι:mL l mc i g.2=_:=rfl;have X:=bJ l 9 (HU l (bJ l ((aE l 3 (aE l 2 g.2).2).1+1) (bJ l 4 (bJ l 3 (bJ l 2 k1)))) (max (aE l 3 (aE l 2 g.2).2).1 1));refine ayP (C:=C) Lb T E mc n i _ X θ Y (.int .i64 N) d e u y U R S O Q _ (by rw[aUN,k2]; omega) _ _ _ _ (mkT 0 1) _ _ _ p _ F1 H1 γ β W ?_;intro M f b ms w c F2 H2 B' δ hw ε;obtain⟨o,rfl⟩:=hw;have hP:mL l mc i g.2=(⟨[112]++cC i,(1+(aE l 2 g.2).1:Nat),((aE l 3 (aE l 2 g.2).2).1:Nat),(1+(aE l 2 g.2).1+(aE l ((aE l 3 (aE l 2 g.2).2).1+1) (aE l 4 (aE l 3 (aE l 2 g.2).2).2).2).1:Nat),0,M.1.getD 0 0,M.1.getD 1 0,M.1.getD 2 0,M.1.getD 3 0,ms.1,(kP l (aE l ((aE l 3 (aE l 2 g.2).2).1+1) (aE l 4 (aE l 3 (aE l 2 g.2).2).2).2).2 (max (aE l 3 (aE l 2 g.2).2).1 1)).1,mkT ((aE l 9 (kP l (aE l ((aE l 3 (aE l 2 g.2).2).1+1) (aE l 4 (aE l 3 (aE l 2 g.2).2).2).2).2 (max (aE l 3 (aE l 2 g.2).2).1 1)).2).1:Nat) 8,mkT ((1+(aE l 4 (aE l 3 (aE l 2 g.2).2).2).1:Nat):Int) 1⟩,ms.2):=rfl;rw[hP] at B;generalize ζ:(⟨[112]++cC i,(1+(aE l 2 g.2).1:Nat),((aE l 3 (aE l 2 g.2).2).1:Nat),(1+(aE l 2 g.2).1+(aE l ((aE l 3 (aE l 2 g.2).2).1+1) (aE l 4 (aE l 3 (aE l 2 g.2).2).2).2).1:Nat),0,M.1.getD 0 0,M.1.getD 1 0,M.1.getD 2 0,M.1.getD 3 0,ms.1,(kP l (aE l ((aE l 3 (aE l 2 g.2).2).1+1) (aE l 4 (aE l 3 (aE l 2 g.2).2).2).2).2 (max (aE l 3 (aE l 2 g.2).2).1 1)).1,mkT ((aE l 9 (kP l (aE l ((aE l 3 (aE l 2 g.2).2).1+1) (aE l 4 (aE l 3 (aE l 2 g.2).2).2).2).2 (max (aE l 3 (aE l 2 g.2).2).1 1)).2).1:Nat) 8,mkT ((1+(aE l 4 (aE l 3 (aE l 2 g.2).2).2).1:Nat):Int) 1⟩:bT)=P at *
  have η:P.aTD=ms.1:=by rw[← ζ]
  obtain⟨rs,z1,z2,z3,Z,z5⟩:=ε.frz 5 rfl;have y1:=Z 0 _ (by decide) rfl;have y2:=Z 1 _ (by decide) rfl;have y3:=Z 2 _ (by decide) rfl;have y4:=Z 3 _ (by decide) rfl;have y5:=Z 4 _ (by decide) rfl;simp only at y1 y2 y3 y4 y5;have y0:=T.frz o 1 rs;obtain⟨f0,f1,f2,f6,f7,f11,f13,f14⟩:=δ;simp only[go_sem,lh,f14,wZz i];refine SN (i+1,c,H2.frz o 1 rs) z1 ⟨hlt,?_⟩ (by simp only; omega) ?_ b_
  ·rw[B];have eB:(E.boxes v (.int .i64 N) d e u y c .aB ms.2).map (fun b=>(b.1,b.2.frz o 1 rs))=E.boxes v (.int .i64 N) d e u y c .aB ms.2:=by show [(E.o,cB.rows 2 [[PV.dH o 1 rs v,.int .i64 ms.2]]),(E.o7,cB.rows 7 [[.int .i64 N,PV.dH o 1 rs d,PV.dH o 1 rs e,PV.dH o 1 rs u,PV.dH o 1 rs y,PV.dH o 1 rs c,.aB]]),(E.o6,flZ)]=_;rw[y0,y1,y2,y3,y4,y5]
   have e5:(mF g.1++[xQ P (.osl o 1 0 ms.1.length)]).map (fun r=>r.map (PV.dH o 1 rs))=mF (g.1++[P]):=by
    rw[aVT,acP];have:([xQ P (.osl o 1 0 ms.1.length)]:List (List PV)).map (fun r=>r.map (PV.dH o 1 rs))=[P.cells]:=by show [[PV.str P.name,.int .i64 P.k,.int .i64 P.m,.int .i64 P.aUA,.int .i64 P.s0,.int .i64 P.s1,.int .i64 P.s2,.int .i64 P.s3,.int .i64 P.s4,PV.dH o 1 rs (.osl o 1 0 ms.1.length),frs P.repair,.bool P.target.neg,aK P.target.num,aK P.target.den,.bool P.aTM.neg,aK P.aTM.num,aK P.aTM.den]]=_;rw[z2,← η];rfl
    rw[this];simp[mF]
   have eL:(FE.lists d e u y c R S O Q (mF g.1++[xQ P (.osl o 1 0 ms.1.length)])).map (fun x=>(x.1,x.2.1,x.2.2.map fun r=>r.map (PV.dH o 1 rs)))=FE.lists d e u y c R S O Q (mF (g.1++[P])):=by show [(d,4,(iJ R).map _),(e,4,(kA S).map _),(u,7,(kL O).map _),(y,3,(mS Q).map _),(c,17,(mF g.1++[xQ P (.osl o 1 0 ms.1.length)]).map _)]=_;rw[aaB,aaC,X8,Yc,e5]
   rw[← eB,← eL];exact z5.sub (by rw[aVT]; exact List.sublist_append_left ..) (aWT.refl _)
  ·(repeat' (first|exact d_|refine c_ ?_ ?_))<;>first|(simp only[go_sem,f0,f1,f2,f6,f7,f11,f13]<;>rfl)|rfl
 ·have A:¬ (i:Int)<(n:Nat):=Om;have:i=n:=Om;subst this;simp only[go_sem,A];exact hK U _ _ (WO Sq Sq Sq Sq Sq) V
theorem Wu {C:Ctx} (S:nK C) {l:List Nat} {v:PV} (T:Tp l v) (E:FE) (pc n a:Nat) (hn:n≤60) (β:pc≤50) (ha:a≤l.length) (ext y A B J c:PV) (x:List bT) (Q:x.length=pc) (L:List LI) (K:bR) (F:PF) (H:PH)
  (Y:(((fS E).set 18 (.int .i64 n)).set 19 (.int .i64 0)).le F) (u:aM H (E.boxes v ext y A B J c .aB a) ((c,17,mF x)::L))
  (Z:∀ p R H',(fS E).le R→aM H' (E.boxes v ext y A B J c p (eP l pc a n).2) ((c,17,mF x)::L++[(p,2,oT (eP l pc a n).1)])→K (.exit 8) R H') :
  aC.wp C (.loop KW) K F H:=by
 refine wp_loop (α:=Nat × PV × PH) (fun t=>((fS E).set 18 (.int .i64 n)).set 19 (.int .i64 t.1)) (fun t=>t.2.2) (fun t=>t.1≤n∧aM t.2.2 (E.boxes v ext y A B J c t.2.1 (eP l pc a t.1).2) ((c,17,mF x)::L++[(t.2.1,2,oT (eP l pc a t.1).1)])) (fun t=>n-t.1) (0,.aB,H) ⟨aUT _,u.mI 2⟩ Y b_ ?_;rintro⟨i,p,W⟩ ⟨hi,u⟩;simp only at hi u ⊢;obtain⟨k1,k2⟩:=GN l pc ha i;have w:eP l pc a (i+1)=((eP l pc a i).1++[⟨[118]++cC i,((aE l pc (eP l pc a i).2).1:Nat)⟩],(aE l pc (eP l pc a i).2).2):=rfl;simp only[go_sem,KW,ll,fS];by_cases hlt:i<n
 ·have d:(i:Int)<(n:Nat):=Om;generalize hg:eP l pc a i=g at *
  have U:=u.set 0 rfl (bA v (aE l pc g.2).2);generalize N:aE l pc g.2=z at *
  have b1:=u.at 1 rfl;have V:=(u.own 0 rfl).tT;rw[aUN,Q] at V;have M:(PH.nil.set E.o7 (flB ext y A B J c p)).le W:=e_ a_ b1;simp only[go_sem,d];refine bS (PH.nil.set E.o7 (flB ext y A B J c p)) (mkS l v) M ?_;simp only[go_sem,lm];refine JA S.totG (s:=[118]) (n:=i) (by decide) Om rfl M ?_;simp only[go_sem,V];refine sD S.totF T (o:=E.o) (n:=pc) (a:=g.2) Om k1 rfl (u.at 0 rfl) ?_ ?_
  ·rw[N]; exact e_ a_ (U.at 1 rfl)
  rw[N];have O:(1:Nat)*2≤16777216:=by decide
  simp only[go_sem,O,aVC,aVK,or_false,forall_eq,forall_eq_or_imp];refine U.append (v:=p) (s:=2) (rows:=oT g.1) (L.length+1) (src:=[(⟨[118]++cC i,(z.1:Nat)⟩:eT).cells]) (by simp) rfl (by unfold roomFor; rw[aUN]; simp only[aUX,maxLen]; omega) fun w' H2 h5 hw=>?_;obtain⟨q,rfl⟩:=hw (by simp);rw[show ((c,17,mF x)::L++[(p,2,oT g.1)])=((c,17,mF x)::L)++[(p,2,oT g.1)] from rfl,aXO _ _ (by simp),show L.length+1-((c,17,mF x)::L).length=0 by simp] at h5;have b2:=h5.at 1 rfl;refine⟨e_ a_ b2,?_⟩;refine bS .nil dT a_ ?_;simp only[go_sem,ln,b2,aVC,aVK,or_false,forall_eq];have X:=h5.set 1 rfl (flB ext y A B J c (.osl q 2 0 (oT g.1++[(⟨[118]++cC i,(z.1:Nat)⟩:eT).cells]).length));refine⟨a_,?_⟩;simp only[go_sem,lx,wZz i];refine aG (i+1,.osl q 2 0 (oT g.1++[(⟨[118]++cC i,(z.1:Nat)⟩:eT).cells]).length,_) ⟨hlt,?_⟩ (by simp only; omega) ?_ b_
  ·rw[w];have e:oT (g.1++[⟨[118]++cC i,(z.1:Nat)⟩])=oT g.1++[(⟨[118]++cC i,(z.1:Nat)⟩:eT).cells]:=by simp[oT]
   simp only;rw[e];exact X
  ·exact Lq
 ·have d:¬ (i:Int)<(n:Nat):=Om;have:i=n:=Om;subst this;simp only[go_sem,d];exact Z p _ _ (WO rfl rfl rfl rfl rfl) u
def QI (l:List Nat) (v:PV) (o aTC aTE a:Nat) (r:PV) (H:PH):Prop:=Co r (.agg (gP l aTC aTE a).1.cells)∧H=PH.nil.set o (bA v (gP l aTC aTE a).2)
structure Hw (C:Ctx):Prop extends nK C where
 grow:∀ (l:List Nat) (v:PV),Tp l v→∀ (mc aTC:Nat),0<mc→mc≤1000→aTC≤60→gh C l v mc aTC 4
theorem apV {C:Ctx} (N:Hw C) {l:List Nat} {v:PV} (T:Tp l v) (o aTC aTE a:Nat) (ω:aTC≤60) (Ξ:aTE≤50) (ha:a≤l.length) :
  EL.wp C (aU Oi.res (QI l v o aTC aTE a)) (PF.args [.ptr o 2 0 0,.int .i64 aTC,.int .i64 aTE]) (PH.nil.set o (bA v a)):=by
 have hT:gP l aTC aTE a=gP l aTC aTE a:=rfl
 conv at hT=>rhs; unfold gP
 dsimp only at hT;have hR:∀ r H,QI l v o aTC aTE a r H↔Co r (.agg (gP l aTC aTE a).1.cells)∧H=PH.nil.set o (bA v (gP l aTC aTE a).2):=fun _ _=>Iff.rfl;have ne:=bZ l (show 0<2 by decide) a;have ae:=bJ l 2 ha;generalize he:aE l 2 a=e at *
 have Φ:=bZ l (show 0<2 by decide) e.2;have δ:=bJ l 2 ae;generalize Γ:aE l 2 e.2=M at *
 obtain⟨O,β⟩:=KL l δ (1+M.1);generalize Y:gV l M.2 (1+M.1)=aTJ at *
 have Ψ:=bZ l (show 0<2 by decide) aTJ.2;have ε:=bJ l 2 O;generalize Δ:aE l 2 aTJ.2=d at *
 obtain⟨Q,V⟩:=yM l (1+M.1) ε (1+d.1);generalize S:eN l (1+M.1) d.2 (1+d.1)=aTD at *
 have θ:GOk l aTC ⟨[mG],[],aTD.2⟩:=⟨by simp,aUT _,Q⟩;obtain⟨hG,-⟩:=JX (mc:=1+d.1) 4 0 θ;generalize hg:eX l (1+d.1) aTC 4 0 ⟨[mG],[],aTD.2⟩=g at *
 have Ω:=bZ l (show 0<2 by decide) g.a;have ζ:=bJ l 2 hG.a;generalize Λ:aE l 2 g.a=pl at *
 obtain⟨R,γ⟩:=uC l (1+d.1) ζ (1+pl.1);generalize Z:dW l (1+d.1) pl.2 (1+pl.1)=pols at *
 have a':=bZ l (Om:0<aTE+1) pols.2;have ο:=bJ l (aTE+1) R;generalize ν:aE l (aTE+1) pols.2=vo at *
 generalize α:eP l (1+pl.1) vo.2 vo.1=vols at *
 have ee:IntKind.i64.wrap (1+(e.1:Int))=((1+e.1:Nat):Int):=by rw[wrap_i64 Om Om]; omega
 have ρ:IntKind.i64.wrap (1+(M.1:Int))=((1+M.1:Nat):Int):=by rw[wrap_i64 Om Om]; omega
 have σ:IntKind.i64.wrap (1+(d.1:Int))=((1+d.1:Nat):Int):=by rw[wrap_i64 Om Om]; omega
 have τ:IntKind.i64.wrap (1+(pl.1:Int))=((1+pl.1:Nat):Int):=by rw[wrap_i64 Om Om]; omega
 have υ:IntKind.i64.wrap ((aTE:Int)+1)=((aTE+1:Nat):Int):=dA Om;have h0:aM (PH.nil.set o (bA v a)) [(o,bA v a)] []:=aM.nil.new (H:=PH.nil) rfl (bA v a);simp only[go_sem,EL,Af,Oi];refine aO fun o6 ι=>?_;have i:=h0.new ι flZ;simp only[go_sem,Ag];refine cR N.totF T (o:=o) (n:=2) (a:=a) (by decide) ha rfl (i.at 0 rfl) ?_;have u:=i.set 0 rfl (bA v e.2);rw[he];simp only[go_sem,ee];refine aO fun o7 κ=>?_;have B:=u.new κ (flB (.int .i64 (1+e.1:Nat)) .aB .aB .aB .aB .aB .aB);simp only[go_sem,Ah,aVC,aVK,or_false,forall_eq,forall_eq_or_imp];refine cR N.totF T (o:=o) (n:=2) (a:=e.2) (by decide) ae rfl (B.at 0 rfl) ?_;have h4:=B.set 0 rfl (bA v M.2);rw[Γ];have h5:=h4.perm (B':=FE.boxes ⟨o,o6,o7,aTC,aTE⟩ v (.int .i64 (1+e.1:Nat)) .aB .aB .aB .aB .aB .aB M.2) (L':=[]) (List.Perm.cons _ (List.Perm.swap _ _ _)) (List.Perm.refl _);obtain⟨E,c⟩:∃ E:FE,E=⟨o,o6,o7,aTC,aTE⟩:=⟨_,rfl⟩;rw[← c] at h5;simp only[go_sem,ρ,Ai];refine ayN (C:=C) N.tonK T E (1+M.1) M.2 Om δ _ _ _ _ ?_ h5 ?_
 ·rw[c];unfold fS;exact Lq
 clear h5 h4 B u i h0 ι κ;intro p F1 H1 F i;rw[Y] at i;have f0:F1 0=some (.ptr o 2 0 0):=F 0 _ (by rw[c]; unfold fS; simp only[go_sem]);have f1:F1 1=some (.int .i64 aTC):=F 1 _ (by rw[c]; unfold fS; simp only[go_sem]);have f2:F1 2=some (.int .i64 aTE):=F 2 _ (by rw[c]; unfold fS; simp only[go_sem]);have f6:F1 6=some (.ptr o6 7 0 0):=F 6 _ (by rw[c]; unfold fS; simp only[go_sem]);have f7:F1 7=some (.ptr o7 7 0 0):=F 7 _ (by rw[c]; unfold fS; simp only[go_sem]);have W:=i.at 0 rfl;rw[c] at W;simp only[go_sem,kn,f0];refine cR N.totF T (o:=o) (n:=2) (a:=aTJ.2) (by decide) O rfl W ?_;have u:=i.set 0 rfl (bA v d.2);rw[Δ];simp only[go_sem,σ,ko];refine ajY (C:=C) N.tonK T E (1+d.1) d.2 (1+M.1) Om Om ε (.int .i64 (1+e.1:Nat)) p aTJ.1 β _ _ _ ?_ (by rw[c] at u ⊢; exact u) ?_
 ·rw[c];unfold fS;exact Lq
 clear W u i f0 f1 f2 f6 f7 F;intro w2 F2 H2 J f11 u;rw[S] at u;have f0:F2 0=some (.ptr o 2 0 0):=J 0 _ (by rw[c]; unfold fS; simp only[go_sem]);have f1:F2 1=some (.int .i64 aTC):=J 1 _ (by rw[c]; unfold fS; simp only[go_sem]);have f2:F2 2=some (.int .i64 aTE):=J 2 _ (by rw[c]; unfold fS; simp only[go_sem]);have f6:F2 6=some (.ptr o6 7 0 0):=J 6 _ (by rw[c]; unfold fS; simp only[go_sem]);have f7:F2 7=some (.ptr o7 7 0 0):=J 7 _ (by rw[c]; unfold fS; simp only[go_sem]);obtain⟨qm,μ⟩:=(u.own 1 rfl).one (by rw[aUN]; omega);rw[aUN,V] at μ;subst μ;have χ:(1:Nat)*7≤16777216:=by decide
 simp only[go_sem,kx];refine aA (N.int 0 (by unfold dK; omega)) rfl ?_;simp only[go_sem,aVC,aVK,or_false,forall_eq,forall_eq_or_imp,χ];refine aO fun od Θ=>?_;have B:=u.azN (s:=7) (rows:=kL [mG]) Θ;have b7:=u.at 1 rfl;rw[c] at b7;have n7:¬ o7=od:=by have:=B.neL 1 2 rfl rfl rfl;rw[c] at this; exact this
 simp only[go_sem,f7,b7,n7,aVC,aVK,or_false,forall_eq];have h4:=(B.set 1 rfl (flB (.int .i64 (1+e.1:Nat)) p (.osl qm 4 0 (1+d.1)) (.osl od 7 0 1) .aB .aB .aB)).mI 3;rw[c] at h4;have h5:=h4.perm (B':=(GE.mk o o7 qm (.int .i64 (1+e.1:Nat)) p .aB .aB).boxes v (1+d.1) (.osl od 7 0 1) .aB aTD.2++[(o6,flZ)]) (L':=mE ⟨[mG],[],aTD.2⟩ (.osl od 7 0 1) .aB++[(p,4,iJ aTJ.1),(.osl qm 4 0 (1+d.1),4,kA aTD.1)]) (List.Perm.refl _)
  (List.perm_append_comm (l₁:=[(p,4,iJ aTJ.1),(.osl qm 4 0 (1+d.1),4,kA aTD.1)]) (l₂:=mE ⟨[mG],[],aTD.2⟩ (.osl od 7 0 1) .aB))
 simp only[go_sem,ky,f0,f1,f7];refine GU h5 (fun H0 ψ=>N.grow l v T (1+d.1) aTC Om Om ω (GE.mk o o7 qm (.int .i64 (1+e.1:Nat)) p .aB .aB) (.osl od 7 0 1) .aB ⟨[mG],[],aTD.2⟩ 0 mG θ rfl rfl H0 ψ) (by simp only[go_sem,f0,f1,f7]; rfl) ?_;rintro r B' L' H3 ⟨rfl,y,A,rfl,rfl⟩ h6;rw[hg] at h6;have h7:=h6.perm (B':=E.boxes v (.int .i64 (1+e.1:Nat)) p (.osl qm 4 0 (1+d.1)) y A .aB .aB g.a) (L':=[(p,4,iJ aTJ.1),(.osl qm 4 0 (1+d.1),4,kA aTD.1),(y,7,kL g.aTL),(A,3,mS g.aTV)]) (by rw[c]; exact List.Perm.refl _)
  (List.perm_append_comm (l₁:=mE g y A) (l₂:=[(p,4,iJ aTJ.1),(.osl qm 4 0 (1+d.1),4,kA aTD.1)]))
 have W:=h7.at 0 rfl;rw[c] at W;simp only[go_sem,kz,f0];refine cR N.totF T (o:=o) (n:=2) (a:=g.a) (by decide) hG.a rfl W ?_;have h8:=h7.set 0 rfl (bA v pl.2);rw[Λ];simp only[go_sem,τ,k6];refine Oh (C:=C) N.tonK T E (1+d.1) (1+pl.1) pl.2 Om Om Om ζ ((1+e.1:Nat):Int) p (.osl qm 4 0 (1+d.1)) y A aTJ.1 aTD.1 g.aTL g.aTV _ _ _ (by rw[c]; exact⟨by simp only[go_sem,f0],by simp only[go_sem,f1],by simp only[go_sem,f2],by simp only[go_sem,f6],by simp only[go_sem,f7],by simp only[go_sem,f11],by simp only[go_sem],by simp only[go_sem]; rfl⟩) (by rw[c] at h8 ⊢; exact h8) ?_;clear h8 h7 h6 h5 h4 B u W b7 f0 f1 f2 f6 f7 J;intro X F4 H4 K i;rw[Z] at i;have f0:F4 0=some (.ptr o 2 0 0):=K 0 _ (by rw[c]; unfold fS; simp only[go_sem]);have f1:F4 1=some (.int .i64 aTC):=K 1 _ (by rw[c]; unfold fS; simp only[go_sem]);have f2:F4 2=some (.int .i64 aTE):=K 2 _ (by rw[c]; unfold fS; simp only[go_sem]);have f6:F4 6=some (.ptr o6 7 0 0):=K 6 _ (by rw[c]; unfold fS; simp only[go_sem]);have f7:F4 7=some (.ptr o7 7 0 0):=K 7 _ (by rw[c]; unfold fS; simp only[go_sem]);have W:=i.at 0 rfl;rw[c] at W;simp only[go_sem,lj,f0,f2,υ];refine cR N.totF T (o:=o) (n:=aTE+1) (a:=pols.2) Om R rfl W ?_;have u:=i.set 0 rfl (bA v vo.2);rw[ν];have B:=u.perm (B':=E.boxes v (.int .i64 (1+e.1:Nat)) p (.osl qm 4 0 (1+d.1)) y A X .aB vo.2) (L':=(X,17,mF pols.1)::[(p,4,iJ aTJ.1),(.osl qm 4 0 (1+d.1),4,kA aTD.1),(y,7,kL g.aTL),(A,3,mS g.aTV)]) (List.Perm.refl _)
  (List.perm_append_comm (l₁:=[(p,4,iJ aTJ.1),(.osl qm 4 0 (1+d.1),4,kA aTD.1),(y,7,kL g.aTL),(A,3,mS g.aTV)]) (l₂:=[(X,17,mF pols.1)]))
 simp only[go_sem,lk];refine Wu (C:=C) N.tonK T E (1+pl.1) vo.1 vo.2 Om Om ο _ _ _ _ _ X pols.1 γ _ _ _ _ ?_ (by rw[c] at B ⊢; exact B) ?_
 ·rw[c];unfold fS;exact Lq
 clear B u i W f0 f1 f2 f6 f7 K;intro w6 F5 H5 η i;rw[α] at i;have f6:F5 6=some (.ptr o6 7 0 0):=η 6 _ (by rw[c]; unfold fS; simp only[go_sem]);have f7:F5 7=some (.ptr o7 7 0 0):=η 7 _ (by rw[c]; unfold fS; simp only[go_sem]);rw[c] at i;have b7:=i.at 1 rfl;have b6:=i.at 2 rfl;have one:∀ (x:PV),x∈[p,y,A,X,w6]→(∃ q s n,x=.osl q s 0 n)∨x=.aB:=by
  intro x hx;have U:∀ {s:Nat} {rows:List (List PV)},bE H5 s x rows→(∃ q s n,x=.osl q s 0 n)∨x=.aB:=by
   rintro s rows (⟨_,h⟩ | ⟨q,rs,h,_⟩)
   ·exact .inr h
   ·exact .inl ⟨q,s,_,h⟩
  simp only[aVC,aVK,or_false] at hx;rcases hx with rfl | rfl | rfl | rfl | rfl
  ·exact U (i.own 1 rfl)
  ·exact U (i.own 3 rfl)
  ·exact U (i.own 4 rfl)
  ·exact U (i.own 0 rfl)
  ·exact U (i.own 5 rfl)
 have w:∀ (x:PV),x∈[p,y,A,X,w6]→PV.one x=true:=fun x hx=>by rcases one x hx with ⟨q,s,n,rfl⟩ | rfl<;>rfl
 have o1:=w p (by simp);have o3:=w y (by simp);have o4:=w A (by simp);have o5:=w X (by simp);have ξ:=w w6 (by simp);simp only[PV.one] at o1 o3 o4 o5 ξ;simp only[go_sem,lz,f6,f7,b7,b6,aVC,aVK,or_false,forall_eq,forall_eq_or_imp,o1,o3,o4,o5,ξ];have u:=i.set 2 rfl (flB (.int .i64 (1+e.1:Nat)) p (.osl qm 4 0 (1+d.1)) y A X w6);have B:=u.sub (B':=[(o,bA v vols.2)]) (aWT.cons_cons _ (List.nil_sublist _)) (aWT.refl _);obtain⟨φ,H6,k1,k2,k3,k4⟩:=aM.giveUp _ B (fun x hx=>by
  simp only[List.cons_append,List.nil_append,aVC,aVK,or_false] at hx;rcases hx with rfl | rfl | rfl | rfl | rfl | rfl
  ·exact acP _
  ·exact aaB _
  ·exact aaC _
  ·exact X8 _
  ·exact Yc _
  ·exact aIU _) (fun b hb q s rs=>by
  simp only[aVC,aVK,or_false] at hb;subst hb;simp only[cB.frz,aVZ,aWS,T.frz];rfl)
 refine vN (vs:=[.agg [.int .i64 (1+e.1:Nat),p,.osl qm 4 0 (1+d.1),y,A,X,w6]]) (.inr rfl) (by simp only[go_sem,f6]) (k4 _ _ (.done (H2:=PH.nil.set o (bA v vols.2)) ?_ (e_ a_ (k3.at 0 rfl))));rw[hR,hT];refine⟨CoL.agg ?_,rfl⟩;have s5:=k1 (X,17,mF pols.1) (by simp);have s1:=k1 (p,4,iJ aTJ.1) (by simp);have s2:=k1 (.osl qm 4 0 (1+d.1),4,kA aTD.1) (by simp);have s3:=k1 (y,7,kL g.aTL) (by simp);have s4:=k1 (A,3,mS g.aTV) (by simp);have s6:=k1 (w6,2,oT vols.1) (by simp);have s0:φ (.int .i64 (1+e.1:Nat))=.int .i64 (1+e.1:Nat):=k2 _ rfl;show CoL [φ (.int .i64 (1+e.1:Nat)),φ p,φ (.osl qm 4 0 (1+d.1)),φ y,φ A,φ X,φ w6] _;rw[s0];exact CoL.cons (.refl _) (CoL.cons s1.co (CoL.cons s2.co (CoL.cons s3.co (CoL.cons s4.co (CoL.cons s5.co (CoL.cons s6.co .nil))))))
structure anM (C:Ctx):Prop extends Hw C where
 new:∀ (l:List Nat),(∀ x∈l,x<256)→l.length≤9223372036854775807→aH C 28 [.sl 1 (kF l)] .nil (Hy l)
 fleet:∀ (l:List Nat) (v:PV),Tp l v→∀ (o aTC aTE a:Nat),aTC≤60→aTE≤50→a≤l.length →
  aH C 0 [.ptr o 2 0 0,.int .i64 aTC,.int .i64 aTE] (PH.nil.set o (bA v a)) (fun r H=>r=.agg (gP l aTC aTE a).1.cells∧H=PH.nil.set o (bA v (gP l aTC aTE a).2))
theorem QI.exact {C:Ctx} {name:Nat} {args:List PV} {H:PH} {l:List Nat} {v:PV} {o aTC aTE a:Nat} (h:aH C name args H (QI l v o aTC aTE a)):aH C name args H (fun r H=>r=.agg (gP l aTC aTE a).1.cells∧H=PH.nil.set o (bA v (gP l aTC aTE a).2)) :=
 h.post fun r H' c=>⟨_,c.1,rfl,c.2⟩
theorem apT {C:Ctx} (p:anM C) (l:List Nat) (w:∀ x∈l,x<256) (y:l.length≤9223372036854775807) (aTC aTE:Nat) (c:aTC≤60) (i:aTE≤50) :
  EJ.wp C (aU N9.res (bX (.agg (gP (l.take 400) aTC aTE 0).1.cells))) (PF.args [.sl 1 (kF l),.int .i64 aTC,.int .i64 aTE]) .nil:=by
 simp only[go_sem,EJ,Aa,N9];refine aO fun o6 A=>?_;simp only[go_sem,Ab];refine kI (p.new l w y) rfl a_ ?_;rintro r H' ⟨o,v,rfl,T,rfl⟩ u;have d:¬ o6=o:=by intro e;subst e;have:=u o6 (bA v 0) (by rw[aN,if_pos rfl]) rfl;rw[aN,if_pos rfl] at this;cases this
 rw[PH.nP];simp only[go_sem];refine lK (p.fleet _ v T o aTC aTE 0 c i (aUT _)) (by rw[aN,if_pos rfl]) rfl ?_;simp only[go_sem,d];exact aX (vs:=[.agg (gP (l.take 400) aTC aTE 0).1.cells]) (.inr rfl) .nil Sq a_ ⟨.refl _,rfl⟩
theorem CoL.aQP:CoL [] []:=⟨rfl,fun j p q h=>by simp at h⟩
theorem CoL.ahU {p q:PV} {ps d:List PV} (h:Co p q) (c:CoL ps d):CoL (p::ps) (q::d):=by
 refine⟨by simp[c.len],fun j x y a b=>?_⟩;cases j with
 | zero =>simp only[List.getElem?_cons_zero,aXC.injEq] at a b;subst a; subst b; exact h
 | succ j=>exact c.at_ j x y (by simpa using a) (by simpa using b)
theorem aH.seen {C:Ctx} {name:Nat} {args:List PV} {H:PH} {v:PV} (h:aH C name args H (bX v)):aH C name args H (aI v) :=
 h.post fun r H' c=>⟨v,c.1,rfl,c.2⟩
def WU (x:RF):Bool:=(x.num.all (fun n=>decide (n<4294967296))&&x.den.all fun n=>decide (n<4294967296))&&(decide (x.num.length≤9)&&decide (x.den.length≤9))
theorem NA {x:RF} (h:WU x=true):x.Ok:=by
 simp only[WU,aVE,aVD,decide_eq_true_eq] at h;exact⟨h.1.1,h.1.2,by omega,by omega⟩
def HW (l:List RF):Bool:=decide (l.length≤9)&&l.all WU
theorem CU {l:List RF} (h:HW l=true):kB l:=by
 simp only[HW,aVE,aVD,decide_eq_true_eq] at h;exact⟨by unfold Fits; omega,fun x c=>NA (h.2 x c)⟩
def Ns (x:cG):Bool:=(HW x.start&&HW x.exit)&&(decide (x.aTH.length≤9)&&x.aTH.all HW)
theorem apK {x:cG} (h:Ns x=true):x.Ok:=by
 simp only[Ns,aVE,aVD,decide_eq_true_eq] at h;exact⟨CU h.1.1,CU h.1.2,by unfold Fits; omega,fun r c=>CU (h.2.2 r c)⟩
def Rh (x:bT):Bool:=(decide (dK x.k∧dK x.m∧dK x.aUA)&&(decide (x.aTD.length≤9)&&x.aTD.all fun m=>decide (dK m)))&&(HW x.repair&&(WU x.target&&WU x.aTM))
theorem arI {x:bT} (h:Rh x=true):x.Ok:=by
 simp only[Rh,aVE,aVD,decide_eq_true_eq] at h;exact⟨h.1.1.1,h.1.1.2.1,h.1.1.2.2,by unfold Fits; omega,h.1.2.2,CU h.2.1,NA h.2.2.1,NA h.2.2.2⟩
def okB (f:aD):Bool:=(decide (f.aTJ.length≤99∧f.aTD.length≤99∧f.aTF.length≤99∧f.aTC.length≤99∧f.aTG.length≤99∧f.aTE.length≤99)&&(f.aTJ.all Ns&&f.aTG.all Rh)) &&
 (f.aTF.all (fun x=>WU x.aTR&&decide (dK x.level∧dK x.parent))&&(f.aTC.all (fun x=>decide (dK x.model∧dK x.machine))&&f.aTE.all fun x=>decide (dK x.aTO)))
theorem aKR {f:aD} (h:okB f=true):f.Ok:=by
 simp only[okB,aVE,aVD,decide_eq_true_eq] at h;obtain⟨⟨⟨p,u,w,y,A,B⟩,e,i⟩,d,l,h5⟩:=h;exact⟨by unfold Fits; omega,by unfold Fits; omega,by unfold Fits; omega,by unfold Fits; omega,by unfold Fits; omega,by unfold Fits; omega,fun x c=>apK (e x c),fun x c=>⟨NA (d x c).1,(d x c).2⟩,l,fun x c=>arI (i x c),h5⟩
def Ek:Rg:=[iZ 4]
def El:Rg:=[iZ 5]
def Em:Rg:=[iA 6 (.mv (.const (.int .u64 0)))]
def En:Rg:=[iI 7 0]
def Eo:Rg:=[iM 10 7,iM 11 0,iN 12 11,iB 13 .lss 10 12]
def Ep:Rg:=[iM 16 6,iM 8 16]
def Eq:Rg:=[iM 17 7,iM 18 1,iN 19 18,iB 20 .lss 17 19]
def Er:Rg:=[iM 21 8,iM 22 1,iM 23 7,iX 24 1 22 23,iL 25 24,iA 26 (.conv .u64 (Tm 25)),iB 27 .add 21 26,iM 8 27]
def VC:Rg:=[iM 28 0,iM 29 7,iX 30 1 28 29,iL 31 30,iA 32 (.conv .u64 (Tm 31)),iM 9 32]
def VD:Rg:=[iA 6 (.mv (.const (.int .u64 0)))]
def OD:Rg:=[iM 33 9,iM 34 8,iB 35 .lss 33 34]
def OE:Rg:=[iM 36 9,iA 37 (.bin .add (Tm 36) (.const (.int .u64 4294967296))),iM 9 37]
def OF:Rg:=[iA 6 (.mv (.const (.int .u64 1)))]
def yT:Rg:=[iM 38 5,iM 39 9,iM 40 8,iB 41 .sub 39 40,iA 42 (.conv .u32 (Tm 41)),iA 43 (.aTI true 1 1 [(.int .u32 0)] [(0,(Tm 42))]),iA 44 (.append 1 4 (Tm 38) (Tm 43)),iM 5 44]
def yU:Rg:=[iM 14 7,iC 15 .add 14 1,iM 7 15]
def pn:aC:=(.seq (sq Eo (.cond (Tm 13) .skip (.exit 0))) (.seq (.block 1 (sq Ep (.seq (sq Eq (.cond (Tm 20) (.region Er) .skip)) (sq VC (sq VD (.seq (sq OD (.cond (Tm 35) (sq OE (.region OF)) .skip)) (.region yT))))))) (.region yU)))
def po:Rg:=[iM 45 5,iK 46 38 45,iM 4 46]
def GK:aC:=(sq Ek (sq El (sq Em (.seq (sq En (.block 0 (.loop pn))) (sq po .ret)))))
def asZ:List Nat:=[43]
def Ui:aZ:=⟨2,47,GK,[.tmp 4]⟩
def Un:Rg:=[iZ 4]
def Uo:Rg:=[iZ 5]
def Uq:Rg:=[iA 6 (.mv (.const (.int .u64 0)))]
def Ur:Rg:=[iI 7 0]
def Us:Rg:=[iM 9 7,iM 10 0,iN 11 10,iB 12 .lss 9 11,iM 13 12,gM 14 7 13 false,gM 15 1 13 false,gN 16 15 13 false,gB 17 .lss 14 16 13 false,iQ 18 13 17,iM 19 18,gM 20 6 19 false,iG 21 (.bin .gtr (Tm 20) (.const (.int .u64 0))) 19 false,iQ 22 19 21]
def ff:Rg:=[iM 25 6,iM 8 25]
def fg:Rg:=[iM 26 7,iM 27 0,iN 28 27,iB 29 .lss 26 28]
def fh:Rg:=[iM 30 8,iM 31 0,iM 32 7,iX 33 1 31 32,iL 34 33,iA 35 (.conv .u64 (Tm 34)),iB 36 .add 30 35,iM 8 36]
def OH:Rg:=[iM 37 7,iM 38 1,iN 39 38,iB 40 .lss 37 39]
def OI:Rg:=[iM 41 8,iM 42 1,iM 43 7,iX 44 1 42 43,iL 45 44,iA 46 (.conv .u64 (Tm 45)),iB 47 .add 41 46,iM 8 47]
def DK:Rg:=[iM 48 5,iM 49 8,iA 50 (.conv .u32 (Tm 49)),iA 51 (.aTI true 1 1 [(.int .u32 0)] [(0,(Tm 50))]),iA 52 (.append 1 4 (Tm 48) (Tm 51)),iM 5 52]
def DL:Rg:=[iM 53 8,iA 54 (.bin .shr (Tm 53) (.const (.int .u64 32))),iM 6 54]
def DM:Rg:=[iM 23 7,iC 24 .add 23 1,iM 7 24]
def Et:aC:=(.seq (sq Us (.cond (Tm 22) .skip (.exit 0))) (.seq (.block 1 (sq ff (.seq (sq fg (.cond (Tm 29) (.region fh) .skip)) (.seq (sq OH (.cond (Tm 40) (.region OI) .skip)) (sq DK (.region DL)))))) (.region DM)))
def VH:Rg:=[iM 55 5,iK 56 38 55,iM 4 56]
def OG:aC:=(sq Un (sq Uo (sq Uq (.seq (sq Ur (.block 0 (.loop Et))) (sq VH .ret)))))
def aCD:List Nat:=[51]
def amF:aZ:=⟨2,57,OG,[.tmp 4]⟩
def Eu:Rg:=[iZ 4]
def Ew:Rg:=[iM 10 0,iN 11 10,iM 12 1,iN 13 12,iB 14 .add 11 13,iA 15 (.aTK 1 4 [(.int .u32 0)] (Tm 14) (Tm 14)),iM 5 15]
def Ex:Rg:=[iI 6 0]
def Ey:Rg:=[iM 16 6,iM 17 0,iN 18 17,iB 19 .lss 16 18]
def VK:Rg:=[iA 7 (.mv (.const (.int .u64 0)))]
def VL:Rg:=[iI 8 0]
def Ez:Rg:=[iM 22 8,iM 23 1,iN 24 23,iB 25 .lss 22 24]
def E0:Rd:=[(iM 28 0,false),(iM 29 6,false),(iX 30 1 28 29,false),(iL 31 30,false),(iA 32 (.conv .u64 (Tm 31)),false),(iM 33 1,false),(iM 34 8,false),(iX 35 1 33 34,false),(iL 36 35,false),(iA 37 (.conv .u64 (Tm 36)),false),(iB 38 .mul 32 37,false),(iM 39 5,false),(iM 40 6,false),(iM 41 8,false),(iB 42 .add 40 41,false),(iX 43 1 39 42,false),(iL 44 43,false),(iA 45 (.conv .u64 (Tm 44)),false),(iB 46 .add 38 45,false),(iM 47 7,false),(iB 48 .add 46 47,false),(iM 9 48,false)]
def E4:Rg:=[iM 49 5,iM 50 6,iM 51 8,iB 52 .add 50 51,iM 53 9,iA 54 (.conv .u32 (Tm 53)),iX 55 1 49 52,iS 1 55 54]
def E5:Rg:=[iM 56 9,iA 57 (.bin .shr (Tm 56) (.const (.int .u64 32))),iM 7 57]
def pw:Rg:=[iM 26 8,iC 27 .add 26 1,iM 8 27]
def OJ:aC:=(.seq (sq Ez (.cond (Tm 25) .skip (.exit 2))) (.seq (.block 3 (dq E0 (sq E4 (.region E5)))) (.region pw)))
def OK:Rg:=[iM 58 5,iM 59 6,iM 60 1,iN 61 60,iB 62 .add 59 61,iM 63 7,iA 64 (.conv .u32 (Tm 63)),iX 65 1 58 62,iS 1 65 64]
def p4:Rg:=[iM 20 6,iC 21 .add 20 1,iM 6 21]
def pu:aC:=(.seq (sq Ey (.cond (Tm 19) .skip (.exit 0))) (.seq (.block 1 (sq VK (.seq (sq VL (.block 2 (.loop OJ))) (.region OK)))) (.region p4)))
def p5:Rg:=[iM 66 5,iK 67 38 66,iM 4 67]
def GL:aC:=(sq Eu (sq Ew (.seq (sq Ex (.block 0 (.loop pu))) (sq p5 .ret))))
def atE:List Nat:=[]
def Ut:aZ:=⟨2,68,GL,[.tmp 4]⟩
def adD:Rg:=[iZ 4,iI 5 0]
def adE:Rg:=[iM 7 0,iK 8 41 7,iM 9 8,gM 10 1 9 false,gK 11 41 10 9 false,iQ 12 9 11]
def wc:Rg:=[iZ 4,iI 5 2]
def adF:Rg:=[iM 13 0,iK 14 38 13,iM 15 1,iK 16 38 15,iK2 17 43 14 16,iM 6 17]
def adG:Rg:=[iM 18 6,iK 19 41 18]
def adH:Rg:=[iZ 4,iI 5 2]
def adI:Rg:=[iM 20 6,iM 4 20,iI 5 0]
def UW:aC:=(sq adD (.seq (sq adE (.cond (Tm 12) (sq wc .ret) .skip)) (sq adF (.seq (sq adG (.cond (Tm 19) (sq adH .ret) .skip)) (sq adI .ret)))))
def aIE:List Nat:=[]
def aBL:aZ:=⟨2,21,UW,[.tmp 4,.tmp 5]⟩
def aeO:Rg:=[iZ 4,iI 5 0]
def aeP:Rg:=[iM 6 0,iK 7 41 6,iM 8 7,gM 9 1 8 false,gK 10 41 9 8 false,iQ 11 8 10]
def wi:Rg:=[iZ 4,iI 5 2]
def aeQ:Rg:=[iM 12 0,iM 13 1,iK2 14 32 12 13,iC 15 .lss 14 0]
def aeR:Rg:=[iZ 4,iI 5 4]
def aeS:Rg:=[iM 16 0,iK 17 38 16,iM 18 1,iK 19 38 18,iK2 20 42 17 19,iM 4 20,iI 5 0]
def VJ:aC:=(sq aeO (.seq (sq aeP (.cond (Tm 11) (sq wi .ret) .skip)) (.seq (sq aeQ (.cond (Tm 15) (sq aeR .ret) .skip)) (sq aeS .ret))))
def aIQ:List Nat:=[]
def aCF:aZ:=⟨2,21,VJ,[.tmp 4,.tmp 5]⟩
def aeH:Rg:=[iZ 4,iI 5 0]
def aeI:Rg:=[iM 7 0,iK 8 41 7,iM 9 8,gM 10 1 9 false,gK 11 41 10 9 false,iQ 12 9 11]
def wh:Rg:=[iZ 4,iI 5 2]
def aeJ:Rg:=[iM 13 0,iK 14 38 13,iM 15 1,iK 16 38 15,iK2 17 44 14 16,iM 6 17]
def aeK:Rg:=[iM 18 6,iK 19 41 18]
def aeL:Rg:=[iZ 4,iI 5 2]
def aeM:Rg:=[iM 20 6,iM 4 20,iI 5 0]
def VE:aC:=(sq aeH (.seq (sq aeI (.cond (Tm 12) (sq wh .ret) .skip)) (sq aeJ (.seq (sq aeK (.cond (Tm 19) (sq aeL .ret) .skip)) (sq aeM .ret)))))
def aIM:List Nat:=[]
def aBW:aZ:=⟨2,21,VE,[.tmp 4,.tmp 5]⟩
def Tr:Rg:=[iI 2 0]
def Ts:Rg:=[iM 5 0,iK 6 38 5,iM 0 6]
def Tt:Rg:=[iM 7 0,iN 8 7,iC 9 .eql 8 0]
def Tu:Rg:=[iI 2 0]
def Tv:Rg:=[iM 10 0,iN 11 10,iC 12 .sub 11 1,iA 13 (.bin .mul (Ci 32) (Tm 12)),iM 3 13]
def Tw:Rg:=[iM 14 0,iM 15 0,iN 16 15,iC 17 .sub 16 1,iX 18 1 14 17,iL 19 18,iM 4 19]
def Tx:Rg:=[iM 20 4,iA 21 (.bin .gtr (Tm 20) (.const (.int .u32 0)))]
def Tz:Rg:=[iM 24 3,iC 25 .add 24 1,iM 3 25]
def T0:Rg:=[iM 22 4,iA 23 (.bin .quo (Tm 22) (.const (.int .u32 2))),iM 4 23]
def Tq:aC:=(.seq (sq Tx (.cond (Tm 21) .skip (.exit 0))) (.seq (.block 1 (.region Tz)) (.region T0)))
def Ef:Rg:=[iM 26 3,iM 2 26]
def NX:aC:=(sq Tr (sq Ts (.seq (sq Tt (.cond (Tm 9) (sq Tu .ret) .skip)) (sq Tv (.seq (sq Tw (.block 0 (.loop Tq))) (sq Ef .ret))))))
def aBN:List Nat:=[]
def alV:aZ:=⟨1,27,NX,[.tmp 2]⟩
def atF:Rg:=[iZ 4]
def atG:Rg:=[iM 9 0,iN 10 9,iC 11 .eql 10 0]
def atH:Rg:=[iZ 4]
def atI:Rg:=[iM 12 1,iC 13 .quo 12 32,iA 14 (.aTK 1 4 [(.int .u32 0)] (Tm 13) (Tm 13)),iM 5 14]
def atJ:Rg:=[iA 6 (.mv (.const (.int .u64 0)))]
def atK:Rg:=[iI 7 0]
def atL:Rg:=[iM 15 7,iM 16 0,iN 17 16,iB 18 .lss 15 17]
def atM:Rg:=[iM 21 0,iM 22 7,iX 23 1 21 22,iL 24 23,iA 25 (.conv .u64 (Tm 24)),iM 26 1,iC 27 .rem 26 32,iA 28 (.conv .u64 (Tm 27)),iB 29 .shl 25 28,iM 30 6,iB 31 .or 29 30,iM 8 31]
def atN:Rg:=[iM 32 5,iM 33 8,iA 34 (.conv .u32 (Tm 33)),iA 35 (.aTI true 1 1 [(.int .u32 0)] [(0,(Tm 34))]),iA 36 (.append 1 4 (Tm 32) (Tm 35)),iM 5 36]
def atO:Rg:=[iM 37 8,iA 38 (.bin .shr (Tm 37) (.const (.int .u64 32))),iM 6 38]
def aeU:Rg:=[iM 19 7,iC 20 .add 19 1,iM 7 20]
def aeT:aC:=(.seq (sq atL (.cond (Tm 18) .skip (.exit 0))) (.seq (.block 1 (sq atM (sq atN (.region atO)))) (.region aeU)))
def aeV:Rg:=[iM 39 5,iM 40 6,iA 41 (.conv .u32 (Tm 40)),iA 42 (.aTI true 1 1 [(.int .u32 0)] [(0,(Tm 41))]),iA 43 (.append 1 4 (Tm 39) (Tm 42)),iK 44 38 43,iM 4 44]
def fj:aC:=(sq atF (.seq (sq atG (.cond (Tm 11) (sq atH .ret) .skip)) (sq atI (sq atJ (.seq (sq atK (.block 0 (.loop aeT))) (sq aeV .ret))))))
def aLJ:List Nat:=[35,42]
def uup:aZ:=⟨2,45,fj,[.tmp 4]⟩
def T6:Rg:=[iZ 4]
def T7:Rg:=[iM 8 1,iC 9 .quo 8 32,iM 10 0,iN 11 10,iB 12 .geq 9 11]
def T8:Rg:=[iZ 4]
def T9:Rg:=[iZ 5]
def Ua:Rg:=[iM 13 1,iC 14 .quo 13 32,iM 6 14]
def Ub:Rg:=[iM 15 6,iM 16 0,iN 17 16,iB 18 .lss 15 17]
def Uc:Rg:=[iM 21 0,iM 22 6,iX 23 1 21 22,iL 24 23,iA 25 (.conv .u64 (Tm 24)),iM 7 25]
def Ud:Rg:=[iM 26 6,iC 27 .add 26 1,iM 28 0,iN 29 28,iB 30 .lss 27 29]
def Ue:Rg:=[iM 31 7,iM 32 0,iM 33 6,iC 34 .add 33 1,iX 35 1 32 34,iL 36 35,iA 37 (.conv .u64 (Tm 36)),iA 38 (.bin .shl (Tm 37) (.const (.int .u64 32))),iB 39 .or 31 38,iM 7 39]
def fe:Rg:=[iM 40 5,iM 41 7,iM 42 1,iC 43 .rem 42 32,iA 44 (.conv .u64 (Tm 43)),iB 45 .shr 41 44,iA 46 (.conv .u32 (Tm 45)),iA 47 (.aTI true 1 1 [(.int .u32 0)] [(0,(Tm 46))]),iA 48 (.append 1 4 (Tm 40) (Tm 47)),iM 5 48]
def VA:Rg:=[iM 19 6,iC 20 .add 19 1,iM 6 20]
def Eg:aC:=(.seq (sq Ub (.cond (Tm 18) .skip (.exit 0))) (.seq (.block 1 (sq Uc (.seq (sq Ud (.cond (Tm 30) (.region Ue) .skip)) (.region fe)))) (.region VA)))
def Eh:Rg:=[iM 49 5,iK 50 38 49,iM 4 50]
def OB:aC:=(sq T6 (.seq (sq T7 (.cond (Tm 12) (sq T8 .ret) .skip)) (sq T9 (.seq (sq Ua (.block 0 (.loop Eg))) (sq Eh .ret)))))
def aBS:List Nat:=[47]
def amA:aZ:=⟨2,51,OB,[.tmp 4]⟩
def Fn:Rg:=[iA 1 (.box true (Tm 0)),iT 2 false]
def Fo:Rg:=[iF 3 2 1,iL 4 3,iK 5 38 4,iN 6 5,iC 7 .gtr 6 0,iM 8 7,gF 9 2 1 8 true,gL 10 9 8 true,gK 11 38 10 8 true,gN 12 11 8 true,gC 13 .leq 12 128 8 true,iP 14 8 13,iM 15 14,gF 16 1 1 15 true,gL 17 16 15 true,gK 18 38 17 15 true,gN 19 18 15 true,gC 20 .leq 19 128 15 true,iP 21 15 20,iM 2 21]
def GQ:aC:=(sq Fn (sq Fo .ret))
def auB:List Nat:=[1]
def Vs:aZ:=⟨1,22,GQ,[.tmp 2]⟩
def E8:Rg:=[iA 1 (.box true (Tm 0)),iT 2 false]
def E9:Rg:=[iF 3 1 1,iL 4 3,iN 5 4,iC 6 .gtr 5 128,iM 7 6,gF 8 2 1 7 false,gL 9 8 7 false,gN 10 9 7 false,gC 11 .gtr 10 128 7 false,iQ 12 7 11,iM 2 12]
def GM:aC:=(sq E8 (sq E9 .ret))
def atV:List Nat:=[1]
def U8:aZ:=⟨1,13,GM,[.tmp 2]⟩
def U3:Rg:=[iA 1 (.box true (Tm 0)),iA 2 (.alloc [zB,.aB,.aB]),iI 3 0]
def U4:Rg:=[iO 4 3 1,iK 5 48 4]
def U5:Rg:=[iA 6 (.build [zB,.aB,.aB] []),iS 3 2 6,iI 3 2]
def U6:Rg:=[iO 7 3 1,iS 3 2 7,iI 3 0]
def OM:aC:=(sq U3 (.seq (sq U4 (.cond (Tm 5) (sq U5 .ret) .skip)) (sq U6 .ret)))
def aCK:List Nat:=[1]
def amM:aZ:=⟨1,8,OM,[.cell 2 (some 3),.tmp 3]⟩
def qd:Rg:=[iA 1 (.box true (Tm 0)),iA 2 (.alloc [zB,.aB,.aB]),iI 3 0]
def qe:Rg:=[iO 4 3 1,iK 5 56 4,iA 6 (.un .not (Tm 5))]
def qf:Rg:=[iA 7 (.build [zB,.aB,.aB] []),iS 3 2 7,iI 3 1]
def qg:Rg:=[iF 8 0 1,iL 9 8,iF 10 1 1,iL 11 10,iF 12 2 1,iL 13 12,iA 14 (.call 58 [(Tm 9),(Tm 11),(Tm 13)]),iS 3 2 14,iI 3 0]
def BK:aC:=(sq qd (.seq (sq qe (.cond (Tm 6) (sq qf .ret) .skip)) (sq qg .ret)))
def amT:List Nat:=[1]
def wn:aZ:=⟨1,15,BK,[.cell 2 (some 3),.tmp 3]⟩
def Fk:Rg:=[iZ 4]
def Fl:Rg:=[iM 8 0,iM 9 1,iK2 10 36 8 9,iM 7 10,iE 11 7 0,iE 12 7 1,iM 5 11,iM 6 12]
def Fm:Rg:=[iM 13 5,iM 4 13]
def GP:aC:=(sq Fk (sq Fl (sq Fm .ret)))
def atZ:List Nat:=[]
def Vq:aZ:=⟨2,14,GP,[.tmp 4]⟩
def Fa:Rg:=[iA 2 (.box true (Tm 0)),iA 3 (.box true (Tm 1)),iI 4 0]
def Fb:Rd:=[(iF 9 1 2,false),(iL 10 9,false),(iF 11 2 3,false),(iL 12 11,false),(iK2 13 60 10 12,true),(iF 14 1 3,true),(iL 15 14,true),(iF 16 2 2,true),(iL 17 16,true),(iK2 18 60 15 17,true),(iM 5 13,false),(iM 6 18,false)]
def Fc:Rg:=[iF 19 0 2,iL 20 19,iM 21 20,gM 22 5 21 true,gN 23 22 21 true,gC 24 .gtr 23 0 21 true,iP 25 21 24,iF 26 0 3,iL 27 26,iM 28 27,gM 29 6 28 true,gN 30 29 28 true,gC 31 .gtr 30 0 28 true,iP 32 28 31,iM 7 25,iM 8 32]
def Fd:Rg:=[iM 34 7,iM 35 34,gM 36 8 35 true,iG 37 (.un .not (Tm 36)) 35 true,iP 38 35 37,iM 33 38]
def Fe:Rg:=[iI 4 (-1)]
def Ff:Rg:=[iM 40 8,iM 41 40,gM 42 7 41 true,iG 43 (.un .not (Tm 42)) 41 true,iP 44 41 43,iM 39 44]
def Fg:Rg:=[iI 4 1]
def Fh:Rg:=[iM 46 7,iM 45 46]
def Fi:Rg:=[iM 47 6,iM 48 5,iK2 49 32 47 48,iM 4 49]
def Fj:Rg:=[iM 50 5,iM 51 6,iK2 52 32 50 51,iM 4 52]
def GO:aC:=(sq Fa (dq Fb (sq Fc (.seq (.block 0 (sq Fd (.cond (Tm 33) (sq Fe .ret) (sq Ff (.cond (Tm 39) (sq Fg .ret) (sq Fh (.cond (Tm 45) (sq Fi .ret) .skip))))))) (sq Fj .ret)))))
def atX:List Nat:=[2,3]
def Vg:aZ:=⟨2,53,GO,[.tmp 4]⟩
def U9:Rg:=[iA 2 (.box true (Tm 0)),iA 3 (.box true (Tm 1)),iT 4 false]
def Va:Rg:=[iO 5 3 2,iO 6 3 3,iK2 7 51 5 6,iC 8 .lss 7 0,iM 4 8]
def ON:aC:=(sq U9 (sq Va .ret))
def aCO:List Nat:=[2,3]
def amP:aZ:=⟨2,9,ON,[.tmp 4]⟩
def Vh:Rg:=[iA 2 (.box true (Tm 0)),iA 3 (.box true (Tm 1)),iT 4 false]
def Vi:Rg:=[iO 5 3 2,iO 6 3 3,iK2 7 51 5 6,iC 8 .eql 7 0,iM 4 8]
def OS:aC:=(sq Vh (sq Vi .ret))
def aCT:List Nat:=[2,3]
def amU:aZ:=⟨2,9,OS,[.tmp 4]⟩
def Vj:Rg:=[iA 1 (.box true (Tm 0)),iI 2 0]
def Vk:Rd:=[(iO 3 3 1,true),(iA 4 (.call 47 [(Ci 0)]),true),(iK2 5 51 3 4,true),(iM 2 5,false)]
def OT:aC:=(sq Vj (dq Vk .ret))
def aCV:List Nat:=[1]
def amV:aZ:=⟨1,6,OT,[.tmp 2]⟩
def aeW:Rg:=[iA 2 (.box true (Tm 0)),iA 3 (.box true (Tm 1)),iA 4 (.alloc [zB,.aB,.aB]),iI 5 0]
def aeX:Rg:=[iO 15 3 2,iK 16 56 15,iA 17 (.un .not (Tm 16)),iM 18 17,gO 19 3 3 18 false,gK 20 56 19 18 false,iG 21 (.un .not (Tm 20)) 18 false,iQ 22 18 21]
def wj:Rg:=[iA 23 (.build [zB,.aB,.aB] []),iS 3 4 23,iI 5 1]
def aeY:Rd:=[(iF 24 1 2,false),(iL 25 24,false),(iF 26 2 3,false),(iL 27 26,false),(iK2 28 60 25 27,true),(iF 29 1 3,true),(iL 30 29,true),(iF 31 2 2,true),(iL 32 31,true),(iK2 33 60 30 32,true),(iF 34 2 2,true),(iL 35 34,true),(iF 36 2 3,true),(iL 37 36,true),(iK2 38 60 35 37,true),(iM 6 28,false),(iM 7 33,false),(iM 8 38,false)]
def aeZ:Rg:=[iF 39 0 2,iL 40 39,iF 41 0 3,iL 42 41,iA 43 (.eqb false (Tm 40) (Tm 42))]
def afA:Rg:=[iM 45 6,iM 46 7,iK2 47 30 45 46,iM 44 47,iE 48 44 0,iE 49 44 1,iM 9 48,iM 10 49]
def afB:Rg:=[iF 50 0 2,iL 51 50,iM 52 9,iM 53 8,iA 54 (.call 58 [(Tm 51),(Tm 52),(Tm 53)]),iK 55 57 54,iE 56 55 0,iE 57 55 1,iS 3 4 56,iM 5 57]
def afC:Rg:=[iM 58 6,iM 59 7,iK2 60 32 58 59,iC 61 .geq 60 0]
def afD:Rg:=[iM 63 6,iM 64 7,iK2 65 37 63 64,iM 62 65,iE 66 62 0,iE 67 62 1,iM 11 66,iM 12 67]
def afE:Rg:=[iF 68 0 2,iL 69 68,iM 70 11,iM 71 8,iA 72 (.call 58 [(Tm 69),(Tm 70),(Tm 71)]),iK 73 57 72,iE 74 73 0,iE 75 73 1,iS 3 4 74,iM 5 75]
def Uz:Rg:=[iM 77 7,iM 78 6,iK2 79 37 77 78,iM 76 79,iE 80 76 0,iE 81 76 1,iM 13 80,iM 14 81]
def U1:Rg:=[iF 82 0 3,iL 83 82,iM 84 13,iM 85 8,iA 86 (.call 58 [(Tm 83),(Tm 84),(Tm 85)]),iK 87 57 86,iE 88 87 0,iE 89 87 1,iS 3 4 88,iM 5 89]
def DN:aC:=(sq aeW (.seq (sq aeX (.cond (Tm 22) (sq wj .ret) .skip)) (dq aeY (.seq (sq aeZ (.cond (Tm 43) (sq afA (sq afB .ret)) .skip)) (.seq (sq afC (.cond (Tm 61) (sq afD (sq afE .ret)) .skip)) (sq Uz (sq U1 .ret)))))))
def aIS:List Nat:=[2,3]
def amI:aZ:=⟨2,90,DN,[.cell 4 (some 3),.tmp 5]⟩
def afK:Rg:=[iA 2 (.alloc [zB,.aB,.aB]),iI 3 0]
def afL:Rg:=[iA 8 (.call 47 [(Ci 0)]),iA 4 (.alloc [zB,.aB,.aB]),iS 3 4 8]
def afM:Rg:=[iI 5 0]
def afN:Rg:=[iM 9 5,iM 10 0,iN 11 10,iB 12 .lss 9 11]
def afO:Rd:=[(iO 16 3 4,false),(iM 17 0,false),(iM 18 5,false),(iX 19 3 17 18,false),(iO 20 3 19,false),(iK2 21 46 16 20,true),(iM 15 21,false),(iE 22 15 0,false),(iE 23 15 1,true),(iA 6 (.alloc [zB,.aB,.aB]),true),(iS 3 6 22,true),(iM 7 23,false)]
def wq:Rg:=[iM 24 7,iC 25 .neq 24 0]
def afP:Rg:=[iA 26 (.build [zB,.aB,.aB] []),iM 27 7,iS 3 2 26,iM 3 27]
def afQ:Rg:=[iO 28 3 6,iS 3 4 28]
def afR:Rg:=[iM 13 5,iC 14 .add 13 1,iM 5 14]
def afJ:aC:=(.seq (sq afN (.cond (Tm 12) .skip (.exit 0))) (.seq (.block 1 (dq afO (.seq (sq wq (.cond (Tm 25) (sq afP .ret) .skip)) (.region afQ)))) (.region afR)))
def Vp:Rg:=[iO 29 3 4,iS 3 2 29,iI 3 0]
def VO:aC:=(sq afK (sq afL (.seq (sq afM (.block 0 (.loop afJ))) (sq Vp .ret))))
def aIW:List Nat:=[]
def aCY:aZ:=⟨1,30,VO,[.cell 2 (some 3),.tmp 3]⟩
def vQ:Rg:=[iT 4 false]
def vS:Rg:=[iM 5 0,iC 6 .geq 5 1,iM 7 6,gM 8 0 7 true,gC 9 .leq 8 6 7 true,iP 10 7 9,iM 11 10,gM 12 1 11 true,gC 13 .geq 12 0 11 true,iP 14 11 13,iM 15 14,gM 16 1 15 true,gC 17 .leq 16 4 15 true,iP 18 15 17,iM 19 18,gM 20 0 19 true,gM 21 1 19 true,gB 22 .add 20 21 19 true,gC 23 .leq 22 8 19 true,iP 24 19 23,iM 4 24]
def oO:aC:=(sq vQ (sq vS .ret))
def aAQ:List Nat:=[]
def NF:aZ:=⟨2,25,oO,[.tmp 4]⟩
def qw:Rg:=[iT 2 false]
def qx:Rg:=[iM 3 0,iA 4 (.bin .geq (Tm 3) (.const (.int .u8 97))),iM 5 4,gM 6 0 5 true,iG 7 (.bin .leq (Tm 6) (.const (.int .u8 122))) 5 true,iP 8 5 7,iM 9 8,gM 10 0 9 false,iG 11 (.bin .geq (Tm 10) (.const (.int .u8 65))) 9 false,gM 12 11 9 false,gM 13 0 12 true,iG 14 (.bin .leq (Tm 13) (.const (.int .u8 90))) 12 true,iG 15 (.pick (Tm 12) (Tm 14) (.const zB)) 9 false,iQ 16 9 15,iM 2 16]
def BN:aC:=(sq qw (sq qx .ret))
def anC:List Nat:=[]
def ww:aZ:=⟨1,17,BN,[.tmp 2]⟩
def Fq:Rg:=[iT 2 false]
def Fr:Rg:=[iM 3 0,iA 4 (.bin .geq (Tm 3) (.const (.int .u8 48))),iM 5 4,gM 6 0 5 true,iG 7 (.bin .leq (Tm 6) (.const (.int .u8 57))) 5 true,iP 8 5 7,iM 2 8]
def GT:aC:=(sq Fq (sq Fr .ret))
def auD:List Nat:=[]
def Vt:aZ:=⟨1,9,GT,[.tmp 2]⟩
def qi:Rg:=[iT 2 false]
def qj:Rg:=[iM 3 0,iK 4 65 3,iM 5 4,gM 6 0 5 false,gK 7 63 6 5 false,iQ 8 5 7,iM 9 8,gM 10 0 9 false,iG 11 (.bin .eql (Tm 10) (.const (.int .u8 45))) 9 false,iQ 12 9 11,iM 13 12,gM 14 0 13 false,iG 15 (.bin .eql (Tm 14) (.const (.int .u8 46))) 13 false,iQ 16 13 15,iM 2 16]
def BL:aC:=(sq qi (sq qj .ret))
def amY:List Nat:=[]
def wt:aZ:=⟨1,17,BL,[.tmp 2]⟩
def ql:Rg:=[iT 2 false]
def qn:Rg:=[iM 4 0,iA 5 (.aUC (Tm 4)),iC 6 .lss 5 1,iM 7 6,gM 8 0 7 false,iG 9 (.aUC (Tm 8)) 7 false,gC 10 .gtr 9 16 7 false,iQ 11 7 10,iM 12 11,gM 13 0 12 false,iG 14 (.aUD (Tm 13) (Ci 0)) 12 false,gK 15 65 14 12 false,iG 16 (.un .not (Tm 15)) 12 false,iQ 17 12 16]
def yW:Rg:=[iT 2 false]
def qp:Rg:=[iI 3 0]
def qq:Rg:=[iM 18 3,iM 19 0,iA 20 (.aUC (Tm 19)),iB 21 .lss 18 20]
def qr:Rg:=[iM 24 0,iM 25 3,iA 26 (.aUD (Tm 24) (Tm 25)),iK 27 64 26,iA 28 (.un .not (Tm 27))]
def qt:Rg:=[iT 2 false]
def qu:Rg:=[iM 22 3,iC 23 .add 22 1,iM 3 23]
def qk:aC:=(.seq (sq qq (.cond (Tm 21) .skip (.exit 0))) (.seq (.block 1 (sq qr (.cond (Tm 28) (sq qt .ret) .skip))) (.region qu)))
def qv:Rg:=[iT 2 true]
def BM:aC:=(sq ql (.seq (sq qn (.cond (Tm 17) (sq yW .ret) .skip)) (.seq (sq qp (.block 0 (.loop qk))) (sq qv .ret))))
def anA:List Nat:=[]
def wu:aZ:=⟨1,29,BM,[.tmp 2]⟩
theorem qU (P:List Nat) (v:Nat):aL P++[[.int .u32 (v:Int)]]=aL (P++[v]):=by simp[aL]
theorem qT {P:List Nat} (h:P.length≤35184372087808):roomFor (aL P).length 1 4:=by
 unfold roomFor;rw[cD];simp only[maxLen]; omega
def WY (a b:List Nat) (v:PV) (c i:Nat):PF:=(((((PF.nil.set 0 (aK a)).set 1 (aK b)).set 5 (v)).set 6 (.int .u64 c)).set 7 (.int .i64 i))
theorem asY {C:Ctx} (L:qF C) (a b:List Nat) (ha:Lim a) (hb:Lim b) (η:val b≤val a) (hl:b.length≤a.length) (h1:a.length≤35184372087808) :
  GK.wp C (aU Ui.res (bX (aK (aJ (val a-val b))))) (PF.args [aK a,aK b]) .nil:=by
 simp only[go_sem,GK,Ek,El,Em,En,Ui];refine wp_loop (α:=List Nat × Nat × PV × PH) (fun s=>WY a b s.2.2.1 s.2.1 s.1.length) (fun s=>s.2.2.2)
  (fun s=>s.1.length≤a.length∧Lim s.1∧s.2.1≤1∧val (a.take s.1.length)+4294967296 ^ s.1.length*s.2.1=val s.1+val (b.take s.1.length)∧bE s.2.2.2 1 s.2.2.1 (aL s.1)) (fun s=>a.length-s.1.length) ([],0,.aB,.nil) ⟨by simp,by simp[Lim],by simp,by simp[val],.nil⟩ ?_ a_ ?_
 ·unfold WY;exact Lq
 rintro⟨P,c,v,H0⟩ ⟨hP,i,hc,A,U⟩;simp only at hP i hc A U ⊢;simp only[go_sem,pn,Eo,WY];by_cases V:P.length<a.length
 ·have E:(P.length:Int)<(a.length:Nat):=Om;have ε:=ha _ (aUQ V);have δ:=cI a V;have β:(aL a)[P.length]?=some [.int .u32 ((a[P.length]:Nat):Int)]:=bU a V;generalize hx:a[P.length]=x at *
  have ex:IntKind.u64.wrap ((x:Nat):Int)=((x:Nat):Int):=bH Om;have fin:∀ (t:Nat) (B:PF),t<4294967296→val (b.take (P.length+1))=val (b.take P.length)+4294967296 ^ P.length*t →
    B 0=some (aK a)→B 1=some (aK b)→B 5=some v→B 8=some (.int .u64 (c+t:Nat))→B 7=some (.int .i64 P.length) →
    ∀ K:bR,(∀ w l v' S H2,w.length=P.length+1→Lim w→l≤1→val (a.take (P.length+1))+4294967296 ^ w.length*l=val w+val (b.take (P.length+1))→(WY a b v' l w.length).le S→bE H2 1 v' (aL w)→K .normal S H2) →
    aC.wp C (.seq (.region VC) (.seq (.region VD) (.seq (.seq (.region OD) (.cond (.tmp 35) (.seq (.region OE) (.region OF)) .skip)) (.region yT)))) (eQ 1 (gD C (aC.wp C (.region yU)) K)) B H0:=by
   intro t B ht u g0 g1 g5 g8 Z K hK;have step:∀ (d l:Nat),d<4294967296→l≤1→x+4294967296*l=d+(c+t)→val (a.take (P.length+1))+4294967296 ^ (P.length+1)*l=val (P++[d])+val (b.take (P.length+1)):=by
    intro d l hd ζ he;have h2:4294967296 ^ P.length*(x+4294967296*l)=4294967296 ^ P.length*(d+(c+t)):=by rw[he]
    rw[aVF,aVF,aVF] at h2;rw[jS,aWL,aVO,δ,u];omega
   simp only[go_sem,VC,g0,Z,β,ex,VD,OD,g8];by_cases c2:x<c+t
   ·have F:((x:Nat):Int)<((c+t:Nat):Int):=Om;have O:IntKind.u64.wrap ((x:Int)+4294967296)=((x+4294967296:Nat):Int):=by rw[show (x:Int)+4294967296=((x+4294967296:Nat):Int) by omega];exact bH Om
    have J:IntKind.u64.wrap (((x+4294967296:Nat):Int)-((c+t:Nat):Int))=((x+4294967296-(c+t):Nat):Int):=by rw[show ((x+4294967296:Nat):Int)-((c+t:Nat):Int)=((x+4294967296-(c+t):Nat):Int) by omega];exact bH Om
    have M:IntKind.u32.wrap ((x+4294967296-(c+t):Nat):Int)=((x+4294967296-(c+t):Nat):Int):=by rw[cL,aWA Om]
    have N:(1:Nat)*1≤16777216:=by decide
    simp only[go_sem,F,OE,O,OF,yT,g5,g8,J,M,N];refine iD (src:=[[.int .u32 ((x+4294967296-(c+t):Nat):Int)]]) U rfl (qT Om) fun v' H' p _=>?_;rw[qU] at p;simp only[go_sem,yU,Z,dA (Om:P.length<9223372036854775807)];refine hK _ 1 v' _ H' (by simp) (i.app fun y R=>by simp at R; subst R; omega) (aUU _) ?_ ?_ p
    ·rw[aUS,aUX];exact step _ 1 Om (aUU _) Om
    ·unfold WY;rw[aUS,aUX];exact Lq
   ·have F:¬ ((x:Nat):Int)<((c+t:Nat):Int):=Om;have J:IntKind.u64.wrap (((x:Nat):Int)-((c+t:Nat):Int))=((x-(c+t):Nat):Int):=by rw[show ((x:Nat):Int)-((c+t:Nat):Int)=((x-(c+t):Nat):Int) by omega];exact bH Om
    have M:IntKind.u32.wrap ((x-(c+t):Nat):Int)=((x-(c+t):Nat):Int):=by rw[cL,aWA Om]
    have N:(1:Nat)*1≤16777216:=by decide
    simp only[go_sem,F,yT,g5,g8,J,M,N];refine iD (src:=[[.int .u32 ((x-(c+t):Nat):Int)]]) U rfl (qT Om) fun v' H' p _=>?_;rw[qU] at p;simp only[go_sem,yU,Z,dA (Om:P.length<9223372036854775807)];refine hK _ 0 v' _ H' (by simp) (i.app fun y R=>by simp at R; subst R; omega) (by decide) ?_ ?_ p
    ·rw[aUS,aUX];exact step _ 0 Om (by decide) Om
    ·unfold WY;rw[aUS,aUX];exact Lq
  simp only[aC.wp,go_sem] at fin;simp only[go_sem,E,Ep,Eq];by_cases W:P.length<b.length
  ·have H:(P.length:Int)<(b.length:Nat):=Om;have γ:=hb _ (aUQ W);have u:=cI b W;have eb:IntKind.u64.wrap ((b[P.length]:Nat):Int)=((b[P.length]:Nat):Int):=bH Om;have es:IntKind.u64.wrap ((c:Int)+(b[P.length]:Int))=((c+b[P.length]:Nat):Int):=fH Om;simp only[go_sem,H,Er,bU b W,eb,es];refine fin b[P.length] _ γ u rfl rfl rfl rfl rfl _ ?_;intro w l v' S H2 O J M Q X Y;rw[← O] at Q;exact aG (α:=List Nat × Nat × PV × PH) (w,l,v',H2) ⟨by simp only; omega,J,M,Q,Y⟩ (by simp only; omega) X b_
  ·have H:¬ (P.length:Int)<(b.length:Nat):=Om;have u:val (b.take (P.length+1))=val (b.take P.length)+4294967296 ^ P.length*0:=by rw[aVI Om,aVI Om]; simp
   simp only[go_sem,H];refine fin 0 _ (by decide) u rfl rfl rfl rfl rfl _ ?_;intro w l v' S H2 O J M Q X Y;rw[← O] at Q;exact aG (α:=List Nat × Nat × PV × PH) (w,l,v',H2) ⟨by simp only; omega,J,M,Q,Y⟩ (by simp only; omega) X b_
 ·have e:P.length=a.length:=Om;have E:¬ (P.length:Int)<(a.length:Nat):=Om;have hV:val P=val a-val b:=by
   rw[e,aVP,aVI hl] at A;have hlt:=fG i;rw[e] at hlt;rcases aWZ c with h | h
   ·subst h; omega
   ·have:c=1:=Om;subst this; omega
  simp only[go_sem,E,po];have hs:=L.trim _ i Om;rw[hV] at hs;refine uQ hs U rfl fun F1 H1 _=>?_;simp only[go_sem];exact aX (.inr rfl) .nil rfl a_ ⟨.refl _,rfl⟩
def sN (a b:List Nat) (o i:Nat):PF:=((((PF.nil.set 0 (aK a)).set 1 (aK b)).set 5 (.osl o 1 0 (a.length+b.length))).set 6 (.int .i64 i))
def utG (a b:List Nat) (o i c j:Nat):PF:=((((((PF.nil.set 0 (aK a)).set 1 (aK b)).set 5 (.osl o 1 0 (a.length+b.length))).set 6 (.int .i64 i)).set 7 (.int .u64 c)).set 8 (.int .i64 j))
theorem amG {C:Ctx} (a b:List Nat) (ha:Lim a) (hb:Lim b) (h1:a.length≤35184372087808) (h2:b.length≤35184372087808) (L:List Nat) (i:Nat) (hi:i<a.length) (N:HC a b L i) (q:Nat) (K:bR) (F:PF) (H:PH) (J:(sN a b q i).le F) (hH:H q=some (.rows 1 (aL L)))
  (hK:∀ L' F' H',HC a b L' (i+1)→(sN a b q i).le F'→H' q=some (.rows 1 (aL L'))→K .normal F' H') :
  aC.wp C (.block 1 (.seq (.region VK) (.seq (.seq (.region VL) (.block 2 (.loop OJ))) (.region OK)))) K F H:=by
 have f0:=J 0 _ (by unfold sN; simp only[go_sem]; rfl);have f1:=J 1 _ (by unfold sN; simp only[go_sem]; rfl);have f5:=J 5 _ (by unfold sN; simp only[go_sem]; rfl);have f6:=J 6 _ (by unfold sN; simp only[go_sem]; rfl);have hx:=ha _ (aUQ hi);have Y:=cI a hi;generalize β:a[i]=x at *
 have V:(aL a)[i]?=some [.int .u32 ((x:Nat):Int)]:=by rw[bU a hi,β]
 simp only[go_sem,VK,VL];refine wp_loop (α:=List Nat × Nat × Nat) (fun t=>utG a b q i t.2.1 t.2.2) (fun t=>PH.nil.set q (.rows 1 (aL t.1)))
  (fun t=>t.2.2≤b.length∧t.1.length=a.length+b.length∧Lim t.1∧t.2.1<4294967296∧val t.1+4294967296 ^ (i+t.2.2)*t.2.1=val (a.take i)*val b+4294967296 ^ i*(x*val (b.take t.2.2))∧∀ j y,i+b.length≤j→t.1[j]?=some y→y=0) (fun t=>b.length-t.2.2) (L,0,0)
  ⟨by simp,N.len,N.lim,by simp,by simp[val,N.v],N.z⟩ ?_ (e_ a_ hH) ?_
 ·unfold utG;exact Lq
 rintro⟨M,c,j⟩ ⟨hj,U,e,X,u,Q⟩;simp only at hj U e X u Q;simp only[go_sem,OJ,Ez,utG];by_cases R:j<b.length
 ·have w:(j:Int)<(b.length:Nat):=Om;have O:=hb _ (aUQ R);have Z:=cI b R;generalize γ:b[j]=y at *
  have W:(aL b)[j]?=some [.int .u32 ((y:Nat):Int)]:=by rw[bU b R,γ]
  have d:i+j<M.length:=Om;have E:=e _ (aUQ d);have p:=HZ d;generalize δ:M[i+j]=z at *
  have B:(aL M)[i+j]?=some [.int .u32 ((z:Nat):Int)]:=by rw[bU M d,δ]
  have ex:IntKind.u64.wrap ((x:Nat):Int)=((x:Nat):Int):=bH Om;have ey:IntKind.u64.wrap ((y:Nat):Int)=((y:Nat):Int):=bH Om;have ez:IntKind.u64.wrap ((z:Nat):Int)=((z:Nat):Int):=bH Om;have em:=aaV hx O;have ζ:x*y≤4294967295*4294967295:=aXX Om Om;have e1:IntKind.u64.wrap (((x*y:Nat):Int)+(z:Int))=((x*y+z:Nat):Int):=fH Om;have e2:IntKind.u64.wrap (((x*y+z:Nat):Int)+(c:Int))=((x*y+z+c:Nat):Int):=fH Om;have A:IntKind.i64.wrap ((i:Int)+(j:Int))=((i+j:Nat):Int):=gS Om;have hlt:((i+j:Nat):Int)<((a.length+b.length:Nat):Int):=Om;generalize ht:x*y+z+c=t at *
  have ε:t<4294967296*4294967296:=Om;have l:(aL M).set (i+j) [.int .u32 ((t%4294967296:Nat):Int)]=aL (M.set (i+j) (t%4294967296)):=fP M (i+j) _;simp only[go_sem,w];refine bS .nil dT a_ ?_;simp only[go_sem,E0,V,W,ex,ey,em,A,hlt,B,ez,e1,e2,E4,cL,l,E5,yP,pw,wZz j];refine aG (M.set (i+j) (t%4294967296),t/4294967296,j+1) ⟨by simp only; omega,by simp only[aWU]; exact U,e.set _ (aWJ _ (by decide)),by simp only; omega,?_,q9 Q _ _ Om⟩ (by simp only; omega) ?_ (e_ a_ Sq)
  ·simp only;have S:=p (t%4294967296);have h4:4294967296 ^ (i+(j+1))*(t/4294967296)+4294967296 ^ (i+j)*(t%4294967296)=4294967296 ^ (i+j)*t:=by rw[← aWX,aWL,aVO,← aVF,aYC]
   have h5:4294967296 ^ (i+j)*t=4294967296 ^ (i+j)*(x*y)+4294967296 ^ (i+j)*z+4294967296 ^ (i+j)*c:=by rw[← ht,aVF,aVF]
   have h6:4294967296 ^ i*(x*val (b.take (j+1)))=4294967296 ^ i*(x*val (b.take j))+4294967296 ^ (i+j)*(x*y):=by rw[Z,aVF,aVF,Nat.pow_add];congr 1;rw[Nat.mul_left_comm x,aVO]
   omega
  ·exact Lq
 ·have he:j=b.length:=Om;have w:¬ (j:Int)<(b.length:Nat):=Om;subst he;have d:i+b.length<M.length:=Om;have E:M[i+b.length]=0:=Q _ _ (aUU _) (aVB d);have p:=HZ d;have B:(aL M)[i+b.length]?=some [.int .u32 ((0:Nat):Int)]:=by rw[bU M d,E]
  have A:IntKind.i64.wrap ((i:Int)+(b.length:Int))=((i+b.length:Nat):Int):=gS Om;have hlt:((i+b.length:Nat):Int)<((a.length+b.length:Nat):Int):=Om;have l:(aL M).set (i+b.length) [.int .u32 ((c%4294967296:Nat):Int)]=aL (M.set (i+b.length) c):=by rw[aWA X]; exact fP M _ _
  simp only[go_sem,w,OK,A,cL,hlt,B,l];refine hK (M.set (i+b.length) c) _ _ ⟨by rw[aWU]; exact U,e.set _ X,?_,fun j y hj O=>?_⟩ (by unfold sN; exact Lq) Sq
  ·have S:=p c;rw[E,Nat.mul_zero,aWY] at S;rw[S,u,aVP,Y,aVU,aVO]
  ·rw[List.getElem?_set_ne Om] at O;exact Q j y Om O
theorem atD {C:Ctx} (L:qF C) (a b:List Nat) (J:Lim a) (K:Lim b) (S:a.length≤8388608) (U:b.length≤8388608) :
  GL.wp C (aU Ut.res (bX (aK (aJ (val a*val b))))) (PF.args [aK a,aK b]) .nil:=by
 have l:IntKind.i64.wrap ((a.length:Int)+(b.length:Int))=((a.length+b.length:Nat):Int):=gS Om;have y:((a.length+b.length:Nat):Int)*((4:Nat):Int)≤140737488355328:=Om;have A:((a.length+b.length:Nat):Int)≤9223372036854775807:=Om;have O:aUR (a.length+b.length) [PV.int .u32 0]=aL (aUR (a.length+b.length) 0):=by simp[aL]
 simp only[go_sem,GL,Eu,Ew,Ut,aUN,l,y,A,O];refine aO fun o V=>?_;simp only[go_sem,Ex];refine wp_loop (α:=List Nat × Nat) (fun t=>sN a b o t.2) (fun t=>PH.nil.set o (.rows 1 (aL t.1))) (fun t=>t.2≤a.length∧HC a b t.1 t.2) (fun t=>a.length-t.2) (aUR (a.length+b.length) 0,0)
  ⟨by simp,by simp,xA _,by simp[val,tA],fun j x _ E=>by rw[List.getElem?_replicate] at E; split at E<;>simp_all⟩ ?_ (e_ a_ Sq) ?_
 ·unfold sN;exact Lq
 rintro⟨M,i⟩ ⟨hi,d⟩;simp only at hi d;simp only[go_sem,pu,Ey,sN];by_cases F:i<a.length
 ·have e:(i:Int)<(a.length:Nat):=Om;have p:=amG (C:=C) a b J K Om Om M i F d o;simp only[go_sem] at p;simp only[go_sem,e];refine p _ _ _ (by unfold sN; exact Lq) Sq ?_;intro L' Q H' w c u;have H:=c 6 _ (by unfold sN; simp only[go_sem]; rfl);have g0:=c 0 _ (by unfold sN; simp only[go_sem]; rfl);have g1:=c 1 _ (by unfold sN; simp only[go_sem]; rfl);have R:=c 5 _ (by unfold sN; simp only[go_sem]; rfl);simp only[go_sem,p4,H,wZz i];refine aG (L',i+1) ⟨by simp only; omega,w⟩ (by simp only; omega) ?_ (e_ a_ u);exact Lq
 ·have N:i=a.length:=Om;subst N;have e:¬ (a.length:Int)<(a.length:Nat):=Om;have hV:val M=val a*val b:=by rw[d.v,aVP]
  simp only[go_sem,p5];have B:=L.trim _ d.lim (by rw[d.len]; omega);rw[hV] at B;refine rB (o:=o) (s:=1) (k:=a.length+b.length) (rs:=aL M) (v:=aK (aJ (val a*val b))) ?_ rfl Sq (by rw[cD,d.len]; exact aUU _) ?_
  ·rw[aVI (by rw[cD,d.len]; exact aUU _)]; exact B
  ·simp only[go_sem];exact aX (.inr rfl) .nil rfl a_ ⟨.refl _,rfl⟩
structure H9 (C:Ctx):Prop extends Hz C where
 minus:∀ a b,Lim a→Lim b→val b≤val a→b.length≤a.length→a.length≤35184372087808→aH C 42 [aK a,aK b] .nil (aI (aK (aJ (val a-val b))))
 times:∀ a b,Lim a→Lim b→a.length≤8388608→b.length≤8388608→aH C 44 [aK a,aK b] .nil (aI (aK (aJ (val a*val b))))
theorem aIL {C:Ctx} (L:H9 C) (a b:List Nat) (i:Lim a) (l:Lim b) (w:a.length≤35184372087808) (x:b.length≤35184372087808) :
  VE.wp C (aU aBW.res (bX (opV (eC (val a) (val b)) (val a*val b)))) (PF.args [aK a,aK b]) .nil:=by
 unfold opV;simp only[go_sem,VE,aeH,aeI,aBW];refine aA (L.large a i w) rfl ?_;by_cases d:nl (val a)>512
 ·simp only[go_sem,d,wh];rw[if_pos (by simp[eC,d])];exact eW rfl
 simp only[go_sem,d];refine aA (L.large b l x) rfl ?_;by_cases e:nl (val b)>512
 ·simp only[go_sem,e,wh];rw[if_pos (by simp[eC,e])];exact eW rfl
 rw[if_neg (by simp[eC,d,e])];simp only[go_sem,e,aeJ];refine aA (L.trim a i w) rfl ?_;simp only[go_sem];refine aA (L.trim b l x) rfl ?_;simp only[go_sem];have u:=L.times (aJ (val a)) (aJ (val b)) (aV _) (aV _) (by rw[bB]; omega) (by rw[bB]; omega);rw[aT,aT] at u;refine aA u rfl ?_;have y:=mA (a:=val a) (b:=val b) (m:=512) (n:=512) Om Om;have p:=L.large (aJ (val a*val b)) (aV _) (by rw[bB]; omega);rw[aT] at p;simp only[go_sem,aeK];refine aA p rfl ?_;unfold szV szL szE;by_cases c:nl (val a*val b)>512
 ·rw[if_pos c,if_pos c];simp only[go_sem,c,aeL];exact eW rfl
 ·rw[if_neg c,if_neg c];simp only[go_sem,c,aeM];exact aX (.inr rfl) .nil rfl a_ ⟨.refl _,rfl⟩
def xX (a:List Nat) (i:Nat):Nat:=a.getD i 0
theorem Ju {a:List Nat} (h:Lim a) (i:Nat):xX a i<4294967296:=by
 unfold xX;rw[aUY];rcases aVL i a.length with h1 | h1
 ·rw[aVB h1]; exact h _ (aUQ h1)
 ·rw[aWG h1]; decide
theorem an {a:List Nat} {i:Nat} (h:i<a.length):xX a i=a[i]:=by simp[xX,aUY,h]
theorem RP {a:List Nat} {i:Nat} (h:¬ i<a.length):xX a i=0:=by simp[xX,aUY,h]
theorem VM (a:List Nat) (i:Nat):val (a.take (i+1))=val (a.take i)+4294967296 ^ i*xX a i:=by
 rcases aVL i a.length with h | h
 ·rw[an h]; exact cI a h
 ·rw[RP Om,aVI Om,aVI Om]; simp
def uM (a b:List Nat) (v:PV) (c i:Nat):PF:=(((((PF.nil.set 0 (aK a)).set 1 (aK b)).set 5 (v)).set 6 (.int .u64 c)).set 7 (.int .i64 i))
theorem aCC {C:Ctx} (L:qF C) (a b:List Nat) (ha:Lim a) (hb:Lim b) (h1:a.length≤8388608) (h2:b.length≤8388608) :
  OG.wp C (aU amF.res (bX (aK (aJ (val a+val b))))) (PF.args [aK a,aK b]) .nil:=by
 simp only[go_sem,OG,Un,Uo,Uq,Ur,amF];refine wp_loop (α:=List Nat × Nat × PV × PH) (fun s=>uM a b s.2.2.1 s.2.1 s.1.length) (fun s=>s.2.2.2)
  (fun s=>s.1.length≤max a.length b.length+1∧(s.1.length≤max a.length b.length∨s.2.1=0)∧Lim s.1∧s.2.1≤1∧val s.1+4294967296 ^ s.1.length*s.2.1=val (a.take s.1.length)+val (b.take s.1.length)∧bE s.2.2.2 1 s.2.2.1 (aL s.1)) (fun s=>max a.length b.length+1-s.1.length) ([],0,.aB,.nil)
  ⟨by simp,by simp,by simp[Lim],by simp,by simp[val],.nil⟩ ?_ a_ ?_
 ·unfold uM;exact Lq
 rintro⟨P,c,v,H0⟩ ⟨hP,δ,l,hc,E,hO⟩;simp only at hP δ l hc E hO ⊢;have ι:=Ju ha P.length;have κ:=Ju hb P.length;have η:=VM a P.length;have θ:=VM b P.length;generalize hx:xX a P.length=x at *
 generalize hy:xX b P.length=y at *
 have ex:IntKind.u64.wrap ((x:Nat):Int)=((x:Nat):Int):=bH Om;have ey:IntKind.u64.wrap ((y:Nat):Int)=((y:Nat):Int):=bH Om;have N:IntKind.u64.wrap ((c:Int)+(x:Int))=((c+x:Nat):Int):=fH Om;have O:IntKind.u64.wrap (((c+x:Nat):Int)+(y:Int))=((c+x+y:Nat):Int):=fH Om;have ζ:P.length<a.length→(aL a)[P.length]?=some [.int .u32 ((x:Nat):Int)]:=fun h=>by rw[bU a h,← hx,an h]
 have Y:P.length<b.length→(aL b)[P.length]?=some [.int .u32 ((y:Nat):Int)]:=fun h=>by rw[bU b h,← hy,an h]
 have Z:¬ P.length<a.length→x=0:=fun h=>by rw[← hx,RP h]
 have Q:¬ P.length<b.length→y=0:=fun h=>by rw[← hy,RP h]
 have body:(P.length≤max a.length b.length)→∀ K:bR,(∀ i u v' R H2,i.length=P.length+1→Lim i→u≤1→(P.length+1≤max a.length b.length∨u=0)→val i+4294967296 ^ i.length*u=val (a.take (P.length+1))+val (b.take (P.length+1))→(uM a b v' u i.length).le R→bE H2 1 v' (aL i)→K .normal R H2) →
   ∀ F:PF,(uM a b v c P.length).le F→aC.wp C (.seq (.block 1 (.seq (.region ff) (.seq (.seq (.region fg) (.cond (.tmp 29) (.region fh) .skip)) (.seq (.seq (.region OH) (.cond (.tmp 40) (.region OI) .skip)) (.seq (.region DK) (.region DL)))))) (.region DM)) K F H0:=by
  intro μ K hK F W;have g0:F 0=some (aK a):=W 0 _ (by unfold uM; simp only[go_sem]);have g1:F 1=some (aK b):=W 1 _ (by unfold uM; simp only[go_sem]);have g5:F 5=some v:=W 5 _ (by unfold uM; simp only[go_sem]);have g6:F 6=some (.int .u64 c):=W 6 _ (by unfold uM; simp only[go_sem]);have w:F 7=some (.int .i64 P.length):=W 7 _ (by unfold uM; simp only[go_sem]);have fin:∀ H:PF,H 0=some (aK a)→H 1=some (aK b)→H 5=some v→H 7=some (.int .i64 P.length)→H 8=some (.int .u64 (c+x+y:Nat)) →
    aC.wp C (.seq (.region DK) (.region DL)) (eQ 1 (gD C (aC.wp C (.region DM)) K)) H H0:=by
   intro H q0 q1 q5 q7 q8;have ε:(1:Nat)*1≤16777216:=by decide
   generalize ht:c+x+y=t at *
   have ν:t<2*4294967296:=Om;simp only[go_sem,DK,q5,q8,ε,cL];refine iD (src:=[[.int .u32 ((t%4294967296:Nat):Int)]]) hO rfl (qT Om) fun v' H' X _=>?_;rw[qU] at X;simp only[go_sem,DL,q8,yP,DM,q7,dA (Om:P.length<9223372036854775807)];refine hK (P++[t%4294967296]) (t/4294967296) v' _ H' (by simp) (l.app fun y hy=>by simp at hy; subst hy; omega) Om ?_ ?_ ?_ X
   ·rcases aVL P.length (max a.length b.length) with h | h
    ·exact .inl h
    ·right;have h1:=Z Om;have h2:=Q Om;omega
   ·rw[jS,aUS,aUX,η,θ,aWL,aVO,aWX,← aVF];rw[show t%4294967296+4294967296*(t/4294967296)=t from Nat.mod_add_div t 4294967296];have h3:4294967296 ^ P.length*t=4294967296 ^ P.length*c+4294967296 ^ P.length*x+4294967296 ^ P.length*y:=by rw[← ht,aVF,aVF]
    omega
   ·unfold uM;rw[aUS,aUX];exact Lq
  simp only[aC.wp,go_sem] at fin;simp only[go_sem,ff,g6,fg,w,g0];by_cases c1:P.length<a.length
  ·have e:(P.length:Int)<(a.length:Nat):=Om;simp only[go_sem,e,fh,g0,w,ζ c1,ex,N,OH,g1];by_cases J:P.length<b.length
   ·have d:(P.length:Int)<(b.length:Nat):=Om;simp only[go_sem,d,OI,g1,w,Y J,ey,O];exact fin _ (by simp only[go_sem,g0]) (by simp only[go_sem,g1]) (by simp only[go_sem,g5]) (by simp only[go_sem,w]) rfl
   ·have d:¬ (P.length:Int)<(b.length:Nat):=Om;have h0:=Q J;simp only[go_sem,d];exact fin _ (by simp only[go_sem,g0]) (by simp only[go_sem,g1]) (by simp only[go_sem,g5]) (by simp only[go_sem,w]) (by simp only[go_sem,h0])
  ·have e:¬ (P.length:Int)<(a.length:Nat):=Om;have h0:=Z c1;simp only[go_sem,e,OH,g1,w];by_cases J:P.length<b.length
   ·have d:(P.length:Int)<(b.length:Nat):=Om;have β:IntKind.u64.wrap ((c:Int)+(y:Int))=((c+x+y:Nat):Int):=by rw[h0]; exact fH Om
    simp only[go_sem,d,OI,g1,w,Y J,ey,β];exact fin _ (by simp only[go_sem,g0]) (by simp only[go_sem,g1]) (by simp only[go_sem,g5]) (by simp only[go_sem,w]) rfl
   ·have d:¬ (P.length:Int)<(b.length:Nat):=Om;have γ:=Q J;simp only[go_sem,d];exact fin _ (by simp only[go_sem,g0]) (by simp only[go_sem,g1]) (by simp only[go_sem,g5]) (by simp only[go_sem,w]) (by simp only[go_sem,h0,γ])
 simp only[aC.wp,go_sem] at body;have p:¬ P.length<a.length→¬ P.length<b.length→c=0→∀ F:PF,F 5=some v→aC.wp C (.seq (.region VH) .ret) (aU [.tmp 4] (bX (aK (aJ (val a+val b))))) F H0:=by
  intro n1 n2 n3 F f5;have hV:val P=val a+val b:=by rw[n3,aVI Om,aVI Om] at E;omega
  have hs:=L.trim _ l Om;rw[hV] at hs;simp only[go_sem,VH,f5];refine uQ hs hO rfl fun F1 H1 _=>?_;simp only[go_sem];exact aX (.inr rfl) .nil rfl a_ ⟨.refl _,rfl⟩
 simp only[aC.wp,go_sem] at p;simp only[go_sem,Et,Us,uM];by_cases c1:P.length<a.length
 ·have e:(P.length:Int)<(a.length:Nat):=Om;simp only[go_sem,e];refine body Om _ ?_ _ (by unfold uM; exact Lq);intro i u v' R H2 N O S A B U V;rw[← N] at B A;exact aG (α:=List Nat × Nat × PV × PH) (i,u,v',H2) ⟨by simp only; omega,A,O,S,B,V⟩ (by simp only; omega) U b_
 ·have e:¬ (P.length:Int)<(a.length:Nat):=Om;simp only[go_sem,e];by_cases J:P.length<b.length
  ·have d:(P.length:Int)<(b.length:Nat):=Om;simp only[go_sem,d];refine body Om _ ?_ _ (by unfold uM; exact Lq);intro i u v' R H2 N O S A B U V;rw[← N] at B A;exact aG (α:=List Nat × Nat × PV × PH) (i,u,v',H2) ⟨by simp only; omega,A,O,S,B,V⟩ (by simp only; omega) U b_
  ·have d:¬ (P.length:Int)<(b.length:Nat):=Om;simp only[go_sem,d];by_cases c3:c=0
   ·have M:¬ (c:Int)>0:=Om;simp only[go_sem,M];exact p c1 J c3 _ rfl
   ·have M:(c:Int)>0:=Om;simp only[go_sem,M];refine body Om _ ?_ _ (by unfold uM; exact Lq);intro i u v' R H2 N O S A B U V;rw[← N] at B A;exact aG (α:=List Nat × Nat × PV × PH) (i,u,v',H2) ⟨by simp only; omega,A,O,S,B,V⟩ (by simp only; omega) U b_
structure gm (C:Ctx):Prop extends H9 C where
 plus:∀ a b,Lim a→Lim b→a.length≤8388608→b.length≤8388608→aH C 43 [aK a,aK b] .nil (aI (aK (aJ (val a+val b))))
theorem aID {C:Ctx} (L:gm C) (a b:List Nat) (i:Lim a) (l:Lim b) (w:a.length≤35184372087808) (x:b.length≤35184372087808) :
  UW.wp C (aU aBL.res (bX (opV (eC (val a) (val b)) (val a+val b)))) (PF.args [aK a,aK b]) .nil:=by
 unfold opV;simp only[go_sem,UW,adD,adE,aBL];refine aA (L.large a i w) rfl ?_;by_cases d:nl (val a)>512
 ·simp only[go_sem,d,wc];rw[if_pos (by simp[eC,d])];exact eW rfl
 simp only[go_sem,d];refine aA (L.large b l x) rfl ?_;by_cases e:nl (val b)>512
 ·simp only[go_sem,e,wc];rw[if_pos (by simp[eC,e])];exact eW rfl
 rw[if_neg (by simp[eC,d,e])];simp only[go_sem,e,adF];refine aA (L.trim a i w) rfl ?_;simp only[go_sem];refine aA (L.trim b l x) rfl ?_;simp only[go_sem];have u:=L.plus (aJ (val a)) (aJ (val b)) (aV _) (aV _) (by rw[bB]; omega) (by rw[bB]; omega);rw[aT,aT] at u;refine aA u rfl ?_;have y:=Qe (a:=val a) (b:=val b) (m:=512) Om Om;have p:=L.large (aJ (val a+val b)) (aV _) (by rw[bB]; omega);rw[aT] at p;simp only[go_sem,adG];refine aA p rfl ?_;unfold szV szL szE;by_cases c:nl (val a+val b)>512
 ·rw[if_pos c,if_pos c];simp only[go_sem,c,adH];exact eW rfl
 ·rw[if_neg c,if_neg c];simp only[go_sem,c,adI];exact aX (.inr rfl) .nil rfl a_ ⟨.refl _,rfl⟩
theorem aIP {C:Ctx} (L:gm C) (a b:List Nat) (i:Lim a) (l:Lim b) (p:a.length≤35184372087808) (u:b.length≤35184372087808) :
  VJ.wp C (aU aCF.res (bX (sM (val a) (val b)))) (PF.args [aK a,aK b]) .nil:=by
 unfold sM;simp only[go_sem,VJ,aeO,aeP,aCF];refine aA (L.large a i p) rfl ?_;by_cases c:nl (val a)>512
 ·simp only[go_sem,c,wi];rw[if_pos (by simp[eC,c])];exact eW rfl
 simp only[go_sem,c];refine aA (L.large b l u) rfl ?_;by_cases d:nl (val b)>512
 ·simp only[go_sem,d,wi];rw[if_pos (by simp[eC,d])];exact eW rfl
 rw[if_neg (by simp[eC,c,d])];simp only[go_sem,d,aeQ];refine aA (L.cmp a b i l p u) rfl ?_;by_cases e:val a<val b
 ·have:dQ (val a) (val b)=-1:=by simp[dQ,e]
  rw[if_pos e];simp only[go_sem,this,show ((-1:Int)<0) by decide,aeR];exact eW rfl
 ·have:¬ dQ (val a) (val b)<0:=by unfold dQ;rw[if_neg e];split<;>decide
  rw[if_neg e];have y:=fX (Nat.sub_le (val a) (val b));have x:=fX (Om:val b≤val a);simp only[go_sem,this,aeS];refine aA (L.trim a i p) rfl ?_;simp only[go_sem];refine aA (L.trim b l u) rfl ?_;simp only[go_sem];have w:=L.minus (aJ (val a)) (aJ (val b)) (aV _) (aV _) (by rw[aT,aT]; omega) (by rw[bB,bB]; exact x) (by rw[bB]; omega);rw[aT,aT] at w;refine aA w rfl ?_;rw[BG Om];simp only[go_sem];exact aX (.inr rfl) .nil rfl a_ ⟨.refl _,rfl⟩
def To (k:Nat) (v:Nat):PF:=((PF.nil.set 3 (.int .i64 k)).set 4 (.int .u32 v))
theorem aBM {C:Ctx} (L:qF C) (xs:List Nat) (H:Lim xs) (Q:xs.length≤35184372087808) :
  NX.wp C (aU alV.res (aI (.int .i64 (cM (val xs):Nat)))) (PF.args [aK xs]) .nil:=by
 simp only[go_sem,NX,Tr,Ts,alV];refine aA (L.trim xs H Q) rfl ?_;have R:=fO H;simp only[go_sem,Tt,aUN,bB,DJ];by_cases w:nl (val xs)=0
 ·simp only[go_sem,decide_eq_true w,Tu];refine aR (.inr rfl) rfl ?_;have:val xs=0:=iY.1 w;simp[bQ,this,jU]
 obtain⟨n,N⟩:∃ n,nl (val xs)=n+1:=⟨nl (val xs)-1,by omega⟩;obtain⟨t,u,y⟩:=Sp (xs:=aJ (val xs)) (aV _) (by rw[aT]; exact N);have e:t<4294967296:=aV _ t (aXL u);have O:val xs=val ((aJ (val xs)).take n)+4294967296 ^ n*t:=by
  have:=aT (val xs);have c:n<(aJ (val xs)).length:=by rw[bB]; omega
  have M:(aJ (val xs))[n]=t:=by rw[aVB c] at u; exact aXC.inj u
  conv=>lhs; rw[← this,← aVI (l:=aJ (val xs)) (i:=n+1) (by rw[bB]; omega)]
  rw[cI _ c,M]
 have S:cM (val xs)=32*n+cM t:=by have E:=fG ((aV (val xs)).take n);rw[aVJ,bB,aWW Om] at E;have p:=Io (lo:=val ((aJ (val xs)).take n)) (k:=32*n) (hi:=t) (by rw[Nat.pow_mul]; exact E) y;rw[← p,Nat.pow_mul];exact congrArg cM O
 have d:(aL (aJ (val xs)))[n]?=some [.int .u32 (t:Nat)]:=by simp[aL,u]
 have J:IntKind.i64.wrap (((nl (val xs):Nat):Int)-1)=(n:Int):=by rw[wrap_i64 Om Om]; omega
 have K:IntKind.i64.wrap (32*(n:Int))=((32*n:Nat):Int):=by rw[wrap_i64 Om Om]; omega
 simp only[go_sem,decide_eq_false w,Tv,Tw,aUN,bB,J,K,d];refine wp_loop (α:=Nat × Nat) (fun a=>To a.1 a.2) (fun _=>.nil) (fun a=>a.1+cM a.2=32*n+cM t∧a.2<4294967296) (fun a=>a.2) (32*n,t) ⟨rfl,e⟩ ?_ a_ ?_
 ·unfold To;exact Lq
 rintro⟨k,v⟩ ⟨p,hlt⟩;simp only at p hlt;have F:cM t≤32:=(mJ t 32).2 e;simp only[go_sem,Tq,Tx,To];by_cases B:(v:Int)>0
 ·have A:v≠0:=Om;have x:IntKind.u32.wrap (Int.tdiv (v:Int) 2)=((v/2:Nat):Int):=by rw[show Int.tdiv (v:Int) 2=((v/2:Nat):Int) from Int.ofNat_tdiv v 2,cL,aWA Om]
  simp only[go_sem,B,Tz,T0,x,wZz k];refine aG (k+1,v/2) ⟨?_,?_⟩ (Nat.div_lt_self Om (by decide)) ?_ a_
  ·have:=pQ A;simp only; omega
  ·simp only; omega
  ·exact Lq
 ·have:v=0:=Om;subst this;simp only[go_sem,B,Ef];refine aR (.inr rfl) rfl ?_;rw[jU] at p;simp only[bQ,PV.int.injEq,true_and];omega
theorem Bz (n:Nat):4294967296 ^ (n/32)*2 ^ (n%32)=2 ^ n:=by
 rw[show (4294967296:Nat)=2 ^ 32 by decide,← Nat.pow_mul,← Nat.pow_add];congr 1;omega
theorem asI (n:Nat):IntKind.i64.wrap (Int.tdiv (n:Int) 32)=IntKind.i64.wrap ((n/32:Nat):Int):=by
 rw[show Int.tdiv (n:Int) 32=((n/32:Nat):Int) from Int.ofNat_tdiv n 32]
theorem asN (n:Nat):Int.tmod (n:Int) 32=((n%32:Nat):Int):=Int.ofNat_tmod n 32
def aCI (a:List Nat) (n:Nat) (v:PV) (c i:Nat):PF:=(((((PF.nil.set 0 (aK a)).set 1 (.int .i64 n)).set 5 (v)).set 6 (.int .u64 c)).set 7 (.int .i64 i))
theorem aLI {C:Ctx} (L:qF C) (a:List Nat) (n:Nat) (ha:Lim a) (h1:a.length≤8388608) (hn:n≤8388608) (h0:a.length=0→val a=0) :
  fj.wp C (aU uup.res (oF 1 (aL (aJ (val a*2 ^ n))))) (PF.args [aK a,.int .i64 n]) .nil:=by
 simp only[go_sem,fj,atF,atG,uup,aUN,DJ];by_cases E:a.length=0
 ·simp only[go_sem,decide_eq_true E,atH];rw[h0 E,Nat.zero_mul,fR];exact HV (.inr rfl) rfl
 have ez:IntKind.i64.wrap (Int.tdiv (n:Int) 32)=((n/32:Nat):Int):=by rw[asI,fk Om]
 have em:=asN n;have eu:IntKind.u64.wrap ((n%32:Nat):Int)=((n%32:Nat):Int):=bH Om;have U:=Bz n;have S:n%32<32:=aWJ _ (by decide);have hz:n/32≤8388608:=Om;generalize ζ:n/32=z at *
 generalize δ:n%32=s at *
 have Q:((z:Nat):Int)*((4:Nat):Int)≤140737488355328:=Om;have R:((z:Nat):Int)≤9223372036854775807:=Om;have W:aUR z [PV.int .u32 0]=aL (aUR z 0):=by simp[aL]
 have K:2 ^ s≤2147483648:=aYK (show 0<2 by decide) (Om:s≤31);have A:0<2 ^ s:=aXK (by decide);simp only[go_sem,decide_eq_false E,atI,ez,Q,R,W];refine aO fun o ho=>?_;simp only[go_sem,atJ,atK];refine wp_loop (α:=List Nat × Nat × Nat × PV × PH) (fun t=>aCI a n t.2.2.2.1 t.2.1 t.2.2.1) (fun t=>t.2.2.2.2)
  (fun t=>t.2.2.1≤a.length∧t.1.length=z+t.2.2.1∧Lim t.1∧t.2.1<2 ^ s∧val t.1+4294967296 ^ t.1.length*t.2.1=val (a.take t.2.2.1)*2 ^ n∧bE t.2.2.2.2 1 t.2.2.2.1 (aL t.1)) (fun t=>a.length-t.2.2.1) (aUR z 0,0,0,.osl o 1 0 z,PH.nil.set o (.rows 1 (aL (aUR z 0))))
  ⟨by simp,by simp,xA _,A,by simp[val,tA],.inr ⟨o,aL (aUR z 0),by rw[cD,List.length_replicate],by simp only[go_sem],by rw[cD]; exact aUU _,aVP⟩⟩ ?_ b_ ?_
 ·unfold aCI;exact Lq
 rintro⟨P,c,i,v,H0⟩ ⟨hi,X,d,Y,p,N⟩;simp only at hi X d Y p N ⊢;simp only[go_sem,aeT,atL,aCI];by_cases F:i<a.length
 ·have u:(i:Int)<(a.length:Nat):=Om;have γ:=ha _ (aUQ F);have V:=cI a F;have O:=bU a F;generalize Z:a[i]=x at *
  have ε:x*2 ^ s≤4294967295*2147483648:=aXX Om K;have ex:IntKind.u64.wrap ((x:Nat):Int)=((x:Nat):Int):=bH Om;have β:2 ^ s*x=x*2 ^ s:=aVR _ _;have J:shift .shl .u64 (x:Int) (s:Int)=some (.int .u64 ((2 ^ s*x:Nat):Int)):=NJ Om Om;have H:=orI (a:=2 ^ s*x) (b:=c) (n:=c+2 ^ s*x) Om Om (by rw[Nat.or_comm]; exact Q8 Y Om) Om;have B:(c+2 ^ s*x)/4294967296<2 ^ s:=by rw[aXP (by decide)];have:2 ^ s*(x+1)≤2 ^ s*4294967296:=aXA _ Om;rw[aVF,Nat.mul_one] at this;omega
  have w:(1:Nat)*1≤16777216:=by decide
  simp only[go_sem,u,atM,O,ex,em,eu,J,H,atN,cL,w];refine iD (src:=[[.int .u32 (((c+2 ^ s*x)%4294967296:Nat):Int)]]) N rfl (qT Om) fun v' H' l _=>?_;rw[qU] at l;simp only[go_sem,atO,yP,aeU,wZz i];refine aG (P++[(c+2 ^ s*x)%4294967296],(c+2 ^ s*x)/4294967296,i+1,v',H') ⟨by simp only; omega,by simp; omega,d.app fun y hy=>by simp at hy; subst hy; exact aWJ _ (by decide),B,?_,l⟩ (by simp only; omega) ?_ b_
  ·simp only;have hp:4294967296 ^ P.length*(2 ^ s*x)=4294967296 ^ i*x*2 ^ n:=by rw[X,Nat.pow_add,← U];rw[aVO,Nat.mul_left_comm (4294967296 ^ i),← aVO (4294967296 ^ z),aVR (4294967296 ^ z*2 ^ s),aVO,aVR x]
   rw[jS,aUS,aUX,aWL,aVO,aWX,← aVF,Nat.mod_add_div,V,aVF,aVU,← aWX,p,hp]
  ·exact Lq
 ·have e:i=a.length:=Om;subst e;have u:¬ (a.length:Int)<(a.length:Nat):=Om;have w:(1:Nat)*1≤16777216:=by decide
  have hV:val (P++[c])=val a*2 ^ n:=by rw[jS,p,aVP]
  have M:Lim (P++[c]):=d.app fun x Z=>by simp at Z; omega
  have ec:IntKind.u32.wrap ((c:Nat):Int)=((c:Nat):Int):=by rw[cL,aWA Om]
  simp only[go_sem,u,aeV,ec,w];refine iD (src:=[[.int .u32 ((c:Nat):Int)]]) N rfl (qT Om) fun v' H' l _=>?_;rw[qU] at l;have S:=L.trimM _ M (by simp; omega);rw[hV] at S;refine G2 S l rfl fun F1 H1 _ r H2 hr _=>?_;simp only[go_sem];exact arO (.inr rfl) hr rfl
def UZ (a:List Nat) (n:Nat) (v:PV) (i:Nat):PF:=((((PF.nil.set 0 (aK a)).set 1 (.int .i64 n)).set 5 (v)).set 6 (.int .i64 i))
theorem aBR {C:Ctx} (L:qF C) (a:List Nat) (n:Nat) (H:Lim a) (h1:a.length≤8388608) (hn:n≤1000000000) :
  OB.wp C (aU amA.res (bX (aK (aJ (val a/2 ^ n))))) (PF.args [aK a,.int .i64 n]) .nil:=by
 have ez:IntKind.i64.wrap (Int.tdiv (n:Int) 32)=((n/32:Nat):Int):=by rw[asI,fk Om]
 have em:=asN n;have eu:IntKind.u64.wrap ((n%32:Nat):Int)=((n%32:Nat):Int):=bH Om;have M:=Bz n;have Q:n%32<32:=aWJ _ (by decide);have hz:n/32≤1000000000:=Om;generalize ι:n/32=z at *
 generalize θ:n%32=s at *
 simp only[go_sem,OB,T6,T7,amA,aUN,ez];by_cases c0:a.length≤z
 ·have d:((z:Nat):Int)≥(a.length:Nat):=Om;have hq:val a/2 ^ n=0:=by refine aYD (Nat.lt_of_lt_of_le (fG H) ?_);rw[← M];exact aWE (aYK (by decide) c0) (Nat.le_mul_of_pos_right _ (aXK (by decide)))
  simp only[go_sem,d,T8];rw[hq,fR];exact aX (vs:=[.aB]) (.inr rfl) .nil rfl a_ ⟨.nil 1,rfl⟩
 have d:¬ ((z:Nat):Int)≥(a.length:Nat):=Om;have hR:val a/2 ^ n=val (a.drop z)/2 ^ s:=by rw[vX H Om,← M,Nat.div_div_eq_div_mul]
 have B:Lim (a.drop z):=H.drop z;simp only[go_sem,d,T9,Ua,ez];refine wp_loop (α:=List Nat × PV × PH) (fun t=>UZ a n t.2.1 (z+t.1.length)) (fun t=>t.2.2)
  (fun t=>z+t.1.length≤a.length∧t.1=dZ t.1.length (val (a.drop z)/2 ^ s)∧bE t.2.2 1 t.2.1 (aL t.1)) (fun t=>a.length-t.1.length) ([],.aB,.nil)
  ⟨by simp; omega,rfl,.nil⟩ ?_ a_ ?_
 ·unfold UZ
  (repeat' (first|exact d_|refine c_ ?_ ?_))<;>first|(simp only[go_sem,aXD]<;>rfl)|rfl
 rintro⟨P,v,H0⟩ ⟨hP,hD,Z⟩;simp only at hP hD Z ⊢;simp only[go_sem,Eg,Ub,UZ];have A:Lim P:=by rw[hD]; exact nC _ _
 by_cases R:z+P.length<a.length
 ·have p:((z+P.length:Nat):Int)<(a.length:Nat):=Om;have η:=H _ (aUQ R);have β:=bU a R;have δ:P.length≤(a.drop z).length:=by rw[aWR]; omega
  have N:=vX B δ;have c:(a.drop z).drop P.length=a[z+P.length]::a.drop (z+P.length+1):=by rw[List.drop_drop,aWM R]
  generalize hx:a[z+P.length]=x at *
  have ex:IntKind.u64.wrap ((x:Nat):Int)=((x:Nat):Int):=bH Om;have γ:(1:Nat)*1≤16777216:=by decide
  have Y:IntKind.i64.wrap (((z+P.length:Nat):Int)+1)=((z+P.length+1:Nat):Int):=dA Om;have fin:∀ (t:Nat) (F:PF),t<18446744073709551616→val (a.drop z)/4294967296 ^ P.length%(4294967296*4294967296)=t→F 0=some (aK a)→F 1=some (.int .i64 n)→F 5=some v→F 6=some (.int .i64 (z+P.length:Nat))→F 7=some (.int .u64 t) →
    ∀ K:bR,(∀ v' O H2,(UZ a n v' (z+(P.length+1))).le O→bE H2 1 v' (aL (P++[t/2 ^ s%4294967296]))→(P++[t/2 ^ s%4294967296])=dZ (P.length+1) (val (a.drop z)/2 ^ s)→K .normal O H2) →
    aC.wp C (.region fe) (eQ 1 (gD C (aC.wp C (.region VA)) K)) F H0:=by
   intro t F ht ε f0 f1 f5 f6 f7 K hK;have w:shift .shr .u64 (t:Int) (s:Int)=some (.int .u64 ((t/2 ^ s:Nat):Int)):=aLF Om;simp only[go_sem,fe,f5,f7,f1,em,eu,w,cL,γ];refine iD (src:=[[.int .u32 ((t/2 ^ s%4294967296:Nat):Int)]]) Z rfl (qT Om) fun v' H' E _=>?_;rw[qU] at E;simp only[go_sem,VA,f6,Y];refine hK v' _ H' ?_ E ?_
   ·unfold UZ;exact Lq
   ·rw[wU,← hD];congr 2;have e:val (a.drop z)/4294967296 ^ P.length=t%4294967296+4294967296*(t/4294967296+4294967296*(val (a.drop z)/4294967296 ^ P.length/(4294967296*4294967296))):=by have:=Nat.mod_add_div (val (a.drop z)/4294967296 ^ P.length) (4294967296*4294967296);rw[ε] at this;have h2:=Nat.mod_add_div t 4294967296;rw[aVF,← aWX,h2,← aVO];exact this.symm
    have:=YV Q e;rw[this];congr 2;have h2:=Nat.mod_add_div t 4294967296;omega
  simp only[aC.wp,go_sem] at fin;simp only[go_sem,p,Uc,β,ex,Ud,Y];by_cases S:z+P.length+1<a.length
  ·have u:((z+P.length+1:Nat):Int)<(a.length:Nat):=Om;have ζ:=H _ (aUQ S);have J:=bU a S;rw[aWM S] at c;generalize hy:a[z+P.length+1]=y at *
   have ey:IntKind.u64.wrap ((y:Nat):Int)=((y:Nat):Int):=bH Om;have w:shift .shl .u64 (y:Int) ((32:Nat):Int)=some (.int .u64 ((2 ^ 32*y:Nat):Int)):=NJ (by decide) Om;have X:=orI (a:=x) (b:=2 ^ 32*y) (n:=x+2 ^ 32*y) Om Om (Q8 Om Om) Om;simp only[go_sem,u,Ue,Y,J,ey,show shift .shl .u64 (y:Int) 32=_ from w,X];refine fin (x+2 ^ 32*y) _ Om ?_ rfl rfl rfl rfl rfl _ ?_
   ·rw[← N,c];simp only[val];omega
   ·intro v' O H2 U V W;refine aG (α:=List Nat × PV × PH) (P++[(x+2 ^ 32*y)/2 ^ s%4294967296],v',H2) ⟨by simp; omega,by simpa using W,V⟩ (by simp; omega) ?_ b_;simp only[aUS,aUX];exact U
  ·have u:¬ ((z+P.length+1:Nat):Int)<(a.length:Nat):=Om;rw[aYI (l:=a) (i:=z+P.length+1) Om] at c;simp only[go_sem,u];refine fin x _ Om ?_ rfl rfl rfl rfl rfl _ ?_
   ·rw[← N,c];simp only[val];omega
   ·intro v' O H2 U V W;refine aG (α:=List Nat × PV × PH) (P++[x/2 ^ s%4294967296],v',H2) ⟨by simp; omega,by simpa using W,V⟩ (by simp; omega) ?_ b_;simp only[aUS,aUX];exact U
 ·have e:z+P.length=a.length:=Om;have p:¬ ((z+P.length:Nat):Int)<(a.length:Nat):=Om;have hV:val P=val (a.drop z)/2 ^ s:=by rw[hD];refine pB (Nat.lt_of_le_of_lt (aXM _ _) ?_);have:=fG B;rw[aWR] at this;rw[show P.length=a.length-z by omega];exact this
  have Q:=L.trim _ A Om;rw[hV,← hR] at Q;simp only[go_sem,p,Eh];refine uQ Q Z rfl fun F1 H1 _=>?_;simp only[go_sem];exact aX (.inr rfl) .nil rfl a_ ⟨.refl _,rfl⟩
structure QK (C:Ctx):Prop extends gm C where
 bits:∀ xs,Lim xs→xs.length≤35184372087808→aH C 31 [aK xs] .nil (aI (.int .i64 (cM (val xs):Nat)))
 upM:∀ (a:List Nat) (n:Nat),Lim a→a.length≤8388608→n≤8388608→(a.length=0→val a=0)→aH C 45 [aK a,.int .i64 n] .nil (oF 1 (aL (aJ (val a*2 ^ n))))
 down:∀ (a:List Nat) (n:Nat),Lim a→a.length≤8388608→n≤1000000000→aH C 40 [aK a,.int .i64 n] .nil (aI (aK (aJ (val a/2 ^ n))))
def udS:Spec:=fun name vs=>match name,vs with
 | 35,[.int _ v]=>some ([],fun _=>aI (aK (aJ v.toNat)))
 | 44,[x,y]=>some ([],fun _=>aI (aK (aJ (val (jN x)*val (jN y)))))
 | 32,[x,.osl q _ _ _]=>some ([q],fun c r H'=>H'=c∧∀ xs,Lim xs→c q=some (.rows 1 (aL xs))→r=.int .i64 (dQ (val (jN x)) (val xs)))
 | _,_=>none
theorem aBQ (v:Nat):udS 35 [.int .u64 v]=some ([],fun _=>aI (aK (aJ v))):=rfl
theorem asU (x y:List Nat):udS 44 [aK x,aK y]=some ([],fun _=>aI (aK (aJ (val x*val y)))):=by
 show some ([],fun _=>aI (aK (aJ (val (jN (aK x))*val (jN (aK y))))))=_; rw[eJ,eJ]
theorem avQ (q:Nat) (x L:List Nat):(PH.nil.set q (.rows 1 (aL L)))=(PH.nil.set q (.rows 1 (aL L)))∧∀ xs,Lim xs→(PH.nil.set q (.rows 1 (aL L))) q=some (.rows 1 (aL xs))→(PV.int .i64 (dQ (val x) (val L)))=.int .i64 (dQ (val (jN (aK x))) (val xs)):=by
 refine⟨rfl,fun xs c e=>?_⟩;rw[cO] at e;have:aL L=aL xs:=(cB.rows.inj (aXC.inj e)).2;rw[TE this,eJ]
def duF (n o d:Nat) (y:List Nat) (top e c:Nat) (k:Int):PF :=
 ((((((PF.nil.set 10 (.int .i64 n)).set 11 (.osl o 1 0 d)).set 12 (aK y)).set 13 (.int .u64 top)).set 14 (.osl e 1 0 c)).set 15 (.int .i64 k))
abbrev eD (X:List Nat) (Z:List (List PV)):List (List PV):=aL X++Z
theorem OW {X:List Nat} {Z:List (List PV)} {i:Nat} (h:i<X.length):(eD X Z)[i]?=some [.int .u32 ((X[i]:Nat):Int)]:=by
 rw[eD,aXI (by rw[cD]; exact h),bU X h]
theorem Fu {X:List Nat} {Z:List (List PV)} {i:Nat} (h:i<X.length) (v:Nat):(eD X Z).set i [.int .u32 (v:Int)]=eD (X.set i v) Z:=by
 rw[eD,List.set_append_left _ _ (by rw[cD]; exact h),fP]
theorem Ft {X:List Nat} {Z:List (List PV)} {j m:Nat} (h:j+m≤X.length):((eD X Z).drop j).take m=aL ((X.drop j).take m):=by
 rw[eD,List.drop_append_of_le_length (by rw[cD]; omega),List.take_append_of_le_length (by rw[aWR,cD]; omega)];unfold aL;rw[← List.map_drop,← List.map_take]
theorem aLH {C:Ctx} (L:QK C) (n o p:Nat) (y:List Nat) (top l S j:Nat) (X:List Nat) (Z:List (List PV)) (Q:l≠o) (hy:Lim y) (hX:Lim X) (γ:X.length=p) (hl:p≤5000) (hj:j+(y.length+1)≤p) (B:0<val y)
  (Y:cB) (g0:Nat) (hg:val ((X.drop j).take (y.length+1))/val y≤g0) (O:g0<4294967296) (K:bR) (F:PF) (H:PH) (hF:((duF n o p y top l S j).set 17 (.int .u64 g0)).le F) (hH:((PH.nil.set o (.rows 1 (eD X Z))).set l Y).le H)
  (hK:∀ F' H',((duF n o p y top l S j).set 17 (.int .u64 (val ((X.drop j).take (y.length+1))/val y:Nat))).le F'→((PH.nil.set o (.rows 1 (eD X Z))).set l Y).le H'→K .normal F' H') :
  aC.wp C (.block 4 (.loop wK)) K F H:=by
 have d:¬ o=l:=fun h=>Q h.symm;have e:((X.drop j).take (y.length+1)).length=y.length+1:=by rw[aVJ,aWR]; omega
 have u:Lim ((X.drop j).take (y.length+1)):=(hX.drop _).take _;have w:=Ft (X:=X) (Z:=Z) (j:=j) (m:=y.length+1) Om;have x:j+(y.length+1)≤(eD X Z).length:=by rw[eD,aUS,cD]; omega
 have M:aL ((X.drop j).take (y.length+1))≠[]:=fun h=>by have:=congrArg List.length h;rw[cD,e] at this;simp at this
 generalize hW:(X.drop j).take (y.length+1)=W at *
 generalize A:val W/val y=J at *
 simp only[go_sem];refine wp_loop (α:=Nat) (fun g=>(duF n o p y top l S j).set 17 (.int .u64 g)) (fun _=>(PH.nil.set o (.rows 1 (eD X Z))).set l Y) (fun g=>J≤g∧g<4294967296) (fun g=>g) g0 ⟨hg,O⟩ hF hH ?_;rintro g ⟨β,hlt⟩;have e1:IntKind.i64.wrap ((j:Int)+(y.length:Int))=((j+y.length:Nat):Int):=gS Om;have e2:IntKind.i64.wrap (((j+y.length:Nat):Int)+1)=((j+y.length+1:Nat):Int):=dA Om;have b1:(j:Int)≤((j+y.length+1:Nat):Int):=Om;have b2:((j+y.length+1:Nat):Int)≤(p:Nat):=Om;have b3:j+y.length+1-j=y.length+1:=Om;have mk:=L.make g Om;have tm:=L.times y (aJ g) hy (aV _) Om (by have E:nl g≤1:=oL (by rw[Nat.pow_one]; exact hlt);rw[bB]; omega)
 rw[aT] at tm;have R:(aJ (val y*g)).length≤35184372087808:=by have E:nl g≤1:=oL (by rw[Nat.pow_one]; exact hlt);have h2:=mA (a:=val y) (b:=g) (fO hy) E;rw[bB]; omega
 have cm:=L.cmp (aJ (val y*g)) W (aV _) u R Om;rw[aT] at cm;simp only[go_sem,wK];refine bS .nil udS a_ ?_;simp only[go_sem,ZG,duF];refine bY (aBQ g) mk Sq a_ ?_;simp only[go_sem];have tS:=asU y (aJ g);rw[aT] at tS;refine bY tS tm Sq a_ ?_;simp only[go_sem,aUN,e1,e2,b1,b2,b3];refine uO (src:=aL W) ?_ ?_ (fun h=>absurd h M) fun _ o' i=>?_
 ·simp only[go_sem,d,x,w]
 ·unfold roomFor;rw[cD,e];simp only[maxLen]; omega
 refine⟨a_,?_⟩;rw[cD,e];have n1:¬ o'=l:=(jF.1 i).1;refine avZ (o:=o') (s:=1) (rs:=aL W) (vs:=[aK (aJ (val y*g)),.osl o' 1 0 (y.length+1)]) (v:=.int .i64 (dQ (val y*g) (val W))) rfl (.int _ _) Sq ?_ ?_ ?_ Sq a_ ?_
 ·rw[aVZ,aVZ,aWS,vD (by rw[cD,e]; exact aUU _),aVI (by rw[cD,e]; exact aUU _)];exact cm
 ·have:=avQ o' (aJ (val y*g)) W;rw[aT] at this;exact this
 ·rintro r H' ⟨E,h2⟩;have:=h2 W u (by rw[cO]);rw[eJ,aT] at this;exact⟨this,E⟩
 simp only[go_sem];by_cases c:val W<val y*g
 ·have N:dQ (val y*g) (val W)=1:=by unfold dQ;rw[if_neg Om,if_pos c]
  have hq:J<g:=by rw[← A]; exact (aXP B).2 (by rw[aVR]; exact c)
  have ew:IntKind.u64.wrap ((g:Int)-1)=((g-1:Nat):Int):=by rw[wrap_u64 Om Om]; omega
  simp only[go_sem,N,show (1:Int)>0 by decide,ZH,ew];refine aG (g-1) ⟨by omega,by omega⟩ Om ?_ ?_
  ·exact Lq
  ·refine e_ (e_ a_ ?_) ?_
   ·have U:¬ o=o':=fun h=>by subst h;rw[aN,if_neg d,cO] at i;cases i
    simp only[go_sem,U,d]
   ·have V:¬ l=o':=fun h=>n1 h.symm;simp only[go_sem,V]
 ·have N:¬ dQ (val y*g) (val W)>0:=by unfold dQ;rw[if_neg c];split<;>decide
  have hq:g=J:=by
   have:g≤J:=by rw[← A]; exact (Nat.le_div_iff_mul_le B).2 (by rw[aVR]; omega)
   omega
  simp only[go_sem,N];refine hK _ _ ?_ ?_
  ·unfold duF
   (repeat' (first|exact d_|refine c_ ?_ ?_))<;>first|(simp only[go_sem,← hq]<;>rfl)|rfl
  ·refine e_ (e_ a_ ?_) ?_
   ·have U:¬ o=o':=fun h=>by subst h;rw[aN,if_neg d,cO] at i;cases i
    simp only[go_sem,U,d]
   ·have V:¬ l=o':=fun h=>n1 h.symm;simp only[go_sem,V]
theorem aGI (R k:Nat) (h:k<nl R):∃ i:k<(aJ R).length,(aJ R)[k]=R/4294967296 ^ k%4294967296:=by
 have c:k<(aJ R).length:=by rw[bB]; exact h
 refine⟨c,?_⟩;have d:=vX (aV R) (Nat.le_of_lt c);rw[aT,aWM c] at d;have e:=aV R _ (aUQ c);simp only[val] at d;rw[← d,Nat.add_mul_mod_self_left,aWA e]
theorem ayG (R k:Nat) (h:nl R≤k):R/4294967296 ^ k%4294967296=0:=by
 rw[aYD ((jI R k).1 h)]
theorem aHW {A P W Z:List Nat} {i:Nat} (c:P.length=i) (hi:i<W.length) (v:Nat):(A++(P++W.drop i)++Z).set (A.length+i) v=A++((P++[v])++W.drop (i+1))++Z :=
 TE (by rw[← fP]; exact HX c hi v)
theorem aNV {C:Ctx} (n o x:Nat) (y:List Nat) (top u S j:Nat) (X:List Nat) (Z:List (List PV)) (E:u≠o) (O:X.length=x) (hl:x≤5000) (hj:j+(y.length+1)≤x)
  (U:cB) (g R:Nat) (K:bR) (F:PF) (H:PH) (hF:((((duF n o x y top u S j).set 17 (.int .u64 g)).set 18 (aK (aJ R))).set 19 (.int .i64 0)).le F) (hH:((PH.nil.set o (.rows 1 (eD X Z))).set u U).le H)
  (hK:∀ V H',((duF n o x y top u S j).set 17 (.int .u64 g)).le V→((PH.nil.set o (.rows 1 (eD (X.take j++dZ (y.length+1) R++X.drop (j+(y.length+1))) Z))).set u U).le H'→K .normal V H') :
  aC.wp C (.block 6 (.loop wL)) K F H:=by
 have l:¬ o=u:=fun h=>E h.symm;have hA:(X.take j).length=j:=by rw[aVJ]; omega
 have ε:((X.drop j).take (y.length+1)).length=y.length+1:=by rw[aVJ,aWR]; omega
 have θ:(X.drop (j+(y.length+1))).length=x-(j+(y.length+1)):=by rw[aWR,O]
 have w:X.take j++(X.drop j).take (y.length+1)++X.drop (j+(y.length+1))=X:=by rw[aVS,← List.drop_drop,aXG,aXG]
 rw[← w] at hH;generalize γ:X.take j=A at *
 generalize δ:(X.drop j).take (y.length+1)=W at *
 generalize η:X.drop (j+(y.length+1))=p at *
 simp only[go_sem];refine wp_loop (α:=List Nat) (fun P=>(((duF n o x y top u S j).set 17 (.int .u64 g)).set 18 (aK (aJ R))).set 19 (.int .i64 P.length)) (fun P=>(PH.nil.set o (.rows 1 (eD (A++(P++W.drop P.length)++p) Z))).set u U)
  (fun P=>P.length≤y.length+1∧P=dZ P.length R) (fun P=>y.length+1-P.length) [] ⟨aUT _,rfl⟩ hF (by simpa using hH) ?_
 rintro P ⟨hP,hD⟩;simp only[go_sem,wL,ZI,duF];by_cases c:P.length<y.length+1
 ·have M:(P.length:Int)≤(y.length:Nat):=Om;have Y:IntKind.i64.wrap ((j:Int)+(P.length:Int))=((j+P.length:Nat):Int):=gS Om;have β:(A++(P++W.drop P.length)++p).length=x:=by simp only[aUS,aWR]; omega
  have hi:j+P.length<(A++(P++W.drop P.length)++p).length:=Om;have b1:((j+P.length:Nat):Int)<(x:Nat):=Om;have r1:=OW (Z:=Z) hi;have s1:=Fu (Z:=Z) hi 0;have J:j+P.length<((A++(P++W.drop P.length)++p).set (j+P.length) 0).length:=by rw[aWU]; exact hi
  have d:=fun v=>aHW (A:=A) (P:=P) (W:=W) (Z:=p) (i:=P.length) rfl Om v;rw[hA] at d;generalize ζ:A++(P++W.drop P.length)++p=XX at *
  have r2:(eD (A++((P++[0])++W.drop (P.length+1))++p) Z)[j+P.length]?=some [.int .u32 ((0:Nat):Int)]:=by rw[← d 0,OW J,List.getElem_set_self]
  have s2:∀ v,(eD (A++((P++[0])++W.drop (P.length+1))++p) Z).set (j+P.length) [.int .u32 ((v:Nat):Int)]=eD (A++((P++[v])++W.drop (P.length+1))++p) Z:=by intro v;rw[← d 0,Fu J,List.set_set,d]
  have aTY:=wU P.length R;rw[← hD] at aTY;have ew:IntKind.i64.wrap ((P.length:Int)+1)=((P.length+1:Nat):Int):=dA Om;simp only[go_sem,M,ZJ,Y,b1,l,r1,show ([PV.int .u32 (0:Int)])=[PV.int .u32 ((0:Nat):Int)] from rfl,s1,ZK,bB];by_cases c2:P.length<nl R
  ·have B:(P.length:Int)<(nl R:Nat):=Om;obtain⟨N,Q⟩:=aGI R P.length c2;have hr:=bU (aJ R) N;rw[Q] at hr;simp only[go_sem,B,ZL,hr,Y,b1,l,r2,s2,List.set_set,d,GF,ew];refine aG (P++[R/4294967296 ^ P.length%4294967296]) ⟨by simp; omega,by rw[aUS,aUX]; exact aTY.symm⟩ (by simp; omega) ?_ ?_
   ·rw[aUS,aUX];exact Lq
   ·rw[aUS,aUX];refine e_ (e_ a_ ?_) ?_<;>simp only[go_sem,l,show ¬ u=o from E]
  ·have B:¬ (P.length:Int)<(nl R:Nat):=Om;have Q:=ayG R P.length Om;rw[Q] at aTY;simp only[go_sem,B,d,GF,ew];refine aG (P++[0]) ⟨by simp; omega,by rw[aUS,aUX]; exact aTY.symm⟩ (by simp; omega) ?_ ?_
   ·rw[aUS,aUX];exact Lq
   ·rw[aUS,aUX];refine e_ (e_ a_ ?_) ?_<;>simp only[go_sem,l,show ¬ u=o from E]
 ·have M:¬ (P.length:Int)≤(y.length:Nat):=Om;have e:P.length=y.length+1:=Om;simp only[go_sem,M];refine hK _ _ (by unfold duF; exact Lq) ?_;have h2:A++dZ (y.length+1) R++p=A++(P++W.drop P.length)++p:=by rw[aYI Om,aWF,← e,← hD]
  rw[h2];exact b_
theorem axS {y W:List Nat} {m:Nat} (B:Lim y) (hW:Lim W) (x:y.length=m+1) (w:W.length=m+2) (A:0<y[m]):val W/val y≤(4294967296*W[m+1]+W[m])/y[m]:=by
 have p:=cI y (Om:m<y.length);rw[aVI Om] at p;have d:=cI W (Om:m+1<W.length);rw[aVI Om,cI W (Om:m<W.length)] at d;have i:=fG (hW.take m);rw[aVJ,aWW Om] at i;have l:0<4294967296 ^ m:=aXK (by decide);have u:4294967296 ^ m*y[m]≤val y:=Om;have c:0<4294967296 ^ m*y[m]:=Nat.mul_pos l A;have e:val W=val (W.take m)+4294967296 ^ m*(4294967296*W[m+1]+W[m]):=by rw[d,aWL,aVF,aVO]; omega
 refine aWE (Nat.div_le_div_left u c) ?_;rw[← Nat.div_div_eq_div_mul,e,Nat.add_mul_div_left _ _ l,aYD i,aVH];exact aUU _
theorem asV {C:Ctx} (L:QK C) (U0 n o i d e m:Nat) (y z:List Nat) (N:e≠o) (hy:Lim y) (E:y.length=m+1) (ht:0<y[m]) (d':i=d+(m+1)) (R:i≤5000) (X:List Nat) (B:pM U0 (val y) (m+1) i d d X (aUR d 0)) (K:bR) (F:PF) (H:PH)
  (hF:(duF n o i y (y[m]) e d ((d:Int)-1)).le F) (hH:((PH.nil.set o (.rows 1 (eD X (aL z)))).set e (.rows 1 (aL (aUR d 0)))).le H)
  (hK:∀ X' Q' F' H',pM U0 (val y) (m+1) i d 0 X' Q'→(duF n o i y (y[m]) e d (-1)).le F'→((PH.nil.set o (.rows 1 (eD X' (aL z)))).set e (.rows 1 (aL Q'))).le H'→K .normal F' H') :
  aC.wp C (.block 2 (.loop wM)) K F H:=by
 have l:¬ o=e:=fun h=>N h.symm;have m':¬ e=o:=N;have hV:val y<4294967296 ^ (m+1):=by have:=fG hy; rw[E] at this; exact this
 have κ:0<val y:=by have h1:=cI y (Om:m<y.length);rw[aVI Om] at h1;have:0<4294967296 ^ m*y[m]:=Nat.mul_pos (aXK (by decide)) ht;omega
 have s':=hy _ (aUQ (Om:m<y.length));generalize htop:y[m]=top at *
 simp only[go_sem];refine wp_loop (α:=Nat × List Nat × List Nat) (fun t=>duF n o i y top e d ((t.1:Int)-1)) (fun t=>(PH.nil.set o (.rows 1 (eD t.2.1 (aL z)))).set e (.rows 1 (aL t.2.2)))
  (fun t=>t.1≤d∧pM U0 (val y) (m+1) i d t.1 t.2.1 t.2.2) (fun t=>t.1) (d,X,aUR d 0) ⟨aUU _,B⟩ hF hH ?_
 rintro⟨k,X,Q⟩ ⟨hk,B⟩;simp only at hk B;simp only[go_sem,wM,ZB,duF];by_cases h0:0<k
 ·obtain⟨j,rfl⟩:∃ j,k=j+1:=⟨k-1,by omega⟩;have hz:((j+1:Nat):Int)-1=(j:Int):=Om;have Ω:(j:Int)≥0:=Om;have dst:=Jx B hV Om d';rw[show m+1+1=m+2 from rfl] at dst;obtain⟨hlt,Γ⟩:=dst;have μ:=B.lu';have n':=B.lq';have M:((X.drop j).take (m+2)).length=m+2:=by rw[aVJ,aWR]; omega
  have Y:Lim ((X.drop j).take (m+2)):=(B.limU.drop _).take _;have q':m+1<((X.drop j).take (m+2)).length:=Om;have p':m<((X.drop j).take (m+2)).length:=Om;have a1:j+(m+1)<X.length:=Om;have a0:j+m<X.length:=Om;have w1:((X.drop j).take (m+2))[m+1]=X[j+(m+1)]:=by simp
  have w0:((X.drop j).take (m+2))[m]=X[j+m]:=by simp
  have ξ:=axS hy Y E M (by rw[htop]; exact ht);rw[w1,w0,htop] at ξ;have r1:=OW (Z:=aL z) a1;have r0:=OW (Z:=aL z) a0;have l1:=B.limU _ (aUQ a1);have l0:=B.limU _ (aUQ a0);generalize u':X[j+(m+1)]=w at *
  generalize t':X[j+m]=A at *
  have e1:IntKind.i64.wrap ((j:Int)+(y.length:Int))=((j+(m+1):Nat):Int):=by rw[E]; exact gS Om
  have e0:IntKind.i64.wrap (((j+(m+1):Nat):Int)-1)=((j+m:Nat):Int):=by rw[wrap_i64 Om Om]; omega
  have b1:((j+(m+1):Nat):Int)<(i:Nat):=Om;have b0:((j+m:Nat):Int)<(i:Nat):=Om;have ψ:IntKind.u64.wrap ((w:Nat):Int)=((w:Nat):Int):=bH Om;have χ:IntKind.u64.wrap ((A:Nat):Int)=((A:Nat):Int):=bH Om;have ε:shift .shl .u64 (w:Int) 32=some (.int .u64 ((2 ^ 32*w:Nat):Int)):=NJ (s:=32) Om Om;have φ:(2:Nat) ^ 32=4294967296:=by decide
  have γ:=orI (a:=2 ^ 32*w) (b:=A) (n:=2 ^ 32*w+A) Om Om (Nat.two_pow_add_eq_or_of_lt Om w).symm Om;rw[φ] at ε γ;have Λ:¬ ((top:Nat):Int)=0:=Om;have σ:(4294967296*w+A)/top<18446744073709551616:=Nat.lt_of_le_of_lt (aXM _ _) Om;have δ:IntKind.u64.wrap (Int.tdiv ((4294967296*w+A:Nat):Int) ((top:Nat):Int))=(((4294967296*w+A)/top:Nat):Int):=by rw[show Int.tdiv ((4294967296*w+A:Nat):Int) ((top:Nat):Int)=(((4294967296*w+A)/top:Nat):Int) from rfl];exact bH σ
  have τ:val ((X.drop j).take (m+2))/val y<4294967296:=(aXP κ).2 (by rw[aVR]; exact hlt);have ν:=Ft (X:=X) (Z:=aL z) (j:=j) (m:=m+2) Om;have ο:j+(m+2)≤(eD X (aL z)).length:=by rw[eD,aUS,cD]; omega
  have β:val ((X.drop j).take (m+2))-val y*(val ((X.drop j).take (m+2))/val y)=val ((X.drop j).take (m+2))%val y:=by have:=aYC (val ((X.drop j).take (m+2))) (val y);omega
  have x:val y*(val ((X.drop j).take (m+2))/val y)≤val ((X.drop j).take (m+2)):=Nat.mul_div_le _ _;clear w1 w0;have gu:=fun g0=>aLH (C:=C) L n o i y top e d j X (aL z) N hy B.limU μ R Om κ (.rows 1 (aL Q)) g0;rw[E,show m+1+1=m+2 from rfl] at gu;generalize hW:(X.drop j).take (m+2)=W at *
  generalize r':val W/val y=J at *
  have Δ:aL W≠[]:=fun h=>by have:=congrArg List.length h;rw[cD,M] at this;simp at this
  have tail:∀ (g0:Nat) (F:PF) (H:PH),J≤g0→g0<4294967296→((duF n o i y top e d j).set 17 (.int .u64 g0)).le F→((PH.nil.set o (.rows 1 (eD X (aL z)))).set e (.rows 1 (aL Q))).le H →
    aC.wp C (.seq (.block 4 (.loop wK)) (.seq (.region GC) (.seq (.seq (.region GD) (.block 6 (.loop wL))) (.region GG)))) (eQ 3 (gD C (aC.wp C (.region GH)) (eY (fun (t:Nat × List Nat × List Nat)=>duF n o i y top e d ((t.1:Int)-1)) (fun t=>(PH.nil.set o (.rows 1 (eD t.2.1 (aL z)))).set e (.rows 1 (aL t.2.2))) (fun t=>t.1≤d∧pM U0 (val y) (m+1) i d t.1 t.2.1 t.2.2) (fun t=>t.1) (j+1) (eQ 2 K)))) F H:=by
   intro g0 F H hg Ψ hF hH;have gu:=gu g0 hg Ψ;simp only[go_sem] at gu;simp only[go_sem];refine gu _ F H hF hH ?_;intro S H1 p θ;have f11:S 11=some (.osl o 1 0 i):=p 11 _ (by unfold duF; simp only[go_sem]);have V:S 12=some (aK y):=p 12 _ (by unfold duF; simp only[go_sem]);have ζ:S 15=some (.int .i64 j):=p 15 _ (by unfold duF; simp only[go_sem]);have η:S 17=some (.int .u64 (J:Nat)):=p 17 _ (by unfold duF; simp only[go_sem]);have ω:S 10=some (.int .i64 n):=p 10 _ (by unfold duF; simp only[go_sem]);have f13:S 13=some (.int .u64 top):=p 13 _ (by unfold duF; simp only[go_sem]);have f14:S 14=some (.osl e 1 0 d):=p 14 _ (by unfold duF; simp only[go_sem]);have ho:H1 o=some (.rows 1 (eD X (aL z))):=θ o _ (by simp only[go_sem,l]);have ρ:H1 e=some (.rows 1 (aL Q)):=θ e _ Sq;have b3:(j:Int)≤((j+(m+1)+1:Nat):Int):=Om;have b4:((j+(m+1)+1:Nat):Int)≤(i:Nat):=Om;have b5:j+(m+1)+1-j=m+2:=Om;have e2:IntKind.i64.wrap (((j+(m+1):Nat):Int)+1)=((j+(m+1)+1:Nat):Int):=dA Om;simp only[go_sem,GC,f11,ζ,V,aUN,e1,e2,b3,b4,b5];refine uO (src:=aL W) ?_ ?_ (fun h=>absurd h Δ) fun _ o' O=>?_
   ·simp only[go_sem,ho,ο,ν]
   ·unfold roomFor;rw[cD,M];simp only[maxLen]; omega
   rw[cD,M];have n1:¬ e=o':=fun h=>by subst h; rw[ρ] at O; cases O
   have n2:¬ o=o':=fun h=>by subst h; rw[ho] at O; cases O
   have nq:nl J≤1:=oL (by rw[Nat.pow_one]; exact τ);have tm:=L.times y (aJ J) hy (aV _) Om (by rw[bB]; omega);rw[aT] at tm;have nW:=fO Y;have mn:=L.minus W (aJ (val y*J)) Y (aV _) (by rw[aT]; exact x) (by rw[bB]; exact aWE (fX x) nW) Om;rw[aT,β] at mn;have Θ:(aL W).take (m+2)=aL W:=aVI (by rw[cD]; omega);simp only[go_sem,η];refine aA (L.make J Om) Sq ?_;simp only[go_sem,V];refine aA tm Sq ?_;simp only[go_sem];refine rO (o:=o') (s:=1) (rs:=aL W) mn Sq (by simp only[go_sem,show m+2≤W.length by omega,Θ]) ?_;simp only[go_sem,GD];have Φ:(eD X (aL z)).map (fun r=>r.map (PV.dH o' 1 (aL W)))=eD X (aL z):=by
    have:eD X (aL z)=aL (X++z):=by simp[eD,aL]
    rw[this]; exact sR _ _ _ _
   have Ξ:(aL Q).map (fun r=>r.map (PV.dH o' 1 (aL W)))=aL Q:=sR _ _ _ _;have ur:=aNV (C:=C) n o i y top e d j X (aL z) N μ R Om (.rows 1 (aL Q)) J (val W%val y);rw[E,show m+1+1=m+2 from rfl] at ur;simp only[go_sem] at ur;refine ur _ _ _ ?_ ?_ ?_
   ·unfold duF
    (repeat' (first|exact d_|refine c_ ?_ ?_))<;>first|(simp only[go_sem,ω,f11,V,f13,f14,ζ,η,n1,n2]<;>rfl)|rfl
   ·refine e_ (e_ a_ ?_) ?_
    ·simp only[go_sem,l,n2,ho,cB.frz,Φ]
    ·simp only[go_sem,n1,ρ,cB.frz,Ξ]
   intro U H3 u ι;have g':U 10=some (.int .i64 n):=u 10 _ (by unfold duF; simp only[go_sem]);have h':U 11=some (.osl o 1 0 i):=u 11 _ (by unfold duF; simp only[go_sem]);have i':U 12=some (aK y):=u 12 _ (by unfold duF; simp only[go_sem]);have j':U 13=some (.int .u64 top):=u 13 _ (by unfold duF; simp only[go_sem]);have υ:U 14=some (.osl e 1 0 d):=u 14 _ (by unfold duF; simp only[go_sem]);have k':U 15=some (.int .i64 j):=u 15 _ (by unfold duF; simp only[go_sem]);have l':U 17=some (.int .u64 J):=u 17 _ (by unfold duF; simp only[go_sem]);have e':H3 o=some (.rows 1 (eD (X.take j++dZ (m+2) (val W%val y)++X.drop (j+(m+2))) (aL z))):=ι o _ (by simp only[go_sem,l]);have f':H3 e=some (.rows 1 (aL Q)):=ι e _ Sq;have b':j<Q.length:=Om;have rq:=bU Q b';have a':(j:Int)<(d:Nat):=Om;have sq:=fP Q j J;have ec:IntKind.u32.wrap ((J:Nat):Int)=((J:Nat):Int):=by rw[cL,aWA τ]
   have ej:IntKind.i64.wrap ((j:Int)-1)=(j:Int)-1:=wrap_i64 Om Om;simp only[go_sem,GG,υ,k',l',a',f',rq,ec,sq,GH,ej];refine aG (α:=Nat × List Nat × List Nat) (j,_,_) ⟨by simp only; omega,Γ⟩ (by simp only; omega) ?_ ?_
   ·unfold duF
    (repeat' (first|exact d_|refine c_ ?_ ?_))<;>first|(simp only[go_sem,g',h',i',j',υ]<;>rfl)|rfl
   ·refine e_ (e_ a_ ?_) ?_
    ·simp only[go_sem,l,e']
    ·simp only[go_sem]
  simp only[aC.wp,go_sem] at tail;simp only[go_sem,hz,Ω];refine bS .nil dT a_ ?_;simp only[go_sem,ZC,e1,e0,b1,b0,l,r1,r0,ψ,χ,ε,γ,ZD,Λ,δ,ZE];by_cases c:(4294967296*w+A)/top>4294967295
  ·have c':(((4294967296*w+A)/top:Nat):Int)>4294967295:=Om;simp only[go_sem,c',ZF];exact tail 4294967295 _ _ Om (by decide) (by unfold duF; exact Lq) b_
  ·have c':¬ (((4294967296*w+A)/top:Nat):Int)>4294967295:=Om;simp only[go_sem,c'];exact tail _ _ _ ξ Om (by unfold duF; exact Lq) b_
 ·have:k=0:=Om;subst this;have hz:¬ ((0:Nat):Int)-1≥0:=by decide
  simp only[go_sem,hz];refine hK X Q _ _ B ?_ b_;unfold duF
  (repeat' (first|exact d_|refine c_ ?_ ?_))<;>first|(simp only[go_sem,show ((0:Nat):Int)-1=-1 from rfl]<;>rfl)|rfl
def aBP (a:List Nat) (d q k r:Nat):PF:=(((((PF.nil.set 0 (aK a)).set 1 (aK [d])).set 6 (.osl q 1 0 a.length)).set 7 (.int .u64 r)).set 8 (.int .i64 ((k:Int)-1)))
theorem alX {C:Ctx} (L:QK C) (a:List Nat) (d:Nat) (ha:Lim a) (i:0<d) (hd:d<4294967296) (h1:a.length≤1000) (F:PF) (f0:F 0=some (aK a)) (f1:F 1=some (aK [d])) :
  aC.wp C (.seq (.region NY) (.seq (.region NZ) (.seq (.seq (.region OA) (.block 0 (.loop FW))) (.seq (.region FX) .ret)))) (aU [.tmp 4,.tmp 5] (bX (rD (val a) d))) F .nil:=by
 have W:(a.length:Int)*((4:Nat):Int)≤140737488355328:=Om;have X:(a.length:Int)≤9223372036854775807:=Om;have hz:aUR a.length [PV.int .u32 0]=aL (aUR a.length 0++[]):=by simp[aL]
 simp only[go_sem,NY,f0,aUN,W,X,hz];refine aO fun o ho=>?_;simp only[go_sem,NZ,OA,f0,aUN];refine wp_loop (α:=Nat × List Nat × Nat) (fun t=>aBP a d o t.1 t.2.2) (fun t=>PH.nil.set o (.rows 1 (aL (aUR t.1 0++t.2.1))))
  (fun t=>t.1+t.2.1.length=a.length∧Lim t.2.1∧t.2.2<d∧val t.2.1*d+t.2.2=val (a.drop t.1)) (fun t=>t.1) (a.length,[],0) ⟨by simp,by simp[Lim],i,by simp[val]⟩ ?_ ?_ ?_
 ·unfold aBP
  (repeat' (first|exact d_|refine c_ ?_ ?_))<;>first|(simp only[go_sem,f0,f1,wrap_i64 (Om:-9223372036854775808≤(a.length:Int)-1) (Om:(a.length:Int)-1≤9223372036854775807)]<;>rfl)|rfl
 ·exact e_ a_ Sq
 rintro⟨k,S,r⟩ ⟨hk,e,M,c⟩;simp only at hk e M c;simp only[go_sem,FW,pe,aBP];by_cases h0:0<k
 ·obtain⟨m,rfl⟩:∃ m,k=m+1:=⟨k-1,by omega⟩;have u:((m+1:Nat):Int)-1=(m:Int):=Om;have U:(m:Int)≥0:=Om;have p:m<a.length:=Om;have hlt:(m:Int)<(a.length:Nat):=Om;have β:=ha _ (aUQ p);have l:val (a.drop m)=a[m]+4294967296*val (a.drop (m+1)):=by rw[aWM p]; rfl
  have Q:=bU a p;generalize hx:a[m]=x at *
  have ex:IntKind.u64.wrap ((x:Nat):Int)=((x:Nat):Int):=bH Om;have ed:IntKind.u64.wrap ((d:Nat):Int)=((d:Nat):Int):=bH Om;have E:shift .shl .u64 (r:Int) 32=some (.int .u64 ((2 ^ 32*r:Nat):Int)):=NJ (s:=32) Om Om;have N:(2:Nat) ^ 32=4294967296:=by decide
  have w:=orI (a:=2 ^ 32*r) (b:=x) (n:=2 ^ 32*r+x) Om Om (Nat.two_pow_add_eq_or_of_lt Om r).symm Om;rw[N] at E w;have K:(4294967296*r+x)/d<4294967296:=by rw[aXP i];have:4294967296*(r+1)≤4294967296*d:=aXA _ M;omega
  have R:¬ ((d:Nat):Int)=0:=Om;have A:IntKind.u64.wrap (Int.tdiv ((4294967296*r+x:Nat):Int) ((d:Nat):Int))=(((4294967296*r+x)/d:Nat):Int):=by rw[show Int.tdiv ((4294967296*r+x:Nat):Int) ((d:Nat):Int)=(((4294967296*r+x)/d:Nat):Int) from rfl];exact bH Om
  have B:Int.tmod ((4294967296*r+x:Nat):Int) ((d:Nat):Int)=(((4294967296*r+x)%d:Nat):Int):=rfl;have Z:IntKind.u32.wrap (((4294967296*r+x)/d:Nat):Int)=(((4294967296*r+x)/d:Nat):Int):=by rw[cL,aWA K]
  have H:aUR (m+1) 0++S=aUR m 0++(0::S):=by rw[List.replicate_succ',aVS]; rfl
  have V:(aL (aUR m 0++(0::S)))[m]?=some [.int .u32 ((0:Nat):Int)]:=by rw[bU _ (by simp)]; simp
  have J:(aL (aUR m 0++(0::S))).set m [.int .u32 (((4294967296*r+x)/d:Nat):Int)]=aL (aUR m 0++(((4294967296*r+x)/d)::S)):=by rw[fP,aXO _ _ (by simp)]; simp
  simp only[go_sem,u,U,pi,E,Q,ex,w,pj,ed,R,A,Z,hlt,H,V,J,YX,B,YY];refine aG (m,((4294967296*r+x)/d)::S,(4294967296*r+x)%d) ⟨by simp only[aWH]; omega,fun y hy=>?_,aWJ _ i,?_⟩ (by simp only; omega) ?_ (e_ a_ Sq)
  ·rw[aVC] at hy;rcases hy with rfl | hy
   ·exact K
   ·exact e y hy
  ·simp only[val];rw[l,← c,aVU,aVF,aVO];have:=aYC (4294967296*r+x) d;rw[aVR d] at this;omega
  ·(repeat' (first|exact d_|refine c_ ?_ ?_))<;>first|(simp only[go_sem,wrap_i64 (Om:-9223372036854775808≤(m:Int)-1) (Om:(m:Int)-1≤9223372036854775807)]<;>rfl)|rfl
 ·have:k=0:=Om;subst this;have u:¬ ((0:Nat):Int)-1≥0:=by decide
  rw[aVY] at c;have hS:S.length=a.length:=Om;have K:val S=val a/d:=by rw[← c,aVR,Nat.mul_add_div i,aYD M,aWY]
  have Y:r=val a%d:=by rw[← c,aVR,Nat.mul_add_mod,aWA M]
  have γ:aUR 0 0++S=S:=by simp
  have hl:=L.trim S e Om;have O:(aL S).take a.length=aL S:=aVI (by rw[cD]; omega);simp only[go_sem,u,FX,List.nil_append];refine rO (o:=o) (s:=1) (rs:=aL S) hl Sq (by simp only[go_sem,O,show a.length≤S.length by omega]) ?_;simp only[go_sem];refine aA (L.make r Om) Sq ?_;simp only[go_sem];refine aX (vs:=[aK (aJ (val S)),aK (aJ r)]) (.inr rfl) .nil Ev a_ ⟨?_,rfl⟩;rw[K,Y];exact .refl _
theorem aEE {B m:Nat} (h:nl B=m+1):32*m<cM B∧cM B≤32*(m+1):=by
 refine⟨?_,(mK B (m+1)).2 Om⟩;rcases aVL (32*m) (cM B) with h1 | h1
 ·exact h1
 ·have:=(mK B m).1 h1;omega
theorem aEF {B:Nat} (h:B≠0):2 ^ (cM B-1)≤B:=by
 rcases aVL B (2 ^ (cM B-1)) with h1 | h1
 ·have c:=(mJ B _).2 h1;have d:cM B≠0:=fun e=>h (kK.1 e);omega
 ·exact h1
theorem alY {C:Ctx} (L:QK C) (A B:Nat) (hB:B≠0) (hA:nl A≤512) (Ξ:nl B≤512) :
  BH.wp C (aU we.res (bX (rD A B))) (PF.args [aK (aJ A),aK (aJ B)]) .nil:=by
 have O:=aV A;have LB:=aV B;have vA:=aT A;have vB:=aT B;have lA:(aJ A).length=nl A:=rfl;have lB:(aJ B).length=nl B:=rfl;simp only[go_sem,BH,ow,oz,we];refine aA (L.cmp _ _ O LB Om Om) rfl ?_;rw[vA,vB];by_cases c1:A<B
 ·have hc:dQ A B<0:=by simp[dQ,c1]
  simp only[go_sem,hc,o9];refine aA (L.trim _ O Om) rfl ?_;rw[vA];simp only[go_sem];refine aX (vs:=[.aB,aK (aJ A)]) (.inr rfl) .nil rfl a_ ⟨?_,rfl⟩;rw[rD,aYD c1,aWA c1,fR];exact CoL.tup (CoL.cons (.nil 1) (CoL.cons (.refl _) .nil))
 have hc:¬ dQ A B<0:=by unfold dQ;rw[if_neg c1];split<;>decide
 have ρ:0<B:=aXB hB;have c':nl B≠0:=fun h=>hB (iY.1 h);simp only[go_sem,hc,pd,aUN,lB];by_cases c2:nl B=1
 ·have R:B<4294967296:=by have:=(jI B 1).1 Om; simpa using this
  have χ:aJ B=[B]:=oW hB R;have sh:=alX (C:=C) L (aJ A) B O ρ R Om;rw[vA] at sh;simp only[aC.wp,go_sem] at sh;simp only[go_sem,bP (Om:((nl B:Nat):Int)=1)];exact sh _ rfl (by simp only[go_sem,χ])
 obtain⟨m,hm⟩:∃ m,nl B=m+1:=⟨nl B-1,by omega⟩;have b':1≤m:=Om;obtain⟨Ω,α⟩:=aEE hm;obtain⟨n,hn⟩:∃ n,n+cM B=32*(m+1):=⟨32*(m+1)-cM B,by omega⟩;have γ:n<32:=Om;have J:0<2 ^ n:=aXK (by decide);have U:B<2 ^ cM B:=(mJ B _).1 (aUU _);have S:=aEF hB;have W:B*2 ^ n<4294967296 ^ (m+1):=by have:B*2 ^ n<2 ^ cM B*2 ^ n:=Nat.mul_lt_mul_of_pos_right U J;rw[← Nat.pow_add,show cM B+n=32*(m+1) by omega,Nat.pow_mul] at this;exact this
 have Θ:4294967296 ^ m*2147483648≤B*2 ^ n:=by have:2 ^ (cM B-1)*2 ^ n≤B*2 ^ n:=aVV _ S;rw[← Nat.pow_add,show cM B-1+n=32*m+31 by omega,Nat.pow_add,Nat.pow_mul] at this;exact this
 have nV:nl (B*2 ^ n)=m+1:=by
  have y:=(jI (B*2 ^ n) (m+1)).2 W;rcases aVL (nl (B*2 ^ n)) (m+1) with h | h
  ·have:=(jI (B*2 ^ n) m).1 Om;have ω:0<4294967296 ^ m:=aXK (by decide);omega
  ·omega
 have Ψ:B*2 ^ n≠0:=Nat.mul_ne_zero hB Om;have e':nl (A*2 ^ n)≤nl A+1:=mA (aUU _) (oL (by rw[Nat.pow_one]; exact Nat.pow_lt_pow_right (a:=2) (m:=n) (n:=32) (by decide) γ));have υ:B*2 ^ n≤A*2 ^ n:=aVV _ Om;have f':m+1≤nl (A*2 ^ n):=by rw[← nV]; exact fX υ
 have Φ:A*2 ^ n≠0:=Om;have ι:IntKind.i64.wrap (32*((nl B:Nat):Int))=((32*(m+1):Nat):Int):=by rw[wrap_i64 Om Om]; omega
 have en:IntKind.i64.wrap (((32*(m+1):Nat):Int)-((cM B:Nat):Int))=(n:Int):=by rw[wrap_i64 Om Om]; omega
 have bt:=L.bits (aJ B) LB Om;rw[vB] at bt;have ua:=L.upM (aJ A) n O Om Om (fun h=>by have:=fG O; rw[h] at this; omega);have ub:=(L.upM (aJ B) n LB Om Om (fun h=>by have:=fG LB; rw[h] at this; omega)).freeze;rw[vA] at ua;rw[vB] at ub;have tail:∀ (o:Nat) (F:PF) (H:PH),F 0=some (aK (aJ A))→F 1=some (aK (aJ B))→F 10=some (.int .i64 n)→F 11=some (.osl o 1 0 (nl (A*2 ^ n)+2))→F 12=some (aK (aJ (B*2 ^ n)))→H o=some (.rows 1 (aL (aJ (A*2 ^ n))++[[.int .u32 0],[.int .u32 0]])) →
   aC.wp C (.seq (.region FY) (.seq (.region FZ) (.seq (.region GA) (.seq (.seq (.region GB) (.block 2 (.loop wM))) (.seq (.region GI) .ret))))) (aU [.tmp 4,.tmp 5] (bX (rD A B))) F H:=by
  intro o F H f0 f1 κ f11 μ hH;have LU:=aV (A*2 ^ n);have LV:=aV (B*2 ^ n);have vU:=aT (A*2 ^ n);have vV:=aT (B*2 ^ n);have lU:(aJ (A*2 ^ n)).length=nl (A*2 ^ n):=rfl;have lV:(aJ (B*2 ^ n)).length=m+1:=nV;have eu:IntKind.i64.wrap (((nl (A*2 ^ n):Nat):Int)+1)=((nl (A*2 ^ n)+1:Nat):Int):=dA Om;have b1:((nl (A*2 ^ n)+1:Nat):Int)≤((nl (A*2 ^ n)+2:Nat):Int):=Om;simp only[go_sem,FY,f11,f0,κ];refine aA ua.freeze rfl ?_;obtain⟨c,a'⟩:∃ c,nl (A*2 ^ n)+1-(m+1)=c:=⟨_,rfl⟩;have ψ:nl (A*2 ^ n)+1=c+(m+1):=Om;have em:IntKind.i64.wrap (((m+1:Nat):Int)-1)=((m:Nat):Int):=by rw[wrap_i64 Om Om]; omega
  have l:m<(aJ (B*2 ^ n)).length:=Om;have rm:=bU (aJ (B*2 ^ n)) l;have tl:=LV _ (aUQ l);have htop:0<(aJ (B*2 ^ n))[m]:=by
   have y:=cI (aJ (B*2 ^ n)) l;rw[aVI Om,vV] at y;have h2:=fG (LV.take m);rw[aVJ,aWW Om] at h2;have ω:0<4294967296 ^ m:=aXK (by decide);rcases aWZ (aJ (B*2 ^ n))[m] with h | h
   ·rw[h] at y; omega
   ·exact h
  have θ:2147483648≤(aJ (B*2 ^ n))[m]:=by
   have y:=cI (aJ (B*2 ^ n)) l;rw[aVI Om,vV] at y;have h2:=fG (LV.take m);rw[aVJ,aWW Om] at h2;rcases aVL (aJ (B*2 ^ n))[m] 2147483648 with h | h
   ·exfalso;have h3:4294967296 ^ m*((aJ (B*2 ^ n))[m]+1)≤4294967296 ^ m*2147483648:=aXA _ h;rw[aVF,Nat.mul_one] at h3;omega
   ·exact h
  have u:=asV (C:=C) L (A*2 ^ n) n o (nl (A*2 ^ n)+1) c;have hI:pM (A*2 ^ n) (val (aJ (B*2 ^ n))) (m+1) (nl (A*2 ^ n)+1) c c (aJ (A*2 ^ n)++[0]) (aUR c 0):=by
   refine⟨by rw[aUS,lU]; rfl,List.length_replicate,LU.app fun x N=>by simp at N; omega,xA _,?_,?_,fun i x _ N=>Vx N⟩
   ·rw[gI,vU,tA]; simp[val]
   ·have Λ:(aJ (A*2 ^ n)++[0]).length=nl (A*2 ^ n)+1:=by rw[aUS,lU]; rfl
    have Δ:val (aJ (A*2 ^ n)++[0])=A*2 ^ n:=by rw[gI,vU]; simp[val]
    rw[vX (LU.app fun x N=>by simp at N; omega) Om,Δ,vV,aXP (aXK (by decide))];have y:A*2 ^ n<4294967296 ^ nl (A*2 ^ n):=(jI _ _).1 (aUU _);have N:nl (A*2 ^ n)=m+c:=Om;rw[N,Nat.pow_add] at y;have h2:4294967296 ^ m*4294967296 ^ c≤(B*2 ^ n)*4294967296 ^ c:=aVV _ Om;omega
  have K:aL (aJ (A*2 ^ n))++[[PV.int .u32 0],[PV.int .u32 0]]=eD (aJ (A*2 ^ n)++[0]) (aL [0]):=by simp[eD,aL]
  rw[K] at hH;generalize η:(aJ (B*2 ^ n))[m]=top at *
  have et:IntKind.u64.wrap ((top:Nat):Int)=((top:Nat):Int):=bH Om;have k2:IntKind.i64.wrap (((nl (A*2 ^ n)+1:Nat):Int)-((m+1:Nat):Int))=((c:Nat):Int):=by rw[wrap_i64 Om Om]; omega
  have k3:((c:Nat):Int)*((4:Nat):Int)≤140737488355328:=Om;have k4:((c:Nat):Int)≤9223372036854775807:=Om;have hz:aUR c [PV.int .u32 0]=aL (aUR c 0):=by simp[aL]
  have jq:IntKind.i64.wrap ((c:Int)-1)=(c:Int)-1:=wrap_i64 Om Om;simp only[go_sem,aUN,lU,eu,b1,FZ,μ,lV,em,rm,et,GA,k2,k3,k4,hz];refine aO fun w ζ=>?_;have δ:w≠o:=by rintro rfl; rw[hH] at ζ; cases ζ
  have e:¬ o=w:=fun h=>δ h.symm;have p:=u w m (aJ (B*2 ^ n)) [0] δ LV lV (by rw[η]; exact htop) ψ Om _ hI;rw[η] at p;simp only[go_sem] at p;simp only[go_sem,GB,jq];refine p _ _ _ ?_ ?_ ?_
  ·unfold duF;exact Lq
  ·refine e_ (e_ a_ ?_) ?_
   ·simp only[go_sem,e,hH]
   ·simp only[go_sem]
  clear p u;intro X Q F1 H1 d E V;have ν:F1 10=some (.int .i64 n):=E 10 _ (by unfold duF; simp only[go_sem]);have ξ:F1 11=some (.osl o 1 0 (nl (A*2 ^ n)+1)):=E 11 _ (by unfold duF; simp only[go_sem]);have ο:F1 14=some (.osl w 1 0 c):=E 14 _ (by unfold duF; simp only[go_sem]);have ε:H1 o=some (.rows 1 (eD X (aL [0]))):=V o _ (by simp only[go_sem,e]);have Γ:H1 w=some (.rows 1 (aL Q)):=V w _ Sq;have hu:val X<val (aJ (B*2 ^ n)):=by have:=d.r; rwa [aVY] at this
  have M:=d.v;rw[vV] at hu M;have τ:val Q=A/B:=by
   have:A*2 ^ n/(B*2 ^ n)=val Q:=by rw[← M,Nat.add_mul_div_right _ _ Om,aYD hu,aVH]
   rw[← this,Nat.mul_div_mul_right _ _ J]
  have φ:val X/2 ^ n=A%B:=by
   have:A*2 ^ n%(B*2 ^ n)=val X:=by rw[← M,Nat.add_mul_mod_self_right,aWA hu]
   rw[← this,Nat.mul_mod_mul_right,Nat.mul_div_cancel _ J]
  have lX:=d.lu';have lQ:=d.lq';have σ:(aL Q).take c=aL Q:=aVI (by rw[cD]; omega);have Z:(eD X (aL [0])).take (nl (A*2 ^ n)+1)=aL X:=by rw[eD,List.take_append_of_le_length (by rw[cD]; omega),aVI (by rw[cD]; omega)]
  have Y:nl (A*2 ^ n)+1≤(eD X (aL [0])).length:=by rw[eD,aUS,cD]; omega
  have β:(eD X (aL [0])).map (fun r=>r.map (PV.dH w 1 (aL Q)))=eD X (aL [0]):=by
   have:eD X (aL [0])=aL (X++[0]):=by simp[eD,aL]
   rw[this]; exact sR _ _ _ _
  have nX:=fO d.limU;have t1:=L.trim Q d.limQ Om;have t2:=L.trim X d.limU Om;have dn:=L.down (aJ (val X)) n (aV _) (by rw[bB]; omega) Om;rw[aT,φ] at dn;rw[τ] at t1;generalize aL [0]=Z0 at ε Z Y β;simp only[go_sem,GI,ο];refine rO (o:=w) (s:=1) (rs:=aL Q) t1 Γ (by simp only[go_sem,σ,show c≤Q.length by omega]) ?_;simp only[go_sem,ξ,e];refine rO (o:=o) (s:=1) (rs:=eD X Z0) t2 (by simp only[go_sem,e,ε,cB.frz,β]) (by simp only[go_sem,Z,Y]) ?_;simp only[go_sem,ν];refine aA dn rfl ?_;simp only[go_sem];exact aX (vs:=[aK (aJ (A/B)),aK (aJ (A%B))]) (.inr rfl) .nil rfl a_ ⟨.refl _,rfl⟩
 simp only[aC.wp,go_sem] at tail;simp only[go_sem,bG (Om:¬ ((nl B:Nat):Int)=1),YZ,aUN,lB];refine aA bt rfl ?_;simp only[go_sem,ι,en,ZA];refine kI ua rfl a_ fun r H1 hr _=>?_;have α:(2:Nat)*1≤16777216:=by decide
 rcases hr with ⟨h0,_⟩ | ⟨o,rs,rfl,rfl,hrl,hrt⟩
 ·exfalso;have:=congrArg List.length h0;rw[cD,bB] at this;simp at this;omega
 rw[PH.nP];rw[cD,bB] at hrl hrt;simp only[go_sem,α,cD,bB];refine Vu (src:=[[.int .u32 0],[.int .u32 0]]) (rs:=rs) rfl ?_ Sq hrl ?_ fun o' d'=>?_
 ·unfold roomFor;simp only[maxLen,aWH,aXD]; omega
 ·rw[hrt];simp only[go_sem];refine aA ub rfl ?_;simp only[go_sem];exact tail o _ _ rfl rfl rfl rfl rfl Sq
 ·rw[hrt];simp only[go_sem];refine aA ub rfl ?_;simp only[go_sem];exact tail o' _ _ rfl rfl rfl rfl rfl Sq
def bK (C:Ctx) (k:Nat) (c:aZ):Prop:=∀ (args:List PV) (H:PH) (R:PV→PH→Prop),args.length≤c.ntmps→c.body.wp C (aU c.res R) (PF.args args) H→aH C k args H R
theorem bK.go {C:Ctx} {k:Nat} {c:aZ} (r:bK C k c) {args:List PV} {H:PH} {R:PV→PH→Prop} (h:c.body.wp C (aU c.res R) (PF.args args) H) (d:Nat.ble args.length c.ntmps=true):aH C k args H R:=r args H R (Nat.le_of_ble_eq_true d) h
abbrev zX (C:Ctx):Prop:=∀ n:Nat,n<100→aH C 195 [.int .i64 n] .nil (aI (.str (cC n)))
section
variable {C:Ctx} {F F':PF} {H:PH}
theorem cP (c:F.le F') {x:aQ} {v:PV} (h:x.ev F=some v):x.ev F'=some v:=by
 cases x
 ·exact c _ _ h
 all_goals exact h
theorem HH (c:F.le F'):∀ {xs:List aQ} {vs:List PV},aQ.evs F xs=some vs→aQ.evs F' xs=some vs
 | [],_,h=>h
 | x::xs,vs,h=>by
  rw[AM] at h ⊢;cases e:x.ev F with
  | none=>simp[e] at h
  | some v =>
   cases d:aQ.evs F xs with
   | none=>simp[d] at h
   | some i =>rw[e,d] at h;rw[cP c e,HH c d];exact h
theorem Kp (c:F.le F'):∀ {ps:List (Nat × Nat × aQ)} {cs ds:List PV},qK cs F ps=some ds→qK cs F' ps=some ds
 | [],_,_,h=>h
 | (i,size,x)::ps,cs,ds,h=>by
  simp only[qK] at h ⊢;cases d:x.ev F with
  | none=>simp[d] at h
  | some v =>
   rw[d] at h;rw[cP c d];simp only at h ⊢;split at h
   ·rename_i e; rw[if_pos e]; exact Kp c h
   ·cases h
theorem EC (c:F.le F') {size:Nat}:∀ {ps:List (Nat × aQ)} {cs ds:List (List PV)},hC size cs F ps=some ds→hC size cs F' ps=some ds
 | [],_,_,h=>h
 | (i,x)::ps,cs,ds,h=>by
  simp only[hC] at h ⊢;cases d:x.ev F with
  | none=>simp[d] at h
  | some v =>
   rw[d] at h;rw[cP c d];simp only at h ⊢;split at h
   ·rename_i e; rw[if_pos e]; exact EC c h
   ·cases h
theorem QQ (c:F.le F') {d n:Int} {x:Option aQ} (h:bnd F d x=some n):bnd F' d x=some n:=by
 cases x with
 | none=>exact h
 | some x =>
  simp only[bnd] at h ⊢;cases e:x.ev F with
  | none=>simp[e] at h
  | some v=>rw[cP c e,← e]; exact h
theorem Re {op:POp} {v:PV} (A:F.le F') (h:aP op F H=some v):aP op F' H=some v:=by
 cases op
 case mv x=>exact cP A h
 case pick c a b =>
  simp only[aP] at h ⊢;cases K:c.ev F with
  | none=>simp[K] at h
  | some t =>
   rw[K] at h;rw[cP A K];cases t<;>simp only at h ⊢<;>try cases h
   rename_i t;cases t
   ·simp only[aXU,if_false] at h ⊢; exact cP A h
   ·simp only[if_true] at h ⊢; exact cP A h
 case same x =>
  simp only[aP] at h ⊢;cases e:x.ev F with
  | none=>simp[e] at h
  | some a=>rw[cP A e,← e]; exact h
 case un o x =>
  simp only[aP] at h ⊢;cases e:x.ev F with
  | none=>simp[e] at h
  | some a=>rw[cP A e,← e]; exact h
 case conv k x =>
  simp only[aP] at h ⊢;cases e:x.ev F with
  | none=>simp[e] at h
  | some a=>rw[cP A e,← e]; exact h
 case aTP x =>
  simp only[aP] at h ⊢;cases e:x.ev F with
  | none=>simp[e] at h
  | some a=>rw[cP A e,← e]; exact h
 case aUF o x =>
  simp only[aP] at h ⊢;cases e:x.ev F with
  | none=>simp[e] at h
  | some a=>rw[cP A e,← e]; exact h
 case field o n x =>
  simp only[aP] at h ⊢;cases e:x.ev F with
  | none=>simp[e] at h
  | some a=>rw[cP A e,← e]; exact h
 case aUC x =>
  simp only[aP] at h ⊢;cases e:x.ev F with
  | none=>simp[e] at h
  | some a=>rw[cP A e,← e]; exact h
 case isNil n x =>
  simp only[aP] at h ⊢;cases e:x.ev F with
  | none=>simp[e] at h
  | some a=>rw[cP A e,← e]; exact h
 case lenM x =>
  simp only[aP] at h ⊢;cases e:x.ev F with
  | none=>simp[e] at h
  | some a=>rw[cP A e,← e]; exact h
 case aUM x =>
  simp only[aP] at h ⊢;cases e:x.ev F with
  | none=>simp[e] at h
  | some a=>rw[cP A e,← e]; exact h
 case extract x i =>
  simp only[aP] at h ⊢;cases e:x.ev F with
  | none=>simp[e] at h
  | some a=>rw[cP A e,← e]; exact h
 case aTQ x =>
  simp only[aP] at h ⊢;cases e:x.ev F with
  | none=>simp[e] at h
  | some a=>rw[cP A e,← e]; exact h
 case len x =>
  simp only[aP] at h ⊢;cases e:x.ev F with
  | none=>simp[e] at h
  | some a=>rw[cP A e,← e]; exact h
 case box r x =>
  cases r
  ·cases h
  simp only[aP] at h ⊢;cases e:x.ev F with
  | none=>simp[e] at h
  | some a=>rw[cP A e,← e]; exact h
 case load n p =>
  cases n
  all_goals
   simp only[aP] at h ⊢;cases e:p.ev F with
   | none=>simp[e] at h
   | some a=>rw[cP A e,← e]; exact h
 case bin o x y =>
  simp only[aP] at h ⊢;cases e:x.ev F with
  | none=>simp[e] at h
  | some a =>
   cases B:y.ev F with
   | none=>simp[e,B] at h
   | some b=>rw[cP A e,cP A B,← e,← B]; exact h
 case eqb n x y =>
  simp only[aP] at h ⊢;cases e:x.ev F with
  | none=>simp[e] at h
  | some a =>
   cases B:y.ev F with
   | none=>simp[e,B] at h
   | some b=>rw[cP A e,cP A B,← e,← B]; exact h
 case eqs n k x y =>
  simp only[aP] at h ⊢;cases e:x.ev F with
  | none=>simp[e] at h
  | some a =>
   cases B:y.ev F with
   | none=>simp[e,B] at h
   | some b=>rw[cP A e,cP A B,← e,← B]; exact h
 case aTT s x i =>
  simp only[aP] at h ⊢;cases e:x.ev F with
  | none=>simp[e] at h
  | some a =>
   cases B:i.ev F with
   | none=>simp[e,B] at h
   | some b=>rw[cP A e,cP A B,← e,← B]; exact h
 case idxA n s x i =>
  simp only[aP] at h ⊢;cases e:x.ev F with
  | none=>simp[e] at h
  | some a =>
   cases B:i.ev F with
   | none=>simp[e,B] at h
   | some b=>rw[cP A e,cP A B,← e,← B]; exact h
 case idxV n s g x i =>
  simp only[aP] at h ⊢;cases e:x.ev F with
  | none=>simp[e] at h
  | some a =>
   cases B:i.ev F with
   | none=>simp[e,B] at h
   | some b=>rw[cP A e,cP A B,← e,← B]; exact h
 case aUD x i =>
  simp only[aP] at h ⊢;cases e:x.ev F with
  | none=>simp[e] at h
  | some a =>
   cases B:i.ev F with
   | none=>simp[e,B] at h
   | some b=>rw[cP A e,cP A B,← e,← B]; exact h
 case aTX m x y =>
  simp only[aP] at h ⊢;cases e:x.ev F with
  | none=>simp[e] at h
  | some a =>
   cases B:y.ev F with
   | none=>simp[e,B] at h
   | some b=>rw[cP A e,cP A B,← e,← B]; exact h
 case lookup sh z x k ok =>
  simp only[aP] at h ⊢;cases e:x.ev F with
  | none=>simp[e] at h
  | some a =>
   cases B:k.ev F with
   | none=>simp[e,B] at h
   | some b=>rw[cP A e,cP A B,← e,← B]; exact h
 case build z ps =>simp only[aP,aUZ] at h ⊢;obtain⟨cs,E,J⟩:=h;exact⟨cs,Kp A E,J⟩
 case aTI r s l z ps =>
  cases r
  ·cases h
  simp only[aP] at h ⊢;split at h
  ·rename_i K;rw[if_pos K];rw[aUZ] at h ⊢;obtain⟨cs,E,J⟩:=h;exact⟨cs,EC A E,J⟩
  ·cases h
 case mkfn n cs =>simp only[aP,aUZ] at h ⊢;obtain⟨vs,E,J⟩:=h;exact⟨vs,HH A E,J⟩
 case sliceA n s x lo hi mx =>
  cases lo<;>cases hi<;>cases mx<;>simp only[aP] at h ⊢<;>try cases h
  cases e:x.ev F with
  | none=>simp[e] at h
  | some a=>rw[cP A e,← e]; exact h
 case aTZ x lo hi =>
  simp only[aP] at h ⊢;cases e:x.ev F with
  | none=>simp[e] at h
  | some a =>
   rw[e] at h;rw[cP A e];cases a<;>simp only at h ⊢<;>try cases h
   cases E:bnd F 0 lo with
   | none=>simp[E] at h
   | some l =>
    rename_i s;cases J:bnd F s.length hi with
    | none=>simp[E,J] at h
    | some u=>rw[QQ A E,QQ A J,← E,← J]; exact h
 case slice s x lo hi mx =>
  simp only[aP] at h ⊢;cases e:x.ev F with
  | none=>simp[e] at h
  | some a =>
   rw[e] at h;rw[cP A e];have N:∀ (d:Int) (w:PV),(match bnd F 0 lo,bnd F d hi with
     | some a1,some a2=>match (generalizing:=false) mx with
      | none=>PV.slice s w a1 a2 none
      | some m=>(bnd F 0 (some m)).bind fun m=>PV.slice s w a1 a2 (some m)
     | _,_=>none)=some v→(match bnd F' 0 lo,bnd F' d hi with
     | some a1,some a2=>match (generalizing:=false) mx with
      | none=>PV.slice s w a1 a2 none
      | some m=>(bnd F' 0 (some m)).bind fun m=>PV.slice s w a1 a2 (some m)
     | _,_=>none)=some v:=by
    intro d w h;cases E:bnd F 0 lo with
    | none=>simp[E] at h
    | some l =>
     cases J:bnd F d hi with
     | none=>simp[E,J] at h
     | some u =>
      rw[E,J] at h;rw[QQ A E,QQ A J];cases mx with
      | none=>exact h
      | some m =>
       simp only at h ⊢;cases M:bnd F 0 (some m) with
       | none=>simp[M] at h
       | some q=>rw[QQ A M,← M]; exact h
   cases a<;>simp only at h ⊢<;>first | exact N _ _ h | cases h
 all_goals exact h
theorem Il {op:POp} {r:(Nat→PV) × cB} (d:F.le F') (h:dD op F=some r):dD op F'=some r:=by
 cases op
 case box b x =>
  cases b
  ·simp only[dD] at h ⊢;cases e:x.ev F with
   | none=>simp[e] at h
   | some a=>rw[cP d e,← e]; exact h
  ·cases h
 case aTI b s l z ps =>
  cases b
  ·simp only[dD] at h ⊢;split at h
   ·rename_i w;rw[if_pos w];rw[aUZ] at h ⊢;obtain⟨cs,p,u⟩:=h;exact⟨cs,EC d p,u⟩
   ·cases h
  ·cases h
 case aTK s b z l c =>
  simp only[dD] at h ⊢;cases e:l.ev F with
  | none=>simp[e] at h
  | some a =>
   cases i:c.ev F with
   | none=>simp[e,i] at h
   | some b=>rw[cP d e,cP d i,← e,← i]; exact h
 all_goals exact h
theorem Vw {op:POp} {K:PV→PH→Prop} (d:F.le F') (h:cE op F H K):cE op F' H K:=by
 cases op
 case store n x y =>
  simp only[cE] at h ⊢;cases e:x.ev F with
  | none=>simp[e] at h
  | some a =>
   cases i:y.ev F with
   | none=>simp[e,i] at h
   | some b=>rw[cP d e,cP d i]; rw[e,i] at h; exact h
 case append s b x y =>
  simp only[cE] at h ⊢;cases e:x.ev F with
  | none=>simp[e] at h
  | some a =>
   cases i:y.ev F with
   | none=>simp[e,i] at h
   | some b=>rw[cP d e,cP d i]; rw[e,i] at h; exact h
 case aTU sh x y z =>
  simp only[cE] at h ⊢;cases e:x.ev F with
  | none=>simp[e] at h
  | some a =>
   cases i:y.ev F with
   | none=>simp[e,i] at h
   | some b =>
    cases l:z.ev F with
    | none=>simp[e,i,l] at h
    | some c=>rw[cP d e,cP d i,cP d l]; rw[e,i,l] at h; exact h
 case insert sh x y z =>
  simp only[cE] at h ⊢;cases e:x.ev F with
  | none=>simp[e] at h
  | some a =>
   cases i:y.ev F with
   | none=>simp[e,i] at h
   | some b =>
    cases l:z.ev F with
    | none=>simp[e,i,l] at h
    | some c=>rw[cP d e,cP d i,cP d l]; rw[e,i,l] at h; exact h
 all_goals exact h
theorem PF.aLC (c:F.le F') (i:Nat) (v:PV):(F.set i v).le (F'.set i v):=by
 intro j u h;rw[kY] at h ⊢;split at h
 ·rename_i e; rw[if_pos e]; exact h
 ·rename_i e; rw[if_neg e]; exact c j u h
theorem PF.uD (c:F.le F') (d:Option Nat) (v:PV):(F.put d v).le (F'.put d v):=by
 cases d with
 | none=>exact c
 | some d=>exact PF.aLC c d v
theorem PF.aKE (c:F.le F') (o s:Nat) (rs:List (List PV)):(F.frz o s rs).le (F'.frz o s rs):=by
 intro j u h;rw[rL,aUZ] at h ⊢;obtain⟨x,d,e⟩:=h;exact⟨x,c j x d,e⟩
theorem PF.le_trans {A B D:PF} (h:A.le B) (k:B.le D):A.le D:=fun i v hi=>k i v (h i v hi)
theorem jM.up {e:PF} {i:PH} (h:jM F H e i):∀ {F':PF},F.le F'→∃ c,jM F' H c i∧e.le c:=by
 induction h with
 | refl F H=>exact fun {F'} d=>⟨F',.refl _ _,d⟩
 | step o u _ w =>intro F' d;obtain⟨c,l,p⟩:=w (PF.aKE d o _ _);exact⟨c,.step o u l,p⟩
theorem gt {name:Nat} {args:Option (List PV)} {d:Option Nat} {K1 K2:PF→PH→Prop} (x:∀ F F' H,F.le F'→K1 F H→K2 F' H) (e:F.le F') {c:Option (List PV)} (y:∀ vs,args=some vs→c=some vs) (h:tC C name args d K1 F H):tC C name c d K2 F' H:=by
 obtain⟨vs,i,R,l,p,u,w⟩:=h;exact⟨vs,i,R,y _ l,p,u,fun r H' a b=>x _ _ _ (PF.uD e d r) (w r H' a b)⟩
theorem Ob {cs:List PV} {args:List aQ} (c:F.le F') (vs:List PV) (h:(aQ.evs F args).map (·++cs)=some vs):(aQ.evs F' args).map (·++cs)=some vs:=by
 rw[aUZ] at h ⊢;obtain⟨x,d,e⟩:=h;exact⟨x,HH c d,e⟩
theorem X0 {name:Nat} {args:List aQ} {cs:List PV} {d:Option Nat} {K1 K2:PF→PH→Prop} (i:∀ F F' H,F.le F'→K1 F H→K2 F' H) (c:F.le F') (h:iU C name args cs d K1 F H):iU C name args cs d K2 F' H:=by
 rcases h with h | ⟨F1,H1,h1,h2⟩
 ·exact .inl (gt i c (Ob c) h)
 ·obtain⟨e,k1,k2⟩:=h1.up c;exact .inr ⟨e,H1,k1,gt i k2 (Ob k2) h2⟩
theorem TA {op:POp} {d:Option Nat} {K1 K2:PF→PH→Prop} (l:∀ F F' H,F.le F'→K1 F H→K2 F' H) (c:F.le F') (h:nA (dD op F) d K1 F H):nA (dD op F') d K2 F' H:=by
 obtain⟨u,x,e,i⟩:=h;exact⟨u,x,Il c e,fun o p=>l _ _ _ (PF.uD c d _) (i o p)⟩
theorem tf {op:POp} {d:Option Nat} {K1 K2:PF→PH→Prop} (l:∀ F F' H,F.le F'→K1 F H→K2 F' H) (c:F.le F') (h:bW (aP op F H) d K1 F H):bW (aP op F' H) d K2 F' H:=by
 obtain⟨v,e,i⟩:=h;exact⟨v,Re c e,l _ _ _ (PF.uD c d v) i⟩
theorem Hm {op:POp} {d:Option Nat} {K1 K2:PF→PH→Prop} (e:∀ F F' H,F.le F'→K1 F H→K2 F' H) (c:F.le F') (h:cE op F H fun r H'=>K1 (F.put d r) H'):cE op F' H fun r H'=>K2 (F'.put d r) H' :=
 Vw c (BO (fun v H' i=>e _ _ _ (PF.uD c d v) i) h)
theorem aDS {op:POp} {d:Option Nat} {K1 K2:PF→PH→Prop} (i:∀ F F' H,F.le F'→K1 F H→K2 F' H) (e:F.le F') (h:wpOp C op d K1 F H):wpOp C op d K2 F' H:=by
 cases op
 case call n a=>exact X0 i e h
 case aUE x a =>
  have w:vY C (x.ev F) a d K1 F H:=h;show vY C (x.ev F') a d K2 F' H;cases M:x.ev F with
  | none=>rw[M] at w; exact w.elim
  | some u =>
   rw[cP e M];rw[M] at w;cases u<;>first | exact X0 i e w | exact w.elim | skip
   obtain⟨l,O,A⟩:=w;refine⟨l,O,?_⟩;rcases A with ⟨vs,E,R,A,J,K,h5⟩ | ⟨F1,H1,k1,vs,E,R,A,J,K,h5⟩
   ·exact .inl ⟨vs,E,R,HH e A,J,K,fun r H' p q=>i _ _ _ (PF.uD e d r) (h5 r H' p q)⟩
   ·obtain⟨B,k2,N⟩:=k1.up e;exact .inr ⟨B,H1,k2,vs,E,R,HH N A,J,K,fun r H' p q=>i _ _ _ (PF.uD N d r) (h5 r H' p q)⟩
 case box r x=>cases r<;>first | exact TA (op:=.box false x) i e h | exact tf (op:=.box true x) i e h
 case aTI r s l z ps=>cases r<;>first | exact TA (op:=.aTI false s l z ps) i e h | exact tf (op:=.aTI true s l z ps) i e h
 case alloc cs=>exact TA (op:=.alloc cs) i e h
 case aTK s b z l c=>exact TA (op:=.aTK s b z l c) i e h
 case aUI sh=>exact TA (op:=.aUI sh) i e h
 case store n x y=>exact Hm (op:=.store n x y) i e h
 case append s b x y=>exact Hm (op:=.append s b x y) i e h
 case aTU sh x y z=>exact Hm (op:=.aTU sh x y z) i e h
 case insert sh x y z=>exact Hm (op:=.insert sh x y z) i e h
 all_goals exact tf i e h
theorem TT {K1 K2:PF→PH→Prop} (i:∀ F F' H,F.le F'→K1 F H→K2 F' H):∀ {ops:List aS} {F F':PF} {H:PH},F.le F'→wpOps C ops K1 F H→wpOps C ops K2 F' H
 | [],_,_,_,c,h=>i _ _ _ c h
 | ⟨d,op,none⟩::rest,_,_,_,c,h=>aDS (fun _ _ _ a b=>TT i a b) c h
 | ⟨d,op,some (t,p)⟩::rest,F,F',H,c,h=>by
  rw[Xg] at h ⊢;unfold wY at h;split at h
  ·rename_i b l;rw[c t _ l];unfold wY;simp only;split at h
   ·rename_i e; rw[if_pos e]; exact aDS (fun _ _ _ a b=>TT i a b) c h
   ·rename_i e; rw[if_neg e]; exact TT i (PF.uD c d _) h
  ·rename_i l;rw[c t _ l];exact TT i (PF.uD c d _) h
  ·exact h.elim
theorem Q5 {Hs:PH} {S:Spec} {st:Bool} {op:POp} {K:PV→PH→Prop} (d:F.le F') (h:(op.kind F).run C Hs S st K H):(op.kind F').run C Hs S st K H:=by
 have new:∀ op:POp,(Kind.new (dD op F)).run C Hs S st K H→(Kind.new (dD op F')).run C Hs S st K H:=fun op h=>by obtain⟨M,x,e,i⟩:=h;exact⟨M,x,Il d e,i⟩
 have calm:∀ op:POp,(Kind.calm (aP op F)).run C Hs S st K H→(Kind.calm (aP op F')).run C Hs S st K H:=fun op h=>by obtain⟨v,e,i⟩:=h;exact⟨v,Re d e,i⟩
 have J:∀ op:POp,(Kind.write fun H K=>cE op F H K).run C Hs S st K H→(Kind.write fun H K=>cE op F' H K).run C Hs S st K H:=fun op h=>Vw (op:=op) d (show cE op F H (fun r H'=>Hs.le H'∧K r H') from h);cases op
 case call n a =>obtain⟨vs,D,R,e,i⟩:=h;exact⟨vs,D,R,HH d e,i⟩
 case aUE x a =>
  unfold POp.kind at h ⊢;simp only at h ⊢;cases p:x.ev F with
  | none=>rw[p] at h; exact h.elim
  | some u =>
   rw[p] at h;rw[cP d p];cases u<;>simp only at h ⊢<;>first | exact h | skip
   obtain⟨vs,D,R,e,i⟩:=h;exact⟨vs,D,R,Ob d _ e,i⟩
 case insert sh x k v =>
  obtain⟨o,E,B,u,g,e,i⟩:=h;refine⟨o,E,B,u,g,?_,i⟩;cases p:x.ev F with
  | none=>simp[p] at e
  | some a =>
   cases w:k.ev F with
   | none=>simp[p,w] at e
   | some b =>
    cases A:v.ev F with
    | none=>simp[p,w,A] at e
    | some c=>rw[cP d p,cP d w,cP d A]; rw[p,w,A] at e; exact e
 case box r x=>cases r<;>first | exact new (.box false x) h | exact calm (.box true x) h
 case aTI r s l z ps=>cases r<;>first | exact new (.aTI false s l z ps) h | exact calm (.aTI true s l z ps) h
 case alloc cs=>exact new (.alloc cs) h
 case aTK s b z l c=>exact new (.aTK s b z l c) h
 case aUI sh=>exact new (.aUI sh) h
 case store n x y=>exact J (.store n x y) h
 case append s b x y=>exact J (.append s b x y) h
 case aTU sh x y z=>exact J (.aTU sh x y z) h
 all_goals exact calm _ h
theorem ayB {Hs:PH} {S:Spec} {st:Bool} {i:aS} {K:PV→PH→Prop} (c:F.le F') (h:(i.kind F).run C Hs S st K H):(i.kind F').run C Hs S st K H:=by
 unfold aS.kind at h ⊢;split
 ·rename_i l;rw[l] at h;exact Q5 c h
 ·rename_i t p l;rw[l] at h;simp only at h;split at h
  ·rename_i b d;rw[c t _ d];simp only;split at h
   ·rename_i e; rw[if_pos e]; exact Q5 c h
   ·rename_i e; rw[if_neg e]; exact h
  ·rename_i d;rw[c t _ d];exact h
  ·exact h.elim
theorem auE {Hs:PH} {S:Spec} {K1 K2:PF→PH→Prop} (e:∀ F F' H,F.le F'→K1 F H→K2 F' H):∀ {ops:List (aS × Bool)} {F F':PF} {H:PH},Hs.le H→F.le F'→wpD C Hs S ops K1 F H→wpD C Hs S ops K2 F' H
 | [],_,_,_,_,c,h=>e _ _ _ c h
 | i::rest,F,F',H,u,c,h=>by have l:(i.1.kind F).run C Hs S i.2 (fun v H'=>wpD C Hs S rest K1 (F.put i.1.dst v) H') H:=h;exact ayB c (Kind.sK (sG _ _) (fun v H' d p=>auE e d (PF.uD c _ v) p) u l)
class Up (K:bR):Prop where
 up:∀ {e:mC} {F F':PF} {H:PH},F.le F'→K e F H→K e F' H
theorem rZ:∀ (c:aC) {K1 K2:bR} (_:∀ e F F' H,F.le F'→K1 e F H→K2 e F' H) {F F':PF} {H:PH},F.le F'→c.wp C K1 F H→c.wp C K2 F' H
 | .skip,_,_,i,_,_,_,d,h=>i _ _ _ _ d h
 | .region ops,_,_,i,_,_,_,d,h=>TT (i .normal) d h
 | .draw ops,_,_,i,_,_,_,d,⟨Hs,S,u,B⟩=>⟨Hs,S,u,auE (i .normal) u d B⟩
 | .seq a b,K1,K2,i,_,_,_,d,h=>rZ a (K1:=gD C (b.wp C) K1) (K2:=gD C (b.wp C) K2) (fun e F F' H p l=>by
   cases e with
   | normal=>exact rZ b i p l
   | exit id=>exact i (.exit id) _ _ _ p l
   | ret=>exact i .ret _ _ _ p l) d h
 | .cond c a b,K1,K2,i,F,F',H,d,h=>by
  rw[aCZ] at h ⊢;unfold WB at h;split at h
  ·rename_i t O;rw[cP d O];unfold WB;simp only;split at h
   ·rename_i e; rw[if_pos e]; exact rZ a i d h
   ·rename_i e; rw[if_neg e]; exact rZ b i d h
  ·exact h.elim
 | .block id c,K1,K2,i,_,_,_,d,h=>rZ c (K1:=eQ id K1) (K2:=eQ id K2) (fun e F F' H p l=>by
   cases e with
   | normal=>exact i .normal _ _ _ p l
   | exit j =>
    rw[DU] at l ⊢;split at l
    ·rename_i e; rw[if_pos e]; exact i .normal _ _ _ p l
    ·rename_i e; rw[if_neg e]; exact i (.exit j) _ _ _ p l
   | ret=>exact i .ret _ _ _ p l) d h
 | .loop c,K1,K2,i,F,F',H,d,⟨α,y,Hs,A,m,J,Z,E,u,B,K,M,h5⟩=>by
  obtain⟨w,k1,k2⟩:=u.up d;refine⟨α,y,Hs,A,m,J,w,E,k1,B,PF.le_trans K k2,M,fun a N=>?_⟩;refine rZ c (K1:=eY y Hs A m (m a) K1) (K2:=eY y Hs A m (m a) K2) (fun e F F' H p l=>?_) PF.le_refl (h5 a N);cases e with
  | normal =>obtain⟨b,F2,H2,U,V,W,X,Y⟩:=l;obtain⟨x,Q,R⟩:=U.up p;exact⟨b,x,H2,Q,V,W,PF.le_trans X R,Y⟩
  | exit id=>exact i (.exit id) _ _ _ p l
  | ret=>exact i .ret _ _ _ p l
 | .exit id,_,_,i,_,_,_,d,h=>i (.exit id) _ _ _ d h
 | .ret,_,_,i,_,_,_,d,h=>i .ret _ _ _ d h
instance Up.seq {K:bR} [Up K] (b:aC):Up (gD C (b.wp C) K) where
 up {e} {F} {F'} {H} hl hh:=by
  cases e with
  | normal=>exact rZ b (fun e F F' H a h=>Up.up a h) hl hh
  | exit id=>exact Up.up (K:=K) (e:=.exit id) hl hh
  | ret=>exact Up.up (K:=K) (e:=.ret) hl hh
instance Up.block {K:bR} [Up K] (id:Nat):Up (eQ id K) where
 up {e} {F} {F'} {H} hl hh:=by
  cases e with
  | normal=>exact Up.up (K:=K) (e:=.normal) hl hh
  | exit j =>
   rw[DU] at hh ⊢;split at hh
   ·rename_i e; rw[if_pos e]; exact Up.up (K:=K) (e:=.normal) hl hh
   ·rename_i e; rw[if_neg e]; exact Up.up (K:=K) (e:=.exit j) hl hh
  | ret=>exact Up.up (K:=K) (e:=.ret) hl hh
instance Up.loop {K:bR} [Up K] {α:Type} (d:α→PF) (Hs:α→PH) (i:α→Prop) (m:α→Nat) (n:Nat):Up (eY d Hs i m n K) where
 up {e} {F} {F'} {H} hl hh:=by
  cases e with
  | normal =>obtain⟨b,B,H2,u,w,x,y,A⟩:=hh;obtain⟨c,l,p⟩:=u.up hl;exact⟨b,c,H2,l,w,x,PF.le_trans y p,A⟩
  | exit id=>exact Up.up (K:=K) (e:=.exit id) hl hh
  | ret=>exact Up.up (K:=K) (e:=.ret) hl hh
theorem aKV {H:PH} (c:F.le F') {x:eA} {v:PV} (h:x.ev F H=some v):x.ev F' H=some v:=by
 cases x with
 | tmp t=>exact c t v h
 | cell t n =>
  cases n<;>simp only[eA.ev] at h ⊢<;>(cases d:F t with
   | none=>simp[d] at h
   | some a=>rw[c t a d,← d]; exact h)
theorem vw {H:PH} (c:F.le F'):∀ {xs:List eA} {vs:List PV},eA.evs F H xs=some vs→eA.evs F' H xs=some vs
 | [],_,h=>h
 | x::xs,vs,h=>by
  rw[kV] at h ⊢;cases e:x.ev F H with
  | none=>simp[e] at h
  | some v =>
   cases d:eA.evs F H xs with
   | none=>simp[d] at h
   | some i =>rw[e,d] at h;rw[aKV c e,vw c d];exact h
instance Up.ret (res:List eA) (R:PV→PH→Prop):Up (aU res R) where
 up {e} {F} {F'} {H} hl hh:=by
  cases e with
  | exit id=>exact hh
  | normal=>obtain⟨vs,c,d⟩:=hh; exact⟨vs,vw hl c,d⟩
  | ret=>obtain⟨vs,c,d⟩:=hh; exact⟨vs,vw hl c,d⟩
end
open Go Go.RowKit
def CA (R:PH→Prop):bR
 | .normal,_,H=>R H
 | _,_,_=>False
theorem bO.putObj {E:Env} {H:PH} {w:World} {l:Nat} {o o':Obj} (hW:bO E H w) (y:w.heap[l]?=some o) (A:∀ c t b,o≠.cells c t b) (B:H l=none):bO E H (w.putObj l o'):=by
 refine⟨fun b cs h=>?_,fun q x h=>?_,fun q n h=>?_⟩
 ·obtain⟨d,ty,u,i⟩:=hW.g b cs h;have:b≠l:=fun e=>by rw[e,y] at i; exact A _ _ _ (by injection i)
  exact⟨d,ty,u,(World.putObj_heap_other this).trans i⟩
 ·obtain⟨d,i⟩:=hW.h q x h;have:q≠l:=fun e=>by rw[e,B] at h; cases h
  exact⟨by rw[World.putObj_size]; exact d,i.mono (.refl E) (World.putObj_heap_other this)⟩
 ·obtain⟨p,ty,u,d,i⟩:=hW.s q n h;have:q≠l:=fun e=>by rw[e,y] at d; exact A _ _ _ (by injection d)
  exact⟨p,ty,u,(World.putObj_heap_other this).trans d,i⟩
theorem bO.setObj {E:Env} {H:PH} {w:World} {l:Nat} {o:Obj} {x:cB} (hW:bO E H w) (i:w.heap[l]?=some o) (A:∀ c t b,o≠.cells c t b) (B:QJ E w l x):bO E (H.set l x) w:=by
 refine⟨fun b cs h=>?_,fun q y h=>?_,hW.s⟩
 ·obtain⟨u,ty,p,d⟩:=hW.g b cs h;have:¬ b=l:=fun e=>by rw[e,i] at d; exact A _ _ _ (by injection d)
  refine⟨fun y F=>u y ?_,ty,p,d⟩
  rwa [aN,if_neg this] at F
 ·rw[aN] at h;split at h
  ·rename_i e;cases h;subst e;exact⟨(aXT.1 i).1,B⟩
  ·exact hW.h q y h
theorem auF {c:Code} {l m:Nat} {P:Program} {Q:Exit→Act→World→Prop} {d tm':Array Value} {ds:List Deferred} {w:World} (e:d=tm') (h:c.wpIn (Fz (some l)) m P Q { tmps:=tm',defers:=ds } w):c.wpIn (Fence.wide.inRound l) m P Q { tmps:=d,defers:=ds } w:=by
 subst e; exact h
section
variable {C:Ctx} {T:Tbl}
theorem Xj (V:C.P=T.P) (N:C.num=T.num) {n t l:Nat} {J K:Code} {ζ Q:aC} (h1:T.code n J=some ζ) (h2:T.code n K=some Q) (ht:t<n) {F:PF} {x:PV} {H:PH} {R:PH→Prop} (hl:H l=none)
  (Φ:ζ.wp C (gD C (Q.wp C) (CA R)) (F.set t x) H) :
  HE C l [x] (H.set l (.loop F n t J K)) (fun r H'=>r=.bool true∧∃ H2,R H2∧H2 l=none∧H'=H2.set l (.loop F n t J K)):=by
 intro E w vs hN hW Ξ;obtain⟨vl⟩:=vs;cases Ξ with
 | cons e1 e2 =>
 cases e2;rename_i v;obtain⟨hlt,rec,U,O,ε,δ,ι,κ,σ,hF⟩:=hW.h l (.loop F n t J K) (by rw[cO]);have Δ:bO E H w:=hW.weaken fun o y ho=>by
  have:¬ o=l:=fun e=>by rw[e,hl] at ho; cases ho
  rw[aN,if_neg this]; exact ho
 refine⟨rec.fn,_,rec.assign,rec.body,run_yield U (by rw[δ]; rfl),?_⟩;rw[ι,κ,δ];refine roundIn_of_wpIn (F:=Fence.wide) trivial ?_;have hA:dM [] n E (F.set t x) { tmps:=rec.tmps.setIfInBounds t v,defers:=[] }:=by
  refine⟨by simp[σ],rfl,fun i pv hi=>?_⟩;rw[kY] at hi;split at hi
  ·rename_i e;cases hi;subst e;simp only[aYG];rw[Array.getElem?_setIfInBounds_self_of_lt Om];exact e1
  ·rename_i e;simp only[aYG];rw[Array.getElem?_setIfInBounds_ne (fun h=>e h.symm),← aYG];exact hF i pv hi
 rw[V];refine auF (tm':=rec.tmps.setIfInBounds t v) (by simp) ?_;refine qH (ro:=some l) (fu:=0) V N J ζ (gD C (Q.wp C) (CA R)) _ E (F.set t x) H _ w h1 Φ hA Δ (hN.trans N) fun e E1 F1 H1 a1 B φ χ p X=>?_;cases e with
 | exit id=>exact X.elim
 | ret=>exact X.elim
 | normal =>
  have α:B.heap[l]?=some (.loop rec):=(p.block l hlt hl).trans U;have W:H1 l=none:=by
   cases hh:H1 l with
   | none=>rfl
   | some y =>
    rcases p.new l y hh with ⟨z,A⟩ | hge
    ·rw[hl] at A; cases A
    ·omega
  refine⟨_,run_beginRound α O,?_⟩;have ψ:=χ.putObj (o':=.loop { rec with state:=.busy }) α (fun _ _ _ h=>by cases h) W;have S:l<B.heap.size:=(aXT.1 α).1;have Λ:(B.putObj l (.loop { rec with state:=.busy })).heap[l]?=some (.loop { rec with state:=.busy }):=World.putObj_heap_same S;have τ:(B.putObj l (.loop { rec with state:=.busy })).heap.size=B.heap.size:=World.putObj_size;have γ:∀ b,b≠l→(B.putObj l (.loop { rec with state:=.busy })).heap[b]?=B.heap[b]?:=fun b hb=>World.putObj_heap_other hb;have ρ:(B.putObj l (.loop { rec with state:=.busy })).os=B.os:=rfl;have υ:(B.putObj l (.loop { rec with state:=.busy })).tape=B.tape:=rfl;have ο:(B.putObj l (.loop { rec with state:=.busy })).output=B.output:=rfl;generalize B.putObj l (.loop { rec with state:=.busy })=w2 at *
  refine qH (ro:=some l) (fu:=0) V N K Q (CA R) _ E1 F1 H1 a1 w2 h2 X φ ψ (p.env.num.trans (hN.trans N)) fun e2 E2 F2 H2 a2 w3 Ψ ω u Y=>?_;cases e2 with
  | exit id=>exact Y.elim
  | ret=>exact Y.elim
  | normal =>
   have β:w3.heap[l]?=some (.loop { rec with state:=.busy }):=(u.block l (by rw[τ]; exact S) W).trans Λ;have ξ:l<w3.heap.size:=(aXT.1 β).1;have θ:H2 l=none:=by
    cases hh:H2 l with
    | none=>rfl
    | some y =>
     rcases u.new l y hh with ⟨z,A⟩ | hge
     ·rw[W] at A; cases A
     ·omega
   have η:({ { rec with state:=.busy } with state:=if (none:Option Code).isNone then .ready else .done,pending:=none }:Loop)=rec:=by obtain⟨a,b,c,d,e,f,g,h⟩:=rec;simp only at O ε;subst O ε;rfl
   refine⟨_,_,run_endRound none β,?_⟩;rw[η];have Γ:=(ω.putObj (o':=.loop rec) β (fun _ _ _ h=>by cases h) θ);have ν:(w3.putObj l (.loop rec)).heap[l]?=some (.loop rec):=World.putObj_heap_same ξ;have μ:E.le E2:=p.env.trans u.env;refine⟨.bool true,.bool true,E2,H2.set l (.loop F n t J K),rfl,Γ.setObj ν (fun _ _ _ h=>by cases h) ⟨rec,ν,O,ε,δ,ι,κ,σ,fun i pv hi=>(hF i pv hi).mono μ⟩,.bool true,?_,rfl,H2,Y,θ,rfl⟩;refine⟨μ,?_,?_,?_,?_,fun b hb hn=>?_,fun o y ho=>?_,fun b cs hb=>?_⟩
   ·exact u.os.trans (ρ.trans p.os)
   ·exact u.tape.trans (υ.trans p.tape)
   ·exact u.output.trans (ο.trans p.output)
   ·have:=p.size;have:=u.size;rw[World.putObj_size];omega
   ·have Z:b≠l:=fun e=>by rw[e,cO] at hn; cases hn
    rw[aN,if_neg Z] at hn;have Θ:H1 b=none:=by
     cases hh:H1 b with
     | none=>rfl
     | some y =>
      rcases p.new b y hh with ⟨z,A⟩ | hge
      ·rw[hn] at A; cases A
      ·omega
    rw[World.putObj_heap_other Z,u.block b (by have:=p.size; omega) Θ,γ b Z,p.block b hb hn]
   ·rw[aN] at ho;split at ho
    ·rename_i e;exact .inl ⟨_,by rw[e,cO]⟩
    ·rename_i e;rcases u.new o y ho with ⟨z,A⟩ | hge
     ·rcases p.new o z A with ⟨z2,M⟩ | hge
      ·exact .inl ⟨z2,by rw[aN,if_neg e]; exact M⟩
      ·exact .inr hge
     ·have:=p.size;exact .inr Om
   ·rcases u.newG b cs hb with hg | ⟨z,A⟩ | hge
    ·rcases p.newG b cs hg with hg | ⟨z,A⟩ | hge
     ·exact .inl hg
     ·have e:¬ b=l:=fun e=>by rw[e,hl] at A; cases A
      exact .inr (.inl ⟨z,by rw[aN,if_neg e]; exact A⟩)
     ·exact .inr (.inr hge)
    ·rcases p.new b z A with ⟨z2,M⟩ | hge
     ·have e:¬ b=l:=fun e=>by rw[e,hl] at M; cases M
      exact .inr (.inl ⟨z2,by rw[aN,if_neg e]; exact M⟩)
     ·exact .inr (.inr hge)
    ·have:=p.size;exact .inr (.inr Om)
end
open Go Go.RowKit
abbrev wD (D:Nat):Deferred:={ target:=.collected D,args:=#[] }
theorem bO.alloc {E:Env} {H:PH} {w:World} (hW:bO E H w) (o:Obj):bO E H (w.alloc o):=by
 have e:(w.alloc o).heap.size=w.heap.size+1:=World.size_alloc w o;have c:∀ b,b<w.heap.size→(w.alloc o).heap[b]?=w.heap[b]?:=fun b hlt=>Below.heap_alloc w o b hlt;exact hW.same Om (fun b hlt _=>c b hlt) (fun q x d=>c q (hW.h q x d).1)
section
variable {C:Ctx} {T:Tbl} {ds:List Deferred} {fu:Nat}
theorem aKD {f:FuncId} {args:Array Value} {w:World} {P:Program} {fn:Func} (e:P.funcs[f]?=some fn) (i:fn.body.isSome=true) (d:(fn.name=="runtime.NumGoroutine")=false):(callFunc f args).run P w=.ok (.enter f args) w:=by
 have c:fn.body.isNone=false:=by cases h:fn.body<;>simp_all
 simp only[callFunc,Sem.run_bind,Sem.run_pure,Result.andThen_ok,run_program,e,d,c,aXU,if_false]
def Ht (C:Ctx) (name:Nat) (cs:List PV) (F:PF) (H:PH) (n t:Nat) (c d:Code) (e:PH→Prop):Prop :=
 ∀ l,H l=none→aH C name (xM l::cs) (H.set l (.loop F n t c d)) (fun _ H'=>∃ H2,e H2∧H2.le H'∧H2 l=none∧H' l=some (.loop F n t c d))
theorem W3 (β:C.P=T.P) (α:C.num=T.num) {n t name:Nat} {g:Operand} {pg:aQ} {A B:Code} {cs:List PV} {E:Env} {F:PF} {H:PH} {a:Act} {w:World} {KH:PH→Prop} {Q:Exit→Act→World→Prop} (hg:T.opd g=some pg) (Γ:pg.ev F=some (.fn name cs))
  (Δ:Ht C name cs F H n t A B KH) (Z:dM ds n E F a) (hW:bO E H w) (hN:E.num=T.num)
  (hT:∀ D X H2 w',dM (wD D::ds) n X F { a with defers:=wD D::a.defers }→bO X H2 w'→Ext E H w X H2 w'→w'.heap[D]?=some (.deferred (some []))→H2 D=none→w.heap.size≤D→KH H2→Q .normal { a with defers:=wD D::a.defers } w') :
  (Code.rangeFunc g #[t] A B).wpIn (Fz none) fu T.P Q a w:=by
 have r:=bD hg Γ Z hN;generalize Ψ:a.eval g=vg at r;cases r with
 | fn vc ψ ω =>
 have K:∀ o x,H o=some x→o<w.heap.size:=fun o x ho=>(hW.h o x ho).1;have nD:H w.heap.size=none:=by
  cases h:H w.heap.size with
  | none=>rfl
  | some x=>have:=K _ x h; omega
 have nl:H (w.heap.size+1)=none:=by
  cases h:H (w.heap.size+1) with
  | none=>rfl
  | some x=>have:=K _ x h; omega
 obtain⟨⟨fn,hf,S,Θ⟩,U⟩:=Δ (w.heap.size+1) nl;rw[β] at hf;refine wpIn_rangeFunc fun ξ _=>?_;obtain⟨rec,N⟩:∃ rec:Loop,rec={ state:=.ready,pending:=none,fn:=ξ,tmps:=a.tmps,params:=#[t],assign:=A,body:=B,defers:=w.heap.size }:=⟨_,rfl⟩;obtain⟨d,c⟩:∃ d,(w.alloc (.deferred (some []))).alloc (.loop rec)=d:=⟨_,rfl⟩;have κ:(w.alloc (.deferred (some []))).heap.size=w.heap.size+1:=World.size_alloc _ _;have a':d.heap.size=w.heap.size+2:=by rw[← c,World.size_alloc,κ]
 have θ:∀ b,b<w.heap.size→d.heap[b]?=w.heap[b]?:=fun b S=>by rw[← c];exact (Below.heap_alloc _ _ b Om).trans (Below.heap_alloc _ _ b S)
 have ρ:d.heap[w.heap.size]?=some (.deferred (some [])):=by rw[← c];exact (Below.heap_alloc _ _ _ Om).trans (World.alloc_heap_new w _)
 have ζ:d.heap[w.heap.size+1]?=some (.loop rec):=by
  rw[← c];have:=World.alloc_heap_new (w.alloc (.deferred (some []))) (.loop rec)
  rwa [κ] at this
 have φ:bO E H d:=by rw[← c]; exact (hW.alloc _).alloc _
 have χ:bO E (H.set (w.heap.size+1) (.loop F n t A B)) d:=φ.setObj ζ (fun _ _ _ h=>by cases h) (by subst N;exact⟨_,ζ,rfl,rfl,rfl,rfl,rfl,Z.size,Z.t⟩);have Ξ:d.os=w.os:=by rw[← c]; rfl
 have Φ:d.tape=w.tape:=by rw[← c]; rfl
 have Λ:d.output=w.output:=by rw[← c]; rfl
 have M:C.num name=E.num name:=by rw[α,hN]
 refine⟨w.heap.size+1,[wD w.heap.size],d,{ target:=.fn (.func (E.num name)) vc,args:=#[.func (.yield (w.heap.size+1)) #[] #[]] },d,E.num name,#[Value.func (.yield (w.heap.size+1)) #[] #[]]++vc,d,?_,?_,?_,?_,?_,?_⟩
 ·rw[← c,N];exact run_enterLoop_outer _ _ _ _ _
 ·simp only[resolve,Ψ];simp[go_sem]
 ·exact fun _ _=>trivial
 ·simp only[invoke];exact aKD (by rw[← M]; exact hf) S Θ
 ·intro h; cases h
 ·have R:eO E (xM (w.heap.size+1)::cs) (#[Value.func (.yield (w.heap.size+1)) #[] #[]]++vc).toList:=by rw[Array.toList_append];exact .cons (.lit _) (eO.aDR (by simpa using ψ) fun j p u hp hu=>ω j p u hp (by simpa using hu))
  have hc:=U E d _ (hN.trans α.symm) χ R;rw[β,M] at hc;refine Fz.calls (hc.mono fun e w3 he=>?_);obtain⟨v,pv,X,H',rfl,ε,hr,l,H2,υ,V,J,τ⟩:=he;obtain⟨Ω,ν,η,μ,ι,-⟩:=ε.h _ _ τ;have W:w.heap.size≠w.heap.size+1:=Om;have σ:w3.heap[w.heap.size]?=some (.deferred (some [])):=(l.block _ Om (by rw[aN,if_neg W]; exact nD)).trans ρ;have δ:H' w.heap.size=none:=by
   cases hh:H' w.heap.size with
   | none=>rfl
   | some y =>
    rcases l.new _ y hh with ⟨z,O⟩ | hge
    ·rw[aN,if_neg W,nD] at O; cases O
    ·omega
  have γ:H2 w.heap.size=none:=by
   cases hh:H2 w.heap.size with
   | none=>rfl
   | some y=>rw[V _ y hh] at δ; cases δ
  refine⟨ν.pending,_,run_endLoop η (by rw[μ]; exact fun h=>by cases h),?_⟩;rw[ι];simp only;have ο:dM (wD w.heap.size::ds) n X F { a with defers:=wD w.heap.size::a.defers }:=⟨Z.size,by simp only; rw[Z.defers],fun i pv hi=>(Z.t i pv hi).mono l.env⟩;refine hT w.heap.size X H2 _ ο ((ε.weaken V).putObj η (fun _ _ _ h=>by cases h) J) ?_ ((World.putObj_heap_other W).trans σ) γ (aUU _) υ;refine⟨l.env,l.os.trans Ξ,l.tape.trans Φ,l.output.trans Λ,?_,fun b S hn=>?_,fun o y ho=>?_,fun b cs S=>?_⟩
  ·have:=l.size;rw[World.putObj_size]; omega
  ·have Y:b≠w.heap.size+1:=Om;rw[World.putObj_heap_other Y,l.block b Om (by rw[aN,if_neg Y]; exact hn),θ b S]
  ·have Y:o≠w.heap.size+1:=fun e=>by rw[e,J] at ho; cases ho
   rcases l.new o y (V o y ho) with ⟨z,O⟩ | hge
   ·rw[aN,if_neg Y] at O;exact .inl ⟨z,O⟩
   ·exact .inr Om
  ·rcases l.newG b cs S with h | ⟨z,O⟩ | hge
   ·exact .inl h
   ·by_cases Y:b=w.heap.size+1
    ·exact .inr (.inr Om)
    ·rw[aN,if_neg Y] at O;exact .inr (.inl ⟨z,O⟩)
   ·exact .inr (.inr Om)
end
open Go Go.RowKit
inductive qD where
 | seq (a:aC) (t:qD)
 | range (g:aQ) (n t:Nat) (asg bdy:Code) (pas pbd rest:aC)
def qD.wp (C : Ctx) : qD → bR → PF → PH → Prop
  | .seq a t, K, F, H => a.wp C (gD C (t.wp C) K) F H
  | .range g n t asg bdy pas pbd rest, K, F, H => ∃ name cs KH, g.ev F = some (.fn name cs) ∧
      ((∀ (l : Nat) (x : PV) (J : PH) (J' : PH → Prop), J l = none → pas.wp C (gD C (pbd.wp C) (CA J')) (F.set t x) J →
        HE C l [x] (J.set l (.loop F n t asg bdy)) (fun r H' => r = .bool true ∧ ∃ H2, J' H2 ∧ H2 l = none ∧ H' = H2.set l (.loop F n t asg bdy))) → Ht C name cs F H n t asg bdy KH) ∧
      ∀ H2, KH H2 → rest.wp C K F H2
namespace Tbl
variable (T:Tbl)
def tail (n:Nat):Code→Option qD
 | .seq (.rangeFunc g ps c d) rest=>match T.opd g,T.code n c,T.code n d,T.code n rest with
  | some p,some e,some i,some u=>match ps.toList with
   | [t]=>if t<n then some (.range p n t c d e i u) else none
   | _=>none
  | _,_,_,_=>none
 | .seq (.seq a (.block _ (.rangeFunc g ps c d))) rest=>match T.code n a,T.opd g,T.code n c,T.code n d,T.code n rest with
  | some l,some p,some e,some i,some u=>match ps.toList with
   | [t]=>if t<n then some (.seq l (.range p n t c d e i u)) else none
   | _=>none
  | _,_,_,_,_=>none
 | .seq a b=>match T.code n a,tail n b with
  | some l,some w=>some (.seq l w)
  | _,_=>none
 | _=>none
end Tbl
section
variable {C:Ctx} {T:Tbl} {fu:Nat}
def AB (n:Nat) (E:Env) (H:PH) (w:World) (K:bR) (Q:Exit→Act→World→Prop):Prop :=
 ∀ ds,(ds=[]∨∃ D,ds=[wD D])→∀ e d i H' l c,dM ds n d i l→bO d H' c→Ext E H w d H' c→(∀ D,ds=[wD D]→c.heap[D]?=some (.deferred (some []))∧H' D=none∧w.heap.size≤D)→K e i H'→Q e.out l c
theorem AB.after {n:Nat} {E i:Env} {H H':PH} {w p:World} {K:bR} {Q:Exit→Act→World→Prop} (h:AB n E H w K Q) (l:Ext E H w i H' p):AB n i H' p K Q :=
 fun ds c e u x H2 a2 F y hW B d A=>h ds c e u x H2 a2 F y hW (l.trans B) (fun D hD=>⟨(d D hD).1,(d D hD).2.1,aWE l.size (d D hD).2.2⟩) A
theorem AB.plain {n:Nat} {E:Env} {H:PH} {w:World} {K:bR} {Q:Exit→Act→World→Prop} (h:AB n E H w K Q):QL [] n E H w K Q :=
 fun e c d H' i x l hW u p=>h [] (.inl rfl) e c d H' i x l hW u (fun D hD=>by cases hD) p
theorem ny (u:C.P=T.P) (p:C.num=T.num) {n t:Nat} {g:Operand} {pg:aQ} {ps:Array Tmp} {d i rest:Code} {N O pr:aC} {K:bR} {Q Q0:Exit→Act→World→Prop} {E:Env} {F:PF} {H:PH} {a:Act} {w:World} (hQ:∀ a w,rest.wpIn (Fz none) fu T.P Q a w→Q0 .normal a w)
  (h1:T.opd g=some pg) (h2:T.code n d=some N) (h3:T.code n i=some O) (h4:T.code n rest=some pr) (h5:ps.toList=[t]) (ht:t<n)
  (α:(qD.range pg n t d i N O pr).wp C K F H) (hA:dM [] n E F a) (hW:bO E H w) (hN:E.num=T.num) (hT:AB n E H w K Q) :
  (Code.rangeFunc g ps d i).wpIn (Fz none) fu T.P Q0 a w:=by
 obtain⟨name,cs,KH,k1,k2,k3⟩:=α;have Z:ps=#[t]:=by obtain⟨l⟩:=ps;simp only at h5;subst h5;rfl
 subst Z;refine W3 (ds:=[]) u p h1 k1 (k2 fun l x J J' hJ hw=>Xj u p h2 h3 ht hJ hw) hA hW hN fun D E' H2 w' R X B hD M U W=>?_;refine hQ _ w' ?_;refine qH (ro:=none) (fu:=fu) (ds:=[wD D]) u p rest pr K Q E' F H2 _ w' h4 (k3 H2 W) R X (B.env.num.trans hN) fun e E3 F3 H3 a3 w3 S Y A V=>?_;refine hT [wD D] (.inr ⟨D,rfl⟩) e E3 F3 H3 a3 w3 S Y (B.trans A) (fun D' c=>?_) V;injection c with c _
 injection c with c _
 injection c with c
 subst c;have hlt:D<w'.heap.size:=(aXT.1 hD).1;refine⟨(A.block D hlt M).trans hD,?_,U⟩;cases hh:H3 D with
 | none=>rfl
 | some y =>
  rcases A.new D y hh with ⟨z,hz⟩ | hge
  ·rw[M] at hz; cases hz
  ·omega
theorem alS (p:C.P=T.P) (l:C.num=T.num) {n:Nat}:∀ (c:Code) (t:qD) (K:bR) (Q:Exit→Act→World→Prop) (E:Env) (F:PF) (H:PH) (a:Act) (w:World),
  T.tail n c=some t→t.wp C K F H→dM [] n E F a→bO E H w→E.num=T.num→AB n E H w K Q→c.wpIn (Fz none) fu T.P Q a w:=by
 intro c
 induction c with
 | seq x y γ α =>
  intro t K Q E F H a w d J hA hW X B;unfold Tbl.tail at d;split at d
  ·rename_i g ps u A rest e;cases e;split at d
   ·rename_i pg M N pr V W Z e4;split at d
    ·rename_i t0 e5;split at d
     ·rename_i e6;cases d;exact wpIn_seq (ny p l (fun _ _ h=>h) V W Z e4 e5 e6 J hA hW X B)
     ·cases d
    ·cases d
   ·cases d
  ·rename_i a0 β g ps u A rest e;cases e;split at d
   ·rename_i Y pg M N pr e0 V W Z e4;split at d
    ·rename_i t0 e5;split at d
     ·rename_i e6;cases d;have i:Y.wp C (gD C ((qD.range pg n t0 u A M N pr).wp C) K) F H:=J;refine wpIn_seq (wpIn_seq (qH (ro:=none) (fu:=fu) (ds:=[]) p l a0 Y (gD C ((qD.range pg n t0 u A M N pr).wp C) K) _ E F H a w e0 i hA hW X fun e O R H' S U g1 g2 g3 g4=>?_));cases e with
      | normal=>exact wpIn_block (ny p l (fun _ _ h=>h) V W Z e4 e5 e6 g4 g1 g2 (g3.env.num.trans X) (B.after g3))
      | exit id=>exact B.plain (.exit id) O R H' S U g1 g2 g3 g4
      | ret=>exact B.plain .ret O R H' S U g1 g2 g3 g4
     ·cases d
    ·cases d
   ·cases d
  ·rename_i a0 b0 _ _ e;cases e;split at d
   ·rename_i Y tb V W;cases d;have i:Y.wp C (gD C (tb.wp C) K) F H:=J;refine wpIn_seq (qH (ro:=none) (fu:=fu) (ds:=[]) p l x Y (gD C (tb.wp C) K) _ E F H a w V i hA hW X fun e O R H' S U g1 g2 g3 g4=>?_);cases e with
    | normal=>exact α tb K Q O R H' S U W g4 g1 g2 (g3.env.num.trans X) (B.after g3)
    | exit id=>exact B.plain (.exit id) O R H' S U g1 g2 g3 g4
    | ret=>exact B.plain .ret O R H' S U g1 g2 g3 g4
   ·cases d
  ·cases d
 | _=>intro t K Q E F H a w d; simp[Tbl.tail] at d
end
structure zZ where
 nparams:Nat
 ntmps:Nat
 body:qD
 res:List eA
namespace Tbl
variable (T:Tbl)
def aiQ (fn:Func):Option zZ :=
 match fn.body with
 | some c=>match T.tail fn.ntmps c,T.vu fn.results.toList with
  | some b,some rs=>some ⟨fn.params.size,fn.ntmps,b,rs⟩
  | _,_=>none
 | none=>none
end Tbl
theorem aiB {C:Ctx} {T:Tbl} {H:PH} (J:C.P=T.P) (F:C.num=T.num) {name:Nat} {args:List PV} {R:PV→PH→Prop} {fn:Func} {Y:zZ} (hf:C.P.funcs[C.num name]?=some fn) (δ:(fn.name=="runtime.NumGoroutine")=false)
  (d:T.aiQ fn=some Y) (O:args.length≤Y.ntmps) (h:Y.body.wp C (aU Y.res R) (PF.args args) H):aH C name args H R:=by
 unfold Tbl.aiQ at d;split at d
 ·rename_i c X;split at d
  ·rename_i b rs x A;cases d;refine⟨⟨fn,hf,by simp[X],δ⟩,fun E w vs hN hW U=>?_⟩;have η:vs.size=args.length:=by simpa using U.len
   refine (callsIn_wide (n:=0)).1 (callsIn_of_wp_marks hf X trivial ?_ rfl);rw[J];have hA:dM [] fn.ntmps E (PF.args args) { tmps:=vs++aWO (fn.ntmps-vs.size) undef,defers:=[] }:=by
    refine⟨by simp only at O; simp; omega,rfl,fun i pv hi=>?_⟩;have y:i<vs.size:=by
     rw[η];rcases aVL i args.length with h' | h'
     ·exact h'
     ·simp[PF.args,aWG h'] at hi
    simp only[aYG];rw[Array.getElem?_append_left y,aXY y];exact U.at_ i pv _ hi (by simp[y])
   refine alS (fu:=0) J F c b (aU rs R) _ E (PF.args args) H _ w x h hA hW (hN.trans F) fun ds β e l F' H' W u B K p hm hK=>?_;have fin:∀ Z,bO l H' Z→Ext E H w l H' Z→aU rs R .ret F' H'→LeavesIn Fence.wide 0 T.P fn W.tmps (fun e u=>∃ v pv l H',e=.returned v∧bO l H' u∧aY l pv v∧Ext E H w l H' u∧R pv H') [] .returning Z:=by
    rintro Z M α ⟨θ,Q,F1,H1,H2,γ,N,v0,ζ,hR⟩;obtain⟨us,g1,g2⟩:=MY B M fn.results.toList rs θ A Q;have ε:=nu g2;obtain⟨E2,k1,k2,k3⟩:=γ.sound M;have S:=k3 (fun _=>if h:us.toArray.size=1 then us.toArray[0] else .tuple us.toArray) (fun i pv hi=>by
     simp only[PF.set,upd] at hi;split at hi
     ·cases hi; exact ε
     ·cases hi) 0 v0 ζ
    refine⟨_,?_,_,v0,E2,H2,rfl,k1.weaken N,S,(α.trans k2).drop N,hR⟩;rw[n0,Array.mapM_eq_mapM_toList];simp[g1]
   have V:aU rs R .ret F' H'→bodyPostM Fence.wide 0 T.P fn (fun e u=>∃ v pv l H',e=.returned v∧bO l H' u∧aY l pv v∧Ext E H w l H' u∧R pv H') .ret W u:=by
    intro hr;show LeavesInM Fence.wide 0 T.P fn W.tmps _ W.defers .returning u;rw[B.defers];rcases β with rfl | ⟨D,rfl⟩
    ·exact fin u K p hr
    ·obtain⟨m1,m2,m3⟩:=hm D rfl;refine⟨(fun h=>by cases h),.inl ⟨D,_,rfl,run_takeDeferred m1,?_⟩⟩;refine fin _ (K.putObj m1 (fun _ _ _ h=>by cases h) m2) ⟨p.env,p.os,p.tape,p.output,?_,fun b X hn=>?_,p.new,p.newG⟩ hr
     ·rw[World.putObj_size]; exact p.size
     ·rw[World.putObj_heap_other Om]; exact p.block b X hn
   cases e with
   | normal=>exact V hK
   | exit id=>exact hK.elim
   | ret=>exact V hK
  ·cases d
 ·cases d
end Go.PM
namespace Go.PM
open Go
def gp (C:Ctx) (k:Nat) (c:zZ):Prop:=∀ (args:List PV) (H:PH) (R:PV→PH→Prop),args.length≤c.ntmps→c.body.wp C (aU c.res R) (PF.args args) H→aH C k args H R
theorem gp.go {C:Ctx} {k:Nat} {c:zZ} (r:gp C k c) {args:List PV} {H:PH} {R:PV→PH→Prop} (h:c.body.wp C (aU c.res R) (PF.args args) H) (d:Nat.ble args.length c.ntmps=true):aH C k args H R:=r args H R (Nat.le_of_ble_eq_true d) h
end Go.PM
