/-
  Texts of ours, joined: MkW15 MkW16 L11W1 R2Code R2W1 R2W2 R2W3 R2W4 R2W5 R2W6 R2W7 R2W8 Jn1 Jn2 L11P1 L11W2 L11W3 Mv1 Mv2 Mv3 Mv4 L11W4 Jn3 MkW17 MkW18 L11W5 Pm37 L11W6 L11P2 L11W7 L11W8 L11W9 L11W10 L11W11 L11W12 L11W13 Jn. No condition.
-/
import Derived.Test.YtgfeljaimmnmmaaGreatDoorAl1
import Derived.Test.YtgfeljaimmnmmaaGreatDoorAl2
import Derived.Test.YtgfeljaimmnmmaaGreatDoorAl3

set_option linter.unusedSimpArgs false
set_option linter.unusedVariables false
open Nat renaming reduceEqDiff → γ, reduceAdd → δ, reduceSub → ε, reduceMul → ζ, reduceLT → η, reduceLeDiff → θ, reduceBEq → τ
open Int renaming reduceLT → ι, reduceLE → κ, reduceEq → μ, reduceToNat → ν, reduceAdd → ξ, reduceNeg → ο, reduceBEq → ρ, reduceBNe → σ
open List renaming reduceReplicate → υ
open List renaming length_map → a7I, range → a7J, getElem_mem → a7L, replicate → a7M, length_append → a7Q, length_singleton → a7U, mem_cons → a7V, getElem?_eq_getElem → a7W, all_eq_true → a7Y, getD_eq_getElem?_getD → a8B, length_take → a8C, take_of_length_le → a8D, not_mem_nil → a8E, getElem?_map → a8H, map_append → a8I, take_length → a8K, mem_map → a8L, mem_range → a8M, getElem?_eq_some_iff → a8R, append_assoc → a8S, drop_zero → a8T, getElem_of_mem → a8U, map_cons → a8X, getElem?_eq_none → a8Z, length_cons → a9A, getElem_map → a9D, mem_append → a9E, take_succ_eq_append_getElem → a9G, append_nil → a9I, drop_eq_getElem_cons → a9J, range' → a9K, length_drop → a9L, Sublist → a9M, length_set → a9N, map_nil → a9R, length_nil → a9Y, mem_singleton → a9Z, getElem?_append_right → baA, getElem?_append_left → baB, nodup_append → baC, mem_of_getElem? → baE, set_append_right → baF, take_append_drop → baG, ext_getElem → baQ, range_succ → baU, getElem?_take → baW, drop_of_length_le → bbC, map_congr_left → bbD, set_cons_zero → bbE, length_filter_le → bbF, getElem_append_right → bbG
open Nat renaming gcd → a7K, le_refl → a7O, zero_le → a7P, mul_add → a7X, lt_or_ge → a8F, zero_add → a8G, mul_assoc → a8J, mul_comm → a8N, add_mul → a8O, mul_le_mul_right → a8P, le_trans → a8V, mod_eq_of_lt → a8W, mod_lt → a9B, pow_succ → a9F, add_zero → a9O, eq_zero_or_pos → a9S, add_assoc → a9T, min_eq_left → a9U, mul_le_mul_left → a9V, pos_of_ne_zero → a9W, pow_pos → baD, div_le_self → baH, pow_le_pow_right → baI, sub_self → baJ, div_lt_iff_lt_mul → baN, succ_mul → baO, mul_le_mul → baR, div_add_mod → baX, div_eq_of_lt → baY
open Bool renaming not_true → a7N, false_and → a7R, true_and → a7T, not_false → a7Z, and_eq_true → a8A, and_false → a8Q, and_true → a9P, and_assoc → baL, and_self → baM, false_eq_true → baT
open Option renaming map_eq_some_iff → a7S, map_some → a8Y, some → a9X, getD_some → baK, bind_eq_some_iff → baZ, bind_some → bbA
open Int renaming toNat_natCast → a9C, tdiv → a9Q
open Array renaming replicate → a9H, length_toList → baP, getElem?_eq_some_iff → baS, getElem?_eq_getElem → baV, getD_eq_getD_getElem? → bbB
namespace Go.PM
open Go Go.Na
theorem V5 {C:Ctx} (S:mA C) {l:List Nat} {v:PV} (T:Tp l v) (E:FE) (pc n a:Nat) (hn:n≤60) (β:pc≤50) (ha:a≤l.length) (ext y A B J c:PV) (x:List bS) (Q:x.length=pc) (L:List LI) (K:bR) (F:PF) (H:PH)
  (Y:(((fP E).set 18 (.int .i64 n)).set 19 (.int .i64 0)).le F) (u:aN H (E.boxes v ext y A B J c .aB a) ((c,17,lN x)::L))
  (Z:∀ p R H',(fP E).le R→aN H' (E.boxes v ext y A B J c p (eM l pc a n).2) ((c,17,lN x)::L++[(p,2,oI (eM l pc a n).1)])→K (.exit 8) R H') :
  aC.wp C (.loop IZ) K F H:=by
 refine wp_loop (α:=Nat × PV × PH) (fun t=>((fP E).set 18 (.int .i64 n)).set 19 (.int .i64 t.1)) (fun t=>t.2.2) (fun t=>t.1≤n∧aN t.2.2 (E.boxes v ext y A B J c t.2.1 (eM l pc a t.1).2) ((c,17,lN x)::L++[(t.2.1,2,oI (eM l pc a t.1).1)])) (fun t=>n-t.1) (0,.aB,H) ⟨a7P _,u.nC 2⟩ Y b_ ?_;rintro⟨i,p,W⟩ ⟨hi,u⟩;simp only at hi u ⊢;obtain⟨k1,k2⟩:=YM l pc ha i;have w:eM l pc a (i+1)=((eM l pc a i).1++[⟨[118]++bZ i,((aG l pc (eM l pc a i).2).1:Nat)⟩],(aG l pc (eM l pc a i).2).2):=rfl;simp only[go_sem,IZ,kz,fP];by_cases hlt:i<n
 ·have d:(i:Int)<(n:Nat):=Om;generalize hg:eM l pc a i=g at *
  have U:=u.set 0 rfl (bO v (aG l pc g.2).2);generalize N:aG l pc g.2=z at *
  have b1:=u.at 1 rfl;have V:=(u.own 0 rfl).sS;rw[a7I,Q] at V;have M:(PH.nil.set E.o7 (flB ext y A B J c p)).le W:=PH.aK a_ b1;simp only[go_sem,d];refine bW (PH.nil.set E.o7 (flB ext y A B J c p)) (mkS l v) M ?_;simp only[go_sem,k6];refine HI S.toqV (s:=[118]) (n:=i) (by decide) Om rfl M ?_;simp only[go_sem,V];refine rJ S.toAU T (o:=E.o) (n:=pc) (a:=g.2) Om k1 rfl (u.at 0 rfl) ?_ ?_
  ·rw[N]; exact PH.aK a_ (U.at 1 rfl)
  rw[N];have O:(1:Nat)*2≤16777216:=by decide
  simp only[go_sem,O,a7V,a8E,or_false,forall_eq,forall_eq_or_imp];refine U.append (v:=p) (s:=2) (rows:=oI g.1) (L.length+1) (src:=[(⟨[118]++bZ i,(z.1:Nat)⟩:eW).cells]) (by simp) rfl (by unfold roomFor; rw[a7I]; simp only[a7U,maxLen]; omega) fun w' H2 h5 hw=>?_;obtain⟨q,rfl⟩:=hw (by simp);rw[show ((c,17,lN x)::L++[(p,2,oI g.1)])=((c,17,lN x)::L)++[(p,2,oI g.1)] from rfl,baF _ _ (by simp),show L.length+1-((c,17,lN x)::L).length=0 by simp] at h5;have b2:=h5.at 1 rfl;refine⟨PH.aK a_ b2,?_⟩;refine bW .nil eT a_ ?_;simp only[go_sem,k7,b2,a7V,a8E,or_false,forall_eq];have X:=h5.set 1 rfl (flB ext y A B J c (.osl q 2 0 (oI g.1++[(⟨[118]++bZ i,(z.1:Nat)⟩:eW).cells]).length));refine⟨a_,?_⟩;simp only[go_sem,la,wZz i];refine aD (i+1,.osl q 2 0 (oI g.1++[(⟨[118]++bZ i,(z.1:Nat)⟩:eW).cells]).length,_) ⟨hlt,?_⟩ (by simp only; omega) ?_ b_
  ·rw[w];have e:oI (g.1++[⟨[118]++bZ i,(z.1:Nat)⟩])=oI g.1++[(⟨[118]++bZ i,(z.1:Nat)⟩:eW).cells]:=by simp[oI]
   simp only;rw[e];exact X
  ·exact Lq
 ·have d:¬ (i:Int)<(n:Nat):=Om;have:i=n:=Om;subst this;simp only[go_sem,d];exact Z p _ _ (UX rfl rfl rfl rfl rfl) u
def FB (l:List Nat) (v:PV) (o a5X a5Z a:Nat) (r:PV) (H:PH):Prop:=Co r (.agg (jF l a5X a5Z a).1.cells)∧H=PH.nil.set o (bO v (jF l a5X a5Z a).2)
structure fk (C:Ctx):Prop extends mA C where
 grow:∀ (l:List Nat) (v:PV),Tp l v→∀ (mc a5X:Nat),0<mc→mc≤1000→a5X≤60→fi C l v mc a5X 4
theorem Av {C:Ctx} (N:fk C) {l:List Nat} {v:PV} (T:Tp l v) (o a5X a5Z a:Nat) (ω:a5X≤60) (Ξ:a5Z≤50) (ha:a≤l.length) :
  CY.wp C (aV ka.res (FB l v o a5X a5Z a)) (PF.args [.ptr o 2 0 0,.int .i64 a5X,.int .i64 a5Z]) (PH.nil.set o (bO v a)):=by
 have hT:jF l a5X a5Z a=jF l a5X a5Z a:=rfl
 conv at hT=>rhs; unfold jF
 dsimp only at hT;have hR:∀ r H,FB l v o a5X a5Z a r H↔Co r (.agg (jF l a5X a5Z a).1.cells)∧H=PH.nil.set o (bO v (jF l a5X a5Z a).2):=fun _ _=>Iff.rfl;have ne:=cJ l (show 0<2 by decide) a;have ae:=bT l 2 ha;generalize he:aG l 2 a=e at *
 have Φ:=cJ l (show 0<2 by decide) e.2;have δ:=bT l 2 ae;generalize Γ:aG l 2 e.2=M at *
 obtain⟨O,β⟩:=ba l δ (1+M.1);generalize Y:hM l M.2 (1+M.1)=a6E at *
 have Ψ:=cJ l (show 0<2 by decide) a6E.2;have ε:=bT l 2 O;generalize Δ:aG l 2 a6E.2=d at *
 obtain⟨Q,V⟩:=JO l (1+M.1) ε (1+d.1);generalize S:eI l (1+M.1) d.2 (1+d.1)=a5Y at *
 have θ:GOk l a5X ⟨[mI],[],a5Y.2⟩:=⟨by simp,a7P _,Q⟩;obtain⟨hG,-⟩:=ZV (mc:=1+d.1) 4 0 θ;generalize hg:eR l (1+d.1) a5X 4 0 ⟨[mI],[],a5Y.2⟩=g at *
 have Ω:=cJ l (show 0<2 by decide) g.a;have ζ:=bT l 2 hG.a;generalize Λ:aG l 2 g.a=pl at *
 obtain⟨R,γ⟩:=zW l (1+d.1) ζ (1+pl.1);generalize Z:dU l (1+d.1) pl.2 (1+pl.1)=pols at *
 have a':=cJ l (Om:0<a5Z+1) pols.2;have ο:=bT l (a5Z+1) R;generalize ν:aG l (a5Z+1) pols.2=vo at *
 generalize α:eM l (1+pl.1) vo.2 vo.1=vols at *
 have ee:IntKind.i64.wrap (1+(e.1:Int))=((1+e.1:Nat):Int):=by rw[wrap_i64 Om Om]; omega
 have ρ:IntKind.i64.wrap (1+(M.1:Int))=((1+M.1:Nat):Int):=by rw[wrap_i64 Om Om]; omega
 have σ:IntKind.i64.wrap (1+(d.1:Int))=((1+d.1:Nat):Int):=by rw[wrap_i64 Om Om]; omega
 have τ:IntKind.i64.wrap (1+(pl.1:Int))=((1+pl.1:Nat):Int):=by rw[wrap_i64 Om Om]; omega
 have υ:IntKind.i64.wrap ((a5Z:Int)+1)=((a5Z+1:Nat):Int):=cZ Om;have h0:aN (PH.nil.set o (bO v a)) [(o,bO v a)] []:=aN.nil.new (H:=PH.nil) rfl (bO v a);simp only[go_sem,CY,Aw,ka];refine aR fun o6 ι=>?_;have i:=h0.new ι flZ;simp only[go_sem,Ax];refine dM N.toAU T (o:=o) (n:=2) (a:=a) (by decide) ha rfl (i.at 0 rfl) ?_;have u:=i.set 0 rfl (bO v e.2);rw[he];simp only[go_sem,ee];refine aR fun o7 κ=>?_;have B:=u.new κ (flB (.int .i64 (1+e.1:Nat)) .aB .aB .aB .aB .aB .aB);simp only[go_sem,Ay,a7V,a8E,or_false,forall_eq,forall_eq_or_imp];refine dM N.toAU T (o:=o) (n:=2) (a:=e.2) (by decide) ae rfl (B.at 0 rfl) ?_;have h4:=B.set 0 rfl (bO v M.2);rw[Γ];have h5:=h4.perm (B':=FE.boxes ⟨o,o6,o7,a5X,a5Z⟩ v (.int .i64 (1+e.1:Nat)) .aB .aB .aB .aB .aB .aB M.2) (L':=[]) (List.Perm.cons _ (List.Perm.swap _ _ _)) (List.Perm.refl _);obtain⟨E,c⟩:∃ E:FE,E=⟨o,o6,o7,a5X,a5Z⟩:=⟨_,rfl⟩;rw[← c] at h5;simp only[go_sem,ρ,Az];refine aGT (C:=C) N.tomA T E (1+M.1) M.2 Om δ _ _ _ _ ?_ h5 ?_
 ·rw[c];unfold fP;exact Lq
 clear h5 h4 B u i h0 ι κ;intro p F1 H1 F i;rw[Y] at i;have f0:F1 0=some (.ptr o 2 0 0):=F 0 _ (by rw[c]; unfold fP; simp only[go_sem]);have f1:F1 1=some (.int .i64 a5X):=F 1 _ (by rw[c]; unfold fP; simp only[go_sem]);have f2:F1 2=some (.int .i64 a5Z):=F 2 _ (by rw[c]; unfold fP; simp only[go_sem]);have f6:F1 6=some (.ptr o6 7 0 0):=F 6 _ (by rw[c]; unfold fP; simp only[go_sem]);have f7:F1 7=some (.ptr o7 7 0 0):=F 7 _ (by rw[c]; unfold fP; simp only[go_sem]);have W:=i.at 0 rfl;rw[c] at W;simp only[go_sem,kb,f0];refine dM N.toAU T (o:=o) (n:=2) (a:=a6E.2) (by decide) O rfl W ?_;have u:=i.set 0 rfl (bO v d.2);rw[Δ];simp only[go_sem,σ,kc];refine alN (C:=C) N.tomA T E (1+d.1) d.2 (1+M.1) Om Om ε (.int .i64 (1+e.1:Nat)) p a6E.1 β _ _ _ ?_ (by rw[c] at u ⊢; exact u) ?_
 ·rw[c];unfold fP;exact Lq
 clear W u i f0 f1 f2 f6 f7 F;intro w2 F2 H2 J f11 u;rw[S] at u;have f0:F2 0=some (.ptr o 2 0 0):=J 0 _ (by rw[c]; unfold fP; simp only[go_sem]);have f1:F2 1=some (.int .i64 a5X):=J 1 _ (by rw[c]; unfold fP; simp only[go_sem]);have f2:F2 2=some (.int .i64 a5Z):=J 2 _ (by rw[c]; unfold fP; simp only[go_sem]);have f6:F2 6=some (.ptr o6 7 0 0):=J 6 _ (by rw[c]; unfold fP; simp only[go_sem]);have f7:F2 7=some (.ptr o7 7 0 0):=J 7 _ (by rw[c]; unfold fP; simp only[go_sem]);obtain⟨qm,μ⟩:=(u.own 1 rfl).one (by rw[a7I]; omega);rw[a7I,V] at μ;subst μ;have χ:(1:Nat)*7≤16777216:=by decide
 simp only[go_sem,ki];refine aA (N.int 0 (by unfold dB; omega)) rfl ?_;simp only[go_sem,a7V,a8E,or_false,forall_eq,forall_eq_or_imp,χ];refine aR fun od Θ=>?_;have B:=u.amQ (s:=7) (rows:=jY [mI]) Θ;have b7:=u.at 1 rfl;rw[c] at b7;have n7:¬ o7=od:=by have:=B.neL 1 2 rfl rfl rfl;rw[c] at this; exact this
 simp only[go_sem,f7,b7,n7,a7V,a8E,or_false,forall_eq];have h4:=(B.set 1 rfl (flB (.int .i64 (1+e.1:Nat)) p (.osl qm 4 0 (1+d.1)) (.osl od 7 0 1) .aB .aB .aB)).nC 3;rw[c] at h4;have h5:=h4.perm (B':=(GE.mk o o7 qm (.int .i64 (1+e.1:Nat)) p .aB .aB).boxes v (1+d.1) (.osl od 7 0 1) .aB a5Y.2++[(o6,flZ)]) (L':=lL ⟨[mI],[],a5Y.2⟩ (.osl od 7 0 1) .aB++[(p,4,gZ a6E.1),(.osl qm 4 0 (1+d.1),4,jQ a5Y.1)]) (List.Perm.refl _)
  (List.perm_append_comm (l₁:=[(p,4,gZ a6E.1),(.osl qm 4 0 (1+d.1),4,jQ a5Y.1)]) (l₂:=lL ⟨[mI],[],a5Y.2⟩ (.osl od 7 0 1) .aB))
 simp only[go_sem,kj,f0,f1,f7];refine ET h5 (fun H0 ψ=>N.grow l v T (1+d.1) a5X Om Om ω (GE.mk o o7 qm (.int .i64 (1+e.1:Nat)) p .aB .aB) (.osl od 7 0 1) .aB ⟨[mI],[],a5Y.2⟩ 0 mI θ rfl rfl H0 ψ) (by simp only[go_sem,f0,f1,f7]; rfl) ?_;rintro r B' L' H3 ⟨rfl,y,A,rfl,rfl⟩ h6;rw[hg] at h6;have h7:=h6.perm (B':=E.boxes v (.int .i64 (1+e.1:Nat)) p (.osl qm 4 0 (1+d.1)) y A .aB .aB g.a) (L':=[(p,4,gZ a6E.1),(.osl qm 4 0 (1+d.1),4,jQ a5Y.1),(y,7,jY g.a6G),(A,3,mE g.a6Q)]) (by rw[c]; exact List.Perm.refl _)
  (List.perm_append_comm (l₁:=lL g y A) (l₂:=[(p,4,gZ a6E.1),(.osl qm 4 0 (1+d.1),4,jQ a5Y.1)]))
 have W:=h7.at 0 rfl;rw[c] at W;simp only[go_sem,kk,f0];refine dM N.toAU T (o:=o) (n:=2) (a:=g.a) (by decide) hG.a rfl W ?_;have h8:=h7.set 0 rfl (bO v pl.2);rw[Λ];simp only[go_sem,τ,kn];refine On (C:=C) N.tomA T E (1+d.1) (1+pl.1) pl.2 Om Om Om ζ ((1+e.1:Nat):Int) p (.osl qm 4 0 (1+d.1)) y A a6E.1 a5Y.1 g.a6G g.a6Q _ _ _ (by rw[c]; exact⟨by simp only[go_sem,f0],by simp only[go_sem,f1],by simp only[go_sem,f2],by simp only[go_sem,f6],by simp only[go_sem,f7],by simp only[go_sem,f11],by simp only[go_sem],by simp only[go_sem]; rfl⟩) (by rw[c] at h8 ⊢; exact h8) ?_;clear h8 h7 h6 h5 h4 B u W b7 f0 f1 f2 f6 f7 J;intro X F4 H4 K i;rw[Z] at i;have f0:F4 0=some (.ptr o 2 0 0):=K 0 _ (by rw[c]; unfold fP; simp only[go_sem]);have f1:F4 1=some (.int .i64 a5X):=K 1 _ (by rw[c]; unfold fP; simp only[go_sem]);have f2:F4 2=some (.int .i64 a5Z):=K 2 _ (by rw[c]; unfold fP; simp only[go_sem]);have f6:F4 6=some (.ptr o6 7 0 0):=K 6 _ (by rw[c]; unfold fP; simp only[go_sem]);have f7:F4 7=some (.ptr o7 7 0 0):=K 7 _ (by rw[c]; unfold fP; simp only[go_sem]);have W:=i.at 0 rfl;rw[c] at W;simp only[go_sem,kx,f0,f2,υ];refine dM N.toAU T (o:=o) (n:=a5Z+1) (a:=pols.2) Om R rfl W ?_;have u:=i.set 0 rfl (bO v vo.2);rw[ν];have B:=u.perm (B':=E.boxes v (.int .i64 (1+e.1:Nat)) p (.osl qm 4 0 (1+d.1)) y A X .aB vo.2) (L':=(X,17,lN pols.1)::[(p,4,gZ a6E.1),(.osl qm 4 0 (1+d.1),4,jQ a5Y.1),(y,7,jY g.a6G),(A,3,mE g.a6Q)]) (List.Perm.refl _)
  (List.perm_append_comm (l₁:=[(p,4,gZ a6E.1),(.osl qm 4 0 (1+d.1),4,jQ a5Y.1),(y,7,jY g.a6G),(A,3,mE g.a6Q)]) (l₂:=[(X,17,lN pols.1)]))
 simp only[go_sem,ky];refine V5 (C:=C) N.tomA T E (1+pl.1) vo.1 vo.2 Om Om ο _ _ _ _ _ X pols.1 γ _ _ _ _ ?_ (by rw[c] at B ⊢; exact B) ?_
 ·rw[c];unfold fP;exact Lq
 clear B u i W f0 f1 f2 f6 f7 K;intro w6 F5 H5 η i;rw[α] at i;have f6:F5 6=some (.ptr o6 7 0 0):=η 6 _ (by rw[c]; unfold fP; simp only[go_sem]);have f7:F5 7=some (.ptr o7 7 0 0):=η 7 _ (by rw[c]; unfold fP; simp only[go_sem]);rw[c] at i;have b7:=i.at 1 rfl;have b6:=i.at 2 rfl;have one:∀ (x:PV),x∈[p,y,A,X,w6]→(∃ q s n,x=.osl q s 0 n)∨x=.aB:=by
  intro x hx;have U:∀ {s:Nat} {rows:List (List PV)},bQ H5 s x rows→(∃ q s n,x=.osl q s 0 n)∨x=.aB:=by
   rintro s rows (⟨_,h⟩ | ⟨q,rs,h,_⟩)
   ·exact .inr h
   ·exact .inl ⟨q,s,_,h⟩
  simp only[a7V,a8E,or_false] at hx;rcases hx with rfl | rfl | rfl | rfl | rfl
  ·exact U (i.own 1 rfl)
  ·exact U (i.own 3 rfl)
  ·exact U (i.own 4 rfl)
  ·exact U (i.own 0 rfl)
  ·exact U (i.own 5 rfl)
 have w:∀ (x:PV),x∈[p,y,A,X,w6]→PV.one x=true:=fun x hx=>by rcases one x hx with ⟨q,s,n,rfl⟩ | rfl<;>rfl
 have o1:=w p (by simp);have o3:=w y (by simp);have o4:=w A (by simp);have o5:=w X (by simp);have ξ:=w w6 (by simp);simp only[PV.one] at o1 o3 o4 o5 ξ;simp only[go_sem,lb,f6,f7,b7,b6,a7V,a8E,or_false,forall_eq,forall_eq_or_imp,o1,o3,o4,o5,ξ];have u:=i.set 2 rfl (flB (.int .i64 (1+e.1:Nat)) p (.osl qm 4 0 (1+d.1)) y A X w6);have B:=u.sub (B':=[(o,bO v vols.2)]) (a9M.cons_cons _ (List.nil_sublist _)) (a9M.refl _);obtain⟨φ,H6,k1,k2,k3,k4⟩:=aN.giveUp _ B (fun x hx=>by
  simp only[List.cons_append,List.nil_append,a7V,a8E,or_false] at hx;rcases hx with rfl | rfl | rfl | rfl | rfl | rfl
  ·exact adP _
  ·exact aaL _
  ·exact aaM _
  ·exact Yb _
  ·exact Yd _
  ·exact aTX _) (fun b hb q s rs=>by
  simp only[a7V,a8E,or_false] at hb;subst hb;simp only[cG.frz,a8X,a9R,T.frz];rfl)
 refine yQ (vs:=[.agg [.int .i64 (1+e.1:Nat),p,.osl qm 4 0 (1+d.1),y,A,X,w6]]) (.inr rfl) (by simp only[go_sem,f6]) (k4 _ _ (.done (H2:=PH.nil.set o (bO v vols.2)) ?_ (PH.aK a_ (k3.at 0 rfl))));rw[hR,hT];refine⟨CoL.agg ?_,rfl⟩;have s5:=k1 (X,17,lN pols.1) (by simp);have s1:=k1 (p,4,gZ a6E.1) (by simp);have s2:=k1 (.osl qm 4 0 (1+d.1),4,jQ a5Y.1) (by simp);have s3:=k1 (y,7,jY g.a6G) (by simp);have s4:=k1 (A,3,mE g.a6Q) (by simp);have s6:=k1 (w6,2,oI vols.1) (by simp);have s0:φ (.int .i64 (1+e.1:Nat))=.int .i64 (1+e.1:Nat):=k2 _ rfl;show CoL [φ (.int .i64 (1+e.1:Nat)),φ p,φ (.osl qm 4 0 (1+d.1)),φ y,φ A,φ X,φ w6] _;rw[s0];exact CoL.cons (.refl _) (CoL.cons s1.co (CoL.cons s2.co (CoL.cons s3.co (CoL.cons s4.co (CoL.cons s5.co (CoL.cons s6.co .nil))))))
structure If (C:Ctx):Prop extends fk C where
 new:∀ (l:List Nat),(∀ x∈l,x<256)→l.length≤9223372036854775807→aH C 28 [.sl 1 (kF l)] .nil (aiP l)
 fleet:∀ (l:List Nat) (v:PV),Tp l v→∀ (o a5X a5Z a:Nat),a5X≤60→a5Z≤50→a≤l.length →
  aH C 0 [.ptr o 2 0 0,.int .i64 a5X,.int .i64 a5Z] (PH.nil.set o (bO v a)) (fun r H=>r=.agg (jF l a5X a5Z a).1.cells∧H=PH.nil.set o (bO v (jF l a5X a5Z a).2))
theorem FB.exact {C:Ctx} {name:Nat} {args:List PV} {H:PH} {l:List Nat} {v:PV} {o a5X a5Z a:Nat} (h:aH C name args H (FB l v o a5X a5Z a)):aH C name args H (fun r H=>r=.agg (jF l a5X a5Z a).1.cells∧H=PH.nil.set o (bO v (jF l a5X a5Z a).2)) :=
 h.post fun r H' c=>⟨_,c.1,rfl,c.2⟩
theorem atX {C:Ctx} (p:If C) (l:List Nat) (u:∀ x∈l,x<256) (w:l.length≤9223372036854775807) (a5X a5Z:Nat) (c:a5X≤60) (i:a5Z≤50) :
  CW.wp C (aV j6.res (bY (.agg (jF (l.take 400) a5X a5Z 0).1.cells))) (PF.args [.sl 1 (kF l),.int .i64 a5X,.int .i64 a5Z]) .nil:=by
 simp only[go_sem,CW,Aq,j6];refine aR fun o6 y=>?_;simp only[go_sem,Ar];refine kU (p.new l u w) rfl a_ ?_;rintro r H' ⟨o,v,rfl,T,rfl⟩ q;have d:¬ o6=o:=by intro e;subst e;have:=q o6 (bO v 0) (by rw[aT,if_pos rfl]) rfl;rw[aT,if_pos rfl] at this;cases this
 rw[PH.pO];simp only[go_sem];refine mR (p.fleet _ v T o a5X a5Z 0 c i (a7P _)) (by rw[aT,if_pos rfl]) rfl ?_;simp only[go_sem,d];exact bA (vs:=[.agg (jF (l.take 400) a5X a5Z 0).1.cells]) (.inr rfl) .nil Sq a_ ⟨.refl _,rfl⟩
theorem CoL.a3I:CoL [] []:=⟨rfl,fun j p q h=>by simp at h⟩
theorem CoL.ajP {p q:PV} {ps d:List PV} (h:Co p q) (c:CoL ps d):CoL (p::ps) (q::d):=by
 refine⟨by simp[c.len],fun j x y a b=>?_⟩;cases j with
 | zero =>simp only[List.getElem?_cons_zero,a9X.injEq] at a b;subst a; subst b; exact h
 | succ j=>exact c.at_ j x y (by simpa using a) (by simpa using b)
theorem aH.seen {C:Ctx} {name:Nat} {args:List PV} {H:PH} {v:PV} (h:aH C name args H (bY v)):aH C name args H (aF v) :=
 h.post fun r H' c=>⟨v,c.1,rfl,c.2⟩
def VG (x:RF):Bool:=(x.num.all (fun n=>decide (n<4294967296))&&x.den.all fun n=>decide (n<4294967296))&&(decide (x.num.length≤9)&&decide (x.den.length≤9))
theorem KQ {x:RF} (h:VG x=true):x.Ok:=by
 simp only[VG,a8A,a7Y,decide_eq_true_eq] at h;exact⟨h.1.1,h.1.2,by omega,by omega⟩
def GF (l:List RF):Bool:=decide (l.length≤9)&&l.all VG
theorem BS {l:List RF} (h:GF l=true):jR l:=by
 simp only[GF,a8A,a7Y,decide_eq_true_eq] at h;exact⟨by unfold Fits; omega,fun x c=>KQ (h.2 x c)⟩
def Ny (x:cE):Bool:=(GF x.start&&GF x.exit)&&(decide (x.a6C.length≤9)&&x.a6C.all GF)
theorem asX {x:cE} (h:Ny x=true):x.Ok:=by
 simp only[Ny,a8A,a7Y,decide_eq_true_eq] at h;exact⟨BS h.1.1,BS h.1.2,by unfold Fits; omega,fun r c=>BS (h.2.2 r c)⟩
def Q7 (x:bS):Bool:=(decide (dB x.k∧dB x.m∧dB x.a6V)&&(decide (x.a5Y.length≤9)&&x.a5Y.all fun m=>decide (dB m)))&&(GF x.repair&&(VG x.target&&VG x.a6H))
theorem avI {x:bS} (h:Q7 x=true):x.Ok:=by
 simp only[Q7,a8A,a7Y,decide_eq_true_eq] at h;exact⟨h.1.1.1,h.1.1.2.1,h.1.1.2.2,by unfold Fits; omega,h.1.2.2,BS h.2.1,KQ h.2.2.1,KQ h.2.2.2⟩
def okB (f:aE):Bool:=(decide (f.a6E.length≤99∧f.a5Y.length≤99∧f.a6A.length≤99∧f.a5X.length≤99∧f.a6B.length≤99∧f.a5Z.length≤99)&&(f.a6E.all Ny&&f.a6B.all Q7)) &&
 (f.a6A.all (fun x=>VG x.a6M&&decide (dB x.level∧dB x.parent))&&(f.a5X.all (fun x=>decide (dB x.model∧dB x.machine))&&f.a5Z.all fun x=>decide (dB x.a6J)))
theorem aWC {f:aE} (h:okB f=true):f.Ok:=by
 simp only[okB,a8A,a7Y,decide_eq_true_eq] at h;obtain⟨⟨⟨p,q,u,w,y,A⟩,e,i⟩,d,l,h5⟩:=h;exact⟨by unfold Fits; omega,by unfold Fits; omega,by unfold Fits; omega,by unfold Fits; omega,by unfold Fits; omega,by unfold Fits; omega,fun x c=>asX (e x c),fun x c=>⟨KQ (d x c).1,(d x c).2⟩,l,fun x c=>avI (i x c),h5⟩
def D6:Rg:=[iZ 4]
def D7:Rg:=[iZ 5]
def D8:Rg:=[iA 6 (.mv (.const (.int .u64 0)))]
def D9:Rg:=[iI 7 0]
def Ea:Rg:=[iM 10 7,iM 11 0,iN 12 11,iB 13 .lss 10 12]
def Eb:Rg:=[iM 16 6,iM 8 16]
def Ec:Rg:=[iM 17 7,iM 18 1,iN 19 18,iB 20 .lss 17 19]
def Ed:Rg:=[iM 21 8,iM 22 1,iM 23 7,iX 24 1 22 23,iL 25 24,iA 26 (.conv .u64 (Tm 25)),iB 27 .add 21 26,iM 8 27]
def TK:Rg:=[iM 28 0,iM 29 7,iX 30 1 28 29,iL 31 30,iA 32 (.conv .u64 (Tm 31)),iM 9 32]
def TL:Rg:=[iA 6 (.mv (.const (.int .u64 0)))]
def LQ:Rg:=[iM 33 9,iM 34 8,iB 35 .lss 33 34]
def LS:Rg:=[iM 36 9,iA 37 (.bin .add (Tm 36) (.const (.int .u64 4294967296))),iM 9 37]
def LT:Rg:=[iA 6 (.mv (.const (.int .u64 1)))]
def xO:Rg:=[iM 38 5,iM 39 9,iM 40 8,iB 41 .sub 39 40,iA 42 (.conv .u32 (Tm 41)),iA 43 (.a6D true 1 1 [(.int .u32 0)] [(0,(Tm 42))]),iA 44 (.append 1 4 (Tm 38) (Tm 43)),iM 5 44]
def xP:Rg:=[iM 14 7,iC 15 .add 14 1,iM 7 15]
def pq:aC:=(.seq (sq Ea (.cond (Tm 13) .skip (.exit 0))) (.seq (.block 1 (sq Eb (.seq (sq Ec (.cond (Tm 20) (.region Ed) .skip)) (sq TK (sq TL (.seq (sq LQ (.cond (Tm 35) (sq LS (.region LT)) .skip)) (.region xO))))))) (.region xP)))
def pt:Rg:=[iM 45 5,iK 46 38 45,iM 4 46]
def EL:aC:=(sq D6 (sq D7 (sq D8 (.seq (sq D9 (.block 0 (.loop pq))) (sq pt .ret)))))
def aBT:List Nat:=[43]
def po:aS:=⟨2,47,EL,[.tmp 4]⟩
def Tv:Rg:=[iZ 4]
def Tw:Rg:=[iZ 5]
def Tx:Rg:=[iA 6 (.mv (.const (.int .u64 0)))]
def Tz:Rg:=[iI 7 0]
def T0:Rg:=[iM 9 7,iM 10 0,iN 11 10,iB 12 .lss 9 11,iM 13 12,gM 14 7 13 false,gM 15 1 13 false,gN 16 15 13 false,gB 17 .lss 14 16 13 false,iQ 18 13 17,iM 19 18,gM 20 6 19 false,iG 21 (.bin .gtr (Tm 20) (.const (.int .u64 0))) 19 false,iQ 22 19 21]
def dl:Rg:=[iM 25 6,iM 8 25]
def dp:Rg:=[iM 26 7,iM 27 0,iN 28 27,iB 29 .lss 26 28]
def dt:Rg:=[iM 30 8,iM 31 0,iM 32 7,iX 33 1 31 32,iL 34 33,iA 35 (.conv .u64 (Tm 34)),iB 36 .add 30 35,iM 8 36]
def LY:Rg:=[iM 37 7,iM 38 1,iN 39 38,iB 40 .lss 37 39]
def LZ:Rg:=[iM 41 8,iM 42 1,iM 43 7,iX 44 1 42 43,iL 45 44,iA 46 (.conv .u64 (Tm 45)),iB 47 .add 41 46,iM 8 47]
def BZ:Rg:=[iM 48 5,iM 49 8,iA 50 (.conv .u32 (Tm 49)),iA 51 (.a6D true 1 1 [(.int .u32 0)] [(0,(Tm 50))]),iA 52 (.append 1 4 (Tm 48) (Tm 51)),iM 5 52]
def CA:Rg:=[iM 53 8,iA 54 (.bin .shr (Tm 53) (.const (.int .u64 32))),iM 6 54]
def CB:Rg:=[iM 23 7,iC 24 .add 23 1,iM 7 24]
def Eg:aC:=(.seq (sq T0 (.cond (Tm 22) .skip (.exit 0))) (.seq (.block 1 (sq dl (.seq (sq dp (.cond (Tm 29) (.region dt) .skip)) (.seq (sq LY (.cond (Tm 40) (.region LZ) .skip)) (sq BZ (.region CA)))))) (.region CB)))
def TO:Rg:=[iM 55 5,iK 56 38 55,iM 4 56]
def LX:aC:=(sq Tv (sq Tw (sq Tx (.seq (sq Tz (.block 0 (.loop Eg))) (sq TO .ret)))))
def aMU:List Nat:=[51]
def Hm:aS:=⟨2,57,LX,[.tmp 4]⟩
def Ei:Rg:=[iZ 4]
def Ej:Rg:=[iM 10 0,iN 11 10,iM 12 1,iN 13 12,iB 14 .add 11 13,iA 15 (.a6F 1 4 [(.int .u32 0)] (Tm 14) (Tm 14)),iM 5 15]
def Ek:Rg:=[iI 6 0]
def El:Rg:=[iM 16 6,iM 17 0,iN 18 17,iB 19 .lss 16 18]
def TR:Rg:=[iA 7 (.mv (.const (.int .u64 0)))]
def TS:Rg:=[iI 8 0]
def Em:Rg:=[iM 22 8,iM 23 1,iN 24 23,iB 25 .lss 22 24]
def En:Rd:=[(iM 28 0,false),(iM 29 6,false),(iX 30 1 28 29,false),(iL 31 30,false),(iA 32 (.conv .u64 (Tm 31)),false),(iM 33 1,false),(iM 34 8,false),(iX 35 1 33 34,false),(iL 36 35,false),(iA 37 (.conv .u64 (Tm 36)),false),(iB 38 .mul 32 37,false),(iM 39 5,false),(iM 40 6,false),(iM 41 8,false),(iB 42 .add 40 41,false),(iX 43 1 39 42,false),(iL 44 43,false),(iA 45 (.conv .u64 (Tm 44)),false),(iB 46 .add 38 45,false),(iM 47 7,false),(iB 48 .add 46 47,false),(iM 9 48,false)]
def Eo:Rg:=[iM 49 5,iM 50 6,iM 51 8,iB 52 .add 50 51,iM 53 9,iA 54 (.conv .u32 (Tm 53)),iX 55 1 49 52,iS 1 55 54]
def Ep:Rg:=[iM 56 9,iA 57 (.bin .shr (Tm 56) (.const (.int .u64 32))),iM 7 57]
def p6:Rg:=[iM 26 8,iC 27 .add 26 1,iM 8 27]
def MA:aC:=(.seq (sq Em (.cond (Tm 25) .skip (.exit 2))) (.seq (.block 3 (dq En (sq Eo (.region Ep)))) (.region p6)))
def MB:Rg:=[iM 58 5,iM 59 6,iM 60 1,iN 61 60,iB 62 .add 59 61,iM 63 7,iA 64 (.conv .u32 (Tm 63)),iX 65 1 58 62,iS 1 65 64]
def p7:Rg:=[iM 20 6,iC 21 .add 20 1,iM 6 21]
def p5:aC:=(.seq (sq El (.cond (Tm 19) .skip (.exit 0))) (.seq (.block 1 (sq TR (.seq (sq TS (.block 2 (.loop MA))) (.region MB)))) (.region p7)))
def p8:Rg:=[iM 66 5,iK 67 38 66,iM 4 67]
def EM:aC:=(sq Ei (sq Ej (.seq (sq Ek (.block 0 (.loop p5))) (sq p8 .ret))))
def aBW:List Nat:=[]
def p4:aS:=⟨2,68,EM,[.tmp 4]⟩
def aeS:Rg:=[iZ 4,iI 5 0]
def aeT:Rg:=[iM 7 0,iK 8 41 7,iM 9 8,gM 10 1 9 false,gK 11 41 10 9 false,iQ 12 9 11]
def xa:Rg:=[iZ 4,iI 5 2]
def aeU:Rg:=[iM 13 0,iK 14 38 13,iM 15 1,iK 16 38 15,iK2 17 43 14 16,iM 6 17]
def aeV:Rg:=[iM 18 6,iK 19 41 18]
def aeW:Rg:=[iZ 4,iI 5 2]
def aeX:Rg:=[iM 20 6,iM 4 20,iI 5 0]
def TE:aC:=(sq aeS (.seq (sq aeT (.cond (Tm 12) (sq xa .ret) .skip)) (sq aeU (.seq (sq aeV (.cond (Tm 19) (sq aeW .ret) .skip)) (sq aeX .ret)))))
def aTN:List Nat:=[]
def apS:aS:=⟨2,21,TE,[.tmp 4,.tmp 5]⟩
def agI:Rg:=[iZ 4,iI 5 0]
def agJ:Rg:=[iM 6 0,iK 7 41 6,iM 8 7,gM 9 1 8 false,gK 10 41 9 8 false,iQ 11 8 10]
def xe:Rg:=[iZ 4,iI 5 2]
def agK:Rg:=[iM 12 0,iM 13 1,iK2 14 32 12 13,iC 15 .lss 14 0]
def agL:Rg:=[iZ 4,iI 5 4]
def agM:Rg:=[iM 16 0,iK 17 38 16,iM 18 1,iK 19 38 18,iK2 20 42 17 19,iM 4 20,iI 5 0]
def TQ:aC:=(sq agI (.seq (sq agJ (.cond (Tm 11) (sq xe .ret) .skip)) (.seq (sq agK (.cond (Tm 15) (sq agL .ret) .skip)) (sq agM .ret))))
def aTU:List Nat:=[]
def aqC:aS:=⟨2,21,TQ,[.tmp 4,.tmp 5]⟩
def agA:Rg:=[iZ 4,iI 5 0]
def agB:Rg:=[iM 7 0,iK 8 41 7,iM 9 8,gM 10 1 9 false,gK 11 41 10 9 false,iQ 12 9 11]
def xd:Rg:=[iZ 4,iI 5 2]
def agC:Rg:=[iM 13 0,iK 14 38 13,iM 15 1,iK 16 38 15,iK2 17 44 14 16,iM 6 17]
def agD:Rg:=[iM 18 6,iK 19 41 18]
def agE:Rg:=[iZ 4,iI 5 2]
def agF:Rg:=[iM 20 6,iM 4 20,iI 5 0]
def TM:aC:=(sq agA (.seq (sq agB (.cond (Tm 12) (sq xd .ret) .skip)) (sq agC (.seq (sq agD (.cond (Tm 19) (sq agE .ret) .skip)) (sq agF .ret)))))
def aTR:List Nat:=[]
def apZ:aS:=⟨2,21,TM,[.tmp 4,.tmp 5]⟩
def Sy:Rg:=[iI 2 0]
def Sz:Rg:=[iM 5 0,iK 6 38 5,iM 0 6]
def S0:Rg:=[iM 7 0,iN 8 7,iC 9 .eql 8 0]
def S1:Rg:=[iI 2 0]
def S3:Rg:=[iM 10 0,iN 11 10,iC 12 .sub 11 1,iA 13 (.bin .mul (Ci 32) (Tm 12)),iM 3 13]
def S4:Rg:=[iM 14 0,iM 15 0,iN 16 15,iC 17 .sub 16 1,iX 18 1 14 17,iL 19 18,iM 4 19]
def S5:Rg:=[iM 20 4,iA 21 (.bin .gtr (Tm 20) (.const (.int .u32 0)))]
def S6:Rg:=[iM 24 3,iC 25 .add 24 1,iM 3 25]
def S7:Rg:=[iM 22 4,iA 23 (.bin .quo (Tm 22) (.const (.int .u32 2))),iM 4 23]
def Sw:aC:=(.seq (sq S5 (.cond (Tm 21) .skip (.exit 0))) (.seq (.block 1 (.region S6)) (.region S7)))
def Dz:Rg:=[iM 26 3,iM 2 26]
def LK:aC:=(sq Sy (sq Sz (.seq (sq S0 (.cond (Tm 9) (sq S1 .ret) .skip)) (sq S3 (.seq (sq S4 (.block 0 (.loop Sw))) (sq Dz .ret))))))
def aMK:List Nat:=[]
def Hj:aS:=⟨1,27,LK,[.tmp 2]⟩
def aBY:Rg:=[iZ 4]
def aBZ:Rg:=[iM 9 0,iN 10 9,iC 11 .eql 10 0]
def aCA:Rg:=[iZ 4]
def aCB:Rg:=[iM 12 1,iC 13 .quo 12 32,iA 14 (.a6F 1 4 [(.int .u32 0)] (Tm 13) (Tm 13)),iM 5 14]
def aCC:Rg:=[iA 6 (.mv (.const (.int .u64 0)))]
def aCD:Rg:=[iI 7 0]
def aCE:Rg:=[iM 15 7,iM 16 0,iN 17 16,iB 18 .lss 15 17]
def aCF:Rg:=[iM 21 0,iM 22 7,iX 23 1 21 22,iL 24 23,iA 25 (.conv .u64 (Tm 24)),iM 26 1,iC 27 .rem 26 32,iA 28 (.conv .u64 (Tm 27)),iB 29 .shl 25 28,iM 30 6,iB 31 .or 29 30,iM 8 31]
def aCG:Rg:=[iM 32 5,iM 33 8,iA 34 (.conv .u32 (Tm 33)),iA 35 (.a6D true 1 1 [(.int .u32 0)] [(0,(Tm 34))]),iA 36 (.append 1 4 (Tm 32) (Tm 35)),iM 5 36]
def aCH:Rg:=[iM 37 8,iA 38 (.bin .shr (Tm 37) (.const (.int .u64 32))),iM 6 38]
def agO:Rg:=[iM 19 7,iC 20 .add 19 1,iM 7 20]
def agN:aC:=(.seq (sq aCE (.cond (Tm 18) .skip (.exit 0))) (.seq (.block 1 (sq aCF (sq aCG (.region aCH)))) (.region agO)))
def agP:Rg:=[iM 39 5,iM 40 6,iA 41 (.conv .u32 (Tm 40)),iA 42 (.a6D true 1 1 [(.int .u32 0)] [(0,(Tm 41))]),iA 43 (.append 1 4 (Tm 39) (Tm 42)),iK 44 38 43,iM 4 44]
def dw:aC:=(sq aBY (.seq (sq aBZ (.cond (Tm 11) (sq aCA .ret) .skip)) (sq aCB (sq aCC (.seq (sq aCD (.block 0 (.loop agN))) (sq agP .ret))))))
def aXM:List Nat:=[35,42]
def uup:aS:=⟨2,45,dw,[.tmp 4]⟩
def Te:Rg:=[iZ 4]
def Tf:Rg:=[iM 8 1,iC 9 .quo 8 32,iM 10 0,iN 11 10,iB 12 .geq 9 11]
def Tg:Rg:=[iZ 4]
def Th:Rg:=[iZ 5]
def Ti:Rg:=[iM 13 1,iC 14 .quo 13 32,iM 6 14]
def Tj:Rg:=[iM 15 6,iM 16 0,iN 17 16,iB 18 .lss 15 17]
def Tk:Rg:=[iM 21 0,iM 22 6,iX 23 1 21 22,iL 24 23,iA 25 (.conv .u64 (Tm 24)),iM 7 25]
def Tl:Rg:=[iM 26 6,iC 27 .add 26 1,iM 28 0,iN 29 28,iB 30 .lss 27 29]
def Tn:Rg:=[iM 31 7,iM 32 0,iM 33 6,iC 34 .add 33 1,iX 35 1 32 34,iL 36 35,iA 37 (.conv .u64 (Tm 36)),iA 38 (.bin .shl (Tm 37) (.const (.int .u64 32))),iB 39 .or 31 38,iM 7 39]
def dj:Rg:=[iM 40 5,iM 41 7,iM 42 1,iC 43 .rem 42 32,iA 44 (.conv .u64 (Tm 43)),iB 45 .shr 41 44,iA 46 (.conv .u32 (Tm 45)),iA 47 (.a6D true 1 1 [(.int .u32 0)] [(0,(Tm 46))]),iA 48 (.append 1 4 (Tm 40) (Tm 47)),iM 5 48]
def TI:Rg:=[iM 19 6,iC 20 .add 19 1,iM 6 20]
def D0:aC:=(.seq (sq Tj (.cond (Tm 18) .skip (.exit 0))) (.seq (.block 1 (sq Tk (.seq (sq Tl (.cond (Tm 30) (.region Tn) .skip)) (.region dj)))) (.region TI)))
def D1:Rg:=[iM 49 5,iK 50 38 49,iM 4 50]
def LO:aC:=(sq Te (.seq (sq Tf (.cond (Tm 12) (sq Tg .ret) .skip)) (sq Th (.seq (sq Ti (.block 0 (.loop D0))) (sq D1 .ret)))))
def aMN:List Nat:=[47]
def Hk:aS:=⟨2,51,LO,[.tmp 4]⟩
def Fg:Rg:=[iA 1 (.box true (Tm 0)),iT 2 false]
def Fh:Rg:=[iF 3 2 1,iL 4 3,iK 5 38 4,iN 6 5,iC 7 .gtr 6 0,iM 8 7,gF 9 2 1 8 true,gL 10 9 8 true,gK 11 38 10 8 true,gN 12 11 8 true,gC 13 .leq 12 128 8 true,iP 14 8 13,iM 15 14,gF 16 1 1 15 true,gL 17 16 15 true,gK 18 38 17 15 true,gN 19 18 15 true,gC 20 .leq 19 128 15 true,iP 21 15 20,iM 2 21]
def EQ:aC:=(sq Fg (sq Fh .ret))
def aCN:List Nat:=[1]
def qt:aS:=⟨1,22,EQ,[.tmp 2]⟩
def Eu:Rg:=[iA 1 (.box true (Tm 0)),iT 2 false]
def Ew:Rg:=[iF 3 1 1,iL 4 3,iN 5 4,iC 6 .gtr 5 128,iM 7 6,gF 8 2 1 7 false,gL 9 8 7 false,gN 10 9 7 false,gC 11 .gtr 10 128 7 false,iQ 12 7 11,iM 2 12]
def EN:aC:=(sq Eu (sq Ew .ret))
def aCK:List Nat:=[1]
def qa:aS:=⟨1,13,EN,[.tmp 2]⟩
def Uc:Rg:=[iA 1 (.box true (Tm 0)),iA 2 (.alloc [zB,.aB,.aB]),iI 3 0]
def Ud:Rg:=[iO 4 3 1,iK 5 48 4]
def Ue:Rg:=[iA 6 (.build [zB,.aB,.aB] []),iS 3 2 6,iI 3 2]
def Uf:Rg:=[iO 7 3 1,iS 3 2 7,iI 3 0]
def MD:aC:=(sq Uc (.seq (sq Ud (.cond (Tm 5) (sq Ue .ret) .skip)) (sq Uf .ret)))
def aMY:List Nat:=[1]
def Hu:aS:=⟨1,8,MD,[.cell 2 (some 3),.tmp 3]⟩
def ql:Rg:=[iA 1 (.box true (Tm 0)),iA 2 (.alloc [zB,.aB,.aB]),iI 3 0]
def qn:Rg:=[iO 4 3 1,iK 5 56 4,iA 6 (.un .not (Tm 5))]
def qp:Rg:=[iA 7 (.build [zB,.aB,.aB] []),iS 3 2 7,iI 3 1]
def qq:Rg:=[iF 8 0 1,iL 9 8,iF 10 1 1,iL 11 10,iF 12 2 1,iL 13 12,iA 14 (.call 58 [(Tm 9),(Tm 11),(Tm 13)]),iS 3 2 14,iI 3 0]
def AJ:aC:=(sq ql (.seq (sq qn (.cond (Tm 6) (sq qp .ret) .skip)) (sq qq .ret)))
def aqJ:List Nat:=[1]
def VP:aS:=⟨1,15,AJ,[.cell 2 (some 3),.tmp 3]⟩
def Fc:Rg:=[iZ 4]
def Fd:Rg:=[iM 8 0,iM 9 1,iK2 10 36 8 9,iM 7 10,iE 11 7 0,iE 12 7 1,iM 5 11,iM 6 12]
def Fe:Rg:=[iM 13 5,iM 4 13]
def EP:aC:=(sq Fc (sq Fd (sq Fe .ret)))
def aCM:List Nat:=[]
def qr:aS:=⟨2,14,EP,[.tmp 4]⟩
def Ey:Rg:=[iA 2 (.box true (Tm 0)),iA 3 (.box true (Tm 1)),iI 4 0]
def Ez:Rd:=[(iF 9 1 2,false),(iL 10 9,false),(iF 11 2 3,false),(iL 12 11,false),(iK2 13 60 10 12,true),(iF 14 1 3,true),(iL 15 14,true),(iF 16 2 2,true),(iL 17 16,true),(iK2 18 60 15 17,true),(iM 5 13,false),(iM 6 18,false)]
def E0:Rg:=[iF 19 0 2,iL 20 19,iM 21 20,gM 22 5 21 true,gN 23 22 21 true,gC 24 .gtr 23 0 21 true,iP 25 21 24,iF 26 0 3,iL 27 26,iM 28 27,gM 29 6 28 true,gN 30 29 28 true,gC 31 .gtr 30 0 28 true,iP 32 28 31,iM 7 25,iM 8 32]
def E4:Rg:=[iM 34 7,iM 35 34,gM 36 8 35 true,iG 37 (.un .not (Tm 36)) 35 true,iP 38 35 37,iM 33 38]
def E5:Rg:=[iI 4 (-1)]
def E6:Rg:=[iM 40 8,iM 41 40,gM 42 7 41 true,iG 43 (.un .not (Tm 42)) 41 true,iP 44 41 43,iM 39 44]
def E7:Rg:=[iI 4 1]
def E8:Rg:=[iM 46 7,iM 45 46]
def E9:Rg:=[iM 47 6,iM 48 5,iK2 49 32 47 48,iM 4 49]
def Fa:Rg:=[iM 50 5,iM 51 6,iK2 52 32 50 51,iM 4 52]
def EO:aC:=(sq Ey (dq Ez (sq E0 (.seq (.block 0 (sq E4 (.cond (Tm 33) (sq E5 .ret) (sq E6 (.cond (Tm 39) (sq E7 .ret) (sq E8 (.cond (Tm 45) (sq E9 .ret) .skip))))))) (sq Fa .ret)))))
def aCL:List Nat:=[2,3]
def qj:aS:=⟨2,53,EO,[.tmp 4]⟩
def Ui:Rg:=[iA 2 (.box true (Tm 0)),iA 3 (.box true (Tm 1)),iT 4 false]
def Uj:Rg:=[iO 5 3 2,iO 6 3 3,iK2 7 51 5 6,iC 8 .lss 7 0,iM 4 8]
def MF:aC:=(sq Ui (sq Uj .ret))
def aNA:List Nat:=[2,3]
def Hv:aS:=⟨2,9,MF,[.tmp 4]⟩
def Us:Rg:=[iA 2 (.box true (Tm 0)),iA 3 (.box true (Tm 1)),iT 4 false]
def Ut:Rg:=[iO 5 3 2,iO 6 3 3,iK2 7 51 5 6,iC 8 .eql 7 0,iM 4 8]
def MJ:aC:=(sq Us (sq Ut .ret))
def aNC:List Nat:=[2,3]
def Hx:aS:=⟨2,9,MJ,[.tmp 4]⟩
def Uv:Rg:=[iA 1 (.box true (Tm 0)),iI 2 0]
def Uw:Rd:=[(iO 3 3 1,true),(iA 4 (.call 47 [(Ci 0)]),true),(iK2 5 51 3 4,true),(iM 2 5,false)]
def MK:aC:=(sq Uv (dq Uw .ret))
def aND:List Nat:=[1]
def Hy:aS:=⟨1,6,MK,[.tmp 2]⟩
def agR:Rg:=[iA 2 (.box true (Tm 0)),iA 3 (.box true (Tm 1)),iA 4 (.alloc [zB,.aB,.aB]),iI 5 0]
def agS:Rg:=[iO 15 3 2,iK 16 56 15,iA 17 (.un .not (Tm 16)),iM 18 17,gO 19 3 3 18 false,gK 20 56 19 18 false,iG 21 (.un .not (Tm 20)) 18 false,iQ 22 18 21]
def xf:Rg:=[iA 23 (.build [zB,.aB,.aB] []),iS 3 4 23,iI 5 1]
def agT:Rd:=[(iF 24 1 2,false),(iL 25 24,false),(iF 26 2 3,false),(iL 27 26,false),(iK2 28 60 25 27,true),(iF 29 1 3,true),(iL 30 29,true),(iF 31 2 2,true),(iL 32 31,true),(iK2 33 60 30 32,true),(iF 34 2 2,true),(iL 35 34,true),(iF 36 2 3,true),(iL 37 36,true),(iK2 38 60 35 37,true),(iM 6 28,false),(iM 7 33,false),(iM 8 38,false)]
def agU:Rg:=[iF 39 0 2,iL 40 39,iF 41 0 3,iL 42 41,iA 43 (.eqb false (Tm 40) (Tm 42))]
def agV:Rg:=[iM 45 6,iM 46 7,iK2 47 30 45 46,iM 44 47,iE 48 44 0,iE 49 44 1,iM 9 48,iM 10 49]
def agW:Rg:=[iF 50 0 2,iL 51 50,iM 52 9,iM 53 8,iA 54 (.call 58 [(Tm 51),(Tm 52),(Tm 53)]),iK 55 57 54,iE 56 55 0,iE 57 55 1,iS 3 4 56,iM 5 57]
def agX:Rg:=[iM 58 6,iM 59 7,iK2 60 32 58 59,iC 61 .geq 60 0]
def agY:Rg:=[iM 63 6,iM 64 7,iK2 65 37 63 64,iM 62 65,iE 66 62 0,iE 67 62 1,iM 11 66,iM 12 67]
def agZ:Rg:=[iF 68 0 2,iL 69 68,iM 70 11,iM 71 8,iA 72 (.call 58 [(Tm 69),(Tm 70),(Tm 71)]),iK 73 57 72,iE 74 73 0,iE 75 73 1,iS 3 4 74,iM 5 75]
def T8:Rg:=[iM 77 7,iM 78 6,iK2 79 37 77 78,iM 76 79,iE 80 76 0,iE 81 76 1,iM 13 80,iM 14 81]
def T9:Rg:=[iF 82 0 3,iL 83 82,iM 84 13,iM 85 8,iA 86 (.call 58 [(Tm 83),(Tm 84),(Tm 85)]),iK 87 57 86,iE 88 87 0,iE 89 87 1,iS 3 4 88,iM 5 89]
def CC:aC:=(sq agR (.seq (sq agS (.cond (Tm 22) (sq xf .ret) .skip)) (dq agT (.seq (sq agU (.cond (Tm 43) (sq agV (sq agW .ret)) .skip)) (.seq (sq agX (.cond (Tm 61) (sq agY (sq agZ .ret)) .skip)) (sq T8 (sq T9 .ret)))))))
def aTV:List Nat:=[2,3]
def T7:aS:=⟨2,90,CC,[.cell 4 (some 3),.tmp 5]⟩
def ahF:Rg:=[iA 2 (.alloc [zB,.aB,.aB]),iI 3 0]
def ahG:Rg:=[iA 8 (.call 47 [(Ci 0)]),iA 4 (.alloc [zB,.aB,.aB]),iS 3 4 8]
def ahH:Rg:=[iI 5 0]
def ahI:Rg:=[iM 9 5,iM 10 0,iN 11 10,iB 12 .lss 9 11]
def ahJ:Rd:=[(iO 16 3 4,false),(iM 17 0,false),(iM 18 5,false),(iX 19 3 17 18,false),(iO 20 3 19,false),(iK2 21 46 16 20,true),(iM 15 21,false),(iE 22 15 0,false),(iE 23 15 1,true),(iA 6 (.alloc [zB,.aB,.aB]),true),(iS 3 6 22,true),(iM 7 23,false)]
def xh:Rg:=[iM 24 7,iC 25 .neq 24 0]
def ahK:Rg:=[iA 26 (.build [zB,.aB,.aB] []),iM 27 7,iS 3 2 26,iM 3 27]
def ahL:Rg:=[iO 28 3 6,iS 3 4 28]
def ahM:Rg:=[iM 13 5,iC 14 .add 13 1,iM 5 14]
def ahD:aC:=(.seq (sq ahI (.cond (Tm 12) .skip (.exit 0))) (.seq (.block 1 (dq ahJ (.seq (sq xh (.cond (Tm 25) (sq ahK .ret) .skip)) (.region ahL)))) (.region ahM)))
def U3:Rg:=[iO 29 3 4,iS 3 2 29,iI 3 0]
def TV:aC:=(sq ahF (sq ahG (.seq (sq ahH (.block 0 (.loop ahD))) (sq U3 .ret))))
def aTY:List Nat:=[]
def aqK:aS:=⟨1,30,TV,[.cell 2 (some 3),.tmp 3]⟩
def uM:Rg:=[iT 4 false]
def uN:Rg:=[iM 5 0,iC 6 .geq 5 1,iM 7 6,gM 8 0 7 true,gC 9 .leq 8 6 7 true,iP 10 7 9,iM 11 10,gM 12 1 11 true,gC 13 .geq 12 0 11 true,iP 14 11 13,iM 15 14,gM 16 1 15 true,gC 17 .leq 16 4 15 true,iP 18 15 17,iM 19 18,gM 20 0 19 true,gM 21 1 19 true,gB 22 .add 20 21 19 true,gC 23 .leq 22 8 19 true,iP 24 19 23,iM 4 24]
def nY:aC:=(sq uM (sq uN .ret))
def aIQ:List Nat:=[]
def BT:aS:=⟨2,25,nY,[.tmp 4]⟩
def ru:Rg:=[iT 2 false]
def rv:Rg:=[iM 3 0,iA 4 (.bin .geq (Tm 3) (.const (.int .u8 97))),iM 5 4,gM 6 0 5 true,iG 7 (.bin .leq (Tm 6) (.const (.int .u8 122))) 5 true,iP 8 5 7,iM 9 8,gM 10 0 9 false,iG 11 (.bin .geq (Tm 10) (.const (.int .u8 65))) 9 false,gM 12 11 9 false,gM 13 0 12 true,iG 14 (.bin .leq (Tm 13) (.const (.int .u8 90))) 12 true,iG 15 (.pick (Tm 12) (Tm 14) (.const zB)) 9 false,iQ 16 9 15,iM 2 16]
def AM:aC:=(sq ru (sq rv .ret))
def aqN:List Nat:=[]
def VS:aS:=⟨1,17,AM,[.tmp 2]⟩
def Fk:Rg:=[iT 2 false]
def Fl:Rg:=[iM 3 0,iA 4 (.bin .geq (Tm 3) (.const (.int .u8 48))),iM 5 4,gM 6 0 5 true,iG 7 (.bin .leq (Tm 6) (.const (.int .u8 57))) 5 true,iP 8 5 7,iM 2 8]
def ES:aC:=(sq Fk (sq Fl .ret))
def aCO:List Nat:=[]
def qv:aS:=⟨1,9,ES,[.tmp 2]⟩
def qx:Rg:=[iT 2 false]
def qy:Rg:=[iM 3 0,iK 4 65 3,iM 5 4,gM 6 0 5 false,gK 7 63 6 5 false,iQ 8 5 7,iM 9 8,gM 10 0 9 false,iG 11 (.bin .eql (Tm 10) (.const (.int .u8 45))) 9 false,iQ 12 9 11,iM 13 12,gM 14 0 13 false,iG 15 (.bin .eql (Tm 14) (.const (.int .u8 46))) 13 false,iQ 16 13 15,iM 2 16]
def AK:aC:=(sq qx (sq qy .ret))
def aqL:List Nat:=[]
def VQ:aS:=⟨1,17,AK,[.tmp 2]⟩
def rc:Rg:=[iT 2 false]
def re:Rg:=[iM 4 0,iA 5 (.a6X (Tm 4)),iC 6 .lss 5 1,iM 7 6,gM 8 0 7 false,iG 9 (.a6X (Tm 8)) 7 false,gC 10 .gtr 9 16 7 false,iQ 11 7 10,iM 12 11,gM 13 0 12 false,iG 14 (.a6Y (Tm 13) (Ci 0)) 12 false,gK 15 65 14 12 false,iG 16 (.un .not (Tm 15)) 12 false,iQ 17 12 16]
def xR:Rg:=[iT 2 false]
def rg:Rg:=[iI 3 0]
def rh:Rg:=[iM 18 3,iM 19 0,iA 20 (.a6X (Tm 19)),iB 21 .lss 18 20]
def ri:Rg:=[iM 24 0,iM 25 3,iA 26 (.a6Y (Tm 24) (Tm 25)),iK 27 64 26,iA 28 (.un .not (Tm 27))]
def rj:Rg:=[iT 2 false]
def rk:Rg:=[iM 22 3,iC 23 .add 22 1,iM 3 23]
def qz:aC:=(.seq (sq rh (.cond (Tm 21) .skip (.exit 0))) (.seq (.block 1 (sq ri (.cond (Tm 28) (sq rj .ret) .skip))) (.region rk)))
def rp:Rg:=[iT 2 true]
def AL:aC:=(sq rc (.seq (sq re (.cond (Tm 17) (sq xR .ret) .skip)) (.seq (sq rg (.block 0 (.loop qz))) (sq rp .ret))))
def aqM:List Nat:=[]
def VR:aS:=⟨1,29,AL,[.tmp 2]⟩
theorem qJ (P:List Nat) (v:Nat):aL P++[[.int .u32 (v:Int)]]=aL (P++[v]):=by simp[aL]
theorem qI {P:List Nat} (h:P.length≤35184372087808):roomFor (aL P).length 1 4:=by
 unfold roomFor;rw[cA];simp only[maxLen]; omega
def VL (a b:List Nat) (v:PV) (c i:Nat):PF:=(((((PF.nil.set 0 (aJ a)).set 1 (aJ b)).set 5 (v)).set 6 (.int .u64 c)).set 7 (.int .i64 i))
theorem D5 {C:Ctx} (L:oV C) (a b:List Nat) (ha:Lim a) (hb:Lim b) (η:val b≤val a) (hl:b.length≤a.length) (h1:a.length≤35184372087808) :
  EL.wp C (aV po.res (bY (aJ (aI (val a-val b))))) (PF.args [aJ a,aJ b]) .nil:=by
 simp only[go_sem,EL,D6,D7,D8,D9,po];refine wp_loop (α:=List Nat × Nat × PV × PH) (fun s=>VL a b s.2.2.1 s.2.1 s.1.length) (fun s=>s.2.2.2)
  (fun s=>s.1.length≤a.length∧Lim s.1∧s.2.1≤1∧val (a.take s.1.length)+4294967296 ^ s.1.length*s.2.1=val s.1+val (b.take s.1.length)∧bQ s.2.2.2 1 s.2.2.1 (aL s.1)) (fun s=>a.length-s.1.length) ([],0,.aB,.nil) ⟨by simp,by simp[Lim],by simp,by simp[val],.nil⟩ ?_ a_ ?_
 ·unfold VL;exact Lq
 rintro⟨P,c,v,H0⟩ ⟨hP,i,hc,w,S⟩;simp only at hP i hc w S ⊢;simp only[go_sem,pq,Ea,VL];by_cases U:P.length<a.length
 ·have B:(P.length:Int)<(a.length:Nat):=Om;have ε:=ha _ (a7L U);have δ:=cF a U;have β:(aL a)[P.length]?=some [.int .u32 ((a[P.length]:Nat):Int)]:=bU a U;generalize hx:a[P.length]=x at *
  have ex:IntKind.u64.wrap ((x:Nat):Int)=((x:Nat):Int):=bE Om;have fin:∀ (t:Nat) (A:PF),t<4294967296→val (b.take (P.length+1))=val (b.take P.length)+4294967296 ^ P.length*t →
    A 0=some (aJ a)→A 1=some (aJ b)→A 5=some v→A 8=some (.int .u64 (c+t:Nat))→A 7=some (.int .i64 P.length) →
    ∀ K:bR,(∀ u l v' R H2,u.length=P.length+1→Lim u→l≤1→val (a.take (P.length+1))+4294967296 ^ u.length*l=val u+val (b.take (P.length+1))→(VL a b v' l u.length).le R→bQ H2 1 v' (aL u)→K .normal R H2) →
    aC.wp C (.seq (.region TK) (.seq (.region TL) (.seq (.seq (.region LQ) (.cond (.tmp 35) (.seq (.region LS) (.region LT)) .skip)) (.region xO)))) (eX 1 (gG C (aC.wp C (.region xP)) K)) A H0:=by
   intro t A ht q g0 g1 g5 Z Y K hK;have step:∀ (d l:Nat),d<4294967296→l≤1→x+4294967296*l=d+(c+t)→val (a.take (P.length+1))+4294967296 ^ (P.length+1)*l=val (P++[d])+val (b.take (P.length+1)):=by
    intro d l hd ζ he;have h2:4294967296 ^ P.length*(x+4294967296*l)=4294967296 ^ P.length*(d+(c+t)):=by rw[he]
    rw[a7X,a7X,a7X] at h2;rw[jK,a9F,a8J,δ,q];omega
   simp only[go_sem,TK,g0,Y,β,ex,TL,LQ,Z];by_cases c2:x<c+t
   ·have E:((x:Nat):Int)<((c+t:Nat):Int):=Om;have N:IntKind.u64.wrap ((x:Int)+4294967296)=((x+4294967296:Nat):Int):=by rw[show (x:Int)+4294967296=((x+4294967296:Nat):Int) by omega];exact bE Om
    have H:IntKind.u64.wrap (((x+4294967296:Nat):Int)-((c+t:Nat):Int))=((x+4294967296-(c+t):Nat):Int):=by rw[show ((x+4294967296:Nat):Int)-((c+t:Nat):Int)=((x+4294967296-(c+t):Nat):Int) by omega];exact bE Om
    have J:IntKind.u32.wrap ((x+4294967296-(c+t):Nat):Int)=((x+4294967296-(c+t):Nat):Int):=by rw[cL,a8W Om]
    have M:(1:Nat)*1≤16777216:=by decide
    simp only[go_sem,E,LS,N,LT,xO,g5,Z,H,J,M];refine fI (src:=[[.int .u32 ((x+4294967296-(c+t):Nat):Int)]]) S rfl (qI Om) fun v' H' p _=>?_;rw[qJ] at p;simp only[go_sem,xP,Y,cZ (Om:P.length<9223372036854775807)];refine hK _ 1 v' _ H' (by simp) (i.app fun y Q=>by simp at Q; subst Q; omega) (a7O _) ?_ ?_ p
    ·rw[a7Q,a7U];exact step _ 1 Om (a7O _) Om
    ·unfold VL;rw[a7Q,a7U];exact Lq
   ·have E:¬ ((x:Nat):Int)<((c+t:Nat):Int):=Om;have H:IntKind.u64.wrap (((x:Nat):Int)-((c+t:Nat):Int))=((x-(c+t):Nat):Int):=by rw[show ((x:Nat):Int)-((c+t:Nat):Int)=((x-(c+t):Nat):Int) by omega];exact bE Om
    have J:IntKind.u32.wrap ((x-(c+t):Nat):Int)=((x-(c+t):Nat):Int):=by rw[cL,a8W Om]
    have M:(1:Nat)*1≤16777216:=by decide
    simp only[go_sem,E,xO,g5,Z,H,J,M];refine fI (src:=[[.int .u32 ((x-(c+t):Nat):Int)]]) S rfl (qI Om) fun v' H' p _=>?_;rw[qJ] at p;simp only[go_sem,xP,Y,cZ (Om:P.length<9223372036854775807)];refine hK _ 0 v' _ H' (by simp) (i.app fun y Q=>by simp at Q; subst Q; omega) (by decide) ?_ ?_ p
    ·rw[a7Q,a7U];exact step _ 0 Om (by decide) Om
    ·unfold VL;rw[a7Q,a7U];exact Lq
  simp only[aC.wp,go_sem] at fin;simp only[go_sem,B,Eb,Ec];by_cases V:P.length<b.length
  ·have F:(P.length:Int)<(b.length:Nat):=Om;have γ:=hb _ (a7L V);have q:=cF b V;have eb:IntKind.u64.wrap ((b[P.length]:Nat):Int)=((b[P.length]:Nat):Int):=bE Om;have es:IntKind.u64.wrap ((c:Int)+(b[P.length]:Int))=((c+b[P.length]:Nat):Int):=fC Om;simp only[go_sem,F,Ed,bU b V,eb,es];refine fin b[P.length] _ γ q rfl rfl rfl rfl rfl _ ?_;intro u l v' R H2 N H J O W X;rw[← N] at O;exact aD (α:=List Nat × Nat × PV × PH) (u,l,v',H2) ⟨by simp only; omega,H,J,O,X⟩ (by simp only; omega) W b_
  ·have F:¬ (P.length:Int)<(b.length:Nat):=Om;have q:val (b.take (P.length+1))=val (b.take P.length)+4294967296 ^ P.length*0:=by rw[a8D Om,a8D Om]; simp
   simp only[go_sem,F];refine fin 0 _ (by decide) q rfl rfl rfl rfl rfl _ ?_;intro u l v' R H2 N H J O W X;rw[← N] at O;exact aD (α:=List Nat × Nat × PV × PH) (u,l,v',H2) ⟨by simp only; omega,H,J,O,X⟩ (by simp only; omega) W b_
 ·have e:P.length=a.length:=Om;have B:¬ (P.length:Int)<(a.length:Nat):=Om;have hV:val P=val a-val b:=by
   rw[e,a8K,a8D hl] at w;have hlt:=fB i;rw[e] at hlt;rcases a9S c with h | h
   ·subst h; omega
   ·have:c=1:=Om;subst this; omega
  simp only[go_sem,B,pt];have hs:=L.trim _ i Om;rw[hV] at hs;refine tP hs S rfl fun F1 H1 _=>?_;simp only[go_sem];exact bA (.inr rfl) .nil rfl a_ ⟨.refl _,rfl⟩
def rR (a b:List Nat) (o i:Nat):PF:=((((PF.nil.set 0 (aJ a)).set 1 (aJ b)).set 5 (.osl o 1 0 (a.length+b.length))).set 6 (.int .i64 i))
def utG (a b:List Nat) (o i c j:Nat):PF:=((((((PF.nil.set 0 (aJ a)).set 1 (aJ b)).set 5 (.osl o 1 0 (a.length+b.length))).set 6 (.int .i64 i)).set 7 (.int .u64 c)).set 8 (.int .i64 j))
theorem aqD {C:Ctx} (a b:List Nat) (ha:Lim a) (hb:Lim b) (h1:a.length≤35184372087808) (h2:b.length≤35184372087808) (L:List Nat) (i:Nat) (hi:i<a.length) (N:FC a b L i) (q:Nat) (K:bR) (F:PF) (H:PH) (J:(rR a b q i).le F) (hH:H q=some (.rows 1 (aL L)))
  (hK:∀ L' F' H',FC a b L' (i+1)→(rR a b q i).le F'→H' q=some (.rows 1 (aL L'))→K .normal F' H') :
  aC.wp C (.block 1 (.seq (.region TR) (.seq (.seq (.region TS) (.block 2 (.loop MA))) (.region MB)))) K F H:=by
 have f0:=J 0 _ (by unfold rR; simp only[go_sem]; rfl);have f1:=J 1 _ (by unfold rR; simp only[go_sem]; rfl);have f5:=J 5 _ (by unfold rR; simp only[go_sem]; rfl);have f6:=J 6 _ (by unfold rR; simp only[go_sem]; rfl);have hx:=ha _ (a7L hi);have Y:=cF a hi;generalize β:a[i]=x at *
 have V:(aL a)[i]?=some [.int .u32 ((x:Nat):Int)]:=by rw[bU a hi,β]
 simp only[go_sem,TR,TS];refine wp_loop (α:=List Nat × Nat × Nat) (fun t=>utG a b q i t.2.1 t.2.2) (fun t=>PH.nil.set q (.rows 1 (aL t.1)))
  (fun t=>t.2.2≤b.length∧t.1.length=a.length+b.length∧Lim t.1∧t.2.1<4294967296∧val t.1+4294967296 ^ (i+t.2.2)*t.2.1=val (a.take i)*val b+4294967296 ^ i*(x*val (b.take t.2.2))∧∀ j y,i+b.length≤j→t.1[j]?=some y→y=0) (fun t=>b.length-t.2.2) (L,0,0)
  ⟨by simp,N.len,N.lim,by simp,by simp[val,N.v],N.z⟩ ?_ (PH.aK a_ hH) ?_
 ·unfold utG;exact Lq
 rintro⟨M,c,j⟩ ⟨hj,U,e,X,u,Q⟩;simp only at hj U e X u Q;simp only[go_sem,MA,Em,utG];by_cases R:j<b.length
 ·have w:(j:Int)<(b.length:Nat):=Om;have O:=hb _ (a7L R);have Z:=cF b R;generalize γ:b[j]=y at *
  have W:(aL b)[j]?=some [.int .u32 ((y:Nat):Int)]:=by rw[bU b R,γ]
  have d:i+j<M.length:=Om;have E:=e _ (a7L d);have p:=GJ d;generalize δ:M[i+j]=z at *
  have B:(aL M)[i+j]?=some [.int .u32 ((z:Nat):Int)]:=by rw[bU M d,δ]
  have ex:IntKind.u64.wrap ((x:Nat):Int)=((x:Nat):Int):=bE Om;have ey:IntKind.u64.wrap ((y:Nat):Int)=((y:Nat):Int):=bE Om;have ez:IntKind.u64.wrap ((z:Nat):Int)=((z:Nat):Int):=bE Om;have em:=abI hx O;have ζ:x*y≤4294967295*4294967295:=baR Om Om;have e1:IntKind.u64.wrap (((x*y:Nat):Int)+(z:Int))=((x*y+z:Nat):Int):=fC Om;have e2:IntKind.u64.wrap (((x*y+z:Nat):Int)+(c:Int))=((x*y+z+c:Nat):Int):=fC Om;have A:IntKind.i64.wrap ((i:Int)+(j:Int))=((i+j:Nat):Int):=gI Om;have hlt:((i+j:Nat):Int)<((a.length+b.length:Nat):Int):=Om;generalize ht:x*y+z+c=t at *
  have ε:t<4294967296*4294967296:=Om;have l:(aL M).set (i+j) [.int .u32 ((t%4294967296:Nat):Int)]=aL (M.set (i+j) (t%4294967296)):=fN M (i+j) _;simp only[go_sem,w];refine bW .nil eT a_ ?_;simp only[go_sem,En,V,W,ex,ey,em,A,hlt,B,ez,e1,e2,Eo,cL,l,Ep,xM,p6,wZz j];refine aD (M.set (i+j) (t%4294967296),t/4294967296,j+1) ⟨by simp only; omega,by simp only[a9N]; exact U,e.set _ (a9B _ (by decide)),by simp only; omega,?_,rz Q _ _ Om⟩ (by simp only; omega) ?_ (PH.aK a_ Sq)
  ·simp only;have S:=p (t%4294967296);have h4:4294967296 ^ (i+(j+1))*(t/4294967296)+4294967296 ^ (i+j)*(t%4294967296)=4294967296 ^ (i+j)*t:=by rw[← a9T,a9F,a8J,← a7X,baX]
   have h5:4294967296 ^ (i+j)*t=4294967296 ^ (i+j)*(x*y)+4294967296 ^ (i+j)*z+4294967296 ^ (i+j)*c:=by rw[← ht,a7X,a7X]
   have h6:4294967296 ^ i*(x*val (b.take (j+1)))=4294967296 ^ i*(x*val (b.take j))+4294967296 ^ (i+j)*(x*y):=by rw[Z,a7X,a7X,Nat.pow_add];congr 1;rw[Nat.mul_left_comm x,a8J]
   omega
  ·exact Lq
 ·have he:j=b.length:=Om;have w:¬ (j:Int)<(b.length:Nat):=Om;subst he;have d:i+b.length<M.length:=Om;have E:M[i+b.length]=0:=Q _ _ (a7O _) (a7W d);have p:=GJ d;have B:(aL M)[i+b.length]?=some [.int .u32 ((0:Nat):Int)]:=by rw[bU M d,E]
  have A:IntKind.i64.wrap ((i:Int)+(b.length:Int))=((i+b.length:Nat):Int):=gI Om;have hlt:((i+b.length:Nat):Int)<((a.length+b.length:Nat):Int):=Om;have l:(aL M).set (i+b.length) [.int .u32 ((c%4294967296:Nat):Int)]=aL (M.set (i+b.length) c):=by rw[a8W X]; exact fN M _ _
  simp only[go_sem,w,MB,A,cL,hlt,B,l];refine hK (M.set (i+b.length) c) _ _ ⟨by rw[a9N]; exact U,e.set _ X,?_,fun j y hj O=>?_⟩ (by unfold rR; exact Lq) Sq
  ·have S:=p c;rw[E,Nat.mul_zero,a9O] at S;rw[S,u,a8K,Y,a8O,a8J]
  ·rw[List.getElem?_set_ne Om] at O;exact Q j y Om O
theorem Eh {C:Ctx} (L:oV C) (a b:List Nat) (H:Lim a) (J:Lim b) (R:a.length≤8388608) (S:b.length≤8388608) :
  EM.wp C (aV p4.res (bY (aJ (aI (val a*val b))))) (PF.args [aJ a,aJ b]) .nil:=by
 have l:IntKind.i64.wrap ((a.length:Int)+(b.length:Int))=((a.length+b.length:Nat):Int):=gI Om;have w:((a.length+b.length:Nat):Int)*((4:Nat):Int)≤140737488355328:=Om;have y:((a.length+b.length:Nat):Int)≤9223372036854775807:=Om;have N:a7M (a.length+b.length) [PV.int .u32 0]=aL (a7M (a.length+b.length) 0):=by simp[aL]
 simp only[go_sem,EM,Ei,Ej,p4,a7I,l,w,y,N];refine aR fun o U=>?_;simp only[go_sem,Ek];refine wp_loop (α:=List Nat × Nat) (fun t=>rR a b o t.2) (fun t=>PH.nil.set o (.rows 1 (aL t.1))) (fun t=>t.2≤a.length∧FC a b t.1 t.2) (fun t=>a.length-t.2) (a7M (a.length+b.length) 0,0)
  ⟨by simp,by simp,vS _,by simp[val,sD],fun j x _ B=>by rw[List.getElem?_replicate] at B; split at B<;>simp_all⟩ ?_ (PH.aK a_ Sq) ?_
 ·unfold rR;exact Lq
 rintro⟨M,i⟩ ⟨hi,d⟩;simp only at hi d;simp only[go_sem,p5,El,rR];by_cases E:i<a.length
 ·have e:(i:Int)<(a.length:Nat):=Om;have p:=aqD (C:=C) a b H J Om Om M i E d o;simp only[go_sem] at p;simp only[go_sem,e];refine p _ _ _ (by unfold rR; exact Lq) Sq ?_;intro L' O H' u c q;have F:=c 6 _ (by unfold rR; simp only[go_sem]; rfl);have g0:=c 0 _ (by unfold rR; simp only[go_sem]; rfl);have g1:=c 1 _ (by unfold rR; simp only[go_sem]; rfl);have Q:=c 5 _ (by unfold rR; simp only[go_sem]; rfl);simp only[go_sem,p7,F,wZz i];refine aD (L',i+1) ⟨by simp only; omega,u⟩ (by simp only; omega) ?_ (PH.aK a_ q);exact Lq
 ·have K:i=a.length:=Om;subst K;have e:¬ (a.length:Int)<(a.length:Nat):=Om;have hV:val M=val a*val b:=by rw[d.v,a8K]
  simp only[go_sem,p8];have A:=L.trim _ d.lim (by rw[d.len]; omega);rw[hV] at A;refine qQ (o:=o) (s:=1) (k:=a.length+b.length) (rs:=aL M) (v:=aJ (aI (val a*val b))) ?_ rfl Sq (by rw[cA,d.len]; exact a7O _) ?_
  ·rw[a8D (by rw[cA,d.len]; exact a7O _)]; exact A
  ·simp only[go_sem];exact bA (.inr rfl) .nil rfl a_ ⟨.refl _,rfl⟩
structure ft (C:Ctx):Prop extends fp C where
 minus:∀ a b,Lim a→Lim b→val b≤val a→b.length≤a.length→a.length≤35184372087808→aH C 42 [aJ a,aJ b] .nil (aF (aJ (aI (val a-val b))))
 times:∀ a b,Lim a→Lim b→a.length≤8388608→b.length≤8388608→aH C 44 [aJ a,aJ b] .nil (aF (aJ (aI (val a*val b))))
theorem afZ {C:Ctx} (L:ft C) (a b:List Nat) (i:Lim a) (l:Lim b) (u:a.length≤35184372087808) (w:b.length≤35184372087808) :
  TM.wp C (aV apZ.res (bY (opV (dY (val a) (val b)) (val a*val b)))) (PF.args [aJ a,aJ b]) .nil:=by
 unfold opV;simp only[go_sem,TM,agA,agB,apZ];refine aA (L.large a i u) rfl ?_;by_cases d:nl (val a)>512
 ·simp only[go_sem,d,xd];rw[if_pos (by simp[dY,d])];exact eQ rfl
 simp only[go_sem,d];refine aA (L.large b l w) rfl ?_;by_cases e:nl (val b)>512
 ·simp only[go_sem,e,xd];rw[if_pos (by simp[dY,e])];exact eQ rfl
 rw[if_neg (by simp[dY,d,e])];simp only[go_sem,e,agC];refine aA (L.trim a i u) rfl ?_;simp only[go_sem];refine aA (L.trim b l w) rfl ?_;simp only[go_sem];have q:=L.times (aI (val a)) (aI (val b)) (aX _) (aX _) (by rw[bB]; omega) (by rw[bB]; omega);rw[aW,aW] at q;refine aA q rfl ?_;have x:=lJ (a:=val a) (b:=val b) (m:=512) (n:=512) Om Om;have p:=L.large (aI (val a*val b)) (aX _) (by rw[bB]; omega);rw[aW] at p;simp only[go_sem,agD];refine aA p rfl ?_;unfold szV szL szE;by_cases c:nl (val a*val b)>512
 ·rw[if_pos c,if_pos c];simp only[go_sem,c,agE];exact eQ rfl
 ·rw[if_neg c,if_neg c];simp only[go_sem,c,agF];exact bA (.inr rfl) .nil rfl a_ ⟨.refl _,rfl⟩
def wT (a:List Nat) (i:Nat):Nat:=a.getD i 0
theorem Jx {a:List Nat} (h:Lim a) (i:Nat):wT a i<4294967296:=by
 unfold wT;rw[a8B];rcases a8F i a.length with h1 | h1
 ·rw[a7W h1]; exact h _ (a7L h1)
 ·rw[a8Z h1]; decide
theorem ZI {a:List Nat} {i:Nat} (h:i<a.length):wT a i=a[i]:=by simp[wT,a8B,h]
theorem PG {a:List Nat} {i:Nat} (h:¬ i<a.length):wT a i=0:=by simp[wT,a8B,h]
theorem TT (a:List Nat) (i:Nat):val (a.take (i+1))=val (a.take i)+4294967296 ^ i*wT a i:=by
 rcases a8F i a.length with h | h
 ·rw[ZI h]; exact cF a h
 ·rw[PG Om,a8D Om,a8D Om]; simp
def tM (a b:List Nat) (v:PV) (c i:Nat):PF:=(((((PF.nil.set 0 (aJ a)).set 1 (aJ b)).set 5 (v)).set 6 (.int .u64 c)).set 7 (.int .i64 i))
theorem Tu {C:Ctx} (L:oV C) (a b:List Nat) (ha:Lim a) (hb:Lim b) (h1:a.length≤8388608) (h2:b.length≤8388608) :
  LX.wp C (aV Hm.res (bY (aJ (aI (val a+val b))))) (PF.args [aJ a,aJ b]) .nil:=by
 simp only[go_sem,LX,Tv,Tw,Tx,Tz,Hm];refine wp_loop (α:=List Nat × Nat × PV × PH) (fun s=>tM a b s.2.2.1 s.2.1 s.1.length) (fun s=>s.2.2.2)
  (fun s=>s.1.length≤max a.length b.length+1∧(s.1.length≤max a.length b.length∨s.2.1=0)∧Lim s.1∧s.2.1≤1∧val s.1+4294967296 ^ s.1.length*s.2.1=val (a.take s.1.length)+val (b.take s.1.length)∧bQ s.2.2.2 1 s.2.2.1 (aL s.1)) (fun s=>max a.length b.length+1-s.1.length) ([],0,.aB,.nil)
  ⟨by simp,by simp,by simp[Lim],by simp,by simp[val],.nil⟩ ?_ a_ ?_
 ·unfold tM;exact Lq
 rintro⟨P,c,v,H0⟩ ⟨hP,δ,l,hc,B,hO⟩;simp only at hP δ l hc B hO ⊢;have ι:=Jx ha P.length;have κ:=Jx hb P.length;have η:=TT a P.length;have θ:=TT b P.length;generalize hx:wT a P.length=x at *
 generalize Z:wT b P.length=y at *
 have ex:IntKind.u64.wrap ((x:Nat):Int)=((x:Nat):Int):=bE Om;have ey:IntKind.u64.wrap ((y:Nat):Int)=((y:Nat):Int):=bE Om;have M:IntKind.u64.wrap ((c:Int)+(x:Int))=((c+x:Nat):Int):=fC Om;have N:IntKind.u64.wrap (((c+x:Nat):Int)+(y:Int))=((c+x+y:Nat):Int):=fC Om;have ζ:P.length<a.length→(aL a)[P.length]?=some [.int .u32 ((x:Nat):Int)]:=fun h=>by rw[bU a h,← hx,ZI h]
 have X:P.length<b.length→(aL b)[P.length]?=some [.int .u32 ((y:Nat):Int)]:=fun h=>by rw[bU b h,← Z,ZI h]
 have Y:¬ P.length<a.length→x=0:=fun h=>by rw[← hx,PG h]
 have O:¬ P.length<b.length→y=0:=fun h=>by rw[← Z,PG h]
 have body:(P.length≤max a.length b.length)→∀ K:bR,(∀ i q v' Q H2,i.length=P.length+1→Lim i→q≤1→(P.length+1≤max a.length b.length∨q=0)→val i+4294967296 ^ i.length*q=val (a.take (P.length+1))+val (b.take (P.length+1))→(tM a b v' q i.length).le Q→bQ H2 1 v' (aL i)→K .normal Q H2) →
   ∀ F:PF,(tM a b v c P.length).le F→aC.wp C (.seq (.block 1 (.seq (.region dl) (.seq (.seq (.region dp) (.cond (.tmp 29) (.region dt) .skip)) (.seq (.seq (.region LY) (.cond (.tmp 40) (.region LZ) .skip)) (.seq (.region BZ) (.region CA)))))) (.region CB)) K F H0:=by
  intro μ K hK F V;have g0:F 0=some (aJ a):=V 0 _ (by unfold tM; simp only[go_sem]);have g1:F 1=some (aJ b):=V 1 _ (by unfold tM; simp only[go_sem]);have g5:F 5=some v:=V 5 _ (by unfold tM; simp only[go_sem]);have g6:F 6=some (.int .u64 c):=V 6 _ (by unfold tM; simp only[go_sem]);have u:F 7=some (.int .i64 P.length):=V 7 _ (by unfold tM; simp only[go_sem]);have fin:∀ E:PF,E 0=some (aJ a)→E 1=some (aJ b)→E 5=some v→E 7=some (.int .i64 P.length)→E 8=some (.int .u64 (c+x+y:Nat)) →
    aC.wp C (.seq (.region BZ) (.region CA)) (eX 1 (gG C (aC.wp C (.region CB)) K)) E H0:=by
   intro E q0 q1 q5 q7 q8;have ε:(1:Nat)*1≤16777216:=by decide
   generalize ht:c+x+y=t at *
   have ν:t<2*4294967296:=Om;simp only[go_sem,BZ,q5,q8,ε,cL];refine fI (src:=[[.int .u32 ((t%4294967296:Nat):Int)]]) hO rfl (qI Om) fun v' H' W _=>?_;rw[qJ] at W;simp only[go_sem,CA,q8,xM,CB,q7,cZ (Om:P.length<9223372036854775807)];refine hK (P++[t%4294967296]) (t/4294967296) v' _ H' (by simp) (l.app fun y Z=>by simp at Z; subst Z; omega) Om ?_ ?_ ?_ W
   ·rcases a8F P.length (max a.length b.length) with h | h
    ·exact .inl h
    ·right;have h1:=Y Om;have h2:=O Om;omega
   ·rw[jK,a7Q,a7U,η,θ,a9F,a8J,a9T,← a7X];rw[show t%4294967296+4294967296*(t/4294967296)=t from Nat.mod_add_div t 4294967296];have h3:4294967296 ^ P.length*t=4294967296 ^ P.length*c+4294967296 ^ P.length*x+4294967296 ^ P.length*y:=by rw[← ht,a7X,a7X]
    omega
   ·unfold tM;rw[a7Q,a7U];exact Lq
  simp only[aC.wp,go_sem] at fin;simp only[go_sem,dl,g6,dp,u,g0];by_cases c1:P.length<a.length
  ·have e:(P.length:Int)<(a.length:Nat):=Om;simp only[go_sem,e,dt,g0,u,ζ c1,ex,M,LY,g1];by_cases H:P.length<b.length
   ·have d:(P.length:Int)<(b.length:Nat):=Om;simp only[go_sem,d,LZ,g1,u,X H,ey,N];exact fin _ (by simp only[go_sem,g0]) (by simp only[go_sem,g1]) (by simp only[go_sem,g5]) (by simp only[go_sem,u]) rfl
   ·have d:¬ (P.length:Int)<(b.length:Nat):=Om;have h0:=O H;simp only[go_sem,d];exact fin _ (by simp only[go_sem,g0]) (by simp only[go_sem,g1]) (by simp only[go_sem,g5]) (by simp only[go_sem,u]) (by simp only[go_sem,h0])
  ·have e:¬ (P.length:Int)<(a.length:Nat):=Om;have h0:=Y c1;simp only[go_sem,e,LY,g1,u];by_cases H:P.length<b.length
   ·have d:(P.length:Int)<(b.length:Nat):=Om;have β:IntKind.u64.wrap ((c:Int)+(y:Int))=((c+x+y:Nat):Int):=by rw[h0]; exact fC Om
    simp only[go_sem,d,LZ,g1,u,X H,ey,β];exact fin _ (by simp only[go_sem,g0]) (by simp only[go_sem,g1]) (by simp only[go_sem,g5]) (by simp only[go_sem,u]) rfl
   ·have d:¬ (P.length:Int)<(b.length:Nat):=Om;have γ:=O H;simp only[go_sem,d];exact fin _ (by simp only[go_sem,g0]) (by simp only[go_sem,g1]) (by simp only[go_sem,g5]) (by simp only[go_sem,u]) (by simp only[go_sem,h0,γ])
 simp only[aC.wp,go_sem] at body;have p:¬ P.length<a.length→¬ P.length<b.length→c=0→∀ F:PF,F 5=some v→aC.wp C (.seq (.region TO) .ret) (aV [.tmp 4] (bY (aJ (aI (val a+val b))))) F H0:=by
  intro n1 n2 n3 F f5;have hV:val P=val a+val b:=by rw[n3,a8D Om,a8D Om] at B;omega
  have hs:=L.trim _ l Om;rw[hV] at hs;simp only[go_sem,TO,f5];refine tP hs hO rfl fun F1 H1 _=>?_;simp only[go_sem];exact bA (.inr rfl) .nil rfl a_ ⟨.refl _,rfl⟩
 simp only[aC.wp,go_sem] at p;simp only[go_sem,Eg,T0,tM];by_cases c1:P.length<a.length
 ·have e:(P.length:Int)<(a.length:Nat):=Om;simp only[go_sem,e];refine body Om _ ?_ _ (by unfold tM; exact Lq);intro i q v' Q H2 M N R w A S U;rw[← M] at A w;exact aD (α:=List Nat × Nat × PV × PH) (i,q,v',H2) ⟨by simp only; omega,w,N,R,A,U⟩ (by simp only; omega) S b_
 ·have e:¬ (P.length:Int)<(a.length:Nat):=Om;simp only[go_sem,e];by_cases H:P.length<b.length
  ·have d:(P.length:Int)<(b.length:Nat):=Om;simp only[go_sem,d];refine body Om _ ?_ _ (by unfold tM; exact Lq);intro i q v' Q H2 M N R w A S U;rw[← M] at A w;exact aD (α:=List Nat × Nat × PV × PH) (i,q,v',H2) ⟨by simp only; omega,w,N,R,A,U⟩ (by simp only; omega) S b_
  ·have d:¬ (P.length:Int)<(b.length:Nat):=Om;simp only[go_sem,d];by_cases c3:c=0
   ·have J:¬ (c:Int)>0:=Om;simp only[go_sem,J];exact p c1 H c3 _ rfl
   ·have J:(c:Int)>0:=Om;simp only[go_sem,J];refine body Om _ ?_ _ (by unfold tM; exact Lq);intro i q v' Q H2 M N R w A S U;rw[← M] at A w;exact aD (α:=List Nat × Nat × PV × PH) (i,q,v',H2) ⟨by simp only; omega,w,N,R,A,U⟩ (by simp only; omega) S b_
structure OA (C:Ctx):Prop extends ft C where
 plus:∀ a b,Lim a→Lim b→a.length≤8388608→b.length≤8388608→aH C 43 [aJ a,aJ b] .nil (aF (aJ (aI (val a+val b))))
theorem aeR {C:Ctx} (L:OA C) (a b:List Nat) (i:Lim a) (l:Lim b) (u:a.length≤35184372087808) (w:b.length≤35184372087808) :
  TE.wp C (aV apS.res (bY (opV (dY (val a) (val b)) (val a+val b)))) (PF.args [aJ a,aJ b]) .nil:=by
 unfold opV;simp only[go_sem,TE,aeS,aeT,apS];refine aA (L.large a i u) rfl ?_;by_cases d:nl (val a)>512
 ·simp only[go_sem,d,xa];rw[if_pos (by simp[dY,d])];exact eQ rfl
 simp only[go_sem,d];refine aA (L.large b l w) rfl ?_;by_cases e:nl (val b)>512
 ·simp only[go_sem,e,xa];rw[if_pos (by simp[dY,e])];exact eQ rfl
 rw[if_neg (by simp[dY,d,e])];simp only[go_sem,e,aeU];refine aA (L.trim a i u) rfl ?_;simp only[go_sem];refine aA (L.trim b l w) rfl ?_;simp only[go_sem];have q:=L.plus (aI (val a)) (aI (val b)) (aX _) (aX _) (by rw[bB]; omega) (by rw[bB]; omega);rw[aW,aW] at q;refine aA q rfl ?_;have x:=Qa (a:=val a) (b:=val b) (m:=512) Om Om;have p:=L.large (aI (val a+val b)) (aX _) (by rw[bB]; omega);rw[aW] at p;simp only[go_sem,aeV];refine aA p rfl ?_;unfold szV szL szE;by_cases c:nl (val a+val b)>512
 ·rw[if_pos c,if_pos c];simp only[go_sem,c,aeW];exact eQ rfl
 ·rw[if_neg c,if_neg c];simp only[go_sem,c,aeX];exact bA (.inr rfl) .nil rfl a_ ⟨.refl _,rfl⟩
theorem agH {C:Ctx} (L:OA C) (a b:List Nat) (i:Lim a) (l:Lim b) (p:a.length≤35184372087808) (q:b.length≤35184372087808) :
  TQ.wp C (aV aqC.res (bY (rQ (val a) (val b)))) (PF.args [aJ a,aJ b]) .nil:=by
 unfold rQ;simp only[go_sem,TQ,agI,agJ,aqC];refine aA (L.large a i p) rfl ?_;by_cases c:nl (val a)>512
 ·simp only[go_sem,c,xe];rw[if_pos (by simp[dY,c])];exact eQ rfl
 simp only[go_sem,c];refine aA (L.large b l q) rfl ?_;by_cases d:nl (val b)>512
 ·simp only[go_sem,d,xe];rw[if_pos (by simp[dY,d])];exact eQ rfl
 rw[if_neg (by simp[dY,c,d])];simp only[go_sem,d,agK];refine aA (L.cmp a b i l p q) rfl ?_;by_cases e:val a<val b
 ·have:dP (val a) (val b)=-1:=by simp[dP,e]
  rw[if_pos e];simp only[go_sem,this,show ((-1:Int)<0) by decide,agL];exact eQ rfl
 ·have:¬ dP (val a) (val b)<0:=by unfold dP;rw[if_neg e];split<;>decide
  rw[if_neg e];have x:=fT (Nat.sub_le (val a) (val b));have w:=fT (Om:val b≤val a);simp only[go_sem,this,agM];refine aA (L.trim a i p) rfl ?_;simp only[go_sem];refine aA (L.trim b l q) rfl ?_;simp only[go_sem];have u:=L.minus (aI (val a)) (aI (val b)) (aX _) (aX _) (by rw[aW,aW]; omega) (by rw[bB,bB]; exact w) (by rw[bB]; omega);rw[aW,aW] at u;refine aA u rfl ?_;rw[AF Om];simp only[go_sem];exact bA (.inr rfl) .nil rfl a_ ⟨.refl _,rfl⟩
def Sv (k:Nat) (v:Nat):PF:=((PF.nil.set 3 (.int .i64 k)).set 4 (.int .u32 v))
theorem Sx {C:Ctx} (L:oV C) (xs:List Nat) (F:Lim xs) (O:xs.length≤35184372087808) :
  LK.wp C (aV Hj.res (aF (.int .i64 (cM (val xs):Nat)))) (PF.args [aJ xs]) .nil:=by
 simp only[go_sem,LK,Sy,Sz,Hj];refine aA (L.trim xs F O) rfl ?_;have Q:=fM F;simp only[go_sem,S0,a7I,bB,BY];by_cases u:nl (val xs)=0
 ·simp only[go_sem,decide_eq_true u,S1];refine aQ (.inr rfl) rfl ?_;have:val xs=0:=hZ.1 u;simp[bP,this,jM]
 obtain⟨n,M⟩:∃ n,nl (val xs)=n+1:=⟨nl (val xs)-1,by omega⟩;obtain⟨t,q,x⟩:=Su (xs:=aI (val xs)) (aX _) (by rw[aW]; exact M);have e:t<4294967296:=aX _ t (baE q);have N:val xs=val ((aI (val xs)).take n)+4294967296 ^ n*t:=by
  have:=aW (val xs);have c:n<(aI (val xs)).length:=by rw[bB]; omega
  have K:(aI (val xs))[n]=t:=by rw[a7W c] at q; exact a9X.inj q
  conv=>lhs; rw[← this,← a8D (l:=aI (val xs)) (i:=n+1) (by rw[bB]; omega)]
  rw[cF _ c,K]
 have R:cM (val xs)=32*n+cM t:=by have B:=fB ((aX (val xs)).take n);rw[a8C,bB,a9U Om] at B;have p:=Ir (lo:=val ((aI (val xs)).take n)) (k:=32*n) (hi:=t) (by rw[Nat.pow_mul]; exact B) x;rw[← p,Nat.pow_mul];exact congrArg cM N
 have d:(aL (aI (val xs)))[n]?=some [.int .u32 (t:Nat)]:=by simp[aL,q]
 have H:IntKind.i64.wrap (((nl (val xs):Nat):Int)-1)=(n:Int):=by rw[wrap_i64 Om Om]; omega
 have J:IntKind.i64.wrap (32*(n:Int))=((32*n:Nat):Int):=by rw[wrap_i64 Om Om]; omega
 simp only[go_sem,decide_eq_false u,S3,S4,a7I,bB,H,J,d];refine wp_loop (α:=Nat × Nat) (fun a=>Sv a.1 a.2) (fun _=>.nil) (fun a=>a.1+cM a.2=32*n+cM t∧a.2<4294967296) (fun a=>a.2) (32*n,t) ⟨rfl,e⟩ ?_ a_ ?_
 ·unfold Sv;exact Lq
 rintro⟨k,v⟩ ⟨p,hlt⟩;simp only at p hlt;have E:cM t≤32:=(lT t 32).2 e;simp only[go_sem,Sw,S5,Sv];by_cases A:(v:Int)>0
 ·have y:v≠0:=Om;have w:IntKind.u32.wrap (a9Q (v:Int) 2)=((v/2:Nat):Int):=by rw[show a9Q (v:Int) 2=((v/2:Nat):Int) from Int.ofNat_tdiv v 2,cL,a8W Om]
  simp only[go_sem,A,S6,S7,w,wZz k];refine aD (k+1,v/2) ⟨?_,?_⟩ (Nat.div_lt_self Om (by decide)) ?_ a_
  ·have:=pG y;simp only; omega
  ·simp only; omega
  ·exact Lq
 ·have:v=0:=Om;subst this;simp only[go_sem,A,Dz];refine aQ (.inr rfl) rfl ?_;rw[jM] at p;simp only[bP,PV.int.injEq,true_and];omega
theorem Cg (n:Nat):4294967296 ^ (n/32)*2 ^ (n%32)=2 ^ n:=by
 rw[show (4294967296:Nat)=2 ^ 32 by decide,← Nat.pow_mul,← Nat.pow_add];congr 1;omega
theorem ayO (n:Nat):IntKind.i64.wrap (a9Q (n:Int) 32)=IntKind.i64.wrap ((n/32:Nat):Int):=by
 rw[show a9Q (n:Int) 32=((n/32:Nat):Int) from Int.ofNat_tdiv n 32]
theorem azB (n:Nat):Int.tmod (n:Int) 32=((n%32:Nat):Int):=Int.ofNat_tmod n 32
def aMX (a:List Nat) (n:Nat) (v:PV) (c i:Nat):PF:=(((((PF.nil.set 0 (aJ a)).set 1 (.int .i64 n)).set 5 (v)).set 6 (.int .u64 c)).set 7 (.int .i64 i))
theorem aBX {C:Ctx} (L:oV C) (a:List Nat) (n:Nat) (ha:Lim a) (h1:a.length≤8388608) (hn:n≤8388608) (h0:a.length=0→val a=0) :
  dw.wp C (aV uup.res (oU 1 (aL (aI (val a*2 ^ n))))) (PF.args [aJ a,.int .i64 n]) .nil:=by
 simp only[go_sem,dw,aBY,aBZ,uup,a7I,BY];by_cases B:a.length=0
 ·simp only[go_sem,decide_eq_true B,aCA];rw[h0 B,Nat.zero_mul,fO];exact wq (.inr rfl) rfl
 have ez:IntKind.i64.wrap (a9Q (n:Int) 32)=((n/32:Nat):Int):=by rw[ayO,dx Om]
 have em:=azB n;have eu:IntKind.u64.wrap ((n%32:Nat):Int)=((n%32:Nat):Int):=bE Om;have S:=Cg n;have R:n%32<32:=a9B _ (by decide);have hz:n/32≤8388608:=Om;generalize ε:n/32=z at *
 generalize γ:n%32=s at *
 have O:((z:Nat):Int)*((4:Nat):Int)≤140737488355328:=Om;have Q:((z:Nat):Int)≤9223372036854775807:=Om;have V:a7M z [PV.int .u32 0]=aL (a7M z 0):=by simp[aL]
 have J:2 ^ s≤2147483648:=baI (show 0<2 by decide) (Om:s≤31);have w:0<2 ^ s:=baD (by decide);simp only[go_sem,decide_eq_false B,aCB,ez,O,Q,V];refine aR fun o ho=>?_;simp only[go_sem,aCC,aCD];refine wp_loop (α:=List Nat × Nat × Nat × PV × PH) (fun t=>aMX a n t.2.2.2.1 t.2.1 t.2.2.1) (fun t=>t.2.2.2.2)
  (fun t=>t.2.2.1≤a.length∧t.1.length=z+t.2.2.1∧Lim t.1∧t.2.1<2 ^ s∧val t.1+4294967296 ^ t.1.length*t.2.1=val (a.take t.2.2.1)*2 ^ n∧bQ t.2.2.2.2 1 t.2.2.2.1 (aL t.1)) (fun t=>a.length-t.2.2.1) (a7M z 0,0,0,.osl o 1 0 z,PH.nil.set o (.rows 1 (aL (a7M z 0))))
  ⟨by simp,by simp,vS _,w,by simp[val,sD],.inr ⟨o,aL (a7M z 0),by rw[cA,List.length_replicate],by simp only[go_sem],by rw[cA]; exact a7O _,a8K⟩⟩ ?_ b_ ?_
 ·unfold aMX;exact Lq
 rintro⟨P,c,i,v,H0⟩ ⟨hi,W,d,X,p,M⟩;simp only at hi W d X p M ⊢;simp only[go_sem,agN,aCE,aMX];by_cases E:i<a.length
 ·have q:(i:Int)<(a.length:Nat):=Om;have β:=ha _ (a7L E);have U:=cF a E;have N:=bU a E;generalize Y:a[i]=x at *
  have δ:x*2 ^ s≤4294967295*2147483648:=baR Om J;have ex:IntKind.u64.wrap ((x:Nat):Int)=((x:Nat):Int):=bE Om;have Z:2 ^ s*x=x*2 ^ s:=a8N _ _;have H:shift .shl .u64 (x:Int) (s:Int)=some (.int .u64 ((2 ^ s*x:Nat):Int)):=LD Om Om;have F:=orI (a:=2 ^ s*x) (b:=c) (n:=c+2 ^ s*x) Om Om (by rw[Nat.or_comm]; exact Qz X Om) Om;have A:(c+2 ^ s*x)/4294967296<2 ^ s:=by rw[baN (by decide)];have:2 ^ s*(x+1)≤2 ^ s*4294967296:=a9V _ Om;rw[a7X,Nat.mul_one] at this;omega
  have u:(1:Nat)*1≤16777216:=by decide
  simp only[go_sem,q,aCF,N,ex,em,eu,H,F,aCG,cL,u];refine fI (src:=[[.int .u32 (((c+2 ^ s*x)%4294967296:Nat):Int)]]) M rfl (qI Om) fun v' H' l _=>?_;rw[qJ] at l;simp only[go_sem,aCH,xM,agO,wZz i];refine aD (P++[(c+2 ^ s*x)%4294967296],(c+2 ^ s*x)/4294967296,i+1,v',H') ⟨by simp only; omega,by simp; omega,d.app fun y hy=>by simp at hy; subst hy; exact a9B _ (by decide),A,?_,l⟩ (by simp only; omega) ?_ b_
  ·simp only;have hp:4294967296 ^ P.length*(2 ^ s*x)=4294967296 ^ i*x*2 ^ n:=by rw[W,Nat.pow_add,← S];rw[a8J,Nat.mul_left_comm (4294967296 ^ i),← a8J (4294967296 ^ z),a8N (4294967296 ^ z*2 ^ s),a8J,a8N x]
   rw[jK,a7Q,a7U,a9F,a8J,a9T,← a7X,Nat.mod_add_div,U,a7X,a8O,← a9T,p,hp]
  ·exact Lq
 ·have e:i=a.length:=Om;subst e;have q:¬ (a.length:Int)<(a.length:Nat):=Om;have u:(1:Nat)*1≤16777216:=by decide
  have hV:val (P++[c])=val a*2 ^ n:=by rw[jK,p,a8K]
  have K:Lim (P++[c]):=d.app fun x Y=>by simp at Y; omega
  have ec:IntKind.u32.wrap ((c:Nat):Int)=((c:Nat):Int):=by rw[cL,a8W Om]
  simp only[go_sem,q,agP,ec,u];refine fI (src:=[[.int .u32 ((c:Nat):Int)]]) M rfl (qI Om) fun v' H' l _=>?_;rw[qJ] at l;have R:=L.trimM _ K (by simp; omega);rw[hV] at R;refine Gw R l rfl fun F1 H1 _ r H2 hr _=>?_;simp only[go_sem];exact avO (.inr rfl) hr rfl
def TH (a:List Nat) (n:Nat) (v:PV) (i:Nat):PF:=((((PF.nil.set 0 (aJ a)).set 1 (.int .i64 n)).set 5 (v)).set 6 (.int .i64 i))
theorem Td {C:Ctx} (L:oV C) (a:List Nat) (n:Nat) (E:Lim a) (h1:a.length≤8388608) (hn:n≤1000000000) :
  LO.wp C (aV Hk.res (bY (aJ (aI (val a/2 ^ n))))) (PF.args [aJ a,.int .i64 n]) .nil:=by
 have ez:IntKind.i64.wrap (a9Q (n:Int) 32)=((n/32:Nat):Int):=by rw[ayO,dx Om]
 have em:=azB n;have eu:IntKind.u64.wrap ((n%32:Nat):Int)=((n%32:Nat):Int):=bE Om;have J:=Cg n;have O:n%32<32:=a9B _ (by decide);have hz:n/32≤1000000000:=Om;generalize θ:n/32=z at *
 generalize η:n%32=s at *
 simp only[go_sem,LO,Te,Tf,Hk,a7I,ez];by_cases c0:a.length≤z
 ·have d:((z:Nat):Int)≥(a.length:Nat):=Om;have hq:val a/2 ^ n=0:=by refine baY (Nat.lt_of_lt_of_le (fB E) ?_);rw[← J];exact a8V (baI (by decide) c0) (Nat.le_mul_of_pos_right _ (baD (by decide)))
  simp only[go_sem,d,Tg];rw[hq,fO];exact bA (vs:=[.aB]) (.inr rfl) .nil rfl a_ ⟨.nil 1,rfl⟩
 have d:¬ ((z:Nat):Int)≥(a.length:Nat):=Om;have hR:val a/2 ^ n=val (a.drop z)/2 ^ s:=by rw[uP E Om,← J,Nat.div_div_eq_div_mul]
 have A:Lim (a.drop z):=E.drop z;simp only[go_sem,d,Th,Ti,ez];refine wp_loop (α:=List Nat × PV × PH) (fun t=>TH a n t.2.1 (z+t.1.length)) (fun t=>t.2.2)
  (fun t=>z+t.1.length≤a.length∧t.1=dW t.1.length (val (a.drop z)/2 ^ s)∧bQ t.2.2 1 t.2.1 (aL t.1)) (fun t=>a.length-t.1.length) ([],.aB,.nil)
  ⟨by simp; omega,rfl,.nil⟩ ?_ a_ ?_
 ·unfold TH
  (repeat' (first|exact c_|refine d_ ?_ ?_))<;>first|(simp only[go_sem,a9Y]<;>rfl)|rfl
 rintro⟨P,v,H0⟩ ⟨hP,hD,Y⟩;simp only at hP hD Y ⊢;simp only[go_sem,D0,Tj,TH];have w:Lim P:=by rw[hD]; exact mL _ _
 by_cases Q:z+P.length<a.length
 ·have p:((z+P.length:Nat):Int)<(a.length:Nat):=Om;have ζ:=E _ (a7L Q);have Z:=bU a Q;have γ:P.length≤(a.drop z).length:=by rw[a9L]; omega
  have M:=uP A γ;have c:(a.drop z).drop P.length=a[z+P.length]::a.drop (z+P.length+1):=by rw[List.drop_drop,a9J Q]
  generalize hx:a[z+P.length]=x at *
  have ex:IntKind.u64.wrap ((x:Nat):Int)=((x:Nat):Int):=bE Om;have β:(1:Nat)*1≤16777216:=by decide
  have X:IntKind.i64.wrap (((z+P.length:Nat):Int)+1)=((z+P.length+1:Nat):Int):=cZ Om;have fin:∀ (t:Nat) (F:PF),t<18446744073709551616→val (a.drop z)/4294967296 ^ P.length%(4294967296*4294967296)=t→F 0=some (aJ a)→F 1=some (.int .i64 n)→F 5=some v→F 6=some (.int .i64 (z+P.length:Nat))→F 7=some (.int .u64 t) →
    ∀ K:bR,(∀ v' N H2,(TH a n v' (z+(P.length+1))).le N→bQ H2 1 v' (aL (P++[t/2 ^ s%4294967296]))→(P++[t/2 ^ s%4294967296])=dW (P.length+1) (val (a.drop z)/2 ^ s)→K .normal N H2) →
    aC.wp C (.region dj) (eX 1 (gG C (aC.wp C (.region TI)) K)) F H0:=by
   intro t F ht δ f0 f1 f5 f6 f7 K hK;have u:shift .shr .u64 (t:Int) (s:Int)=some (.int .u64 ((t/2 ^ s:Nat):Int)):=aWW Om;simp only[go_sem,dj,f5,f7,f1,em,eu,u,cL,β];refine fI (src:=[[.int .u32 ((t/2 ^ s%4294967296:Nat):Int)]]) Y rfl (qI Om) fun v' H' B _=>?_;rw[qJ] at B;simp only[go_sem,TI,f6,X];refine hK v' _ H' ?_ B ?_
   ·unfold TH;exact Lq
   ·rw[vO,← hD];congr 2;have e:val (a.drop z)/4294967296 ^ P.length=t%4294967296+4294967296*(t/4294967296+4294967296*(val (a.drop z)/4294967296 ^ P.length/(4294967296*4294967296))):=by have:=Nat.mod_add_div (val (a.drop z)/4294967296 ^ P.length) (4294967296*4294967296);rw[δ] at this;have h2:=Nat.mod_add_div t 4294967296;rw[a7X,← a9T,h2,← a8J];exact this.symm
    have:=XV O e;rw[this];congr 2;have h2:=Nat.mod_add_div t 4294967296;omega
  simp only[aC.wp,go_sem] at fin;simp only[go_sem,p,Tk,Z,ex,Tl,X];by_cases R:z+P.length+1<a.length
  ·have q:((z+P.length+1:Nat):Int)<(a.length:Nat):=Om;have ε:=E _ (a7L R);have H:=bU a R;rw[a9J R] at c;generalize hy:a[z+P.length+1]=y at *
   have ey:IntKind.u64.wrap ((y:Nat):Int)=((y:Nat):Int):=bE Om;have u:shift .shl .u64 (y:Int) ((32:Nat):Int)=some (.int .u64 ((2 ^ 32*y:Nat):Int)):=LD (by decide) Om;have W:=orI (a:=x) (b:=2 ^ 32*y) (n:=x+2 ^ 32*y) Om Om (Qz Om Om) Om;simp only[go_sem,q,Tn,X,H,ey,show shift .shl .u64 (y:Int) 32=_ from u,W];refine fin (x+2 ^ 32*y) _ Om ?_ rfl rfl rfl rfl rfl _ ?_
   ·rw[← M,c];simp only[val];omega
   ·intro v' N H2 S U V;refine aD (α:=List Nat × PV × PH) (P++[(x+2 ^ 32*y)/2 ^ s%4294967296],v',H2) ⟨by simp; omega,by simpa using V,U⟩ (by simp; omega) ?_ b_;simp only[a7Q,a7U];exact S
  ·have q:¬ ((z+P.length+1:Nat):Int)<(a.length:Nat):=Om;rw[bbC (l:=a) (i:=z+P.length+1) Om] at c;simp only[go_sem,q];refine fin x _ Om ?_ rfl rfl rfl rfl rfl _ ?_
   ·rw[← M,c];simp only[val];omega
   ·intro v' N H2 S U V;refine aD (α:=List Nat × PV × PH) (P++[x/2 ^ s%4294967296],v',H2) ⟨by simp; omega,by simpa using V,U⟩ (by simp; omega) ?_ b_;simp only[a7Q,a7U];exact S
 ·have e:z+P.length=a.length:=Om;have p:¬ ((z+P.length:Nat):Int)<(a.length:Nat):=Om;have hV:val P=val (a.drop z)/2 ^ s:=by rw[hD];refine oP (Nat.lt_of_le_of_lt (baH _ _) ?_);have:=fB A;rw[a9L] at this;rw[show P.length=a.length-z by omega];exact this
  have O:=L.trim _ w Om;rw[hV,← hR] at O;simp only[go_sem,p,D1];refine tP O Y rfl fun F1 H1 _=>?_;simp only[go_sem];exact bA (.inr rfl) .nil rfl a_ ⟨.refl _,rfl⟩
structure FD (C:Ctx):Prop extends OA C where
 bits:∀ xs,Lim xs→xs.length≤35184372087808→aH C 31 [aJ xs] .nil (aF (.int .i64 (cM (val xs):Nat)))
 upM:∀ (a:List Nat) (n:Nat),Lim a→a.length≤8388608→n≤8388608→(a.length=0→val a=0)→aH C 45 [aJ a,.int .i64 n] .nil (oU 1 (aL (aI (val a*2 ^ n))))
 down:∀ (a:List Nat) (n:Nat),Lim a→a.length≤8388608→n≤1000000000→aH C 40 [aJ a,.int .i64 n] .nil (aF (aJ (aI (val a/2 ^ n))))
def udS:Spec:=fun name vs=>match name,vs with
 | 35,[.int _ v]=>some ([],fun _=>aF (aJ (aI v.toNat)))
 | 44,[x,y]=>some ([],fun _=>aF (aJ (aI (val (jD x)*val (jD y)))))
 | 32,[x,.osl q _ _ _]=>some ([q],fun c r H'=>H'=c∧∀ xs,Lim xs→c q=some (.rows 1 (aL xs))→r=.int .i64 (dP (val (jD x)) (val xs)))
 | _,_=>none
theorem aMM (v:Nat):udS 35 [.int .u64 v]=some ([],fun _=>aF (aJ (aI v))):=rfl
theorem aBQ (x y:List Nat):udS 44 [aJ x,aJ y]=some ([],fun _=>aF (aJ (aI (val x*val y)))):=by
 show some ([],fun _=>aF (aJ (aI (val (jD (aJ x))*val (jD (aJ y))))))=_; rw[eG,eG]
theorem aEF (q:Nat) (x L:List Nat):(PH.nil.set q (.rows 1 (aL L)))=(PH.nil.set q (.rows 1 (aL L)))∧∀ xs,Lim xs→(PH.nil.set q (.rows 1 (aL L))) q=some (.rows 1 (aL xs))→(PV.int .i64 (dP (val x) (val L)))=.int .i64 (dP (val (jD (aJ x))) (val xs)):=by
 refine⟨rfl,fun xs c e=>?_⟩;rw[cQ] at e;have:aL L=aL xs:=(cG.rows.inj (a9X.inj e)).2;rw[RE this,eG]
def duF (n o d:Nat) (y:List Nat) (top e c:Nat) (k:Int):PF :=
 ((((((PF.nil.set 10 (.int .i64 n)).set 11 (.osl o 1 0 d)).set 12 (aJ y)).set 13 (.int .u64 top)).set 14 (.osl e 1 0 c)).set 15 (.int .i64 k))
abbrev eA (X:List Nat) (Z:List (List PV)):List (List PV):=aL X++Z
theorem MN {X:List Nat} {Z:List (List PV)} {i:Nat} (h:i<X.length):(eA X Z)[i]?=some [.int .u32 ((X[i]:Nat):Int)]:=by
 rw[eA,baB (by rw[cA]; exact h),bU X h]
theorem Fn {X:List Nat} {Z:List (List PV)} {i:Nat} (h:i<X.length) (v:Nat):(eA X Z).set i [.int .u32 (v:Int)]=eA (X.set i v) Z:=by
 rw[eA,List.set_append_left _ _ (by rw[cA]; exact h),fN]
theorem Fm {X:List Nat} {Z:List (List PV)} {j m:Nat} (h:j+m≤X.length):((eA X Z).drop j).take m=aL ((X.drop j).take m):=by
 rw[eA,List.drop_append_of_le_length (by rw[cA]; omega),List.take_append_of_le_length (by rw[a9L,cA]; omega)];unfold aL;rw[← List.map_drop,← List.map_take]
theorem aXL {C:Ctx} (L:FD C) (n o p:Nat) (y:List Nat) (top l R j:Nat) (X:List Nat) (Z:List (List PV)) (O:l≠o) (hy:Lim y) (hX:Lim X) (γ:X.length=p) (hl:p≤5000) (hj:j+(y.length+1)≤p) (A:0<val y)
  (V:cG) (g0:Nat) (hg:val ((X.drop j).take (y.length+1))/val y≤g0) (N:g0<4294967296) (K:bR) (F:PF) (H:PH) (hF:((duF n o p y top l R j).set 17 (.int .u64 g0)).le F) (hH:((PH.nil.set o (.rows 1 (eA X Z))).set l V).le H)
  (hK:∀ Y H',((duF n o p y top l R j).set 17 (.int .u64 (val ((X.drop j).take (y.length+1))/val y:Nat))).le Y→((PH.nil.set o (.rows 1 (eA X Z))).set l V).le H'→K .normal Y H') :
  aC.wp C (.block 4 (.loop vE)) K F H:=by
 have d:¬ o=l:=fun h=>O h.symm;have e:((X.drop j).take (y.length+1)).length=y.length+1:=by rw[a8C,a9L]; omega
 have q:Lim ((X.drop j).take (y.length+1)):=(hX.drop _).take _;have u:=Fm (X:=X) (Z:=Z) (j:=j) (m:=y.length+1) Om;have w:j+(y.length+1)≤(eA X Z).length:=by rw[eA,a7Q,cA]; omega
 have J:aL ((X.drop j).take (y.length+1))≠[]:=fun h=>by have:=congrArg List.length h;rw[cA,e] at this;simp at this
 generalize hW:(X.drop j).take (y.length+1)=W at *
 generalize x:val W/val y=E at *
 simp only[go_sem];refine wp_loop (α:=Nat) (fun g=>(duF n o p y top l R j).set 17 (.int .u64 g)) (fun _=>(PH.nil.set o (.rows 1 (eA X Z))).set l V) (fun g=>E≤g∧g<4294967296) (fun g=>g) g0 ⟨hg,N⟩ hF hH ?_;rintro g ⟨β,hlt⟩;have e1:IntKind.i64.wrap ((j:Int)+(y.length:Int))=((j+y.length:Nat):Int):=gI Om;have e2:IntKind.i64.wrap (((j+y.length:Nat):Int)+1)=((j+y.length+1:Nat):Int):=cZ Om;have b1:(j:Int)≤((j+y.length+1:Nat):Int):=Om;have b2:((j+y.length+1:Nat):Int)≤(p:Nat):=Om;have b3:j+y.length+1-j=y.length+1:=Om;have mk:=L.make g Om;have tm:=L.times y (aI g) hy (aX _) Om (by have B:nl g≤1:=nT (by rw[Nat.pow_one]; exact hlt);rw[bB]; omega)
 rw[aW] at tm;have Q:(aI (val y*g)).length≤35184372087808:=by have B:nl g≤1:=nT (by rw[Nat.pow_one]; exact hlt);have h2:=lJ (a:=val y) (b:=g) (fM hy) B;rw[bB]; omega
 have cm:=L.cmp (aI (val y*g)) W (aX _) q Q Om;rw[aW] at cm;simp only[go_sem,vE];refine bW .nil udS a_ ?_;simp only[go_sem,YG,duF];refine bN (aMM g) mk Sq a_ ?_;simp only[go_sem];have tS:=aBQ y (aI g);rw[aW] at tS;refine bN tS tm Sq a_ ?_;simp only[go_sem,a7I,e1,e2,b1,b2,b3];refine tO (src:=aL W) ?_ ?_ (fun h=>absurd h J) fun _ o' i=>?_
 ·simp only[go_sem,d,w,u]
 ·unfold roomFor;rw[cA,e];simp only[maxLen]; omega
 refine⟨a_,?_⟩;rw[cA,e];have n1:¬ o'=l:=(iR.1 i).1;refine aEO (o:=o') (s:=1) (rs:=aL W) (vs:=[aJ (aI (val y*g)),.osl o' 1 0 (y.length+1)]) (v:=.int .i64 (dP (val y*g) (val W))) rfl (.int _ _) Sq ?_ ?_ ?_ Sq a_ ?_
 ·rw[a8X,a8X,a9R,tZ (by rw[cA,e]; exact a7O _),a8D (by rw[cA,e]; exact a7O _)];exact cm
 ·have:=aEF o' (aI (val y*g)) W;rw[aW] at this;exact this
 ·rintro r H' ⟨B,h2⟩;have:=h2 W q (by rw[cQ]);rw[eG,aW] at this;exact⟨this,B⟩
 simp only[go_sem];by_cases c:val W<val y*g
 ·have M:dP (val y*g) (val W)=1:=by unfold dP;rw[if_neg Om,if_pos c]
  have hq:E<g:=by rw[← x]; exact (baN A).2 (by rw[a8N]; exact c)
  have ew:IntKind.u64.wrap ((g:Int)-1)=((g-1:Nat):Int):=by rw[wrap_u64 Om Om]; omega
  simp only[go_sem,M,show (1:Int)>0 by decide,YH,ew];refine aD (g-1) ⟨by omega,by omega⟩ Om ?_ ?_
  ·exact Lq
  ·refine PH.aK (PH.aK a_ ?_) ?_
   ·have S:¬ o=o':=fun h=>by subst h;rw[aT,if_neg d,cQ] at i;cases i
    simp only[go_sem,S,d]
   ·have U:¬ l=o':=fun h=>n1 h.symm;simp only[go_sem,U]
 ·have M:¬ dP (val y*g) (val W)>0:=by unfold dP;rw[if_neg c];split<;>decide
  have hq:g=E:=by
   have:g≤E:=by rw[← x]; exact (Nat.le_div_iff_mul_le A).2 (by rw[a8N]; omega)
   omega
  simp only[go_sem,M];refine hK _ _ ?_ ?_
  ·unfold duF
   (repeat' (first|exact c_|refine d_ ?_ ?_))<;>first|(simp only[go_sem,← hq]<;>rfl)|rfl
  ·refine PH.aK (PH.aK a_ ?_) ?_
   ·have S:¬ o=o':=fun h=>by subst h;rw[aT,if_neg d,cQ] at i;cases i
    simp only[go_sem,S,d]
   ·have U:¬ l=o':=fun h=>n1 h.symm;simp only[go_sem,U]
theorem aQI (R k:Nat) (h:k<nl R):∃ i:k<(aI R).length,(aI R)[k]=R/4294967296 ^ k%4294967296:=by
 have c:k<(aI R).length:=by rw[bB]; exact h
 refine⟨c,?_⟩;have d:=uP (aX R) (Nat.le_of_lt c);rw[aW,a9J c] at d;have e:=aX R _ (a7L c);simp only[val] at d;rw[← d,Nat.add_mul_mod_self_left,a8W e]
theorem aGD (R k:Nat) (h:nl R≤k):R/4294967296 ^ k%4294967296=0:=by
 rw[baY ((jA R k).1 h)]
theorem aSK {A P W Z:List Nat} {i:Nat} (c:P.length=i) (hi:i<W.length) (v:Nat):(A++(P++W.drop i)++Z).set (A.length+i) v=A++((P++[v])++W.drop (i+1))++Z :=
 RE (by rw[← fN]; exact GG c hi v)
theorem a0M {C:Ctx} (n o w:Nat) (y:List Nat) (top q Q j:Nat) (X:List Nat) (Z:List (List PV)) (B:q≠o) (N:X.length=w) (hl:w≤5000) (hj:j+(y.length+1)≤w)
  (S:cG) (g R:Nat) (K:bR) (F:PF) (H:PH) (hF:((((duF n o w y top q Q j).set 17 (.int .u64 g)).set 18 (aJ (aI R))).set 19 (.int .i64 0)).le F) (hH:((PH.nil.set o (.rows 1 (eA X Z))).set q S).le H)
  (hK:∀ U H',((duF n o w y top q Q j).set 17 (.int .u64 g)).le U→((PH.nil.set o (.rows 1 (eA (X.take j++dW (y.length+1) R++X.drop (j+(y.length+1))) Z))).set q S).le H'→K .normal U H') :
  aC.wp C (.block 6 (.loop vF)) K F H:=by
 have l:¬ o=q:=fun h=>B h.symm;have hA:(X.take j).length=j:=by rw[a8C]; omega
 have ε:((X.drop j).take (y.length+1)).length=y.length+1:=by rw[a8C,a9L]; omega
 have θ:(X.drop (j+(y.length+1))).length=w-(j+(y.length+1)):=by rw[a9L,N]
 have u:X.take j++(X.drop j).take (y.length+1)++X.drop (j+(y.length+1))=X:=by rw[a8S,← List.drop_drop,baG,baG]
 rw[← u] at hH;generalize γ:X.take j=A at *
 generalize δ:(X.drop j).take (y.length+1)=W at *
 generalize η:X.drop (j+(y.length+1))=p at *
 simp only[go_sem];refine wp_loop (α:=List Nat) (fun P=>(((duF n o w y top q Q j).set 17 (.int .u64 g)).set 18 (aJ (aI R))).set 19 (.int .i64 P.length)) (fun P=>(PH.nil.set o (.rows 1 (eA (A++(P++W.drop P.length)++p) Z))).set q S)
  (fun P=>P.length≤y.length+1∧P=dW P.length R) (fun P=>y.length+1-P.length) [] ⟨a7P _,rfl⟩ hF (by simpa using hH) ?_
 rintro P ⟨hP,hD⟩;simp only[go_sem,vF,YI,duF];by_cases c:P.length<y.length+1
 ·have J:(P.length:Int)≤(y.length:Nat):=Om;have V:IntKind.i64.wrap ((j:Int)+(P.length:Int))=((j+P.length:Nat):Int):=gI Om;have β:(A++(P++W.drop P.length)++p).length=w:=by simp only[a7Q,a9L]; omega
  have hi:j+P.length<(A++(P++W.drop P.length)++p).length:=Om;have b1:((j+P.length:Nat):Int)<(w:Nat):=Om;have r1:=MN (Z:=Z) hi;have s1:=Fn (Z:=Z) hi 0;have E:j+P.length<((A++(P++W.drop P.length)++p).set (j+P.length) 0).length:=by rw[a9N]; exact hi
  have d:=fun v=>aSK (A:=A) (P:=P) (W:=W) (Z:=p) (i:=P.length) rfl Om v;rw[hA] at d;generalize ζ:A++(P++W.drop P.length)++p=XX at *
  have r2:(eA (A++((P++[0])++W.drop (P.length+1))++p) Z)[j+P.length]?=some [.int .u32 ((0:Nat):Int)]:=by rw[← d 0,MN E,List.getElem_set_self]
  have s2:∀ v,(eA (A++((P++[0])++W.drop (P.length+1))++p) Z).set (j+P.length) [.int .u32 ((v:Nat):Int)]=eA (A++((P++[v])++W.drop (P.length+1))++p) Z:=by intro v;rw[← d 0,Fn E,List.set_set,d]
  have a6T:=vO P.length R;rw[← hD] at a6T;have Y:IntKind.i64.wrap ((P.length:Int)+1)=((P.length+1:Nat):Int):=cZ Om;simp only[go_sem,J,YJ,V,b1,l,r1,show ([PV.int .u32 (0:Int)])=[PV.int .u32 ((0:Nat):Int)] from rfl,s1,YK,bB];by_cases c2:P.length<nl R
  ·have x:(P.length:Int)<(nl R:Nat):=Om;obtain⟨M,O⟩:=aQI R P.length c2;have hr:=bU (aI R) M;rw[O] at hr;simp only[go_sem,x,YL,hr,V,b1,l,r2,s2,List.set_set,d,EG,Y];refine aD (P++[R/4294967296 ^ P.length%4294967296]) ⟨by simp; omega,by rw[a7Q,a7U]; exact a6T.symm⟩ (by simp; omega) ?_ ?_
   ·rw[a7Q,a7U];exact Lq
   ·rw[a7Q,a7U];refine PH.aK (PH.aK a_ ?_) ?_<;>simp only[go_sem,l,show ¬ q=o from B]
  ·have x:¬ (P.length:Int)<(nl R:Nat):=Om;have O:=aGD R P.length Om;rw[O] at a6T;simp only[go_sem,x,d,EG,Y];refine aD (P++[0]) ⟨by simp; omega,by rw[a7Q,a7U]; exact a6T.symm⟩ (by simp; omega) ?_ ?_
   ·rw[a7Q,a7U];exact Lq
   ·rw[a7Q,a7U];refine PH.aK (PH.aK a_ ?_) ?_<;>simp only[go_sem,l,show ¬ q=o from B]
 ·have J:¬ (P.length:Int)≤(y.length:Nat):=Om;have e:P.length=y.length+1:=Om;simp only[go_sem,J];refine hK _ _ (by unfold duF; exact Lq) ?_;have h2:A++dW (y.length+1) R++p=A++(P++W.drop P.length)++p:=by rw[bbC Om,a9I,← e,← hD]
  rw[h2];exact b_
theorem aFS {y W:List Nat} {m:Nat} (A:Lim y) (hW:Lim W) (w:y.length=m+1) (u:W.length=m+2) (x:0<y[m]):val W/val y≤(4294967296*W[m+1]+W[m])/y[m]:=by
 have p:=cF y (Om:m<y.length);rw[a8D Om] at p;have d:=cF W (Om:m+1<W.length);rw[a8D Om,cF W (Om:m<W.length)] at d;have i:=fB (hW.take m);rw[a8C,a9U Om] at i;have l:0<4294967296 ^ m:=baD (by decide);have q:4294967296 ^ m*y[m]≤val y:=Om;have c:0<4294967296 ^ m*y[m]:=Nat.mul_pos l x;have e:val W=val (W.take m)+4294967296 ^ m*(4294967296*W[m+1]+W[m]):=by rw[d,a9F,a7X,a8J]; omega
 refine a8V (Nat.div_le_div_left q c) ?_;rw[← Nat.div_div_eq_div_mul,e,Nat.add_mul_div_left _ _ l,baY i,a8G];exact a7O _
theorem aBR {C:Ctx} (L:FD C) (U0 n o i d e m:Nat) (y z:List Nat) (M:e≠o) (hy:Lim y) (B:y.length=m+1) (ht:0<y[m]) (b':i=d+(m+1)) (O:i≤5000) (X:List Nat) (A:pC U0 (val y) (m+1) i d d X (a7M d 0)) (K:bR) (F:PF) (H:PH)
  (hF:(duF n o i y (y[m]) e d ((d:Int)-1)).le F) (hH:((PH.nil.set o (.rows 1 (eA X (aL z)))).set e (.rows 1 (aL (a7M d 0)))).le H)
  (hK:∀ X' Q' F' H',pC U0 (val y) (m+1) i d 0 X' Q'→(duF n o i y (y[m]) e d (-1)).le F'→((PH.nil.set o (.rows 1 (eA X' (aL z)))).set e (.rows 1 (aL Q'))).le H'→K .normal F' H') :
  aC.wp C (.block 2 (.loop vG)) K F H:=by
 have l:¬ o=e:=fun h=>M h.symm;have l':¬ e=o:=M;have hV:val y<4294967296 ^ (m+1):=by have:=fB hy; rw[B] at this; exact this
 have ι:0<val y:=by have h1:=cF y (Om:m<y.length);rw[a8D Om] at h1;have:0<4294967296 ^ m*y[m]:=Nat.mul_pos (baD (by decide)) ht;omega
 have r':=hy _ (a7L (Om:m<y.length));generalize htop:y[m]=top at *
 simp only[go_sem];refine wp_loop (α:=Nat × List Nat × List Nat) (fun t=>duF n o i y top e d ((t.1:Int)-1)) (fun t=>(PH.nil.set o (.rows 1 (eA t.2.1 (aL z)))).set e (.rows 1 (aL t.2.2)))
  (fun t=>t.1≤d∧pC U0 (val y) (m+1) i d t.1 t.2.1 t.2.2) (fun t=>t.1) (d,X,a7M d 0) ⟨a7O _,A⟩ hF hH ?_
 rintro⟨k,X,Q⟩ ⟨hk,A⟩;simp only at hk A;simp only[go_sem,vG,YB,duF];by_cases h0:0<k
 ·obtain⟨j,rfl⟩:∃ j,k=j+1:=⟨k-1,by omega⟩;have hz:((j+1:Nat):Int)-1=(j:Int):=Om;have Ψ:(j:Int)≥0:=Om;have dst:=J0 A hV Om b';rw[show m+1+1=m+2 from rfl] at dst;obtain⟨hlt,ω⟩:=dst;have κ:=A.lu';have m':=A.lq';have J:((X.drop j).take (m+2)).length=m+2:=by rw[a8C,a9L]; omega
  have V:Lim ((X.drop j).take (m+2)):=(A.limU.drop _).take _;have p':m+1<((X.drop j).take (m+2)).length:=Om;have n':m<((X.drop j).take (m+2)).length:=Om;have a1:j+(m+1)<X.length:=Om;have a0:j+m<X.length:=Om;have w1:((X.drop j).take (m+2))[m+1]=X[j+(m+1)]:=by simp
  have w0:((X.drop j).take (m+2))[m]=X[j+m]:=by simp
  have ν:=aFS hy V B J (by rw[htop]; exact ht);rw[w1,w0,htop] at ν;have r1:=MN (Z:=aL z) a1;have r0:=MN (Z:=aL z) a0;have l1:=A.limU _ (a7L a1);have l0:=A.limU _ (a7L a0);generalize t':X[j+(m+1)]=u at *
  generalize s':X[j+m]=x at *
  have e1:IntKind.i64.wrap ((j:Int)+(y.length:Int))=((j+(m+1):Nat):Int):=by rw[B]; exact gI Om
  have e0:IntKind.i64.wrap (((j+(m+1):Nat):Int)-1)=((j+m:Nat):Int):=by rw[wrap_i64 Om Om]; omega
  have b1:((j+(m+1):Nat):Int)<(i:Nat):=Om;have b0:((j+m:Nat):Int)<(i:Nat):=Om;have χ:IntKind.u64.wrap ((u:Nat):Int)=((u:Nat):Int):=bE Om;have φ:IntKind.u64.wrap ((x:Nat):Int)=((x:Nat):Int):=bE Om;have δ:shift .shl .u64 (u:Int) 32=some (.int .u64 ((2 ^ 32*u:Nat):Int)):=LD (s:=32) Om Om;have υ:(2:Nat) ^ 32=4294967296:=by decide
  have β:=orI (a:=2 ^ 32*u) (b:=x) (n:=2 ^ 32*u+x) Om Om (Nat.two_pow_add_eq_or_of_lt Om u).symm Om;rw[υ] at δ β;have Θ:¬ ((top:Nat):Int)=0:=Om;have ρ:(4294967296*u+x)/top<18446744073709551616:=Nat.lt_of_le_of_lt (baH _ _) Om;have γ:IntKind.u64.wrap (a9Q ((4294967296*u+x:Nat):Int) ((top:Nat):Int))=(((4294967296*u+x)/top:Nat):Int):=by rw[show a9Q ((4294967296*u+x:Nat):Int) ((top:Nat):Int)=(((4294967296*u+x)/top:Nat):Int) from rfl];exact bE ρ
  have σ:val ((X.drop j).take (m+2))/val y<4294967296:=(baN ι).2 (by rw[a8N]; exact hlt);have μ:=Fm (X:=X) (Z:=aL z) (j:=j) (m:=m+2) Om;have ξ:j+(m+2)≤(eA X (aL z)).length:=by rw[eA,a7Q,cA]; omega
  have Y:val ((X.drop j).take (m+2))-val y*(val ((X.drop j).take (m+2))/val y)=val ((X.drop j).take (m+2))%val y:=by have:=baX (val ((X.drop j).take (m+2))) (val y);omega
  have w:val y*(val ((X.drop j).take (m+2))/val y)≤val ((X.drop j).take (m+2)):=Nat.mul_div_le _ _;clear w1 w0;have gu:=fun g0=>aXL (C:=C) L n o i y top e d j X (aL z) M hy A.limU κ O Om ι (.rows 1 (aL Q)) g0;rw[B,show m+1+1=m+2 from rfl] at gu;generalize hW:(X.drop j).take (m+2)=W at *
  generalize q':val W/val y=E at *
  have Γ:aL W≠[]:=fun h=>by have:=congrArg List.length h;rw[cA,J] at this;simp at this
  have tail:∀ (g0:Nat) (F:PF) (H:PH),E≤g0→g0<4294967296→((duF n o i y top e d j).set 17 (.int .u64 g0)).le F→((PH.nil.set o (.rows 1 (eA X (aL z)))).set e (.rows 1 (aL Q))).le H →
    aC.wp C (.seq (.block 4 (.loop vE)) (.seq (.region EE) (.seq (.seq (.region EF) (.block 6 (.loop vF))) (.region EH)))) (eX 3 (gG C (aC.wp C (.region EI)) (fJ (fun (t:Nat × List Nat × List Nat)=>duF n o i y top e d ((t.1:Int)-1)) (fun t=>(PH.nil.set o (.rows 1 (eA t.2.1 (aL z)))).set e (.rows 1 (aL t.2.2))) (fun t=>t.1≤d∧pC U0 (val y) (m+1) i d t.1 t.2.1 t.2.2) (fun t=>t.1) (j+1) (eX 2 K)))) F H:=by
   intro g0 F H hg Φ hF hH;have gu:=gu g0 hg Φ;simp only[go_sem] at gu;simp only[go_sem];refine gu _ F H hF hH ?_;intro R H1 p η;have f11:R 11=some (.osl o 1 0 i):=p 11 _ (by unfold duF; simp only[go_sem]);have U:R 12=some (aJ y):=p 12 _ (by unfold duF; simp only[go_sem]);have ε:R 15=some (.int .i64 j):=p 15 _ (by unfold duF; simp only[go_sem]);have ζ:R 17=some (.int .u64 (E:Nat)):=p 17 _ (by unfold duF; simp only[go_sem]);have ψ:R 10=some (.int .i64 n):=p 10 _ (by unfold duF; simp only[go_sem]);have f13:R 13=some (.int .u64 top):=p 13 _ (by unfold duF; simp only[go_sem]);have f14:R 14=some (.osl e 1 0 d):=p 14 _ (by unfold duF; simp only[go_sem]);have ho:H1 o=some (.rows 1 (eA X (aL z))):=η o _ (by simp only[go_sem,l]);have ο:H1 e=some (.rows 1 (aL Q)):=η e _ Sq;have b3:(j:Int)≤((j+(m+1)+1:Nat):Int):=Om;have b4:((j+(m+1)+1:Nat):Int)≤(i:Nat):=Om;have b5:j+(m+1)+1-j=m+2:=Om;have e2:IntKind.i64.wrap (((j+(m+1):Nat):Int)+1)=((j+(m+1)+1:Nat):Int):=cZ Om;simp only[go_sem,EE,f11,ε,U,a7I,e1,e2,b3,b4,b5];refine tO (src:=aL W) ?_ ?_ (fun h=>absurd h Γ) fun _ o' N=>?_
   ·simp only[go_sem,ho,ξ,μ]
   ·unfold roomFor;rw[cA,J];simp only[maxLen]; omega
   rw[cA,J];have n1:¬ e=o':=fun h=>by subst h; rw[ο] at N; cases N
   have n2:¬ o=o':=fun h=>by subst h; rw[ho] at N; cases N
   have nq:nl E≤1:=nT (by rw[Nat.pow_one]; exact σ);have tm:=L.times y (aI E) hy (aX _) Om (by rw[bB]; omega);rw[aW] at tm;have nW:=fM V;have mn:=L.minus W (aI (val y*E)) V (aX _) (by rw[aW]; exact w) (by rw[bB]; exact a8V (fT w) nW) Om;rw[aW,Y] at mn;have Δ:(aL W).take (m+2)=aL W:=a8D (by rw[cA]; omega);simp only[go_sem,ζ];refine aA (L.make E Om) Sq ?_;simp only[go_sem,U];refine aA tm Sq ?_;simp only[go_sem];refine rB (o:=o') (s:=1) (rs:=aL W) mn Sq (by simp only[go_sem,show m+2≤W.length by omega,Δ]) ?_;simp only[go_sem,EF];have Ξ:(eA X (aL z)).map (fun r=>r.map (PV.dE o' 1 (aL W)))=eA X (aL z):=by
    have:eA X (aL z)=aL (X++z):=by simp[eA,aL]
    rw[this]; exact rV _ _ _ _
   have Λ:(aL Q).map (fun r=>r.map (PV.dE o' 1 (aL W)))=aL Q:=rV _ _ _ _;have ur:=a0M (C:=C) n o i y top e d j X (aL z) M κ O Om (.rows 1 (aL Q)) E (val W%val y);rw[B,show m+1+1=m+2 from rfl] at ur;simp only[go_sem] at ur;refine ur _ _ _ ?_ ?_ ?_
   ·unfold duF
    (repeat' (first|exact c_|refine d_ ?_ ?_))<;>first|(simp only[go_sem,ψ,f11,U,f13,f14,ε,ζ,n1,n2]<;>rfl)|rfl
   ·refine PH.aK (PH.aK a_ ?_) ?_
    ·simp only[go_sem,l,n2,ho,cG.frz,Ξ]
    ·simp only[go_sem,n1,ο,cG.frz,Λ]
   intro S H3 q θ;have f':S 10=some (.int .i64 n):=q 10 _ (by unfold duF; simp only[go_sem]);have g':S 11=some (.osl o 1 0 i):=q 11 _ (by unfold duF; simp only[go_sem]);have h':S 12=some (aJ y):=q 12 _ (by unfold duF; simp only[go_sem]);have i':S 13=some (.int .u64 top):=q 13 _ (by unfold duF; simp only[go_sem]);have τ:S 14=some (.osl e 1 0 d):=q 14 _ (by unfold duF; simp only[go_sem]);have j':S 15=some (.int .i64 j):=q 15 _ (by unfold duF; simp only[go_sem]);have k':S 17=some (.int .u64 E):=q 17 _ (by unfold duF; simp only[go_sem]);have d':H3 o=some (.rows 1 (eA (X.take j++dW (m+2) (val W%val y)++X.drop (j+(m+2))) (aL z))):=θ o _ (by simp only[go_sem,l]);have e':H3 e=some (.rows 1 (aL Q)):=θ e _ Sq;have a':j<Q.length:=Om;have rq:=bU Q a';have Ω:(j:Int)<(d:Nat):=Om;have sq:=fN Q j E;have ec:IntKind.u32.wrap ((E:Nat):Int)=((E:Nat):Int):=by rw[cL,a8W σ]
   have ej:IntKind.i64.wrap ((j:Int)-1)=(j:Int)-1:=wrap_i64 Om Om;simp only[go_sem,EH,τ,j',k',Ω,e',rq,ec,sq,EI,ej];refine aD (α:=Nat × List Nat × List Nat) (j,_,_) ⟨by simp only; omega,ω⟩ (by simp only; omega) ?_ ?_
   ·unfold duF
    (repeat' (first|exact c_|refine d_ ?_ ?_))<;>first|(simp only[go_sem,f',g',h',i',τ]<;>rfl)|rfl
   ·refine PH.aK (PH.aK a_ ?_) ?_
    ·simp only[go_sem,l,d']
    ·simp only[go_sem]
  simp only[aC.wp,go_sem] at tail;simp only[go_sem,hz,Ψ];refine bW .nil eT a_ ?_;simp only[go_sem,YC,e1,e0,b1,b0,l,r1,r0,χ,φ,δ,β,YD,Θ,γ,YE];by_cases c:(4294967296*u+x)/top>4294967295
  ·have c':(((4294967296*u+x)/top:Nat):Int)>4294967295:=Om;simp only[go_sem,c',YF];exact tail 4294967295 _ _ Om (by decide) (by unfold duF; exact Lq) b_
  ·have c':¬ (((4294967296*u+x)/top:Nat):Int)>4294967295:=Om;simp only[go_sem,c'];exact tail _ _ _ ν Om (by unfold duF; exact Lq) b_
 ·have:k=0:=Om;subst this;have hz:¬ ((0:Nat):Int)-1≥0:=by decide
  simp only[go_sem,hz];refine hK X Q _ _ A ?_ b_;unfold duF
  (repeat' (first|exact c_|refine d_ ?_ ?_))<;>first|(simp only[go_sem,show ((0:Nat):Int)-1=-1 from rfl]<;>rfl)|rfl
def aML (a:List Nat) (d q k r:Nat):PF:=(((((PF.nil.set 0 (aJ a)).set 1 (aJ [d])).set 6 (.osl q 1 0 a.length)).set 7 (.int .u64 r)).set 8 (.int .i64 ((k:Int)-1)))
theorem apV {C:Ctx} (L:FD C) (a:List Nat) (d:Nat) (ha:Lim a) (i:0<d) (hd:d<4294967296) (h1:a.length≤1000) (F:PF) (f0:F 0=some (aJ a)) (f1:F 1=some (aJ [d])) :
  aC.wp C (.seq (.region LL) (.seq (.region LM) (.seq (.seq (.region LN) (.block 0 (.loop DY))) (.seq (.region DZ) .ret)))) (aV [.tmp 4,.tmp 5] (bY (pJ (val a) d))) F .nil:=by
 have V:(a.length:Int)*((4:Nat):Int)≤140737488355328:=Om;have W:(a.length:Int)≤9223372036854775807:=Om;have hz:a7M a.length [PV.int .u32 0]=aL (a7M a.length 0++[]):=by simp[aL]
 simp only[go_sem,LL,f0,a7I,V,W,hz];refine aR fun o ho=>?_;simp only[go_sem,LM,LN,f0,a7I];refine wp_loop (α:=Nat × List Nat × Nat) (fun t=>aML a d o t.1 t.2.2) (fun t=>PH.nil.set o (.rows 1 (aL (a7M t.1 0++t.2.1))))
  (fun t=>t.1+t.2.1.length=a.length∧Lim t.2.1∧t.2.2<d∧val t.2.1*d+t.2.2=val (a.drop t.1)) (fun t=>t.1) (a.length,[],0) ⟨by simp,by simp[Lim],i,by simp[val]⟩ ?_ ?_ ?_
 ·unfold aML
  (repeat' (first|exact c_|refine d_ ?_ ?_))<;>first|(simp only[go_sem,f0,f1,wrap_i64 (Om:-9223372036854775808≤(a.length:Int)-1) (Om:(a.length:Int)-1≤9223372036854775807)]<;>rfl)|rfl
 ·exact PH.aK a_ Sq
 rintro⟨k,S,r⟩ ⟨hk,e,K,c⟩;simp only at hk e K c;simp only[go_sem,DY,pe,aML];by_cases h0:0<k
 ·obtain⟨m,rfl⟩:∃ m,k=m+1:=⟨k-1,by omega⟩;have q:((m+1:Nat):Int)-1=(m:Int):=Om;have R:(m:Int)≥0:=Om;have p:m<a.length:=Om;have hlt:(m:Int)<(a.length:Nat):=Om;have β:=ha _ (a7L p);have l:val (a.drop m)=a[m]+4294967296*val (a.drop (m+1)):=by rw[a9J p]; rfl
  have O:=bU a p;generalize hx:a[m]=x at *
  have ex:IntKind.u64.wrap ((x:Nat):Int)=((x:Nat):Int):=bE Om;have Z:IntKind.u64.wrap ((d:Nat):Int)=((d:Nat):Int):=bE Om;have B:shift .shl .u64 (r:Int) 32=some (.int .u64 ((2 ^ 32*r:Nat):Int)):=LD (s:=32) Om Om;have M:(2:Nat) ^ 32=4294967296:=by decide
  have u:=orI (a:=2 ^ 32*r) (b:=x) (n:=2 ^ 32*r+x) Om Om (Nat.two_pow_add_eq_or_of_lt Om r).symm Om;rw[M] at B u;have J:(4294967296*r+x)/d<4294967296:=by rw[baN i];have:4294967296*(r+1)≤4294967296*d:=a9V _ K;omega
  have Q:¬ ((d:Nat):Int)=0:=Om;have w:IntKind.u64.wrap (a9Q ((4294967296*r+x:Nat):Int) ((d:Nat):Int))=(((4294967296*r+x)/d:Nat):Int):=by rw[show a9Q ((4294967296*r+x:Nat):Int) ((d:Nat):Int)=(((4294967296*r+x)/d:Nat):Int) from rfl];exact bE Om
  have A:Int.tmod ((4294967296*r+x:Nat):Int) ((d:Nat):Int)=(((4294967296*r+x)%d:Nat):Int):=rfl;have Y:IntKind.u32.wrap (((4294967296*r+x)/d:Nat):Int)=(((4294967296*r+x)/d:Nat):Int):=by rw[cL,a8W J]
  have E:a7M (m+1) 0++S=a7M m 0++(0::S):=by rw[List.replicate_succ',a8S]; rfl
  have U:(aL (a7M m 0++(0::S)))[m]?=some [.int .u32 ((0:Nat):Int)]:=by rw[bU _ (by simp)]; simp
  have H:(aL (a7M m 0++(0::S))).set m [.int .u32 (((4294967296*r+x)/d:Nat):Int)]=aL (a7M m 0++(((4294967296*r+x)/d)::S)):=by rw[fN,baF _ _ (by simp)]; simp
  simp only[go_sem,q,R,pi,B,O,ex,u,pj,Z,Q,w,Y,hlt,E,U,H,XW,A,XY];refine aD (m,((4294967296*r+x)/d)::S,(4294967296*r+x)%d) ⟨by simp only[a9A]; omega,fun y hy=>?_,a9B _ i,?_⟩ (by simp only; omega) ?_ (PH.aK a_ Sq)
  ·rw[a7V] at hy;rcases hy with rfl | hy
   ·exact J
   ·exact e y hy
  ·simp only[val];rw[l,← c,a8O,a7X,a8J];have:=baX (4294967296*r+x) d;rw[a8N d] at this;omega
  ·(repeat' (first|exact c_|refine d_ ?_ ?_))<;>first|(simp only[go_sem,wrap_i64 (Om:-9223372036854775808≤(m:Int)-1) (Om:(m:Int)-1≤9223372036854775807)]<;>rfl)|rfl
 ·have:k=0:=Om;subst this;have q:¬ ((0:Nat):Int)-1≥0:=by decide
  rw[a8T] at c;have hS:S.length=a.length:=Om;have J:val S=val a/d:=by rw[← c,a8N,Nat.mul_add_div i,baY K,a9O]
  have X:r=val a%d:=by rw[← c,a8N,Nat.mul_add_mod,a8W K]
  have γ:a7M 0 0++S=S:=by simp
  have hl:=L.trim S e Om;have N:(aL S).take a.length=aL S:=a8D (by rw[cA]; omega);simp only[go_sem,q,DZ,List.nil_append];refine rB (o:=o) (s:=1) (rs:=aL S) hl Sq (by simp only[go_sem,N,show a.length≤S.length by omega]) ?_;simp only[go_sem];refine aA (L.make r Om) Sq ?_;simp only[go_sem];refine bA (vs:=[aJ (aI (val S)),aJ (aI r)]) (.inr rfl) .nil Ev a_ ⟨?_,rfl⟩;rw[J,X];exact .refl _
theorem aOF {B m:Nat} (h:nl B=m+1):32*m<cM B∧cM B≤32*(m+1):=by
 refine⟨?_,(lW B (m+1)).2 Om⟩;rcases a8F (32*m) (cM B) with h1 | h1
 ·exact h1
 ·have:=(lW B m).1 h1;omega
theorem aOG {B:Nat} (h:B≠0):2 ^ (cM B-1)≤B:=by
 rcases a8F B (2 ^ (cM B-1)) with h1 | h1
 ·have c:=(lT B _).2 h1;have d:cM B≠0:=fun e=>h (jW.1 e);omega
 ·exact h1
theorem ov {C:Ctx} (L:FD C) (A B:Nat) (hB:B≠0) (hA:nl A≤512) (Λ:nl B≤512) :
  AG.wp C (aV VK.res (bY (pJ A B))) (PF.args [aJ (aI A),aJ (aI B)]) .nil:=by
 have N:=aX A;have LB:=aX B;have vA:=aW A;have vB:=aW B;have lA:(aI A).length=nl A:=rfl;have lB:(aI B).length=nl B:=rfl;simp only[go_sem,AG,ow,oz,VK];refine aA (L.cmp _ _ N LB Om Om) rfl ?_;rw[vA,vB];by_cases c1:A<B
 ·have hc:dP A B<0:=by simp[dP,c1]
  simp only[go_sem,hc,o9];refine aA (L.trim _ N Om) rfl ?_;rw[vA];simp only[go_sem];refine bA (vs:=[.aB,aJ (aI A)]) (.inr rfl) .nil rfl a_ ⟨?_,rfl⟩;rw[pJ,baY c1,a8W c1,fO];exact CoL.tup (CoL.cons (.nil 1) (CoL.cons (.refl _) .nil))
 have hc:¬ dP A B<0:=by unfold dP;rw[if_neg c1];split<;>decide
 have ο:0<B:=a9W hB;have b':nl B≠0:=fun h=>hB (hZ.1 h);simp only[go_sem,hc,pd,a7I,lB];by_cases c2:nl B=1
 ·have O:B<4294967296:=by have:=(jA B 1).1 Om; simpa using this
  have φ:aI B=[B]:=oL hB O;have sh:=apV (C:=C) L (aI A) B N ο O Om;rw[vA] at sh;simp only[aC.wp,go_sem] at sh;simp only[go_sem,bL (Om:((nl B:Nat):Int)=1)];exact sh _ rfl (by simp only[go_sem,φ])
 obtain⟨m,hm⟩:∃ m,nl B=m+1:=⟨nl B-1,by omega⟩;have a':1≤m:=Om;obtain⟨Ψ,Z⟩:=aOF hm;obtain⟨n,hn⟩:∃ n,n+cM B=32*(m+1):=⟨32*(m+1)-cM B,by omega⟩;have β:n<32:=Om;have E:0<2 ^ n:=baD (by decide);have S:B<2 ^ cM B:=(lT B _).1 (a7O _);have R:=aOG hB;have V:B*2 ^ n<4294967296 ^ (m+1):=by have:B*2 ^ n<2 ^ cM B*2 ^ n:=Nat.mul_lt_mul_of_pos_right S E;rw[← Nat.pow_add,show cM B+n=32*(m+1) by omega,Nat.pow_mul] at this;exact this
 have Δ:4294967296 ^ m*2147483648≤B*2 ^ n:=by have:2 ^ (cM B-1)*2 ^ n≤B*2 ^ n:=a8P _ R;rw[← Nat.pow_add,show cM B-1+n=32*m+31 by omega,Nat.pow_add,Nat.pow_mul] at this;exact this
 have nV:nl (B*2 ^ n)=m+1:=by
  have w:=(jA (B*2 ^ n) (m+1)).2 V;rcases a8F (nl (B*2 ^ n)) (m+1) with h | h
  ·have:=(jA (B*2 ^ n) m).1 Om;have ψ:0<4294967296 ^ m:=baD (by decide);omega
  ·omega
 have Φ:B*2 ^ n≠0:=Nat.mul_ne_zero hB Om;have d':nl (A*2 ^ n)≤nl A+1:=lJ (a7O _) (nT (by rw[Nat.pow_one]; exact Nat.pow_lt_pow_right (a:=2) (m:=n) (n:=32) (by decide) β));have τ:B*2 ^ n≤A*2 ^ n:=a8P _ Om;have e':m+1≤nl (A*2 ^ n):=by rw[← nV]; exact fT τ
 have Ξ:A*2 ^ n≠0:=Om;have θ:IntKind.i64.wrap (32*((nl B:Nat):Int))=((32*(m+1):Nat):Int):=by rw[wrap_i64 Om Om]; omega
 have en:IntKind.i64.wrap (((32*(m+1):Nat):Int)-((cM B:Nat):Int))=(n:Int):=by rw[wrap_i64 Om Om]; omega
 have bt:=L.bits (aI B) LB Om;rw[vB] at bt;have ua:=L.upM (aI A) n N Om Om (fun h=>by have:=fB N; rw[h] at this; omega);have ub:=(L.upM (aI B) n LB Om Om (fun h=>by have:=fB LB; rw[h] at this; omega)).freeze;rw[vA] at ua;rw[vB] at ub;have tail:∀ (o:Nat) (F:PF) (H:PH),F 0=some (aJ (aI A))→F 1=some (aJ (aI B))→F 10=some (.int .i64 n)→F 11=some (.osl o 1 0 (nl (A*2 ^ n)+2))→F 12=some (aJ (aI (B*2 ^ n)))→H o=some (.rows 1 (aL (aI (A*2 ^ n))++[[.int .u32 0],[.int .u32 0]])) →
   aC.wp C (.seq (.region EA) (.seq (.region EB) (.seq (.region EC) (.seq (.seq (.region ED) (.block 2 (.loop vG))) (.seq (.region EJ) .ret))))) (aV [.tmp 4,.tmp 5] (bY (pJ A B))) F H:=by
  intro o F H f0 f1 ι f11 κ hH;have LU:=aX (A*2 ^ n);have LV:=aX (B*2 ^ n);have vU:=aW (A*2 ^ n);have vV:=aW (B*2 ^ n);have lU:(aI (A*2 ^ n)).length=nl (A*2 ^ n):=rfl;have lV:(aI (B*2 ^ n)).length=m+1:=nV;have eu:IntKind.i64.wrap (((nl (A*2 ^ n):Nat):Int)+1)=((nl (A*2 ^ n)+1:Nat):Int):=cZ Om;have b1:((nl (A*2 ^ n)+1:Nat):Int)≤((nl (A*2 ^ n)+2:Nat):Int):=Om;simp only[go_sem,EA,f11,f0,ι];refine aA ua.freeze rfl ?_;obtain⟨c,Ω⟩:∃ c,nl (A*2 ^ n)+1-(m+1)=c:=⟨_,rfl⟩;have χ:nl (A*2 ^ n)+1=c+(m+1):=Om;have em:IntKind.i64.wrap (((m+1:Nat):Int)-1)=((m:Nat):Int):=by rw[wrap_i64 Om Om]; omega
  have l:m<(aI (B*2 ^ n)).length:=Om;have rm:=bU (aI (B*2 ^ n)) l;have tl:=LV _ (a7L l);have htop:0<(aI (B*2 ^ n))[m]:=by
   have w:=cF (aI (B*2 ^ n)) l;rw[a8D Om,vV] at w;have h2:=fB (LV.take m);rw[a8C,a9U Om] at h2;have ψ:0<4294967296 ^ m:=baD (by decide);rcases a9S (aI (B*2 ^ n))[m] with h | h
   ·rw[h] at w; omega
   ·exact h
  have η:2147483648≤(aI (B*2 ^ n))[m]:=by
   have w:=cF (aI (B*2 ^ n)) l;rw[a8D Om,vV] at w;have h2:=fB (LV.take m);rw[a8C,a9U Om] at h2;rcases a8F (aI (B*2 ^ n))[m] 2147483648 with h | h
   ·exfalso;have h3:4294967296 ^ m*((aI (B*2 ^ n))[m]+1)≤4294967296 ^ m*2147483648:=a9V _ h;rw[a7X,Nat.mul_one] at h3;omega
   ·exact h
  have q:=aBR (C:=C) L (A*2 ^ n) n o (nl (A*2 ^ n)+1) c;have hI:pC (A*2 ^ n) (val (aI (B*2 ^ n))) (m+1) (nl (A*2 ^ n)+1) c c (aI (A*2 ^ n)++[0]) (a7M c 0):=by
   refine⟨by rw[a7Q,lU]; rfl,List.length_replicate,LU.app fun x M=>by simp at M; omega,vS _,?_,?_,fun i x _ M=>U7 M⟩
   ·rw[fZ,vU,sD]; simp[val]
   ·have Θ:(aI (A*2 ^ n)++[0]).length=nl (A*2 ^ n)+1:=by rw[a7Q,lU]; rfl
    have Γ:val (aI (A*2 ^ n)++[0])=A*2 ^ n:=by rw[fZ,vU]; simp[val]
    rw[uP (LU.app fun x M=>by simp at M; omega) Om,Γ,vV,baN (baD (by decide))];have w:A*2 ^ n<4294967296 ^ nl (A*2 ^ n):=(jA _ _).1 (a7O _);have M:nl (A*2 ^ n)=m+c:=Om;rw[M,Nat.pow_add] at w;have h2:4294967296 ^ m*4294967296 ^ c≤(B*2 ^ n)*4294967296 ^ c:=a8P _ Om;omega
  have J:aL (aI (A*2 ^ n))++[[PV.int .u32 0],[PV.int .u32 0]]=eA (aI (A*2 ^ n)++[0]) (aL [0]):=by simp[eA,aL]
  rw[J] at hH;generalize ζ:(aI (B*2 ^ n))[m]=top at *
  have et:IntKind.u64.wrap ((top:Nat):Int)=((top:Nat):Int):=bE Om;have k2:IntKind.i64.wrap (((nl (A*2 ^ n)+1:Nat):Int)-((m+1:Nat):Int))=((c:Nat):Int):=by rw[wrap_i64 Om Om]; omega
  have k3:((c:Nat):Int)*((4:Nat):Int)≤140737488355328:=Om;have k4:((c:Nat):Int)≤9223372036854775807:=Om;have hz:a7M c [PV.int .u32 0]=aL (a7M c 0):=by simp[aL]
  have jq:IntKind.i64.wrap ((c:Int)-1)=(c:Int)-1:=wrap_i64 Om Om;simp only[go_sem,a7I,lU,eu,b1,EB,κ,lV,em,rm,et,EC,k2,k3,k4,hz];refine aR fun u ε=>?_;have γ:u≠o:=by rintro rfl; rw[hH] at ε; cases ε
  have e:¬ o=u:=fun h=>γ h.symm;have p:=q u m (aI (B*2 ^ n)) [0] γ LV lV (by rw[ζ]; exact htop) χ Om _ hI;rw[ζ] at p;simp only[go_sem] at p;simp only[go_sem,ED,jq];refine p _ _ _ ?_ ?_ ?_
  ·unfold duF;exact Lq
  ·refine PH.aK (PH.aK a_ ?_) ?_
   ·simp only[go_sem,e,hH]
   ·simp only[go_sem]
  clear p q;intro X Q F1 H1 d y U;have μ:F1 10=some (.int .i64 n):=y 10 _ (by unfold duF; simp only[go_sem]);have ν:F1 11=some (.osl o 1 0 (nl (A*2 ^ n)+1)):=y 11 _ (by unfold duF; simp only[go_sem]);have ξ:F1 14=some (.osl u 1 0 c):=y 14 _ (by unfold duF; simp only[go_sem]);have δ:H1 o=some (.rows 1 (eA X (aL [0]))):=U o _ (by simp only[go_sem,e]);have ω:H1 u=some (.rows 1 (aL Q)):=U u _ Sq;have hu:val X<val (aI (B*2 ^ n)):=by have:=d.r; rwa [a8T] at this
  have K:=d.v;rw[vV] at hu K;have σ:val Q=A/B:=by
   have:A*2 ^ n/(B*2 ^ n)=val Q:=by rw[← K,Nat.add_mul_div_right _ _ Om,baY hu,a8G]
   rw[← this,Nat.mul_div_mul_right _ _ E]
  have υ:val X/2 ^ n=A%B:=by
   have:A*2 ^ n%(B*2 ^ n)=val X:=by rw[← K,Nat.add_mul_mod_self_right,a8W hu]
   rw[← this,Nat.mul_mod_mul_right,Nat.mul_div_cancel _ E]
  have lX:=d.lu';have lQ:=d.lq';have ρ:(aL Q).take c=aL Q:=a8D (by rw[cA]; omega);have Y:(eA X (aL [0])).take (nl (A*2 ^ n)+1)=aL X:=by rw[eA,List.take_append_of_le_length (by rw[cA]; omega),a8D (by rw[cA]; omega)]
  have W:nl (A*2 ^ n)+1≤(eA X (aL [0])).length:=by rw[eA,a7Q,cA]; omega
  have α:(eA X (aL [0])).map (fun r=>r.map (PV.dE u 1 (aL Q)))=eA X (aL [0]):=by
   have:eA X (aL [0])=aL (X++[0]):=by simp[eA,aL]
   rw[this]; exact rV _ _ _ _
  have nX:=fM d.limU;have t1:=L.trim Q d.limQ Om;have t2:=L.trim X d.limU Om;have dn:=L.down (aI (val X)) n (aX _) (by rw[bB]; omega) Om;rw[aW,υ] at dn;rw[σ] at t1;generalize aL [0]=Z0 at δ Y W α;simp only[go_sem,EJ,ξ];refine rB (o:=u) (s:=1) (rs:=aL Q) t1 ω (by simp only[go_sem,ρ,show c≤Q.length by omega]) ?_;simp only[go_sem,ν,e];refine rB (o:=o) (s:=1) (rs:=eA X Z0) t2 (by simp only[go_sem,e,δ,cG.frz,α]) (by simp only[go_sem,Y,W]) ?_;simp only[go_sem,μ];refine aA dn rfl ?_;simp only[go_sem];exact bA (vs:=[aJ (aI (A/B)),aJ (aI (A%B))]) (.inr rfl) .nil rfl a_ ⟨.refl _,rfl⟩
 simp only[aC.wp,go_sem] at tail;simp only[go_sem,bF (Om:¬ ((nl B:Nat):Int)=1),XZ,a7I,lB];refine aA bt rfl ?_;simp only[go_sem,θ,en,YA];refine kU ua rfl a_ fun r H1 hr _=>?_;have Z:(2:Nat)*1≤16777216:=by decide
 rcases hr with ⟨h0,_⟩ | ⟨o,rs,rfl,rfl,hrl,hrt⟩
 ·exfalso;have:=congrArg List.length h0;rw[cA,bB] at this;simp at this;omega
 rw[PH.pO];rw[cA,bB] at hrl hrt;simp only[go_sem,Z,cA,bB];refine U4 (src:=[[.int .u32 0],[.int .u32 0]]) (rs:=rs) rfl ?_ Sq hrl ?_ fun o' c'=>?_
 ·unfold roomFor;simp only[maxLen,a9A,a9Y]; omega
 ·rw[hrt];simp only[go_sem];refine aA ub rfl ?_;simp only[go_sem];exact tail o _ _ rfl rfl rfl rfl rfl Sq
 ·rw[hrt];simp only[go_sem];refine aA ub rfl ?_;simp only[go_sem];exact tail o' _ _ rfl rfl rfl rfl rfl Sq
def aM (C:Ctx) (k:Nat) (c:aS):Prop:=∀ (args:List PV) (H:PH) (R:PV→PH→Prop),args.length≤c.ntmps→c.body.wp C (aV c.res R) (PF.args args) H→aH C k args H R
theorem aM.go {C:Ctx} {k:Nat} {c:aS} (r:aM C k c) {args:List PV} {H:PH} {R:PV→PH→Prop} (h:c.body.wp C (aV c.res R) (PF.args args) H) (d:Nat.ble args.length c.ntmps=true):aH C k args H R:=r args H R (Nat.le_of_ble_eq_true d) h
structure fW (C:Ctx):Prop where
 r0:aM C 0 ka
 r1:aM C 1 He
 r2:aM C 2 alP
 r4:aM C 4 lg
 r5:aM C 5 amD
 r7:aM C 7 lf
 r20:aM C 20 aVQ
 r23:aM C 23 aVW
 r27:aM C 27 j6
 r28:aM C 28 amC
 r29:aM C 29 Hf
 r30:aM C 30 apS
 r31:aM C 31 Hj
 r32:aM C 32 apT
 r33:aM C 33 udiv
 r34:aM C 34 apX
 r35:aM C 35 Hl
 r36:aM C 36 apZ
 r37:aM C 37 aqC
 r38:aM C 38 Hn
 r39:aM C 39 VK
 r40:aM C 40 Hk
 r41:aM C 41 pn
 r42:aM C 42 po
 r43:aM C 43 Hm
 r44:aM C 44 p4
 r45:aM C 45 uup
 r47:aM C 47 aqH
 r50:aM C 50 qi
 r58:aM C 58 VO
 r59:aM C 59 Hz
 r95:aM C 95 akN
 r96:aM C 96 akT
 r97:aM C 97 jp
 r98:aM C 98 G7
 r99:aM C 99 G8
 r100:aM C 100 G9
 r101:aM C 101 gone
 r102:aM C 102 Ha
 r103:aM C 103 jr
 r104:aM C 104 gin
 r105:aM C 105 akO
 r106:aM C 106 akP
 r107:aM C 107 Hb
 r108:aM C 108 Hc
 r109:aM C 109 ju
 r110:aM C 110 Hd
 r111:aM C 111 Ma
 r112:aM C 112 akQ
 r113:aM C 113 ZJ
 r114:aM C 114 akB
 r115:aM C 115 jd
 r116:aM C 116 FO
 r117:aM C 117 ul
 r118:aM C 118 jo
 r119:aM C 119 akA
 r120:aM C 120 rU
 r121:aM C 121 jn
 r122:aM C 122 G6
 r123:aM C 123 j4
 r124:aM C 124 QF
 r125:aM C 125 QH
 r126:aM C 126 FS
 r127:aM C 127 amH
 r128:aM C 128 Hg
 r129:aM C 129 amK
 r130:aM C 130 amM
 r131:aM C 131 amR
 r132:aM C 132 Hh
 r133:aM C 133 amV
 r134:aM C 134 amX
 r135:aM C 135 Hi
 r136:aM C 136 VA
 r137:aM C 137 l6
 r138:aM C 138 yM
 r139:aM C 139 JX
 r140:aM C 140 l8
 r141:aM C 141 ma
 r142:aM C 142 BO
 r143:aM C 143 nup
 r147:aM C 147 tat
 r148:aM C 148 aXF
 r149:aM C 149 aTM
 r150:aM C 150 aXG
 r151:aM C 151 aWZ
 r152:aM C 152 a0J
 r153:aM C 153 aTL
 r154:aM C 154 a0K
 r155:aM C 155 aXA
 r156:aM C 156 a0I
 r157:aM C 157 aXH
 r158:aM C 158 a0L
 r159:aM C 159 aXK
 r160:aM C 160 aXI
 r161:aM C 161 aXJ
theorem kR {C:Ctx} (c:fW C):pU C :=
 have len:∀ xs,Lim xs→xs.length≤35184372087808→aH C 138 [aJ xs] .nil (aF (.int .i64 (nl (val xs):Nat))):=fun xs h l=>c.r138.go (l7 xs h l) rfl
 {length:=len
  large:=fun xs h l=>c.r137.go (Bm xs (len xs h l)) rfl
  sized:=fun xs h l=>(c.r141.go (B5 xs h (len xs h l)) rfl).seen
  trim:=fun xs h l=>(c.r135.go (Qt xs h l (len xs h l)) rfl).seen
  make:=fun v h=>c.r132.go (Qb v h len) rfl
  cmp:=fun xs ys d e i p=>c.r129.go (abX xs ys d e i p (len xs d i) (len ys e p)) rfl }
theorem amG {C:Ctx} (c:fW C):fl C :=
 {subtract:=fun A W Z v f o hW l i e p d=>c.r142.go (RH A W Z v f hW l i e p d o) rfl
  restore:=fun A W Z v o hW l i e=>c.r139.go (WX A W Z v hW l i e o) rfl }
theorem b8 {C:Ctx} (c:fW C):YZ C :=
 {L:=kR c
  D:=amG c
  up:=fun a s i u e=>c.r143.go (auO a s i u e) rfl
  short:=fun a d i l p e=>c.r140.go (Br (kR c) a d i l p e) rfl
  lengthO:=fun xs o w q=>c.r138.go (WV xs w q o) rfl }
theorem zS {C:Ctx} (c:fW C) (A B:Nat) (hB:B≠0) (e:nl A≤900) (d:nl B≤900):aH C 136 [aJ (aI A),aJ (aI B)] .nil (aF (pJ A B)) :=
 (c.r136.go (lk (b8 c) A B hB e d) rfl).seen
theorem lI {C:Ctx} (c:fW C):qW C :=
 {kR c with
  bits:=fun xs h l=>c.r128.go (Pp xs h l ((kR c).length xs h l)) rfl
  add:=fun xs ys d e i p=>(c.r127.go (abJ (kR c) xs ys d e i p) rfl).seen
  sub:=fun xs ys d e i p=>(c.r134.go (adD (kR c) xs ys d e i p) rfl).seen
  mul:=fun xs ys d e i p=>(c.r133.go (acY (kR c) xs ys d e i p) rfl).seen
  gcd:=fun xs ys d e i p=>(c.r131.go (acQ (kR c) (zS c) xs ys d e i p) rfl).seen
  div:=fun xs ys d e i p=>(c.r130.go (acI (kR c) (zS c) xs ys d e i p) rfl).seen }
theorem qC {C:Ctx} (c:fW C):AQ C :=
 {lI c with
  times:=fun a b d i e l p q=>c.r121.go (zi (lI c) a b d i e l p q) rfl
  zero:=fun neg a b d e=>c.r122.go (K7 (lI c) neg a b d e) rfl
  valid:=fun neg a b d i e l=>c.r118.go (zm (lI c) neg a b d i e l) rfl
  abs:=fun v w x=>c.r119.go (Ye (lI c) v w x) rfl
  lowest:=fun neg a b d i e l p q u=>(c.r120.go (i7 (lI c) neg a b d i e l p q u) rfl).seen }
theorem PS {C:Ctx} (c:fW C) (x y:RF) (d:x.Ok) (e:y.Ok):aH C 113 [.agg x.cells,.agg y.cells] .nil (aF (frV (gJ x.v y.v))) :=
 (c.r113.go (Yj (qC c) x.neg y.neg x.num x.den y.num y.den d.1 d.2.1 e.1 e.2.1 d.2.2.1 d.2.2.2 e.2.2.1 e.2.2.2) rfl).seen
theorem HU {C:Ctx} (c:fW C):fg C :=
 {qC c with
  frac:=fun n d u p=>(c.r115.go (Ky (qC c) n d u.1 u.2 p.1 p.2) rfl).seen
  red:=fun x e=>by rw[← m6];exact (c.r116.go (jg (qC c) x.neg x.num x.den e.1 e.2.1 e.2.2.1 e.2.2.2) rfl).seen
  ord:=fun x y e i=>(c.r114.go (Yt (qC c) x.neg y.neg x.num x.den y.num y.den e.1 e.2.1 i.1 i.2.1 e.2.2.1 e.2.2.2 i.2.2.1 i.2.2.2) rfl).seen
  plus:=PS c
  tot:=fun l q=>(c.r117.go (Yz (qC c) (PS c) l q.all q.fits) rfl).seen }
theorem qB {C:Ctx} (c:fW C):rD C :=
 have inn:∀ n lo hi:Int,aH C 104 [.int .i64 n,.int .i64 lo,.int .i64 hi] .nil (aF (.bool (within n lo hi))):=fun n lo hi=>(c.r104.go (asQ n lo hi) rfl).seen;have lK:∀ x:RF,x.Ok→aH C 97 [.agg x.cells] .nil (aF (.bool (bG x))):=fun x i=>(c.r97.go (zp (lI c) x i) rfl).seen;have lim:∀ x:RF,x.Ok→aH C 105 [.agg x.cells] .nil (aF (.bool (cS x))):=fun x i=>(c.r105.go (Zp (HU c) x i) rfl).seen;have d:∀ n:Nat,aH C 126 [.int .u8 n] .nil (aF (.bool (eO n))):=fun n=>c.r126.go (j3 n) rfl;have e:∀ n:Nat,aH C 124 [.int .u8 n] .nil (aF (.bool (kK n))):=fun n=>c.r124.go (Aj n) rfl
 {HU c with
  inn:=inn
  lK:=lK
  lim:=lim
  one:=fun x i=>(c.r101.go (Zw (HU c) x i) rfl).seen
  allf:=fun p fn l q h=>(c.r99.go (Lm p fn l q h) rfl).seen
  alli:=fun p fn l q h=>(c.r100.go (Lz p fn l q h) rfl).seen
  allb:=fun p fn l q h=>(c.r98.go (Lc p fn l q h) rfl).seen
  ends1:=fun b=>(c.r103.go (zt b) rfl).seen
  num1:=fun n=>(c.r107.go (Mn inn n) rfl).seen
  rate1:=fun x i=>(c.r109.go (Aa lim lK x i) rfl).seen
  name:=fun s=>c.r123.go (N3 d (fun n=>c.r125.go (Al d e n) rfl) s) rfl }
theorem PP {C:Ctx} (c:fW C):ff C :=
 {qB c with
  num:=fun p d=>(c.r106.go (Zs (qB c) p d) rfl).seen
  rate:=fun p d=>(c.r108.go (Mt (qB c) p d) rfl).seen
  uniq:=fun l e=>(c.r110.go (M0 (qB c) l e) rfl).seen }
theorem PQ {C:Ctx} (c:fW C):NV C :=
 {PP c with
  ends:=fun l e d=>(c.r102.go (Me (qB c) l e d) rfl).seen }
theorem Ku {C:Ctx} (c:fW C):jV C :=
 {PQ c with
  law:=fun l e=>(c.r95.go (Zg (PQ c) l e) rfl).seen
  pol:=fun p n q i=>(c.r112.go (Z1 (PP c) p q n i) rfl).seen
  a6G:=fun f d=>(c.r111.go (Y9 (qB c) f d) rfl).seen }
theorem uk {C:Ctx} (c:fW C) (f:aE) (d:f.Ok):aH C 96 [.agg f.cells] .nil (aF (.int .i64 (wK f))):=(c.r96.go (aaA (Ku c) f d) rfl).seen
theorem jT {C:Ctx} (c:fW C):oV C:={ trimM:=fun xs h l=>c.r38.go (T2 xs h l) rfl }
theorem RX {C:Ctx} (c:fW C):fp C :=
 {jT c with
  make:=fun v h=>(c.r35.go (To (jT c) v h) rfl).seen
  large:=fun xs h l=>(c.r41.go (D2 (jT c) xs h l) rfl).seen
  cmp:=fun xs ys d e i p=>c.r32.go (aeY (jT c) xs ys d e i p) rfl }
theorem RZ {C:Ctx} (c:fW C):ft C :=
 {RX c with
  minus:=fun a b e i l q d=>(c.r42.go (D5 (jT c) a b e i l q d) rfl).seen
  times:=fun a b e i d p=>(c.r44.go (Eh (jT c) a b e i d p) rfl).seen }
theorem zZ {C:Ctx} (c:fW C):OA C :=
 {RZ c with
  plus:=fun a b i l d e=>(c.r43.go (Tu (jT c) a b i l d e) rfl).seen }
theorem Ra {C:Ctx} (c:fW C):FD C :=
 {zZ c with
  bits:=fun xs h l=>c.r31.go (Sx (jT c) xs h l) rfl
  upM:=fun a n e d i p=>c.r45.go (aBX (jT c) a n e d i p) rfl
  down:=fun a n e d i=>(c.r40.go (Td (jT c) a n e d i) rfl).seen }
theorem zY {C:Ctx} (c:fW C):NY C :=
 {RX c with
  divide:=fun A B hB e d=>(c.r39.go (ov (Ra c) A B hB e d) rfl).seen }
theorem RY {C:Ctx} (c:fW C):fq C :=
 {zY c with
  gcd:=fun a b d e i l=>(c.r34.go (afR (zY c) a b d e i l) rfl).seen
  div:=fun a b d e i l=>(c.r33.go (afJ (zY c) a b d e i l) rfl).seen }
theorem mi {C:Ctx} (c:fW C):Gz C :=
 {RY c with
  lowest:=fun neg a b i l p q u w e=>(c.r58.go (qb (RY c) neg a b i l p q u w e) rfl).seen
  size:=fun v d=>c.r59.go (Ux v d.1 d.2) rfl }
theorem tF {C:Ctx} (c:fW C):NZ C :=
 {mi c with
  fmk:=fun n d i e=>(c.r50.go (Uk (mi c) n d i e) rfl).seen }
abbrev oQ (C:Ctx):Prop:=∀ n:Nat,n<100→aH C 195 [.int .i64 n] .nil (aF (.str (bZ n)))
theorem JJ {C:Ctx} (c:fW C) (hi:oQ C):AU C :=
 {tF c with
  int:=fun n d=>(c.r47.go (VN (tF c) n d) rfl).seen
  itoa:=hi
  next:=fun l v T o n a d e=>c.r4.go (Pd T o n a d e) rfl }
theorem QO {C:Ctx} (c:fW C) (hi:oQ C):fj C :=
 {JJ c hi with
  frac:=fun l v T o a d=>c.r1.go (Oo (JJ c hi) T o a d) rfl }
theorem QP {C:Ctx} (c:fW C) (hi:oQ C):qV C :=
 {QO c hi with
  rep:=fun l v T o a m e d=>c.r5.go (abA (QO c hi) T o a m e d) rfl
  name:=fun s n p i=>c.r29.go (Pa (JJ c hi) s n p i) rfl }
theorem QQ {C:Ctx} (c:fW C) (hi:oQ C):mA C :=
 {QP c hi with
  law:=fun l v T o dZ a i d e=>c.r2.go (aaO (QP c hi) T o dZ a i d e) rfl }
theorem kA {f:aE} (h:VF f) {i:Nat} (hi:i<f.a6A.length):0≤lvl f i∧lvl f i≤4:=by
 rcases a9S i with e | e
 ·rw[e,h.root.2.1]; omega
 ·have:=h.dom i e hi; omega


theorem aaN (a b:Nat):mkT (a:Int) (b:Int)=⟨false,aI (a/a7K a b),aI (b/a7K a b)⟩:=by
 have c:decide ((a:Int)<0)=false:=decide_eq_false Om;have d:decide ((b:Int)<0)=false:=decide_eq_false Om;unfold mkT mO FV.rf;rw[c,d,Int.natAbs_natCast,Int.natAbs_natCast];rfl
structure SmF (x:RF) (p q:Nat):Prop where
 eq:x=⟨false,aI (p/a7K p q),aI (q/a7K p q)⟩
 a:p≤64
 b:q≤64
 pos:0<q
theorem SmF.mk' {a b:Nat} (c:a≤64) (d:b≤64) (h:0<b):SmF (mkT (a:Int) (b:Int)) a b:=⟨aaN a b,c,d,h⟩
theorem SmF.num {x:RF} {a b:Nat} (h:SmF x a b):val x.num=a/a7K a b:=by rw[h.eq,aW]
theorem SmF.den {x:RF} {a b:Nat} (h:SmF x a b):val x.den=b/a7K a b:=by rw[h.eq,aW]
theorem SmF.v {x:RF} {a b:Nat} (h:SmF x a b):x.v=(false,a/a7K a b,b/a7K a b):=by
 unfold RF.v;rw[h.num,h.den,h.eq]
theorem SmF.Qw {x:RF} {a b:Nat} (_:SmF x a b):a/a7K a b≤a:=baH ..
theorem SmF.Jw {x:RF} {a b:Nat} (_:SmF x a b):b/a7K a b≤b:=baH ..
theorem SmF.den_pos {x:RF} {a b:Nat} (h:SmF x a b):0<b/a7K a b:=Nat.div_pos (Nat.le_of_dvd h.pos (Nat.gcd_dvd_right a b)) (Nat.gcd_pos_of_pos_right a h.pos)
theorem xZ {n:Nat} (h:n≤4096):cM n≤32:=(lT n 32).2 Om
theorem Vl {n:Nat} (h:0<n):0<cM n:=by
 rcases a9S (cM n) with e | e
 ·rw[jW] at e; omega
 ·exact e
theorem tN {a b:Nat} (d:a≤4096) (e:b≤4096) (h:0<b):cU a b=true:=by
 have i:=xZ d;have l:=xZ e;have c:=Vl h;unfold cU;rw[decide_eq_true c,decide_eq_true (Om:cM b≤4096),decide_eq_true (Om:cM a≤4096)];rfl
theorem aaK {n:Bool} {a b:Nat} (c:a≤4096) (d:b≤4096):iD n a b=.ok (n&&decide (a/a7K a b≠0),a/a7K a b,b/a7K a b):=by
 have e:=xZ (a8V (baH a (a7K a b)) c);have i:=xZ (a8V (baH b (a7K a b)) d);unfold iD;rw[if_neg Om]
theorem SmF.lim {x:RF} {a b:Nat} (h:SmF x a b):cS x=true:=by
 have l:=h.Qw;have p:=h.Jw;have c:=h.den_pos;have:=h.a;have:=h.b;have d:x.neg=false:=by rw[h.eq]
 unfold cS oT;rw[h.num,h.den,d,tN Om Om c,if_pos rfl,aaK Om Om];have e:=baH (a/a7K a b) (a7K (a/a7K a b) (b/a7K a b));have i:=baH (b/a7K a b) (a7K (a/a7K a b) (b/a7K a b));simp only[a7R,a7Z,a7T,a8A,decide_eq_true_eq];exact⟨xZ Om,xZ Om⟩
theorem SmF.lK {x:RF} {a b:Nat} (h:SmF x a b) (c:0<a):bG x=true:=by
 unfold bG;rw[h.num];exact decide_eq_true (Nat.ne_of_gt (Nat.div_pos (Nat.le_of_dvd c (Nat.gcd_dvd_left a b)) (Nat.gcd_pos_of_pos_right a h.pos)))
theorem SmF.zero {x:RF} {b:Nat} (h:SmF x 0 b):bG x=false:=by
 unfold bG;rw[h.num,Nat.zero_div];rfl
theorem SmF.one {x:RF} {a b:Nat} (h:SmF x a b) (c:a≤b):wH x=true:=by
 have i:=h.Qw;have l:=h.Jw;have d:=h.den_pos;have:=h.a;have:=h.b;have e:x.neg=false:=by rw[h.eq]
 unfold wH;rw[h.num,h.den,e,tN Om Om d];have:a/a7K a b≤b/a7K a b:=Nat.div_le_div_right c;show (true&&decide (dP (a/a7K a b*1) (1*(b/a7K a b))≤0))=true;rw[Nat.mul_one,Nat.one_mul,a7T];refine decide_eq_true ?_;unfold dP;split
 ·decide
 ·split
  ·omega
  ·decide
theorem SmF.ok {x:RF} {a b:Nat} (h:SmF x a b):x.Ok:=by
 have c:=h.Qw;have d:=h.Jw;have:=h.a;have:=h.b;have k1:nl (a/a7K a b)≤1:=(jA _ _).2 Om;have k2:nl (b/a7K a b)≤1:=(jA _ _).2 Om;rw[h.eq];refine⟨aX _,aX _,?_,?_⟩
 ·show (aI _).length≤_;rw[bB]; omega
 ·show (aI _).length≤_;rw[bB]; omega
theorem aOY:∀ c:Fin 9,∀ k:Fin 9,c.val+k.val≤8 →
  (c.val/a7K c.val 8*(8/a7K k.val 8)+k.val/a7K k.val 8*(8/a7K c.val 8))/a7K (c.val/a7K c.val 8*(8/a7K k.val 8)+k.val/a7K k.val 8*(8/a7K c.val 8)) (8/a7K c.val 8*(8/a7K k.val 8))=(c.val+k.val)/a7K (c.val+k.val) 8 ∧
  8/a7K c.val 8*(8/a7K k.val 8)/a7K (c.val/a7K c.val 8*(8/a7K k.val 8)+k.val/a7K k.val 8*(8/a7K c.val 8)) (8/a7K c.val 8*(8/a7K k.val 8))=8/a7K (c.val+k.val) 8:=by decide +kernel
abbrev eV (c:Nat):FV:=(false,c/a7K c 8,8/a7K c 8)
theorem VY (c:Nat):0<8/a7K c 8:=Nat.div_pos (Nat.le_of_dvd (by decide) (Nat.gcd_dvd_right c 8)) (Nat.gcd_pos_of_pos_right c (by decide))
theorem Il {c k:Nat} (h:c+k≤8):gJ (eV c) (eV k)=.ok (eV (c+k)):=by
 obtain⟨d,e⟩:=aOY ⟨c,by omega⟩ ⟨k,by omega⟩ h;simp only at d e;have a1:=baH c (a7K c 8);have a2:=baH k (a7K k 8);have a3:=baH 8 (a7K c 8);have a4:=baH 8 (a7K k 8);have i:=VY c;have l:=VY k;simp only[gJ];rw[tN Om Om i,tN Om Om l,baM,if_pos rfl,if_pos trivial];have b1:c/a7K c 8*(8/a7K k 8)≤8*8:=baR Om a4;have b2:k/a7K k 8*(8/a7K c 8)≤8*8:=baR Om a3;have p:8/a7K c 8*(8/a7K k 8)≤8*8:=baR a3 a4;rw[aaK Om Om,d,e];rfl
theorem TD:∀ (l:List Nat) (c:Nat),c+l.sum≤8→(l.map eV).foldlM gJ (eV c)=.ok (eV (c+l.sum))
 | [],c,_=>rfl
 | k::l,c,h=>by rw[List.sum_cons] at h;rw[a8X,List.foldlM_cons,Il Om,List.sum_cons,← a9T];exact TD l (c+k) Om
theorem aOX:eV 0=(false,0,1):=by decide +kernel
theorem aEW:eV 8=(false,1,1):=by decide +kernel
theorem aTK (l:List Nat) (h:l.sum=8):(match nH (l.map eV) with
  | .ok (n,a,b)=>decide (pM n a b false 1 1=0)
  | .error _=>false)=true:=by
 unfold nH;rw[← aOX,TD l 0 Om,a8G,h,aEW];rfl
def dig (k:Nat):List UInt8:=if k<10 then [UInt8.ofNat (48+k)] else [UInt8.ofNat (48+k/10),UInt8.ofNat (48+k%10)]
def VM:List UInt8→Nat
 | [a]=>a.toNat-48
 | [a,b]=>(a.toNat-48)*10+(b.toNat-48)
 | _=>0
theorem QE {k:Nat} (h:k<100):bZ k=dig k:=by
 unfold bZ dig;by_cases c:k<10
 ·rw[if_pos c]; exact Lib.decDigits_one c
 ·rw[if_neg c]; exact Lib.decDigits_two c h
theorem Jy:∀ k:Fin 100,VM (dig k.val)=k.val∧(dig k.val).length≤2∧((dig k.val).all fun c=>fL c.toNat)=true:=by decide +kernel
theorem vj {p:List UInt8} {c:UInt8} {t:List UInt8} (e:p=c::t) (i:eO c.toNat=true) (u:(t.all fun c=>fL c.toNat)=true) (w:p.length≤8) {k:Nat} (l:k<100):isName (p++bZ k)=true:=by
 obtain⟨-,q,d⟩:=Jy ⟨k,l⟩;simp only at q d;subst e;rw[QE l];show (decide ((c::t++dig k).length≤16)&&eO c.toNat&&(c::t++dig k).all fun c=>fL c.toNat)=true;have hi:fL c.toNat=true:=by unfold fL; rw[i]; rfl
 rw[decide_eq_true (by rw[a7Q]; omega),i,List.all_append,d,List.all_cons,u,hi];rfl
theorem VX {l:List (List UInt8)} (c:∀ x∈l,isName x=true) (d:l.Nodup):distinct l=true:=by
 unfold distinct;rw[a7Y];intro i hi;rw[a8M] at hi;have e:l.getD i []=l[i]:=by simp[a8B,hi]
 rw[e,c _ (a7L hi),a7T];have:¬ l[i]∈l.take i:=by intro q;obtain⟨j,p,e⟩:=a8U q;rw[a8C] at p;rw[List.getElem_take] at e;have:=(List.nodup_iff_pairwise_ne.1 d);rw[List.pairwise_iff_getElem] at this;exact this j i Om hi Om e
 simp[this]
theorem RD {l:List (List UInt8)} {g:List UInt8→Nat} (h:∀ i (hi:i<l.length),g l[i]=i):l.Nodup:=by
 rw[List.nodup_iff_pairwise_ne,List.pairwise_iff_getElem];intro i j hi d hlt e;have c:=h i hi;have p:=h j d;rw[e] at c;omega
theorem sM {l:List (List UInt8)} {p:List UInt8} {c:UInt8} {t:List UInt8} (e:p=c::t) (d:eO c.toNat=true) (u:(t.all fun c=>fL c.toNat)=true) (q:p.length≤8) (y:l.length≤100) (h:∀ i (hi:i<l.length),l[i]=p++bZ i):distinct l=true:=by
 refine VX ?_ (RD (g:=fun s=>VM (s.drop p.length)) ?_)
 ·intro x w;obtain⟨i,hi,rfl⟩:=a8U w;rw[h i hi];exact vj e d u q Om
 ·intro i hi;rw[h i hi];simp only[List.drop_left];rw[QE Om];exact (Jy ⟨i,by omega⟩).1
structure sG (x:RF):Prop where
 lim:cS x=true
 ok:x.Ok
theorem SmF.o {x:RF} {a b:Nat} (h:SmF x a b):sG x:=⟨h.lim,h.ok⟩
theorem pT:SmF jP 0 1:=SmF.mk' (a:=0) (b:=1) (by decide) (by decide) (by decide)
theorem rL (l:List Nat) (a:Nat):sG (fH l a).1∧bG (fH l a).1=true:=by
 have c:=cJ l (show 0<6 by decide) a;have d:=cJ l (show 0<8 by decide) (aG l 6 a).2;have:=SmF.mk' (a:=1+(aG l 6 a).1) (b:=1+(aG l 8 (aG l 6 a).2).1) Om Om Om;exact⟨this.o,this.lK Om⟩
theorem aDX (l:List Nat) (i j a:Nat):sG (iY l i j a).1∧(j=i→bG (iY l i j a).1=false)∧(j=i+1→bG (iY l i j a).1=true):=by
 unfold iY;by_cases c:j=i+1
 ·rw[if_pos c];exact⟨(rL l a).1,fun h=>by omega,fun _=>(rL l a).2⟩
 ·rw[if_neg c];by_cases d:j=i
  ·rw[if_pos d];exact⟨pT.o,fun _=>pT.zero,fun h=>absurd h c⟩
  ·rw[if_neg d];simp only;split
   ·exact⟨(rL l _).1,fun h=>absurd h d,fun h=>absurd h c⟩
   ·exact⟨pT.o,fun h=>absurd h d,fun h=>absurd h c⟩
theorem aeM (l:List Nat) (i a:Nat):∀ n,(dT l i a n).1.length=n∧∀ j (c:j<(dT l i a n).1.length),sG (dT l i a n).1[j]∧(j=i→bG (dT l i a n).1[j]=false)∧(j=i+1→bG (dT l i a n).1[j]=true)
 | 0=>⟨rfl,fun j c=>absurd c (by simp[dT])⟩
 | n+1=>by
  obtain⟨d,p⟩:=aeM l i a n;have e:(dT l i a (n+1)).1=(dT l i a n).1++[(iY l i n (dT l i a n).2).1]:=rfl;rw[e];refine⟨by simp[d],fun j c=>?_⟩;by_cases hlt:j<(dT l i a n).1.length
  ·rw[List.getElem_append_left hlt]; exact p j hlt
  ·rw[a7Q,a7U] at c;have:j=n:=Om;subst this;rw[bbG Om];simp only[List.getElem_singleton];exact aDX l i j _
theorem aeE (l:List Nat) (a:Nat):∀ n,(kC l a n).1.length=n∧∀ x∈(kC l a n).1,sG x∧bG x=true
 | 0=>⟨rfl,fun x c=>by cases c⟩
 | n+1=>by
  obtain⟨d,i⟩:=aeE l a n;have e:(kC l a (n+1)).1=(kC l a n).1++[(fH l (kC l a n).2).1]:=rfl;rw[e];refine⟨by simp[d],fun x c=>?_⟩;rw[a9E,a9Z] at c;rcases c with c | rfl
  ·exact i x c
  ·exact rL l _
theorem aFI (l:List Nat) (n i a:Nat):sG (eY l n i a).1∧(i+1=n→bG (eY l n i a).1=true):=by
 unfold eY;by_cases h:i+1<n
 ·simp only[if_pos h];refine⟨?_,fun c=>by omega⟩;split
  ·exact pT.o
  ·exact (rL l a).1
 ·simp only[if_neg h];exact⟨(rL l a).1,fun _=>(rL l a).2⟩
def aUP (n:Nat) (a6C:List (List RF)):Prop:=∀ i (hi:i<a6C.length),a6C[i].length=n∧∀ j (c:j<a6C[i].length),sG a6C[i][j]∧(j=i→bG a6C[i][j]=false)∧(j=i+1→bG a6C[i][j]=true)
def aUN (n:Nat) (exit:List RF):Prop:=∀ i (hi:i<exit.length),sG exit[i]∧(i+1=n→bG exit[i]=true)
structure a2M (n i:Nat) (s:CG) (cs:List Nat):Prop where
 start:s.start=cs.map fun c=>mkT ((c:Nat):Int) ((8:Nat):Int)
 lens:s.exit.length=i∧s.a6C.length=i∧cs.length=i
 left:cs.sum+s.left=8∧(i=n→0<n→s.left=0)
 exit:aUN n s.exit
 a6C:aUP n s.a6C
theorem rP {α:Type} {P:Nat→α→Prop} {xs:List α} {x:α} (h:∀ i (hi:i<xs.length),P i xs[i]) (c:P xs.length x):∀ i (hi:i<(xs++[x]).length),P i (xs++[x])[i]:=by
 intro i hi;by_cases hlt:i<xs.length
 ·rw[List.getElem_append_left hlt]; exact h i hlt
 ·rw[a7Q,a7U] at hi;have:i=xs.length:=Om;subst this;rw[bbG Om];simpa using c
theorem Ai (l:List Nat) (n a:Nat):∀ i,i≤n→∃ cs,a2M n i (fS l n a i) cs
 | 0,_=>⟨[],rfl,⟨rfl,rfl,rfl⟩,⟨rfl,fun h c=>by omega⟩,fun i hi=>absurd hi (by simp[fS]),fun i hi=>absurd hi (by simp[fS])⟩
 | i+1,hi=>by
  obtain⟨cs,p,⟨c,d,q⟩,⟨h5,-⟩,u,h7⟩:=Ai l n a i Om;generalize y:fS l n a i=s at *
  have e:fS l n a (i+1)=⟨s.start++[mkT ((dS l n i s).1:Nat) 8],s.exit++[(eY l n i (dS l n i s).2).1],s.a6C++[(dT l i (eY l n i (dS l n i s).2).2 n).1],s.left-(dS l n i s).1,(dT l i (eY l n i (dS l n i s).2).2 n).2⟩:=by simp only[fS,y]
  rw[e];have w:(dS l n i s).1≤s.left∧(i+1=n→(dS l n i s).1=s.left):=by
   unfold dS;split
   ·exact⟨by have:=cJ l (Om:0<s.left+1) s.a; omega,fun h=>by omega⟩
   ·exact⟨a7O _,fun _=>rfl⟩
  refine⟨cs++[(dS l n i s).1],?_,⟨by simp[c],by simp[d],by simp[q]⟩,⟨?_,fun h _=>?_⟩,?_,?_⟩
  ·simp only[p,a8I,a8X,a9R]; rfl
  ·simp only[List.sum_append,List.sum_cons,List.sum_nil]; omega
  ·have:=w.2 h;simp only; omega
  ·refine rP (P:=fun i x=>sG x∧(i+1=n→bG x=true)) u ?_;rw[c]; exact aFI l n i _
  ·refine rP (P:=fun i (r:List RF)=>r.length=n∧∀ j (A:j<r.length),sG r[j]∧(j=i→bG r[j]=false)∧(j=i+1→bG r[j]=true)) h7 ?_;rw[d]; exact aeM l i _ n
theorem aFC {x:cE} {e r:RF} (c:x.exit=[e]) (d:x.a6C=[[r]]) (i:bG e=true):oW x=true:=by
 unfold oW;rw[c];show ((cW x 2).all id)=true;simp only[cW,cV,kG,cK,c,d,a9A,a9Y,List.getD_cons_zero,a8X,a9R,i];cases bG r<;>rfl
theorem SD {x:cE} {q u d e i l:RF} (w:x.exit=[q,u]) (y:x.a6C=[[d,e],[i,l]]) (A:bG u=true) (B:bG e=true) (a b:Bool) :
  ∃ c,cV x [a,b] 2=[c,true]∧(b=true→c=true)∧(a=true→c=true):=by
 have E:kG x [a,b] 0=[((a||bG q)||bG d&&(a||bG q))||b,b]:=by unfold kG;rw[w,y];simp only[List.getD_cons_zero,a8X,bbE];generalize (a||bG q)=c;show cK [c,b] 0 [d,e] 2=_;have:cK [c,b] 0 [d,e] 1=[c||bG d&&c,b]:=rfl;show (let p:=cK [c,b] 0 [d,e] 1; p.set 0 (p.getD 0 false||([d,e].map bG).getD 1 false&&p.getD 1 false))=_;rw[this];show [(c||bG d&&c)||(bG e&&b),b]=_;rw[B,a7T]
 have F:∀ c,kG x [c,b] 1=[c,true]:=by intro c;unfold kG;rw[w,y];have:cK [c,true] 1 [i,l] 1=[c,true||bG i&&c]:=rfl;show cK [c,b||bG u] 1 [i,l] 2=_;rw[A,Bool.or_true];show (let p:=cK [c,true] 1 [i,l] 1; p.set 1 (p.getD 1 false||([i,l].map bG).getD 1 false&&p.getD 1 false))=_;rw[this,Bool.true_or];show [c,true||bG l&&true]=_;rw[Bool.true_or]
 refine⟨_,by rw[show cV x [a,b] 2=kG x (kG x [a,b] 0) 1 from rfl,E,F],?_,?_⟩
 ·rintro rfl; rw[Bool.or_true]
 ·rintro rfl; simp
theorem aFD {x:cE} {i A u d w y:RF} (c:x.exit=[i,A]) (l:x.a6C=[[u,d],[w,y]]) (p:bG A=true) (q:bG d=true):oW x=true:=by
 unfold oW;rw[c];show ((cW x 3).all id)=true;have e:∀ r,cW x (r+1)=cV x (cW x r) 2:=fun r=>by rw[cW,c]; rfl
 have i:cW x 0=[false,false]:=by rw[cW,c]; rfl
 obtain⟨B,k1,-,-⟩:=SD c l p q false false;obtain⟨E,k2,K,-⟩:=SD c l p q B true;obtain⟨J,F,H,-⟩:=SD c l p q E true;rw[e,e,e,i,k1,k2,F,H rfl];rfl
theorem N0 {c:Nat}:∀ {cs:List Nat},c∈cs→c≤cs.sum
 | k::t,h=>by
  rw[List.sum_cons];rcases a7V.1 h with rfl | h
  ·omega
  ·have:=N0 h; omega
theorem UW {α:Type} {l:List α} (h:l.length=2):∃ a b,l=[a,b]:=by
 match l,h with
 | [a,b],_=>exact⟨a,b,rfl⟩
theorem aWY (cs:List Nat) (h:cs.sum=8):(match nH ((cs.map fun c=>mkT ((c:Nat):Int) ((8:Nat):Int)).map RF.v) with
  | .ok (n,a,b)=>decide (pM n a b false 1 1=0)
  | .error _=>false)=true:=by
 have i:∀ c∈cs,c≤8:=fun c d=>by have:=N0 d;omega
 have e:((cs.map fun c=>mkT ((c:Nat):Int) ((8:Nat):Int)).map RF.v)=cs.map eV:=by rw[List.map_map];refine bbD fun c d=>?_;have:=i c d;exact (SmF.mk' (a:=c) (b:=8) Om (by decide) (by decide)).v
 rw[e];exact aTK cs h
theorem xY {α:Type} {p:α→Bool} {l:List α} (h:∀ i (hi:i<l.length),p l[i]=true):l.all p=true:=by
 rw[a7Y];intro x c;obtain⟨i,hi,rfl⟩:=a8U c;exact h i hi
theorem alI (l:List Nat) (a:Nat) (J:List UInt8):jZ { (qS l 2 a).1 with name:=J }=true∧({ (qS l 2 a).1 with name:=J }:cE).Ok:=by
 obtain⟨n,hn⟩:∃ n,n=1+(aG l 2 a).1:=⟨_,rfl⟩;have V:n=1∨n=2:=by have:=cJ l (show 0<2 by decide) a; omega
 obtain⟨cs,N,⟨Y,Z,h4⟩,⟨h5,Q⟩,K,h7⟩:=Ai l n (aG l 2 a).2 n (a7O _);generalize hs:fS l n (aG l 2 a).2 n=s at *
 have e:({ (qS l 2 a).1 with name:=J }:cE)=⟨J,s.start,s.a6C,s.exit⟩:=by simp only[qS,← hn,hs]
 rw[e];have H:cs.sum=8:=by have:=Q rfl Om; omega
 have U:∀ c∈cs,c≤8:=fun c R=>by have:=N0 R;omega
 have p:∀ x∈s.start,sG x:=by intro x d;rw[N] at d;obtain⟨c,R,rfl⟩:=a8L.1 d;have:=U c R;exact (SmF.mk' (a:=c) (b:=8) Om (by decide) (by decide)).o
 have β:s.start.length=n:=by rw[N,a7I,h4]
 have u:oW ⟨J,s.start,s.a6C,s.exit⟩=true:=by
  rcases V with rfl | rfl
  ·obtain⟨e,y⟩:=List.length_eq_one_iff.1 Y;obtain⟨η,q⟩:=List.length_eq_one_iff.1 Z;have W:=(h7 0 Om).1;obtain⟨r,F⟩:=List.length_eq_one_iff.1 W;have d:=(K 0 Om).2 rfl;simp only[q,List.getElem_cons_zero] at F;simp only[y,List.getElem_cons_zero] at d;exact aFC y (by rw[q,F]) d
  ·obtain⟨e0,e1,y⟩:=UW Y;obtain⟨r0,r1,q⟩:=UW Z;have B:=(h7 0 Om).1;have E:=(h7 1 Om).1;have d:=(K 1 Om).2 rfl;have X:=((h7 0 Om).2 1 Om).2.2 rfl;simp only[y,List.getElem_cons_succ,List.getElem_cons_zero] at d;simp only[q,List.getElem_cons_succ,List.getElem_cons_zero] at B E X;obtain⟨γ,δ,w⟩:=UW B;obtain⟨ε,ζ,O⟩:=UW E;simp only[w,List.getElem_cons_succ,List.getElem_cons_zero] at X;exact aFD y (by rw[q,w,O]) d X
 constructor
 ·unfold jZ;simp only[a8A];refine⟨⟨⟨⟨⟨⟨⟨?_,?_⟩,?_⟩,?_⟩,?_⟩,?_⟩,?_⟩,u⟩
  ·rw[within_iff]; omega
  ·exact decide_eq_true Om
  ·exact decide_eq_true Om
  ·exact a7Y.2 fun x d=>(p x d).lim
  ·exact xY fun i hi=>(K i hi).1.lim
  ·rw[a7Y];intro i hi;rw[a8M] at hi;obtain⟨k1,k2⟩:=h7 i hi;have eg:s.a6C.getD i []=s.a6C[i]:=by simp[a8B,hi]
   rw[eg,a8A,a8A];refine⟨⟨decide_eq_true Om,xY fun j S=>(k2 j S).1.lim⟩,?_⟩;have A:i<s.a6C[i].length:=Om;rw[getD_at A,(k2 i A).2.1 rfl];rfl
  ·rw[N]; exact aWY cs H
 ·have M:∀ m:Nat,m≤2→m≤9223372036854775807:=fun m hm=>by omega
  have α:n≤2:=Om;refine⟨⟨?_,fun x d=>(p x d).ok⟩,⟨?_,fun x d=>?_⟩,?_,fun r q=>⟨?_,fun x d=>?_⟩⟩
  ·exact M s.start.length Om
  ·exact M s.exit.length Om
  ·obtain⟨i,hi,rfl⟩:=a8U d;exact (K i hi).1.ok
  ·exact M s.a6C.length Om
  ·obtain⟨i,hi,rfl⟩:=a8U q;have:=(h7 i hi).1;exact M (s.a6C[i]'hi).length Om
  ·obtain⟨i,hi,rfl⟩:=a8U q;obtain⟨j,S,rfl⟩:=a8U d;exact ((h7 i hi).2 j S).1.ok
theorem WE (l:List Nat) (a:Nat):∀ n,(hM l a n).1.length=n∧∀ i (hi:i<(hM l a n).1.length),(hM l a n).1[i].name=[108,97,119]++bZ i∧jZ (hM l a n).1[i]=true∧(hM l a n).1[i].Ok
 | 0=>⟨rfl,fun i hi=>absurd hi (by simp[hM])⟩
 | n+1=>by obtain⟨c,d⟩:=WE l a n;have e:(hM l a (n+1)).1=(hM l a n).1++[{ (qS l 2 (hM l a n).2).1 with name:=[108,97,119]++bZ n }]:=rfl;rw[e];refine⟨by simp[c],rP (P:=fun i (x:cE)=>x.name=[108,97,119]++bZ i∧jZ x=true∧x.Ok) d ?_⟩;rw[c];exact⟨rfl,alI l _ _⟩
theorem NP (l:List Nat) (a6E:Nat) (d:0<a6E) (a:Nat):∀ n,(eI l a6E a n).1.length=n∧∀ i (hi:i<(eI l a6E a n).1.length),(eI l a6E a n).1[i].name=[109]++bZ i∧∃ e p w:Nat,(eI l a6E a n).1[i].a6N=e∧1≤e∧e≤4∧(eI l a6E a n).1[i].port=p∧1≤p∧p≤8∧(eI l a6E a n).1[i].law=w∧w<a6E
 | 0=>⟨rfl,fun i hi=>absurd hi (by simp[eI])⟩
 | n+1=>by
  obtain⟨c,q⟩:=NP l a6E d a n;obtain⟨s,u⟩:∃ s,s=eI l a6E a n:=⟨_,rfl⟩;have e:(eI l a6E a (n+1)).1=(eI l a6E a n).1++[⟨[109]++bZ n,(1+(aG l 4 s.2).1:Nat),(1+(aG l 8 (aG l 4 s.2).2).1:Nat),((aG l a6E (aG l 8 (aG l 4 s.2).2).2).1:Nat)⟩]:=by rw[u]; rfl
  rw[e];refine⟨by simp[c],rP (P:=fun i (x:cT)=>x.name=[109]++bZ i∧∃ e p w:Nat,x.a6N=e∧1≤e∧e≤4∧x.port=p∧1≤p∧p≤8∧x.law=w∧w<a6E) q ?_⟩;rw[c];have k1:=cJ l (show 0<4 by decide) s.2;have k2:=cJ l (show 0<8 by decide) (aG l 4 s.2).2;have y:=cJ l d (aG l 8 (aG l 4 s.2).2).2;exact⟨rfl,_,_,_,rfl,by omega,by omega,rfl,by omega,by omega,rfl,y⟩
theorem xN (l:List Nat) (a:Nat):∃ n:Nat,(gQ l a).1=n∧n≤3:=by
 have h:=cJ l (show 0<3 by decide) (aG l 3 a).2;unfold gQ;simp only;split
 ·exact⟨1+(aG l 3 (aG l 3 a).2).1,rfl,by omega⟩
 ·exact⟨0,rfl,by omega⟩
theorem eN {n lo hi:Int} (c:lo≤n) (d:n≤hi):within n lo hi=true:=within_iff.2 ⟨c,d⟩
theorem aWD {w:List UInt8} {k m q s1 s2 s3 s4 g h:Nat} {ms:List Int} {p:List RF} {mc:Nat} (A:1≤k) (B:k≤2) (R:m≤2) (F:k≤q) (H:q≤k+m) (J:s1≤3) (y:s2≤3) (K:s3≤3) (M:s4≤3) (O:g≤8) (Q:h≤4)
  (l:p.length=max m 1) (i:∀ x∈p,sG x∧bG x=true)
  (E:mc≤2) (c:∃ f:Nat,f<mc∧(ms=[(f:Int)]∨mc=2∧ms=[(f:Int),1-(f:Int)])) :
  jI mc ⟨w,(k:Nat),(m:Nat),(q:Nat),0,(s1:Nat),(s2:Nat),(s3:Nat),(s4:Nat),ms,p,mkT (g:Nat) ((8:Nat):Int),mkT (h:Nat) ((1:Nat):Int)⟩=true ∧
  (⟨w,(k:Nat),(m:Nat),(q:Nat),0,(s1:Nat),(s2:Nat),(s3:Nat),(s4:Nat),ms,p,mkT (g:Nat) ((8:Nat):Int),mkT (h:Nat) ((1:Nat):Int)⟩:bS).Ok:=by
 have G:=SmF.mk' (a:=g) (b:=8) Om (by decide) (by decide);have Z:=SmF.mk' (a:=h) (b:=1) Om (by decide) (by decide);obtain⟨f,N,c⟩:=c;constructor
 ·unfold jI JZ BR;simp only[a8A,List.all_cons,List.all_nil,a9P];refine⟨⟨⟨⟨⟨⟨⟨⟨eN Om Om,eN Om Om⟩,decide_eq_true Om⟩,eN Om Om⟩,rfl⟩,eN Om Om,eN Om Om,eN Om Om,eN Om Om,eN Om Om⟩,?_⟩,⟨⟨⟨⟨decide_eq_true (by rw[l]; omega),?_⟩,G.lim⟩,G.one Om⟩,Z.lim⟩⟩,?_⟩
  ·rcases c with e | ⟨-,e⟩<;>rw[e]<;>rfl
  ·rw[a7Y];intro x d;rw[(i x d).1.lim,(i x d).2];rfl
  ·rw[a7Y];rcases c with rfl | ⟨rfl,rfl⟩
   ·intro j u;simp only[a9A,a9Y,a8M] at u;have:j=0:=Om;subst this;rw[a8A];exact⟨eN (by simp) (by simp; omega),by simp⟩
   ·intro j u;simp only[a9A,a9Y,a8M] at u;have:j=0∨j=1:=Om;rcases this with rfl | rfl
    ·rw[a8A];exact⟨eN (by simp) (by simp; omega),by simp⟩
    ·rw[a8A];refine⟨eN (by simp; omega) (by simp; omega),?_⟩;have:¬ (1-(f:Int)=f):=Om;simp[this]
 ·refine⟨by unfold dB; constructor<;>simp only<;>omega,by unfold dB; constructor<;>simp only<;>omega,by unfold dB; constructor<;>simp only<;>omega,?_,?_,⟨?_,fun x d=>(i x d).1.ok⟩,G.ok,Z.ok⟩
  ·show ms.length≤_;rcases c with e | ⟨-,e⟩<;>rw[e]<;>simp
  ·show ∀ x∈ms,dB x;unfold dB;rcases c with e | ⟨y,e⟩<;>rw[e]<;>intro x d<;>simp only[a7V,a8E,or_false] at d
   ·subst d; omega
   ·rcases d with rfl | rfl<;>omega
  ·show p.length≤_;rw[l]; omega
theorem Gp (l:List Nat) {mc:Nat} (x:0<mc) (y:mc≤2) (i a:Nat):(lY l mc i a).1.name=[112]++bZ i∧jI mc (lY l mc i a).1=true∧(lY l mc i a).1.Ok:=by
 refine⟨rfl,?_⟩;have H:=cJ l (show 0<2 by decide) a;have J:=cJ l (show 0<3 by decide) (aG l 2 a).2;have F:=cJ l (show 0<4 by decide) (aG l 3 (aG l 2 a).2).2;unfold lY;simp only;generalize aG l 2 a=k at *
 generalize aG l 3 k.2=m at *
 generalize aG l 4 m.2=h at *
 have K:=cJ l (Om:0<m.1+1) h.2;generalize aG l (m.1+1) h.2=q at *
 obtain⟨r1,r2⟩:=aeE l q.2 (max m.1 1);generalize kC l q.2 (max m.1 1)=r at *
 have E:=cJ l (show 0<9 by decide) r.2;generalize aG l 9 r.2=g at *
 obtain⟨M,e,b1⟩:=xN l g.2;generalize gQ l g.2=s1 at *
 obtain⟨N,p,b2⟩:=xN l s1.2;generalize gQ l s1.2=s2 at *
 obtain⟨O,u,c⟩:=xN l s2.2;generalize gQ l s2.2=s3 at *
 obtain⟨Q,w,d⟩:=xN l s3.2;generalize gQ l s3.2=s4 at *
 have A:=cJ l x s4.2;generalize aG l mc s4.2=f at *
 generalize aG l 2 f.2=b at *
 rw[e,p,u,w];refine aWD Om Om Om Om Om b1 b2 c d Om Om r1 r2 y ⟨f.1,A,?_⟩;split
 ·rename_i B;split
  ·exact .inr ⟨by omega,rfl⟩
  ·exact .inl rfl
 ·exact .inl rfl
theorem BQ (l:List Nat) {mc:Nat} (c:0<mc) (d:mc≤2) (a:Nat):∀ n,(dU l mc a n).1.length=n∧∀ i (hi:i<(dU l mc a n).1.length),(dU l mc a n).1[i].name=[112]++bZ i∧jI mc (dU l mc a n).1[i]=true∧(dU l mc a n).1[i].Ok
 | 0=>⟨rfl,fun i hi=>absurd hi (by simp[dU])⟩
 | n+1=>by obtain⟨k1,k2⟩:=BQ l c d a n;have e:(dU l mc a (n+1)).1=(dU l mc a n).1++[(lY l mc n (dU l mc a n).2).1]:=rfl;rw[e];refine⟨by simp[k1],rP (P:=fun i (x:bS)=>x.name=[112]++bZ i∧jI mc x=true∧x.Ok) k2 ?_⟩;rw[k1];exact Gp l c d n _
theorem GK (l:List Nat) {pc:Nat} (c:0<pc) (a:Nat):∀ n,(eM l pc a n).1.length=n∧∀ i (hi:i<(eM l pc a n).1.length),(eM l pc a n).1[i].name=[118]++bZ i∧∃ p:Nat,(eM l pc a n).1[i].a6J=p∧p<pc
 | 0=>⟨rfl,fun i hi=>absurd hi (by simp[eM])⟩
 | n+1=>by obtain⟨k1,k2⟩:=GK l c a n;have e:(eM l pc a (n+1)).1=(eM l pc a n).1++[⟨[118]++bZ n,((aG l pc (eM l pc a n).2).1:Nat)⟩]:=rfl;rw[e];refine⟨by simp[k1],rP (P:=fun i (x:eW)=>x.name=[118]++bZ i∧∃ p:Nat,x.a6J=p∧p<pc) k2 ?_⟩;rw[k1];exact⟨rfl,_,rfl,cJ l c _⟩
abbrev lvs (ds:List cD):List Int:=ds.map cD.level
def a2K (ds:List cD) (i:Nat) (d:cD):Prop:=∃ c p u:Nat,d.name=[kY c]++bZ (i+1)∧d.level=c∧1≤c∧c≤4∧d.parent=p∧p≤i∧(lvs ds)[p]?=some ((c:Int)-1)∧d.a6R=u∧1≤u∧u≤16∧sG d.a6M
def aUM (ds:List cD) (mc i:Nat) (d:dH):Prop:=∃ m c:Nat,d.name=[100]++bZ i∧d.model=m∧m<mc∧d.machine=c∧(lvs ds)[c]?=some 4
structure GV (mc a5X:Nat) (s:GS):Prop where
 len:s.a6G.length≤35
 a6Q:s.a6Q.length≤a5X
 root:s.a6G[0]?=some mI
 dom:∀ i (hi:i+1<s.a6G.length),a2K s.a6G i s.a6G[i+1]
 drv:∀ i (hi:i<s.a6Q.length),aUM s.a6G mc i s.a6Q[i]
theorem GV.a {mc a5X:Nat} {s:GS} (h:GV mc a5X s) (x:Nat):GV mc a5X { s with a:=x }:=⟨h.len,h.a6Q,h.root,h.dom,h.drv⟩
theorem Mw (l:List Nat) {mc a5X dom:Nat} (e:0<mc) {s:GS} (h:GV mc a5X s) (q:(lvs s.a6G)[dom]?=some 4):∀ n,GV mc a5X (jO l mc a5X dom s n)∧(jO l mc a5X dom s n).a6G=s.a6G
 | 0=>⟨h,rfl⟩
 | n+1=>by
  obtain⟨c,p⟩:=Mw l e h q n;simp only[jO];generalize jO l mc a5X dom s n=t at *
  split
  ·rename_i hlt;refine⟨⟨c.len,by simp only[a7Q,a7U]; omega,c.root,c.dom,?_⟩,p⟩;refine rP (P:=fun i d=>aUM t.a6G mc i d) c.drv ?_;exact⟨_,dom,rfl,rfl,cJ l e _,rfl,by rw[p]; exact q⟩
  ·exact⟨c,p⟩
theorem yJ {ds:List cD} {p:Nat} {x:Int} {t:List cD} (h:(lvs ds)[p]?=some x):(lvs (ds++t))[p]?=some x:=by
 unfold lvs at *
 rw[a8I,baB]
 ·exact h
 ·exact (a8R.1 h).1
theorem aOW (l:List Nat) {mc a5X dom level:Nat} {s:GS} (h:GV mc a5X s) (x:1≤level) (J:level≤4) (B:(lvs s.a6G)[dom]?=some ((level:Int)-1)) (E:qD a5X s=false) :
  GV mc a5X (nA l level dom s)∧(∃ t,(nA l level dom s).a6G=s.a6G++t)∧(nA l level dom s).a6G.length=s.a6G.length+1∧(lvs (nA l level dom s).a6G)[s.a6G.length]?=some (level:Int):=by
 unfold qD at E;simp only[Bool.or_eq_false_iff,decide_eq_false_iff_not] at E;have H:dom<s.a6G.length:=by
  have:=(a8R.1 B).1
  rwa [a7I] at this
 have M:=cJ l (show 0<16 by decide) s.a;have K:=cJ l (show 0<6 by decide) (aG l 3 (aG l 16 s.a).2).2;unfold nA;simp only;generalize aG l 16 s.a=u at *
 generalize aG l 3 u.2=t at *
 generalize aG l 6 t.2=k at *
 have y:sG (if t.1=0 then (mkT 1 ((2+k.1:Nat):Int),k.2) else (jP,t.2)).1:=by
  split
  ·exact (SmF.mk' (a:=1) (b:=2+k.1) Om Om Om).o
  ·exact pT.o
 generalize (if t.1=0 then (mkT 1 ((2+k.1:Nat):Int),k.2) else (jP,t.2))=sh at *
 refine⟨⟨by simp only[a7Q,a7U]; omega,h.a6Q,?_,?_,fun i hi=>?_⟩,⟨_,rfl⟩,by simp,?_⟩
 ·rw[baB Om]; exact h.root
 ·intro i hi;simp only[a7Q,a7U] at hi;by_cases hlt:i+1<s.a6G.length
  ·rw[List.getElem_append_left hlt];obtain⟨A,p,v,d,e,q,w,h5,F,h7,h8⟩:=h.dom i hlt;exact⟨A,p,v,d,e,q,w,h5,F,yJ h7,h8⟩
  ·have:i+1=s.a6G.length:=Om;rw[bbG Om];simp only[List.getElem_singleton];exact⟨level,dom,1+u.1,by rw[this],rfl,x,J,rfl,by omega,yJ B,rfl,by omega,by omega,y⟩
 ·obtain⟨m,c,d,e,q,w,h5⟩:=h.drv i hi;exact⟨m,c,d,e,q,w,yJ h5⟩
 ·unfold lvs;rw[a8I,baA (by rw[a7I]; exact a7O _),a7I,baJ];rfl
theorem Mx (l:List Nat) {mc a5X dom level:Nat} (e:1≤level) (y:level≤4) {rec:Nat→GS→GS}
  (c:∀ d t,GV mc a5X t→(lvs t.a6G)[d]?=some (level:Int)→GV mc a5X (rec d t)∧∃ u,(rec d t).a6G=t.a6G++u) {s:GS} (h:GV mc a5X s) (x:(lvs s.a6G)[dom]?=some ((level:Int)-1)) :
  ∀ n,GV mc a5X (gD l level a5X dom rec s n)∧∃ u,(gD l level a5X dom rec s n).a6G=s.a6G++u
 | 0=>⟨h,[],by simp[gD]⟩
 | n+1=>by
  obtain⟨q,u,i⟩:=Mx l e y c h x n;simp only[gD];generalize gD l level a5X dom rec s n=t at *
  split
  ·exact⟨q,u,i⟩
  ·rename_i A;have p:(lvs t.a6G)[dom]?=some ((level:Int)-1):=by rw[i]; exact yJ x
   obtain⟨k1,⟨v,k2⟩,B,E⟩:=aOW l q e y p (by simpa using A);obtain⟨F,w,H⟩:=c ((nA l level dom t).a6G.length-1) (nA l level dom t) k1 (by rw[B,Nat.add_sub_cancel]; exact E);exact⟨F,u++(v++w),by rw[H,k2,i]; simp⟩
theorem My (l:List Nat) {mc a5X:Nat} (c:0<mc):∀ (k:Nat),k≤4→∀ (dom:Nat) {s:GS},GV mc a5X s→(lvs s.a6G)[dom]?=some (4-(k:Int))→GV mc a5X (eR l mc a5X k dom s)∧∃ u,(eR l mc a5X k dom s).a6G=s.a6G++u
 | 0,_,dom,s,h,e=>by simp only[eR];obtain⟨p,q⟩:=Mw l c (h.a (aG l 2 s.a).2) e (1+(aG l 2 s.a).1);exact⟨p,[],by rw[q]; simp⟩
 | k+1,x,dom,s,h,e=>by
  simp only[eR];refine Mx l Om Om (fun d t w i=>My l c k Om d w ?_) (h.a (aG l 2 s.a).2) ?_ _
  ·rw[i]; congr 1; omega
  ·rw[e]; congr 1; omega
theorem Ak (c:Nat) (d:1≤c) (e:c≤4):eO (kY c).toNat=true∧kY c≠100:=by
 have:c=1∨c=2∨c=3∨c=4:=Om;rcases this with rfl | rfl | rfl | rfl<;>decide
theorem pu (c:UInt8) {k:Nat} (d:k<100):VM (([c]++bZ k).drop 1)=k:=by
 show VM (bZ k)=k;rw[QE d];exact (Jy ⟨k,d⟩).1
theorem Vw {mc a5X:Nat} {s:GS} (h:GV mc a5X s) (K:a5X≤60):distinct ((s.a6G.drop 1).map cD.name++s.a6Q.map dH.name)=true:=by
 have w:∀ i (hi:i<((s.a6G.drop 1).map cD.name).length),∃ d:Nat,1≤d∧d≤4∧((s.a6G.drop 1).map cD.name)[i]=[kY d]++bZ (i+1):=by intro i hi;rw[a7I,a9L] at hi;obtain⟨d,p,u,l,-,F,q,-⟩:=h.dom i Om;refine⟨d,F,q,?_⟩;rw[a9D,List.getElem_drop];simp only[Nat.add_comm 1 i];exact l
 have hB:∀ i (hi:i<(s.a6Q.map dH.name).length),(s.a6Q.map dH.name)[i]=[100]++bZ i:=by intro i hi;rw[a7I] at hi;obtain⟨m,c,l,-⟩:=h.drv i hi;rw[a9D]; exact l
 have M:((s.a6G.drop 1).map cD.name).length≤40:=by rw[a7I,a9L]; have:=h.len; omega
 have N:(s.a6Q.map dH.name).length≤60:=by rw[a7I]; have:=h.a6Q; omega
 generalize (s.a6G.drop 1).map cD.name=A at *
 generalize s.a6Q.map dH.name=B at *
 refine VX ?_ ?_
 ·intro x hx;rcases a9E.1 hx with hx | hx
  ·obtain⟨i,hi,rfl⟩:=a8U hx;obtain⟨d,l,q,e⟩:=w i hi;rw[e];exact vj rfl (Ak d l q).1 rfl (by simp) Om
  ·obtain⟨i,hi,rfl⟩:=a8U hx;rw[hB i hi];exact vj rfl (by decide) rfl (by simp) Om
 ·rw[baC];refine⟨?_,?_,?_⟩
  ·refine RD (g:=fun s=>VM (s.drop 1)-1) fun i hi=>?_;obtain⟨d,-,-,e⟩:=w i hi;rw[e,pu _ Om];omega
  ·refine RD (g:=fun s=>VM (s.drop 1)) fun i hi=>?_;rw[hB i hi];exact pu _ Om
  ·intro x hx y J e;obtain⟨i,hi,rfl⟩:=a8U hx;obtain⟨j,H,rfl⟩:=a8U J;obtain⟨d,l,q,E⟩:=w i hi;rw[E,hB j H] at e;exact (Ak d l q).2 (List.cons.inj e).1
theorem aIJ {mc a5X a:Nat}:GV mc a5X ⟨[mI],[],a⟩ :=
 ⟨by simp,a7P _,rfl,fun i hi=>absurd hi (by simp),fun i hi=>absurd hi (by simp)⟩
theorem aPO {mc a5X:Nat} {s:GS} (h:GV mc a5X s) (f:aE) (x:f.a6A=s.a6G):nN f=true:=by
 have q:=h.root;have l:=h.dom;unfold nN;rw[x];cases c:s.a6G with
 | nil=>rw[c] at q; cases q
 | cons r t =>
  rw[c] at q;have:r=mI:=by simpa using q
  subst this;show BB f mI t=true;unfold BB;simp only[a8A];refine⟨⟨⟨⟨⟨⟨rfl,rfl⟩,rfl⟩,rfl⟩,pT.lim⟩,by rw[show mI.a6M=jP from rfl,pT.zero]; rfl⟩,?_⟩;rw[a7Y];intro i hi;rw[a8M] at hi;rw[a7W hi];obtain⟨B,p,u,y,w,E,F,h5,H,h7,h8,J,A,d⟩:=l i (by rw[c]; simp; omega);have e:s.a6G[i+1]'(by rw[c]; simp; omega)=t[i]:=by simp[c]
  rw[e] at y w h5 h8 d;show HK f i t[i]=true;unfold HK;simp only[a8A];refine⟨⟨⟨⟨?_,?_⟩,?_⟩,?_⟩,d.lim⟩
  ·rw[h5]; exact eN Om Om
  ·rw[h5,w,x,a9C,a8B,h7,ry Om Om];exact decide_eq_true rfl
  ·rw[w]; exact eN Om Om
  ·rw[h8]; exact eN Om Om
theorem Kx (l:List Nat) (a5X a5Z a:Nat) (hd:a5X≤24) (hv:a5Z≤12) :
  dR (jF l a5X a5Z a).1=true∧(jF l a5X a5Z a).1.Ok:=by
 unfold jF;simp only;have he:=cJ l (show 0<2 by decide) a;generalize aG l 2 a=e at *
 have γ:=cJ l (show 0<2 by decide) e.2;generalize aG l 2 e.2=E at *
 obtain⟨w1,U⟩:=WE l E.2 (1+E.1);generalize hM l E.2 (1+E.1)=a6E at *
 have δ:=cJ l (show 0<2 by decide) a6E.2;generalize aG l 2 a6E.2=A at *
 obtain⟨X,Y⟩:=NP l (1+E.1) Om A.2 (1+A.1);generalize eI l (1+E.1) A.2 (1+A.1)=a5Y at *
 obtain⟨G,-⟩:=My l (mc:=1+A.1) (a5X:=a5X) Om 4 (by decide) 0 (s:=⟨[mI],[],a5Y.2⟩) aIJ rfl;generalize eR l (1+A.1) a5X 4 0 ⟨[mI],[],a5Y.2⟩=g at *
 have ε:=cJ l (show 0<2 by decide) g.a;generalize aG l 2 g.a=pl at *
 obtain⟨p1,R⟩:=BQ l (mc:=1+A.1) Om Om pl.2 (1+pl.1);generalize dU l (1+A.1) pl.2 (1+pl.1)=pols at *
 have ζ:=cJ l (Om:0<a5Z+1) pols.2;generalize aG l (a5Z+1) pols.2=J at *
 obtain⟨v1,S⟩:=GK l (pc:=1+pl.1) Om J.2 J.1;generalize eM l (1+pl.1) J.2 J.1=vols at *
 have g1:=G.len;have g2:=G.a6Q;have Q:∀ f:aE,f.a6A=g.a6G→nN f=true:=fun f hf=>aPO G f hf;have d:∀ n:Nat,n≤1000→n≤9223372036854775807:=fun n h=>by omega
 have B:∀ x∈g.a6Q,∃ m c:Nat,x.model=m∧m<1+A.1∧x.machine=c∧c<g.a6G.length∧(lvs g.a6G)[c]?=some 4:=by
  intro x q;obtain⟨i,hi,rfl⟩:=a8U q;obtain⟨m,c,-,O,V,W,h5⟩:=G.drv i hi;refine⟨m,c,O,V,W,?_,h5⟩;have:=(a8R.1 h5).1
  rwa [a7I] at this
 constructor
 ·unfold dR;rw[Q _ rfl];simp only[a8A,a9P];refine⟨⟨?_,⟨⟨⟨⟨?_,?_⟩,?_⟩,?_⟩,?_⟩⟩,⟨⟨⟨?_,?_⟩,Vw G Om⟩,?_⟩,?_⟩
  ·unfold nF;simp only[a8A];exact⟨⟨⟨⟨⟨⟨eN Om Om,decide_eq_true Om⟩,decide_eq_true Om⟩,decide_eq_true Om⟩,decide_eq_true Om⟩,decide_eq_true Om⟩,decide_eq_true Om⟩
  ·exact xY fun i hi=>(U i hi).2.1
  ·refine xY fun i hi=>?_;obtain⟨-,x,y,z,w,F,H,K,M,e6,Z,e8⟩:=Y i hi;unfold kB;simp only[a8A];rw[w,K,Z,w1];exact⟨⟨eN Om Om,eN Om Om⟩,eN Om Om⟩
  ·rw[a7Y];intro x q;obtain⟨m,c,w,F,H,K,M⟩:=B x q;unfold iJ;simp only[a8A];rw[w,H,X,a9C,a8B,M];exact⟨⟨eN Om Om,eN Om Om⟩,rfl⟩
  ·refine xY fun i hi=>?_;rw[X]; exact (R i hi).2.1
  ·refine xY fun i hi=>?_;obtain⟨-,p,w,F⟩:=S i hi;unfold oC;rw[w,p1];exact eN Om Om
  ·refine sM (p:=[108,97,119]) rfl (by decide) (by decide) (by decide) (by rw[a7I]; omega) fun i hi=>?_;rw[a9D]; exact (U i (by simpa using hi)).1
  ·refine sM (p:=[109]) rfl (by decide) (by decide) (by decide) (by rw[a7I]; omega) fun i hi=>?_;rw[a9D]; exact (Y i (by simpa using hi)).1
  ·refine sM (p:=[112]) rfl (by decide) (by decide) (by decide) (by rw[a7I]; omega) fun i hi=>?_;rw[a9D]; exact (R i (by simpa using hi)).1
  ·refine sM (p:=[118]) rfl (by decide) (by decide) (by decide) (by rw[a7I]; omega) fun i hi=>?_;rw[a9D]; exact (S i (by simpa using hi)).1
 ·refine⟨d a6E.1.length Om,d a5Y.1.length Om,d g.a6G.length Om,d g.a6Q.length Om,d pols.1.length Om,d vols.1.length Om,?_,?_,?_,?_,?_⟩
  ·intro x q;obtain⟨i,hi,rfl⟩:=a8U q;exact (U i hi).2.2
  ·intro x q;obtain⟨i,hi,rfl⟩:=a8U q;rcases a9S i with rfl | hp
   ·have:g.a6G[0]=mI:=by have:=G.root; rw[a7W hi] at this; exact a9X.inj this
    rw[this];exact⟨pT.ok,by unfold dB; decide,by unfold dB; decide⟩
   ·obtain⟨k,rfl⟩:∃ k,i=k+1:=⟨i-1,by omega⟩;obtain⟨η,p,u,h1,O,V,W,h5,h6,h7,h8,h9,α,N⟩:=G.dom k hi;have β:k+1<g.a6G.length:=hi;rw[O,h5];exact⟨N.ok,by unfold dB; omega,by unfold dB; omega⟩
  ·intro x q;obtain⟨m,c,w,F,H,K,M⟩:=B x q;rw[w,H];unfold dB; omega
  ·intro x q;obtain⟨i,hi,rfl⟩:=a8U q;exact (R i hi).2.2
  ·intro x q;obtain⟨i,hi,rfl⟩:=a8U q;obtain⟨-,p,w,F⟩:=S i hi;rw[w];unfold dB; omega

theorem QR {C:Ctx} (c:fW C) (hi:oQ C):fk C :=
 {QQ c hi with
  grow:=fun l v T mc a5X d e i=>ZW (QQ c hi) T mc a5X d e i (fun args H R p h=>c.r7 args H R (by rw[p]; decide) h) 4 (a7O _) }
theorem auA {C:Ctx} (c:fW C) (hi:oQ C):If C :=
 {QR c hi with
  new:=fun l p q=>c.r28.go (aaV l p q) rfl
  fleet:=fun l v T o a5X a5Z a d e i=>FB.exact (c.r0.go (Av (QR c hi) T o a5X a5Z a d e i) rfl) }


structure YX (f:aE) (L:List (List Int)):Prop where
 len:L.length=f.a5Z.length
 row:∀ v (h:v<L.length),((L[v].length:Nat):Int)=akG f v
 home:∀ r∈L,∀ x∈r,-1≤x∧x<f.a5X.length
theorem YX.aZW {f:aE} {L:List (List Int)} (h:YX f L) (hV:VF f):∀ k,k≤L.length→(L.take k).flatten.length≤k*8:=by
 have u:=h.len;intro k
 induction k with
 | zero=>intro _; simp
 | succ k p =>intro d;rw[asL L d,a7Q];have q:=p Om;have e:=h.row k d;obtain⟨l,i⟩:=aHY hV (Om:k<f.a5Z.length);have c:=hV.a6J _ (a7L l);rw[i] at c;unfold akG at e;omega
theorem YX.ok {f:aE} (hV:VF f) {L:List (List Int)} (h:YX f L):aYR L:=by
 have d:=hV.small.a5Z;have c:=h.len;have:=h.aZW hV L.length (a7O _);rw[a8K] at this;exact⟨by omega,by omega⟩
section
variable {C:Ctx} {F F':PF} {H:PH}
theorem cR (c:F.le F') {x:aP} {v:PV} (h:x.ev F=some v):x.ev F'=some v:=by
 cases x
 ·exact c _ _ h
 all_goals exact h
theorem FJ (c:F.le F'):∀ {xs:List aP} {vs:List PV},aP.evs F xs=some vs→aP.evs F' xs=some vs
 | [],_,h=>h
 | x::xs,vs,h=>by
  rw[zG] at h ⊢;cases e:x.ev F with
  | none=>simp[e] at h
  | some v =>
   cases d:aP.evs F xs with
   | none=>simp[d] at h
   | some i =>rw[e,d] at h;rw[cR c e,FJ c d];exact h
theorem Ks (c:F.le F'):∀ {ps:List (Nat × Nat × aP)} {cs ds:List PV},qA cs F ps=some ds→qA cs F' ps=some ds
 | [],_,_,h=>h
 | (i,size,x)::ps,cs,ds,h=>by
  simp only[qA] at h ⊢;cases d:x.ev F with
  | none=>simp[d] at h
  | some v =>
   rw[d] at h;rw[cR c d];simp only at h ⊢;split at h
   ·rename_i e; rw[if_pos e]; exact Ks c h
   ·cases h
theorem CO (c:F.le F') {size:Nat}:∀ {ps:List (Nat × aP)} {cs ds:List (List PV)},gT size cs F ps=some ds→gT size cs F' ps=some ds
 | [],_,_,h=>h
 | (i,x)::ps,cs,ds,h=>by
  simp only[gT] at h ⊢;cases d:x.ev F with
  | none=>simp[d] at h
  | some v =>
   rw[d] at h;rw[cR c d];simp only at h ⊢;split at h
   ·rename_i e; rw[if_pos e]; exact CO c h
   ·cases h
theorem OH (c:F.le F') {d n:Int} {x:Option aP} (h:bnd F d x=some n):bnd F' d x=some n:=by
 cases x with
 | none=>exact h
 | some x =>
  simp only[bnd] at h ⊢;cases e:x.ev F with
  | none=>simp[e] at h
  | some v=>rw[cR c e,← e]; exact h
theorem Q5 {op:POp} {v:PV} (A:F.le F') (h:aO op F H=some v):aO op F' H=some v:=by
 cases op
 case mv x=>exact cR A h
 case pick c a b =>
  simp only[aO] at h ⊢;cases K:c.ev F with
  | none=>simp[K] at h
  | some t =>
   rw[K] at h;rw[cR A K];cases t<;>simp only at h ⊢<;>try cases h
   rename_i t;cases t
   ·simp only[baT,if_false] at h ⊢; exact cR A h
   ·simp only[if_true] at h ⊢; exact cR A h
 case same x =>
  simp only[aO] at h ⊢;cases e:x.ev F with
  | none=>simp[e] at h
  | some a=>rw[cR A e,← e]; exact h
 case un o x =>
  simp only[aO] at h ⊢;cases e:x.ev F with
  | none=>simp[e] at h
  | some a=>rw[cR A e,← e]; exact h
 case conv k x =>
  simp only[aO] at h ⊢;cases e:x.ev F with
  | none=>simp[e] at h
  | some a=>rw[cR A e,← e]; exact h
 case a6K x =>
  simp only[aO] at h ⊢;cases e:x.ev F with
  | none=>simp[e] at h
  | some a=>rw[cR A e,← e]; exact h
 case a7A o x =>
  simp only[aO] at h ⊢;cases e:x.ev F with
  | none=>simp[e] at h
  | some a=>rw[cR A e,← e]; exact h
 case field o n x =>
  simp only[aO] at h ⊢;cases e:x.ev F with
  | none=>simp[e] at h
  | some a=>rw[cR A e,← e]; exact h
 case a6X x =>
  simp only[aO] at h ⊢;cases e:x.ev F with
  | none=>simp[e] at h
  | some a=>rw[cR A e,← e]; exact h
 case isNil n x =>
  simp only[aO] at h ⊢;cases e:x.ev F with
  | none=>simp[e] at h
  | some a=>rw[cR A e,← e]; exact h
 case lenM x =>
  simp only[aO] at h ⊢;cases e:x.ev F with
  | none=>simp[e] at h
  | some a=>rw[cR A e,← e]; exact h
 case a7H x =>
  simp only[aO] at h ⊢;cases e:x.ev F with
  | none=>simp[e] at h
  | some a=>rw[cR A e,← e]; exact h
 case extract x i =>
  simp only[aO] at h ⊢;cases e:x.ev F with
  | none=>simp[e] at h
  | some a=>rw[cR A e,← e]; exact h
 case a6L x =>
  simp only[aO] at h ⊢;cases e:x.ev F with
  | none=>simp[e] at h
  | some a=>rw[cR A e,← e]; exact h
 case len x =>
  simp only[aO] at h ⊢;cases e:x.ev F with
  | none=>simp[e] at h
  | some a=>rw[cR A e,← e]; exact h
 case box r x =>
  cases r
  ·cases h
  simp only[aO] at h ⊢;cases e:x.ev F with
  | none=>simp[e] at h
  | some a=>rw[cR A e,← e]; exact h
 case load n p =>
  cases n
  all_goals
   simp only[aO] at h ⊢;cases e:p.ev F with
   | none=>simp[e] at h
   | some a=>rw[cR A e,← e]; exact h
 case bin o x y =>
  simp only[aO] at h ⊢;cases e:x.ev F with
  | none=>simp[e] at h
  | some a =>
   cases B:y.ev F with
   | none=>simp[e,B] at h
   | some b=>rw[cR A e,cR A B,← e,← B]; exact h
 case eqb n x y =>
  simp only[aO] at h ⊢;cases e:x.ev F with
  | none=>simp[e] at h
  | some a =>
   cases B:y.ev F with
   | none=>simp[e,B] at h
   | some b=>rw[cR A e,cR A B,← e,← B]; exact h
 case eqs n k x y =>
  simp only[aO] at h ⊢;cases e:x.ev F with
  | none=>simp[e] at h
  | some a =>
   cases B:y.ev F with
   | none=>simp[e,B] at h
   | some b=>rw[cR A e,cR A B,← e,← B]; exact h
 case a6O s x i =>
  simp only[aO] at h ⊢;cases e:x.ev F with
  | none=>simp[e] at h
  | some a =>
   cases B:i.ev F with
   | none=>simp[e,B] at h
   | some b=>rw[cR A e,cR A B,← e,← B]; exact h
 case idxA n s x i =>
  simp only[aO] at h ⊢;cases e:x.ev F with
  | none=>simp[e] at h
  | some a =>
   cases B:i.ev F with
   | none=>simp[e,B] at h
   | some b=>rw[cR A e,cR A B,← e,← B]; exact h
 case idxV n s g x i =>
  simp only[aO] at h ⊢;cases e:x.ev F with
  | none=>simp[e] at h
  | some a =>
   cases B:i.ev F with
   | none=>simp[e,B] at h
   | some b=>rw[cR A e,cR A B,← e,← B]; exact h
 case a6Y x i =>
  simp only[aO] at h ⊢;cases e:x.ev F with
  | none=>simp[e] at h
  | some a =>
   cases B:i.ev F with
   | none=>simp[e,B] at h
   | some b=>rw[cR A e,cR A B,← e,← B]; exact h
 case a6S m x y =>
  simp only[aO] at h ⊢;cases e:x.ev F with
  | none=>simp[e] at h
  | some a =>
   cases B:y.ev F with
   | none=>simp[e,B] at h
   | some b=>rw[cR A e,cR A B,← e,← B]; exact h
 case lookup sh z x k ok =>
  simp only[aO] at h ⊢;cases e:x.ev F with
  | none=>simp[e] at h
  | some a =>
   cases B:k.ev F with
   | none=>simp[e,B] at h
   | some b=>rw[cR A e,cR A B,← e,← B]; exact h
 case build z ps =>simp only[aO,a7S] at h ⊢;obtain⟨cs,E,J⟩:=h;exact⟨cs,Ks A E,J⟩
 case a6D r s l z ps =>
  cases r
  ·cases h
  simp only[aO] at h ⊢;split at h
  ·rename_i K;rw[if_pos K];rw[a7S] at h ⊢;obtain⟨cs,E,J⟩:=h;exact⟨cs,CO A E,J⟩
  ·cases h
 case mkfn n cs =>simp only[aO,a7S] at h ⊢;obtain⟨vs,E,J⟩:=h;exact⟨vs,FJ A E,J⟩
 case sliceA n s x lo hi mx =>
  cases lo<;>cases hi<;>cases mx<;>simp only[aO] at h ⊢<;>try cases h
  cases e:x.ev F with
  | none=>simp[e] at h
  | some a=>rw[cR A e,← e]; exact h
 case a6U x lo hi =>
  simp only[aO] at h ⊢;cases e:x.ev F with
  | none=>simp[e] at h
  | some a =>
   rw[e] at h;rw[cR A e];cases a<;>simp only at h ⊢<;>try cases h
   cases E:bnd F 0 lo with
   | none=>simp[E] at h
   | some l =>
    rename_i s;cases J:bnd F s.length hi with
    | none=>simp[E,J] at h
    | some u=>rw[OH A E,OH A J,← E,← J]; exact h
 case slice s x lo hi mx =>
  simp only[aO] at h ⊢;cases e:x.ev F with
  | none=>simp[e] at h
  | some a =>
   rw[e] at h;rw[cR A e];have N:∀ (d:Int) (w:PV),(match bnd F 0 lo,bnd F d hi with
     | some a1,some a2=>match (generalizing:=false) mx with
      | none=>PV.slice s w a1 a2 none
      | some m=>(bnd F 0 (some m)).bind fun m=>PV.slice s w a1 a2 (some m)
     | _,_=>none)=some v→(match bnd F' 0 lo,bnd F' d hi with
     | some a1,some a2=>match (generalizing:=false) mx with
      | none=>PV.slice s w a1 a2 none
      | some m=>(bnd F' 0 (some m)).bind fun m=>PV.slice s w a1 a2 (some m)
     | _,_=>none)=some v:=by
    intro d w h;cases E:bnd F 0 lo with
    | none=>simp[E] at h
    | some l =>
     cases J:bnd F d hi with
     | none=>simp[E,J] at h
     | some u =>
      rw[E,J] at h;rw[OH A E,OH A J];cases mx with
      | none=>exact h
      | some m =>
       simp only at h ⊢;cases M:bnd F 0 (some m) with
       | none=>simp[M] at h
       | some q=>rw[OH A M,← M]; exact h
   cases a<;>simp only at h ⊢<;>first | exact N _ _ h | cases h
 all_goals exact h
theorem Io {op:POp} {r:(Nat→PV) × cG} (d:F.le F') (h:dA op F=some r):dA op F'=some r:=by
 cases op
 case box b x =>
  cases b
  ·simp only[dA] at h ⊢;cases e:x.ev F with
   | none=>simp[e] at h
   | some a=>rw[cR d e,← e]; exact h
  ·cases h
 case a6D b s l z ps =>
  cases b
  ·simp only[dA] at h ⊢;split at h
   ·rename_i u;rw[if_pos u];rw[a7S] at h ⊢;obtain⟨cs,p,q⟩:=h;exact⟨cs,CO d p,q⟩
   ·cases h
  ·cases h
 case a6F s b z l c =>
  simp only[dA] at h ⊢;cases e:l.ev F with
  | none=>simp[e] at h
  | some a =>
   cases i:c.ev F with
   | none=>simp[e,i] at h
   | some b=>rw[cR d e,cR d i,← e,← i]; exact h
 all_goals exact h
theorem U6 {op:POp} {K:PV→PH→Prop} (d:F.le F') (h:cB op F H K):cB op F' H K:=by
 cases op
 case store n x y =>
  simp only[cB] at h ⊢;cases e:x.ev F with
  | none=>simp[e] at h
  | some a =>
   cases i:y.ev F with
   | none=>simp[e,i] at h
   | some b=>rw[cR d e,cR d i]; rw[e,i] at h; exact h
 case append s b x y =>
  simp only[cB] at h ⊢;cases e:x.ev F with
  | none=>simp[e] at h
  | some a =>
   cases i:y.ev F with
   | none=>simp[e,i] at h
   | some b=>rw[cR d e,cR d i]; rw[e,i] at h; exact h
 case a6P sh x y z =>
  simp only[cB] at h ⊢;cases e:x.ev F with
  | none=>simp[e] at h
  | some a =>
   cases i:y.ev F with
   | none=>simp[e,i] at h
   | some b =>
    cases l:z.ev F with
    | none=>simp[e,i,l] at h
    | some c=>rw[cR d e,cR d i,cR d l]; rw[e,i,l] at h; exact h
 case insert sh x y z =>
  simp only[cB] at h ⊢;cases e:x.ev F with
  | none=>simp[e] at h
  | some a =>
   cases i:y.ev F with
   | none=>simp[e,i] at h
   | some b =>
    cases l:z.ev F with
    | none=>simp[e,i,l] at h
    | some c=>rw[cR d e,cR d i,cR d l]; rw[e,i,l] at h; exact h
 all_goals exact h
theorem PF.aWS (c:F.le F') (i:Nat) (v:PV):(F.set i v).le (F'.set i v):=by
 intro j u h;rw[kD] at h ⊢;split at h
 ·rename_i e; rw[if_pos e]; exact h
 ·rename_i e; rw[if_neg e]; exact c j u h
theorem PF.tE (c:F.le F') (d:Option Nat) (v:PV):(F.put d v).le (F'.put d v):=by
 cases d with
 | none=>exact c
 | some d=>exact PF.aWS c d v
theorem PF.aVC (c:F.le F') (o s:Nat) (rs:List (List PV)):(F.frz o s rs).le (F'.frz o s rs):=by
 intro j u h;rw[qY,a7S] at h ⊢;obtain⟨x,d,e⟩:=h;exact⟨x,c j x d,e⟩
theorem PF.le_trans {A B D:PF} (h:A.le B) (k:B.le D):A.le D:=fun i v hi=>k i v (h i v hi)
theorem jC.up {e:PF} {i:PH} (h:jC F H e i):∀ {F':PF},F.le F'→∃ c,jC F' H c i∧e.le c:=by
 induction h with
 | refl F H=>exact fun {F'} d=>⟨F',.refl _ _,d⟩
 | step o q _ u =>intro F' d;obtain⟨c,l,p⟩:=u (PF.aVC d o _ _);exact⟨c,.step o q l,p⟩
theorem ga {name:Nat} {args:Option (List PV)} {d:Option Nat} {K1 K2:PF→PH→Prop} (w:∀ F F' H,F.le F'→K1 F H→K2 F' H) (e:F.le F') {c:Option (List PV)} (x:∀ vs,args=some vs→c=some vs) (h:sF C name args d K1 F H):sF C name c d K2 F' H:=by
 obtain⟨vs,i,R,l,p,q,u⟩:=h;exact⟨vs,i,R,x _ l,p,q,fun r H' a b=>w _ _ _ (PF.tE e d r) (u r H' a b)⟩
theorem Of {cs:List PV} {args:List aP} (c:F.le F') (vs:List PV) (h:(aP.evs F args).map (·++cs)=some vs):(aP.evs F' args).map (·++cs)=some vs:=by
 rw[a7S] at h ⊢;obtain⟨x,d,e⟩:=h;exact⟨x,FJ c d,e⟩
theorem X3 {name:Nat} {args:List aP} {cs:List PV} {d:Option Nat} {K1 K2:PF→PH→Prop} (i:∀ F F' H,F.le F'→K1 F H→K2 F' H) (c:F.le F') (h:iU C name args cs d K1 F H):iU C name args cs d K2 F' H:=by
 rcases h with h | ⟨F1,H1,h1,h2⟩
 ·exact .inl (ga i c (Of c) h)
 ·obtain⟨e,k1,k2⟩:=h1.up c;exact .inr ⟨e,H1,k1,ga i k2 (Of k2) h2⟩
theorem RA {op:POp} {d:Option Nat} {K1 K2:PF→PH→Prop} (l:∀ F F' H,F.le F'→K1 F H→K2 F' H) (c:F.le F') (h:mW (dA op F) d K1 F H):mW (dA op F') d K2 F' H:=by
 obtain⟨q,x,e,i⟩:=h;exact⟨q,x,Io c e,fun o p=>l _ _ _ (PF.tE c d _) (i o p)⟩
theorem t6 {op:POp} {d:Option Nat} {K1 K2:PF→PH→Prop} (l:∀ F F' H,F.le F'→K1 F H→K2 F' H) (c:F.le F') (h:bX (aO op F H) d K1 F H):bX (aO op F' H) d K2 F' H:=by
 obtain⟨v,e,i⟩:=h;exact⟨v,Q5 c e,l _ _ _ (PF.tE c d v) i⟩
theorem H7 {op:POp} {d:Option Nat} {K1 K2:PF→PH→Prop} (e:∀ F F' H,F.le F'→K1 F H→K2 F' H) (c:F.le F') (h:cB op F H fun r H'=>K1 (F.put d r) H'):cB op F' H fun r H'=>K2 (F'.put d r) H' :=
 U6 c (AN (fun v H' i=>e _ _ _ (PF.tE c d v) i) h)
theorem aNS {op:POp} {d:Option Nat} {K1 K2:PF→PH→Prop} (i:∀ F F' H,F.le F'→K1 F H→K2 F' H) (e:F.le F') (h:wpOp C op d K1 F H):wpOp C op d K2 F' H:=by
 cases op
 case call n a=>exact X3 i e h
 case a6Z x a =>
  have w:uR C (x.ev F) a d K1 F H:=h;show uR C (x.ev F') a d K2 F' H;cases M:x.ev F with
  | none=>rw[M] at w; exact w.elim
  | some u =>
   rw[cR e M];rw[M] at w;cases u<;>first | exact X3 i e w | exact w.elim | skip
   obtain⟨l,O,A⟩:=w;refine⟨l,O,?_⟩;rcases A with ⟨vs,E,R,A,J,K,h5⟩ | ⟨F1,H1,k1,vs,E,R,A,J,K,h5⟩
   ·exact .inl ⟨vs,E,R,FJ e A,J,K,fun r H' p q=>i _ _ _ (PF.tE e d r) (h5 r H' p q)⟩
   ·obtain⟨B,k2,N⟩:=k1.up e;exact .inr ⟨B,H1,k2,vs,E,R,FJ N A,J,K,fun r H' p q=>i _ _ _ (PF.tE N d r) (h5 r H' p q)⟩
 case box r x=>cases r<;>first | exact RA (op:=.box false x) i e h | exact t6 (op:=.box true x) i e h
 case a6D r s l z ps=>cases r<;>first | exact RA (op:=.a6D false s l z ps) i e h | exact t6 (op:=.a6D true s l z ps) i e h
 case alloc cs=>exact RA (op:=.alloc cs) i e h
 case a6F s b z l c=>exact RA (op:=.a6F s b z l c) i e h
 case a7D sh=>exact RA (op:=.a7D sh) i e h
 case store n x y=>exact H7 (op:=.store n x y) i e h
 case append s b x y=>exact H7 (op:=.append s b x y) i e h
 case a6P sh x y z=>exact H7 (op:=.a6P sh x y z) i e h
 case insert sh x y z=>exact H7 (op:=.insert sh x y z) i e h
 all_goals exact t6 i e h
theorem RV {K1 K2:PF→PH→Prop} (i:∀ F F' H,F.le F'→K1 F H→K2 F' H):∀ {ops:List aU} {F F':PF} {H:PH},F.le F'→wpOps C ops K1 F H→wpOps C ops K2 F' H
 | [],_,_,_,c,h=>i _ _ _ c h
 | ⟨d,op,none⟩::rest,_,_,_,c,h=>aNS (fun _ _ _ a b=>RV i a b) c h
 | ⟨d,op,some (t,p)⟩::rest,F,F',H,c,h=>by
  rw[Xl] at h ⊢;unfold vQ at h;split at h
  ·rename_i b l;rw[c t _ l];unfold vQ;simp only;split at h
   ·rename_i e; rw[if_pos e]; exact aNS (fun _ _ _ a b=>RV i a b) c h
   ·rename_i e; rw[if_neg e]; exact RV i (PF.tE c d _) h
  ·rename_i l;rw[c t _ l];exact RV i (PF.tE c d _) h
  ·exact h.elim
theorem Qy {Hs:PH} {S:Spec} {st:Bool} {op:POp} {K:PV→PH→Prop} (d:F.le F') (h:(op.kind F).run C Hs S st K H):(op.kind F').run C Hs S st K H:=by
 have new:∀ op:POp,(Kind.new (dA op F)).run C Hs S st K H→(Kind.new (dA op F')).run C Hs S st K H:=fun op h=>by obtain⟨J,x,e,i⟩:=h;exact⟨J,x,Io d e,i⟩
 have calm:∀ op:POp,(Kind.calm (aO op F)).run C Hs S st K H→(Kind.calm (aO op F')).run C Hs S st K H:=fun op h=>by obtain⟨v,e,i⟩:=h;exact⟨v,Q5 d e,i⟩
 have E:∀ op:POp,(Kind.write fun H K=>cB op F H K).run C Hs S st K H→(Kind.write fun H K=>cB op F' H K).run C Hs S st K H:=fun op h=>U6 (op:=op) d (show cB op F H (fun r H'=>Hs.le H'∧K r H') from h);cases op
 case call n a =>obtain⟨vs,D,R,e,i⟩:=h;exact⟨vs,D,R,FJ d e,i⟩
 case a6Z x a =>
  unfold POp.kind at h ⊢;simp only at h ⊢;cases p:x.ev F with
  | none=>rw[p] at h; exact h.elim
  | some u =>
   rw[p] at h;rw[cR d p];cases u<;>simp only at h ⊢<;>first | exact h | skip
   obtain⟨vs,D,R,e,i⟩:=h;exact⟨vs,D,R,Of d _ e,i⟩
 case insert sh x k v =>
  obtain⟨o,B,A,u,g,e,i⟩:=h;refine⟨o,B,A,u,g,?_,i⟩;cases p:x.ev F with
  | none=>simp[p] at e
  | some a =>
   cases q:k.ev F with
   | none=>simp[p,q] at e
   | some b =>
    cases w:v.ev F with
    | none=>simp[p,q,w] at e
    | some c=>rw[cR d p,cR d q,cR d w]; rw[p,q,w] at e; exact e
 case box r x=>cases r<;>first | exact new (.box false x) h | exact calm (.box true x) h
 case a6D r s l z ps=>cases r<;>first | exact new (.a6D false s l z ps) h | exact calm (.a6D true s l z ps) h
 case alloc cs=>exact new (.alloc cs) h
 case a6F s b z l c=>exact new (.a6F s b z l c) h
 case a7D sh=>exact new (.a7D sh) h
 case store n x y=>exact E (.store n x y) h
 case append s b x y=>exact E (.append s b x y) h
 case a6P sh x y z=>exact E (.a6P sh x y z) h
 all_goals exact calm _ h
theorem aFY {Hs:PH} {S:Spec} {st:Bool} {i:aU} {K:PV→PH→Prop} (c:F.le F') (h:(i.kind F).run C Hs S st K H):(i.kind F').run C Hs S st K H:=by
 unfold aU.kind at h ⊢;split
 ·rename_i l;rw[l] at h;exact Qy c h
 ·rename_i t p l;rw[l] at h;simp only at h;split at h
  ·rename_i b d;rw[c t _ d];simp only;split at h
   ·rename_i e; rw[if_pos e]; exact Qy c h
   ·rename_i e; rw[if_neg e]; exact h
  ·rename_i d;rw[c t _ d];exact h
  ·exact h.elim
theorem aCP {Hs:PH} {S:Spec} {K1 K2:PF→PH→Prop} (e:∀ F F' H,F.le F'→K1 F H→K2 F' H):∀ {ops:List (aU × Bool)} {F F':PF} {H:PH},Hs.le H→F.le F'→wpD C Hs S ops K1 F H→wpD C Hs S ops K2 F' H
 | [],_,_,_,_,c,h=>e _ _ _ c h
 | i::rest,F,F',H,q,c,h=>by have l:(i.1.kind F).run C Hs S i.2 (fun v H'=>wpD C Hs S rest K1 (F.put i.1.dst v) H') H:=h;exact aFY c (Kind.rO (rM _ _) (fun v H' d p=>aCP e d (PF.tE c _ v) p) q l)
class Up (K:bR):Prop where
 up:∀ {e:kM} {F F':PF} {H:PH},F.le F'→K e F H→K e F' H
theorem xS:∀ (c:aC) {K1 K2:bR} (_:∀ e F F' H,F.le F'→K1 e F H→K2 e F' H) {F F':PF} {H:PH},F.le F'→c.wp C K1 F H→c.wp C K2 F' H
 | .skip,_,_,i,_,_,_,d,h=>i _ _ _ _ d h
 | .region ops,_,_,i,_,_,_,d,h=>RV (i .normal) d h
 | .draw ops,_,_,i,_,_,_,d,⟨Hs,S,q,A⟩=>⟨Hs,S,q,aCP (i .normal) q d A⟩
 | .seq a b,K1,K2,i,_,_,_,d,h=>xS a (K1:=gG C (b.wp C) K1) (K2:=gG C (b.wp C) K2) (fun e F F' H p l=>by
   cases e with
   | normal=>exact xS b i p l
   | exit id=>exact i (.exit id) _ _ _ p l
   | ret=>exact i .ret _ _ _ p l) d h
 | .cond c a b,K1,K2,i,F,F',H,d,h=>by
  rw[aNF] at h ⊢;unfold UN at h;split at h
  ·rename_i t N;rw[cR d N];unfold UN;simp only;split at h
   ·rename_i e; rw[if_pos e]; exact xS a i d h
   ·rename_i e; rw[if_neg e]; exact xS b i d h
  ·exact h.elim
 | .block id c,K1,K2,i,_,_,_,d,h=>xS c (K1:=eX id K1) (K2:=eX id K2) (fun e F F' H p l=>by
   cases e with
   | normal=>exact i .normal _ _ _ p l
   | exit j =>
    rw[CH] at l ⊢;split at l
    ·rename_i e; rw[if_pos e]; exact i .normal _ _ _ p l
    ·rename_i e; rw[if_neg e]; exact i (.exit j) _ _ _ p l
   | ret=>exact i .ret _ _ _ p l) d h
 | .loop c,K1,K2,i,F,F',H,d,⟨α,x,Hs,y,m,E,Y,B,q,A,J,K,h5⟩=>by
  obtain⟨u,k1,k2⟩:=q.up d;refine⟨α,x,Hs,y,m,E,u,B,k1,A,PF.le_trans J k2,K,fun a M=>?_⟩;refine xS c (K1:=fJ x Hs y m (m a) K1) (K2:=fJ x Hs y m (m a) K2) (fun e F F' H p l=>?_) PF.le_refl (h5 a M);cases e with
  | normal =>obtain⟨b,Z,H2,R,U,V,W,X⟩:=l;obtain⟨w,O,Q⟩:=R.up p;exact⟨b,w,H2,O,U,V,PF.le_trans W Q,X⟩
  | exit id=>exact i (.exit id) _ _ _ p l
  | ret=>exact i .ret _ _ _ p l
 | .exit id,_,_,i,_,_,_,d,h=>i (.exit id) _ _ _ d h
 | .ret,_,_,i,_,_,_,d,h=>i .ret _ _ _ d h
instance Up.seq {K:bR} [Up K] (b:aC):Up (gG C (b.wp C) K) where
 up {e} {F} {F'} {H} hl hh:=by
  cases e with
  | normal=>exact xS b (fun e F F' H a h=>Up.up a h) hl hh
  | exit id=>exact Up.up (K:=K) (e:=.exit id) hl hh
  | ret=>exact Up.up (K:=K) (e:=.ret) hl hh
instance Up.block {K:bR} [Up K] (id:Nat):Up (eX id K) where
 up {e} {F} {F'} {H} hl hh:=by
  cases e with
  | normal=>exact Up.up (K:=K) (e:=.normal) hl hh
  | exit j =>
   rw[CH] at hh ⊢;split at hh
   ·rename_i e; rw[if_pos e]; exact Up.up (K:=K) (e:=.normal) hl hh
   ·rename_i e; rw[if_neg e]; exact Up.up (K:=K) (e:=.exit j) hl hh
  | ret=>exact Up.up (K:=K) (e:=.ret) hl hh
instance Up.loop {K:bR} [Up K] {α:Type} (d:α→PF) (Hs:α→PH) (i:α→Prop) (m:α→Nat) (n:Nat):Up (fJ d Hs i m n K) where
 up {e} {F} {F'} {H} hl hh:=by
  cases e with
  | normal =>obtain⟨b,A,H2,q,u,w,x,y⟩:=hh;obtain⟨c,l,p⟩:=q.up hl;exact⟨b,c,H2,l,u,w,PF.le_trans x p,y⟩
  | exit id=>exact Up.up (K:=K) (e:=.exit id) hl hh
  | ret=>exact Up.up (K:=K) (e:=.ret) hl hh
theorem aWG {H:PH} (c:F.le F') {x:dV} {v:PV} (h:x.ev F H=some v):x.ev F' H=some v:=by
 cases x with
 | tmp t=>exact c t v h
 | cell t n =>
  cases n<;>simp only[dV.ev] at h ⊢<;>(cases d:F t with
   | none=>simp[d] at h
   | some a=>rw[c t a d,← d]; exact h)
theorem wt {H:PH} (c:F.le F'):∀ {xs:List dV} {vs:List PV},dV.evs F H xs=some vs→dV.evs F' H xs=some vs
 | [],_,h=>h
 | x::xs,vs,h=>by
  rw[kI] at h ⊢;cases e:x.ev F H with
  | none=>simp[e] at h
  | some v =>
   cases d:dV.evs F H xs with
   | none=>simp[d] at h
   | some i =>rw[e,d] at h;rw[aWG c e,wt c d];exact h
instance Up.ret (res:List dV) (R:PV→PH→Prop):Up (aV res R) where
 up {e} {F} {F'} {H} hl hh:=by
  cases e with
  | exit id=>exact hh
  | normal=>obtain⟨vs,c,d⟩:=hh; exact⟨vs,wt hl c,d⟩
  | ret=>obtain⟨vs,c,d⟩:=hh; exact⟨vs,wt hl c,d⟩
end
section
variable {H:PH} {B:List BX} {L:List LI}
end

section
variable {H:PH} {B:List BX} {L:List LI} {s:Nat} {rows:List (List PV)}
theorem oU.some (s:Nat) (rows:List (List PV)) (G:PH):∃ r H',oU s rows r H'∧lZ G .nil H':=by
 obtain⟨o,d⟩:=G.fresh;refine⟨.osl o s 0 rows.length,PH.nil.set o (.rows s rows),.inr ⟨o,rows,rfl,rfl,a7O _,a8K⟩,fun q x c _=>?_⟩;rw[aT] at c;split at c
 ·rename_i e; rw[e]; exact d
 ·cases c
end

section
variable {C:Ctx} {F:PF} {H Hs:PH} {tn a a2:Nat} {raw:List Int} {R:Nat→PV→PH→Prop} {st:Bool} {args:List aP} {d:Option Nat} {K:PF→PH→Prop}
end
section
variable {C:Ctx} {F:PF} {H:PH} {B:List BX} {L:List LI} {args:List aP} {d:Option Nat} {K:PF→PH→Prop}
end


theorem YX.move {f:aE} {L:List (List Int)} (h:YX f L) {x k d:Nat} (p:x<L.length) (q:d<f.a5X.length):YX f (L.set x (L[x].set k d)):=by
 refine⟨by rw[a9N]; exact h.len,fun v l=>?_,fun r c=>?_⟩
 ·rw[a9N] at l;have:=h.row v l;rw[List.getElem_set];split
  ·rename_i e;subst e;rw[a9N]; exact this
  ·exact this
 ·rcases List.mem_or_eq_of_mem_set c with c | rfl
  ·exact h.home r c
  ·intro y i;rcases List.mem_or_eq_of_mem_set i with i | rfl
   ·exact h.home _ (a7L p) y i
   ·omega

structure aUL (C:Ctx):Prop extends fW C where
 r3:aM C 3 aQK
 r6:aM C 6 a0B
 r18:aM C 18 aVF
 r82:aM C 82 a0E
structure fv (C:Ctx):Prop extends NZ C where
 int:∀ n:Int,dB n→aH C 47 [.int .i64 n] .nil (aF (.agg (mkT n 1).cells))
 mul:∀ a b,Lim a→Lim b→a.length≤35184372087808→b.length≤35184372087808→aH C 36 [aJ a,aJ b] .nil (aF (opV (dY (val a) (val b)) (val a*val b)))
 add:∀ a b,Lim a→Lim b→a.length≤35184372087808→b.length≤35184372087808→aH C 30 [aJ a,aJ b] .nil (aF (opV (dY (val a) (val b)) (val a+val b)))
 sub:∀ a b,Lim a→Lim b→a.length≤35184372087808→b.length≤35184372087808→aH C 37 [aJ a,aJ b] .nil (aF (rQ (val a) (val b)))
theorem Er (a b:Nat):cU a b=(decide (nl b>0)&&(decide (nl b≤128)&&decide (nl a≤128))):=by
 have:=@hZ b;refine Bool.eq_iff_iff.2 ?_;rw[fR];simp only[a8A,decide_eq_true_eq];omega
theorem Ff {C:Ctx} (L:fv C) (neg:Bool) (a b:List Nat) (q:Lim a) (l:Lim b) (u:a.length≤35184372087808) (p:b.length≤35184372087808) :
  EQ.wp C (aV qt.res (aF (.bool (cU (val a) (val b))))) (PF.args [.agg (eH neg a b)]) .nil:=by
 rw[Er];simp only[go_sem,EQ,Fg,Fh,qt];refine aA (L.trim b l p) rfl ?_;simp only[go_sem,a7I,bB];by_cases e:nl (val b)>0
 ·have c:((nl (val b):Nat):Int)>0:=Om;simp only[go_sem,c];refine aA (L.trim b l p) rfl ?_;simp only[go_sem,a7I,bB];by_cases i:nl (val b)≤128
  ·have d:((nl (val b):Nat):Int)≤128:=Om;simp only[go_sem,d];refine aA (L.trim a q u) rfl ?_;simp only[go_sem,a7I,bB];refine aQ (.inr rfl) rfl ?_;have:decide (((nl (val a):Nat):Int)≤128)=decide (nl (val a)≤128):=by refine decide_eq_decide.2 ?_;omega
   rw[bP,this,decide_eq_true e,decide_eq_true i];rfl
  ·have d:¬ ((nl (val b):Nat):Int)≤128:=Om;simp only[go_sem,d];refine aQ (.inr rfl) rfl ?_;rw[bP,decide_eq_false i,a7R,a8Q]
 ·have c:¬ ((nl (val b):Nat):Int)>0:=Om;simp only[go_sem,c];refine aQ (.inr rfl) rfl ?_;rw[bP,decide_eq_false e,a7R]
theorem bc {neg:Bool} {a b:Nat} (h:cU a b=true):iD neg a b=.ok (mO neg a b):=by
 obtain⟨l,c,d⟩:=fR.1 h;have e:=(lW (a/a7K a b) 128).2 (l5 _ d);have i:=(lW (b/a7K a b) 128).2 (l5 _ c);unfold iD mO;rw[if_neg Om]
def ajA (a b:Nat):Bool:=decide (nl a>128)||decide (nl b>128)
theorem Et {C:Ctx} (neg:Bool) (a b:List Nat) :
  EN.wp C (aV qa.res (aF (.bool (decide (a.length>128)||decide (b.length>128))))) (PF.args [.agg (eH neg a b)]) .nil:=by
 simp only[go_sem,EN,Eu,Ew,qa,a7I];by_cases c:a.length>128
 ·have d:(a.length:Int)>128:=Om;simp only[go_sem,d];refine aQ (.inr rfl) rfl ?_;rw[bP,decide_eq_true c,Bool.true_or]
 ·have d:¬ (a.length:Int)>128:=Om;simp only[go_sem,d,a7I];refine aQ (.inr rfl) rfl ?_;have:decide ((b.length:Int)>128)=decide (b.length>128):=by refine decide_eq_decide.2 ?_;omega
  rw[bP,this,decide_eq_false c,Bool.false_or]
def Kt (x:FV):FR:=if ajA x.2.1 x.2.2 then .error 2 else .ok x
theorem aPD (neg:Bool) (a b:Nat):Kt (mO neg a b)=iD neg a b:=by
 have d:=lW (a/a7K a b) 128;have e:=lW (b/a7K a b) 128;unfold Kt mO iD ajA;simp only[Bool.or_eq_true,decide_eq_true_eq];by_cases c:nl (a/a7K a b)>128∨nl (b/a7K a b)>128
 ·rw[if_pos c,if_pos Om]
 ·rw[if_neg c,if_neg Om]
structure OB (C:Ctx):Prop extends fv C where
 valid:∀ x:RF,x.Ok→aH C 56 [.agg x.cells] .nil (aF (.bool (cU (val x.num) (val x.den))))
 big:∀ x:FV,aH C 48 [.agg x.rf.cells] .nil (aF (.bool (ajA x.2.1 x.2.2)))
theorem Ub {C:Ctx} (L:OB C) (x:FV):MD.wp C (aV Hu.res (bY (frV (Kt x)))) (PF.args [.agg x.rf.cells]) .nil:=by
 simp only[go_sem,MD,Uc,Hu];refine aR fun o c=>?_;simp only[go_sem,Ud];refine aA (L.big x) rfl ?_;unfold Kt;cases ajA x.2.1 x.2.2 with
 | true =>simp only[go_sem,Ue];refine hL ?_;simp only[go_sem]
 | false =>obtain⟨n,a,b⟩:=x;simp only[go_sem,Uf];exact bA (.inr rfl) .nil (vs:=[.agg (FV.rf (n,a,b)).cells,.int .i64 0]) Sq a_ ⟨.refl _,rfl⟩
theorem qk {C:Ctx} (L:OB C) (x:RF) (c:x.Ok):AJ.wp C (aV VP.res (bY (frV (oT x)))) (PF.args [.agg x.cells]) .nil:=by
 simp only[go_sem,AJ,ql,VP];refine aR fun o l=>?_;simp only[go_sem,qn];refine aA (L.valid x c) rfl ?_;unfold oT;cases d:cU (val x.num) (val x.den) with
 | false =>simp only[go_sem,a7Z,qp];refine hL ?_;simp only[go_sem]
 | true =>obtain⟨i,p,q⟩:=fR.1 d;have e:=bc (neg:=x.neg) d;rw[if_pos rfl,e];simp only[go_sem,a7N,qq];refine aA (L.lowest x.neg x.num x.den c.1 c.2.1 c.2.2.1 c.2.2.2 Om Om i) rfl ?_;simp only[go_sem];exact bA (.inr rfl) .nil (vs:=[.agg (mO x.neg (val x.num) (val x.den)).rf.cells,.int .i64 0]) Sq a_ ⟨.refl _,rfl⟩
theorem Fb {C:Ctx} (L:fv C) (a b:List Nat) (c:Lim a) (d:Lim b) (e:a.length≤35184372087808) (i:b.length≤35184372087808) (l:nl (val a)≤256) (p:nl (val b)≤256) :
  EP.wp C (aV qr.res (aF (aJ (aI (val a*val b))))) (PF.args [aJ a,aJ b]) .nil:=by
 simp only[go_sem,EP,Fc,Fd,qr];refine aA (L.mul a b c d e i) rfl ?_;have:=lJ l p;rw[hC Om Om,opV,AF Om];simp only[go_sem,Fe];refine aQ (.inr rfl) rfl ?_;rfl
structure fw (C:Ctx):Prop extends OB C where
 fits:∀ x:FV,aH C 57 [.agg x.rf.cells] .nil (aF (frV (Kt x)))
 red:∀ x:RF,x.Ok→aH C 52 [.agg x.cells] .nil (aF (frV (oT x)))
 prod:∀ a b,Lim a→Lim b→a.length≤35184372087808→b.length≤35184372087808→nl (val a)≤256→nl (val b)≤256→aH C 60 [aJ a,aJ b] .nil (aF (aJ (aI (val a*val b))))
def RF.valid (x:RF):Prop:=cU (val x.num) (val x.den)=true
def pN (x y:RF):Int:=pM x.neg (val x.num) (val x.den) y.neg (val y.num) (val y.den)
def voS:Spec:=fun name vs=>match name,vs with
 | 60,[x,y]=>some ([],fun _=>aF (aJ (aI (val (jD x)*val (jD y)))))
 | _,_=>none
theorem wB (a b:List Nat):voS 60 [aJ a,aJ b]=some ([],fun _=>aF (aJ (aI (val a*val b)))):=by
 show some _=_; rw[eG,eG]
theorem x6 (a b:Nat):dP b a=- dP a b:=by
 unfold dP;rcases Nat.lt_trichotomy a b with h | h | h
 ·rw[if_neg Om,if_pos h,if_pos h]; rfl
 ·subst h;rw[if_neg Om,if_neg Om]; rfl
 ·rw[if_pos h,if_neg Om,if_pos h]
set_option maxHeartbeats 1000000 in
theorem Ex {C : Ctx} (L : fw C) (x y : RF) (hx : x.Ok) (hy : y.Ok) (vx : x.valid) (vy : y.valid) : EO.wp C (aV qj.res (aF (.int .i64 (pN x y)))) (PF.args [.agg x.cells, .agg y.cells]) .nil := by
  obtain ⟨n1, a1, b1⟩ := x;obtain ⟨n2, a2, b2⟩ := y;obtain ⟨ha1, hb1, la1, lb1⟩ := hx;obtain ⟨ha2, hb2, la2, lb2⟩ := hy;obtain ⟨v1, v2, v3⟩ := fR.1 vx;obtain ⟨w1, w2, w3⟩ := fR.1 vy;simp only at ha1 hb1 la1 lb1 ha2 hb2 la2 lb2 v1 v2 v3 w1 w2 w3;have m1 := lJ v3 w2;have m2 := lJ w3 v2;have hA : decide (val a1 ≠ 0) = decide (nl (val a1 * val b2) > 0) := by refine decide_eq_decide.2 ?_;have := @hZ (val a1 * val b2);rw [Nat.mul_eq_zero] at this;omega
  have hB : decide (val a2 ≠ 0) = decide (nl (val a2 * val b1) > 0) := by refine decide_eq_decide.2 ?_;have := @hZ (val a2 * val b1);rw [Nat.mul_eq_zero] at this;omega
  unfold pN pM;simp only [hA, hB];simp only[go_sem,EO,Ey,qj];refine bW .nil voS a_ ?_;simp only[go_sem,Ez];refine bN (wB a1 b2) (L.prod a1 b2 ha1 hb2 la1 lb2 Om Om) rfl a_ ?_;simp only[go_sem];refine bN (wB a2 b1) (L.prod a2 b1 ha2 hb1 la2 lb1 Om Om) rfl a_ ?_;have hc := L.cmp (aI (val a1 * val b2)) (aI (val a2 * val b1)) (aX _) (aX _) (by rw [bB]; omega) (by rw [bB]; omega);have hd := L.cmp (aI (val a2 * val b1)) (aI (val a1 * val b2)) (aX _) (aX _) (by rw [bB]; omega) (by rw [bB]; omega);rw [aW, aW] at hc hd;rw [x6 (val a1 * val b2)] at hd;generalize val a1 * val b2 = A at *
  generalize val a2 * val b1 = B at *
  have gA : decide (((nl A : Nat) : Int) > 0) = decide (nl A > 0) := decide_eq_decide.2 Om;have gB : decide (((nl B : Nat) : Int) > 0) = decide (nl B > 0) := decide_eq_decide.2 Om;generalize decide (nl A > 0) = p at *
  generalize decide (nl B > 0) = q at *
  cases n1 <;> cases n2 <;> cases p <;> cases q
  all_goals
    simp only[go_sem,E0,a7I,bB,gA,gB,E4,E5,E6,E7,E8,E9,Fa]
    first
    | (refine aQ (.inr rfl) rfl ?_; rfl)
    | (refine aA hc rfl ?_
       simp only[go_sem];refine aQ (.inr rfl) rfl ?_;rfl)
    | (refine aA hd rfl ?_
       simp only[go_sem];refine aQ (.inr rfl) rfl ?_;rfl)
structure vK (C:Ctx):Prop extends fw C where
 order:∀ x y:RF,x.Ok→y.Ok→x.valid→y.valid→aH C 51 [.agg x.cells,.agg y.cells] .nil (aF (.int .i64 (pN x y)))
theorem Uh {C:Ctx} (L:vK C) (x y:RF) (c:x.Ok) (d:y.Ok) (e:x.valid) (i:y.valid):MF.wp C (aV Hv.res (aF (.bool (decide (pN x y<0))))) (PF.args [.agg x.cells,.agg y.cells]) .nil:=by
 simp only[go_sem,MF,Ui,Uj,Hv];refine aA (L.order x y c d e i) rfl ?_;simp only[go_sem];refine aQ (.inr rfl) rfl ?_;rfl
theorem Ur {C:Ctx} (L:vK C) (x y:RF) (c:x.Ok) (d:y.Ok) (e:x.valid) (i:y.valid):MJ.wp C (aV Hx.res (aF (.bool (pN x y==0)))) (PF.args [.agg x.cells,.agg y.cells]) .nil:=by
 simp only[go_sem,MJ,Us,Ut,Hx];refine aA (L.order x y c d e i) rfl ?_;simp only[go_sem];refine aQ (.inr rfl) rfl ?_;rfl
theorem FU (n:Int):mkT n 1=⟨decide (n<0),aI n.natAbs,aI 1⟩:=by
 unfold mkT mO FV.rf;rw[show (1:Int).natAbs=1 from rfl,Nat.gcd_one_right,Nat.div_one,Nat.div_one,show decide ((1:Int)<0)=false from rfl];congr 1;by_cases h:n<0
 ·have:n.natAbs≠0:=Om;simp[h,this]
 ·simp[h]
theorem FT (n:Int) (h:dB n):(mkT n 1).Ok∧(mkT n 1).valid:=by
 have c:nl n.natAbs≤2:=nT (by unfold dB at h; omega);rw[FU];refine⟨⟨aX _,aX _,?_,?_⟩,?_⟩
 ·simp only[bB]; omega
 ·simp only[vT]; decide
 ·unfold RF.valid;simp only[aW];rw[Er];have:nl 1=1:=by rw[nl,vT]; rfl
  simp[this];omega
def rF (x:RF):Int:=if val x.num=0 then 0 else if x.neg then -1 else 1
theorem aHV (x:RF):pN x (mkT 0 1)=rF x:=by
 rw[FU];unfold pN rF pM;simp only[aW,show (0:Int).natAbs=0 from rfl,Nat.mul_one,Nat.zero_mul];by_cases h:val x.num=0
 ·simp[h,dP]
 ·cases x.neg<;>simp[h,dP]
def viS (r:Int):Spec:=fun name _=>if name=47 then some ([],fun _=>aF (.agg (mkT 0 1).cells)) else some ([],fun _=>aF (.int .i64 r))
theorem Uu {C:Ctx} (L:vK C) (x:RF) (e:x.Ok) (i:x.valid):MK.wp C (aV Hy.res (aF (.int .i64 (rF x)))) (PF.args [.agg x.cells]) .nil:=by
 have c:dB 0:=by unfold dB; omega
 have d:=L.order x (mkT 0 1) e (FT 0 c).1 i (FT 0 c).2;rw[aHV] at d;simp only[go_sem,MK,Uv,Hy];refine bW .nil (viS (rF x)) a_ ?_;simp only[go_sem,Uw];refine bN rfl (L.int 0 c) rfl a_ ?_;simp only[go_sem];refine bN rfl d rfl a_ ?_;simp only[go_sem];refine aQ (.inr rfl) rfl ?_;rfl
theorem aCI {C:Ctx} (L:vK C) (i l:Bool) (a1 b1 a2 b2:List Nat) (N:Lim a1) (E:Lim b1) (O:Lim a2) (J:Lim b2)
  (Q:a1.length≤35184372087808) (K:b1.length≤35184372087808) (R:a2.length≤35184372087808) (M:b2.length≤35184372087808) :
  CC.wp C (aV T7.res (bY (frV (gJ (i,val a1,val b1) (l,val a2,val b2))))) (PF.args [.agg (eH i a1 b1),.agg (eH l a2 b2)]) .nil:=by
 have vx:aH C 56 [.agg (eH i a1 b1)] .nil (aF (.bool (cU (val a1) (val b1)))):=L.valid ⟨i,a1,b1⟩ ⟨N,E,Q,K⟩;have vy:aH C 56 [.agg (eH l a2 b2)] .nil (aF (.bool (cU (val a2) (val b2)))):=L.valid ⟨l,a2,b2⟩ ⟨O,J,R,M⟩;simp only[go_sem,CC,agR,T7];refine aR fun o ho=>?_;simp only[go_sem,agS];refine aA vx rfl ?_;simp only[gJ];cases hv:cU (val a1) (val b1) with
 | false =>simp only[go_sem,a7Z,xf,a7R];refine hL ?_;simp only[go_sem]
 | true =>
  obtain⟨v1,v2,v3⟩:=fR.1 hv;simp only[go_sem,a7N];refine aA vy rfl ?_;cases hw:cU (val a2) (val b2) with
  | false =>simp only[go_sem,a7Z,xf,a8Q];refine hL ?_;simp only[go_sem]
  | true =>
   obtain⟨w1,w2,w3⟩:=fR.1 hw;simp only[go_sem,a7N,a9P];refine bW .nil voS a_ ?_;simp only[go_sem,agT];refine bN (wB a1 b2) (L.prod a1 b2 N J Q M Om Om) rfl a_ ?_;simp only[go_sem];refine bN (wB a2 b1) (L.prod a2 b1 O E R K Om Om) rfl a_ ?_;simp only[go_sem];refine bN (wB b1 b2) (L.prod b1 b2 E J K M Om Om) rfl a_ ?_;simp only[go_sem];have m1:=lJ v3 w2;have m2:=lJ w3 v2;have m3:=lJ v2 w2;have d0:val b1*val b2≠0:=Nat.mul_ne_zero v1 w1;generalize hA:val a1*val b2=A at *
   generalize hB:val a2*val b1=B at *
   generalize hD:val b1*val b2=D at *
   have fin:∀ (F:PF) (H:PH) (r:FR),(∃ d x y e,frV r=.tup [.agg (eH d x y),.int .i64 e]∧F 4=some (.ptr o 3 0 0)∧F 5=some (.int .i64 e)∧H o=some (.rows 3 [eH d x y]))→aV [.cell 4 (some 3),.tmp 5] (bY (frV r)) .ret F H:=by rintro F H r ⟨d,x,y,e,he,f4,f5,hH⟩;rw[he];exact bA (.inr rfl) .nil (vs:=[.agg (eH d x y),.int .i64 e]) (by simp only[go_sem,f4,f5,hH]) a_ ⟨.refl _,rfl⟩
   have V:(i==l)=decide (i=l):=by cases i<;>cases l<;>rfl
   have low:∀ neg x,nl x≤257→aH C 58 [.bool neg,aJ (aI x),aJ (aI D)] .nil (aF (.agg (mO neg x D).rf.cells)):=by
    intro neg x hx;have W:(aI x).length≤35184372087808:=by rw[bB]; omega
    have Z:(aI D).length≤35184372087808:=by rw[bB]; omega
    have:=L.lowest neg (aI x) (aI D) (aX _) (aX _) W Z;rw[aW,aW] at this;exact this Om Om d0
   have w:∀ neg x,aH C 57 [.agg (mO neg x D).rf.cells] .nil (aF (frV (iD neg x D))):=fun neg x=>by
    have:=L.fits (mO neg x D)
    rwa [aPD] at this
   have lA:(aI A).length≤35184372087808:=by rw[bB]; omega
   have lB:(aI B).length≤35184372087808:=by rw[bB]; omega
   simp only[go_sem,agU];by_cases c:i=l
   ·rw[if_pos c];have S:(i==l)=true:=by rw[V,decide_eq_true c]
    simp only[go_sem,S,agV];have q:=L.add (aI A) (aI B) (aX _) (aX _) lA lB;have α:=Qa m1 m2;rw[aW,aW,hC Om Om,opV,AF Om] at q;refine aA q rfl ?_;simp only[go_sem,agW];refine aA (low i _ Om) rfl ?_;simp only[go_sem];refine aA (w i _) rfl ?_;obtain⟨d,x,y,e,p⟩:=tX (iD i (A+B) D);rw[p];simp only[go_sem];rw[← p];exact fin _ _ _ ⟨d,x,y,e,p,by simp only[go_sem],by simp only[go_sem],by simp only[go_sem]⟩
   ·rw[if_neg c];have S:(i==l)=false:=by rw[V,decide_eq_false c]
    simp only[go_sem,S,agX];have hc:=L.cmp (aI A) (aI B) (aX _) (aX _) lA lB;rw[aW,aW] at hc;refine aA hc rfl ?_;have u:∀ X Y:Nat,nl X≤256→nl Y≤256→Y≤X→aH C 37 [aJ (aI X),aJ (aI Y)] .nil (aF (.tup [aJ (aI (X-Y)),.int .i64 0])):=by intro X Y W Z h;have:=L.sub (aI X) (aI Y) (aX _) (aX _) (by rw[bB]; omega) (by rw[bB]; omega);have h3:=fT (Om:X-Y≤X);rw[aW,aW,rQ,hC Om Om,if_neg (by decide),if_neg Om,AF Om] at this;exact this
    by_cases g:B≤A
    ·have U:dP A B≥0:=(UM A B).2 g;rw[if_pos g];simp only[go_sem,U,agY];refine aA (u A B Om Om g) rfl ?_;simp only[go_sem,agZ];have h3:=fT (Om:A-B≤A);refine aA (low i (A-B) Om) rfl ?_;simp only[go_sem];refine aA (w i _) rfl ?_;obtain⟨d,x,y,e,p⟩:=tX (iD i (A-B) D);rw[p];simp only[go_sem];rw[← p];exact fin _ _ _ ⟨d,x,y,e,p,by simp only[go_sem],by simp only[go_sem],by simp only[go_sem]⟩
    ·have U:¬ dP A B≥0:=fun h=>g ((UM A B).1 h);rw[if_neg g];simp only[go_sem,U,T8];refine aA (u B A Om Om Om) rfl ?_;simp only[go_sem,T9];have h3:=fT (Om:B-A≤B);refine aA (low l (B-A) Om) rfl ?_;simp only[go_sem];refine aA (w l _) rfl ?_;obtain⟨d,x,y,e,p⟩:=tX (iD l (B-A) D);rw[p];simp only[go_sem];rw[← p];exact fin _ _ _ ⟨d,x,y,e,p,by simp only[go_sem],by simp only[go_sem],by simp only[go_sem]⟩
theorem agQ {C:Ctx} (L:vK C) (x y:RF) (c:x.Ok) (d:y.Ok):CC.wp C (aV T7.res (bY (frV (gJ x.v y.v)))) (PF.args [.agg x.cells,.agg y.cells]) .nil :=
 aCI L x.neg y.neg x.num x.den y.num y.den c.1 c.2.1 d.1 d.2.1 c.2.2.1 c.2.2.2 d.2.2.1 d.2.2.2
structure G1 (C:Ctx):Prop extends vK C where
 less:∀ x y:RF,x.Ok→y.Ok→x.valid→y.valid→aH C 49 [.agg x.cells,.agg y.cells] .nil (aF (.bool (decide (pN x y<0))))
 same:∀ x y:RF,x.Ok→y.Ok→x.valid→y.valid→aH C 53 [.agg x.cells,.agg y.cells] .nil (aF (.bool (pN x y==0)))
 sign:∀ x:RF,x.Ok→x.valid→aH C 54 [.agg x.cells] .nil (aF (.int .i64 (rF x)))
 plus:∀ x y:RF,x.Ok→y.Ok→aH C 46 [.agg x.cells,.agg y.cells] .nil (aF (frV (gJ x.v y.v)))
def vsF (l:List RF) (o2 o4 k:Nat):PF:=((((PF.nil.set 0 (frs l)).set 2 (.ptr o2 3 0 0)).set 4 (.ptr o4 3 0 0)).set 5 (.int .i64 k))
theorem ahE {C:Ctx} (L:G1 C) (l:List RF) (hl:∀ x∈l,x.Ok) (V:l.length≤9223372036854775807) :
  TV.wp C (aV aqK.res (bY (frV (nH (l.map RF.v))))) (PF.args [frs l]) .nil:=by
 have Y:dB 0:=by unfold dB; omega
 have hi:(mkT 0 1).cells=(FV.rf (false,0,1)).cells:=by rw[FU]; rfl
 have u:=L.int 0 Y;rw[hi] at u;simp only[go_sem,TV,ahF,aqK];refine aR fun o2 β=>?_;have Z:aN (PH.nil.set o2 (.rows 3 [[.bool false,.aB,.aB]])) [(o2,.rows 3 [[.bool false,.aB,.aB]])] []:=aN.nil.new (H:=PH.nil) rfl _;generalize (PH.nil.set o2 _)=H1 at *
 simp only[go_sem,ahG];refine aA u rfl ?_;simp only[go_sem];refine aR fun o4 S=>?_;have h2:=Z.new S (.rows 3 [(FV.rf (false,0,1)).cells]);simp only[go_sem,ahH];refine wp_loop (α:=Nat × FV × PH) (fun t=>vsF l o2 o4 t.1) (fun t=>t.2.2) (fun t=>t.1≤l.length∧((l.map RF.v).take t.1).foldlM gJ (false,0,1)=.ok t.2.1∧aN t.2.2 [(o2,.rows 3 [[.bool false,.aB,.aB]]),(o4,.rows 3 [(FV.rf t.2.1).cells])] []∧(FV.rf t.2.1).Ok) (fun t=>l.length-t.1)
  (0,(false,0,1),_) ⟨a7P _,rfl,h2,⟨aX _,aX _,?_,?_⟩⟩ ?_ b_ ?_
 ·show (aI 0).length≤_;rw[fO]; simp
 ·show (aI 1).length≤_;rw[vT]; simp
 ·unfold vsF;exact Lq
 rintro⟨k,d,U⟩ ⟨hk,K,y,p⟩;simp only at hk K y p ⊢;simp only[go_sem,ahD,ahI,vsF,a7I];by_cases hlt:k<l.length
 ·have i:(k:Int)<(l.length:Nat):=Om;have hr:(l.map RF.cells)[k]?=some (l[k]).cells:=by simp[hlt]
  have q:=L.plus (FV.rf d) l[k] p (hl _ (a7L hlt));rw[FV.aWH] at q;have c:=WC (f:=gJ) (l.map RF.v) (false,0,1) (k:=k) (by simpa using hlt);rw[K] at c;simp only[Except.bind,a9D] at c;have N:=y.at 1 rfl;simp only[go_sem,i];refine bW .nil (fun _ _=>some ([],fun _=>aF (frV (gJ d (l[k]).v)))) a_ ?_;simp only[go_sem,ahJ,N,hr];refine bN rfl q rfl a_ ?_;cases J:gJ d (l[k]).v with
  | error e =>
   have R:e≠0:=by
    revert J;obtain⟨n1,a1,b1⟩:=d;obtain⟨n2,a2,b2⟩:=(l[k]).v;simp only[gJ,iD]
    repeat' split
    all_goals (intro h; first | (injection h with h; subst h; decide) | cases h)
   rw[J] at c;simp only[go_sem,frV];refine aR fun o6 w=>?_;simp only[go_sem];refine⟨a_,?_⟩;have A:=y.new w (.rows 3 [[.bool false,aJ [],aJ []]]);have M:=A.at 0 rfl;simp only[go_sem,xh,dN R,ahK,M];rw[nH,je _ _ c];refine hL ?_;simp only[go_sem]
  | ok r =>
   rw[J] at c;obtain⟨F,B,E⟩:=r;simp only[go_sem,frV];refine aR fun o6 w=>?_;simp only[go_sem];refine⟨a_,?_⟩;have A:=y.new w (.rows 3 [(FV.rf (F,B,E)).cells]);have X:=A.at 2 rfl;have O:=A.at 1 rfl;generalize hG:U.set o6 (.rows 3 [(FV.rf (F,B,E)).cells])=W at *
   have Q:U.set o6 (.rows 3 [[.bool F,aJ (aI B),aJ (aI E)]])=W:=hG;simp only[go_sem,xh,ahL,Q,X,O,ahM,wZz k];have h7:=(A.set 1 rfl (.rows 3 [(FV.rf (F,B,E)).cells])).sN 2;refine aD (k+1,(F,B,E),_) ⟨hlt,c,h7,tw J⟩ (by simp only; omega) ?_ b_;exact Lq
 ·have i:¬ (k:Int)<(l.length:Nat):=Om;have:k=l.length:=Om;subst this;rw[a8D (by simp)] at K;rw[nH,K];have M:=y.at 0 rfl;have N:=y.at 1 rfl;obtain⟨n,a,b⟩:=d;simp only[go_sem,i,U3,N,M];exact bA (.inr rfl) .nil (vs:=[.agg (FV.rf (n,a,b)).cells,.int .i64 0]) Sq a_ ⟨.refl _,rfl⟩
theorem dge {n:Nat} (k:Nat):decide ((n:Int)≥(k:Int))=decide (k≤n):=decide_eq_decide.2 Om
theorem dle {n:Nat} (k:Nat):decide ((n:Int)≤(k:Int))=decide (n≤k):=decide_eq_decide.2 Om
theorem rt {C:Ctx} (n:Nat):AM.wp C (aV VS.res (aF (.bool (eO n)))) (PF.args [.int .u8 n]) .nil:=by
 have e:=dge (n:=n) 97;have i:=dle (n:=n) 122;have l:=dge (n:=n) 65;have p:=dle (n:=n) 90;simp only[Int.cast_ofNat_Int] at e i l p;unfold eO;generalize decide (97≤n)=a at *
 generalize decide (n≤122)=b at *
 generalize decide (65≤n)=c at *
 generalize decide (n≤90)=d at *
 cases a<;>cases b<;>cases c<;>cases d
 all_goals
  simp only[go_sem,AM,ru,rv,VS,e,i,l,p];refine aQ (.inr rfl) rfl ?_;rfl
theorem Fj {C:Ctx} (n:Nat):ES.wp C (aV qv.res (aF (.bool (kK n)))) (PF.args [.int .u8 n]) .nil:=by
 have c:=dge (n:=n) 48;have d:=dle (n:=n) 57;simp only[Int.cast_ofNat_Int] at c d;unfold kK;generalize decide (48≤n)=a at *
 generalize decide (n≤57)=b at *
 cases a<;>cases b
 all_goals
  simp only[go_sem,ES,Fk,Fl,qv,c,d];refine aQ (.inr rfl) rfl ?_;rfl
theorem qw {C:Ctx} (c:∀ n:Nat,aH C 65 [.int .u8 n] .nil (aF (.bool (eO n)))) (d:∀ n:Nat,aH C 63 [.int .u8 n] .nil (aF (.bool (kK n)))) (n:Nat) :
  AK.wp C (aV VQ.res (aF (.bool (fL n)))) (PF.args [.int .u8 n]) .nil:=by
 have g1:((n:Int)==45)=decide (n=45):=by by_cases h:n=45<;>simp[h]; omega
 have g2:((n:Int)==46)=decide (n=46):=by by_cases h:n=46<;>simp[h]; omega
 have k1:=c n;have k2:=d n;unfold fL;generalize decide (n=45)=a at *
 generalize decide (n=46)=b at *
 simp only[go_sem,AK,qx,qy,VQ];refine aA k1 rfl ?_;cases eO n with
 | true =>simp only[go_sem];refine aQ (.inr rfl) rfl ?_;rfl
 | false =>
  simp only[go_sem];refine aA k2 rfl ?_;cases kK n<;>cases a<;>cases b
  all_goals
   simp only[go_sem,g1,g2];refine aQ (.inr rfl) rfl ?_;rfl
theorem q9 {C:Ctx} (y:∀ n:Nat,aH C 65 [.int .u8 n] .nil (aF (.bool (eO n)))) (A:∀ n:Nat,aH C 64 [.int .u8 n] .nil (aF (.bool (fL n)))) (s:List UInt8) :
  AL.wp C (aV VR.res (aF (.bool (isName s)))) (PF.args [.str s]) .nil:=by
 simp only[go_sem,AL,rc,re,VR];cases s with
 | nil =>have x:decide (((0:Nat):Int)<1)=true:=rfl;simp only[go_sem,xR,a9Y,x];refine aQ (.inr rfl) rfl ?_;rfl
 | cons c t =>
  have B:(c::t)[0]?=some c:=rfl;have i:isName (c::t)=(decide ((c::t).length≤16)&&eO c.toNat&&(c::t).all fun c=>fL c.toNat):=rfl;have e:¬ (((c::t).length:Nat):Int)<1:=by simp only[a9A]; omega
  generalize c::t=s at *
  by_cases w:s.length≤16
  ·have l:¬ (s.length:Int)>16:=Om;rw[decide_eq_true w,a7T] at i;have k1:=y c.toNat;simp only[go_sem,e,l,B,a8Y];refine aA k1 rfl ?_;cases u:eO c.toNat with
   | false =>simp only[go_sem,a7Z,xR];refine aQ (.inr rfl) rfl ?_;rw[bP,i,u,a7R]
   | true =>
    rw[u,a7T] at i;simp only[go_sem,a7N,rg];refine wp_loop (α:=Nat) (fun k=>((PF.nil.set 0 (.str s)).set 3 (.int .i64 k))) (fun _=>.nil) (fun k=>k≤s.length∧(s.take k).all (fun c=>fL c.toNat)=true) (fun k=>s.length-k) 0 ⟨a7P _,rfl⟩ Lq a_ ?_;rintro k ⟨E,p⟩;simp only[go_sem,qz,rh];by_cases hlt:k<s.length
    ·have d:(k:Int)<(s.length:Nat):=Om;have q:s[k]?=some s[k]:=a7W hlt;have k2:=A (s[k]).toNat;simp only[go_sem,d,ri,q,a8Y];refine aA k2 rfl ?_;cases hi:fL (s[k]).toNat with
     | false =>simp only[go_sem,a7Z,rj];refine aQ (.inr rfl) rfl ?_;rw[bP,i,pF hlt hi]
     | true =>simp only[go_sem,a7N,rk,wZz k];exact aD (k+1) ⟨hlt,by simpa using pE hlt p hi⟩ Om Lq b_
    ·have d:¬ (k:Int)<(s.length:Nat):=Om;have:k=s.length:=Om;subst this;rw[a8K] at p;simp only[go_sem,d,rp];refine aQ (.inr rfl) rfl ?_;rw[bP,i,p]
  ·have l:(s.length:Int)>16:=Om;rw[decide_eq_false w,a7R,a7R] at i;simp only[go_sem,e,l,xR];refine aQ (.inr rfl) rfl ?_;rw[bP,i]
def GX (k m:Int):Bool:=within k 1 6&&(within m 0 4&&decide (k+m≤8))
theorem Sf {C:Ctx} (k m:Int):nY.wp C (aV BT.res (aF (.bool (GX k m)))) (PF.args [.int .i64 k,.int .i64 m]) .nil:=by
 unfold GX within;by_cases c:1≤k
 ·by_cases d:k≤6
  ·by_cases e:0≤m
   ·by_cases i:m≤4
    ·have l:IntKind.i64.wrap (k+m)=k+m:=wrap_i64 Om Om;simp only[go_sem,nY,uM,uN,BT,ge_iff_le,c,d,e,i,l];refine aQ (.inr rfl) rfl ?_;simp[bP,c,d,e,i]
    ·simp only[go_sem,nY,uM,uN,BT,ge_iff_le,c,d,e,i];refine aQ (.inr rfl) rfl ?_;simp[bP,c,d,e,i]
   ·simp only[go_sem,nY,uM,uN,BT,ge_iff_le,c,d,e];refine aQ (.inr rfl) rfl ?_;simp[bP,c,d,e]
  ·simp only[go_sem,nY,uM,uN,BT,ge_iff_le,c,d];refine aQ (.inr rfl) rfl ?_;simp[bP,c,d]
 ·simp only[go_sem,nY,uM,uN,BT,ge_iff_le,c];refine aQ (.inr rfl) rfl ?_;simp[bP,c]
def Gc:Rg:=[iA 1 (.box true (Tm 0)),iT 2 false]
def Gd:Rg:=[iO 6 3 1,iK 7 52 6,iM 5 7,iE 8 5 0,iE 9 5 1,iA 3 (.alloc [zB,.aB,.aB]),iS 3 3 8,iM 4 9]
def CE:Rg:=[iM 10 4,iC 11 .eql 10 0,iM 12 11,gF 13 0 3 12 true,gL 14 13 12 true,iG 15 (.un .not (Tm 14)) 12 true,iP 16 12 15,iM 17 16,gF 18 1 3 17 true,gL 19 18 17 true,gN 20 19 17 true,gC 21 .leq 20 1 17 true,iP 22 17 21,iM 23 22,gF 24 2 3 23 true,gL 25 24 23 true,gN 26 25 23 true,gC 27 .leq 26 1 23 true,iP 28 23 27,iM 2 28]
def EY:aC:=(sq Gc (sq Gd (sq CE .ret)))
def aCY:List Nat:=[1]
def sb:aS:=⟨1,29,EY,[.tmp 2]⟩
def sf:Rg:=[iT 4 false]
def sg:Rg:=[iM 6 0,iN 7 6,iM 8 1,iB 9 .neq 7 8]
def sj:Rg:=[iT 4 false]
def sk:Rg:=[iI 5 0]
def sm:Rg:=[iM 10 5,iM 11 1,iB 12 .lss 10 11]
def sn:Rg:=[iM 15 0,iM 16 5,iX 17 3 15 16,iO 18 3 17,iK 19 74 18,iA 20 (.un .not (Tm 19))]
def so:Rg:=[iT 4 false]
def sr:Rg:=[iM 13 5,iC 14 .add 13 1,iM 5 14]
def sd:aC:=(.seq (sq sm (.cond (Tm 12) .skip (.exit 0))) (.seq (.block 1 (sq sn (.cond (Tm 20) (sq so .ret) .skip))) (.region sr)))
def su:Rg:=[iT 4 true]
def AO:aC:=(sq sf (.seq (sq sg (.cond (Tm 9) (sq sj .ret) .skip)) (.seq (sq sk (.block 0 (.loop sd))) (sq su .ret))))
def aqY:List Nat:=[]
def VT:aS:=⟨2,21,AO,[.tmp 4]⟩
def ahU:Rg:=[iA 1 (.box true (Tm 0)),iT 2 false]
def ahV:Rg:=[iF 12 1 1,iL 13 12,iN 14 13,iM 3 14]
def ahW:Rg:=[iM 15 3,iC 16 .lss 15 1,iM 17 16,gM 18 3 17 false,gC 19 .gtr 18 4 17 false,iQ 20 17 19,iM 21 20,gF 22 1 1 21 false,gL 23 22 21 false,gM 24 3 21 false,gK2 25 75 23 24 21 false,iG 26 (.un .not (Tm 25)) 21 false,iQ 27 21 26,iM 28 27,gF 29 3 1 28 false,gL 30 29 28 false,gM 31 3 28 false,gK2 32 75 30 31 28 false,iG 33 (.un .not (Tm 32)) 28 false,iQ 34 28 33,iM 35 34,gF 36 2 1 35 false,gL 37 36 35 false,gN 38 37 35 false,gM 39 3 35 false,gB 40 .neq 38 39 35 false,iQ 41 35 40]
def yT:Rg:=[iT 2 false]
def ahX:Rg:=[iI 4 0]
def ahY:Rg:=[iM 42 4,iM 43 3,iB 44 .lss 42 43]
def ahZ:Rg:=[iF 47 2 1,iL 48 47,iM 49 4,iX 50 1 48 49,iL 51 50,iM 52 3,iK2 53 75 51 52,iA 54 (.un .not (Tm 53)),iM 55 54,gF 56 2 1 55 false,gL 57 56 55 false,gM 58 4 55 false,iG 59 (.a6O 1 (Tm 57) (Tm 58)) 55 false,gL 60 59 55 false,gM 61 4 55 false,iG 62 (.a6O 3 (Tm 60) (Tm 61)) 55 false,gO 63 3 62 55 false,gK 64 54 63 55 false,gC 65 .neq 64 0 55 false,iQ 66 55 65]
def xk:Rg:=[iT 2 false]
def aiA:Rg:=[iM 45 4,iC 46 .add 45 1,iM 4 46]
def ahS:aC:=(.seq (sq ahY (.cond (Tm 44) .skip (.exit 0))) (.seq (.block 1 (sq ahZ (.cond (Tm 66) (sq xk .ret) .skip))) (.region aiA)))
def U8:Rg:=[iF 68 1 1,iL 69 68,iK 70 55 69,iM 67 70,iE 71 67 0,iE 72 67 1,iA 5 (.alloc [zB,.aB,.aB]),iS 3 5 71,iM 6 72]
def d6:Rd:=[(iM 73 6,false),(iC 74 .neq 73 0,false),(iM 75 74,false),(gO 76 3 5 75 false,true),(iG 77 (.call 47 [(Ci 1)]) 75 false,true),(gK2 78 53 76 77 75 false,true),(iG 79 (.un .not (Tm 78)) 75 false,false),(iQ 80 75 79,false)]
def d7:Rg:=[iT 2 false]
def U9:Rg:=[iM 81 3,iA 82 (.a6F 1 1 [zB] (Tm 81) (Tm 81)),iM 7 82]
def Va:Rg:=[iI 8 0]
def Vb:Rg:=[iM 83 8,iM 84 3,iB 85 .lss 83 84]
def Vc:Rg:=[iI 9 0]
def Vd:Rg:=[iM 88 9,iM 89 3,iB 90 .lss 88 89]
def d8:Rg:=[iM 93 7,iM 94 9,iM 95 7,iM 96 9,iX 97 1 95 96,iL 98 97,iM 99 98,gF 100 3 1 99 false,gL 101 100 99 false,gM 102 9 99 false,iG 103 (.a6O 3 (Tm 101) (Tm 102)) 99 false,gO 104 3 103 99 false,gK 105 54 104 99 false,gC 106 .gtr 105 0 99 false,iQ 107 99 106,iX 108 1 93 94,iS 1 108 107]
def d9:Rg:=[iI 10 0]
def Ve:Rg:=[iM 109 10,iM 110 3,iB 111 .lss 109 110]
def ef:Rg:=[iM 114 7,iM 115 9,iM 116 7,iM 117 9,iX 118 1 116 117,iL 119 118,iM 120 119,gF 121 2 1 120 false,gL 122 121 120 false,gM 123 9 120 false,iG 124 (.a6O 1 (Tm 122) (Tm 123)) 120 false,gL 125 124 120 false,gM 126 10 120 false,iG 127 (.a6O 3 (Tm 125) (Tm 126)) 120 false,gO 128 3 127 120 false,gK 129 54 128 120 false,gC 130 .gtr 129 0 120 false,gM 131 130 120 false,gM 132 7 131 true,gM 133 10 131 true,iG 134 (.a6O 1 (Tm 132) (Tm 133)) 131 true,gL 135 134 131 true,iG 136 (.pick (Tm 131) (Tm 135) (.const zB)) 120 false,iQ 137 120 136,iX 138 1 114 115,iS 1 138 137]
def MQ:Rg:=[iM 112 10,iC 113 .add 112 1,iM 10 113]
def MP:aC:=(.seq (sq Ve (.cond (Tm 111) .skip (.exit 6))) (.seq (.block 7 (.region ef)) (.region MQ)))
def el:Rg:=[iM 91 9,iC 92 .add 91 1,iM 9 92]
def dy:aC:=(.seq (sq Vd (.cond (Tm 90) .skip (.exit 4))) (.seq (.block 5 (sq d8 (sq d9 (.block 6 (.loop MP))))) (.region el)))
def Vf:Rg:=[iM 86 8,iC 87 .add 86 1,iM 8 87]
def dz:aC:=(.seq (sq Vb (.cond (Tm 85) .skip (.exit 2))) (.seq (.block 3 (sq Vc (.block 4 (.loop dy)))) (.region Vf)))
def Vg:Rg:=[iI 11 0]
def Vh:Rg:=[iM 139 11,iM 140 3,iB 141 .lss 139 140]
def ep:Rg:=[iM 144 7,iM 145 11,iX 146 1 144 145,iL 147 146,iA 148 (.un .not (Tm 147))]
def Vi:Rg:=[iT 2 false]
def Vj:Rg:=[iM 142 11,iC 143 .add 142 1,iM 11 143]
def d3:aC:=(.seq (sq Vh (.cond (Tm 141) .skip (.exit 8))) (.seq (.block 9 (sq ep (.cond (Tm 148) (sq Vi .ret) .skip))) (.region Vj)))
def e7:Rg:=[iT 2 true]
def UB:aC:=(sq ahU (sq ahV (.seq (sq ahW (.cond (Tm 41) (sq yT .ret) .skip)) (.seq (sq ahX (.block 0 (.loop ahS))) (.seq (sq U8 (dq d6 (.cond (Tm 80) (sq d7 .ret) .skip))) (sq U9 (.seq (sq Va (.block 2 (.loop dz))) (.seq (sq Vg (.block 8 (.loop d3))) (sq e7 .ret)))))))))
def aUB:List Nat:=[1]
def aqW:aS:=⟨1,149,UB,[.tmp 2]⟩
def aiD:Rg:=[iT 4 false]
def aiE:Rg:=[iM 6 0,iM 7 1,iA 8 (.a6S true (Tm 7) (Ci 1)),iK2 9 75 6 8,iA 10 (.un .not (Tm 9))]
def aiF:Rg:=[iT 4 false]
def aiG:Rg:=[iI 5 0]
def aiH:Rg:=[iM 11 5,iM 12 0,iN 13 12,iB 14 .lss 11 13]
def aiI:Rg:=[iM 17 0,iM 18 5,iX 19 3 17 18,iO 20 3 19,iK 21 54 20,iC 22 .eql 21 0]
def aiJ:Rg:=[iT 4 false]
def aiK:Rg:=[iM 15 5,iC 16 .add 15 1,iM 5 16]
def aiB:aC:=(.seq (sq aiH (.cond (Tm 14) .skip (.exit 0))) (.seq (.block 1 (sq aiI (.cond (Tm 22) (sq aiJ .ret) .skip))) (.region aiK)))
def aiL:Rg:=[iT 4 true]
def UC:aC:=(sq aiD (.seq (sq aiE (.cond (Tm 10) (sq aiF .ret) .skip)) (.seq (sq aiG (.block 0 (.loop aiB))) (sq aiL .ret))))
def aUC:List Nat:=[]
def aqX:aS:=⟨2,23,UC,[.tmp 4]⟩
def NK:Rg:=[iT 6 false]
def NL:Rg:=[iM 7 0,iM 8 1,iB 9 .geq 7 8,iM 10 9,gM 11 0 10 true,gM 12 2 10 true,gB 13 .leq 11 12 10 true,iP 14 10 13,iM 6 14]
def tU:aC:=(sq NK (sq NL .ret))
def aqZ:List Nat:=[]
def GM:aS:=⟨3,15,tU,[.tmp 6]⟩
def F9:Rg:=[iT 12 false]
def Ga:Rg:=[iM 13 0,iC 14 .leq 13 4,iM 15 14,gM 16 1 15 true,gC 17 .leq 16 4 15 true,iP 18 15 17,iM 19 18,gM 20 2 19 true,gC 21 .leq 20 40 19 true,iP 22 19 21,iM 23 22,gM 24 3 23 true,gC 25 .leq 24 24 23 true,iP 26 23 25,iM 27 26,gM 28 4 27 true,gC 29 .leq 28 4 27 true,iP 30 27 29,iM 31 30,gM 32 5 31 true,gC 33 .leq 32 12 31 true,iP 34 31 33,iM 12 34]
def EX:aC:=(sq F9 (sq Ga .ret))
def aCX:List Nat:=[]
def sa:aS:=⟨6,35,EX,[.tmp 12]⟩
def YQ:Rg:=[iA 7 (.box true (Tm 3)),iT 8 false]
def YR:Rg:=[iM 10 0,iM 11 1,iK2 12 61 10 11,iA 13 (.un .not (Tm 12)),iM 14 13,gM 15 2 14 false,gM 16 0 14 false,gM 17 0 14 false,gM 18 1 14 false,gB 19 .add 17 18 14 false,iG 20 (.call 76 [(Tm 15),(Tm 16),(Tm 19)]) 14 false,iG 21 (.un .not (Tm 20)) 14 false,iQ 22 14 21,iM 23 22,iG 24 (.idxA 5 1 (Tm 7) (Ci 0)) 23 false,gL 25 24 23 false,gC 26 .neq 25 0 23 false,iQ 27 23 26]
def vI:Rg:=[iT 8 false]
def YS:Rg:=[iI 9 1]
def YT:Rg:=[iM 28 9,iC 29 .lss 28 5]
def EW:Rg:=[iM 32 9,iA 33 (.idxA 5 1 (Tm 7) (Tm 32)),iL 34 33,iA 35 (.call 76 [(Tm 34),(Ci 0),(Ci 8)]),iA 36 (.un .not (Tm 35))]
def YU:Rg:=[iT 8 false]
def YV:Rg:=[iM 30 9,iC 31 .add 30 1,iM 9 31]
def YO:aC:=(.seq (sq YT (.cond (Tm 29) .skip (.exit 0))) (.seq (.block 1 (sq EW (.cond (Tm 36) (sq YU .ret) .skip))) (.region YV)))
def YW:Rg:=[iT 8 true]
def wL:aC:=(sq YQ (.seq (sq YR (.cond (Tm 27) (sq vI .ret) .skip)) (.seq (sq YS (.block 0 (.loop YO))) (sq YW .ret))))
def Xp:List Nat:=[7]
def MR:aS:=⟨4,37,wL,[.tmp 8]⟩
def ahQ:Rg:=[iA 6 (.box true (Tm 2)),iA 7 (.box true (Tm 3)),iT 8 false]
def ahR:Rd:=[(iM 9 1,false),(iM 10 0,false),(iK2 11 66 9 10,true),(iM 12 11,false),(gO 13 3 6 12 true,false),(gK 14 74 13 12 true,true),(iP 15 12 14,false),(iM 16 15,false),(iG 17 (.call 47 [(Ci 1)]) 16 true,true),(gO 18 3 6 16 true,true),(gK2 19 49 17 18 16 true,true),(iG 20 (.un .not (Tm 19)) 16 true,false),(iP 21 16 20,false),(iM 22 21,false),(gO 23 3 7 22 true,false),(gK 24 74 23 22 true,true),(iP 25 22 24,false),(iM 8 25,false)]
def TZ:aC:=(sq ahQ (dq ahR .ret))
def aUA:List Nat:=[6,7]
def aqV:aS:=⟨4,26,TZ,[.tmp 8]⟩
def Fv:Rg:=[iI 4 0]
def Fw:Rg:=[iI 5 0]
def Fy:Rg:=[iM 6 5,iM 7 0,iN 8 7,iB 9 .lss 6 8]
def UA:Rg:=[iM 12 0,iM 13 5,iX 14 1 12 13,iL 15 14,iM 16 1,iB 17 .eql 15 16]
def F0:Rg:=[iM 18 5,iM 4 18]
def F6:Rg:=[iM 10 5,iC 11 .add 10 1,iM 5 11]
def Ft:aC:=(.seq (sq Fy (.cond (Tm 9) .skip (.exit 0))) (.seq (.block 1 (sq UA (.cond (Tm 17) (sq F0 .ret) .skip))) (.region F6)))
def F7:Rg:=[iI 4 (-1)]
def EV:aC:=(sq Fv (.seq (sq Fw (.block 0 (.loop Ft))) (sq F7 .ret)))
def aCV:List Nat:=[]
def r9:aS:=⟨2,19,EV,[.tmp 4]⟩
def Ge:Rg:=[iA 1 (.box true (Tm 0)),iT 2 false]
def Gf:Rg:=[iF 22 0 1,iL 23 22,iA 24 (.call 76 [(Tm 23),(Ci 1),(Ci 4)]),iA 25 (.un .not (Tm 24)),iM 26 25,gF 27 1 1 26 false,gL 28 27 26 false,gN 29 28 26 false,gF 30 2 1 26 false,gL 31 30 26 false,gN 32 31 26 false,gF 33 3 1 26 false,gL 34 33 26 false,gN 35 34 26 false,gF 36 4 1 26 false,gL 37 36 26 false,gN 38 37 26 false,gF 39 5 1 26 false,gL 40 39 26 false,gN 41 40 26 false,gF 42 6 1 26 false,gL 43 42 26 false,gN 44 43 26 false,iG 45 (.call 73 [(Tm 29),(Tm 32),(Tm 35),(Tm 38),(Tm 41),(Tm 44)]) 26 false,iG 46 (.un .not (Tm 45)) 26 false,iQ 47 26 46,iM 48 47,gF 49 3 1 48 false,gL 50 49 48 false,gN 51 50 48 false,gC 52 .eql 51 0 48 false,iQ 53 48 52]
def CF:Rg:=[iT 2 false]
def Gg:Rg:=[iZ 3,iZ 4,iZ 5,iZ 6,iZ 7]
def Gh:Rg:=[iT 8 true]
def Gi:Rg:=[iI 9 0]
def Gj:Rg:=[iM 54 9,iF 55 1 1,iL 56 55,iN 57 56,iB 58 .lss 54 57,iM 59 58,gM 60 8 59 true,iP 61 59 60]
def Gk:Rg:=[iM 65 3,iF 66 1 1,iL 67 66,iM 68 9,iX 69 4 67 68,iF 70 0 69,iL 71 70,iK2 72 70 65 71,iM 64 72,iE 73 64 0,iE 74 64 1,iM 3 73,iM 8 74]
def UD:Rg:=[iM 75 8,iM 76 75,gF 77 1 1 76 true,gL 78 77 76 true,gM 79 9 76 true,iG 80 (.a6O 4 (Tm 78) (Tm 79)) 76 true,gO 81 4 80 76 true,gK 82 68 81 76 true,iP 83 76 82,iM 8 83]
def UE:Rg:=[iM 62 9,iC 63 .add 62 1,iM 9 63]
def MS:aC:=(.seq (sq Gj (.cond (Tm 61) .skip (.exit 0))) (.seq (.block 1 (sq Gk (.region UD))) (.region UE)))
def sw:Rg:=[iI 10 0]
def sx:Rg:=[iM 84 10,iF 85 2 1,iL 86 85,iN 87 86,iB 88 .lss 84 87,iM 89 88,gM 90 8 89 true,iP 91 89 90]
def sy:Rg:=[iF 94 2 1,iL 95 94,iM 96 10,iX 97 4 95 96,iO 98 4 97,iA 11 (.alloc [(.str []),zI,zI,zI]),iS 4 11 98]
def s7:Rg:=[iM 100 4,iF 101 0 11,iL 102 101,iK2 103 70 100 102,iM 99 103,iE 104 99 0,iE 105 99 1,iM 4 104,iM 8 105]
def MV:Rg:=[iM 106 8,iM 107 106,gF 108 1 11 107 true,gL 109 108 107 true,iG 110 (.call 76 [(Tm 109),(Ci 1),(Ci 16)]) 107 true,iP 111 107 110,iM 112 111,gF 113 2 11 112 true,gL 114 113 112 true,iG 115 (.call 76 [(Tm 114),(Ci 1),(Ci 64)]) 112 true,iP 116 112 115,iM 117 116,gF 118 3 11 117 true,gL 119 118 117 true,gF 120 1 1 117 true,gL 121 120 117 true,gN 122 121 117 true,gC 123 .sub 122 1 117 true,iG 124 (.call 76 [(Tm 119),(Ci 0),(Tm 123)]) 117 true,iP 125 117 124,iM 8 125]
def tQ:Rg:=[iM 92 10,iC 93 .add 92 1,iM 10 93]
def MT:aC:=(.seq (sq sx (.cond (Tm 91) .skip (.exit 2))) (.seq (.block 3 (sq sy (sq s7 (.region MV)))) (.region tQ)))
def s8:Rg:=[iF 126 3 1,iL 127 126,iA 128 (.a6O 7 (Tm 127) (Ci 0)),iO 129 7 128,iA 12 (.alloc [(.str []),zI,zI,zI,zB,.aB,.aB]),iS 7 12 129]
def MW:Rg:=[iM 130 8,iM 131 130,gF 132 0 12 131 true,gL 133 132 131 true,iG 134 (.bin .eql (Tm 133) (.const (.str []))) 131 true,iP 135 131 134,iM 136 135,gF 137 1 12 136 true,gL 138 137 136 true,gC 139 .eql 138 0 136 true,iP 140 136 139,iM 141 140,gF 142 2 12 141 true,gL 143 142 141 true,gC 144 .eql 143 (-1) 141 true,iP 145 141 144,iM 146 145,gF 147 3 12 146 true,gL 148 147 146 true,gC 149 .eql 148 0 146 true,iP 150 146 149,iM 151 150,gF 152 4 12 151 true,gO 153 3 152 151 true,gK 154 56 153 151 true,iP 155 151 154,iM 156 155,gF 157 4 12 156 true,gO 158 3 157 156 true,gK 159 54 158 156 true,gC 160 .eql 159 0 156 true,iP 161 156 160,iM 8 161]
def MX:Rg:=[iI 13 1]
def s9:Rg:=[iM 162 13,iF 163 3 1,iL 164 163,iN 165 164,iB 166 .lss 162 165,iM 167 166,gM 168 8 167 true,iP 169 167 168]
def ta:Rg:=[iF 172 3 1,iL 173 172,iM 174 13,iX 175 7 173 174,iO 176 7 175,iA 14 (.alloc [(.str []),zI,zI,zI,zB,.aB,.aB]),iS 7 14 176]
def tc:Rg:=[iM 178 5,iF 179 0 14,iL 180 179,iK2 181 70 178 180,iM 177 181,iE 182 177 0,iE 183 177 1,iM 5 182,iM 8 183]
def MY:Rd:=[(iM 184 8,false),(iM 185 184,false),(gF 186 1 14 185 true,false),(gL 187 186 185 true,false),(iG 188 (.call 76 [(Tm 187),(Ci 1),(Ci 4)]) 185 true,true),(iP 189 185 188,false),(iM 190 189,false),(gF 191 2 14 190 true,false),(gL 192 191 190 true,false),(gM 193 13 190 true,false),(gC 194 .sub 193 1 190 true,false),(iG 195 (.call 76 [(Tm 192),(Ci 0),(Tm 194)]) 190 true,true),(iP 196 190 195,false),(iM 197 196,false),(gF 198 3 1 197 true,false),(gL 199 198 197 true,false),(gF 200 2 14 197 true,false),(gL 201 200 197 true,false),(iG 202 (.a6O 7 (Tm 199) (Tm 201)) 197 true,false),(gF 203 1 202 197 true,false),(gL 204 203 197 true,false),(gF 205 1 14 197 true,false),(gL 206 205 197 true,false),(gC 207 .sub 206 1 197 true,false),(gB 208 .eql 204 207 197 true,false),(iP 209 197 208,false),(iM 210 209,false),(gF 211 3 14 210 true,false),(gL 212 211 210 true,false),(iG 213 (.call 76 [(Tm 212),(Ci 1),(Ci 64)]) 210 true,true),(iP 214 210 213,false),(iM 215 214,false),(gF 216 4 14 215 true,false),(gO 217 3 216 215 true,false),(gK 218 74 217 215 true,true),(iP 219 215 218,false),(iM 8 219,false)]
def oE:Rg:=[iM 170 13,iC 171 .add 170 1,iM 13 171]
def xT:aC:=(.seq (sq s9 (.cond (Tm 169) .skip (.exit 4))) (.seq (.block 5 (sq ta (sq tc (.draw MY)))) (.region oE)))
def MZ:Rg:=[iI 15 0]
def td:Rg:=[iM 220 15,iF 221 4 1,iL 222 221,iN 223 222,iB 224 .lss 220 223,iM 225 224,gM 226 8 225 true,iP 227 225 226]
def te:Rg:=[iF 230 4 1,iL 231 230,iM 232 15,iX 233 3 231 232,iO 234 3 233,iA 16 (.alloc [(.str []),zI,zI]),iS 3 16 234]
def tf:Rg:=[iM 236 5,iF 237 0 16,iL 238 237,iK2 239 70 236 238,iM 235 239,iE 240 235 0,iE 241 235 1,iM 5 240,iM 8 241]
def NA:Rg:=[iM 242 8,iM 243 242,gF 244 1 16 243 true,gL 245 244 243 true,gF 246 2 1 243 true,gL 247 246 243 true,gN 248 247 243 true,gC 249 .sub 248 1 243 true,iG 250 (.call 76 [(Tm 245),(Ci 0),(Tm 249)]) 243 true,iP 251 243 250,iM 252 251,gF 253 2 16 252 true,gL 254 253 252 true,gF 255 3 1 252 true,gL 256 255 252 true,gN 257 256 252 true,gC 258 .sub 257 1 252 true,iG 259 (.call 76 [(Tm 254),(Ci 0),(Tm 258)]) 252 true,iP 260 252 259,iM 261 260,gF 262 3 1 261 true,gL 263 262 261 true,gF 264 2 16 261 true,gL 265 264 261 true,iG 266 (.a6O 7 (Tm 263) (Tm 265)) 261 true,gF 267 1 266 261 true,gL 268 267 261 true,gC 269 .eql 268 4 261 true,iP 270 261 269,iM 8 270]
def tR:Rg:=[iM 228 15,iC 229 .add 228 1,iM 15 229]
def xU:aC:=(.seq (sq td (.cond (Tm 227) .skip (.exit 6))) (.seq (.block 7 (sq te (sq tf (.region NA)))) (.region tR)))
def NB:Rg:=[iI 17 0]
def tg:Rg:=[iM 271 17,iF 272 5 1,iL 273 272,iN 274 273,iB 275 .lss 271 274,iM 276 275,gM 277 8 276 true,iP 278 276 277]
def th:Rg:=[iF 281 5 1,iL 282 281,iM 283 17,iX 284 17 282 283,iO 285 17 284,iA 18 (.alloc [(.str []),zI,zI,zI,zI,zI,zI,zI,zI,.aB,.aB,zB,.aB,.aB,zB,.aB,.aB]),iS 17 18 285]
def ti:Rg:=[iM 287 6,iF 288 0 18,iL 289 288,iK2 290 70 287 289,iM 286 290,iE 291 286 0,iE 292 286 1,iM 6 291,iM 8 292]
def NC:Rg:=[iM 293 8,iM 294 293,gF 295 1 18 294 true,gL 296 295 294 true,gF 297 2 18 294 true,gL 298 297 294 true,gF 299 3 18 294 true,gL 300 299 294 true,gF 301 4 18 294 true,gO 302 5 301 294 true,iG 303 (.call 72 [(Tm 296),(Tm 298),(Tm 300),(Tm 302)]) 294 true,iP 304 294 303,iM 305 304,gF 306 2 18 305 true,gL 307 306 305 true,gF 308 10 18 305 true,gL 309 308 305 true,gF 310 11 18 305 true,gO 311 3 310 305 true,gF 312 14 18 305 true,gO 313 3 312 305 true,iG 314 (.call 69 [(Tm 307),(Tm 309),(Tm 311),(Tm 313)]) 305 true,iP 315 305 314,iM 316 315,gF 317 9 18 316 true,gL 318 317 316 true,gN 319 318 316 true,gC 320 .gtr 319 0 316 true,iP 321 316 320,iM 8 321]
def tT:Rg:=[iI 19 0]
def tj:Rg:=[iM 322 19,iF 323 9 18,iL 324 323,iN 325 324,iB 326 .lss 322 325,iM 327 326,gM 328 8 327 true,iP 329 327 328]
def tk:Rd:=[(iF 332 9 18,false),(iL 333 332,false),(iM 334 19,false),(iX 335 1 333 334,false),(iL 336 335,false),(iF 337 2 1,false),(iL 338 337,false),(iN 339 338,false),(iC 340 .sub 339 1,false),(iA 341 (.call 76 [(Tm 336),(Ci 0),(Tm 340)]),true),(iM 8 341,false)]
def tp:Rg:=[iI 20 0]
def tq:Rg:=[iM 342 20,iM 343 19,iB 344 .lss 342 343]
def ND:Rd:=[(iM 347 8,false),(iM 348 347,false),(gF 349 9 18 348 true,false),(gL 350 349 348 true,false),(gM 351 20 348 true,false),(iG 352 (.a6O 1 (Tm 350) (Tm 351)) 348 true,false),(gL 353 352 348 true,false),(gF 354 9 18 348 true,false),(gL 355 354 348 true,false),(gM 356 19 348 true,false),(iG 357 (.a6O 1 (Tm 355) (Tm 356)) 348 true,false),(gL 358 357 348 true,false),(gB 359 .neq 353 358 348 true,false),(iP 360 348 359,false),(iM 8 360,false)]
def NE:Rg:=[iM 345 20,iC 346 .add 345 1,iM 20 346]
def MU:aC:=(.seq (sq tq (.cond (Tm 344) .skip (.exit 12))) (.seq (.block 13 (.draw ND)) (.region NE)))
def tr:Rg:=[iM 330 19,iC 331 .add 330 1,iM 19 331]
def xV:aC:=(.seq (sq tj (.cond (Tm 329) .skip (.exit 10))) (.seq (.block 11 (dq tk (sq tp (.block 12 (.loop MU))))) (.region tr)))
def NF:Rg:=[iM 279 17,iC 280 .add 279 1,iM 17 280]
def xW:aC:=(.seq (sq tg (.cond (Tm 278) .skip (.exit 8))) (.seq (.block 9 (sq th (sq ti (sq NC (sq tT (.block 10 (.loop xV))))))) (.region NF)))
def NG:Rg:=[iI 21 0]
def tt:Rg:=[iM 361 21,iF 362 6 1,iL 363 362,iN 364 363,iB 365 .lss 361 364,iM 366 365,gM 367 8 366 true,iP 368 366 367]
def tu:Rg:=[iM 372 7,iF 373 6 1,iL 374 373,iM 375 21,iX 376 2 374 375,iF 377 0 376,iL 378 377,iK2 379 70 372 378,iM 371 379,iE 380 371 0,iE 381 371 1,iM 7 380,iM 8 381]
def NH:Rd:=[(iM 382 8,false),(iM 383 382,false),(gF 384 6 1 383 true,false),(gL 385 384 383 true,false),(gM 386 21 383 true,false),(iG 387 (.a6O 2 (Tm 385) (Tm 386)) 383 true,false),(gF 388 1 387 383 true,false),(gL 389 388 383 true,false),(gF 390 5 1 383 true,false),(gL 391 390 383 true,false),(gN 392 391 383 true,false),(gC 393 .sub 392 1 383 true,false),(iG 394 (.call 76 [(Tm 389),(Ci 0),(Tm 393)]) 383 true,true),(iP 395 383 394,false),(iM 8 395,false)]
def NI:Rg:=[iM 369 21,iC 370 .add 369 1,iM 21 370]
def xX:aC:=(.seq (sq tt (.cond (Tm 368) .skip (.exit 14))) (.seq (.block 15 (sq tu (.draw NH))) (.region NI)))
def NJ:Rg:=[iM 396 8,iM 2 396]
def EZ:aC:=(sq Ge (.seq (sq Gf (.cond (Tm 53) (sq CF .ret) .skip)) (sq Gg (sq Gh (.seq (sq Gi (.block 0 (.loop MS))) (.seq (sq sw (.block 2 (.loop MT))) (sq s8 (sq MW (.seq (sq MX (.block 4 (.loop xT))) (.seq (sq MZ (.block 6 (.loop xU))) (.seq (sq NB (.block 8 (.loop xW))) (.seq (sq NG (.block 14 (.loop xX))) (sq NJ .ret)))))))))))))
def aDC:List Nat:=[1]
def sv:aS:=⟨1,397,EZ,[.tmp 2]⟩
def Fq:Rg:=[iZ 4,iT 5 false]
def Fr:Rg:=[iM 6 0,iM 7 1,iA 8 (.a6D true 1 1 [(.str [])] [(0,(Tm 7))]),iA 9 (.append 1 16 (Tm 6) (Tm 8)),iM 10 1,iK 11 62 10,iM 12 11,gM 13 0 12 true,gM 14 1 12 true,gK2 15 71 13 14 12 true,gC 16 .lss 15 0 12 true,iP 17 12 16,iM 4 9,iM 5 17]
def EU:aC:=(sq Fq (sq Fr .ret))
def aCU:List Nat:=[8]
def r8:aS:=⟨2,18,EU,[.tmp 4,.tmp 5]⟩
theorem tv {C:Ctx} (n lo hi:Int):tU.wp C (aV GM.res (aF (.bool (within n lo hi)))) (PF.args [.int .i64 n,.int .i64 lo,.int .i64 hi]) .nil:=by
 unfold within;by_cases h:lo≤n
 ·simp only[go_sem,tU,NK,NL,GM,ge_iff_le,h];refine aQ (.inr rfl) rfl ?_;simp[bP,h]
 ·simp only[go_sem,tU,NK,NL,GM,ge_iff_le,h];refine aQ (.inr rfl) rfl ?_;simp[bP,h]
def pR (a b c d e f:Nat):Bool:=decide (a≤4)&&(decide (b≤4)&&(decide (c≤40)&&(decide (d≤24)&&(decide (e≤4)&&decide (f≤12)))))
theorem F8 {C:Ctx} (a b c d e f:Nat):EX.wp C (aV sa.res (aF (.bool (pR a b c d e f)))) (PF.args [.int .i64 a,.int .i64 b,.int .i64 c,.int .i64 d,.int .i64 e,.int .i64 f]) .nil:=by
 have g:∀ x k:Nat,decide ((x:Int)≤(k:Int))=decide (x≤k):=fun x k=>decide_eq_decide.2 Om;have i:=g a 4;have l:=g b 4;have p:=g c 40;have q:=g d 24;have h5:=g e 4;have u:=g f 12;simp only[Int.cast_ofNat_Int] at i l p q h5 u;unfold pR;simp only[go_sem,EX,F9,Ga,sa,i];cases decide (a≤4) with
 | false =>simp only[go_sem];refine aQ (.inr rfl) rfl ?_;rfl
 | true =>
  simp only[go_sem,l];cases decide (b≤4) with
  | false =>simp only[go_sem];refine aQ (.inr rfl) rfl ?_;rfl
  | true =>
   simp only[go_sem,p];cases decide (c≤40) with
   | false =>simp only[go_sem];refine aQ (.inr rfl) rfl ?_;rfl
   | true =>
    simp only[go_sem,q];cases decide (d≤24) with
    | false =>simp only[go_sem];refine aQ (.inr rfl) rfl ?_;rfl
    | true =>
     simp only[go_sem,h5];cases decide (e≤4) with
     | false =>simp only[go_sem];refine aQ (.inr rfl) rfl ?_;rfl
     | true =>simp only[go_sem,u];refine aQ (.inr rfl) rfl ?_;rfl
structure NX (C:Ctx):Prop extends G1 C where
 sum:∀ l:List RF,(∀ x∈l,x.Ok)→l.length≤9223372036854775807→aH C 55 [frs l] .nil (aF (frV (nH (l.map RF.v))))
 inn:∀ n lo hi:Int,aH C 76 [.int .i64 n,.int .i64 lo,.int .i64 hi] .nil (aF (.bool (within n lo hi)))
 code:∀ k m:Int,aH C 61 [.int .i64 k,.int .i64 m] .nil (aF (.bool (GX k m)))
def KB (k m q s0 s1 s2 s3 s4:Int):Bool:=GX k m&&(within q k (k+m)&&(decide (s0=0)&&(within s1 0 8&&(within s2 0 8&&(within s3 0 8&&within s4 0 8)))))
theorem aQY (p:bS):JZ p=KB p.k p.m p.a6V p.s0 p.s1 p.s2 p.s3 p.s4:=by
 unfold JZ KB GX;have:within p.s0 0 8=true∨p.s0≠0:=by
  by_cases h:p.s0=0
  ·rw[h]; exact .inl rfl
  ·exact .inr h
 simp only[List.all_cons,List.all_nil,a9P];rcases this with h | h
 ·rw[h];simp only[a7T,baL]
 ·simp only[h,decide_false,a7R,a8Q]
def spR (s1 s2 s3 s4:Int) (k:Nat):Int:=match k with
 | 1=>s1
 | 2=>s2
 | 3=>s3
 | _=>s4
theorem YP {C:Ctx} (L:NX C) (k m q s0 s1 s2 s3 s4:Int) :
  wL.wp C (aV MR.res (aF (.bool (KB k m q s0 s1 s2 s3 s4)))) (PF.args [.int .i64 k,.int .i64 m,.int .i64 q,.agg [.int .i64 s0,.int .i64 s1,.int .i64 s2,.int .i64 s3,.int .i64 s4]]) .nil:=by
 obtain⟨X,p⟩:∃ X,KB k m q s0 s1 s2 s3 s4=X:=⟨_,rfl⟩;rw[p];unfold KB at p;simp only[go_sem,wL,YQ,YR,MR];refine aA (L.code k m) rfl ?_;cases E:GX k m with
 | false =>rw[E,a7R] at p;simp only[go_sem,a7Z,vI];refine aQ (.inr rfl) rfl ?_;rw[bP,p]
 | true =>
  rw[E,a7T] at p;have R:1≤k∧k≤6∧0≤m∧m≤4:=by simp only[GX,a8A,within_iff] at E;omega
  have Q:IntKind.i64.wrap (k+m)=k+m:=wrap_i64 Om Om;simp only[go_sem,a7N,Q];refine aA (L.inn q k (k+m)) rfl ?_;cases J:within q k (k+m) with
  | false =>rw[J,a7R] at p;simp only[go_sem,a7Z,vI];refine aQ (.inr rfl) rfl ?_;rw[bP,p]
  | true =>
   rw[J,a7T] at p;have B:(0:Int)<((5:Nat):Int):=by decide
   by_cases F:s0=0
   ·rw[decide_eq_true F,a7T] at p;simp only[go_sem,a7N,B,cC F,YS];refine wp_loop (α:=Nat) (fun j=>((PF.nil.set 7 (.bH [.int .i64 s0,.int .i64 s1,.int .i64 s2,.int .i64 s3,.int .i64 s4])).set 9 (.int .i64 j))) (fun _=>.nil) (fun j=>1≤j∧j≤5∧∀ i,1≤i→i<j→within (spR s1 s2 s3 s4 i) 0 8=true) (fun j=>5-j) 1 ⟨by decide,by decide,fun i E J=>by omega⟩ Lq a_ ?_;rintro j ⟨M,N,d⟩;simp only[go_sem,YO,YT];by_cases hlt:j<5
    ·have l:(j:Int)<5:=Om;have x:((j:Nat):Int)<((5:Nat):Int):=Om;have w:=L.inn (spR s1 s2 s3 s4 j) 0 8;obtain⟨c,u⟩:∃ c,within (spR s1 s2 s3 s4 j) 0 8=c:=⟨_,rfl⟩;rw[u] at w;have y:c=true→∀ i,1≤i→i<j+1→within (spR s1 s2 s3 s4 i) 0 8=true:=fun A i a b=>by
      by_cases e:i=j
      ·rw[e,u,A]
      ·exact d i a Om
     have H:c=false→X=false:=by intro h;rw[h] at u;have A:j=1∨j=2∨j=3∨j=4:=Om;rw[← p];rcases A with rfl | rfl | rfl | rfl<;>(simp only[spR] at u; rw[u]; simp)
     have A:j=1∨j=2∨j=3∨j=4:=Om;cases c with
     | false =>
      have K:=H rfl;rcases A with rfl | rfl | rfl | rfl
      all_goals
       simp only[spR] at w;simp only[go_sem,l,EW,x];refine aA w rfl ?_;simp only[go_sem,a7Z,YU];refine aQ (.inr rfl) rfl ?_;rw[bP,K]
     | true =>
      have O:=y rfl;rcases A with rfl | rfl | rfl | rfl
      all_goals
       simp only[spR] at w;simp only[go_sem,l,EW,x];refine aA w rfl ?_;simp only[go_sem,a7N,YV];refine aD (_+1) ⟨by omega,hlt,O⟩ Om Lq b_
    ·have l:¬ (j:Int)<5:=Om;have:j=5:=Om;subst this;simp only[go_sem,l,YW];refine aQ (.inr rfl) rfl ?_;have a1:=d 1 (by decide) (by decide);have a2:=d 2 (by decide) (by decide);have a3:=d 3 (by decide) (by decide);have a4:=d 4 (by decide) (by decide);simp only[spR] at a1 a2 a3 a4;rw[bP,← p,a1,a2,a3,a4];rfl
   ·rw[decide_eq_false F,a7R] at p;simp only[go_sem,a7N,B,dN F,vI];refine aQ (.inr rfl) rfl ?_;rw[bP,p]
theorem qF {x:RF} (h:cS x=true):x.valid:=by
 unfold cS oT at h;unfold RF.valid;cases c:cU (val x.num) (val x.den) with
 | true=>rfl
 | false =>rw[c] at h;simp at h
theorem Gb {C:Ctx} (L:NX C) (x:RF) (u:x.Ok):EY.wp C (aV sb.res (aF (.bool (cS x)))) (PF.args [.agg x.cells]) .nil:=by
 have q:=L.red x u;unfold cS;simp only[go_sem,EY,Gc,Gd,sb];refine aA q rfl ?_;cases l:oT x with
 | error e =>have i:=Ro l;simp only[go_sem,frV];refine aR fun o p=>?_;simp only[go_sem,CE,bF i];refine aQ (.inr rfl) rfl ?_;rfl
 | ok r =>
  obtain⟨n,a,b⟩:=r;have w:=lW a 1;have y:=lW b 1;have c:decide (((nl a:Nat):Int)≤1)=decide (cM a≤32):=decide_eq_decide.2 Om;have d:decide (((nl b:Nat):Int)≤1)=decide (cM b≤32):=decide_eq_decide.2 Om;simp only[go_sem,frV];refine aR fun o p=>?_;cases n with
  | true =>simp only[go_sem,CE,a7N];refine aQ (.inr rfl) rfl ?_;rfl
  | false =>
   simp only[go_sem,CE,a7Z,a7I,bB,c];cases decide (cM a≤32) with
   | false =>simp only[go_sem];refine aQ (.inr rfl) rfl ?_;rfl
   | true =>simp only[go_sem,a7I,bB,d];refine aQ (.inr rfl) rfl ?_;rfl
structure UG (C:Ctx):Prop extends NX C where
 small:∀ x:RF,x.Ok→aH C 74 [.agg x.cells] .nil (aF (.bool (cS x)))
 nums:∀ k m q s0 s1 s2 s3 s4:Int,aH C 72 [.int .i64 k,.int .i64 m,.int .i64 q,.agg [.int .i64 s0,.int .i64 s1,.int .i64 s2,.int .i64 s3,.int .i64 s4]] .nil (aF (.bool (KB k m q s0 s1 s2 s3 s4)))
 sizes:∀ a b c d e f:Nat,aH C 73 [.int .i64 a,.int .i64 b,.int .i64 c,.int .i64 d,.int .i64 e,.int .i64 f] .nil (aF (.bool (pR a b c d e f)))
theorem jf {l:List RF} {k:Nat} (h:k<l.length):(l.map RF.cells)[k]?=some (l[k]).cells:=by simp[h]
theorem se {C:Ctx} (L:UG C) (l:List RF) (i:jR l) (n:Int):AO.wp C (aV VT.res (aF (.bool (decide ((l.length:Int)=n)&&l.all cS)))) (PF.args [frs l,.int .i64 n]) .nil:=by
 have p:=i.fits;unfold Fits at p;simp only[go_sem,AO,sf,sg,VT,a7I];by_cases h:(l.length:Int)=n
 ·rw[decide_eq_true h,a7T];subst h;simp only[go_sem,cC (show (l.length:Int)=(l.length:Nat) from rfl),sk];refine wp_loop (α:=Nat) (fun k=>(((PF.nil.set 0 (frs l)).set 1 (.int .i64 (l.length:Nat))).set 5 (.int .i64 k))) (fun _=>.nil) (fun k=>k≤l.length∧(l.take k).all cS=true) (fun k=>l.length-k) 0 ⟨a7P _,rfl⟩ Lq a_ ?_;rintro k ⟨u,d⟩;simp only[go_sem,sd,sm];by_cases hlt:k<l.length
  ·have c:(k:Int)<(l.length:Nat):=Om;have q:=L.small l[k] (i.all _ (a7L hlt));simp only[go_sem,c,sn,jf hlt];refine aA q rfl ?_;cases hi:cS l[k] with
   | false =>simp only[go_sem,a7Z,so];refine aQ (.inr rfl) rfl ?_;rw[bP,pF hlt hi]
   | true =>have e:=a7Y.1 (pE hlt d hi);simp only[go_sem,a7N,sr,wZz k];exact aD (k+1) ⟨hlt,e⟩ Om Lq b_
  ·have c:¬ (k:Int)<(l.length:Nat):=Om;have:k=l.length:=Om;subst this;rw[a8K] at d;simp only[go_sem,c,su];refine aQ (.inr rfl) rfl ?_;rw[bP,d]
 ·rw[decide_eq_false h,a7R];simp only[go_sem,dN h,sj];refine aQ (.inr rfl) rfl ?_;rfl
structure UH (C:Ctx):Prop extends UG C where
 smalls:∀ l:List RF,jR l→∀ n:Int,aH C 75 [frs l,.int .i64 n] .nil (aF (.bool (decide ((l.length:Int)=n)&&l.all cS)))
theorem LE (x:RF):(rF x==0)=!bG x:=by
 unfold rF bG;by_cases h:val x.num=0
 ·simp[h]
 ·cases x.neg<;>simp[h]
def da (l:List RF) (m:Int):Bool:=decide ((l.length:Int)=max m 1)&&l.all cS&&l.all bG
theorem aiC {C:Ctx} (L:UH C) (l:List RF) (q:jR l) (m:Int):UC.wp C (aV aqX.res (aF (.bool (da l m)))) (PF.args [frs l,.int .i64 m]) .nil:=by
 have w:=q.fits;unfold Fits at w;have y:=L.smalls l q (max m 1);unfold da;simp only[go_sem,UC,aiD,aiE,aqX,max_eq];refine aA y rfl ?_;cases h:(decide ((l.length:Int)=max m 1)&&l.all cS) with
 | false =>simp only[go_sem,a7Z,aiF];refine aQ (.inr rfl) rfl ?_;rfl
 | true =>
  rw[a8A] at h;have d:=a7Y.1 h.2;simp only[go_sem,a7N,aiG];refine wp_loop (α:=Nat) (fun k=>((PF.nil.set 0 (frs l)).set 5 (.int .i64 k))) (fun _=>.nil) (fun k=>k≤l.length∧(l.take k).all bG=true) (fun k=>l.length-k) 0 ⟨a7P _,rfl⟩ Lq a_ ?_;rintro k ⟨A,i⟩;simp only[go_sem,aiB,aiH,a7I];by_cases hlt:k<l.length
  ·have c:(k:Int)<(l.length:Nat):=Om;have u:=a7L hlt;have x:=L.sign l[k] (q.all _ u) (qF (d _ u));have e:=LE l[k];simp only[go_sem,c,aiI,jf hlt];refine aA x rfl ?_;cases hi:bG l[k] with
   | false =>rw[hi] at e;simp only[go_sem,e,a7Z,aiJ];refine aQ (.inr rfl) rfl ?_;rw[bP,pF hlt hi]
   | true =>rw[hi] at e;have p:=a7Y.1 (pE hlt i hi);simp only[go_sem,e,a7N,aiK,wZz k];exact aD (k+1) ⟨hlt,p⟩ Om Lq b_
  ·have c:¬ (k:Int)<(l.length:Nat):=Om;have:k=l.length:=Om;subst this;rw[a8K] at i;simp only[go_sem,c,aiL];refine aQ (.inr rfl) rfl ?_;rw[bP,i]
structure UI (C:Ctx):Prop extends UH C where
 reps:∀ l:List RF,jR l→∀ m:Int,aH C 66 [frs l,.int .i64 m] .nil (aF (.bool (da l m)))
def frD:List PV→RF
 | [.bool n,a,b]=>⟨n,jD a,jD b⟩
 | _=>⟨false,[],[]⟩
theorem zg (x:RF):frD x.cells=x:=by
 show (⟨x.neg,jD (aJ x.num),jD (aJ x.den)⟩:RF)=x;rw[eG,eG]
def zdS (r s:Bool):Spec:=fun name vs=>match name,vs with
 | 66,_=>some ([],fun _=>aF (.bool r))
 | 74,[.agg cs]=>some ([],fun _=>aF (.bool (cS (frD cs))))
 | 47,_=>some ([],fun _=>aF (.agg (mkT 1 1).cells))
 | 49,_=>some ([],fun _=>aF (.bool s))
 | _,_=>none
theorem Fo (r s:Bool) (x:RF):zdS r s 74 [.agg x.cells]=some ([],fun _=>aF (.bool (cS x))):=by
 show some ([],fun _=>aF (.bool (cS (frD x.cells))))=_;rw[zg]
theorem avE (x y:RF):pN y x=- pN x y:=by
 unfold pN pM;have e:=x6 (val x.num*val y.den) (val y.num*val x.den);cases x.neg&&decide (val x.num≠0)<;>cases y.neg&&decide (val y.num≠0)<;>simp only[e,Int.neg_neg]<;>rfl
theorem aHT {x:RF} (c:x.valid):decide (pN (mkT 1 1) x<0)=!wH x:=by
 rw[avE x];unfold wH;rw[show cU (val x.num) (val x.den)=true from c,a7T,FU];unfold pN;simp only[aW,show (1:Int).natAbs=1 from rfl,show decide ((1:Int)<0)=false from rfl];by_cases h:pM x.neg (val x.num) (val x.den) false 1 1≤0
 ·rw[decide_eq_true h,decide_eq_false Om]; rfl
 ·rw[decide_eq_false h,decide_eq_true Om]; rfl
def PI (m:Int) (rep:List RF) (t h:RF):Bool:=da rep m&&(cS t&&(wH t&&cS h))
theorem ahP {C:Ctx} (L:UI C) (m:Int) (rep:List RF) (p:jR rep) (t h:RF) (i:t.Ok) (l:h.Ok) :
  TZ.wp C (aV aqV.res (aF (.bool (PI m rep t h)))) (PF.args [.int .i64 m,frs rep,.agg t.cells,.agg h.cells]) .nil:=by
 have d:dB 1:=by unfold dB; omega
 unfold PI;simp only[go_sem,TZ,ahQ,aqV];refine bW .nil (zdS (da rep m) (!wH t)) a_ ?_;simp only[go_sem,ahR];refine bN rfl (L.reps rep p m) rfl a_ ?_;cases da rep m with
 | false =>simp only[go_sem];refine aQ (.inr rfl) rfl ?_;rfl
 | true =>
  simp only[go_sem];refine bN (Fo _ _ t) (L.small t i) rfl a_ ?_;cases e:cS t with
  | false =>simp only[go_sem];refine aQ (.inr rfl) rfl ?_;rfl
  | true =>
   have c:=L.less (mkT 1 1) t (FT 1 d).1 i (FT 1 d).2 (qF e);rw[aHT (qF e)] at c;simp only[go_sem];refine bN rfl (L.int 1 d) rfl a_ ?_;simp only[go_sem];refine bN rfl c rfl a_ ?_;cases wH t with
   | false =>simp only[go_sem,a7Z,a7N];refine aQ (.inr rfl) rfl ?_;rfl
   | true =>simp only[go_sem,a7N,a7Z];refine bN (Fo _ _ h) (L.small h l) rfl a_ ?_;simp only[go_sem];refine aQ (.inr rfl) rfl ?_;rfl
theorem aVA (p:bS):BR p=PI p.m p.repair p.target p.a6H:=by
 unfold BR PI da;have:(p.repair.all fun x=>cS x&&bG x)=(p.repair.all cS&&p.repair.all bG):=by
  induction p.repair with
  | nil=>rfl
  | cons a t c =>simp only[List.all_cons,c];cases cS a<;>cases bG a<;>simp
 rw[this];simp only[baL]
section
variable {H:PH} {B:List BX} {L:List LI}
theorem aN.aiU (h:aN H B L) (i:Nat) {s b:Nat} {v y:PV} {rows src:List (List PV)} {K:PV→PH→Prop} (hi:L[i]?=some (v,s,rows)) (A:dX H s y=some src) (x:roomFor rows.length src.length b)
  (l:∀ v' H',bQ H' s v rows→aN H' B (L.set i (v',s,rows++src))→K v' H'):mQ H s b v y K:=by
 rcases h.own i hi with ⟨rfl,rfl⟩ | ⟨q,rs,rfl,h1,h2,h3⟩
 ·exact h.append i hi A x fun v' H' E _=>l v' H' (.inl ⟨rfl,rfl⟩) E
 ·have c:(rows++src).length=rows.length+src.length:=a7Q;refine⟨src,A,rfl,rfl,x,rs,h1,h2,?_,fun o e=>?_⟩
  ·rw[h3];refine l _ _ (.inr ⟨q,rows++src,rfl,by rw[cQ],by rw[c]; omega,List.take_left' rfl⟩) (h.LJ i hi (.inr ⟨q,rows++src,by rw[c],by simp only[aT,if_true],a7O _,a8K⟩) (fun p d=>by cases d; exact .inl rfl) fun p _ d=>?_);rw[aT,if_neg (d q rfl)]
  ·rw[h3];have w:q≠o:=by rintro rfl; rw[h1] at e; cases e
   refine l _ _ (.inr ⟨q,rs,rfl,by rw[aT,if_neg w]; exact h1,h2,h3⟩) (h.LJ i hi (.inr ⟨o,rows++src,by rw[c],by simp only[aT,if_true],a7O _,a8K⟩) (fun p d=>by cases d; exact .inr e) fun p u d=>?_);obtain⟨f1,f2⟩:=h.fresh e;have F:p≠o:=by rintro rfl; exact u.elim f1 f2
   rw[aT,if_neg F]
end
abbrev mJ (l:List (List UInt8)):List (List PV):=l.map fun s=>[PV.str s]
def zP:List (List UInt8)→List UInt8→Nat→Int
 | [],_,_=>-1
 | x::t,s,i=>if x==s then (i:Int) else zP t s (i+1)
theorem Ns (s:List UInt8):∀ (l:List (List UInt8)) (i:Nat),decide (zP l s i<0)=!l.contains s
 | [],i=>rfl
 | x::t,i=>by
  rw[zP,List.contains_cons,BEq.comm (a:=s)];by_cases h:(x==s)=true
  ·rw[if_pos h,h,Bool.true_or,decide_eq_false Om]; rfl
  ·rw[if_neg h,Ns s t (i+1)];simp only[Bool.not_eq_true] at h;rw[h,Bool.false_or]
theorem Fu {C:Ctx} (l:List (List UInt8)) (q:l.length≤1000000) (s:List UInt8):EV.wp C (aV r9.res (aF (.int .i64 (zP l s 0)))) (PF.args [.sl 1 (mJ l),.str s]) .nil:=by
 simp only[go_sem,EV,Fv,Fw,r9];refine wp_loop (α:=Nat) (fun k=>(((PF.nil.set 0 (.sl 1 (mJ l))).set 1 (.str s)).set 5 (.int .i64 k))) (fun _=>.nil) (fun k=>k≤l.length∧zP l s 0=zP (l.drop k) s k) (fun k=>l.length-k) 0 ⟨a7P _,rfl⟩ Lq a_ ?_;rintro k ⟨p,d⟩;simp only[go_sem,Ft,Fy,a7I];by_cases hlt:k<l.length
 ·have c:(k:Int)<(l.length:Nat):=Om;have e:(mJ l)[k]?=some [.str l[k]]:=by simp[hlt]
  rw[a9J hlt,zP] at d;cases i:l[k]==s with
  | true =>rw[i,if_pos rfl] at d;simp only[go_sem,c,UA,e,i,F0];refine aQ (.inr rfl) rfl ?_;rw[bP,d]
  | false =>rw[i,if_neg (by decide)] at d;simp only[go_sem,c,UA,e,i,F6,wZz k];exact aD (k+1) ⟨hlt,d⟩ Om Lq b_
 ·have c:¬ (k:Int)<(l.length:Nat):=Om;have:k=l.length:=Om;subst this;rw[List.drop_length,zP] at d;simp only[go_sem,c,F7];refine aQ (.inr rfl) rfl ?_;rw[bP,d]
structure UJ (C:Ctx):Prop extends UI C where
 name:∀ s:List UInt8,aH C 62 [.str s] .nil (aF (.bool (isName s)))
 index:∀ (l:List (List UInt8)),l.length≤1000000→∀ s:List UInt8,aH C 71 [.sl 1 (mJ l),.str s] .nil (aF (.int .i64 (zP l s 0)))
def jG (l:List (List UInt8)) (s:List UInt8):Bool:=isName s&&!l.contains s
def fh (l:List (List UInt8)) (s:List UInt8) (r:PV) (B:List BX) (L:List LI):Prop:=∃ c,r=.tup [c,.bool (jG l s)]∧B=[]∧L=[(c,1,mJ (l++[s]))]
theorem Fp {C:Ctx} (L:UJ C) (l:List (List UInt8)) (Q:l.length≤1000000) (s:List UInt8) (w:PV) (H:PH) (N:aN H [] [(w,1,mJ l)]) :
  EU.wp C (aV r8.res (fun r H'=>∃ B' L',fh l s r B' L'∧aN H' B' L')) (PF.args [w,.str s]) H:=by
 have p:=L.index l Q s;have E:=L.name s;have d:=Ns s l 0;have A:(1:Nat)*1≤16777216:=by decide
 have fin:∀ (F:PF) (H':PH) (c:PV) (b:Bool),F 4=some c→F 5=some (.bool b)→b=jG l s→aN H' [] [(c,1,mJ (l++[s]))]→aV [.tmp 4,.tmp 5] (fun r H'=>∃ B' L',fh l s r B' L'∧aN H' B' L') .ret F H':=fun F H' c b K M e y =>
  bA (vs:=[c,.bool b]) (.inr rfl) H' (by simp only[go_sem,K,M]) b_ ⟨[],_,⟨c,by rw[e]; rfl,rfl,rfl⟩,y⟩
 simp only[go_sem,EU,Fq,Fr,r8,A];refine N.aiU 0 (src:=[[.str s]]) rfl rfl (by unfold roomFor; rw[a7I]; simp only[a7U,maxLen]; omega) fun c H' O y=>?_;have i:aN H' [] [(c,1,mJ (l++[s]))]:=by
  have e:mJ (l++[s])=mJ l++[[.str s]]:=by simp[mJ]
  rw[e]; exact y
 refine aA E rfl ?_;cases J:isName s with
 | false =>simp only[go_sem];exact fin _ _ c false rfl rfl (by unfold jG; rw[J,a7R]) i
 | true =>
  have u:jG l s=!l.contains s:=by unfold jG; rw[J,a7T]
  rcases O with ⟨R,rfl⟩ | ⟨q,rs,rfl,q1,q2,q3⟩
  ·simp only[go_sem];rw[R] at p;have x:aH C 71 [.aB,.str s] .nil (aF (.int .i64 (zP l s 0))):=p.args (.cons (.nil 1) (.cons (.refl _) .nil));refine aA x rfl ?_;simp only[go_sem,d];exact fin _ _ c _ rfl rfl u.symm i
  ·simp only[go_sem];refine Xj (vs:=[.osl q 1 0 (mJ l).length,.str s]) (.int .i64 (zP l s 0)) ?_ q1 Sq ?_
   ·rw[a8X,a8X,a9R,tZ q2,q3];exact p
   simp only[go_sem,d];exact fin _ _ c _ rfl rfl u.symm i
theorem awT {x:RF} (h:cS x=true):decide (rF x>0)=bG x:=by
 have d:=qF h;unfold cS oT at h;rw[show cU (val x.num) (val x.den)=true from d,if_pos rfl,bc d] at h;unfold rF bG;by_cases c:val x.num=0
 ·simp[c]
 ·have i:val x.num/a7K (val x.num) (val x.den)≠0:=by have:=Nat.div_pos (Nat.gcd_le_left (val x.den) (a9W c)) (Nat.gcd_pos_of_pos_left _ (a9W c));omega
  have e:x.neg=false:=by unfold mO at h;simp only[i,ne_eq,not_false_eq_true,decide_true,a9P,a8A] at h;simpa using h.1
  rw[if_neg c,e];simp[c]
structure Ie (l:cE):Prop where
 exit:∀ x∈l.exit,cS x=true
 row:∀ r∈l.a6C,∀ x∈r,cS x=true
structure oJ (C:Ctx):Prop extends UJ C where
 fresh:∀ (l:List (List UInt8)),l.length≤1000000→∀ (s:List UInt8) (w:PV) (H:PH),aN H [] [(w,1,mJ l)]→aH C 70 [w,.str s] H (fun r H'=>∃ B' L',fh l s r B' L'∧aN H' B' L')
theorem oJ.pos {C:Ctx} (L:oJ C) {x:RF} (c:x.Ok) (h:cS x=true):∃ n:Int,aH C 54 [.agg x.cells] .nil (aF (.int .i64 n))∧decide (n>0)=bG x:=⟨_,L.sign x c (qF h),awT h⟩
def zlF (l:cE) (o r i:Nat):PF:=(((((PF.nil.set 1 (.bH l.cells)).set 3 (.int .i64 (l.exit.length:Nat))).set 7 (.osl o 1 0 l.exit.length)).set 8 (.int .i64 r)).set 9 (.int .i64 i))
theorem aNG {C:Ctx} (L:oJ C) (l:cE) (o r i:Nat) (row:List RF) (Q:(l.a6C.map fun r=>[frs r])[i]?=some [frs row]) (J:jR row) (E:∀ x∈row,cS x=true) (X:row.length=l.exit.length) (hi:i<l.exit.length) (hn:l.exit.length≤4) (e:List Bool) (Z:e.length=l.exit.length) (K:bR) [Up K] (F:PF) (H:PH)
  (N:((zlF l o r i).set 10 (.int .i64 0)).le F) (M:(gY o e).le H)
  (W:K (.exit 6) (zlF l o r i) (gY o (cK e i row row.length))):aC.wp C (.loop MP) K F H:=by
 refine wp_loop (α:=Nat) (fun k=>(zlF l o r i).set 10 (.int .i64 k)) (fun k=>gY o (cK e i row k)) (fun k=>k≤row.length) (fun k=>row.length-k) 0 (a7P _) N M ?_;intro k hk;have V:=tH e i row k;have w:∀ h:k<row.length,cK e i row (k+1)=(cK e i row k).set i ((cK e i row k).getD i false||bG row[k]&&(cK e i row k).getD k false):=fun h=>by simp only[cK,a8B,a8H,a7W h,a8Y,baK]
 have fin:∀ (b:Bool) (F:PF) (H:PH),k<row.length→dJ (cK e i row (k+1))=(dJ (cK e i row k)).set i [.bool b]→((zlF l o r i).set 10 (.int .i64 (k+1:Nat))).le F→H o=some (.rows 1 ((dJ (cK e i row k)).set i [.bool b])) →
   fJ (fun k:Nat=>(zlF l o r i).set 10 (.int .i64 k)) (fun k=>gY o (cK e i row k)) (fun k=>k≤row.length) (fun k=>row.length-k) (row.length-k) K .normal F H:=by
  intro b F H hlt U N M;refine aD (k+1) hlt Om N ?_;rw[← U] at M;exact PH.aK a_ M
 unfold zlF gY at fin;simp only[go_sem,MP,Ve,zlF,gY];by_cases hlt:k<row.length
 ·have d:(k:Int)<(l.exit.length:Nat):=Om;have u:(i:Int)<(l.exit.length:Nat):=Om;have q:=rI (R:=cK e i row k) (i:=i) Om;have y:=rI (R:=cK e i row k) (i:=k) Om;have p:=w hlt;obtain⟨n,S,B⟩:=L.pos (J.all _ (a7L hlt)) (E _ (a7L hlt));have O:=jf hlt;generalize U:(cK e i row k).getD i false=b at *
  generalize hc:(cK e i row k).getD k false=c at *
  generalize Y:bG row[k]=A at *
  cases b with
  | true =>simp only[go_sem,d,ef,u,a8G,q,MQ,wZz k];exact fin true _ _ hlt (by rw[p,jX,Bool.true_or]) Lq Sq
  | false =>
   simp only[go_sem,d,ef,u,a8G,q,Q,O];refine aA S rfl ?_;cases A with
   | false =>simp only[go_sem,B,u,d,a8G,q,y,MQ,wZz k];exact fin false _ _ hlt (by rw[p,jX,Bool.false_or,a7R]) Lq Sq
   | true =>simp only[go_sem,B,u,d,a8G,q,y,MQ,wZz k];exact fin c _ _ hlt (by rw[p,jX,Bool.false_or,a7T]) Lq Sq
 ·have d:¬ (k:Int)<(l.exit.length:Nat):=Om;have:k=row.length:=Om;subst this;simp only[go_sem,d];refine Up.up ?_ W
  (repeat' (first|exact c_|refine d_ ?_ ?_))<;>first|(simp only[go_sem,zlF]<;>rfl)|rfl
theorem aNI {C:Ctx} (L:oJ C) (l:cE) (O:l.Ok) (J:AP l) (S:Ie l) (o r:Nat) (R:List Bool) (Z:R.length=l.exit.length) (K:bR) [Up K] (F:PF) (H:PH)
  (B:(zlF l o r 0).le F) (E:(gY o R).le H)
  (W:K (.exit 4) (zlF l o r l.exit.length) (gY o (cV l R l.exit.length))):aC.wp C (.loop dy) K F H:=by
 refine wp_loop (α:=Nat) (fun i=>zlF l o r i) (fun i=>gY o (cV l R i)) (fun i=>i≤l.exit.length) (fun i=>l.exit.length-i) 0 (a7P _) B E ?_;intro i hi;have Q:=qM l R i;have X:=J.n;simp only[go_sem,dy,Vd,zlF,gY];by_cases hlt:i<l.exit.length
 ·have c:(i:Int)<(l.exit.length:Nat):=Om;have e:i<l.a6C.length:=by rw[J.a6C]; exact hlt
  have q:=rI (R:=cV l R i) (i:=i) Om;have Y:=jf hlt;have y:(l.a6C.map fun r=>[frs r])[i]?=some [frs l.a6C[i]]:=by simp[e]
  have M:(l.a6C[i]).length=l.exit.length:=J.row _ (a7L e);generalize p:(cV l R i).set i ((cV l R i).getD i false||bG l.exit[i])=A;have w:A.length=l.exit.length:=by rw[← p,a9N]; omega
  have u:cV l R (i+1)=cK A i l.a6C[i] (l.a6C[i]).length:=by
   simp only[cV,kG];have U:(l.exit.map bG).getD i false=bG l.exit[i]:=by simp[a8B,hlt]
   have V:l.a6C.getD i []=l.a6C[i]:=by simp[a8B,e]
   rw[U,V,p]
  obtain⟨n,N,x⟩:=L.pos (O.exit.all _ (a7L hlt)) (S.exit _ (a7L hlt));have rest:∀ (F:PF) (H:PH),(zlF l o r i).le F→H o=some (.rows 1 (dJ A)) →
    aC.wp C (.seq (.region d9) (.block 6 (.loop MP))) (eX 5 (gG C (aC.wp C (.region el)) (fJ (fun i:Nat=>zlF l o r i) (fun i=>gY o (cV l R i)) (fun i=>i≤l.exit.length) (fun i=>l.exit.length-i) (l.exit.length-i) K))) F H:=by
   intro F H B E;refine xS _ (fun _ _ _ _ a b=>Up.up a b) B ?_;simp only[go_sem,d9];refine aNG L l o r i l.a6C[i] y (O.row _ (a7L e)) (S.row _ (a7L e)) M hlt X A w _ _ _ (by (repeat' (first|exact c_|refine d_ ?_ ?_))<;>first|(simp only[go_sem,zlF]<;>rfl)|rfl) (PH.aK a_ E) ?_;simp only[go_sem,zlF,el,wZz i];exact aD (i+1) hlt Om Lq (by rw[u]; exact b_)
  simp only[zlF,gY] at rest;have d:=rest;simp only[aC.wp,go_sem] at d;generalize hb:(cV l R i).getD i false=b at *
  cases b with
  | true =>simp only[go_sem,c,d8,c,a8G,q];refine d _ _ Lq ?_;rw[← p];simp only[go_sem,jX,Bool.true_or]
  | false =>simp only[go_sem,c,d8,c,a8G,q,Y];refine aA N rfl ?_;simp only[go_sem,c,a8G,q,x];refine d _ _ Lq ?_;rw[← p];simp only[go_sem,jX,Bool.false_or]
 ·have c:¬ (i:Int)<(l.exit.length:Nat):=Om;have:i=l.exit.length:=Om;subst this;simp only[go_sem,c];exact Up.up (by (repeat' (first|exact c_|refine d_ ?_ ?_))<;>first|(simp only[go_sem,zlF]<;>rfl)|rfl) W
theorem aNH {C:Ctx} (L:oJ C) (l:cE) (u:l.Ok) (e:AP l) (w:Ie l) (o:Nat) (K:bR) [Up K] (F:PF) (H:PH)
  (i:(((((PF.nil.set 1 (.bH l.cells)).set 3 (.int .i64 (l.exit.length:Nat))).set 7 (.osl o 1 0 l.exit.length)).set 8 (.int .i64 0)):PF).le F) (p:(gY o (cW l 0)).le H)
  (q:K (.exit 2) (((PF.nil.set 3 (.int .i64 (l.exit.length:Nat))).set 7 (.osl o 1 0 l.exit.length))) (gY o (cW l l.exit.length))):aC.wp C (.loop dz) K F H:=by
 have x:=e.n;refine wp_loop (α:=Nat) (fun r=>((((PF.nil.set 1 (.bH l.cells)).set 3 (.int .i64 (l.exit.length:Nat))).set 7 (.osl o 1 0 l.exit.length)).set 8 (.int .i64 r))) (fun r=>gY o (cW l r)) (fun r=>r≤l.exit.length) (fun r=>l.exit.length-r) 0 (a7P _) i p ?_;intro r y;have d:=qL l r;simp only[go_sem,dz,Vb];by_cases hlt:r<l.exit.length
 ·have c:(r:Int)<(l.exit.length:Nat):=Om;simp only[go_sem,c,Vc];refine aNI L l u e w o r (cW l r) d _ _ _ (by (repeat' (first|exact c_|refine d_ ?_ ?_))<;>first|(simp only[go_sem,zlF]<;>rfl)|rfl) b_ ?_;simp only[go_sem,zlF,Vf,wZz r];exact aD (r+1) hlt Om Lq b_
 ·have c:¬ (r:Int)<(l.exit.length:Nat):=Om;have:r=l.exit.length:=Om;subst this;simp only[go_sem,c];exact Up.up Lq q
theorem aXU {C:Ctx} (R:List Bool) (B:R.length≤4) (o:Nat) (X:Bool) (y:X=R.all id) (Q:PV→PH→Prop) (x:Q=aF (.bool X)) (F:PF) (H:PH)
  (u:((((PF.nil.set 3 (.int .i64 (R.length:Nat))).set 7 (.osl o 1 0 R.length)).set 11 (.int .i64 0)):PF).le F) (w:(gY o R).le H):aC.wp C (.loop d3) (eX 8 (gG C (aC.wp C (.seq (.region e7) .ret)) (aV [.tmp 2] Q))) F H:=by
 subst y x;refine wp_loop (α:=Nat) (fun k=>(((PF.nil.set 3 (.int .i64 (R.length:Nat))).set 7 (.osl o 1 0 R.length)).set 11 (.int .i64 k))) (fun _=>gY o R) (fun k=>k≤R.length∧(R.take k).all id=true) (fun k=>R.length-k) 0 ⟨a7P _,rfl⟩ u w ?_;rintro k ⟨E,l⟩;simp only[go_sem,d3,Vh,gY];by_cases hlt:k<R.length
 ·have c:(k:Int)<(R.length:Nat):=Om;have d:=rI (R:=R) (i:=k) hlt;have A:R.getD k false=R[k]:=by simp[a8B,hlt]
  rw[A] at d;cases e:R[k] with
  | false =>rw[e] at d;simp only[go_sem,c,ep,a8G,d,a7Z,Vi];refine aQ (.inr rfl) rfl ?_;rw[bP,pF hlt (p:=id) e]
  | true =>rw[e] at d;have q:=pE hlt l (p:=id) e;simp only[go_sem,c,ep,a8G,d,a7N,Vj,wZz k];exact aD (k+1) ⟨hlt,by simpa using a7Y.1 q⟩ Om Lq b_
 ·have c:¬ (k:Int)<(R.length:Nat):=Om;have:k=R.length:=Om;subst this;rw[a8K] at l;simp only[go_sem,c,e7];refine aQ (.inr rfl) rfl ?_;rw[bP,l]
def Marks (R S:List Bool):Prop:=R.length=S.length∧∀ j:Nat,R[j]?=some true→S[j]?=some true
theorem Marks.aWI (R:List Bool):Marks R R:=⟨rfl,fun _ h=>h⟩
theorem Marks.trans {R S T:List Bool} (h:Marks R S) (k:Marks S T):Marks R T:=⟨h.1.trans k.1,fun j a=>k.2 j (h.2 j a)⟩
theorem Oh (R:List Bool) (i:Nat) (b:Bool):Marks R (R.set i (R.getD i false||b)):=by
 refine⟨by rw[a9N],fun j h=>?_⟩;rw[List.getElem?_set];obtain⟨c,d⟩:=a8R.1 h;split
 ·rename_i e;subst e;rw[if_pos c,a8B,h];rfl
 ·exact h
theorem Au (R:List Bool) (i:Nat) (row:List RF):∀ k,Marks R (cK R i row k)
 | 0=>Marks.aWI R
 | k+1=>(Au R i row k).trans (Oh _ _ _)
theorem CX (l:cE) (R:List Bool):∀ i,Marks R (cV l R i)
 | 0=>Marks.aWI R
 | i+1=>(CX l R i).trans ((Oh _ _ _).trans (Au _ _ _ _))
theorem Oi:∀ {R S:List Bool},Marks R S→R≠S→R.count true<S.count true
 | [],[],_,h=>absurd rfl h
 | [],_::_,h,_=>by have:=h.1; simp at this
 | _::_,[],h,_=>by have:=h.1; simp at this
 | a::R,b::S,h,c=>by
  have d:a=true→b=true:=fun e=>by have:=h.2 0 (by rw[e]; rfl);simpa using this
  have l:Marks R S:=⟨by have:=h.1; simpa using this,fun j i=>by have:=h.2 (j+1) (by simpa using i); simpa using this⟩;by_cases e:R=S
  ·subst e;have:a≠b:=fun e=>c (by rw[e]);cases a<;>cases b<;>simp at this d ⊢
  ·have:=Oi l e;cases a<;>cases b<;>simp at d ⊢<;>omega
theorem gy:∀ {R:List Bool},R.length≤R.count true→R.all id=true
 | [],_=>rfl
 | a::R,h=>by
  have c:=List.count_le_length (a:=true) (l:=R);cases a with
  | true =>simp only[List.count_cons_self,a9A] at h;simp only[List.all_cons,id,a7T];exact gy Om
  | false =>simp at h;omega
theorem KN (l:cE) {s:Nat} (h:cW l (s+1)=cW l s):∀ d,cW l (s+d)=cW l s
 | 0=>rfl
 | d+1=>by show cV l (cW l (s+d)) l.exit.length=_;rw[KN l h d];exact h
theorem m5 (l:cE):∀ r,(∃ s,s<r∧cW l (s+1)=cW l s)∨r≤(cW l r).count true
 | 0=>.inr (a7P _)
 | r+1=>by
  rcases m5 l r with ⟨s,d,c⟩ | h
  ·exact .inl ⟨s,by omega,c⟩
  ·by_cases e:cW l (r+1)=cW l r
   ·exact .inl ⟨r,by omega,e⟩
   ·have:=Oi (CX l (cW l r) l.exit.length) (fun h=>e h.symm);exact .inr (by show r+1≤(cV l (cW l r) l.exit.length).count true; omega)
theorem aOZ (l:cE):oW l=(cW l l.exit.length).all id:=by
 unfold oW;rcases m5 l l.exit.length with ⟨s,y,e⟩ | h
 ·obtain⟨d,u⟩:∃ d,l.exit.length=s+d:=⟨l.exit.length-s,by omega⟩;rw[show l.exit.length+1=s+(d+1) by omega,u,KN l e,KN l e]
 ·have i:(cW l l.exit.length).all id=true:=gy (by rw[qL]; exact h);have q:Marks (cW l l.exit.length) (cW l (l.exit.length+1)):=CX l (cW l l.exit.length) l.exit.length;rw[i,a7Y];intro x w;obtain⟨j,p,rfl⟩:=a8U w;have c:j<(cW l l.exit.length).length:=by rw[q.1]; exact p
  have:=q.2 j (by rw[a7W c];have:=a7Y.1 i _ (a7L c);simpa using this);rw[a7W p] at this;simpa using this
def zsS (s:Bool):Spec:=fun name vs=>match name,vs with
 | 47,_=>some ([],fun _=>aF (.agg (mkT 1 1).cells))
 | 53,_=>some ([],fun _=>aF (.bool s))
 | _,_=>none
theorem aGA (l:cE):jZ l=(within l.start.length 1 4&&((decide ((l.start.length:Int)=l.start.length)&&l.start.all cS)&&((decide ((l.exit.length:Int)=l.start.length)&&l.exit.all cS)&&(decide (l.a6C.length=l.start.length)&&((a7J l.a6C.length).all (rN l)&&(uO l&&oW l)))))):=by
 rw[aaI,decide_eq_true (rfl:(l.start.length:Int)=l.start.length),a7T];have:decide (l.exit.length=l.start.length)=decide ((l.exit.length:Int)=l.start.length):=decide_eq_decide.2 Om;rw[this];cases within l.start.length 1 4<;>cases decide ((l.exit.length:Int)=l.start.length)<;>cases decide (l.a6C.length=l.start.length)<;>cases l.start.all cS<;>cases l.exit.all cS<;>simp[baL]
theorem Rz (l:cE) {i:Nat} (h:i<l.a6C.length):rN l i=((decide (((l.a6C[i]).length:Int)=l.start.length)&&(l.a6C[i]).all cS)&&!((l.a6C[i]).map bG).getD i false):=by
 unfold rN;have:l.a6C.getD i []=l.a6C[i]:=by simp[a8B,h]
 rw[this];have:decide ((l.a6C[i]).length=l.start.length)=decide (((l.a6C[i]).length:Int)=l.start.length):=decide_eq_decide.2 Om;rw[this]
theorem ahT {C:Ctx} (L:oJ C) (l:cE) (N:l.Ok):UB.wp C (aV aqW.res (aF (.bool (jZ l)))) (PF.args [.agg l.cells]) .nil:=by
 have c:=aGA l;have fail:∀ (F:PF) (H:PH),jZ l=false→F 2=some (.bool false)→aV [.tmp 2] (aF (.bool (jZ l))) .ret F H:=fun F H e h=>by rw[e];exact bA (vs:=[.bool false]) (.inr rfl) .nil (by simp only[go_sem,h]) a_ ⟨rfl,rfl⟩
 have e1:=L.smalls l.start N.start l.start.length;have e2:=L.smalls l.exit N.exit l.start.length;simp only[go_sem,UB,ahU,ahV,aqW,a7I,ahW];by_cases c1:(l.start.length:Int)<1
 ·simp only[go_sem,c1,yT];exact fail _ _ (by rw[c,show within l.start.length 1 4=false from by unfold within; rw[decide_eq_false Om,a7R],a7R]) rfl
 by_cases c2:(l.start.length:Int)>4
 ·simp only[go_sem,c1,c2,yT];exact fail _ _ (by rw[c,show within l.start.length 1 4=false from by unfold within; rw[decide_eq_false (Om:¬ (l.start.length:Int)≤4),a8Q],a7R]) rfl
 rw[show within l.start.length 1 4=true from by unfold within; rw[decide_eq_true (Om:(1:Int)≤(l.start.length:Nat)),decide_eq_true (Om:(l.start.length:Int)≤4)]; rfl,a7T] at c;simp only[go_sem,c1,c2];refine aA e1 rfl ?_;cases k1:(decide ((l.start.length:Int)=l.start.length)&&l.start.all cS) with
 | false =>rw[k1,a7R] at c;simp only[go_sem,a7Z,yT];exact fail _ _ c rfl
 | true =>
 rw[k1,a7T] at c;simp only[go_sem,a7N];refine aA e2 rfl ?_;cases k2:(decide ((l.exit.length:Int)=l.start.length)&&l.exit.all cS) with
 | false =>rw[k2,a7R] at c;simp only[go_sem,a7Z,yT];exact fail _ _ c rfl
 | true =>
 rw[k2,a7T] at c;rw[a8A,decide_eq_true_eq] at k2;have y:l.exit.length=l.start.length:=Om;have M:=a7Y.1 k2.2;by_cases c3:l.a6C.length=l.start.length
 case neg =>rw[decide_eq_false c3,a7R] at c;simp only[go_sem,a7N,a7I,dN (Om:(l.a6C.length:Int)≠(l.start.length:Nat)),yT];exact fail _ _ c rfl
 rw[decide_eq_true c3,a7T] at c;simp only[go_sem,a7N,a7I,cC (Om:(l.a6C.length:Int)=(l.start.length:Nat)),ahX];refine wp_loop (α:=Nat) (fun i=>(((PF.nil.set 1 (.bH l.cells)).set 3 (.int .i64 (l.start.length:Nat))).set 4 (.int .i64 i))) (fun _=>.nil) (fun i=>i≤l.start.length∧∀ j,j<i→rN l j=true) (fun i=>l.start.length-i) 0 ⟨a7P _,fun j h=>by omega⟩ Lq a_ ?_;rintro i ⟨hi,p⟩;simp only[go_sem,ahS,ahY];by_cases hlt:i<l.start.length
 ·have u:(i:Int)<(l.start.length:Nat):=Om;have w:i<l.a6C.length:=Om;have B:(l.a6C.map fun r=>[frs r])[i]?=some [frs l.a6C[i]]:=by simp[w]
  have V:=N.row _ (a7L w);have e3:=L.smalls l.a6C[i] V l.start.length;have d:=Rz l w;have O:rN l i=false→jZ l=false:=fun h=>by rw[c,show (a7J l.a6C.length).all (rN l)=false from List.all_eq_false.2 ⟨i,a8M.2 w,by simp[h]⟩,a7R]
  simp only[go_sem,u,ahZ,B];refine aA e3 rfl ?_;cases k3:(decide (((l.a6C[i]).length:Int)=l.start.length)&&(l.a6C[i]).all cS) with
  | false =>rw[k3,a7R] at d;simp only[go_sem,a7Z,xk];exact fail _ _ (O d) rfl
  | true =>
   rw[k3,a7T] at d;rw[a8A,decide_eq_true_eq] at k3;have θ:(l.a6C[i]).length=l.start.length:=Om;have E:i<(l.a6C[i]).length:=Om;have hm:=a7L E;have hs:=L.sign _ (V.all _ hm) (qF (a7Y.1 k3.2 _ hm));have hz:=LE (l.a6C[i])[i];have hg:((l.a6C[i]).map bG).getD i false=bG (l.a6C[i])[i]:=by simp[a8B,E]
   rw[hg] at d;have A:(rF (l.a6C[i])[i] != 0)=bG (l.a6C[i])[i]:=by rw[bne,hz,Bool.not_not]
   simp only[go_sem,a7N,B,jf E];refine aA hs rfl ?_;cases k4:bG (l.a6C[i])[i] with
   | true =>rw[k4] at d A;simp only[go_sem,A,xk];exact fail _ _ (O d) rfl
   | false =>
    rw[k4] at d A;simp only[go_sem,A,aiA,wZz i];exact aD (i+1) ⟨hlt,fun j Z=>by
     by_cases e:j=i
     ·rw[e]; exact d
     ·exact p j Om⟩ Om Lq b_
 ·have u:¬ (i:Int)<(l.start.length:Nat):=Om;have:i=l.start.length:=Om;subst this;have J:(a7J l.a6C.length).all (rN l)=true:=a7Y.2 fun j Z=>p j (by rw[← c3]; exact a8M.1 Z);rw[J,a7T] at c;have X:∀ r∈l.a6C,r.length=l.start.length∧∀ x∈r,cS x=true:=fun r U=>by obtain⟨j,Z,rfl⟩:=a8U U;have h:=p j Om;rw[Rz l Z,a8A,a8A,decide_eq_true_eq] at h;exact⟨by omega,a7Y.1 h.1.2⟩
  have S:Ie l:=⟨M,fun r U=>(X r U).2⟩;have R:AP l:=⟨by omega,by omega,fun r U=>by rw[(X r U).1,y]⟩;have Y:=L.sum l.start N.start.all N.start.fits;simp only[go_sem,u,U8];refine aA Y rfl ?_;cases Q:nH (l.start.map RF.v) with
  | error e =>
   have δ:=So Q;have:uO l=false:=by unfold uO; rw[Q]
   rw[this,a7R] at c;simp only[go_sem,frV];refine aR fun o ho=>?_;simp only[go_sem];refine bW .nil eT a_ ?_;simp only[go_sem,d6,dN δ,d7];exact fail _ _ c rfl
  | ok r =>
   have W:=aeP Q;have ζ:=oq Q;obtain⟨n,a,b⟩:=r;have h1:dB 1:=by unfold dB; omega
   have K:=L.same (FV.rf (n,a,b)) (mkT 1 1) W (FT 1 h1).1 (by unfold RF.valid FV.rf; simp only[aW]; exact ζ) (FT 1 h1).2;have hP:uO l=(pN (FV.rf (n,a,b)) (mkT 1 1)==0):=by unfold uO;rw[Q,FU];unfold pN FV.rf;simp only[aW,show (1:Int).natAbs=1 from rfl,show decide ((1:Int)<0)=false from rfl];by_cases h:pM n a b false 1 1=0<;>simp[h]
   simp only[go_sem,frV];refine aR fun o ho=>?_;have hH:aN (PH.nil.set o (.rows 3 [(FV.rf (n,a,b)).cells])) [(o,.rows 3 [(FV.rf (n,a,b)).cells])] []:=aN.nil.new (H:=PH.nil) rfl _;simp only[go_sem];refine bW (PH.nil.set o (.rows 3 [(FV.rf (n,a,b)).cells])) (zsS (pN (FV.rf (n,a,b)) (mkT 1 1)==0)) b_ ?_;simp only[go_sem,d6,cC (show (0:Int)=0 from rfl)];refine bN rfl (L.int 1 h1) rfl b_ ?_;simp only[go_sem];refine bN rfl K rfl b_ ?_;rw[← hP];cases hp:uO l with
   | false =>rw[hp,a7R] at c;simp only[go_sem,a7Z,d7];exact fail _ _ c rfl
   | true =>
    rw[hp,a7T,aOZ] at c;have β:(l.start.length:Int)*((1:Nat):Int)≤140737488355328:=Om;have γ:(l.start.length:Int)≤9223372036854775807:=Om;simp only[go_sem,a7N,U9,β,γ];refine aR fun q hq=>?_;simp only[go_sem,Va];have η:a7M l.start.length [PV.bool false]=dJ (cW l 0):=by rw[← y];simp[cW,dJ]
    rw[← y];refine aNH L l N R S q _ _ _ Lq ?_ ?_
    ·refine PH.aK a_ ?_;rw[cQ,y,η]
    simp only[go_sem,Vg];have ε:(cW l l.exit.length).length≤4:=by rw[qL]; omega
    refine aXU (cW l l.exit.length) ε q (jZ l) c _ rfl _ _ ?_ b_;rw[qL];exact Lq
structure pW (C:Ctx):Prop extends oJ C where
 law:∀ l:cE,l.Ok→aH C 68 [.agg l.cells] .nil (aF (.bool (jZ l)))
def okL (base ns:List (List UInt8)) (P:Nat→Bool) (i:Nat):Bool:=jG (base++ns.take i) (ns.getD i [])&&P i
theorem rH {p:Nat→Bool} (k:Nat) (b:Bool):(b&&(a7J (k+1)).all p)=((b&&(a7J k).all p)&&p k):=by
 rw[baU,List.all_append];cases (a7J k).all p<;>cases b<;>simp
theorem rG {p:Nat→Bool} {b:Bool} {i n:Nat} (hi:i≤n) (h:(b&&(a7J i).all p)=false):(b&&(a7J n).all p)=false:=by
 cases b with
 | false=>rfl
 | true =>rw[a7T] at h ⊢;obtain⟨x,e,c⟩:=List.all_eq_false.1 h;exact List.all_eq_false.2 ⟨x,a8M.2 (by have:=a8M.1 e; omega),c⟩
structure gX (H:PH) (w:PV) (base ns:List (List UInt8)) (c:Bool) (i:Nat):Prop where
 ex:∃ names,aN H [] [(w,1,mJ names)]∧(c=true→names=base++ns.take i)
section
variable {C:Ctx} {F:PF} {H:PH} {d:Option Nat} {K:PF→PH→Prop}
theorem gX.call (L:oJ C) {w:PV} {base ns:List (List UInt8)} {i:Nat} {B:List BX} {c:List (List UInt8)} (h:aN H B [(w,1,mJ c)]) (J:base.length≤1000) (hi:i≤1000) (u:c=base++ns.take i) (l:i<ns.length) {a b:Nat} (e:aP.evs F [.tmp a,.tmp b]=some [w,.str ns[i]])
  (y:∀ p H',aN H' B [(p,1,mJ (c++[ns[i]]))]→gX H' p base ns true (i+1)→K (F.put d (.tup [p,.bool (jG (base++ns.take i) (ns.getD i []))])) H'):iU C 70 [.tmp a,.tmp b] [] d K F H:=by
 refine ET (B1:=[]) (B2:=B) (L1:=[(w,1,mJ c)]) (L2:=[]) (Q:=fh c ns[i]) h (fun A E=>L.fresh c (by rw[u,a7Q,a8C]; omega) ns[i] w A E) e ?_;rintro r B' L' H' ⟨p,rfl,rfl,rfl⟩ x;have q:ns.getD i []=ns[i]:=by simp[a8B,l]
 rw[q,← u] at y;refine y p H' x ⟨c++[ns[i]],x.sub (List.nil_sublist _) (a9M.refl _),fun _=>?_⟩;rw[a9G l,← a8S,u]
end
theorem gX.xi {H:PH} {w:PV} {base ns:List (List UInt8)} {c:Bool} {i:Nat} (h:gX H w base ns true i):gX H w base ns c i:=by
 obtain⟨e,l,p⟩:=h.ex;exact⟨e,l,fun _=>p rfl⟩
def IQ (f:aE):Bool:=(a7J f.a6E.length).all (okL [] (f.a6E.map cE.name) fun i=>(f.a6E.map jZ).getD i false)
theorem aUE {C:Ctx} (L:pW C) (f:aE) (hf:f.Ok) (hs:f.a6E.length≤4) (K:bR) [Up K] (F:PF) (H:PH)
  (X:(((((((((PF.nil.set 1 (.bH f.cells)).set 3 (.aB)).set 4 (.aB)).set 5 (.aB)).set 6 (.aB)).set 7 (.aB)).set 8 (.bool true)).set 9 (.int .i64 0)):PF).le F)
  (Q:∀ H',K (.exit 0) (((((((PF.nil.set 1 (.bH f.cells)).set 4 (.aB)).set 5 (.aB)).set 6 (.aB)).set 7 (.aB)).set 8 (.bool (IQ f)))) H'):aC.wp C (.loop MS) K F H:=by
 obtain⟨ok,E⟩:∃ ok,okL [] (f.a6E.map cE.name) (fun i=>(f.a6E.map jZ).getD i false)=ok:=⟨_,rfl⟩;unfold IQ at Q;rw[E] at Q;refine wp_loop (α:=Nat × PV × PH) (fun s=>((((((((PF.nil.set 1 (.bH f.cells)).set 3 (s.2.1)).set 4 (.aB)).set 5 (.aB)).set 6 (.aB)).set 7 (.aB)).set 8 (.bool (true&&(a7J s.1).all ok))).set 9 (.int .i64 s.1))) (fun s=>s.2.2) (fun s=>s.1≤f.a6E.length∧gX s.2.2 s.2.1 [] (f.a6E.map cE.name) (true&&(a7J s.1).all ok) s.1) (fun s=>f.a6E.length-s.1)
  (0,.aB,H) ⟨a7P _,⟨[],aN.nil.nC 1,fun _=>rfl⟩⟩ X b_ ?_
 rintro⟨i,w,U⟩ ⟨hi,V⟩;simp only at hi V ⊢;have fin:∀ (b:Bool) (x:PV) (M:PF) (H':PH),i<f.a6E.length→(true&&(a7J (i+1)).all ok)=b→gX H' x [] (f.a6E.map cE.name) true (i+1) →
   (((((((((PF.nil.set 1 (.bH f.cells)).set 3 (x)).set 4 (.aB)).set 5 (.aB)).set 6 (.aB)).set 7 (.aB)).set 8 (.bool b)).set 9 (.int .i64 (i+1:Nat))):PF).le M →
   fJ (fun s:Nat × PV × PH=>((((((((PF.nil.set 1 (.bH f.cells)).set 3 (s.2.1)).set 4 (.aB)).set 5 (.aB)).set 6 (.aB)).set 7 (.aB)).set 8 (.bool (true&&(a7J s.1).all ok))).set 9 (.int .i64 s.1))) (fun s=>s.2.2) (fun s=>s.1≤f.a6E.length∧gX s.2.2 s.2.1 [] (f.a6E.map cE.name) (true&&(a7J s.1).all ok) s.1) (fun s=>f.a6E.length-s.1) (f.a6E.length-i) K .normal M H' :=
  fun b x M H' hlt Y O N=>aD (i+1,x,H') ⟨hlt,O.xi⟩ (by simp only; omega) (by simp only; rw[Y]; exact N) b_
 have l:=rH (p:=ok) i true;have u:(true&&(a7J i).all ok)=(true&&(a7J f.a6E.length).all ok)→K (.exit 0) (((((((PF.nil.set 1 (.bH f.cells)).set 4 (.aB)).set 5 (.aB)).set 6 (.aB)).set 7 (.aB)).set 8 (.bool (true&&(a7J i).all ok)))) U:=fun e=>by rw[e,a7T]; exact Q U
 have A:=fun h=>rG (p:=ok) (b:=true) hi h;generalize Z:(true&&(a7J i).all ok)=c at *
 simp only[go_sem,MS,Gj,a7I];by_cases hlt:i<f.a6E.length
 ·have q:(i:Int)<(f.a6E.length:Nat):=Om;cases c with
  | false =>simp only[go_sem,q];exact Up.up Lq (u (A rfl).symm)
  | true =>
   obtain⟨S,g1,g3⟩:=V.ex;have B:(f.a6E.map cE.cells)[i]?=some (f.a6E[i]).cells:=by simp[hlt]
   have R:i<(f.a6E.map cE.name).length:=by rw[a7I]; exact hlt
   have J:ok i=(jG ([]++(f.a6E.map cE.name).take i) ((f.a6E.map cE.name).getD i [])&&jZ f.a6E[i]):=by rw[← E];unfold okL;simp[a8B,hlt]
   have hl:=L.law _ (hf.law _ (a7L hlt));rw[J] at l;simp only[go_sem,q,Gk,B];refine gX.call L.tooJ (ns:=f.a6E.map cE.name) g1 (a7P _) Om (g3 rfl) R (by simp only[go_sem,a9D]) fun x H1 h1 y=>?_;generalize jG ([]++(f.a6E.map cE.name).take i) ((f.a6E.map cE.name).getD i [])=W at *
   cases W with
   | false =>simp only[go_sem,UD,UE,wZz i];exact fin false x _ _ hlt (l.trans rfl) y Lq
   | true =>simp only[go_sem,UD,B];refine aA hl rfl ?_;simp only[go_sem,UE,wZz i];exact fin _ x _ _ hlt (l.trans rfl) y Lq
 ·have q:¬ (i:Int)<(f.a6E.length:Nat):=Om;have:i=f.a6E.length:=Om;subst this;simp only[go_sem,q];exact Up.up Lq (u Z.symm)
theorem SZ {a b c d e f:Nat} (h:pR a b c d e f=true):a≤4∧b≤4∧c≤40∧d≤24∧e≤4∧f≤12:=by
 simp only[pR,a8A,decide_eq_true_eq] at h;omega
theorem rx {n:Nat} (h:n≤1000):IntKind.i64.wrap ((n:Int)-1)=(n:Int)-1:=wrap_i64 Om Om
def inS:Spec:=fun name vs=>match name,vs with
 | 76,[.int _ n,.int _ lo,.int _ hi]=>some ([],fun _=>aF (.bool (within n lo hi)))
 | _,_=>none
def vd (a6E:Nat) (m:cT):Bool:=within m.a6N 1 16&&(within m.port 1 64&&within m.law 0 ((a6E:Int)-1))
def Uq (pols:Nat) (v:eW):Bool:=within v.a6J 0 ((pols:Int)-1)
def yK (f:aE):Bool:=(a7J f.a5Y.length).all (okL [] (f.a5Y.map cT.name) fun i=>(f.a5Y.map (vd f.a6E.length)).getD i false)
theorem aDA {C:Ctx} (L:pW C) (f:aE) (hf:f.Ok) (hz:pR f.a6E.length f.a5Y.length f.a6A.length f.a5X.length f.a6B.length f.a5Z.length=true) (b:Bool) (K:bR) [Up K] (F:PF) (H:PH)
  (hF:((((((((PF.nil.set 1 (.bH f.cells)).set 4 (.aB)).set 5 (.aB)).set 6 (.aB)).set 7 (.aB)).set 8 (.bool b)).set 10 (.int .i64 0)):PF).le F)
  (R:∀ H',K (.exit 2) ((((((PF.nil.set 1 (.bH f.cells)).set 5 (.aB)).set 6 (.aB)).set 7 (.aB)).set 8 (.bool (b&&yK f)))) H'):aC.wp C (.loop MT) K F H:=by
 obtain⟨β,γ,δ,ε,ζ,η⟩:=SZ hz;obtain⟨ok,B⟩:∃ ok,okL [] (f.a5Y.map cT.name) (fun i=>(f.a5Y.map (vd f.a6E.length)).getD i false)=ok:=⟨_,rfl⟩;unfold yK at R;rw[B] at R;refine wp_loop (α:=Nat × PV × PH) (fun s=>(((((((PF.nil.set 1 (.bH f.cells)).set 4 (s.2.1)).set 5 (.aB)).set 6 (.aB)).set 7 (.aB)).set 8 (.bool (b&&(a7J s.1).all ok))).set 10 (.int .i64 s.1))) (fun s=>s.2.2) (fun s=>s.1≤f.a5Y.length∧gX s.2.2 s.2.1 [] (f.a5Y.map cT.name) (b&&(a7J s.1).all ok) s.1) (fun s=>f.a5Y.length-s.1)
  (0,.aB,H) ⟨a7P _,⟨[],aN.nil.nC 1,fun _=>rfl⟩⟩ (by
   have e:(b&&(a7J 0).all ok)=b:=by cases b<;>rfl
   simp only[e];exact hF) b_ ?_
 rintro⟨i,w,M⟩ ⟨hi,X⟩;simp only at hi X ⊢;have fin:∀ (c:Bool) (u:PV) (J:PF) (H':PH),i<f.a5Y.length→(b&&(a7J (i+1)).all ok)=c→gX H' u [] (f.a5Y.map cT.name) true (i+1) →
   ((((((((PF.nil.set 1 (.bH f.cells)).set 4 (u)).set 5 (.aB)).set 6 (.aB)).set 7 (.aB)).set 8 (.bool c)).set 10 (.int .i64 (i+1:Nat))):PF).le J →
   fJ (fun s:Nat × PV × PH=>(((((((PF.nil.set 1 (.bH f.cells)).set 4 (s.2.1)).set 5 (.aB)).set 6 (.aB)).set 7 (.aB)).set 8 (.bool (b&&(a7J s.1).all ok))).set 10 (.int .i64 s.1))) (fun s=>s.2.2) (fun s=>s.1≤f.a5Y.length∧gX s.2.2 s.2.1 [] (f.a5Y.map cT.name) (b&&(a7J s.1).all ok) s.1) (fun s=>f.a5Y.length-s.1) (f.a5Y.length-i) K .normal J H' :=
  fun c u J H' hlt hb Q O=>aD (i+1,u,H') ⟨hlt,Q.xi⟩ (by simp only; omega) (by simp only; rw[hb]; exact O) b_
 have d:=rH (p:=ok) i b;have x:(b&&(a7J i).all ok)=(b&&(a7J f.a5Y.length).all ok)→K (.exit 2) ((((((PF.nil.set 1 (.bH f.cells)).set 5 (.aB)).set 6 (.aB)).set 7 (.aB)).set 8 (.bool (b&&(a7J i).all ok)))) M:=fun e=>by rw[e]; exact R M
 have A:=fun h=>rG (p:=ok) (b:=b) hi h;generalize hc:(b&&(a7J i).all ok)=c at *
 simp only[go_sem,MT,sx,a7I];by_cases hlt:i<f.a5Y.length
 ·have l:(i:Int)<(f.a5Y.length:Nat):=Om;cases c with
  | false =>simp only[go_sem,l];exact Up.up Lq (x (A rfl).symm)
  | true =>
   obtain⟨W,g1,g3⟩:=X.ex;have S:(f.a5Y.map cT.cells)[i]?=some (f.a5Y[i]).cells:=by simp[hlt]
   have U:i<(f.a5Y.map cT.name).length:=by rw[a7I]; exact hlt
   have E:ok i=(jG ([]++(f.a5Y.map cT.name).take i) ((f.a5Y.map cT.name).getD i [])&&(vd f.a6E.length) f.a5Y[i]):=by rw[← B];unfold okL;simp[a8B,hlt]
   rw[E] at d;have y:vd f.a6E.length f.a5Y[i]=(within (f.a5Y[i]).a6N 1 16&&(within (f.a5Y[i]).port 1 64&&within (f.a5Y[i]).law 0 ((f.a6E.length:Int)-1))):=rfl;rw[y] at d;simp only[go_sem,l,sy,S];refine aR fun o ho=>?_;have g4:=g1.new ho (.rows 4 [(f.a5Y[i]).cells]);have Z:=g4.at 0 rfl;simp only[go_sem];generalize M.set o (.rows 4 [(f.a5Y[i]).cells])=H2 at *
   simp only[go_sem,s7,Z];refine gX.call L.tooJ (ns:=(f.a5Y.map cT.name)) g4 (a7P _) Om (g3 rfl) U (by simp only[go_sem,a9D]) fun u H1 h1 q=>?_;have N:=h1.at 0 rfl;generalize jG ([]++(f.a5Y.map cT.name).take i) ((f.a5Y.map cT.name).getD i [])=Y at *
   cases Y with
   | false =>simp only[go_sem,MV,tQ,wZz i];exact fin false u _ _ hlt (d.trans rfl) q Lq
   | true =>
    simp only[go_sem,MV,N];refine aA (L.inn (f.a5Y[i]).a6N 1 16) rfl ?_;cases V:within (f.a5Y[i]).a6N 1 16 with
    | false =>simp only[go_sem,tQ,wZz i];exact fin false u _ _ hlt (by rw[d,V]<;>simp) q Lq
    | true =>
     simp only[go_sem,N];refine aA (L.inn (f.a5Y[i]).port 1 64) rfl ?_;cases k1:within (f.a5Y[i]).port 1 64 with
     | false =>simp only[go_sem,tQ,wZz i];exact fin false u _ _ hlt (by rw[d,V,k1]<;>simp) q Lq
     | true =>simp only[go_sem,N,a7I,rx (Om:f.a6E.length≤1000)];refine aA (L.inn (f.a5Y[i]).law 0 ((f.a6E.length:Int)-1)) rfl ?_;simp only[go_sem,tQ,wZz i];exact fin _ u _ _ hlt (by rw[d,V,k1]<;>simp) q Lq
 ·have l:¬ (i:Int)<(f.a5Y.length:Nat):=Om;have:i=f.a5Y.length:=Om;subst this;simp only[go_sem,l];exact Up.up Lq (x hc.symm)
def Hw (f:aE):Bool:=(a7J f.a5Z.length).all (okL [] (f.a5Z.map eW.name) fun i=>(f.a5Z.map (Uq f.a6B.length)).getD i false)
theorem aUG {C:Ctx} (L:pW C) (f:aE) (hf:f.Ok) (hz:pR f.a6E.length f.a5Y.length f.a6A.length f.a5X.length f.a6B.length f.a5Z.length=true) (b:Bool) (K:bR) [Up K] (F:PF) (H:PH)
  (X:(((((PF.nil.set 1 (.bH f.cells)).set 7 (.aB)).set 8 (.bool b)).set 21 (.int .i64 0)):PF).le F)
  (Q:∀ H',K (.exit 14) (((PF.nil.set 1 (.bH f.cells)).set 8 (.bool (b&&Hw f)))) H'):aC.wp C (.loop xX) K F H:=by
 obtain⟨β,γ,δ,ε,ζ,η⟩:=SZ hz;obtain⟨ok,E⟩:∃ ok,okL [] (f.a5Z.map eW.name) (fun i=>(f.a5Z.map (Uq f.a6B.length)).getD i false)=ok:=⟨_,rfl⟩;unfold Hw at Q;rw[E] at Q;refine wp_loop (α:=Nat × PV × PH) (fun s=>((((PF.nil.set 1 (.bH f.cells)).set 7 (s.2.1)).set 8 (.bool (b&&(a7J s.1).all ok))).set 21 (.int .i64 s.1))) (fun s=>s.2.2) (fun s=>s.1≤f.a5Z.length∧gX s.2.2 s.2.1 [] (f.a5Z.map eW.name) (b&&(a7J s.1).all ok) s.1) (fun s=>f.a5Z.length-s.1)
  (0,.aB,H) ⟨a7P _,⟨[],aN.nil.nC 1,fun _=>rfl⟩⟩ (by
   have e:(b&&(a7J 0).all ok)=b:=by cases b<;>rfl
   simp only[e];exact X) b_ ?_
 rintro⟨i,w,U⟩ ⟨hi,V⟩;simp only at hi V ⊢;have fin:∀ (c:Bool) (x:PV) (M:PF) (H':PH),i<f.a5Z.length→(b&&(a7J (i+1)).all ok)=c→gX H' x [] (f.a5Z.map eW.name) true (i+1) →
   (((((PF.nil.set 1 (.bH f.cells)).set 7 (x)).set 8 (.bool c)).set 21 (.int .i64 (i+1:Nat))):PF).le M →
   fJ (fun s:Nat × PV × PH=>((((PF.nil.set 1 (.bH f.cells)).set 7 (s.2.1)).set 8 (.bool (b&&(a7J s.1).all ok))).set 21 (.int .i64 s.1))) (fun s=>s.2.2) (fun s=>s.1≤f.a5Z.length∧gX s.2.2 s.2.1 [] (f.a5Z.map eW.name) (b&&(a7J s.1).all ok) s.1) (fun s=>f.a5Z.length-s.1) (f.a5Z.length-i) K .normal M H' :=
  fun c x M H' hlt Y O N=>aD (i+1,x,H') ⟨hlt,O.xi⟩ (by simp only; omega) (by simp only; rw[Y]; exact N) b_
 have d:=rH (p:=ok) i b;have q:(b&&(a7J i).all ok)=(b&&(a7J f.a5Z.length).all ok)→K (.exit 14) (((PF.nil.set 1 (.bH f.cells)).set 8 (.bool (b&&(a7J i).all ok)))) U:=fun e=>by rw[e]; exact Q U
 have A:=fun h=>rG (p:=ok) (b:=b) hi h;generalize Z:(b&&(a7J i).all ok)=c at *
 simp only[go_sem,xX,tt,a7I];by_cases hlt:i<f.a5Z.length
 ·have l:(i:Int)<(f.a5Z.length:Nat):=Om;cases c with
  | false =>simp only[go_sem,l];exact Up.up Lq (q (A rfl).symm)
  | true =>
   obtain⟨S,g1,g3⟩:=V.ex;have B:(f.a5Z.map eW.cells)[i]?=some (f.a5Z[i]).cells:=by simp[hlt]
   have R:i<(f.a5Z.map eW.name).length:=by rw[a7I]; exact hlt
   have J:ok i=(jG ([]++(f.a5Z.map eW.name).take i) ((f.a5Z.map eW.name).getD i [])&&(Uq f.a6B.length) f.a5Z[i]):=by rw[← E];unfold okL;simp[a8B,hlt]
   rw[J] at d;have u:Uq f.a6B.length f.a5Z[i]=within (f.a5Z[i]).a6J 0 ((f.a6B.length:Int)-1):=rfl;rw[u] at d;simp only[go_sem,l,tu,B];refine gX.call L.tooJ (ns:=(f.a5Z.map eW.name)) g1 (a7P _) Om (g3 rfl) R (by simp only[go_sem,a9D]) fun x H1 h1 y=>?_;generalize jG ([]++(f.a5Z.map eW.name).take i) ((f.a5Z.map eW.name).getD i [])=W at *
   cases W with
   | false =>simp only[go_sem];refine bW .nil (inS) a_ ?_;simp only[go_sem,NH,NI,wZz i];exact fin false x _ _ hlt (d.trans rfl) y Lq
   | true =>simp only[go_sem];refine bW .nil (inS) a_ ?_;simp only[go_sem,NH,B,a7I,rx (Om:f.a6B.length≤1000)];refine bN rfl (L.inn (f.a5Z[i]).a6J 0 ((f.a6B.length:Int)-1)) rfl a_ ?_;simp only[go_sem,NI,wZz i];exact fin _ x _ _ hlt (d.trans rfl) y Lq
 ·have l:¬ (i:Int)<(f.a5Z.length:Nat):=Om;have:i=f.a5Z.length:=Om;subst this;simp only[go_sem,l];exact Up.up Lq (q Z.symm)
def alC:Spec:=fun name vs=>match name,vs with
 | 76,[.int _ n,.int _ lo,.int _ hi]=>some ([],fun _=>aF (.bool (within n lo hi)))
 | 74,[.agg cs]=>some ([],fun _=>aF (.bool (cS (frD cs))))
 | _,_=>none
theorem alD (x:RF):alC 74 [.agg x.cells]=some ([],fun _=>aF (.bool (cS x))):=by
 show some ([],fun _=>aF (.bool (cS (frD x.cells))))=_;rw[zg]
def J3 (f:aE) (i:Nat) (d:cD):Bool :=
 within d.level 1 4&&(within d.parent 0 i&&(((f.a6A.map cD.level).getD d.parent.toNat 0==IntKind.i64.wrap (d.level-1))&&(within d.a6R 1 64&&cS d.a6M)))
theorem aOV (f:aE) (i:Nat) (d:cD):HK f i d=J3 f i d:=by
 unfold HK J3;have:decide ((f.a6A.map cD.level).getD d.parent.toNat 0=IntKind.i64.wrap (d.level-1))=((f.a6A.map cD.level).getD d.parent.toNat 0==IntKind.i64.wrap (d.level-1)):=by generalize (f.a6A.map cD.level).getD d.parent.toNat 0=u;by_cases h:u=IntKind.i64.wrap (d.level-1)<;>simp[h]
 rw[this];cases within d.parent 0 i<;>cases within d.level 1 4<;>cases within d.a6R 1 64<;>simp
def gS (f:aE):List (List UInt8):=(f.a6A.drop 1).map cD.name
def wU (f:aE) (i:Nat):Bool:=match f.a6A[i+1]? with
 | some d=>J3 f i d
 | none=>false
def wV (f:aE):Bool:=(a7J (f.a6A.length-1)).all (okL [] (gS f) (wU f))
theorem J2 (f:aE):(gS f).length=f.a6A.length-1:=by simp[gS]
theorem aUD {C:Ctx} (L:pW C) (f:aE) (hf:f.Ok) (μ:f.a6A.length≤40) (h0:0<f.a6A.length) (b:Bool) (K:bR) [Up K] (F:PF) (H:PH)
  (hF:(((((((PF.nil.set 1 (.bH f.cells)).set 5 (.aB)).set 6 (.aB)).set 7 (.aB)).set 8 (.bool b)).set 13 (.int .i64 1)):PF).le F)
  (V:∀ w H',gX H' w [] (gS f) (b&&wV f) (f.a6A.length-1)→K (.exit 4) ((((((PF.nil.set 1 (.bH f.cells)).set 5 (w)).set 6 (.aB)).set 7 (.aB)).set 8 (.bool (b&&wV f)))) H'):aC.wp C (.loop xT) K F H:=by
 obtain⟨ok,O⟩:∃ ok,okL [] (gS f) (wU f)=ok:=⟨_,rfl⟩;unfold wV at V;rw[O] at V;obtain⟨n,hn⟩:∃ n,f.a6A.length=n+1:=⟨f.a6A.length-1,by omega⟩;have η:=J2 f;have ζ:f.a6A.length-1=n:=Om;rw[ζ] at V η;refine wp_loop (α:=Nat × PV × PH) (fun s=>((((((PF.nil.set 1 (.bH f.cells)).set 5 (s.2.1)).set 6 (.aB)).set 7 (.aB)).set 8 (.bool (b&&(a7J s.1).all ok))).set 13 (.int .i64 (s.1+1:Nat)))) (fun s=>s.2.2) (fun s=>s.1≤n∧gX s.2.2 s.2.1 [] (gS f) (b&&(a7J s.1).all ok) s.1) (fun s=>n-s.1)
  (0,.aB,H) ⟨a7P _,⟨[],aN.nil.nC 1,fun _=>rfl⟩⟩ (by
   have e:(b&&(a7J 0).all ok)=b:=by cases b<;>rfl
   simp only[e];exact hF) b_ ?_
 rintro⟨i,w,X⟩ ⟨hi,Z⟩;simp only at hi Z ⊢;have fin:∀ (c:Bool) (y:PV) (W:PF) (H':PH),i<n→(b&&(a7J (i+1)).all ok)=c→gX H' y [] (gS f) true (i+1) →
   (((((((PF.nil.set 1 (.bH f.cells)).set 5 (y)).set 6 (.aB)).set 7 (.aB)).set 8 (.bool c)).set 13 (.int .i64 (i+1+1:Nat))):PF).le W →
   fJ (fun s:Nat × PV × PH=>((((((PF.nil.set 1 (.bH f.cells)).set 5 (s.2.1)).set 6 (.aB)).set 7 (.aB)).set 8 (.bool (b&&(a7J s.1).all ok))).set 13 (.int .i64 (s.1+1:Nat)))) (fun s=>s.2.2) (fun s=>s.1≤n∧gX s.2.2 s.2.1 [] (gS f) (b&&(a7J s.1).all ok) s.1) (fun s=>n-s.1) (n-i) K .normal W H' :=
  fun c y W H' hlt hb β Y=>aD (i+1,y,H') ⟨hlt,β.xi⟩ (by simp only; omega) (by simp only; rw[hb]; exact Y) b_
 have d:=rH (p:=ok) i b;have M:=fun h=>rG (p:=ok) (b:=b) hi h;have B:(b&&(a7J i).all ok)=(b&&(a7J n).all ok)→((b&&(a7J i).all ok)=true→i=n)→K (.exit 4) ((((((PF.nil.set 1 (.bH f.cells)).set 5 (w)).set 6 (.aB)).set 7 (.aB)).set 8 (.bool (b&&(a7J i).all ok)))) X:=fun e e2=>by
  obtain⟨x,g1,g3⟩:=Z.ex;have:=V w X ⟨x,g1,fun h=>by have h':=e.trans h;rw[g3 h',e2 h']⟩
  rwa [← e] at this
 generalize hc:(b&&(a7J i).all ok)=c at *
 simp only[go_sem,xT,s9,a7I];by_cases hlt:i<n
 ·have q:((i+1:Nat):Int)<(f.a6A.length:Nat):=Om;cases c with
  | false =>simp only[go_sem,q];exact Up.up Lq (B (M rfl).symm (fun h=>by cases h))
  | true =>
   obtain⟨x,g1,g3⟩:=Z.ex;have E:i+1<f.a6A.length:=Om;have γ:=fG E;have ε:i<(gS f).length:=Om;have θ:(gS f)[i]=(f.a6A[i+1]).name:=by simp[gS,Nat.add_comm]
   have Q:ok i=(jG ([]++(gS f).take i) ((gS f).getD i [])&&J3 f i f.a6A[i+1]):=by rw[← O];unfold okL wU;rw[a7W E]
   have δ:=hf.dom _ (a7L E);rw[Q] at d;unfold J3 at d;have e1:IntKind.i64.wrap (((i+1:Nat):Int)-1)=(i:Nat):=by rw[wrap_i64 Om Om]; omega
   have l:IntKind.i64.wrap (((i+1:Nat):Int)+1)=((i+1+1:Nat):Int):=cZ Om;have κ:=L.small _ δ.1;simp only[go_sem,q,ta,γ];refine aR fun o ho=>?_;have g4:=g1.new ho (.rows 7 [(f.a6A[i+1]).cells]);have g5:=g4.at 0 rfl;simp only[go_sem];generalize X.set o (.rows 7 [(f.a6A[i+1]).cells])=H2 at *
   simp only[go_sem,tc,g5];refine gX.call L.tooJ (ns:=gS f) g4 (a7P _) Om (g3 rfl) ε (by simp only[go_sem,θ]) fun y H1 h1 u=>?_;have J:=h1.at 0 rfl;generalize jG ([]++(gS f).take i) ((gS f).getD i [])=fb at *
   generalize hd:f.a6A[i+1]=A at *
   cases fb with
   | false =>simp only[go_sem];refine bW .nil alC a_ ?_;simp only[go_sem,MY,oE,l];exact fin false y _ _ hlt (d.trans rfl) u Lq
   | true =>
    simp only[go_sem];refine bW .nil alC a_ ?_;simp only[go_sem,MY,J];refine bN rfl (L.inn A.level 1 4) rfl a_ ?_;cases U:within A.level 1 4 with
    | false =>simp only[go_sem,oE,l];exact fin false y _ _ hlt (by rw[d,U]<;>simp) u Lq
    | true =>
     simp only[go_sem,J,e1];refine bN rfl (L.inn A.parent 0 (i:Nat)) rfl a_ ?_;cases k1:within A.parent 0 (i:Nat) with
     | false =>simp only[go_sem,oE,l];exact fin false y _ _ hlt (by rw[d,U,k1]<;>simp) u Lq
     | true =>
      obtain⟨p0,p1⟩:=within_iff.1 k1;obtain⟨p,hp⟩:∃ p:Nat,A.parent=p:=⟨A.parent.toNat,by omega⟩;have S:p<f.a6A.length:=Om;obtain⟨lv,N⟩:∃ lv,(f.a6A.map cD.level).getD A.parent.toNat 0=lv:=⟨_,rfl⟩;have ι:(f.a6A[p]).level=lv:=by rw[← N,hp,a9C,getD_at S]
      rw[N] at d;have R:=fG S;simp only[go_sem,J,hp,R,ι];cases k2:lv==IntKind.i64.wrap (A.level-1) with
      | false =>simp only[go_sem,oE,l];exact fin false y _ _ hlt (by rw[d,U,k1,k2]<;>simp) u Lq
      | true =>
       simp only[go_sem,J];refine bN rfl (L.inn A.a6R 1 64) rfl a_ ?_;cases k3:within A.a6R 1 64 with
       | false =>simp only[go_sem,oE,l];exact fin false y _ _ hlt (by rw[d,U,k1,k2,k3]<;>simp) u Lq
       | true =>simp only[go_sem,J];refine bN (alD _) κ rfl a_ ?_;simp only[go_sem,oE,l];exact fin _ y _ _ hlt (by rw[d,U,k1,k2,k3]<;>simp) u Lq
 ·have q:¬ ((i+1:Nat):Int)<(f.a6A.length:Nat):=Om;have:i=n:=Om;subst this;simp only[go_sem,q];exact Up.up Lq (B hc.symm (fun _=>rfl))
def J6 (f:aE) (d:dH):Bool:=within d.model 0 ((f.a5Y.length:Int)-1)&&(within d.machine 0 ((f.a6A.length:Int)-1)&&((f.a6A.map cD.level).getD d.machine.toNat 0==4))
def lP (f:aE):List (List UInt8):=f.a5X.map dH.name
def uT (f:aE) (i:Nat):Bool:=match f.a5X[i]? with
 | some d=>J6 f d
 | none=>false
def yB (f:aE):Bool:=(a7J f.a5X.length).all (okL (gS f) (lP f) (uT f))
theorem aCZ {C:Ctx} (L:pW C) (f:aE) (hf:f.Ok) (ι:f.a6A.length≤40) (h0:0<f.a6A.length) (κ:f.a5X.length≤24) (θ:f.a5Y.length≤4) (b:Bool) (w0:PV) (K:bR) [Up K] (F:PF) (H:PH)
  (Z:gX H w0 [] (gS f) b (f.a6A.length-1)) (hF:(((((((PF.nil.set 1 (.bH f.cells)).set 5 (w0)).set 6 (.aB)).set 7 (.aB)).set 8 (.bool b)).set 15 (.int .i64 0)):PF).le F)
  (S:∀ H',K (.exit 6) (((((PF.nil.set 1 (.bH f.cells)).set 6 (.aB)).set 7 (.aB)).set 8 (.bool (b&&yB f)))) H'):aC.wp C (.loop xU) K F H:=by
 obtain⟨ok,N⟩:∃ ok,okL (gS f) (lP f) (uT f)=ok:=⟨_,rfl⟩;unfold yB at S;rw[N] at S;obtain⟨n,hn⟩:∃ n,f.a5X.length=n:=⟨_,rfl⟩;have ζ:=J2 f;have η:(lP f).length=n:=by simp[lP,hn]
 rw[hn] at S;refine wp_loop (α:=Nat × PV × PH) (fun s=>((((((PF.nil.set 1 (.bH f.cells)).set 5 (s.2.1)).set 6 (.aB)).set 7 (.aB)).set 8 (.bool (b&&(a7J s.1).all ok))).set 15 (.int .i64 s.1))) (fun s=>s.2.2) (fun s=>s.1≤n∧gX s.2.2 s.2.1 (gS f) (lP f) (b&&(a7J s.1).all ok) s.1) (fun s=>n-s.1)
  (0,w0,H) ⟨a7P _,by
   obtain⟨u,q1,q2⟩:=Z.ex;have e:(b&&(a7J 0).all ok)=b:=by cases b<;>rfl
   refine⟨u,q1,fun h=>?_⟩;simp only[e] at h;rw[q2 h,List.nil_append,a8D Om];simp⟩ (by
   have e:(b&&(a7J 0).all ok)=b:=by cases b<;>rfl
   simp only[e];exact hF) b_ ?_
 rintro⟨i,w,V⟩ ⟨hi,hG⟩;simp only at hi hG ⊢;have fin:∀ (c:Bool) (y:PV) (U:PF) (H':PH),i<n→(b&&(a7J (i+1)).all ok)=c→gX H' y (gS f) (lP f) true (i+1) →
   (((((((PF.nil.set 1 (.bH f.cells)).set 5 (y)).set 6 (.aB)).set 7 (.aB)).set 8 (.bool c)).set 15 (.int .i64 (i+1:Nat))):PF).le U →
   fJ (fun s:Nat × PV × PH=>((((((PF.nil.set 1 (.bH f.cells)).set 5 (s.2.1)).set 6 (.aB)).set 7 (.aB)).set 8 (.bool (b&&(a7J s.1).all ok))).set 15 (.int .i64 s.1))) (fun s=>s.2.2) (fun s=>s.1≤n∧gX s.2.2 s.2.1 (gS f) (lP f) (b&&(a7J s.1).all ok) s.1) (fun s=>n-s.1) (n-i) K .normal U H' :=
  fun c y U H' hlt hb Y X=>aD (i+1,y,H') ⟨hlt,Y.xi⟩ (by simp only; omega) (by simp only; rw[hb]; exact X) b_
 have d:=rH (p:=ok) i b;have E:=fun h=>rG (p:=ok) (b:=b) hi h;have A:(b&&(a7J i).all ok)=(b&&(a7J n).all ok)→K (.exit 6) (((((PF.nil.set 1 (.bH f.cells)).set 6 (.aB)).set 7 (.aB)).set 8 (.bool (b&&(a7J i).all ok)))) V:=fun e=>by rw[e]; exact S V
 generalize hc:(b&&(a7J i).all ok)=c at *
 simp only[go_sem,xU,td,a7I];by_cases hlt:i<n
 ·have l:((i:Nat):Int)<(f.a5X.length:Nat):=Om;cases c with
  | false =>simp only[go_sem,l];exact Up.up Lq (A (E rfl).symm)
  | true =>
   obtain⟨u,g1,g3⟩:=hG.ex;have J:i<f.a5X.length:=Om;have β:=pK J;have γ:i<(lP f).length:=Om;have δ:(lP f)[i]=(f.a5X[i]).name:=by simp[lP]
   have O:ok i=(jG (gS f++(lP f).take i) ((lP f).getD i [])&&J6 f f.a5X[i]):=by rw[← N];unfold okL uT;rw[a7W J]
   rw[O] at d;unfold J6 at d;have q:IntKind.i64.wrap ((i:Int)+1)=((i+1:Nat):Int):=cZ Om;have e1:=rx (Om:f.a5Y.length≤1000);have e2:=rx (Om:f.a6A.length≤1000);simp only[go_sem,l,te,β];refine aR fun o ho=>?_;have g4:=g1.new ho (.rows 3 [(f.a5X[i]).cells]);have g5:=g4.at 0 rfl;simp only[go_sem];generalize V.set o (.rows 3 [(f.a5X[i]).cells])=H2 at *
   simp only[go_sem,tf,g5];refine gX.call L.tooJ (base:=gS f) (ns:=lP f) g4 Om Om (g3 rfl) γ (by simp only[go_sem,δ]) fun y H1 h1 x=>?_;have W:=h1.at 0 rfl;generalize jG (gS f++(lP f).take i) ((lP f).getD i [])=fb at *
   generalize hd:f.a5X[i]=B at *
   cases fb with
   | false =>simp only[go_sem,NA,tR,q];exact fin false y _ _ hlt (d.trans rfl) x Lq
   | true =>
    simp only[go_sem,NA,W,a7I,e1];refine aA (L.inn B.model 0 ((f.a5Y.length:Int)-1)) rfl ?_;cases k0:within B.model 0 ((f.a5Y.length:Int)-1) with
    | false =>simp only[go_sem,tR,q];exact fin false y _ _ hlt (by rw[d,k0]<;>simp) x Lq
    | true =>
     simp only[go_sem,W,a7I,e2];refine aA (L.inn B.machine 0 ((f.a6A.length:Int)-1)) rfl ?_;cases k1:within B.machine 0 ((f.a6A.length:Int)-1) with
     | false =>simp only[go_sem,tR,q];exact fin false y _ _ hlt (by rw[d,k0,k1]<;>simp) x Lq
     | true =>
      obtain⟨p0,p1⟩:=within_iff.1 k1;obtain⟨p,hp⟩:∃ p:Nat,B.machine=p:=⟨B.machine.toNat,by omega⟩;have R:p<f.a6A.length:=Om;obtain⟨lv,M⟩:∃ lv,(f.a6A.map cD.level).getD B.machine.toNat 0=lv:=⟨_,rfl⟩;have ε:(f.a6A[p]).level=lv:=by rw[← M,hp,a9C,getD_at R]
      rw[M] at d;have Q:=fG R;simp only[go_sem,W,hp,Q,ε,tR,q];exact fin _ y _ _ hlt (by rw[d,k0,k1]<;>simp) x Lq
 ·have l:¬ ((i:Nat):Int)<(f.a5X.length:Nat):=Om;have:i=n:=Om;subst this;simp only[go_sem,l];exact Up.up Lq (A hc.symm)
theorem aw {xs:List Int} {k:Nat} (h:k<xs.length):(xs.map fun x=>[PV.int .i64 x])[k]?=some [.int .i64 xs[k]]:=by simp[h]
def zpF (f:aE) (w:PV) (o i:Nat) (c:Bool) (j:Nat):PF:=(((((((PF.nil.set 1 (.bH f.cells)).set 6 (w)).set 7 (.aB)).set 8 (.bool c)).set 17 (.int .i64 i)).set 18 (.ptr o 17 0 0)).set 19 (.int .i64 j))
theorem aNJ {C:Ctx} (f:aE) (w:PV) (o i:Nat) (p:bS) (M:p.a5Y.length≤9223372036854775807) (j:Nat) (B:j<p.a5Y.length) (b:Bool) (K:bR) [Up K] (F:PF) (H:PH) (E:H o=some (.rows 17 [p.cells])) (y:((zpF f w o i b j).set 20 (.int .i64 0)).le F)
  (A:K (.exit 12) (zpF f w o i (b&&(p.a5Y.take j).all fun x=>x != p.a5Y[j]) j) H):aC.wp C (.loop MU) K F H:=by
 refine wp_loop (α:=Nat) (fun k=>(zpF f w o i (b&&(p.a5Y.take k).all fun x=>x != p.a5Y[j]) j).set 20 (.int .i64 k)) (fun _=>H) (fun k=>k≤j) (fun k=>j-k) 0 (a7P _) (by
   have e:(b&&(p.a5Y.take 0).all fun x=>x != p.a5Y[j])=b:=by cases b<;>rfl
   simp only[e];exact y) b_ ?_
 intro k J;have q:∀ h:k<p.a5Y.length,(b&&(p.a5Y.take (k+1)).all fun x=>x != p.a5Y[j])=((b&&(p.a5Y.take k).all fun x=>x != p.a5Y[j])&&(p.a5Y[k] != p.a5Y[j])):=fun h=>by rw[a9G h,List.all_append];simp[baL]
 have fin:∀ (c:Bool) (u:PF),k<j→(b&&(p.a5Y.take (k+1)).all fun x=>x != p.a5Y[j])=c→((zpF f w o i c j).set 20 (.int .i64 (k+1:Nat))).le u→fJ (fun k:Nat=>(zpF f w o i (b&&(p.a5Y.take k).all fun x=>x != p.a5Y[j]) j).set 20 (.int .i64 k)) (fun _=>H) (fun k=>k≤j) (fun k=>j-k) (j-k) K .normal u H :=
  fun c u hlt e h=>aD (k+1) hlt Om (by rw[e]; exact h) b_
 unfold zpF at fin;simp only[go_sem,MU,tq,zpF];by_cases hlt:k<j
 ·have d:(k:Int)<(j:Nat):=Om;have l:k<p.a5Y.length:=Om;have q:=q l;generalize (b&&(p.a5Y.take k).all fun x=>x != p.a5Y[j])=c at *
  simp only[go_sem,d];refine bW .nil eT a_ ?_;cases c with
  | false =>simp only[go_sem,ND,NE,wZz k];exact fin false _ hlt (q.trans rfl) Lq
  | true =>simp only[go_sem,ND,E,aw l,aw B,NE,wZz k];exact fin _ _ hlt (q.trans rfl) Lq
 ·have d:¬ (k:Int)<(j:Nat):=Om;have:k=j:=Om;subst this;simp only[go_sem,d];exact Up.up (by (repeat' (first|exact c_|refine d_ ?_ ?_))<;>first|(simp only[go_sem,zpF]<;>rfl)|rfl) A
def KI (a5Y:Nat) (ms:List Int) (j:Nat):Bool:=within (ms.getD j 0) 0 ((a5Y:Int)-1)&&(ms.take j).all fun x=>x != ms.getD j 0
theorem aCW {C:Ctx} (L:pW C) (f:aE) (U:f.a5Y.length≤4) (w:PV) (o i:Nat) (p:bS) (S:p.a5Y.length≤9223372036854775807) (b:Bool) (K:bR) [Up K] (F:PF) (H:PH) (B:H o=some (.rows 17 [p.cells])) (N:(zpF f w o i b 0).le F)
  (J:K (.exit 10) ((((((PF.nil.set 1 (.bH f.cells)).set 6 (w)).set 7 (.aB)).set 8 (.bool (b&&(a7J p.a5Y.length).all (KI f.a5Y.length p.a5Y)))).set 17 (.int .i64 i))) H):aC.wp C (.loop xV) K F H:=by
 obtain⟨ok,y⟩:∃ ok,KI f.a5Y.length p.a5Y=ok:=⟨_,rfl⟩;rw[y] at J;refine wp_loop (α:=Nat) (fun j=>zpF f w o i (b&&(a7J j).all ok) j) (fun _=>H) (fun j=>j≤p.a5Y.length) (fun j=>p.a5Y.length-j) 0 (a7P _) (by
   have e:(b&&(a7J 0).all ok)=b:=by cases b<;>rfl
   simp only[e];exact N) b_ ?_
 intro j R;have l:=rH (p:=ok) j b;have u:=fun h=>rG (p:=ok) (b:=b) R h;have fin:∀ (c:Bool) (A:PF),j<p.a5Y.length→(b&&(a7J (j+1)).all ok)=c→(zpF f w o i c (j+1)).le A→fJ (fun j:Nat=>zpF f w o i (b&&(a7J j).all ok) j) (fun _=>H) (fun j=>j≤p.a5Y.length) (fun j=>p.a5Y.length-j) (p.a5Y.length-j) K .normal A H :=
  fun c A hlt e h=>aD (j+1) hlt Om (by rw[e]; exact h) b_
 unfold zpF at fin;have q:(b&&(a7J j).all ok)=(b&&(a7J p.a5Y.length).all ok)→K (.exit 10) ((((((PF.nil.set 1 (.bH f.cells)).set 6 (w)).set 7 (.aB)).set 8 (.bool (b&&(a7J j).all ok))).set 17 (.int .i64 i))) H:=fun e=>by rw[e]; exact J
 generalize O:(b&&(a7J j).all ok)=c at *
 simp only[go_sem,xV,tj,zpF,B,a7I];by_cases hlt:j<p.a5Y.length
 ·have d:(j:Int)<(p.a5Y.length:Nat):=Om;cases c with
  | false =>simp only[go_sem,d];exact Up.up Lq (q (u rfl).symm)
  | true =>
   have M:=rx (Om:f.a5Y.length≤1000);have Q:p.a5Y.getD j 0=p.a5Y[j]:=by simp[a8B,hlt]
   have E:ok j=(within p.a5Y[j] 0 ((f.a5Y.length:Int)-1)&&(p.a5Y.take j).all fun x=>x != p.a5Y[j]):=by rw[← y];unfold KI;rw[Q]
   rw[E] at l;simp only[go_sem,d];refine bW .nil alC a_ ?_;simp only[go_sem,tk,B,aw hlt,a7I,M];refine bN rfl (L.inn p.a5Y[j] 0 ((f.a5Y.length:Int)-1)) Sq a_ ?_;simp only[go_sem,tp];refine aNJ f w o i p S j hlt (within p.a5Y[j] 0 ((f.a5Y.length:Int)-1)) _ _ _ B (by (repeat' (first|exact c_|refine d_ ?_ ?_))<;>first|(simp only[go_sem,zpF]<;>rfl)|rfl) ?_;simp only[go_sem,zpF,tr,wZz j];exact fin _ _ hlt (l.trans rfl) Lq
 ·have d:¬ (j:Int)<(p.a5Y.length:Nat):=Om;have:j=p.a5Y.length:=Om;subst this;simp only[go_sem,d];exact Up.up Lq (q O.symm)
def Q8 (a5Y:Nat) (p:bS):Bool:=KB p.k p.m p.a6V p.s0 p.s1 p.s2 p.s3 p.s4&&(PI p.m p.repair p.target p.a6H&&(decide (p.a5Y.length>0)&&(a7J p.a5Y.length).all (KI a5Y p.a5Y)))
theorem aRG (a5Y:Nat) (p:bS):jI a5Y p=Q8 a5Y p:=by
 unfold jI Q8;rw[aQY,aVA];have c:decide (p.a5Y.length≠0)=decide (p.a5Y.length>0):=decide_eq_decide.2 Om;have d:(a7J p.a5Y.length).all (fun j=>within (p.a5Y.getD j 0) 0 ((a5Y:Int)-1)&&!(p.a5Y.take j).contains (p.a5Y.getD j 0))=(a7J p.a5Y.length).all (KI a5Y p.a5Y):=by
  congr 1;funext j;unfold KI;congr 1;generalize p.a5Y.getD j 0=x
  induction p.a5Y.take j with
  | nil=>rfl
  | cons a t e =>rw[List.contains_cons,List.all_cons,← e,Bool.not_or,bne,BEq.comm]
 rw[c,d];cases KB p.k p.m p.a6V p.s0 p.s1 p.s2 p.s3 p.s4<;>cases PI p.m p.repair p.target p.a6H<;>cases decide (p.a5Y.length>0)<;>simp
structure UK (C:Ctx):Prop extends pW C where
 dur:∀ (m:Int) (rep:List RF),jR rep→∀ t h:RF,t.Ok→h.Ok→aH C 69 [.int .i64 m,frs rep,.agg t.cells,.agg h.cells] .nil (aF (.bool (PI m rep t h)))
def kT (f:aE):List (List UInt8):=f.a6B.map bS.name
def KG (f:aE) (i:Nat):Bool:=match f.a6B[i]? with
 | some p=>Q8 f.a5Y.length p
 | none=>false
def mh (f:aE):Bool:=(a7J f.a6B.length).all (okL [] (kT f) (KG f))
theorem aUF {C:Ctx} (L:UK C) (f:aE) (hf:f.Ok) (δ:f.a6B.length≤4) (Z:f.a5Y.length≤4) (b:Bool) (K:bR) [Up K] (F:PF) (H:PH)
  (hF:((((((PF.nil.set 1 (.bH f.cells)).set 6 (.aB)).set 7 (.aB)).set 8 (.bool b)).set 17 (.int .i64 0)):PF).le F)
  (S:∀ H',K (.exit 8) ((((PF.nil.set 1 (.bH f.cells)).set 7 (.aB)).set 8 (.bool (b&&mh f)))) H'):aC.wp C (.loop xW) K F H:=by
 obtain⟨ok,E⟩:∃ ok,okL [] (kT f) (KG f)=ok:=⟨_,rfl⟩;unfold mh at S;rw[E] at S;have γ:(kT f).length=f.a6B.length:=by simp[kT]
 refine wp_loop (α:=Nat × PV × PH) (fun s=>(((((PF.nil.set 1 (.bH f.cells)).set 6 (s.2.1)).set 7 (.aB)).set 8 (.bool (b&&(a7J s.1).all ok))).set 17 (.int .i64 s.1))) (fun s=>s.2.2) (fun s=>s.1≤f.a6B.length∧gX s.2.2 s.2.1 [] (kT f) (b&&(a7J s.1).all ok) s.1) (fun s=>f.a6B.length-s.1)
  (0,.aB,H) ⟨a7P _,⟨[],aN.nil.nC 1,fun _=>rfl⟩⟩ (by
   have e:(b&&(a7J 0).all ok)=b:=by cases b<;>rfl
   simp only[e];exact hF) b_ ?_
 rintro⟨i,w,O⟩ ⟨hi,hG⟩;simp only at hi hG ⊢;have fin:∀ (c:Bool) (x:PV) (y:PF) (H':PH),i<f.a6B.length→(b&&(a7J (i+1)).all ok)=c→gX H' x [] (kT f) true (i+1) →
   ((((((PF.nil.set 1 (.bH f.cells)).set 6 (x)).set 7 (.aB)).set 8 (.bool c)).set 17 (.int .i64 (i+1:Nat))):PF).le y →
   fJ (fun s:Nat × PV × PH=>(((((PF.nil.set 1 (.bH f.cells)).set 6 (s.2.1)).set 7 (.aB)).set 8 (.bool (b&&(a7J s.1).all ok))).set 17 (.int .i64 s.1))) (fun s=>s.2.2) (fun s=>s.1≤f.a6B.length∧gX s.2.2 s.2.1 [] (kT f) (b&&(a7J s.1).all ok) s.1) (fun s=>f.a6B.length-s.1) (f.a6B.length-i) K .normal y H' :=
  fun c x y H' hlt hb Q A=>aD (i+1,x,H') ⟨hlt,Q.xi⟩ (by simp only; omega) (by simp only; rw[hb]; exact A) b_
 have d:=rH (p:=ok) i b;have B:=fun h=>rG (p:=ok) (b:=b) hi h;have u:(b&&(a7J i).all ok)=(b&&(a7J f.a6B.length).all ok)→K (.exit 8) ((((PF.nil.set 1 (.bH f.cells)).set 7 (.aB)).set 8 (.bool (b&&(a7J i).all ok)))) O:=fun e=>by rw[e]; exact S O
 generalize hc:(b&&(a7J i).all ok)=c at *
 simp only[go_sem,xW,tg,a7I];by_cases hlt:i<f.a6B.length
 ·have l:(i:Int)<(f.a6B.length:Nat):=Om;cases c with
  | false =>simp only[go_sem,l];exact Up.up Lq (u (B rfl).symm)
  | true =>
   obtain⟨β,g1,g3⟩:=hG.ex;have U:=Wo hlt;have X:i<(kT f).length:=Om;have Y:(kT f)[i]=(f.a6B[i]).name:=by simp[kT]
   have J:ok i=(jG ([]++(kT f).take i) ((kT f).getD i [])&&Q8 f.a5Y.length f.a6B[i]):=by rw[← E];unfold okL KG;rw[a7W hlt]
   have q:=hf.a6J _ (a7L hlt);rw[J] at d;unfold Q8 at d;have M:IntKind.i64.wrap ((i:Int)+1)=((i+1:Nat):Int):=cZ Om;simp only[go_sem,l,th,U];refine aR fun o ho=>?_;have g4:=g1.new ho (.rows 17 [(f.a6B[i]).cells]);have g5:=g4.at 0 rfl;simp only[go_sem];generalize O.set o (.rows 17 [(f.a6B[i]).cells])=H2 at *
   simp only[go_sem,ti,g5];refine gX.call L.tooJ (ns:=kT f) g4 (a7P _) Om (g3 rfl) X (by simp only[go_sem,Y]) fun x H1 h1 R=>?_;have N:=h1.at 0 rfl;generalize jG ([]++(kT f).take i) ((kT f).getD i [])=fb at *
   generalize hd:f.a6B[i]=p at *
   have rest:∀ (c:Bool) (y:PF),(zpF f x o i c 0).le y→(c&&(a7J p.a5Y.length).all (KI f.a5Y.length p.a5Y))=(b&&(a7J (i+1)).all ok) →
     aC.wp C (.loop xV) (eX 10 (eX 9 (gG C (aC.wp C (.region NF)) (fJ (fun s:Nat × PV × PH=>(((((PF.nil.set 1 (.bH f.cells)).set 6 (s.2.1)).set 7 (.aB)).set 8 (.bool (b&&(a7J s.1).all ok))).set 17 (.int .i64 s.1))) (fun s=>s.2.2) (fun s=>s.1≤f.a6B.length∧gX s.2.2 s.2.1 [] (kT f) (b&&(a7J s.1).all ok) s.1) (fun s=>f.a6B.length-s.1) (f.a6B.length-i) K)))) y H1:=by
    intro c y A V;refine aCW L.topW f Z x o i p q.a5Y c _ _ _ N A ?_;rw[V];simp only[go_sem,NF,M];exact fin _ x _ _ hlt rfl R Lq
   cases fb with
   | false =>simp only[go_sem,NC,tT];exact rest false _ (by (repeat' (first|exact c_|refine d_ ?_ ?_))<;>first|(simp only[go_sem,zpF]<;>rfl)|rfl) (by rw[d]; rfl)
   | true =>
    simp only[go_sem,NC,N];refine aA (L.nums p.k p.m p.a6V p.s0 p.s1 p.s2 p.s3 p.s4) Sq ?_;cases k0:KB p.k p.m p.a6V p.s0 p.s1 p.s2 p.s3 p.s4 with
    | false =>simp only[go_sem,tT];exact rest false _ (by (repeat' (first|exact c_|refine d_ ?_ ?_))<;>first|(simp only[go_sem,zpF]<;>rfl)|rfl) (by rw[d,k0]; rfl)
    | true =>
     simp only[go_sem,N];refine aA (L.dur p.m p.repair q.repair p.target p.a6H q.target q.a6H) Sq ?_;cases k1:PI p.m p.repair p.target p.a6H with
     | false =>simp only[go_sem,tT];exact rest false _ (by (repeat' (first|exact c_|refine d_ ?_ ?_))<;>first|(simp only[go_sem,zpF]<;>rfl)|rfl) (by rw[d,k0,k1]; rfl)
     | true =>have W:decide ((p.a5Y.length:Int)>0)=decide (p.a5Y.length>0):=decide_eq_decide.2 Om;simp only[go_sem,N,a7I,W,tT];exact rest _ _ (by (repeat' (first|exact c_|refine d_ ?_ ?_))<;>first|(simp only[go_sem,zpF]<;>rfl)|rfl) (by rw[d,k0,k1]; rfl)
 ·have l:¬ (i:Int)<(f.a6B.length:Nat):=Om;have:i=f.a6B.length:=Om;subst this;simp only[go_sem,l];exact Up.up Lq (u hc.symm)
end Go.PM
