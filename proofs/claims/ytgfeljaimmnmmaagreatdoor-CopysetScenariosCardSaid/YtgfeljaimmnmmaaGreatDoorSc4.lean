/-
  Texts of ours, joined: MkW15 MkW16 L11W1 R2Code R2W1 R2W2 R2W3 R2W4 R2W5 R2W6 R2W7 R2W8 Jn1 Jn2 L11P1 L11W2 L11W3 Mv1 Mv2 Mv3 Mv4 L11W4 Jn3 MkW17 MkW18 L11W5 Pm37 L11W6 L11P2 L11W7 L11W8 L11W9 L11W10 L11W11 L11W12 L11W13 Jn. No condition.
-/
import Derived.Test.YtgfeljaimmnmmaaGreatDoorSc1
import Derived.Test.YtgfeljaimmnmmaaGreatDoorSc2
import Derived.Test.YtgfeljaimmnmmaaGreatDoorSc3

set_option linter.unusedSimpArgs false
set_option linter.unusedVariables false
open Nat renaming reduceEqDiff → γ, reduceAdd → δ, reduceSub → ε, reduceMul → ζ, reduceLT → η, reduceLeDiff → θ, reduceBEq → τ
open Int renaming reduceLT → ι, reduceLE → κ, reduceEq → μ, reduceToNat → ν, reduceAdd → ξ, reduceNeg → ο, reduceBEq → ρ, reduceBNe → σ
open List renaming reduceReplicate → υ
open List renaming length_map → a7G, range → a7H, getElem_mem → a7J, replicate → a7K, length_append → a7O, length_singleton → a7S, mem_cons → a7T, getElem?_eq_getElem → a7U, all_eq_true → a7W, getD_eq_getElem?_getD → a7Z, length_take → a8A, not_mem_nil → a8B, take_of_length_le → a8C, getElem?_map → a8F, map_append → a8G, take_length → a8I, mem_map → a8J, mem_range → a8K, getElem?_eq_some_iff → a8P, append_assoc → a8Q, drop_zero → a8R, getElem_of_mem → a8S, map_cons → a8U, getElem?_eq_none → a8X, length_cons → a8Y, getElem_map → a9B, mem_append → a9C, take_succ_eq_append_getElem → a9E, append_nil → a9G, drop_eq_getElem_cons → a9H, range' → a9I, length_drop → a9J, Sublist → a9K, length_set → a9L, map_nil → a9P, length_nil → a9W, mem_singleton → a9X, getElem?_append_right → a9Y, getElem?_append_left → a9Z, nodup_append → baA, mem_of_getElem? → baC, set_append_right → baD, take_append_drop → baE, ext_getElem → baO, range_succ → baS, getElem?_take → baU, drop_of_length_le → bbA, map_congr_left → bbB, set_cons_zero → bbC, getElem_append_right → bbD
open Nat renaming gcd → a7I, le_refl → a7M, zero_le → a7N, mul_add → a7V, lt_or_ge → a8D, zero_add → a8E, mul_assoc → a8H, mul_comm → a8L, add_mul → a8M, mul_le_mul_right → a8N, mod_eq_of_lt → a8T, le_trans → a8V, mod_lt → a8Z, pow_succ → a9D, add_zero → a9M, eq_zero_or_pos → a9Q, add_assoc → a9R, min_eq_left → a9S, mul_le_mul_left → a9T, pos_of_ne_zero → a9U, pow_pos → baB, div_le_self → baF, sub_self → baG, div_lt_iff_lt_mul → baK, pow_le_pow_right → baL, succ_mul → baM, mul_le_mul → baP, div_add_mod → baV, div_eq_of_lt → baW
open Bool renaming not_true → a7L, false_and → a7P, true_and → a7R, and_eq_true → a7X, not_false → a7Y, and_false → a8O, and_true → a9N, and_assoc → baI, and_self → baJ, false_eq_true → baR
open Option renaming map_eq_some_iff → a7Q, map_some → a8W, some → a9V, getD_some → baH, bind_eq_some_iff → baX, bind_some → baY
open Int renaming toNat_natCast → a9A, tdiv → a9O
open Array renaming replicate → a9F, length_toList → baN, getElem?_eq_some_iff → baQ, getElem?_eq_getElem → baT, getD_eq_getD_getElem? → baZ
namespace Go.PM
open Go Go.Na
theorem Wa {C:Ctx} (S:mA C) {l:List Nat} {v:PV} (T:Tp l v) (E:FE) (pc n a:Nat) (hn:n≤60) (β:pc≤50) (ha:a≤l.length) (ext y A B J c:PV) (x:List bS) (Q:x.length=pc) (L:List LI) (K:bR) (F:PF) (H:PH)
  (Y:(((fP E).set 18 (.int .i64 n)).set 19 (.int .i64 0)).le F) (u:aN H (E.boxes v ext y A B J c .aB a) ((c,17,lN x)::L))
  (Z:∀ p R H',(fP E).le R→aN H' (E.boxes v ext y A B J c p (eM l pc a n).2) ((c,17,lN x)::L++[(p,2,oF (eM l pc a n).1)])→K (.exit 8) R H') :
  aC.wp C (.loop JA) K F H:=by
 refine wp_loop (α:=Nat × PV × PH) (fun t=>((fP E).set 18 (.int .i64 n)).set 19 (.int .i64 t.1)) (fun t=>t.2.2) (fun t=>t.1≤n∧aN t.2.2 (E.boxes v ext y A B J c t.2.1 (eM l pc a t.1).2) ((c,17,lN x)::L++[(t.2.1,2,oF (eM l pc a t.1).1)])) (fun t=>n-t.1) (0,.aB,H) ⟨a7N _,u.nB 2⟩ Y b_ ?_;rintro⟨i,p,W⟩ ⟨hi,u⟩;simp only at hi u ⊢;obtain⟨k1,k2⟩:=YP l pc ha i;have w:eM l pc a (i+1)=((eM l pc a i).1++[⟨[118]++bZ i,((aG l pc (eM l pc a i).2).1:Nat)⟩],(aG l pc (eM l pc a i).2).2):=rfl;simp only[go_sem,JA,la,fP];by_cases hlt:i<n
 ·have d:(i:Int)<(n:Nat):=Om;generalize hg:eM l pc a i=g at *
  have U:=u.set 0 rfl (bN v (aG l pc g.2).2);generalize N:aG l pc g.2=z at *
  have b1:=u.at 1 rfl;have V:=(u.own 0 rfl).sR;rw[a7G,Q] at V;have M:(PH.nil.set E.o7 (flB ext y A B J c p)).le W:=PH.aK a_ b1;simp only[go_sem,d];refine bW (PH.nil.set E.o7 (flB ext y A B J c p)) (mkS l v) M ?_;simp only[go_sem,lb];refine HJ S.toqT (s:=[118]) (n:=i) (by decide) Om rfl M ?_;simp only[go_sem,V];refine rI S.toAU T (o:=E.o) (n:=pc) (a:=g.2) Om k1 rfl (u.at 0 rfl) ?_ ?_
  ·rw[N]; exact PH.aK a_ (U.at 1 rfl)
  rw[N];have O:(1:Nat)*2≤16777216:=by decide
  simp only[go_sem,O,a7T,a8B,or_false,forall_eq,forall_eq_or_imp];refine U.append (v:=p) (s:=2) (rows:=oF g.1) (L.length+1) (src:=[(⟨[118]++bZ i,(z.1:Nat)⟩:eW).cells]) (by simp) rfl (by unfold roomFor; rw[a7G]; simp only[a7S,maxLen]; omega) fun w' H2 h5 hw=>?_;obtain⟨q,rfl⟩:=hw (by simp);rw[show ((c,17,lN x)::L++[(p,2,oF g.1)])=((c,17,lN x)::L)++[(p,2,oF g.1)] from rfl,baD _ _ (by simp),show L.length+1-((c,17,lN x)::L).length=0 by simp] at h5;have b2:=h5.at 1 rfl;refine⟨PH.aK a_ b2,?_⟩;refine bW .nil eT a_ ?_;simp only[go_sem,lf,b2,a7T,a8B,or_false,forall_eq];have X:=h5.set 1 rfl (flB ext y A B J c (.osl q 2 0 (oF g.1++[(⟨[118]++bZ i,(z.1:Nat)⟩:eW).cells]).length));refine⟨a_,?_⟩;simp only[go_sem,lg,wZz i];refine aD (i+1,.osl q 2 0 (oF g.1++[(⟨[118]++bZ i,(z.1:Nat)⟩:eW).cells]).length,_) ⟨hlt,?_⟩ (by simp only; omega) ?_ b_
  ·rw[w];have e:oF (g.1++[⟨[118]++bZ i,(z.1:Nat)⟩])=oF g.1++[(⟨[118]++bZ i,(z.1:Nat)⟩:eW).cells]:=by simp[oF]
   simp only;rw[e];exact X
  ·exact Lq
 ·have d:¬ (i:Int)<(n:Nat):=Om;have:i=n:=Om;subst this;simp only[go_sem,d];exact Z p _ _ (UZ rfl rfl rfl rfl rfl) u
def FC (l:List Nat) (v:PV) (o a5V a5X a:Nat) (r:PV) (H:PH):Prop:=Co r (.agg (jG l a5V a5X a).1.cells)∧H=PH.nil.set o (bN v (jG l a5V a5X a).2)
structure fq (C:Ctx):Prop extends mA C where
 grow:∀ (l:List Nat) (v:PV),Tp l v→∀ (mc a5V:Nat),0<mc→mc≤1000→a5V≤60→fm C l v mc a5V 4
theorem Av {C:Ctx} (N:fq C) {l:List Nat} {v:PV} (T:Tp l v) (o a5V a5X a:Nat) (ω:a5V≤60) (Ξ:a5X≤50) (ha:a≤l.length) :
  CZ.wp C (aV kd.res (FC l v o a5V a5X a)) (PF.args [.ptr o 2 0 0,.int .i64 a5V,.int .i64 a5X]) (PH.nil.set o (bN v a)):=by
 have hT:jG l a5V a5X a=jG l a5V a5X a:=rfl
 conv at hT=>rhs; unfold jG
 dsimp only at hT;have hR:∀ r H,FC l v o a5V a5X a r H↔Co r (.agg (jG l a5V a5X a).1.cells)∧H=PH.nil.set o (bN v (jG l a5V a5X a).2):=fun _ _=>Iff.rfl;have ne:=cJ l (show 0<2 by decide) a;have ae:=bT l 2 ha;generalize he:aG l 2 a=e at *
 have Φ:=cJ l (show 0<2 by decide) e.2;have δ:=bT l 2 ae;generalize Γ:aG l 2 e.2=M at *
 obtain⟨O,β⟩:=bd l δ (1+M.1);generalize Y:hM l M.2 (1+M.1)=a6C at *
 have Ψ:=cJ l (show 0<2 by decide) a6C.2;have ε:=bT l 2 O;generalize Δ:aG l 2 a6C.2=d at *
 obtain⟨Q,V⟩:=JP l (1+M.1) ε (1+d.1);generalize S:eI l (1+M.1) d.2 (1+d.1)=a5W at *
 have θ:GOk l a5V ⟨[mI],[],a5W.2⟩:=⟨by simp,a7N _,Q⟩;obtain⟨hG,-⟩:=ZY (mc:=1+d.1) 4 0 θ;generalize hg:eS l (1+d.1) a5V 4 0 ⟨[mI],[],a5W.2⟩=g at *
 have Ω:=cJ l (show 0<2 by decide) g.a;have ζ:=bT l 2 hG.a;generalize Λ:aG l 2 g.a=pl at *
 obtain⟨R,γ⟩:=zV l (1+d.1) ζ (1+pl.1);generalize Z:dU l (1+d.1) pl.2 (1+pl.1)=pols at *
 have a':=cJ l (Om:0<a5X+1) pols.2;have ο:=bT l (a5X+1) R;generalize ν:aG l (a5X+1) pols.2=vo at *
 generalize α:eM l (1+pl.1) vo.2 vo.1=vols at *
 have ee:IntKind.i64.wrap (1+(e.1:Int))=((1+e.1:Nat):Int):=by rw[wrap_i64 Om Om]; omega
 have ρ:IntKind.i64.wrap (1+(M.1:Int))=((1+M.1:Nat):Int):=by rw[wrap_i64 Om Om]; omega
 have σ:IntKind.i64.wrap (1+(d.1:Int))=((1+d.1:Nat):Int):=by rw[wrap_i64 Om Om]; omega
 have τ:IntKind.i64.wrap (1+(pl.1:Int))=((1+pl.1:Nat):Int):=by rw[wrap_i64 Om Om]; omega
 have υ:IntKind.i64.wrap ((a5X:Int)+1)=((a5X+1:Nat):Int):=cZ Om;have h0:aN (PH.nil.set o (bN v a)) [(o,bN v a)] []:=aN.nil.new (H:=PH.nil) rfl (bN v a);simp only[go_sem,CZ,Aw,kd];refine aR fun o6 ι=>?_;have i:=h0.new ι flZ;simp only[go_sem,Ax];refine dM N.toAU T (o:=o) (n:=2) (a:=a) (by decide) ha rfl (i.at 0 rfl) ?_;have u:=i.set 0 rfl (bN v e.2);rw[he];simp only[go_sem,ee];refine aR fun o7 κ=>?_;have B:=u.new κ (flB (.int .i64 (1+e.1:Nat)) .aB .aB .aB .aB .aB .aB);simp only[go_sem,Ay,a7T,a8B,or_false,forall_eq,forall_eq_or_imp];refine dM N.toAU T (o:=o) (n:=2) (a:=e.2) (by decide) ae rfl (B.at 0 rfl) ?_;have h4:=B.set 0 rfl (bN v M.2);rw[Γ];have h5:=h4.perm (B':=FE.boxes ⟨o,o6,o7,a5V,a5X⟩ v (.int .i64 (1+e.1:Nat)) .aB .aB .aB .aB .aB .aB M.2) (L':=[]) (List.Perm.cons _ (List.Perm.swap _ _ _)) (List.Perm.refl _);obtain⟨E,c⟩:∃ E:FE,E=⟨o,o6,o7,a5V,a5X⟩:=⟨_,rfl⟩;rw[← c] at h5;simp only[go_sem,ρ,Az];refine aGS (C:=C) N.tomA T E (1+M.1) M.2 Om δ _ _ _ _ ?_ h5 ?_
 ·rw[c];unfold fP;exact Lq
 clear h5 h4 B u i h0 ι κ;intro p F1 H1 F i;rw[Y] at i;have f0:F1 0=some (.ptr o 2 0 0):=F 0 _ (by rw[c]; unfold fP; simp only[go_sem]);have f1:F1 1=some (.int .i64 a5V):=F 1 _ (by rw[c]; unfold fP; simp only[go_sem]);have f2:F1 2=some (.int .i64 a5X):=F 2 _ (by rw[c]; unfold fP; simp only[go_sem]);have f6:F1 6=some (.ptr o6 7 0 0):=F 6 _ (by rw[c]; unfold fP; simp only[go_sem]);have f7:F1 7=some (.ptr o7 7 0 0):=F 7 _ (by rw[c]; unfold fP; simp only[go_sem]);have W:=i.at 0 rfl;rw[c] at W;simp only[go_sem,kf,f0];refine dM N.toAU T (o:=o) (n:=2) (a:=a6C.2) (by decide) O rfl W ?_;have u:=i.set 0 rfl (bN v d.2);rw[Δ];simp only[go_sem,σ,kg];refine alM (C:=C) N.tomA T E (1+d.1) d.2 (1+M.1) Om Om ε (.int .i64 (1+e.1:Nat)) p a6C.1 β _ _ _ ?_ (by rw[c] at u ⊢; exact u) ?_
 ·rw[c];unfold fP;exact Lq
 clear W u i f0 f1 f2 f6 f7 F;intro w2 F2 H2 J f11 u;rw[S] at u;have f0:F2 0=some (.ptr o 2 0 0):=J 0 _ (by rw[c]; unfold fP; simp only[go_sem]);have f1:F2 1=some (.int .i64 a5V):=J 1 _ (by rw[c]; unfold fP; simp only[go_sem]);have f2:F2 2=some (.int .i64 a5X):=J 2 _ (by rw[c]; unfold fP; simp only[go_sem]);have f6:F2 6=some (.ptr o6 7 0 0):=J 6 _ (by rw[c]; unfold fP; simp only[go_sem]);have f7:F2 7=some (.ptr o7 7 0 0):=J 7 _ (by rw[c]; unfold fP; simp only[go_sem]);obtain⟨qm,μ⟩:=(u.own 1 rfl).one (by rw[a7G]; omega);rw[a7G,V] at μ;subst μ;have χ:(1:Nat)*7≤16777216:=by decide
 simp only[go_sem,kn];refine aA (N.int 0 (by unfold dB; omega)) rfl ?_;simp only[go_sem,a7T,a8B,or_false,forall_eq,forall_eq_or_imp,χ];refine aR fun od Θ=>?_;have B:=u.amO (s:=7) (rows:=jY [mI]) Θ;have b7:=u.at 1 rfl;rw[c] at b7;have n7:¬ o7=od:=by have:=B.neL 1 2 rfl rfl rfl;rw[c] at this; exact this
 simp only[go_sem,f7,b7,n7,a7T,a8B,or_false,forall_eq];have h4:=(B.set 1 rfl (flB (.int .i64 (1+e.1:Nat)) p (.osl qm 4 0 (1+d.1)) (.osl od 7 0 1) .aB .aB .aB)).nB 3;rw[c] at h4;have h5:=h4.perm (B':=(GE.mk o o7 qm (.int .i64 (1+e.1:Nat)) p .aB .aB).boxes v (1+d.1) (.osl od 7 0 1) .aB a5W.2++[(o6,flZ)]) (L':=lL ⟨[mI],[],a5W.2⟩ (.osl od 7 0 1) .aB++[(p,4,gZ a6C.1),(.osl qm 4 0 (1+d.1),4,jR a5W.1)]) (List.Perm.refl _)
  (List.perm_append_comm (l₁:=[(p,4,gZ a6C.1),(.osl qm 4 0 (1+d.1),4,jR a5W.1)]) (l₂:=lL ⟨[mI],[],a5W.2⟩ (.osl od 7 0 1) .aB))
 simp only[go_sem,ko,f0,f1,f7];refine EU h5 (fun H0 ψ=>N.grow l v T (1+d.1) a5V Om Om ω (GE.mk o o7 qm (.int .i64 (1+e.1:Nat)) p .aB .aB) (.osl od 7 0 1) .aB ⟨[mI],[],a5W.2⟩ 0 mI θ rfl rfl H0 ψ) (by simp only[go_sem,f0,f1,f7]; rfl) ?_;rintro r B' L' H3 ⟨rfl,y,A,rfl,rfl⟩ h6;rw[hg] at h6;have h7:=h6.perm (B':=E.boxes v (.int .i64 (1+e.1:Nat)) p (.osl qm 4 0 (1+d.1)) y A .aB .aB g.a) (L':=[(p,4,gZ a6C.1),(.osl qm 4 0 (1+d.1),4,jR a5W.1),(y,7,jY g.a6E),(A,3,mE g.a6O)]) (by rw[c]; exact List.Perm.refl _)
  (List.perm_append_comm (l₁:=lL g y A) (l₂:=[(p,4,gZ a6C.1),(.osl qm 4 0 (1+d.1),4,jR a5W.1)]))
 have W:=h7.at 0 rfl;rw[c] at W;simp only[go_sem,kp,f0];refine dM N.toAU T (o:=o) (n:=2) (a:=g.a) (by decide) hG.a rfl W ?_;have h8:=h7.set 0 rfl (bN v pl.2);rw[Λ];simp only[go_sem,τ,kr];refine Ol (C:=C) N.tomA T E (1+d.1) (1+pl.1) pl.2 Om Om Om ζ ((1+e.1:Nat):Int) p (.osl qm 4 0 (1+d.1)) y A a6C.1 a5W.1 g.a6E g.a6O _ _ _ (by rw[c]; exact⟨by simp only[go_sem,f0],by simp only[go_sem,f1],by simp only[go_sem,f2],by simp only[go_sem,f6],by simp only[go_sem,f7],by simp only[go_sem,f11],by simp only[go_sem],by simp only[go_sem]; rfl⟩) (by rw[c] at h8 ⊢; exact h8) ?_;clear h8 h7 h6 h5 h4 B u W b7 f0 f1 f2 f6 f7 J;intro X F4 H4 K i;rw[Z] at i;have f0:F4 0=some (.ptr o 2 0 0):=K 0 _ (by rw[c]; unfold fP; simp only[go_sem]);have f1:F4 1=some (.int .i64 a5V):=K 1 _ (by rw[c]; unfold fP; simp only[go_sem]);have f2:F4 2=some (.int .i64 a5X):=K 2 _ (by rw[c]; unfold fP; simp only[go_sem]);have f6:F4 6=some (.ptr o6 7 0 0):=K 6 _ (by rw[c]; unfold fP; simp only[go_sem]);have f7:F4 7=some (.ptr o7 7 0 0):=K 7 _ (by rw[c]; unfold fP; simp only[go_sem]);have W:=i.at 0 rfl;rw[c] at W;simp only[go_sem,k6,f0,f2,υ];refine dM N.toAU T (o:=o) (n:=a5X+1) (a:=pols.2) Om R rfl W ?_;have u:=i.set 0 rfl (bN v vo.2);rw[ν];have B:=u.perm (B':=E.boxes v (.int .i64 (1+e.1:Nat)) p (.osl qm 4 0 (1+d.1)) y A X .aB vo.2) (L':=(X,17,lN pols.1)::[(p,4,gZ a6C.1),(.osl qm 4 0 (1+d.1),4,jR a5W.1),(y,7,jY g.a6E),(A,3,mE g.a6O)]) (List.Perm.refl _)
  (List.perm_append_comm (l₁:=[(p,4,gZ a6C.1),(.osl qm 4 0 (1+d.1),4,jR a5W.1),(y,7,jY g.a6E),(A,3,mE g.a6O)]) (l₂:=[(X,17,lN pols.1)]))
 simp only[go_sem,k7];refine Wa (C:=C) N.tomA T E (1+pl.1) vo.1 vo.2 Om Om ο _ _ _ _ _ X pols.1 γ _ _ _ _ ?_ (by rw[c] at B ⊢; exact B) ?_
 ·rw[c];unfold fP;exact Lq
 clear B u i W f0 f1 f2 f6 f7 K;intro w6 F5 H5 η i;rw[α] at i;have f6:F5 6=some (.ptr o6 7 0 0):=η 6 _ (by rw[c]; unfold fP; simp only[go_sem]);have f7:F5 7=some (.ptr o7 7 0 0):=η 7 _ (by rw[c]; unfold fP; simp only[go_sem]);rw[c] at i;have b7:=i.at 1 rfl;have b6:=i.at 2 rfl;have one:∀ (x:PV),x∈[p,y,A,X,w6]→(∃ q s n,x=.osl q s 0 n)∨x=.aB:=by
  intro x hx;have U:∀ {s:Nat} {rows:List (List PV)},bQ H5 s x rows→(∃ q s n,x=.osl q s 0 n)∨x=.aB:=by
   rintro s rows (⟨_,h⟩ | ⟨q,rs,h,_⟩)
   ·exact .inr h
   ·exact .inl ⟨q,s,_,h⟩
  simp only[a7T,a8B,or_false] at hx;rcases hx with rfl | rfl | rfl | rfl | rfl
  ·exact U (i.own 1 rfl)
  ·exact U (i.own 3 rfl)
  ·exact U (i.own 4 rfl)
  ·exact U (i.own 0 rfl)
  ·exact U (i.own 5 rfl)
 have w:∀ (x:PV),x∈[p,y,A,X,w6]→PV.one x=true:=fun x hx=>by rcases one x hx with ⟨q,s,n,rfl⟩ | rfl<;>rfl
 have o1:=w p (by simp);have o3:=w y (by simp);have o4:=w A (by simp);have o5:=w X (by simp);have ξ:=w w6 (by simp);simp only[PV.one] at o1 o3 o4 o5 ξ;simp only[go_sem,lh,f6,f7,b7,b6,a7T,a8B,or_false,forall_eq,forall_eq_or_imp,o1,o3,o4,o5,ξ];have u:=i.set 2 rfl (flB (.int .i64 (1+e.1:Nat)) p (.osl qm 4 0 (1+d.1)) y A X w6);have B:=u.sub (B':=[(o,bN v vols.2)]) (a9K.cons_cons _ (List.nil_sublist _)) (a9K.refl _);obtain⟨φ,H6,k1,k2,k3,k4⟩:=aN.giveUp _ B (fun x hx=>by
  simp only[List.cons_append,List.nil_append,a7T,a8B,or_false] at hx;rcases hx with rfl | rfl | rfl | rfl | rfl | rfl
  ·exact adO _
  ·exact aaR _
  ·exact aaS _
  ·exact Yh _
  ·exact Yj _
  ·exact aTW _) (fun b hb q s rs=>by
  simp only[a7T,a8B,or_false] at hb;subst hb;simp only[cG.frz,a8U,a9P,T.frz];rfl)
 refine yP (vs:=[.agg [.int .i64 (1+e.1:Nat),p,.osl qm 4 0 (1+d.1),y,A,X,w6]]) (.inr rfl) (by simp only[go_sem,f6]) (k4 _ _ (.done (H2:=PH.nil.set o (bN v vols.2)) ?_ (PH.aK a_ (k3.at 0 rfl))));rw[hR,hT];refine⟨CoL.agg ?_,rfl⟩;have s5:=k1 (X,17,lN pols.1) (by simp);have s1:=k1 (p,4,gZ a6C.1) (by simp);have s2:=k1 (.osl qm 4 0 (1+d.1),4,jR a5W.1) (by simp);have s3:=k1 (y,7,jY g.a6E) (by simp);have s4:=k1 (A,3,mE g.a6O) (by simp);have s6:=k1 (w6,2,oF vols.1) (by simp);have s0:φ (.int .i64 (1+e.1:Nat))=.int .i64 (1+e.1:Nat):=k2 _ rfl;show CoL [φ (.int .i64 (1+e.1:Nat)),φ p,φ (.osl qm 4 0 (1+d.1)),φ y,φ A,φ X,φ w6] _;rw[s0];exact CoL.cons (.refl _) (CoL.cons s1.co (CoL.cons s2.co (CoL.cons s3.co (CoL.cons s4.co (CoL.cons s5.co (CoL.cons s6.co .nil))))))
structure If (C:Ctx):Prop extends fq C where
 new:∀ (l:List Nat),(∀ x∈l,x<256)→l.length≤9223372036854775807→aH C 28 [.sl 1 (kF l)] .nil (aiO l)
 fleet:∀ (l:List Nat) (v:PV),Tp l v→∀ (o a5V a5X a:Nat),a5V≤60→a5X≤50→a≤l.length →
  aH C 0 [.ptr o 2 0 0,.int .i64 a5V,.int .i64 a5X] (PH.nil.set o (bN v a)) (fun r H=>r=.agg (jG l a5V a5X a).1.cells∧H=PH.nil.set o (bN v (jG l a5V a5X a).2))
theorem FC.exact {C:Ctx} {name:Nat} {args:List PV} {H:PH} {l:List Nat} {v:PV} {o a5V a5X a:Nat} (h:aH C name args H (FC l v o a5V a5X a)):aH C name args H (fun r H=>r=.agg (jG l a5V a5X a).1.cells∧H=PH.nil.set o (bN v (jG l a5V a5X a).2)) :=
 h.post fun r H' c=>⟨_,c.1,rfl,c.2⟩
theorem atV {C:Ctx} (p:If C) (l:List Nat) (u:∀ x∈l,x<256) (w:l.length≤9223372036854775807) (a5V a5X:Nat) (c:a5V≤60) (i:a5X≤50) :
  CX.wp C (aV j9.res (bY (.agg (jG (l.take 400) a5V a5X 0).1.cells))) (PF.args [.sl 1 (kF l),.int .i64 a5V,.int .i64 a5X]) .nil:=by
 simp only[go_sem,CX,Aq,j9];refine aR fun o6 y=>?_;simp only[go_sem,Ar];refine kU (p.new l u w) rfl a_ ?_;rintro r H' ⟨o,v,rfl,T,rfl⟩ q;have d:¬ o6=o:=by intro e;subst e;have:=q o6 (bN v 0) (by rw[aT,if_pos rfl]) rfl;rw[aT,if_pos rfl] at this;cases this
 rw[PH.pN];simp only[go_sem];refine mQ (p.fleet _ v T o a5V a5X 0 c i (a7N _)) (by rw[aT,if_pos rfl]) rfl ?_;simp only[go_sem,d];exact bA (vs:=[.agg (jG (l.take 400) a5V a5X 0).1.cells]) (.inr rfl) .nil Sq a_ ⟨.refl _,rfl⟩
theorem CoL.a3H:CoL [] []:=⟨rfl,fun j p q h=>by simp at h⟩
theorem CoL.ajO {p q:PV} {ps d:List PV} (h:Co p q) (c:CoL ps d):CoL (p::ps) (q::d):=by
 refine⟨by simp[c.len],fun j x y a b=>?_⟩;cases j with
 | zero =>simp only[List.getElem?_cons_zero,a9V.injEq] at a b;subst a; subst b; exact h
 | succ j=>exact c.at_ j x y (by simpa using a) (by simpa using b)
theorem aH.seen {C:Ctx} {name:Nat} {args:List PV} {H:PH} {v:PV} (h:aH C name args H (bY v)):aH C name args H (aF v) :=
 h.post fun r H' c=>⟨v,c.1,rfl,c.2⟩
def VI (x:RF):Bool:=(x.num.all (fun n=>decide (n<4294967296))&&x.den.all fun n=>decide (n<4294967296))&&(decide (x.num.length≤9)&&decide (x.den.length≤9))
theorem KT {x:RF} (h:VI x=true):x.Ok:=by
 simp only[VI,a7X,a7W,decide_eq_true_eq] at h;exact⟨h.1.1,h.1.2,by omega,by omega⟩
def GG (l:List RF):Bool:=decide (l.length≤9)&&l.all VI
theorem BS {l:List RF} (h:GG l=true):jS l:=by
 simp only[GG,a7X,a7W,decide_eq_true_eq] at h;exact⟨by unfold Fits; omega,fun x c=>KT (h.2 x c)⟩
def Nx (x:cE):Bool:=(GG x.start&&GG x.exit)&&(decide (x.a6A.length≤9)&&x.a6A.all GG)
theorem asV {x:cE} (h:Nx x=true):x.Ok:=by
 simp only[Nx,a7X,a7W,decide_eq_true_eq] at h;exact⟨BS h.1.1,BS h.1.2,by unfold Fits; omega,fun r c=>BS (h.2.2 r c)⟩
def Rc (x:bS):Bool:=(decide (dB x.k∧dB x.m∧dB x.a6T)&&(decide (x.a5W.length≤9)&&x.a5W.all fun m=>decide (dB m)))&&(GG x.repair&&(VI x.target&&VI x.a6F))
theorem avG {x:bS} (h:Rc x=true):x.Ok:=by
 simp only[Rc,a7X,a7W,decide_eq_true_eq] at h;exact⟨h.1.1.1,h.1.1.2.1,h.1.1.2.2,by unfold Fits; omega,h.1.2.2,BS h.2.1,KT h.2.2.1,KT h.2.2.2⟩
def okB (f:aE):Bool:=(decide (f.a6C.length≤99∧f.a5W.length≤99∧f.a5Y.length≤99∧f.a5V.length≤99∧f.a5Z.length≤99∧f.a5X.length≤99)&&(f.a6C.all Nx&&f.a5Z.all Rc)) &&
 (f.a5Y.all (fun x=>VI x.a6K&&decide (dB x.level∧dB x.parent))&&(f.a5V.all (fun x=>decide (dB x.model∧dB x.machine))&&f.a5X.all fun x=>decide (dB x.a6H)))
theorem aWB {f:aE} (h:okB f=true):f.Ok:=by
 simp only[okB,a7X,a7W,decide_eq_true_eq] at h;obtain⟨⟨⟨p,q,u,w,y,A⟩,e,i⟩,d,l,h5⟩:=h;exact⟨by unfold Fits; omega,by unfold Fits; omega,by unfold Fits; omega,by unfold Fits; omega,by unfold Fits; omega,by unfold Fits; omega,fun x c=>asV (e x c),fun x c=>⟨KT (d x c).1,(d x c).2⟩,l,fun x c=>avG (i x c),h5⟩
def D6:Rg:=[iZ 4]
def D7:Rg:=[iZ 5]
def D8:Rg:=[iA 6 (.mv (.const (.int .u64 0)))]
def D9:Rg:=[iI 7 0]
def Ea:Rg:=[iM 10 7,iM 11 0,iN 12 11,iB 13 .lss 10 12]
def Eb:Rg:=[iM 16 6,iM 8 16]
def Ec:Rg:=[iM 17 7,iM 18 1,iN 19 18,iB 20 .lss 17 19]
def Ed:Rg:=[iM 21 8,iM 22 1,iM 23 7,iX 24 1 22 23,iL 25 24,iA 26 (.conv .u64 (Tm 25)),iB 27 .add 21 26,iM 8 27]
def TL:Rg:=[iM 28 0,iM 29 7,iX 30 1 28 29,iL 31 30,iA 32 (.conv .u64 (Tm 31)),iM 9 32]
def TM:Rg:=[iA 6 (.mv (.const (.int .u64 0)))]
def LT:Rg:=[iM 33 9,iM 34 8,iB 35 .lss 33 34]
def LW:Rg:=[iM 36 9,iA 37 (.bin .add (Tm 36) (.const (.int .u64 4294967296))),iM 9 37]
def LX:Rg:=[iA 6 (.mv (.const (.int .u64 1)))]
def xN:Rg:=[iM 38 5,iM 39 9,iM 40 8,iB 41 .sub 39 40,iA 42 (.conv .u32 (Tm 41)),iA 43 (.a6B true 1 1 [(.int .u32 0)] [(0,(Tm 42))]),iA 44 (.append 1 4 (Tm 38) (Tm 43)),iM 5 44]
def xO:Rg:=[iM 14 7,iC 15 .add 14 1,iM 7 15]
def pu:aC:=(.seq (sq Ea (.cond (Tm 13) .skip (.exit 0))) (.seq (.block 1 (sq Eb (.seq (sq Ec (.cond (Tm 20) (.region Ed) .skip)) (sq TL (sq TM (.seq (sq LT (.cond (Tm 35) (sq LW (.region LX)) .skip)) (.region xN))))))) (.region xO)))
def pw:Rg:=[iM 45 5,iK 46 38 45,iM 4 46]
def EM:aC:=(sq D6 (sq D7 (sq D8 (.seq (sq D9 (.block 0 (.loop pu))) (sq pw .ret)))))
def aBR:List Nat:=[43]
def pt:aS:=⟨2,47,EM,[.tmp 4]⟩
def T1:Rg:=[iZ 4]
def T2:Rg:=[iZ 5]
def T3:Rg:=[iA 6 (.mv (.const (.int .u64 0)))]
def T4:Rg:=[iI 7 0]
def T5:Rg:=[iM 9 7,iM 10 0,iN 11 10,iB 12 .lss 9 11,iM 13 12,gM 14 7 13 false,gM 15 1 13 false,gN 16 15 13 false,gB 17 .lss 14 16 13 false,iQ 18 13 17,iM 19 18,gM 20 6 19 false,iG 21 (.bin .gtr (Tm 20) (.const (.int .u64 0))) 19 false,iQ 22 19 21]
def dw:Rg:=[iM 25 6,iM 8 25]
def dx:Rg:=[iM 26 7,iM 27 0,iN 28 27,iB 29 .lss 26 28]
def dy:Rg:=[iM 30 8,iM 31 0,iM 32 7,iX 33 1 31 32,iL 34 33,iA 35 (.conv .u64 (Tm 34)),iB 36 .add 30 35,iM 8 36]
def LZ:Rg:=[iM 37 7,iM 38 1,iN 39 38,iB 40 .lss 37 39]
def MA:Rg:=[iM 41 8,iM 42 1,iM 43 7,iX 44 1 42 43,iL 45 44,iA 46 (.conv .u64 (Tm 45)),iB 47 .add 41 46,iM 8 47]
def BZ:Rg:=[iM 48 5,iM 49 8,iA 50 (.conv .u32 (Tm 49)),iA 51 (.a6B true 1 1 [(.int .u32 0)] [(0,(Tm 50))]),iA 52 (.append 1 4 (Tm 48) (Tm 51)),iM 5 52]
def CA:Rg:=[iM 53 8,iA 54 (.bin .shr (Tm 53) (.const (.int .u64 32))),iM 6 54]
def CB:Rg:=[iM 23 7,iC 24 .add 23 1,iM 7 24]
def Eg:aC:=(.seq (sq T5 (.cond (Tm 22) .skip (.exit 0))) (.seq (.block 1 (sq dw (.seq (sq dx (.cond (Tm 29) (.region dy) .skip)) (.seq (sq LZ (.cond (Tm 40) (.region MA) .skip)) (sq BZ (.region CA)))))) (.region CB)))
def TP:Rg:=[iM 55 5,iK 56 38 55,iM 4 56]
def LY:aC:=(sq T1 (sq T2 (sq T3 (.seq (sq T4 (.block 0 (.loop Eg))) (sq TP .ret)))))
def aMV:List Nat:=[51]
def Hm:aS:=⟨2,57,LY,[.tmp 4]⟩
def Ei:Rg:=[iZ 4]
def Ej:Rg:=[iM 10 0,iN 11 10,iM 12 1,iN 13 12,iB 14 .add 11 13,iA 15 (.a6D 1 4 [(.int .u32 0)] (Tm 14) (Tm 14)),iM 5 15]
def Ek:Rg:=[iI 6 0]
def El:Rg:=[iM 16 6,iM 17 0,iN 18 17,iB 19 .lss 16 18]
def TS:Rg:=[iA 7 (.mv (.const (.int .u64 0)))]
def TT:Rg:=[iI 8 0]
def Em:Rg:=[iM 22 8,iM 23 1,iN 24 23,iB 25 .lss 22 24]
def En:Rd:=[(iM 28 0,false),(iM 29 6,false),(iX 30 1 28 29,false),(iL 31 30,false),(iA 32 (.conv .u64 (Tm 31)),false),(iM 33 1,false),(iM 34 8,false),(iX 35 1 33 34,false),(iL 36 35,false),(iA 37 (.conv .u64 (Tm 36)),false),(iB 38 .mul 32 37,false),(iM 39 5,false),(iM 40 6,false),(iM 41 8,false),(iB 42 .add 40 41,false),(iX 43 1 39 42,false),(iL 44 43,false),(iA 45 (.conv .u64 (Tm 44)),false),(iB 46 .add 38 45,false),(iM 47 7,false),(iB 48 .add 46 47,false),(iM 9 48,false)]
def Eo:Rg:=[iM 49 5,iM 50 6,iM 51 8,iB 52 .add 50 51,iM 53 9,iA 54 (.conv .u32 (Tm 53)),iX 55 1 49 52,iS 1 55 54]
def Ep:Rg:=[iM 56 9,iA 57 (.bin .shr (Tm 56) (.const (.int .u64 32))),iM 7 57]
def p8:Rg:=[iM 26 8,iC 27 .add 26 1,iM 8 27]
def MB:aC:=(.seq (sq Em (.cond (Tm 25) .skip (.exit 2))) (.seq (.block 3 (dq En (sq Eo (.region Ep)))) (.region p8)))
def MC:Rg:=[iM 58 5,iM 59 6,iM 60 1,iN 61 60,iB 62 .add 59 61,iM 63 7,iA 64 (.conv .u32 (Tm 63)),iX 65 1 58 62,iS 1 65 64]
def p9:Rg:=[iM 20 6,iC 21 .add 20 1,iM 6 21]
def p7:aC:=(.seq (sq El (.cond (Tm 19) .skip (.exit 0))) (.seq (.block 1 (sq TS (.seq (sq TT (.block 2 (.loop MB))) (.region MC)))) (.region p9)))
def qa:Rg:=[iM 66 5,iK 67 38 66,iM 4 67]
def EN:aC:=(sq Ei (sq Ej (.seq (sq Ek (.block 0 (.loop p7))) (sq qa .ret))))
def aBU:List Nat:=[]
def p6:aS:=⟨2,68,EN,[.tmp 4]⟩
def aeR:Rg:=[iZ 4,iI 5 0]
def aeS:Rg:=[iM 7 0,iK 8 41 7,iM 9 8,gM 10 1 9 false,gK 11 41 10 9 false,iQ 12 9 11]
def xa:Rg:=[iZ 4,iI 5 2]
def aeT:Rg:=[iM 13 0,iK 14 38 13,iM 15 1,iK 16 38 15,iK2 17 43 14 16,iM 6 17]
def aeU:Rg:=[iM 18 6,iK 19 41 18]
def aeV:Rg:=[iZ 4,iI 5 2]
def aeW:Rg:=[iM 20 6,iM 4 20,iI 5 0]
def TF:aC:=(sq aeR (.seq (sq aeS (.cond (Tm 12) (sq xa .ret) .skip)) (sq aeT (.seq (sq aeU (.cond (Tm 19) (sq aeV .ret) .skip)) (sq aeW .ret)))))
def aTM:List Nat:=[]
def apQ:aS:=⟨2,21,TF,[.tmp 4,.tmp 5]⟩
def agH:Rg:=[iZ 4,iI 5 0]
def agI:Rg:=[iM 6 0,iK 7 41 6,iM 8 7,gM 9 1 8 false,gK 10 41 9 8 false,iQ 11 8 10]
def xe:Rg:=[iZ 4,iI 5 2]
def agJ:Rg:=[iM 12 0,iM 13 1,iK2 14 32 12 13,iC 15 .lss 14 0]
def agK:Rg:=[iZ 4,iI 5 4]
def agL:Rg:=[iM 16 0,iK 17 38 16,iM 18 1,iK 19 38 18,iK2 20 42 17 19,iM 4 20,iI 5 0]
def TR:aC:=(sq agH (.seq (sq agI (.cond (Tm 11) (sq xe .ret) .skip)) (.seq (sq agJ (.cond (Tm 15) (sq agK .ret) .skip)) (sq agL .ret))))
def aTT:List Nat:=[]
def aqA:aS:=⟨2,21,TR,[.tmp 4,.tmp 5]⟩
def afZ:Rg:=[iZ 4,iI 5 0]
def agA:Rg:=[iM 7 0,iK 8 41 7,iM 9 8,gM 10 1 9 false,gK 11 41 10 9 false,iQ 12 9 11]
def xd:Rg:=[iZ 4,iI 5 2]
def agB:Rg:=[iM 13 0,iK 14 38 13,iM 15 1,iK 16 38 15,iK2 17 44 14 16,iM 6 17]
def agC:Rg:=[iM 18 6,iK 19 41 18]
def agD:Rg:=[iZ 4,iI 5 2]
def agE:Rg:=[iM 20 6,iM 4 20,iI 5 0]
def TN:aC:=(sq afZ (.seq (sq agA (.cond (Tm 12) (sq xd .ret) .skip)) (sq agB (.seq (sq agC (.cond (Tm 19) (sq agD .ret) .skip)) (sq agE .ret)))))
def aTQ:List Nat:=[]
def apX:aS:=⟨2,21,TN,[.tmp 4,.tmp 5]⟩
def S4:Rg:=[iI 2 0]
def S5:Rg:=[iM 5 0,iK 6 38 5,iM 0 6]
def S6:Rg:=[iM 7 0,iN 8 7,iC 9 .eql 8 0]
def S7:Rg:=[iI 2 0]
def S8:Rg:=[iM 10 0,iN 11 10,iC 12 .sub 11 1,iA 13 (.bin .mul (Ci 32) (Tm 12)),iM 3 13]
def S9:Rg:=[iM 14 0,iM 15 0,iN 16 15,iC 17 .sub 16 1,iX 18 1 14 17,iL 19 18,iM 4 19]
def Ta:Rg:=[iM 20 4,iA 21 (.bin .gtr (Tm 20) (.const (.int .u32 0)))]
def Tb:Rg:=[iM 24 3,iC 25 .add 24 1,iM 3 25]
def Tc:Rg:=[iM 22 4,iA 23 (.bin .quo (Tm 22) (.const (.int .u32 2))),iM 4 23]
def S1:aC:=(.seq (sq Ta (.cond (Tm 21) .skip (.exit 0))) (.seq (.block 1 (.region Tb)) (.region Tc)))
def Dz:Rg:=[iM 26 3,iM 2 26]
def LM:aC:=(sq S4 (sq S5 (.seq (sq S6 (.cond (Tm 9) (sq S7 .ret) .skip)) (sq S8 (.seq (sq S9 (.block 0 (.loop S1))) (sq Dz .ret))))))
def aML:List Nat:=[]
def Hj:aS:=⟨1,27,LM,[.tmp 2]⟩
def aBW:Rg:=[iZ 4]
def aBX:Rg:=[iM 9 0,iN 10 9,iC 11 .eql 10 0]
def aBY:Rg:=[iZ 4]
def aBZ:Rg:=[iM 12 1,iC 13 .quo 12 32,iA 14 (.a6D 1 4 [(.int .u32 0)] (Tm 13) (Tm 13)),iM 5 14]
def aCA:Rg:=[iA 6 (.mv (.const (.int .u64 0)))]
def aCB:Rg:=[iI 7 0]
def aCC:Rg:=[iM 15 7,iM 16 0,iN 17 16,iB 18 .lss 15 17]
def aCD:Rg:=[iM 21 0,iM 22 7,iX 23 1 21 22,iL 24 23,iA 25 (.conv .u64 (Tm 24)),iM 26 1,iC 27 .rem 26 32,iA 28 (.conv .u64 (Tm 27)),iB 29 .shl 25 28,iM 30 6,iB 31 .or 29 30,iM 8 31]
def aCE:Rg:=[iM 32 5,iM 33 8,iA 34 (.conv .u32 (Tm 33)),iA 35 (.a6B true 1 1 [(.int .u32 0)] [(0,(Tm 34))]),iA 36 (.append 1 4 (Tm 32) (Tm 35)),iM 5 36]
def aCF:Rg:=[iM 37 8,iA 38 (.bin .shr (Tm 37) (.const (.int .u64 32))),iM 6 38]
def agN:Rg:=[iM 19 7,iC 20 .add 19 1,iM 7 20]
def agM:aC:=(.seq (sq aCC (.cond (Tm 18) .skip (.exit 0))) (.seq (.block 1 (sq aCD (sq aCE (.region aCF)))) (.region agN)))
def agO:Rg:=[iM 39 5,iM 40 6,iA 41 (.conv .u32 (Tm 40)),iA 42 (.a6B true 1 1 [(.int .u32 0)] [(0,(Tm 41))]),iA 43 (.append 1 4 (Tm 39) (Tm 42)),iK 44 38 43,iM 4 44]
def d3:aC:=(sq aBW (.seq (sq aBX (.cond (Tm 11) (sq aBY .ret) .skip)) (sq aBZ (sq aCA (.seq (sq aCB (.block 0 (.loop agM))) (sq agO .ret))))))
def aXL:List Nat:=[35,42]
def uup:aS:=⟨2,45,d3,[.tmp 4]⟩
def Tj:Rg:=[iZ 4]
def Tk:Rg:=[iM 8 1,iC 9 .quo 8 32,iM 10 0,iN 11 10,iB 12 .geq 9 11]
def Tl:Rg:=[iZ 4]
def Tn:Rg:=[iZ 5]
def To:Rg:=[iM 13 1,iC 14 .quo 13 32,iM 6 14]
def Tq:Rg:=[iM 15 6,iM 16 0,iN 17 16,iB 18 .lss 15 17]
def Tr:Rg:=[iM 21 0,iM 22 6,iX 23 1 21 22,iL 24 23,iA 25 (.conv .u64 (Tm 24)),iM 7 25]
def Ts:Rg:=[iM 26 6,iC 27 .add 26 1,iM 28 0,iN 29 28,iB 30 .lss 27 29]
def Tt:Rg:=[iM 31 7,iM 32 0,iM 33 6,iC 34 .add 33 1,iX 35 1 32 34,iL 36 35,iA 37 (.conv .u64 (Tm 36)),iA 38 (.bin .shl (Tm 37) (.const (.int .u64 32))),iB 39 .or 31 38,iM 7 39]
def dt:Rg:=[iM 40 5,iM 41 7,iM 42 1,iC 43 .rem 42 32,iA 44 (.conv .u64 (Tm 43)),iB 45 .shr 41 44,iA 46 (.conv .u32 (Tm 45)),iA 47 (.a6B true 1 1 [(.int .u32 0)] [(0,(Tm 46))]),iA 48 (.append 1 4 (Tm 40) (Tm 47)),iM 5 48]
def TJ:Rg:=[iM 19 6,iC 20 .add 19 1,iM 6 20]
def D0:aC:=(.seq (sq Tq (.cond (Tm 18) .skip (.exit 0))) (.seq (.block 1 (sq Tr (.seq (sq Ts (.cond (Tm 30) (.region Tt) .skip)) (.region dt)))) (.region TJ)))
def D1:Rg:=[iM 49 5,iK 50 38 49,iM 4 50]
def LQ:aC:=(sq Tj (.seq (sq Tk (.cond (Tm 12) (sq Tl .ret) .skip)) (sq Tn (.seq (sq To (.block 0 (.loop D0))) (sq D1 .ret)))))
def aMO:List Nat:=[47]
def Hk:aS:=⟨2,51,LQ,[.tmp 4]⟩
def Fg:Rg:=[iA 1 (.box true (Tm 0)),iT 2 false]
def Fh:Rg:=[iF 3 2 1,iL 4 3,iK 5 38 4,iN 6 5,iC 7 .gtr 6 0,iM 8 7,gF 9 2 1 8 true,gL 10 9 8 true,gK 11 38 10 8 true,gN 12 11 8 true,gC 13 .leq 12 128 8 true,iP 14 8 13,iM 15 14,gF 16 1 1 15 true,gL 17 16 15 true,gK 18 38 17 15 true,gN 19 18 15 true,gC 20 .leq 19 128 15 true,iP 21 15 20,iM 2 21]
def ER:aC:=(sq Fg (sq Fh .ret))
def aCL:List Nat:=[1]
def qv:aS:=⟨1,22,ER,[.tmp 2]⟩
def Eu:Rg:=[iA 1 (.box true (Tm 0)),iT 2 false]
def Ew:Rg:=[iF 3 1 1,iL 4 3,iN 5 4,iC 6 .gtr 5 128,iM 7 6,gF 8 2 1 7 false,gL 9 8 7 false,gN 10 9 7 false,gC 11 .gtr 10 128 7 false,iQ 12 7 11,iM 2 12]
def EO:aC:=(sq Eu (sq Ew .ret))
def aCI:List Nat:=[1]
def qc:aS:=⟨1,13,EO,[.tmp 2]⟩
def Uh:Rg:=[iA 1 (.box true (Tm 0)),iA 2 (.alloc [zB,.aB,.aB]),iI 3 0]
def Ui:Rg:=[iO 4 3 1,iK 5 48 4]
def Uj:Rg:=[iA 6 (.build [zB,.aB,.aB] []),iS 3 2 6,iI 3 2]
def Uk:Rg:=[iO 7 3 1,iS 3 2 7,iI 3 0]
def MF:aC:=(sq Uh (.seq (sq Ui (.cond (Tm 5) (sq Uj .ret) .skip)) (sq Uk .ret)))
def aMZ:List Nat:=[1]
def Hu:aS:=⟨1,8,MF,[.cell 2 (some 3),.tmp 3]⟩
def qp:Rg:=[iA 1 (.box true (Tm 0)),iA 2 (.alloc [zB,.aB,.aB]),iI 3 0]
def qq:Rg:=[iO 4 3 1,iK 5 56 4,iA 6 (.un .not (Tm 5))]
def qr:Rg:=[iA 7 (.build [zB,.aB,.aB] []),iS 3 2 7,iI 3 1]
def qt:Rg:=[iF 8 0 1,iL 9 8,iF 10 1 1,iL 11 10,iF 12 2 1,iL 13 12,iA 14 (.call 58 [(Tm 9),(Tm 11),(Tm 13)]),iS 3 2 14,iI 3 0]
def AJ:aC:=(sq qp (.seq (sq qq (.cond (Tm 6) (sq qr .ret) .skip)) (sq qt .ret)))
def aqH:List Nat:=[1]
def VS:aS:=⟨1,15,AJ,[.cell 2 (some 3),.tmp 3]⟩
def Fc:Rg:=[iZ 4]
def Fd:Rg:=[iM 8 0,iM 9 1,iK2 10 36 8 9,iM 7 10,iE 11 7 0,iE 12 7 1,iM 5 11,iM 6 12]
def Fe:Rg:=[iM 13 5,iM 4 13]
def EQ:aC:=(sq Fc (sq Fd (sq Fe .ret)))
def aCK:List Nat:=[]
def qu:aS:=⟨2,14,EQ,[.tmp 4]⟩
def Ey:Rg:=[iA 2 (.box true (Tm 0)),iA 3 (.box true (Tm 1)),iI 4 0]
def Ez:Rd:=[(iF 9 1 2,false),(iL 10 9,false),(iF 11 2 3,false),(iL 12 11,false),(iK2 13 60 10 12,true),(iF 14 1 3,true),(iL 15 14,true),(iF 16 2 2,true),(iL 17 16,true),(iK2 18 60 15 17,true),(iM 5 13,false),(iM 6 18,false)]
def E0:Rg:=[iF 19 0 2,iL 20 19,iM 21 20,gM 22 5 21 true,gN 23 22 21 true,gC 24 .gtr 23 0 21 true,iP 25 21 24,iF 26 0 3,iL 27 26,iM 28 27,gM 29 6 28 true,gN 30 29 28 true,gC 31 .gtr 30 0 28 true,iP 32 28 31,iM 7 25,iM 8 32]
def E4:Rg:=[iM 34 7,iM 35 34,gM 36 8 35 true,iG 37 (.un .not (Tm 36)) 35 true,iP 38 35 37,iM 33 38]
def E5:Rg:=[iI 4 (-1)]
def E6:Rg:=[iM 40 8,iM 41 40,gM 42 7 41 true,iG 43 (.un .not (Tm 42)) 41 true,iP 44 41 43,iM 39 44]
def E7:Rg:=[iI 4 1]
def E8:Rg:=[iM 46 7,iM 45 46]
def E9:Rg:=[iM 47 6,iM 48 5,iK2 49 32 47 48,iM 4 49]
def Fa:Rg:=[iM 50 5,iM 51 6,iK2 52 32 50 51,iM 4 52]
def EP:aC:=(sq Ey (dq Ez (sq E0 (.seq (.block 0 (sq E4 (.cond (Tm 33) (sq E5 .ret) (sq E6 (.cond (Tm 39) (sq E7 .ret) (sq E8 (.cond (Tm 45) (sq E9 .ret) .skip))))))) (sq Fa .ret)))))
def aCJ:List Nat:=[2,3]
def ql:aS:=⟨2,53,EP,[.tmp 4]⟩
def Un:Rg:=[iA 2 (.box true (Tm 0)),iA 3 (.box true (Tm 1)),iT 4 false]
def Uo:Rg:=[iO 5 3 2,iO 6 3 3,iK2 7 51 5 6,iC 8 .lss 7 0,iM 4 8]
def MG:aC:=(sq Un (sq Uo .ret))
def aNB:List Nat:=[2,3]
def Hv:aS:=⟨2,9,MG,[.tmp 4]⟩
def Ux:Rg:=[iA 2 (.box true (Tm 0)),iA 3 (.box true (Tm 1)),iT 4 false]
def Uy:Rg:=[iO 5 3 2,iO 6 3 3,iK2 7 51 5 6,iC 8 .eql 7 0,iM 4 8]
def MK:aC:=(sq Ux (sq Uy .ret))
def aND:List Nat:=[2,3]
def Hx:aS:=⟨2,9,MK,[.tmp 4]⟩
def U1:Rg:=[iA 1 (.box true (Tm 0)),iI 2 0]
def U2:Rd:=[(iO 3 3 1,true),(iA 4 (.call 47 [(Ci 0)]),true),(iK2 5 51 3 4,true),(iM 2 5,false)]
def ML:aC:=(sq U1 (dq U2 .ret))
def aNE:List Nat:=[1]
def Hy:aS:=⟨1,6,ML,[.tmp 2]⟩
def agQ:Rg:=[iA 2 (.box true (Tm 0)),iA 3 (.box true (Tm 1)),iA 4 (.alloc [zB,.aB,.aB]),iI 5 0]
def agR:Rg:=[iO 15 3 2,iK 16 56 15,iA 17 (.un .not (Tm 16)),iM 18 17,gO 19 3 3 18 false,gK 20 56 19 18 false,iG 21 (.un .not (Tm 20)) 18 false,iQ 22 18 21]
def xf:Rg:=[iA 23 (.build [zB,.aB,.aB] []),iS 3 4 23,iI 5 1]
def agS:Rd:=[(iF 24 1 2,false),(iL 25 24,false),(iF 26 2 3,false),(iL 27 26,false),(iK2 28 60 25 27,true),(iF 29 1 3,true),(iL 30 29,true),(iF 31 2 2,true),(iL 32 31,true),(iK2 33 60 30 32,true),(iF 34 2 2,true),(iL 35 34,true),(iF 36 2 3,true),(iL 37 36,true),(iK2 38 60 35 37,true),(iM 6 28,false),(iM 7 33,false),(iM 8 38,false)]
def agT:Rg:=[iF 39 0 2,iL 40 39,iF 41 0 3,iL 42 41,iA 43 (.eqb false (Tm 40) (Tm 42))]
def agU:Rg:=[iM 45 6,iM 46 7,iK2 47 30 45 46,iM 44 47,iE 48 44 0,iE 49 44 1,iM 9 48,iM 10 49]
def agV:Rg:=[iF 50 0 2,iL 51 50,iM 52 9,iM 53 8,iA 54 (.call 58 [(Tm 51),(Tm 52),(Tm 53)]),iK 55 57 54,iE 56 55 0,iE 57 55 1,iS 3 4 56,iM 5 57]
def agW:Rg:=[iM 58 6,iM 59 7,iK2 60 32 58 59,iC 61 .geq 60 0]
def agX:Rg:=[iM 63 6,iM 64 7,iK2 65 37 63 64,iM 62 65,iE 66 62 0,iE 67 62 1,iM 11 66,iM 12 67]
def agY:Rg:=[iF 68 0 2,iL 69 68,iM 70 11,iM 71 8,iA 72 (.call 58 [(Tm 69),(Tm 70),(Tm 71)]),iK 73 57 72,iE 74 73 0,iE 75 73 1,iS 3 4 74,iM 5 75]
def Ud:Rg:=[iM 77 7,iM 78 6,iK2 79 37 77 78,iM 76 79,iE 80 76 0,iE 81 76 1,iM 13 80,iM 14 81]
def Ue:Rg:=[iF 82 0 3,iL 83 82,iM 84 13,iM 85 8,iA 86 (.call 58 [(Tm 83),(Tm 84),(Tm 85)]),iK 87 57 86,iE 88 87 0,iE 89 87 1,iS 3 4 88,iM 5 89]
def CC:aC:=(sq agQ (.seq (sq agR (.cond (Tm 22) (sq xf .ret) .skip)) (dq agS (.seq (sq agT (.cond (Tm 43) (sq agU (sq agV .ret)) .skip)) (.seq (sq agW (.cond (Tm 61) (sq agX (sq agY .ret)) .skip)) (sq Ud (sq Ue .ret)))))))
def aTU:List Nat:=[2,3]
def Uc:aS:=⟨2,90,CC,[.cell 4 (some 3),.tmp 5]⟩
def ahE:Rg:=[iA 2 (.alloc [zB,.aB,.aB]),iI 3 0]
def ahF:Rg:=[iA 8 (.call 47 [(Ci 0)]),iA 4 (.alloc [zB,.aB,.aB]),iS 3 4 8]
def ahG:Rg:=[iI 5 0]
def ahH:Rg:=[iM 9 5,iM 10 0,iN 11 10,iB 12 .lss 9 11]
def ahI:Rd:=[(iO 16 3 4,false),(iM 17 0,false),(iM 18 5,false),(iX 19 3 17 18,false),(iO 20 3 19,false),(iK2 21 46 16 20,true),(iM 15 21,false),(iE 22 15 0,false),(iE 23 15 1,true),(iA 6 (.alloc [zB,.aB,.aB]),true),(iS 3 6 22,true),(iM 7 23,false)]
def xh:Rg:=[iM 24 7,iC 25 .neq 24 0]
def ahJ:Rg:=[iA 26 (.build [zB,.aB,.aB] []),iM 27 7,iS 3 2 26,iM 3 27]
def ahK:Rg:=[iO 28 3 6,iS 3 4 28]
def ahL:Rg:=[iM 13 5,iC 14 .add 13 1,iM 5 14]
def ahC:aC:=(.seq (sq ahH (.cond (Tm 12) .skip (.exit 0))) (.seq (.block 1 (dq ahI (.seq (sq xh (.cond (Tm 25) (sq ahJ .ret) .skip)) (.region ahK)))) (.region ahL)))
def U8:Rg:=[iO 29 3 4,iS 3 2 29,iI 3 0]
def TW:aC:=(sq ahE (sq ahF (.seq (sq ahG (.block 0 (.loop ahC))) (sq U8 .ret))))
def aTX:List Nat:=[]
def aqI:aS:=⟨1,30,TW,[.cell 2 (some 3),.tmp 3]⟩
def uL:Rg:=[iT 4 false]
def uM:Rg:=[iM 5 0,iC 6 .geq 5 1,iM 7 6,gM 8 0 7 true,gC 9 .leq 8 6 7 true,iP 10 7 9,iM 11 10,gM 12 1 11 true,gC 13 .geq 12 0 11 true,iP 14 11 13,iM 15 14,gM 16 1 15 true,gC 17 .leq 16 4 15 true,iP 18 15 17,iM 19 18,gM 20 0 19 true,gM 21 1 19 true,gB 22 .add 20 21 19 true,gC 23 .leq 22 8 19 true,iP 24 19 23,iM 4 24]
def nS:aC:=(sq uL (sq uM .ret))
def aIR:List Nat:=[]
def BT:aS:=⟨2,25,nS,[.tmp 4]⟩
def rx:Rg:=[iT 2 false]
def ry:Rg:=[iM 3 0,iA 4 (.bin .geq (Tm 3) (.const (.int .u8 97))),iM 5 4,gM 6 0 5 true,iG 7 (.bin .leq (Tm 6) (.const (.int .u8 122))) 5 true,iP 8 5 7,iM 9 8,gM 10 0 9 false,iG 11 (.bin .geq (Tm 10) (.const (.int .u8 65))) 9 false,gM 12 11 9 false,gM 13 0 12 true,iG 14 (.bin .leq (Tm 13) (.const (.int .u8 90))) 12 true,iG 15 (.pick (Tm 12) (Tm 14) (.const zB)) 9 false,iQ 16 9 15,iM 2 16]
def AM:aC:=(sq rx (sq ry .ret))
def aqL:List Nat:=[]
def VV:aS:=⟨1,17,AM,[.tmp 2]⟩
def Fk:Rg:=[iT 2 false]
def Fl:Rg:=[iM 3 0,iA 4 (.bin .geq (Tm 3) (.const (.int .u8 48))),iM 5 4,gM 6 0 5 true,iG 7 (.bin .leq (Tm 6) (.const (.int .u8 57))) 5 true,iP 8 5 7,iM 2 8]
def ET:aC:=(sq Fk (sq Fl .ret))
def aCM:List Nat:=[]
def qx:aS:=⟨1,9,ET,[.tmp 2]⟩
def qz:Rg:=[iT 2 false]
def q9:Rg:=[iM 3 0,iK 4 65 3,iM 5 4,gM 6 0 5 false,gK 7 63 6 5 false,iQ 8 5 7,iM 9 8,gM 10 0 9 false,iG 11 (.bin .eql (Tm 10) (.const (.int .u8 45))) 9 false,iQ 12 9 11,iM 13 12,gM 14 0 13 false,iG 15 (.bin .eql (Tm 14) (.const (.int .u8 46))) 13 false,iQ 16 13 15,iM 2 16]
def AK:aC:=(sq qz (sq q9 .ret))
def aqJ:List Nat:=[]
def VT:aS:=⟨1,17,AK,[.tmp 2]⟩
def rg:Rg:=[iT 2 false]
def rh:Rg:=[iM 4 0,iA 5 (.a6V (Tm 4)),iC 6 .lss 5 1,iM 7 6,gM 8 0 7 false,iG 9 (.a6V (Tm 8)) 7 false,gC 10 .gtr 9 16 7 false,iQ 11 7 10,iM 12 11,gM 13 0 12 false,iG 14 (.a6W (Tm 13) (Ci 0)) 12 false,gK 15 65 14 12 false,iG 16 (.un .not (Tm 15)) 12 false,iQ 17 12 16]
def xQ:Rg:=[iT 2 false]
def ri:Rg:=[iI 3 0]
def rj:Rg:=[iM 18 3,iM 19 0,iA 20 (.a6V (Tm 19)),iB 21 .lss 18 20]
def rk:Rg:=[iM 24 0,iM 25 3,iA 26 (.a6W (Tm 24) (Tm 25)),iK 27 64 26,iA 28 (.un .not (Tm 27))]
def rp:Rg:=[iT 2 false]
def rt:Rg:=[iM 22 3,iC 23 .add 22 1,iM 3 23]
def rc:aC:=(.seq (sq rj (.cond (Tm 21) .skip (.exit 0))) (.seq (.block 1 (sq rk (.cond (Tm 28) (sq rp .ret) .skip))) (.region rt)))
def ru:Rg:=[iT 2 true]
def AL:aC:=(sq rg (.seq (sq rh (.cond (Tm 17) (sq xQ .ret) .skip)) (.seq (sq ri (.block 0 (.loop rc))) (sq ru .ret))))
def aqK:List Nat:=[]
def VU:aS:=⟨1,29,AL,[.tmp 2]⟩
theorem qH (P:List Nat) (v:Nat):aL P++[[.int .u32 (v:Int)]]=aL (P++[v]):=by simp[aL]
theorem qG {P:List Nat} (h:P.length≤35184372087808):roomFor (aL P).length 1 4:=by
 unfold roomFor;rw[cA];simp only[maxLen]; omega
def VO (a b:List Nat) (v:PV) (c i:Nat):PF:=(((((PF.nil.set 0 (aJ a)).set 1 (aJ b)).set 5 (v)).set 6 (.int .u64 c)).set 7 (.int .i64 i))
theorem D5 {C:Ctx} (L:oQ C) (a b:List Nat) (ha:Lim a) (hb:Lim b) (η:val b≤val a) (hl:b.length≤a.length) (h1:a.length≤35184372087808) :
  EM.wp C (aV pt.res (bY (aJ (aI (val a-val b))))) (PF.args [aJ a,aJ b]) .nil:=by
 simp only[go_sem,EM,D6,D7,D8,D9,pt];refine wp_loop (α:=List Nat × Nat × PV × PH) (fun s=>VO a b s.2.2.1 s.2.1 s.1.length) (fun s=>s.2.2.2)
  (fun s=>s.1.length≤a.length∧Lim s.1∧s.2.1≤1∧val (a.take s.1.length)+4294967296 ^ s.1.length*s.2.1=val s.1+val (b.take s.1.length)∧bQ s.2.2.2 1 s.2.2.1 (aL s.1)) (fun s=>a.length-s.1.length) ([],0,.aB,.nil) ⟨by simp,by simp[Lim],by simp,by simp[val],.nil⟩ ?_ a_ ?_
 ·unfold VO;exact Lq
 rintro⟨P,c,v,H0⟩ ⟨hP,i,hc,w,S⟩;simp only at hP i hc w S ⊢;simp only[go_sem,pu,Ea,VO];by_cases U:P.length<a.length
 ·have B:(P.length:Int)<(a.length:Nat):=Om;have ε:=ha _ (a7J U);have δ:=cF a U;have β:(aL a)[P.length]?=some [.int .u32 ((a[P.length]:Nat):Int)]:=bU a U;generalize hx:a[P.length]=x at *
  have ex:IntKind.u64.wrap ((x:Nat):Int)=((x:Nat):Int):=bE Om;have fin:∀ (t:Nat) (A:PF),t<4294967296→val (b.take (P.length+1))=val (b.take P.length)+4294967296 ^ P.length*t →
    A 0=some (aJ a)→A 1=some (aJ b)→A 5=some v→A 8=some (.int .u64 (c+t:Nat))→A 7=some (.int .i64 P.length) →
    ∀ K:bR,(∀ u l v' R H2,u.length=P.length+1→Lim u→l≤1→val (a.take (P.length+1))+4294967296 ^ u.length*l=val u+val (b.take (P.length+1))→(VO a b v' l u.length).le R→bQ H2 1 v' (aL u)→K .normal R H2) →
    aC.wp C (.seq (.region TL) (.seq (.region TM) (.seq (.seq (.region LT) (.cond (.tmp 35) (.seq (.region LW) (.region LX)) .skip)) (.region xN)))) (eX 1 (gE C (aC.wp C (.region xO)) K)) A H0:=by
   intro t A ht q g0 g1 g5 Z Y K hK;have step:∀ (d l:Nat),d<4294967296→l≤1→x+4294967296*l=d+(c+t)→val (a.take (P.length+1))+4294967296 ^ (P.length+1)*l=val (P++[d])+val (b.take (P.length+1)):=by
    intro d l hd ζ he;have h2:4294967296 ^ P.length*(x+4294967296*l)=4294967296 ^ P.length*(d+(c+t)):=by rw[he]
    rw[a7V,a7V,a7V] at h2;rw[jL,a9D,a8H,δ,q];omega
   simp only[go_sem,TL,g0,Y,β,ex,TM,LT,Z];by_cases c2:x<c+t
   ·have E:((x:Nat):Int)<((c+t:Nat):Int):=Om;have N:IntKind.u64.wrap ((x:Int)+4294967296)=((x+4294967296:Nat):Int):=by rw[show (x:Int)+4294967296=((x+4294967296:Nat):Int) by omega];exact bE Om
    have H:IntKind.u64.wrap (((x+4294967296:Nat):Int)-((c+t:Nat):Int))=((x+4294967296-(c+t):Nat):Int):=by rw[show ((x+4294967296:Nat):Int)-((c+t:Nat):Int)=((x+4294967296-(c+t):Nat):Int) by omega];exact bE Om
    have J:IntKind.u32.wrap ((x+4294967296-(c+t):Nat):Int)=((x+4294967296-(c+t):Nat):Int):=by rw[cL,a8T Om]
    have M:(1:Nat)*1≤16777216:=by decide
    simp only[go_sem,E,LW,N,LX,xN,g5,Z,H,J,M];refine fI (src:=[[.int .u32 ((x+4294967296-(c+t):Nat):Int)]]) S rfl (qG Om) fun v' H' p _=>?_;rw[qH] at p;simp only[go_sem,xO,Y,cZ (Om:P.length<9223372036854775807)];refine hK _ 1 v' _ H' (by simp) (i.app fun y Q=>by simp at Q; subst Q; omega) (a7M _) ?_ ?_ p
    ·rw[a7O,a7S];exact step _ 1 Om (a7M _) Om
    ·unfold VO;rw[a7O,a7S];exact Lq
   ·have E:¬ ((x:Nat):Int)<((c+t:Nat):Int):=Om;have H:IntKind.u64.wrap (((x:Nat):Int)-((c+t:Nat):Int))=((x-(c+t):Nat):Int):=by rw[show ((x:Nat):Int)-((c+t:Nat):Int)=((x-(c+t):Nat):Int) by omega];exact bE Om
    have J:IntKind.u32.wrap ((x-(c+t):Nat):Int)=((x-(c+t):Nat):Int):=by rw[cL,a8T Om]
    have M:(1:Nat)*1≤16777216:=by decide
    simp only[go_sem,E,xN,g5,Z,H,J,M];refine fI (src:=[[.int .u32 ((x-(c+t):Nat):Int)]]) S rfl (qG Om) fun v' H' p _=>?_;rw[qH] at p;simp only[go_sem,xO,Y,cZ (Om:P.length<9223372036854775807)];refine hK _ 0 v' _ H' (by simp) (i.app fun y Q=>by simp at Q; subst Q; omega) (by decide) ?_ ?_ p
    ·rw[a7O,a7S];exact step _ 0 Om (by decide) Om
    ·unfold VO;rw[a7O,a7S];exact Lq
  simp only[aC.wp,go_sem] at fin;simp only[go_sem,B,Eb,Ec];by_cases V:P.length<b.length
  ·have F:(P.length:Int)<(b.length:Nat):=Om;have γ:=hb _ (a7J V);have q:=cF b V;have eb:IntKind.u64.wrap ((b[P.length]:Nat):Int)=((b[P.length]:Nat):Int):=bE Om;have es:IntKind.u64.wrap ((c:Int)+(b[P.length]:Int))=((c+b[P.length]:Nat):Int):=fD Om;simp only[go_sem,F,Ed,bU b V,eb,es];refine fin b[P.length] _ γ q rfl rfl rfl rfl rfl _ ?_;intro u l v' R H2 N H J O W X;rw[← N] at O;exact aD (α:=List Nat × Nat × PV × PH) (u,l,v',H2) ⟨by simp only; omega,H,J,O,X⟩ (by simp only; omega) W b_
  ·have F:¬ (P.length:Int)<(b.length:Nat):=Om;have q:val (b.take (P.length+1))=val (b.take P.length)+4294967296 ^ P.length*0:=by rw[a8C Om,a8C Om]; simp
   simp only[go_sem,F];refine fin 0 _ (by decide) q rfl rfl rfl rfl rfl _ ?_;intro u l v' R H2 N H J O W X;rw[← N] at O;exact aD (α:=List Nat × Nat × PV × PH) (u,l,v',H2) ⟨by simp only; omega,H,J,O,X⟩ (by simp only; omega) W b_
 ·have e:P.length=a.length:=Om;have B:¬ (P.length:Int)<(a.length:Nat):=Om;have hV:val P=val a-val b:=by
   rw[e,a8I,a8C hl] at w;have hlt:=fC i;rw[e] at hlt;rcases a9Q c with h | h
   ·subst h; omega
   ·have:c=1:=Om;subst this; omega
  simp only[go_sem,B,pw];have hs:=L.trim _ i Om;rw[hV] at hs;refine tP hs S rfl fun F1 H1 _=>?_;simp only[go_sem];exact bA (.inr rfl) .nil rfl a_ ⟨.refl _,rfl⟩
def rR (a b:List Nat) (o i:Nat):PF:=((((PF.nil.set 0 (aJ a)).set 1 (aJ b)).set 5 (.osl o 1 0 (a.length+b.length))).set 6 (.int .i64 i))
def utG (a b:List Nat) (o i c j:Nat):PF:=((((((PF.nil.set 0 (aJ a)).set 1 (aJ b)).set 5 (.osl o 1 0 (a.length+b.length))).set 6 (.int .i64 i)).set 7 (.int .u64 c)).set 8 (.int .i64 j))
theorem aqB {C:Ctx} (a b:List Nat) (ha:Lim a) (hb:Lim b) (h1:a.length≤35184372087808) (h2:b.length≤35184372087808) (L:List Nat) (i:Nat) (hi:i<a.length) (N:FD a b L i) (q:Nat) (K:bR) (F:PF) (H:PH) (J:(rR a b q i).le F) (hH:H q=some (.rows 1 (aL L)))
  (hK:∀ L' F' H',FD a b L' (i+1)→(rR a b q i).le F'→H' q=some (.rows 1 (aL L'))→K .normal F' H') :
  aC.wp C (.block 1 (.seq (.region TS) (.seq (.seq (.region TT) (.block 2 (.loop MB))) (.region MC)))) K F H:=by
 have f0:=J 0 _ (by unfold rR; simp only[go_sem]; rfl);have f1:=J 1 _ (by unfold rR; simp only[go_sem]; rfl);have f5:=J 5 _ (by unfold rR; simp only[go_sem]; rfl);have f6:=J 6 _ (by unfold rR; simp only[go_sem]; rfl);have hx:=ha _ (a7J hi);have Y:=cF a hi;generalize β:a[i]=x at *
 have V:(aL a)[i]?=some [.int .u32 ((x:Nat):Int)]:=by rw[bU a hi,β]
 simp only[go_sem,TS,TT];refine wp_loop (α:=List Nat × Nat × Nat) (fun t=>utG a b q i t.2.1 t.2.2) (fun t=>PH.nil.set q (.rows 1 (aL t.1)))
  (fun t=>t.2.2≤b.length∧t.1.length=a.length+b.length∧Lim t.1∧t.2.1<4294967296∧val t.1+4294967296 ^ (i+t.2.2)*t.2.1=val (a.take i)*val b+4294967296 ^ i*(x*val (b.take t.2.2))∧∀ j y,i+b.length≤j→t.1[j]?=some y→y=0) (fun t=>b.length-t.2.2) (L,0,0)
  ⟨by simp,N.len,N.lim,by simp,by simp[val,N.v],N.z⟩ ?_ (PH.aK a_ hH) ?_
 ·unfold utG;exact Lq
 rintro⟨M,c,j⟩ ⟨hj,U,e,X,u,Q⟩;simp only at hj U e X u Q;simp only[go_sem,MB,Em,utG];by_cases R:j<b.length
 ·have w:(j:Int)<(b.length:Nat):=Om;have O:=hb _ (a7J R);have Z:=cF b R;generalize γ:b[j]=y at *
  have W:(aL b)[j]?=some [.int .u32 ((y:Nat):Int)]:=by rw[bU b R,γ]
  have d:i+j<M.length:=Om;have E:=e _ (a7J d);have p:=GK d;generalize δ:M[i+j]=z at *
  have B:(aL M)[i+j]?=some [.int .u32 ((z:Nat):Int)]:=by rw[bU M d,δ]
  have ex:IntKind.u64.wrap ((x:Nat):Int)=((x:Nat):Int):=bE Om;have ey:IntKind.u64.wrap ((y:Nat):Int)=((y:Nat):Int):=bE Om;have ez:IntKind.u64.wrap ((z:Nat):Int)=((z:Nat):Int):=bE Om;have em:=abO hx O;have ζ:x*y≤4294967295*4294967295:=baP Om Om;have e1:IntKind.u64.wrap (((x*y:Nat):Int)+(z:Int))=((x*y+z:Nat):Int):=fD Om;have e2:IntKind.u64.wrap (((x*y+z:Nat):Int)+(c:Int))=((x*y+z+c:Nat):Int):=fD Om;have A:IntKind.i64.wrap ((i:Int)+(j:Int))=((i+j:Nat):Int):=gG Om;have hlt:((i+j:Nat):Int)<((a.length+b.length:Nat):Int):=Om;generalize ht:x*y+z+c=t at *
  have ε:t<4294967296*4294967296:=Om;have l:(aL M).set (i+j) [.int .u32 ((t%4294967296:Nat):Int)]=aL (M.set (i+j) (t%4294967296)):=fN M (i+j) _;simp only[go_sem,w];refine bW .nil eT a_ ?_;simp only[go_sem,En,V,W,ex,ey,em,A,hlt,B,ez,e1,e2,Eo,cL,l,Ep,xL,p8,wZz j];refine aD (M.set (i+j) (t%4294967296),t/4294967296,j+1) ⟨by simp only; omega,by simp only[a9L]; exact U,e.set _ (a8Z _ (by decide)),by simp only; omega,?_,r9 Q _ _ Om⟩ (by simp only; omega) ?_ (PH.aK a_ Sq)
  ·simp only;have S:=p (t%4294967296);have h4:4294967296 ^ (i+(j+1))*(t/4294967296)+4294967296 ^ (i+j)*(t%4294967296)=4294967296 ^ (i+j)*t:=by rw[← a9R,a9D,a8H,← a7V,baV]
   have h5:4294967296 ^ (i+j)*t=4294967296 ^ (i+j)*(x*y)+4294967296 ^ (i+j)*z+4294967296 ^ (i+j)*c:=by rw[← ht,a7V,a7V]
   have h6:4294967296 ^ i*(x*val (b.take (j+1)))=4294967296 ^ i*(x*val (b.take j))+4294967296 ^ (i+j)*(x*y):=by rw[Z,a7V,a7V,Nat.pow_add];congr 1;rw[Nat.mul_left_comm x,a8H]
   omega
  ·exact Lq
 ·have he:j=b.length:=Om;have w:¬ (j:Int)<(b.length:Nat):=Om;subst he;have d:i+b.length<M.length:=Om;have E:M[i+b.length]=0:=Q _ _ (a7M _) (a7U d);have p:=GK d;have B:(aL M)[i+b.length]?=some [.int .u32 ((0:Nat):Int)]:=by rw[bU M d,E]
  have A:IntKind.i64.wrap ((i:Int)+(b.length:Int))=((i+b.length:Nat):Int):=gG Om;have hlt:((i+b.length:Nat):Int)<((a.length+b.length:Nat):Int):=Om;have l:(aL M).set (i+b.length) [.int .u32 ((c%4294967296:Nat):Int)]=aL (M.set (i+b.length) c):=by rw[a8T X]; exact fN M _ _
  simp only[go_sem,w,MC,A,cL,hlt,B,l];refine hK (M.set (i+b.length) c) _ _ ⟨by rw[a9L]; exact U,e.set _ X,?_,fun j y hj O=>?_⟩ (by unfold rR; exact Lq) Sq
  ·have S:=p c;rw[E,Nat.mul_zero,a9M] at S;rw[S,u,a8I,Y,a8M,a8H]
  ·rw[List.getElem?_set_ne Om] at O;exact Q j y Om O
theorem Eh {C:Ctx} (L:oQ C) (a b:List Nat) (H:Lim a) (J:Lim b) (R:a.length≤8388608) (S:b.length≤8388608) :
  EN.wp C (aV p6.res (bY (aJ (aI (val a*val b))))) (PF.args [aJ a,aJ b]) .nil:=by
 have l:IntKind.i64.wrap ((a.length:Int)+(b.length:Int))=((a.length+b.length:Nat):Int):=gG Om;have w:((a.length+b.length:Nat):Int)*((4:Nat):Int)≤140737488355328:=Om;have y:((a.length+b.length:Nat):Int)≤9223372036854775807:=Om;have N:a7K (a.length+b.length) [PV.int .u32 0]=aL (a7K (a.length+b.length) 0):=by simp[aL]
 simp only[go_sem,EN,Ei,Ej,p6,a7G,l,w,y,N];refine aR fun o U=>?_;simp only[go_sem,Ek];refine wp_loop (α:=List Nat × Nat) (fun t=>rR a b o t.2) (fun t=>PH.nil.set o (.rows 1 (aL t.1))) (fun t=>t.2≤a.length∧FD a b t.1 t.2) (fun t=>a.length-t.2) (a7K (a.length+b.length) 0,0)
  ⟨by simp,by simp,vQ _,by simp[val,sD],fun j x _ B=>by rw[List.getElem?_replicate] at B; split at B<;>simp_all⟩ ?_ (PH.aK a_ Sq) ?_
 ·unfold rR;exact Lq
 rintro⟨M,i⟩ ⟨hi,d⟩;simp only at hi d;simp only[go_sem,p7,El,rR];by_cases E:i<a.length
 ·have e:(i:Int)<(a.length:Nat):=Om;have p:=aqB (C:=C) a b H J Om Om M i E d o;simp only[go_sem] at p;simp only[go_sem,e];refine p _ _ _ (by unfold rR; exact Lq) Sq ?_;intro L' O H' u c q;have F:=c 6 _ (by unfold rR; simp only[go_sem]; rfl);have g0:=c 0 _ (by unfold rR; simp only[go_sem]; rfl);have g1:=c 1 _ (by unfold rR; simp only[go_sem]; rfl);have Q:=c 5 _ (by unfold rR; simp only[go_sem]; rfl);simp only[go_sem,p9,F,wZz i];refine aD (L',i+1) ⟨by simp only; omega,u⟩ (by simp only; omega) ?_ (PH.aK a_ q);exact Lq
 ·have K:i=a.length:=Om;subst K;have e:¬ (a.length:Int)<(a.length:Nat):=Om;have hV:val M=val a*val b:=by rw[d.v,a8I]
  simp only[go_sem,qa];have A:=L.trim _ d.lim (by rw[d.len]; omega);rw[hV] at A;refine qO (o:=o) (s:=1) (k:=a.length+b.length) (rs:=aL M) (v:=aJ (aI (val a*val b))) ?_ rfl Sq (by rw[cA,d.len]; exact a7M _) ?_
  ·rw[a8C (by rw[cA,d.len]; exact a7M _)]; exact A
  ·simp only[go_sem];exact bA (.inr rfl) .nil rfl a_ ⟨.refl _,rfl⟩
structure fy (C:Ctx):Prop extends fw C where
 minus:∀ a b,Lim a→Lim b→val b≤val a→b.length≤a.length→a.length≤35184372087808→aH C 42 [aJ a,aJ b] .nil (aF (aJ (aI (val a-val b))))
 times:∀ a b,Lim a→Lim b→a.length≤8388608→b.length≤8388608→aH C 44 [aJ a,aJ b] .nil (aF (aJ (aI (val a*val b))))
theorem afY {C:Ctx} (L:fy C) (a b:List Nat) (i:Lim a) (l:Lim b) (u:a.length≤35184372087808) (w:b.length≤35184372087808) :
  TN.wp C (aV apX.res (bY (opV (dY (val a) (val b)) (val a*val b)))) (PF.args [aJ a,aJ b]) .nil:=by
 unfold opV;simp only[go_sem,TN,afZ,agA,apX];refine aA (L.large a i u) rfl ?_;by_cases d:nl (val a)>512
 ·simp only[go_sem,d,xd];rw[if_pos (by simp[dY,d])];exact eR rfl
 simp only[go_sem,d];refine aA (L.large b l w) rfl ?_;by_cases e:nl (val b)>512
 ·simp only[go_sem,e,xd];rw[if_pos (by simp[dY,e])];exact eR rfl
 rw[if_neg (by simp[dY,d,e])];simp only[go_sem,e,agB];refine aA (L.trim a i u) rfl ?_;simp only[go_sem];refine aA (L.trim b l w) rfl ?_;simp only[go_sem];have q:=L.times (aI (val a)) (aI (val b)) (aX _) (aX _) (by rw[bB]; omega) (by rw[bB]; omega);rw[aW,aW] at q;refine aA q rfl ?_;have x:=lJ (a:=val a) (b:=val b) (m:=512) (n:=512) Om Om;have p:=L.large (aI (val a*val b)) (aX _) (by rw[bB]; omega);rw[aW] at p;simp only[go_sem,agC];refine aA p rfl ?_;unfold szV szL szE;by_cases c:nl (val a*val b)>512
 ·rw[if_pos c,if_pos c];simp only[go_sem,c,agD];exact eR rfl
 ·rw[if_neg c,if_neg c];simp only[go_sem,c,agE];exact bA (.inr rfl) .nil rfl a_ ⟨.refl _,rfl⟩
def wS (a:List Nat) (i:Nat):Nat:=a.getD i 0
theorem Jx {a:List Nat} (h:Lim a) (i:Nat):wS a i<4294967296:=by
 unfold wS;rw[a7Z];rcases a8D i a.length with h1 | h1
 ·rw[a7U h1]; exact h _ (a7J h1)
 ·rw[a8X h1]; decide
theorem ZL {a:List Nat} {i:Nat} (h:i<a.length):wS a i=a[i]:=by simp[wS,a7Z,h]
theorem PI {a:List Nat} {i:Nat} (h:¬ i<a.length):wS a i=0:=by simp[wS,a7Z,h]
theorem TU (a:List Nat) (i:Nat):val (a.take (i+1))=val (a.take i)+4294967296 ^ i*wS a i:=by
 rcases a8D i a.length with h | h
 ·rw[ZL h]; exact cF a h
 ·rw[PI Om,a8C Om,a8C Om]; simp
def tM (a b:List Nat) (v:PV) (c i:Nat):PF:=(((((PF.nil.set 0 (aJ a)).set 1 (aJ b)).set 5 (v)).set 6 (.int .u64 c)).set 7 (.int .i64 i))
theorem T0 {C:Ctx} (L:oQ C) (a b:List Nat) (ha:Lim a) (hb:Lim b) (h1:a.length≤8388608) (h2:b.length≤8388608) :
  LY.wp C (aV Hm.res (bY (aJ (aI (val a+val b))))) (PF.args [aJ a,aJ b]) .nil:=by
 simp only[go_sem,LY,T1,T2,T3,T4,Hm];refine wp_loop (α:=List Nat × Nat × PV × PH) (fun s=>tM a b s.2.2.1 s.2.1 s.1.length) (fun s=>s.2.2.2)
  (fun s=>s.1.length≤max a.length b.length+1∧(s.1.length≤max a.length b.length∨s.2.1=0)∧Lim s.1∧s.2.1≤1∧val s.1+4294967296 ^ s.1.length*s.2.1=val (a.take s.1.length)+val (b.take s.1.length)∧bQ s.2.2.2 1 s.2.2.1 (aL s.1)) (fun s=>max a.length b.length+1-s.1.length) ([],0,.aB,.nil)
  ⟨by simp,by simp,by simp[Lim],by simp,by simp[val],.nil⟩ ?_ a_ ?_
 ·unfold tM;exact Lq
 rintro⟨P,c,v,H0⟩ ⟨hP,δ,l,hc,B,hO⟩;simp only at hP δ l hc B hO ⊢;have ι:=Jx ha P.length;have κ:=Jx hb P.length;have η:=TU a P.length;have θ:=TU b P.length;generalize hx:wS a P.length=x at *
 generalize Z:wS b P.length=y at *
 have ex:IntKind.u64.wrap ((x:Nat):Int)=((x:Nat):Int):=bE Om;have ey:IntKind.u64.wrap ((y:Nat):Int)=((y:Nat):Int):=bE Om;have M:IntKind.u64.wrap ((c:Int)+(x:Int))=((c+x:Nat):Int):=fD Om;have N:IntKind.u64.wrap (((c+x:Nat):Int)+(y:Int))=((c+x+y:Nat):Int):=fD Om;have ζ:P.length<a.length→(aL a)[P.length]?=some [.int .u32 ((x:Nat):Int)]:=fun h=>by rw[bU a h,← hx,ZL h]
 have X:P.length<b.length→(aL b)[P.length]?=some [.int .u32 ((y:Nat):Int)]:=fun h=>by rw[bU b h,← Z,ZL h]
 have Y:¬ P.length<a.length→x=0:=fun h=>by rw[← hx,PI h]
 have O:¬ P.length<b.length→y=0:=fun h=>by rw[← Z,PI h]
 have body:(P.length≤max a.length b.length)→∀ K:bR,(∀ i q v' Q H2,i.length=P.length+1→Lim i→q≤1→(P.length+1≤max a.length b.length∨q=0)→val i+4294967296 ^ i.length*q=val (a.take (P.length+1))+val (b.take (P.length+1))→(tM a b v' q i.length).le Q→bQ H2 1 v' (aL i)→K .normal Q H2) →
   ∀ F:PF,(tM a b v c P.length).le F→aC.wp C (.seq (.block 1 (.seq (.region dw) (.seq (.seq (.region dx) (.cond (.tmp 29) (.region dy) .skip)) (.seq (.seq (.region LZ) (.cond (.tmp 40) (.region MA) .skip)) (.seq (.region BZ) (.region CA)))))) (.region CB)) K F H0:=by
  intro μ K hK F V;have g0:F 0=some (aJ a):=V 0 _ (by unfold tM; simp only[go_sem]);have g1:F 1=some (aJ b):=V 1 _ (by unfold tM; simp only[go_sem]);have g5:F 5=some v:=V 5 _ (by unfold tM; simp only[go_sem]);have g6:F 6=some (.int .u64 c):=V 6 _ (by unfold tM; simp only[go_sem]);have u:F 7=some (.int .i64 P.length):=V 7 _ (by unfold tM; simp only[go_sem]);have fin:∀ E:PF,E 0=some (aJ a)→E 1=some (aJ b)→E 5=some v→E 7=some (.int .i64 P.length)→E 8=some (.int .u64 (c+x+y:Nat)) →
    aC.wp C (.seq (.region BZ) (.region CA)) (eX 1 (gE C (aC.wp C (.region CB)) K)) E H0:=by
   intro E q0 q1 q5 q7 q8;have ε:(1:Nat)*1≤16777216:=by decide
   generalize ht:c+x+y=t at *
   have ν:t<2*4294967296:=Om;simp only[go_sem,BZ,q5,q8,ε,cL];refine fI (src:=[[.int .u32 ((t%4294967296:Nat):Int)]]) hO rfl (qG Om) fun v' H' W _=>?_;rw[qH] at W;simp only[go_sem,CA,q8,xL,CB,q7,cZ (Om:P.length<9223372036854775807)];refine hK (P++[t%4294967296]) (t/4294967296) v' _ H' (by simp) (l.app fun y Z=>by simp at Z; subst Z; omega) Om ?_ ?_ ?_ W
   ·rcases a8D P.length (max a.length b.length) with h | h
    ·exact .inl h
    ·right;have h1:=Y Om;have h2:=O Om;omega
   ·rw[jL,a7O,a7S,η,θ,a9D,a8H,a9R,← a7V];rw[show t%4294967296+4294967296*(t/4294967296)=t from Nat.mod_add_div t 4294967296];have h3:4294967296 ^ P.length*t=4294967296 ^ P.length*c+4294967296 ^ P.length*x+4294967296 ^ P.length*y:=by rw[← ht,a7V,a7V]
    omega
   ·unfold tM;rw[a7O,a7S];exact Lq
  simp only[aC.wp,go_sem] at fin;simp only[go_sem,dw,g6,dx,u,g0];by_cases c1:P.length<a.length
  ·have e:(P.length:Int)<(a.length:Nat):=Om;simp only[go_sem,e,dy,g0,u,ζ c1,ex,M,LZ,g1];by_cases H:P.length<b.length
   ·have d:(P.length:Int)<(b.length:Nat):=Om;simp only[go_sem,d,MA,g1,u,X H,ey,N];exact fin _ (by simp only[go_sem,g0]) (by simp only[go_sem,g1]) (by simp only[go_sem,g5]) (by simp only[go_sem,u]) rfl
   ·have d:¬ (P.length:Int)<(b.length:Nat):=Om;have h0:=O H;simp only[go_sem,d];exact fin _ (by simp only[go_sem,g0]) (by simp only[go_sem,g1]) (by simp only[go_sem,g5]) (by simp only[go_sem,u]) (by simp only[go_sem,h0])
  ·have e:¬ (P.length:Int)<(a.length:Nat):=Om;have h0:=Y c1;simp only[go_sem,e,LZ,g1,u];by_cases H:P.length<b.length
   ·have d:(P.length:Int)<(b.length:Nat):=Om;have β:IntKind.u64.wrap ((c:Int)+(y:Int))=((c+x+y:Nat):Int):=by rw[h0]; exact fD Om
    simp only[go_sem,d,MA,g1,u,X H,ey,β];exact fin _ (by simp only[go_sem,g0]) (by simp only[go_sem,g1]) (by simp only[go_sem,g5]) (by simp only[go_sem,u]) rfl
   ·have d:¬ (P.length:Int)<(b.length:Nat):=Om;have γ:=O H;simp only[go_sem,d];exact fin _ (by simp only[go_sem,g0]) (by simp only[go_sem,g1]) (by simp only[go_sem,g5]) (by simp only[go_sem,u]) (by simp only[go_sem,h0,γ])
 simp only[aC.wp,go_sem] at body;have p:¬ P.length<a.length→¬ P.length<b.length→c=0→∀ F:PF,F 5=some v→aC.wp C (.seq (.region TP) .ret) (aV [.tmp 4] (bY (aJ (aI (val a+val b))))) F H0:=by
  intro n1 n2 n3 F f5;have hV:val P=val a+val b:=by rw[n3,a8C Om,a8C Om] at B;omega
  have hs:=L.trim _ l Om;rw[hV] at hs;simp only[go_sem,TP,f5];refine tP hs hO rfl fun F1 H1 _=>?_;simp only[go_sem];exact bA (.inr rfl) .nil rfl a_ ⟨.refl _,rfl⟩
 simp only[aC.wp,go_sem] at p;simp only[go_sem,Eg,T5,tM];by_cases c1:P.length<a.length
 ·have e:(P.length:Int)<(a.length:Nat):=Om;simp only[go_sem,e];refine body Om _ ?_ _ (by unfold tM; exact Lq);intro i q v' Q H2 M N R w A S U;rw[← M] at A w;exact aD (α:=List Nat × Nat × PV × PH) (i,q,v',H2) ⟨by simp only; omega,w,N,R,A,U⟩ (by simp only; omega) S b_
 ·have e:¬ (P.length:Int)<(a.length:Nat):=Om;simp only[go_sem,e];by_cases H:P.length<b.length
  ·have d:(P.length:Int)<(b.length:Nat):=Om;simp only[go_sem,d];refine body Om _ ?_ _ (by unfold tM; exact Lq);intro i q v' Q H2 M N R w A S U;rw[← M] at A w;exact aD (α:=List Nat × Nat × PV × PH) (i,q,v',H2) ⟨by simp only; omega,w,N,R,A,U⟩ (by simp only; omega) S b_
  ·have d:¬ (P.length:Int)<(b.length:Nat):=Om;simp only[go_sem,d];by_cases c3:c=0
   ·have J:¬ (c:Int)>0:=Om;simp only[go_sem,J];exact p c1 H c3 _ rfl
   ·have J:(c:Int)>0:=Om;simp only[go_sem,J];refine body Om _ ?_ _ (by unfold tM; exact Lq);intro i q v' Q H2 M N R w A S U;rw[← M] at A w;exact aD (α:=List Nat × Nat × PV × PH) (i,q,v',H2) ⟨by simp only; omega,w,N,R,A,U⟩ (by simp only; omega) S b_
structure OB (C:Ctx):Prop extends fy C where
 plus:∀ a b,Lim a→Lim b→a.length≤8388608→b.length≤8388608→aH C 43 [aJ a,aJ b] .nil (aF (aJ (aI (val a+val b))))
theorem aeQ {C:Ctx} (L:OB C) (a b:List Nat) (i:Lim a) (l:Lim b) (u:a.length≤35184372087808) (w:b.length≤35184372087808) :
  TF.wp C (aV apQ.res (bY (opV (dY (val a) (val b)) (val a+val b)))) (PF.args [aJ a,aJ b]) .nil:=by
 unfold opV;simp only[go_sem,TF,aeR,aeS,apQ];refine aA (L.large a i u) rfl ?_;by_cases d:nl (val a)>512
 ·simp only[go_sem,d,xa];rw[if_pos (by simp[dY,d])];exact eR rfl
 simp only[go_sem,d];refine aA (L.large b l w) rfl ?_;by_cases e:nl (val b)>512
 ·simp only[go_sem,e,xa];rw[if_pos (by simp[dY,e])];exact eR rfl
 rw[if_neg (by simp[dY,d,e])];simp only[go_sem,e,aeT];refine aA (L.trim a i u) rfl ?_;simp only[go_sem];refine aA (L.trim b l w) rfl ?_;simp only[go_sem];have q:=L.plus (aI (val a)) (aI (val b)) (aX _) (aX _) (by rw[bB]; omega) (by rw[bB]; omega);rw[aW,aW] at q;refine aA q rfl ?_;have x:=P9 (a:=val a) (b:=val b) (m:=512) Om Om;have p:=L.large (aI (val a+val b)) (aX _) (by rw[bB]; omega);rw[aW] at p;simp only[go_sem,aeU];refine aA p rfl ?_;unfold szV szL szE;by_cases c:nl (val a+val b)>512
 ·rw[if_pos c,if_pos c];simp only[go_sem,c,aeV];exact eR rfl
 ·rw[if_neg c,if_neg c];simp only[go_sem,c,aeW];exact bA (.inr rfl) .nil rfl a_ ⟨.refl _,rfl⟩
theorem agG {C:Ctx} (L:OB C) (a b:List Nat) (i:Lim a) (l:Lim b) (p:a.length≤35184372087808) (q:b.length≤35184372087808) :
  TR.wp C (aV aqA.res (bY (rP (val a) (val b)))) (PF.args [aJ a,aJ b]) .nil:=by
 unfold rP;simp only[go_sem,TR,agH,agI,aqA];refine aA (L.large a i p) rfl ?_;by_cases c:nl (val a)>512
 ·simp only[go_sem,c,xe];rw[if_pos (by simp[dY,c])];exact eR rfl
 simp only[go_sem,c];refine aA (L.large b l q) rfl ?_;by_cases d:nl (val b)>512
 ·simp only[go_sem,d,xe];rw[if_pos (by simp[dY,d])];exact eR rfl
 rw[if_neg (by simp[dY,c,d])];simp only[go_sem,d,agJ];refine aA (L.cmp a b i l p q) rfl ?_;by_cases e:val a<val b
 ·have:dP (val a) (val b)=-1:=by simp[dP,e]
  rw[if_pos e];simp only[go_sem,this,show ((-1:Int)<0) by decide,agK];exact eR rfl
 ·have:¬ dP (val a) (val b)<0:=by unfold dP;rw[if_neg e];split<;>decide
  rw[if_neg e];have x:=fT (Nat.sub_le (val a) (val b));have w:=fT (Om:val b≤val a);simp only[go_sem,this,agL];refine aA (L.trim a i p) rfl ?_;simp only[go_sem];refine aA (L.trim b l q) rfl ?_;simp only[go_sem];have u:=L.minus (aI (val a)) (aI (val b)) (aX _) (aX _) (by rw[aW,aW]; omega) (by rw[bB,bB]; exact w) (by rw[bB]; omega);rw[aW,aW] at u;refine aA u rfl ?_;rw[AE Om];simp only[go_sem];exact bA (.inr rfl) .nil rfl a_ ⟨.refl _,rfl⟩
def S0 (k:Nat) (v:Nat):PF:=((PF.nil.set 3 (.int .i64 k)).set 4 (.int .u32 v))
theorem S3 {C:Ctx} (L:oQ C) (xs:List Nat) (F:Lim xs) (O:xs.length≤35184372087808) :
  LM.wp C (aV Hj.res (aF (.int .i64 (cM (val xs):Nat)))) (PF.args [aJ xs]) .nil:=by
 simp only[go_sem,LM,S4,S5,Hj];refine aA (L.trim xs F O) rfl ?_;have Q:=fM F;simp only[go_sem,S6,a7G,bB,BY];by_cases u:nl (val xs)=0
 ·simp only[go_sem,decide_eq_true u,S7];refine aQ (.inr rfl) rfl ?_;have:val xs=0:=hZ.1 u;simp[bO,this,jN]
 obtain⟨n,M⟩:∃ n,nl (val xs)=n+1:=⟨nl (val xs)-1,by omega⟩;obtain⟨t,q,x⟩:=Sz (xs:=aI (val xs)) (aX _) (by rw[aW]; exact M);have e:t<4294967296:=aX _ t (baC q);have N:val xs=val ((aI (val xs)).take n)+4294967296 ^ n*t:=by
  have:=aW (val xs);have c:n<(aI (val xs)).length:=by rw[bB]; omega
  have K:(aI (val xs))[n]=t:=by rw[a7U c] at q; exact a9V.inj q
  conv=>lhs; rw[← this,← a8C (l:=aI (val xs)) (i:=n+1) (by rw[bB]; omega)]
  rw[cF _ c,K]
 have R:cM (val xs)=32*n+cM t:=by have B:=fC ((aX (val xs)).take n);rw[a8A,bB,a9S Om] at B;have p:=Ir (lo:=val ((aI (val xs)).take n)) (k:=32*n) (hi:=t) (by rw[Nat.pow_mul]; exact B) x;rw[← p,Nat.pow_mul];exact congrArg cM N
 have d:(aL (aI (val xs)))[n]?=some [.int .u32 (t:Nat)]:=by simp[aL,q]
 have H:IntKind.i64.wrap (((nl (val xs):Nat):Int)-1)=(n:Int):=by rw[wrap_i64 Om Om]; omega
 have J:IntKind.i64.wrap (32*(n:Int))=((32*n:Nat):Int):=by rw[wrap_i64 Om Om]; omega
 simp only[go_sem,decide_eq_false u,S8,S9,a7G,bB,H,J,d];refine wp_loop (α:=Nat × Nat) (fun a=>S0 a.1 a.2) (fun _=>.nil) (fun a=>a.1+cM a.2=32*n+cM t∧a.2<4294967296) (fun a=>a.2) (32*n,t) ⟨rfl,e⟩ ?_ a_ ?_
 ·unfold S0;exact Lq
 rintro⟨k,v⟩ ⟨p,hlt⟩;simp only at p hlt;have E:cM t≤32:=(lT t 32).2 e;simp only[go_sem,S1,Ta,S0];by_cases A:(v:Int)>0
 ·have y:v≠0:=Om;have w:IntKind.u32.wrap (a9O (v:Int) 2)=((v/2:Nat):Int):=by rw[show a9O (v:Int) 2=((v/2:Nat):Int) from Int.ofNat_tdiv v 2,cL,a8T Om]
  simp only[go_sem,A,Tb,Tc,w,wZz k];refine aD (k+1,v/2) ⟨?_,?_⟩ (Nat.div_lt_self Om (by decide)) ?_ a_
  ·have:=pD y;simp only; omega
  ·simp only; omega
  ·exact Lq
 ·have:v=0:=Om;subst this;simp only[go_sem,A,Dz];refine aQ (.inr rfl) rfl ?_;rw[jN] at p;simp only[bO,PV.int.injEq,true_and];omega
theorem Cg (n:Nat):4294967296 ^ (n/32)*2 ^ (n%32)=2 ^ n:=by
 rw[show (4294967296:Nat)=2 ^ 32 by decide,← Nat.pow_mul,← Nat.pow_add];congr 1;omega
theorem ayM (n:Nat):IntKind.i64.wrap (a9O (n:Int) 32)=IntKind.i64.wrap ((n/32:Nat):Int):=by
 rw[show a9O (n:Int) 32=((n/32:Nat):Int) from Int.ofNat_tdiv n 32]
theorem ayZ (n:Nat):Int.tmod (n:Int) 32=((n%32:Nat):Int):=Int.ofNat_tmod n 32
def aMY (a:List Nat) (n:Nat) (v:PV) (c i:Nat):PF:=(((((PF.nil.set 0 (aJ a)).set 1 (.int .i64 n)).set 5 (v)).set 6 (.int .u64 c)).set 7 (.int .i64 i))
theorem aBV {C:Ctx} (L:oQ C) (a:List Nat) (n:Nat) (ha:Lim a) (h1:a.length≤8388608) (hn:n≤8388608) (h0:a.length=0→val a=0) :
  d3.wp C (aV uup.res (oP 1 (aL (aI (val a*2 ^ n))))) (PF.args [aJ a,.int .i64 n]) .nil:=by
 simp only[go_sem,d3,aBW,aBX,uup,a7G,BY];by_cases B:a.length=0
 ·simp only[go_sem,decide_eq_true B,aBY];rw[h0 B,Nat.zero_mul,fO];exact wq (.inr rfl) rfl
 have ez:IntKind.i64.wrap (a9O (n:Int) 32)=((n/32:Nat):Int):=by rw[ayM,d6 Om]
 have em:=ayZ n;have eu:IntKind.u64.wrap ((n%32:Nat):Int)=((n%32:Nat):Int):=bE Om;have S:=Cg n;have R:n%32<32:=a8Z _ (by decide);have hz:n/32≤8388608:=Om;generalize ε:n/32=z at *
 generalize γ:n%32=s at *
 have O:((z:Nat):Int)*((4:Nat):Int)≤140737488355328:=Om;have Q:((z:Nat):Int)≤9223372036854775807:=Om;have V:a7K z [PV.int .u32 0]=aL (a7K z 0):=by simp[aL]
 have J:2 ^ s≤2147483648:=baL (show 0<2 by decide) (Om:s≤31);have w:0<2 ^ s:=baB (by decide);simp only[go_sem,decide_eq_false B,aBZ,ez,O,Q,V];refine aR fun o ho=>?_;simp only[go_sem,aCA,aCB];refine wp_loop (α:=List Nat × Nat × Nat × PV × PH) (fun t=>aMY a n t.2.2.2.1 t.2.1 t.2.2.1) (fun t=>t.2.2.2.2)
  (fun t=>t.2.2.1≤a.length∧t.1.length=z+t.2.2.1∧Lim t.1∧t.2.1<2 ^ s∧val t.1+4294967296 ^ t.1.length*t.2.1=val (a.take t.2.2.1)*2 ^ n∧bQ t.2.2.2.2 1 t.2.2.2.1 (aL t.1)) (fun t=>a.length-t.2.2.1) (a7K z 0,0,0,.osl o 1 0 z,PH.nil.set o (.rows 1 (aL (a7K z 0))))
  ⟨by simp,by simp,vQ _,w,by simp[val,sD],.inr ⟨o,aL (a7K z 0),by rw[cA,List.length_replicate],by simp only[go_sem],by rw[cA]; exact a7M _,a8I⟩⟩ ?_ b_ ?_
 ·unfold aMY;exact Lq
 rintro⟨P,c,i,v,H0⟩ ⟨hi,W,d,X,p,M⟩;simp only at hi W d X p M ⊢;simp only[go_sem,agM,aCC,aMY];by_cases E:i<a.length
 ·have q:(i:Int)<(a.length:Nat):=Om;have β:=ha _ (a7J E);have U:=cF a E;have N:=bU a E;generalize Y:a[i]=x at *
  have δ:x*2 ^ s≤4294967295*2147483648:=baP Om J;have ex:IntKind.u64.wrap ((x:Nat):Int)=((x:Nat):Int):=bE Om;have Z:2 ^ s*x=x*2 ^ s:=a8L _ _;have H:shift .shl .u64 (x:Int) (s:Int)=some (.int .u64 ((2 ^ s*x:Nat):Int)):=LF Om Om;have F:=orI (a:=2 ^ s*x) (b:=c) (n:=c+2 ^ s*x) Om Om (by rw[Nat.or_comm]; exact Q5 X Om) Om;have A:(c+2 ^ s*x)/4294967296<2 ^ s:=by rw[baK (by decide)];have:2 ^ s*(x+1)≤2 ^ s*4294967296:=a9T _ Om;rw[a7V,Nat.mul_one] at this;omega
  have u:(1:Nat)*1≤16777216:=by decide
  simp only[go_sem,q,aCD,N,ex,em,eu,H,F,aCE,cL,u];refine fI (src:=[[.int .u32 (((c+2 ^ s*x)%4294967296:Nat):Int)]]) M rfl (qG Om) fun v' H' l _=>?_;rw[qH] at l;simp only[go_sem,aCF,xL,agN,wZz i];refine aD (P++[(c+2 ^ s*x)%4294967296],(c+2 ^ s*x)/4294967296,i+1,v',H') ⟨by simp only; omega,by simp; omega,d.app fun y hy=>by simp at hy; subst hy; exact a8Z _ (by decide),A,?_,l⟩ (by simp only; omega) ?_ b_
  ·simp only;have hp:4294967296 ^ P.length*(2 ^ s*x)=4294967296 ^ i*x*2 ^ n:=by rw[W,Nat.pow_add,← S];rw[a8H,Nat.mul_left_comm (4294967296 ^ i),← a8H (4294967296 ^ z),a8L (4294967296 ^ z*2 ^ s),a8H,a8L x]
   rw[jL,a7O,a7S,a9D,a8H,a9R,← a7V,Nat.mod_add_div,U,a7V,a8M,← a9R,p,hp]
  ·exact Lq
 ·have e:i=a.length:=Om;subst e;have q:¬ (a.length:Int)<(a.length:Nat):=Om;have u:(1:Nat)*1≤16777216:=by decide
  have hV:val (P++[c])=val a*2 ^ n:=by rw[jL,p,a8I]
  have K:Lim (P++[c]):=d.app fun x Y=>by simp at Y; omega
  have ec:IntKind.u32.wrap ((c:Nat):Int)=((c:Nat):Int):=by rw[cL,a8T Om]
  simp only[go_sem,q,agO,ec,u];refine fI (src:=[[.int .u32 ((c:Nat):Int)]]) M rfl (qG Om) fun v' H' l _=>?_;rw[qH] at l;have R:=L.trimM _ K (by simp; omega);rw[hV] at R;refine Gw R l rfl fun F1 H1 _ r H2 hr _=>?_;simp only[go_sem];exact avM (.inr rfl) hr rfl
def TI (a:List Nat) (n:Nat) (v:PV) (i:Nat):PF:=((((PF.nil.set 0 (aJ a)).set 1 (.int .i64 n)).set 5 (v)).set 6 (.int .i64 i))
theorem Ti {C:Ctx} (L:oQ C) (a:List Nat) (n:Nat) (E:Lim a) (h1:a.length≤8388608) (hn:n≤1000000000) :
  LQ.wp C (aV Hk.res (bY (aJ (aI (val a/2 ^ n))))) (PF.args [aJ a,.int .i64 n]) .nil:=by
 have ez:IntKind.i64.wrap (a9O (n:Int) 32)=((n/32:Nat):Int):=by rw[ayM,d6 Om]
 have em:=ayZ n;have eu:IntKind.u64.wrap ((n%32:Nat):Int)=((n%32:Nat):Int):=bE Om;have J:=Cg n;have O:n%32<32:=a8Z _ (by decide);have hz:n/32≤1000000000:=Om;generalize θ:n/32=z at *
 generalize η:n%32=s at *
 simp only[go_sem,LQ,Tj,Tk,Hk,a7G,ez];by_cases c0:a.length≤z
 ·have d:((z:Nat):Int)≥(a.length:Nat):=Om;have hq:val a/2 ^ n=0:=by refine baW (Nat.lt_of_lt_of_le (fC E) ?_);rw[← J];exact a8V (baL (by decide) c0) (Nat.le_mul_of_pos_right _ (baB (by decide)))
  simp only[go_sem,d,Tl];rw[hq,fO];exact bA (vs:=[.aB]) (.inr rfl) .nil rfl a_ ⟨.nil 1,rfl⟩
 have d:¬ ((z:Nat):Int)≥(a.length:Nat):=Om;have hR:val a/2 ^ n=val (a.drop z)/2 ^ s:=by rw[uO E Om,← J,Nat.div_div_eq_div_mul]
 have A:Lim (a.drop z):=E.drop z;simp only[go_sem,d,Tn,To,ez];refine wp_loop (α:=List Nat × PV × PH) (fun t=>TI a n t.2.1 (z+t.1.length)) (fun t=>t.2.2)
  (fun t=>z+t.1.length≤a.length∧t.1=dW t.1.length (val (a.drop z)/2 ^ s)∧bQ t.2.2 1 t.2.1 (aL t.1)) (fun t=>a.length-t.1.length) ([],.aB,.nil)
  ⟨by simp; omega,rfl,.nil⟩ ?_ a_ ?_
 ·unfold TI
  (repeat' (first|exact c_|refine d_ ?_ ?_))<;>first|(simp only[go_sem,a9W]<;>rfl)|rfl
 rintro⟨P,v,H0⟩ ⟨hP,hD,Y⟩;simp only at hP hD Y ⊢;simp only[go_sem,D0,Tq,TI];have w:Lim P:=by rw[hD]; exact mL _ _
 by_cases Q:z+P.length<a.length
 ·have p:((z+P.length:Nat):Int)<(a.length:Nat):=Om;have ζ:=E _ (a7J Q);have Z:=bU a Q;have γ:P.length≤(a.drop z).length:=by rw[a9J]; omega
  have M:=uO A γ;have c:(a.drop z).drop P.length=a[z+P.length]::a.drop (z+P.length+1):=by rw[List.drop_drop,a9H Q]
  generalize hx:a[z+P.length]=x at *
  have ex:IntKind.u64.wrap ((x:Nat):Int)=((x:Nat):Int):=bE Om;have β:(1:Nat)*1≤16777216:=by decide
  have X:IntKind.i64.wrap (((z+P.length:Nat):Int)+1)=((z+P.length+1:Nat):Int):=cZ Om;have fin:∀ (t:Nat) (F:PF),t<18446744073709551616→val (a.drop z)/4294967296 ^ P.length%(4294967296*4294967296)=t→F 0=some (aJ a)→F 1=some (.int .i64 n)→F 5=some v→F 6=some (.int .i64 (z+P.length:Nat))→F 7=some (.int .u64 t) →
    ∀ K:bR,(∀ v' N H2,(TI a n v' (z+(P.length+1))).le N→bQ H2 1 v' (aL (P++[t/2 ^ s%4294967296]))→(P++[t/2 ^ s%4294967296])=dW (P.length+1) (val (a.drop z)/2 ^ s)→K .normal N H2) →
    aC.wp C (.region dt) (eX 1 (gE C (aC.wp C (.region TJ)) K)) F H0:=by
   intro t F ht δ f0 f1 f5 f6 f7 K hK;have u:shift .shr .u64 (t:Int) (s:Int)=some (.int .u64 ((t/2 ^ s:Nat):Int)):=aWV Om;simp only[go_sem,dt,f5,f7,f1,em,eu,u,cL,β];refine fI (src:=[[.int .u32 ((t/2 ^ s%4294967296:Nat):Int)]]) Y rfl (qG Om) fun v' H' B _=>?_;rw[qH] at B;simp only[go_sem,TJ,f6,X];refine hK v' _ H' ?_ B ?_
   ·unfold TI;exact Lq
   ·rw[vN,← hD];congr 2;have e:val (a.drop z)/4294967296 ^ P.length=t%4294967296+4294967296*(t/4294967296+4294967296*(val (a.drop z)/4294967296 ^ P.length/(4294967296*4294967296))):=by have:=Nat.mod_add_div (val (a.drop z)/4294967296 ^ P.length) (4294967296*4294967296);rw[δ] at this;have h2:=Nat.mod_add_div t 4294967296;rw[a7V,← a9R,h2,← a8H];exact this.symm
    have:=XZ O e;rw[this];congr 2;have h2:=Nat.mod_add_div t 4294967296;omega
  simp only[aC.wp,go_sem] at fin;simp only[go_sem,p,Tr,Z,ex,Ts,X];by_cases R:z+P.length+1<a.length
  ·have q:((z+P.length+1:Nat):Int)<(a.length:Nat):=Om;have ε:=E _ (a7J R);have H:=bU a R;rw[a9H R] at c;generalize hy:a[z+P.length+1]=y at *
   have ey:IntKind.u64.wrap ((y:Nat):Int)=((y:Nat):Int):=bE Om;have u:shift .shl .u64 (y:Int) ((32:Nat):Int)=some (.int .u64 ((2 ^ 32*y:Nat):Int)):=LF (by decide) Om;have W:=orI (a:=x) (b:=2 ^ 32*y) (n:=x+2 ^ 32*y) Om Om (Q5 Om Om) Om;simp only[go_sem,q,Tt,X,H,ey,show shift .shl .u64 (y:Int) 32=_ from u,W];refine fin (x+2 ^ 32*y) _ Om ?_ rfl rfl rfl rfl rfl _ ?_
   ·rw[← M,c];simp only[val];omega
   ·intro v' N H2 S U V;refine aD (α:=List Nat × PV × PH) (P++[(x+2 ^ 32*y)/2 ^ s%4294967296],v',H2) ⟨by simp; omega,by simpa using V,U⟩ (by simp; omega) ?_ b_;simp only[a7O,a7S];exact S
  ·have q:¬ ((z+P.length+1:Nat):Int)<(a.length:Nat):=Om;rw[bbA (l:=a) (i:=z+P.length+1) Om] at c;simp only[go_sem,q];refine fin x _ Om ?_ rfl rfl rfl rfl rfl _ ?_
   ·rw[← M,c];simp only[val];omega
   ·intro v' N H2 S U V;refine aD (α:=List Nat × PV × PH) (P++[x/2 ^ s%4294967296],v',H2) ⟨by simp; omega,by simpa using V,U⟩ (by simp; omega) ?_ b_;simp only[a7O,a7S];exact S
 ·have e:z+P.length=a.length:=Om;have p:¬ ((z+P.length:Nat):Int)<(a.length:Nat):=Om;have hV:val P=val (a.drop z)/2 ^ s:=by rw[hD];refine oM (Nat.lt_of_le_of_lt (baF _ _) ?_);have:=fC A;rw[a9J] at this;rw[show P.length=a.length-z by omega];exact this
  have O:=L.trim _ w Om;rw[hV,← hR] at O;simp only[go_sem,p,D1];refine tP O Y rfl fun F1 H1 _=>?_;simp only[go_sem];exact bA (.inr rfl) .nil rfl a_ ⟨.refl _,rfl⟩
structure FF (C:Ctx):Prop extends OB C where
 bits:∀ xs,Lim xs→xs.length≤35184372087808→aH C 31 [aJ xs] .nil (aF (.int .i64 (cM (val xs):Nat)))
 upM:∀ (a:List Nat) (n:Nat),Lim a→a.length≤8388608→n≤8388608→(a.length=0→val a=0)→aH C 45 [aJ a,.int .i64 n] .nil (oP 1 (aL (aI (val a*2 ^ n))))
 down:∀ (a:List Nat) (n:Nat),Lim a→a.length≤8388608→n≤1000000000→aH C 40 [aJ a,.int .i64 n] .nil (aF (aJ (aI (val a/2 ^ n))))
def udS:Spec:=fun name vs=>match name,vs with
 | 35,[.int _ v]=>some ([],fun _=>aF (aJ (aI v.toNat)))
 | 44,[x,y]=>some ([],fun _=>aF (aJ (aI (val (jE x)*val (jE y)))))
 | 32,[x,.osl q _ _ _]=>some ([q],fun c r H'=>H'=c∧∀ xs,Lim xs→c q=some (.rows 1 (aL xs))→r=.int .i64 (dP (val (jE x)) (val xs)))
 | _,_=>none
theorem aMN (v:Nat):udS 35 [.int .u64 v]=some ([],fun _=>aF (aJ (aI v))):=rfl
theorem aBO (x y:List Nat):udS 44 [aJ x,aJ y]=some ([],fun _=>aF (aJ (aI (val x*val y)))):=by
 show some ([],fun _=>aF (aJ (aI (val (jE (aJ x))*val (jE (aJ y))))))=_; rw[eG,eG]
theorem aED (q:Nat) (x L:List Nat):(PH.nil.set q (.rows 1 (aL L)))=(PH.nil.set q (.rows 1 (aL L)))∧∀ xs,Lim xs→(PH.nil.set q (.rows 1 (aL L))) q=some (.rows 1 (aL xs))→(PV.int .i64 (dP (val x) (val L)))=.int .i64 (dP (val (jE (aJ x))) (val xs)):=by
 refine⟨rfl,fun xs c e=>?_⟩;rw[cP] at e;have:aL L=aL xs:=(cG.rows.inj (a9V.inj e)).2;rw[RE this,eG]
def duF (n o d:Nat) (y:List Nat) (top e c:Nat) (k:Int):PF :=
 ((((((PF.nil.set 10 (.int .i64 n)).set 11 (.osl o 1 0 d)).set 12 (aJ y)).set 13 (.int .u64 top)).set 14 (.osl e 1 0 c)).set 15 (.int .i64 k))
abbrev eA (X:List Nat) (Z:List (List PV)):List (List PV):=aL X++Z
theorem MO {X:List Nat} {Z:List (List PV)} {i:Nat} (h:i<X.length):(eA X Z)[i]?=some [.int .u32 ((X[i]:Nat):Int)]:=by
 rw[eA,a9Z (by rw[cA]; exact h),bU X h]
theorem Fn {X:List Nat} {Z:List (List PV)} {i:Nat} (h:i<X.length) (v:Nat):(eA X Z).set i [.int .u32 (v:Int)]=eA (X.set i v) Z:=by
 rw[eA,List.set_append_left _ _ (by rw[cA]; exact h),fN]
theorem Fm {X:List Nat} {Z:List (List PV)} {j m:Nat} (h:j+m≤X.length):((eA X Z).drop j).take m=aL ((X.drop j).take m):=by
 rw[eA,List.drop_append_of_le_length (by rw[cA]; omega),List.take_append_of_le_length (by rw[a9J,cA]; omega)];unfold aL;rw[← List.map_drop,← List.map_take]
theorem aXK {C:Ctx} (L:FF C) (n o p:Nat) (y:List Nat) (top l R j:Nat) (X:List Nat) (Z:List (List PV)) (O:l≠o) (hy:Lim y) (hX:Lim X) (γ:X.length=p) (hl:p≤5000) (hj:j+(y.length+1)≤p) (A:0<val y)
  (V:cG) (g0:Nat) (hg:val ((X.drop j).take (y.length+1))/val y≤g0) (N:g0<4294967296) (K:bR) (F:PF) (H:PH) (hF:((duF n o p y top l R j).set 17 (.int .u64 g0)).le F) (hH:((PH.nil.set o (.rows 1 (eA X Z))).set l V).le H)
  (hK:∀ Y H',((duF n o p y top l R j).set 17 (.int .u64 (val ((X.drop j).take (y.length+1))/val y:Nat))).le Y→((PH.nil.set o (.rows 1 (eA X Z))).set l V).le H'→K .normal Y H') :
  aC.wp C (.block 4 (.loop vD)) K F H:=by
 have d:¬ o=l:=fun h=>O h.symm;have e:((X.drop j).take (y.length+1)).length=y.length+1:=by rw[a8A,a9J]; omega
 have q:Lim ((X.drop j).take (y.length+1)):=(hX.drop _).take _;have u:=Fm (X:=X) (Z:=Z) (j:=j) (m:=y.length+1) Om;have w:j+(y.length+1)≤(eA X Z).length:=by rw[eA,a7O,cA]; omega
 have J:aL ((X.drop j).take (y.length+1))≠[]:=fun h=>by have:=congrArg List.length h;rw[cA,e] at this;simp at this
 generalize hW:(X.drop j).take (y.length+1)=W at *
 generalize x:val W/val y=E at *
 simp only[go_sem];refine wp_loop (α:=Nat) (fun g=>(duF n o p y top l R j).set 17 (.int .u64 g)) (fun _=>(PH.nil.set o (.rows 1 (eA X Z))).set l V) (fun g=>E≤g∧g<4294967296) (fun g=>g) g0 ⟨hg,N⟩ hF hH ?_;rintro g ⟨β,hlt⟩;have e1:IntKind.i64.wrap ((j:Int)+(y.length:Int))=((j+y.length:Nat):Int):=gG Om;have e2:IntKind.i64.wrap (((j+y.length:Nat):Int)+1)=((j+y.length+1:Nat):Int):=cZ Om;have b1:(j:Int)≤((j+y.length+1:Nat):Int):=Om;have b2:((j+y.length+1:Nat):Int)≤(p:Nat):=Om;have b3:j+y.length+1-j=y.length+1:=Om;have mk:=L.make g Om;have tm:=L.times y (aI g) hy (aX _) Om (by have B:nl g≤1:=nO (by rw[Nat.pow_one]; exact hlt);rw[bB]; omega)
 rw[aW] at tm;have Q:(aI (val y*g)).length≤35184372087808:=by have B:nl g≤1:=nO (by rw[Nat.pow_one]; exact hlt);have h2:=lJ (a:=val y) (b:=g) (fM hy) B;rw[bB]; omega
 have cm:=L.cmp (aI (val y*g)) W (aX _) q Q Om;rw[aW] at cm;simp only[go_sem,vD];refine bW .nil udS a_ ?_;simp only[go_sem,YJ,duF];refine bP (aMN g) mk Sq a_ ?_;simp only[go_sem];have tS:=aBO y (aI g);rw[aW] at tS;refine bP tS tm Sq a_ ?_;simp only[go_sem,a7G,e1,e2,b1,b2,b3];refine tO (src:=aL W) ?_ ?_ (fun h=>absurd h J) fun _ o' i=>?_
 ·simp only[go_sem,d,w,u]
 ·unfold roomFor;rw[cA,e];simp only[maxLen]; omega
 refine⟨a_,?_⟩;rw[cA,e];have n1:¬ o'=l:=(iU.1 i).1;refine aEM (o:=o') (s:=1) (rs:=aL W) (vs:=[aJ (aI (val y*g)),.osl o' 1 0 (y.length+1)]) (v:=.int .i64 (dP (val y*g) (val W))) rfl (.int _ _) Sq ?_ ?_ ?_ Sq a_ ?_
 ·rw[a8U,a8U,a9P,tZ (by rw[cA,e]; exact a7M _),a8C (by rw[cA,e]; exact a7M _)];exact cm
 ·have:=aED o' (aI (val y*g)) W;rw[aW] at this;exact this
 ·rintro r H' ⟨B,h2⟩;have:=h2 W q (by rw[cP]);rw[eG,aW] at this;exact⟨this,B⟩
 simp only[go_sem];by_cases c:val W<val y*g
 ·have M:dP (val y*g) (val W)=1:=by unfold dP;rw[if_neg Om,if_pos c]
  have hq:E<g:=by rw[← x]; exact (baK A).2 (by rw[a8L]; exact c)
  have ew:IntKind.u64.wrap ((g:Int)-1)=((g-1:Nat):Int):=by rw[wrap_u64 Om Om]; omega
  simp only[go_sem,M,show (1:Int)>0 by decide,YK,ew];refine aD (g-1) ⟨by omega,by omega⟩ Om ?_ ?_
  ·exact Lq
  ·refine PH.aK (PH.aK a_ ?_) ?_
   ·have S:¬ o=o':=fun h=>by subst h;rw[aT,if_neg d,cP] at i;cases i
    simp only[go_sem,S,d]
   ·have U:¬ l=o':=fun h=>n1 h.symm;simp only[go_sem,U]
 ·have M:¬ dP (val y*g) (val W)>0:=by unfold dP;rw[if_neg c];split<;>decide
  have hq:g=E:=by
   have:g≤E:=by rw[← x]; exact (Nat.le_div_iff_mul_le A).2 (by rw[a8L]; omega)
   omega
  simp only[go_sem,M];refine hK _ _ ?_ ?_
  ·unfold duF
   (repeat' (first|exact c_|refine d_ ?_ ?_))<;>first|(simp only[go_sem,← hq]<;>rfl)|rfl
  ·refine PH.aK (PH.aK a_ ?_) ?_
   ·have S:¬ o=o':=fun h=>by subst h;rw[aT,if_neg d,cP] at i;cases i
    simp only[go_sem,S,d]
   ·have U:¬ l=o':=fun h=>n1 h.symm;simp only[go_sem,U]
theorem aQJ (R k:Nat) (h:k<nl R):∃ i:k<(aI R).length,(aI R)[k]=R/4294967296 ^ k%4294967296:=by
 have c:k<(aI R).length:=by rw[bB]; exact h
 refine⟨c,?_⟩;have d:=uO (aX R) (Nat.le_of_lt c);rw[aW,a9H c] at d;have e:=aX R _ (a7J c);simp only[val] at d;rw[← d,Nat.add_mul_mod_self_left,a8T e]
theorem aGC (R k:Nat) (h:nl R≤k):R/4294967296 ^ k%4294967296=0:=by
 rw[baW ((jB R k).1 h)]
theorem aSJ {A P W Z:List Nat} {i:Nat} (c:P.length=i) (hi:i<W.length) (v:Nat):(A++(P++W.drop i)++Z).set (A.length+i) v=A++((P++[v])++W.drop (i+1))++Z :=
 RE (by rw[← fN]; exact GH c hi v)
theorem a0L {C:Ctx} (n o w:Nat) (y:List Nat) (top q Q j:Nat) (X:List Nat) (Z:List (List PV)) (B:q≠o) (N:X.length=w) (hl:w≤5000) (hj:j+(y.length+1)≤w)
  (S:cG) (g R:Nat) (K:bR) (F:PF) (H:PH) (hF:((((duF n o w y top q Q j).set 17 (.int .u64 g)).set 18 (aJ (aI R))).set 19 (.int .i64 0)).le F) (hH:((PH.nil.set o (.rows 1 (eA X Z))).set q S).le H)
  (hK:∀ U H',((duF n o w y top q Q j).set 17 (.int .u64 g)).le U→((PH.nil.set o (.rows 1 (eA (X.take j++dW (y.length+1) R++X.drop (j+(y.length+1))) Z))).set q S).le H'→K .normal U H') :
  aC.wp C (.block 6 (.loop vE)) K F H:=by
 have l:¬ o=q:=fun h=>B h.symm;have hA:(X.take j).length=j:=by rw[a8A]; omega
 have ε:((X.drop j).take (y.length+1)).length=y.length+1:=by rw[a8A,a9J]; omega
 have θ:(X.drop (j+(y.length+1))).length=w-(j+(y.length+1)):=by rw[a9J,N]
 have u:X.take j++(X.drop j).take (y.length+1)++X.drop (j+(y.length+1))=X:=by rw[a8Q,← List.drop_drop,baE,baE]
 rw[← u] at hH;generalize γ:X.take j=A at *
 generalize δ:(X.drop j).take (y.length+1)=W at *
 generalize η:X.drop (j+(y.length+1))=p at *
 simp only[go_sem];refine wp_loop (α:=List Nat) (fun P=>(((duF n o w y top q Q j).set 17 (.int .u64 g)).set 18 (aJ (aI R))).set 19 (.int .i64 P.length)) (fun P=>(PH.nil.set o (.rows 1 (eA (A++(P++W.drop P.length)++p) Z))).set q S)
  (fun P=>P.length≤y.length+1∧P=dW P.length R) (fun P=>y.length+1-P.length) [] ⟨a7N _,rfl⟩ hF (by simpa using hH) ?_
 rintro P ⟨hP,hD⟩;simp only[go_sem,vE,YL,duF];by_cases c:P.length<y.length+1
 ·have J:(P.length:Int)≤(y.length:Nat):=Om;have V:IntKind.i64.wrap ((j:Int)+(P.length:Int))=((j+P.length:Nat):Int):=gG Om;have β:(A++(P++W.drop P.length)++p).length=w:=by simp only[a7O,a9J]; omega
  have hi:j+P.length<(A++(P++W.drop P.length)++p).length:=Om;have b1:((j+P.length:Nat):Int)<(w:Nat):=Om;have r1:=MO (Z:=Z) hi;have s1:=Fn (Z:=Z) hi 0;have E:j+P.length<((A++(P++W.drop P.length)++p).set (j+P.length) 0).length:=by rw[a9L]; exact hi
  have d:=fun v=>aSJ (A:=A) (P:=P) (W:=W) (Z:=p) (i:=P.length) rfl Om v;rw[hA] at d;generalize ζ:A++(P++W.drop P.length)++p=XX at *
  have r2:(eA (A++((P++[0])++W.drop (P.length+1))++p) Z)[j+P.length]?=some [.int .u32 ((0:Nat):Int)]:=by rw[← d 0,MO E,List.getElem_set_self]
  have s2:∀ v,(eA (A++((P++[0])++W.drop (P.length+1))++p) Z).set (j+P.length) [.int .u32 ((v:Nat):Int)]=eA (A++((P++[v])++W.drop (P.length+1))++p) Z:=by intro v;rw[← d 0,Fn E,List.set_set,d]
  have a6R:=vN P.length R;rw[← hD] at a6R;have Y:IntKind.i64.wrap ((P.length:Int)+1)=((P.length+1:Nat):Int):=cZ Om;simp only[go_sem,J,YM,V,b1,l,r1,show ([PV.int .u32 (0:Int)])=[PV.int .u32 ((0:Nat):Int)] from rfl,s1,YN,bB];by_cases c2:P.length<nl R
  ·have x:(P.length:Int)<(nl R:Nat):=Om;obtain⟨M,O⟩:=aQJ R P.length c2;have hr:=bU (aI R) M;rw[O] at hr;simp only[go_sem,x,YO,hr,V,b1,l,r2,s2,List.set_set,d,EH,Y];refine aD (P++[R/4294967296 ^ P.length%4294967296]) ⟨by simp; omega,by rw[a7O,a7S]; exact a6R.symm⟩ (by simp; omega) ?_ ?_
   ·rw[a7O,a7S];exact Lq
   ·rw[a7O,a7S];refine PH.aK (PH.aK a_ ?_) ?_<;>simp only[go_sem,l,show ¬ q=o from B]
  ·have x:¬ (P.length:Int)<(nl R:Nat):=Om;have O:=aGC R P.length Om;rw[O] at a6R;simp only[go_sem,x,d,EH,Y];refine aD (P++[0]) ⟨by simp; omega,by rw[a7O,a7S]; exact a6R.symm⟩ (by simp; omega) ?_ ?_
   ·rw[a7O,a7S];exact Lq
   ·rw[a7O,a7S];refine PH.aK (PH.aK a_ ?_) ?_<;>simp only[go_sem,l,show ¬ q=o from B]
 ·have J:¬ (P.length:Int)≤(y.length:Nat):=Om;have e:P.length=y.length+1:=Om;simp only[go_sem,J];refine hK _ _ (by unfold duF; exact Lq) ?_;have h2:A++dW (y.length+1) R++p=A++(P++W.drop P.length)++p:=by rw[bbA Om,a9G,← e,← hD]
  rw[h2];exact b_
theorem aFQ {y W:List Nat} {m:Nat} (A:Lim y) (hW:Lim W) (w:y.length=m+1) (u:W.length=m+2) (x:0<y[m]):val W/val y≤(4294967296*W[m+1]+W[m])/y[m]:=by
 have p:=cF y (Om:m<y.length);rw[a8C Om] at p;have d:=cF W (Om:m+1<W.length);rw[a8C Om,cF W (Om:m<W.length)] at d;have i:=fC (hW.take m);rw[a8A,a9S Om] at i;have l:0<4294967296 ^ m:=baB (by decide);have q:4294967296 ^ m*y[m]≤val y:=Om;have c:0<4294967296 ^ m*y[m]:=Nat.mul_pos l x;have e:val W=val (W.take m)+4294967296 ^ m*(4294967296*W[m+1]+W[m]):=by rw[d,a9D,a7V,a8H]; omega
 refine a8V (Nat.div_le_div_left q c) ?_;rw[← Nat.div_div_eq_div_mul,e,Nat.add_mul_div_left _ _ l,baW i,a8E];exact a7M _
theorem aBP {C:Ctx} (L:FF C) (U0 n o i d e m:Nat) (y z:List Nat) (M:e≠o) (hy:Lim y) (B:y.length=m+1) (ht:0<y[m]) (b':i=d+(m+1)) (O:i≤5000) (X:List Nat) (A:oY U0 (val y) (m+1) i d d X (a7K d 0)) (K:bR) (F:PF) (H:PH)
  (hF:(duF n o i y (y[m]) e d ((d:Int)-1)).le F) (hH:((PH.nil.set o (.rows 1 (eA X (aL z)))).set e (.rows 1 (aL (a7K d 0)))).le H)
  (hK:∀ X' Q' F' H',oY U0 (val y) (m+1) i d 0 X' Q'→(duF n o i y (y[m]) e d (-1)).le F'→((PH.nil.set o (.rows 1 (eA X' (aL z)))).set e (.rows 1 (aL Q'))).le H'→K .normal F' H') :
  aC.wp C (.block 2 (.loop vF)) K F H:=by
 have l:¬ o=e:=fun h=>M h.symm;have l':¬ e=o:=M;have hV:val y<4294967296 ^ (m+1):=by have:=fC hy; rw[B] at this; exact this
 have ι:0<val y:=by have h1:=cF y (Om:m<y.length);rw[a8C Om] at h1;have:0<4294967296 ^ m*y[m]:=Nat.mul_pos (baB (by decide)) ht;omega
 have r':=hy _ (a7J (Om:m<y.length));generalize htop:y[m]=top at *
 simp only[go_sem];refine wp_loop (α:=Nat × List Nat × List Nat) (fun t=>duF n o i y top e d ((t.1:Int)-1)) (fun t=>(PH.nil.set o (.rows 1 (eA t.2.1 (aL z)))).set e (.rows 1 (aL t.2.2)))
  (fun t=>t.1≤d∧oY U0 (val y) (m+1) i d t.1 t.2.1 t.2.2) (fun t=>t.1) (d,X,a7K d 0) ⟨a7M _,A⟩ hF hH ?_
 rintro⟨k,X,Q⟩ ⟨hk,A⟩;simp only at hk A;simp only[go_sem,vF,YE,duF];by_cases h0:0<k
 ·obtain⟨j,rfl⟩:∃ j,k=j+1:=⟨k-1,by omega⟩;have hz:((j+1:Nat):Int)-1=(j:Int):=Om;have Ψ:(j:Int)≥0:=Om;have dst:=J0 A hV Om b';rw[show m+1+1=m+2 from rfl] at dst;obtain⟨hlt,ω⟩:=dst;have κ:=A.lu';have m':=A.lq';have J:((X.drop j).take (m+2)).length=m+2:=by rw[a8A,a9J]; omega
  have V:Lim ((X.drop j).take (m+2)):=(A.limU.drop _).take _;have p':m+1<((X.drop j).take (m+2)).length:=Om;have n':m<((X.drop j).take (m+2)).length:=Om;have a1:j+(m+1)<X.length:=Om;have a0:j+m<X.length:=Om;have w1:((X.drop j).take (m+2))[m+1]=X[j+(m+1)]:=by simp
  have w0:((X.drop j).take (m+2))[m]=X[j+m]:=by simp
  have ν:=aFQ hy V B J (by rw[htop]; exact ht);rw[w1,w0,htop] at ν;have r1:=MO (Z:=aL z) a1;have r0:=MO (Z:=aL z) a0;have l1:=A.limU _ (a7J a1);have l0:=A.limU _ (a7J a0);generalize t':X[j+(m+1)]=u at *
  generalize s':X[j+m]=x at *
  have e1:IntKind.i64.wrap ((j:Int)+(y.length:Int))=((j+(m+1):Nat):Int):=by rw[B]; exact gG Om
  have e0:IntKind.i64.wrap (((j+(m+1):Nat):Int)-1)=((j+m:Nat):Int):=by rw[wrap_i64 Om Om]; omega
  have b1:((j+(m+1):Nat):Int)<(i:Nat):=Om;have b0:((j+m:Nat):Int)<(i:Nat):=Om;have χ:IntKind.u64.wrap ((u:Nat):Int)=((u:Nat):Int):=bE Om;have φ:IntKind.u64.wrap ((x:Nat):Int)=((x:Nat):Int):=bE Om;have δ:shift .shl .u64 (u:Int) 32=some (.int .u64 ((2 ^ 32*u:Nat):Int)):=LF (s:=32) Om Om;have υ:(2:Nat) ^ 32=4294967296:=by decide
  have β:=orI (a:=2 ^ 32*u) (b:=x) (n:=2 ^ 32*u+x) Om Om (Nat.two_pow_add_eq_or_of_lt Om u).symm Om;rw[υ] at δ β;have Θ:¬ ((top:Nat):Int)=0:=Om;have ρ:(4294967296*u+x)/top<18446744073709551616:=Nat.lt_of_le_of_lt (baF _ _) Om;have γ:IntKind.u64.wrap (a9O ((4294967296*u+x:Nat):Int) ((top:Nat):Int))=(((4294967296*u+x)/top:Nat):Int):=by rw[show a9O ((4294967296*u+x:Nat):Int) ((top:Nat):Int)=(((4294967296*u+x)/top:Nat):Int) from rfl];exact bE ρ
  have σ:val ((X.drop j).take (m+2))/val y<4294967296:=(baK ι).2 (by rw[a8L]; exact hlt);have μ:=Fm (X:=X) (Z:=aL z) (j:=j) (m:=m+2) Om;have ξ:j+(m+2)≤(eA X (aL z)).length:=by rw[eA,a7O,cA]; omega
  have Y:val ((X.drop j).take (m+2))-val y*(val ((X.drop j).take (m+2))/val y)=val ((X.drop j).take (m+2))%val y:=by have:=baV (val ((X.drop j).take (m+2))) (val y);omega
  have w:val y*(val ((X.drop j).take (m+2))/val y)≤val ((X.drop j).take (m+2)):=Nat.mul_div_le _ _;clear w1 w0;have gu:=fun g0=>aXK (C:=C) L n o i y top e d j X (aL z) M hy A.limU κ O Om ι (.rows 1 (aL Q)) g0;rw[B,show m+1+1=m+2 from rfl] at gu;generalize hW:(X.drop j).take (m+2)=W at *
  generalize q':val W/val y=E at *
  have Γ:aL W≠[]:=fun h=>by have:=congrArg List.length h;rw[cA,J] at this;simp at this
  have tail:∀ (g0:Nat) (F:PF) (H:PH),E≤g0→g0<4294967296→((duF n o i y top e d j).set 17 (.int .u64 g0)).le F→((PH.nil.set o (.rows 1 (eA X (aL z)))).set e (.rows 1 (aL Q))).le H →
    aC.wp C (.seq (.block 4 (.loop vD)) (.seq (.region EF) (.seq (.seq (.region EG) (.block 6 (.loop vE))) (.region EI)))) (eX 3 (gE C (aC.wp C (.region EJ)) (fJ (fun (t:Nat × List Nat × List Nat)=>duF n o i y top e d ((t.1:Int)-1)) (fun t=>(PH.nil.set o (.rows 1 (eA t.2.1 (aL z)))).set e (.rows 1 (aL t.2.2))) (fun t=>t.1≤d∧oY U0 (val y) (m+1) i d t.1 t.2.1 t.2.2) (fun t=>t.1) (j+1) (eX 2 K)))) F H:=by
   intro g0 F H hg Φ hF hH;have gu:=gu g0 hg Φ;simp only[go_sem] at gu;simp only[go_sem];refine gu _ F H hF hH ?_;intro R H1 p η;have f11:R 11=some (.osl o 1 0 i):=p 11 _ (by unfold duF; simp only[go_sem]);have U:R 12=some (aJ y):=p 12 _ (by unfold duF; simp only[go_sem]);have ε:R 15=some (.int .i64 j):=p 15 _ (by unfold duF; simp only[go_sem]);have ζ:R 17=some (.int .u64 (E:Nat)):=p 17 _ (by unfold duF; simp only[go_sem]);have ψ:R 10=some (.int .i64 n):=p 10 _ (by unfold duF; simp only[go_sem]);have f13:R 13=some (.int .u64 top):=p 13 _ (by unfold duF; simp only[go_sem]);have f14:R 14=some (.osl e 1 0 d):=p 14 _ (by unfold duF; simp only[go_sem]);have ho:H1 o=some (.rows 1 (eA X (aL z))):=η o _ (by simp only[go_sem,l]);have ο:H1 e=some (.rows 1 (aL Q)):=η e _ Sq;have b3:(j:Int)≤((j+(m+1)+1:Nat):Int):=Om;have b4:((j+(m+1)+1:Nat):Int)≤(i:Nat):=Om;have b5:j+(m+1)+1-j=m+2:=Om;have e2:IntKind.i64.wrap (((j+(m+1):Nat):Int)+1)=((j+(m+1)+1:Nat):Int):=cZ Om;simp only[go_sem,EF,f11,ε,U,a7G,e1,e2,b3,b4,b5];refine tO (src:=aL W) ?_ ?_ (fun h=>absurd h Γ) fun _ o' N=>?_
   ·simp only[go_sem,ho,ξ,μ]
   ·unfold roomFor;rw[cA,J];simp only[maxLen]; omega
   rw[cA,J];have n1:¬ e=o':=fun h=>by subst h; rw[ο] at N; cases N
   have n2:¬ o=o':=fun h=>by subst h; rw[ho] at N; cases N
   have nq:nl E≤1:=nO (by rw[Nat.pow_one]; exact σ);have tm:=L.times y (aI E) hy (aX _) Om (by rw[bB]; omega);rw[aW] at tm;have nW:=fM V;have mn:=L.minus W (aI (val y*E)) V (aX _) (by rw[aW]; exact w) (by rw[bB]; exact a8V (fT w) nW) Om;rw[aW,Y] at mn;have Δ:(aL W).take (m+2)=aL W:=a8C (by rw[cA]; omega);simp only[go_sem,ζ];refine aA (L.make E Om) Sq ?_;simp only[go_sem,U];refine aA tm Sq ?_;simp only[go_sem];refine qZ (o:=o') (s:=1) (rs:=aL W) mn Sq (by simp only[go_sem,show m+2≤W.length by omega,Δ]) ?_;simp only[go_sem,EG];have Ξ:(eA X (aL z)).map (fun r=>r.map (PV.dE o' 1 (aL W)))=eA X (aL z):=by
    have:eA X (aL z)=aL (X++z):=by simp[eA,aL]
    rw[this]; exact rV _ _ _ _
   have Λ:(aL Q).map (fun r=>r.map (PV.dE o' 1 (aL W)))=aL Q:=rV _ _ _ _;have ur:=a0L (C:=C) n o i y top e d j X (aL z) M κ O Om (.rows 1 (aL Q)) E (val W%val y);rw[B,show m+1+1=m+2 from rfl] at ur;simp only[go_sem] at ur;refine ur _ _ _ ?_ ?_ ?_
   ·unfold duF
    (repeat' (first|exact c_|refine d_ ?_ ?_))<;>first|(simp only[go_sem,ψ,f11,U,f13,f14,ε,ζ,n1,n2]<;>rfl)|rfl
   ·refine PH.aK (PH.aK a_ ?_) ?_
    ·simp only[go_sem,l,n2,ho,cG.frz,Ξ]
    ·simp only[go_sem,n1,ο,cG.frz,Λ]
   intro S H3 q θ;have f':S 10=some (.int .i64 n):=q 10 _ (by unfold duF; simp only[go_sem]);have g':S 11=some (.osl o 1 0 i):=q 11 _ (by unfold duF; simp only[go_sem]);have h':S 12=some (aJ y):=q 12 _ (by unfold duF; simp only[go_sem]);have i':S 13=some (.int .u64 top):=q 13 _ (by unfold duF; simp only[go_sem]);have τ:S 14=some (.osl e 1 0 d):=q 14 _ (by unfold duF; simp only[go_sem]);have j':S 15=some (.int .i64 j):=q 15 _ (by unfold duF; simp only[go_sem]);have k':S 17=some (.int .u64 E):=q 17 _ (by unfold duF; simp only[go_sem]);have d':H3 o=some (.rows 1 (eA (X.take j++dW (m+2) (val W%val y)++X.drop (j+(m+2))) (aL z))):=θ o _ (by simp only[go_sem,l]);have e':H3 e=some (.rows 1 (aL Q)):=θ e _ Sq;have a':j<Q.length:=Om;have rq:=bU Q a';have Ω:(j:Int)<(d:Nat):=Om;have sq:=fN Q j E;have ec:IntKind.u32.wrap ((E:Nat):Int)=((E:Nat):Int):=by rw[cL,a8T σ]
   have ej:IntKind.i64.wrap ((j:Int)-1)=(j:Int)-1:=wrap_i64 Om Om;simp only[go_sem,EI,τ,j',k',Ω,e',rq,ec,sq,EJ,ej];refine aD (α:=Nat × List Nat × List Nat) (j,_,_) ⟨by simp only; omega,ω⟩ (by simp only; omega) ?_ ?_
   ·unfold duF
    (repeat' (first|exact c_|refine d_ ?_ ?_))<;>first|(simp only[go_sem,f',g',h',i',τ]<;>rfl)|rfl
   ·refine PH.aK (PH.aK a_ ?_) ?_
    ·simp only[go_sem,l,d']
    ·simp only[go_sem]
  simp only[aC.wp,go_sem] at tail;simp only[go_sem,hz,Ψ];refine bW .nil eT a_ ?_;simp only[go_sem,YF,e1,e0,b1,b0,l,r1,r0,χ,φ,δ,β,YG,Θ,γ,YH];by_cases c:(4294967296*u+x)/top>4294967295
  ·have c':(((4294967296*u+x)/top:Nat):Int)>4294967295:=Om;simp only[go_sem,c',YI];exact tail 4294967295 _ _ Om (by decide) (by unfold duF; exact Lq) b_
  ·have c':¬ (((4294967296*u+x)/top:Nat):Int)>4294967295:=Om;simp only[go_sem,c'];exact tail _ _ _ ν Om (by unfold duF; exact Lq) b_
 ·have:k=0:=Om;subst this;have hz:¬ ((0:Nat):Int)-1≥0:=by decide
  simp only[go_sem,hz];refine hK X Q _ _ A ?_ b_;unfold duF
  (repeat' (first|exact c_|refine d_ ?_ ?_))<;>first|(simp only[go_sem,show ((0:Nat):Int)-1=-1 from rfl]<;>rfl)|rfl
def aMM (a:List Nat) (d q k r:Nat):PF:=(((((PF.nil.set 0 (aJ a)).set 1 (aJ [d])).set 6 (.osl q 1 0 a.length)).set 7 (.int .u64 r)).set 8 (.int .i64 ((k:Int)-1)))
theorem apT {C:Ctx} (L:FF C) (a:List Nat) (d:Nat) (ha:Lim a) (i:0<d) (hd:d<4294967296) (h1:a.length≤1000) (F:PF) (f0:F 0=some (aJ a)) (f1:F 1=some (aJ [d])) :
  aC.wp C (.seq (.region LN) (.seq (.region LO) (.seq (.seq (.region LP) (.block 0 (.loop DZ))) (.seq (.region EA) .ret)))) (aV [.tmp 4,.tmp 5] (bY (pG (val a) d))) F .nil:=by
 have V:(a.length:Int)*((4:Nat):Int)≤140737488355328:=Om;have W:(a.length:Int)≤9223372036854775807:=Om;have hz:a7K a.length [PV.int .u32 0]=aL (a7K a.length 0++[]):=by simp[aL]
 simp only[go_sem,LN,f0,a7G,V,W,hz];refine aR fun o ho=>?_;simp only[go_sem,LO,LP,f0,a7G];refine wp_loop (α:=Nat × List Nat × Nat) (fun t=>aMM a d o t.1 t.2.2) (fun t=>PH.nil.set o (.rows 1 (aL (a7K t.1 0++t.2.1))))
  (fun t=>t.1+t.2.1.length=a.length∧Lim t.2.1∧t.2.2<d∧val t.2.1*d+t.2.2=val (a.drop t.1)) (fun t=>t.1) (a.length,[],0) ⟨by simp,by simp[Lim],i,by simp[val]⟩ ?_ ?_ ?_
 ·unfold aMM
  (repeat' (first|exact c_|refine d_ ?_ ?_))<;>first|(simp only[go_sem,f0,f1,wrap_i64 (Om:-9223372036854775808≤(a.length:Int)-1) (Om:(a.length:Int)-1≤9223372036854775807)]<;>rfl)|rfl
 ·exact PH.aK a_ Sq
 rintro⟨k,S,r⟩ ⟨hk,e,K,c⟩;simp only at hk e K c;simp only[go_sem,DZ,pj,aMM];by_cases h0:0<k
 ·obtain⟨m,rfl⟩:∃ m,k=m+1:=⟨k-1,by omega⟩;have q:((m+1:Nat):Int)-1=(m:Int):=Om;have R:(m:Int)≥0:=Om;have p:m<a.length:=Om;have hlt:(m:Int)<(a.length:Nat):=Om;have β:=ha _ (a7J p);have l:val (a.drop m)=a[m]+4294967296*val (a.drop (m+1)):=by rw[a9H p]; rfl
  have O:=bU a p;generalize hx:a[m]=x at *
  have ex:IntKind.u64.wrap ((x:Nat):Int)=((x:Nat):Int):=bE Om;have Z:IntKind.u64.wrap ((d:Nat):Int)=((d:Nat):Int):=bE Om;have B:shift .shl .u64 (r:Int) 32=some (.int .u64 ((2 ^ 32*r:Nat):Int)):=LF (s:=32) Om Om;have M:(2:Nat) ^ 32=4294967296:=by decide
  have u:=orI (a:=2 ^ 32*r) (b:=x) (n:=2 ^ 32*r+x) Om Om (Nat.two_pow_add_eq_or_of_lt Om r).symm Om;rw[M] at B u;have J:(4294967296*r+x)/d<4294967296:=by rw[baK i];have:4294967296*(r+1)≤4294967296*d:=a9T _ K;omega
  have Q:¬ ((d:Nat):Int)=0:=Om;have w:IntKind.u64.wrap (a9O ((4294967296*r+x:Nat):Int) ((d:Nat):Int))=(((4294967296*r+x)/d:Nat):Int):=by rw[show a9O ((4294967296*r+x:Nat):Int) ((d:Nat):Int)=(((4294967296*r+x)/d:Nat):Int) from rfl];exact bE Om
  have A:Int.tmod ((4294967296*r+x:Nat):Int) ((d:Nat):Int)=(((4294967296*r+x)%d:Nat):Int):=rfl;have Y:IntKind.u32.wrap (((4294967296*r+x)/d:Nat):Int)=(((4294967296*r+x)/d:Nat):Int):=by rw[cL,a8T J]
  have E:a7K (m+1) 0++S=a7K m 0++(0::S):=by rw[List.replicate_succ',a8Q]; rfl
  have U:(aL (a7K m 0++(0::S)))[m]?=some [.int .u32 ((0:Nat):Int)]:=by rw[bU _ (by simp)]; simp
  have H:(aL (a7K m 0++(0::S))).set m [.int .u32 (((4294967296*r+x)/d:Nat):Int)]=aL (a7K m 0++(((4294967296*r+x)/d)::S)):=by rw[fN,baD _ _ (by simp)]; simp
  simp only[go_sem,q,R,pn,B,O,ex,u,po,Z,Q,w,Y,hlt,E,U,H,YA,A,YB];refine aD (m,((4294967296*r+x)/d)::S,(4294967296*r+x)%d) ⟨by simp only[a8Y]; omega,fun y hy=>?_,a8Z _ i,?_⟩ (by simp only; omega) ?_ (PH.aK a_ Sq)
  ·rw[a7T] at hy;rcases hy with rfl | hy
   ·exact J
   ·exact e y hy
  ·simp only[val];rw[l,← c,a8M,a7V,a8H];have:=baV (4294967296*r+x) d;rw[a8L d] at this;omega
  ·(repeat' (first|exact c_|refine d_ ?_ ?_))<;>first|(simp only[go_sem,wrap_i64 (Om:-9223372036854775808≤(m:Int)-1) (Om:(m:Int)-1≤9223372036854775807)]<;>rfl)|rfl
 ·have:k=0:=Om;subst this;have q:¬ ((0:Nat):Int)-1≥0:=by decide
  rw[a8R] at c;have hS:S.length=a.length:=Om;have J:val S=val a/d:=by rw[← c,a8L,Nat.mul_add_div i,baW K,a9M]
  have X:r=val a%d:=by rw[← c,a8L,Nat.mul_add_mod,a8T K]
  have γ:a7K 0 0++S=S:=by simp
  have hl:=L.trim S e Om;have N:(aL S).take a.length=aL S:=a8C (by rw[cA]; omega);simp only[go_sem,q,EA,List.nil_append];refine qZ (o:=o) (s:=1) (rs:=aL S) hl Sq (by simp only[go_sem,N,show a.length≤S.length by omega]) ?_;simp only[go_sem];refine aA (L.make r Om) Sq ?_;simp only[go_sem];refine bA (vs:=[aJ (aI (val S)),aJ (aI r)]) (.inr rfl) .nil Ev a_ ⟨?_,rfl⟩;rw[J,X];exact .refl _
theorem aOG {B m:Nat} (h:nl B=m+1):32*m<cM B∧cM B≤32*(m+1):=by
 refine⟨?_,(lW B (m+1)).2 Om⟩;rcases a8D (32*m) (cM B) with h1 | h1
 ·exact h1
 ·have:=(lW B m).1 h1;omega
theorem aOH {B:Nat} (h:B≠0):2 ^ (cM B-1)≤B:=by
 rcases a8D B (2 ^ (cM B-1)) with h1 | h1
 ·have c:=(lT B _).2 h1;have d:cM B≠0:=fun e=>h (jW.1 e);omega
 ·exact h1
theorem oz {C:Ctx} (L:FF C) (A B:Nat) (hB:B≠0) (hA:nl A≤512) (Λ:nl B≤512) :
  AF.wp C (aV VN.res (bY (pG A B))) (PF.args [aJ (aI A),aJ (aI B)]) .nil:=by
 have N:=aX A;have LB:=aX B;have vA:=aW A;have vB:=aW B;have lA:(aI A).length=nl A:=rfl;have lB:(aI B).length=nl B:=rfl;simp only[go_sem,AF,o9,pd,VN];refine aA (L.cmp _ _ N LB Om Om) rfl ?_;rw[vA,vB];by_cases c1:A<B
 ·have hc:dP A B<0:=by simp[dP,c1]
  simp only[go_sem,hc,pe];refine aA (L.trim _ N Om) rfl ?_;rw[vA];simp only[go_sem];refine bA (vs:=[.aB,aJ (aI A)]) (.inr rfl) .nil rfl a_ ⟨?_,rfl⟩;rw[pG,baW c1,a8T c1,fO];exact CoL.tup (CoL.cons (.nil 1) (CoL.cons (.refl _) .nil))
 have hc:¬ dP A B<0:=by unfold dP;rw[if_neg c1];split<;>decide
 have ο:0<B:=a9U hB;have b':nl B≠0:=fun h=>hB (hZ.1 h);simp only[go_sem,hc,pi,a7G,lB];by_cases c2:nl B=1
 ·have O:B<4294967296:=by have:=(jB B 1).1 Om; simpa using this
  have φ:aI B=[B]:=oI hB O;have sh:=apT (C:=C) L (aI A) B N ο O Om;rw[vA] at sh;simp only[aC.wp,go_sem] at sh;simp only[go_sem,bL (Om:((nl B:Nat):Int)=1)];exact sh _ rfl (by simp only[go_sem,φ])
 obtain⟨m,hm⟩:∃ m,nl B=m+1:=⟨nl B-1,by omega⟩;have a':1≤m:=Om;obtain⟨Ψ,Z⟩:=aOG hm;obtain⟨n,hn⟩:∃ n,n+cM B=32*(m+1):=⟨32*(m+1)-cM B,by omega⟩;have β:n<32:=Om;have E:0<2 ^ n:=baB (by decide);have S:B<2 ^ cM B:=(lT B _).1 (a7M _);have R:=aOH hB;have V:B*2 ^ n<4294967296 ^ (m+1):=by have:B*2 ^ n<2 ^ cM B*2 ^ n:=Nat.mul_lt_mul_of_pos_right S E;rw[← Nat.pow_add,show cM B+n=32*(m+1) by omega,Nat.pow_mul] at this;exact this
 have Δ:4294967296 ^ m*2147483648≤B*2 ^ n:=by have:2 ^ (cM B-1)*2 ^ n≤B*2 ^ n:=a8N _ R;rw[← Nat.pow_add,show cM B-1+n=32*m+31 by omega,Nat.pow_add,Nat.pow_mul] at this;exact this
 have nV:nl (B*2 ^ n)=m+1:=by
  have w:=(jB (B*2 ^ n) (m+1)).2 V;rcases a8D (nl (B*2 ^ n)) (m+1) with h | h
  ·have:=(jB (B*2 ^ n) m).1 Om;have ψ:0<4294967296 ^ m:=baB (by decide);omega
  ·omega
 have Φ:B*2 ^ n≠0:=Nat.mul_ne_zero hB Om;have d':nl (A*2 ^ n)≤nl A+1:=lJ (a7M _) (nO (by rw[Nat.pow_one]; exact Nat.pow_lt_pow_right (a:=2) (m:=n) (n:=32) (by decide) β));have τ:B*2 ^ n≤A*2 ^ n:=a8N _ Om;have e':m+1≤nl (A*2 ^ n):=by rw[← nV]; exact fT τ
 have Ξ:A*2 ^ n≠0:=Om;have θ:IntKind.i64.wrap (32*((nl B:Nat):Int))=((32*(m+1):Nat):Int):=by rw[wrap_i64 Om Om]; omega
 have en:IntKind.i64.wrap (((32*(m+1):Nat):Int)-((cM B:Nat):Int))=(n:Int):=by rw[wrap_i64 Om Om]; omega
 have bt:=L.bits (aI B) LB Om;rw[vB] at bt;have ua:=L.upM (aI A) n N Om Om (fun h=>by have:=fC N; rw[h] at this; omega);have ub:=(L.upM (aI B) n LB Om Om (fun h=>by have:=fC LB; rw[h] at this; omega)).freeze;rw[vA] at ua;rw[vB] at ub;have tail:∀ (o:Nat) (F:PF) (H:PH),F 0=some (aJ (aI A))→F 1=some (aJ (aI B))→F 10=some (.int .i64 n)→F 11=some (.osl o 1 0 (nl (A*2 ^ n)+2))→F 12=some (aJ (aI (B*2 ^ n)))→H o=some (.rows 1 (aL (aI (A*2 ^ n))++[[.int .u32 0],[.int .u32 0]])) →
   aC.wp C (.seq (.region EB) (.seq (.region EC) (.seq (.region ED) (.seq (.seq (.region EE) (.block 2 (.loop vF))) (.seq (.region EK) .ret))))) (aV [.tmp 4,.tmp 5] (bY (pG A B))) F H:=by
  intro o F H f0 f1 ι f11 κ hH;have LU:=aX (A*2 ^ n);have LV:=aX (B*2 ^ n);have vU:=aW (A*2 ^ n);have vV:=aW (B*2 ^ n);have lU:(aI (A*2 ^ n)).length=nl (A*2 ^ n):=rfl;have lV:(aI (B*2 ^ n)).length=m+1:=nV;have eu:IntKind.i64.wrap (((nl (A*2 ^ n):Nat):Int)+1)=((nl (A*2 ^ n)+1:Nat):Int):=cZ Om;have b1:((nl (A*2 ^ n)+1:Nat):Int)≤((nl (A*2 ^ n)+2:Nat):Int):=Om;simp only[go_sem,EB,f11,f0,ι];refine aA ua.freeze rfl ?_;obtain⟨c,Ω⟩:∃ c,nl (A*2 ^ n)+1-(m+1)=c:=⟨_,rfl⟩;have χ:nl (A*2 ^ n)+1=c+(m+1):=Om;have em:IntKind.i64.wrap (((m+1:Nat):Int)-1)=((m:Nat):Int):=by rw[wrap_i64 Om Om]; omega
  have l:m<(aI (B*2 ^ n)).length:=Om;have rm:=bU (aI (B*2 ^ n)) l;have tl:=LV _ (a7J l);have htop:0<(aI (B*2 ^ n))[m]:=by
   have w:=cF (aI (B*2 ^ n)) l;rw[a8C Om,vV] at w;have h2:=fC (LV.take m);rw[a8A,a9S Om] at h2;have ψ:0<4294967296 ^ m:=baB (by decide);rcases a9Q (aI (B*2 ^ n))[m] with h | h
   ·rw[h] at w; omega
   ·exact h
  have η:2147483648≤(aI (B*2 ^ n))[m]:=by
   have w:=cF (aI (B*2 ^ n)) l;rw[a8C Om,vV] at w;have h2:=fC (LV.take m);rw[a8A,a9S Om] at h2;rcases a8D (aI (B*2 ^ n))[m] 2147483648 with h | h
   ·exfalso;have h3:4294967296 ^ m*((aI (B*2 ^ n))[m]+1)≤4294967296 ^ m*2147483648:=a9T _ h;rw[a7V,Nat.mul_one] at h3;omega
   ·exact h
  have q:=aBP (C:=C) L (A*2 ^ n) n o (nl (A*2 ^ n)+1) c;have hI:oY (A*2 ^ n) (val (aI (B*2 ^ n))) (m+1) (nl (A*2 ^ n)+1) c c (aI (A*2 ^ n)++[0]) (a7K c 0):=by
   refine⟨by rw[a7O,lU]; rfl,List.length_replicate,LU.app fun x M=>by simp at M; omega,vQ _,?_,?_,fun i x _ M=>Vc M⟩
   ·rw[fX,vU,sD]; simp[val]
   ·have Θ:(aI (A*2 ^ n)++[0]).length=nl (A*2 ^ n)+1:=by rw[a7O,lU]; rfl
    have Γ:val (aI (A*2 ^ n)++[0])=A*2 ^ n:=by rw[fX,vU]; simp[val]
    rw[uO (LU.app fun x M=>by simp at M; omega) Om,Γ,vV,baK (baB (by decide))];have w:A*2 ^ n<4294967296 ^ nl (A*2 ^ n):=(jB _ _).1 (a7M _);have M:nl (A*2 ^ n)=m+c:=Om;rw[M,Nat.pow_add] at w;have h2:4294967296 ^ m*4294967296 ^ c≤(B*2 ^ n)*4294967296 ^ c:=a8N _ Om;omega
  have J:aL (aI (A*2 ^ n))++[[PV.int .u32 0],[PV.int .u32 0]]=eA (aI (A*2 ^ n)++[0]) (aL [0]):=by simp[eA,aL]
  rw[J] at hH;generalize ζ:(aI (B*2 ^ n))[m]=top at *
  have et:IntKind.u64.wrap ((top:Nat):Int)=((top:Nat):Int):=bE Om;have k2:IntKind.i64.wrap (((nl (A*2 ^ n)+1:Nat):Int)-((m+1:Nat):Int))=((c:Nat):Int):=by rw[wrap_i64 Om Om]; omega
  have k3:((c:Nat):Int)*((4:Nat):Int)≤140737488355328:=Om;have k4:((c:Nat):Int)≤9223372036854775807:=Om;have hz:a7K c [PV.int .u32 0]=aL (a7K c 0):=by simp[aL]
  have jq:IntKind.i64.wrap ((c:Int)-1)=(c:Int)-1:=wrap_i64 Om Om;simp only[go_sem,a7G,lU,eu,b1,EC,κ,lV,em,rm,et,ED,k2,k3,k4,hz];refine aR fun u ε=>?_;have γ:u≠o:=by rintro rfl; rw[hH] at ε; cases ε
  have e:¬ o=u:=fun h=>γ h.symm;have p:=q u m (aI (B*2 ^ n)) [0] γ LV lV (by rw[ζ]; exact htop) χ Om _ hI;rw[ζ] at p;simp only[go_sem] at p;simp only[go_sem,EE,jq];refine p _ _ _ ?_ ?_ ?_
  ·unfold duF;exact Lq
  ·refine PH.aK (PH.aK a_ ?_) ?_
   ·simp only[go_sem,e,hH]
   ·simp only[go_sem]
  clear p q;intro X Q F1 H1 d y U;have μ:F1 10=some (.int .i64 n):=y 10 _ (by unfold duF; simp only[go_sem]);have ν:F1 11=some (.osl o 1 0 (nl (A*2 ^ n)+1)):=y 11 _ (by unfold duF; simp only[go_sem]);have ξ:F1 14=some (.osl u 1 0 c):=y 14 _ (by unfold duF; simp only[go_sem]);have δ:H1 o=some (.rows 1 (eA X (aL [0]))):=U o _ (by simp only[go_sem,e]);have ω:H1 u=some (.rows 1 (aL Q)):=U u _ Sq;have hu:val X<val (aI (B*2 ^ n)):=by have:=d.r; rwa [a8R] at this
  have K:=d.v;rw[vV] at hu K;have σ:val Q=A/B:=by
   have:A*2 ^ n/(B*2 ^ n)=val Q:=by rw[← K,Nat.add_mul_div_right _ _ Om,baW hu,a8E]
   rw[← this,Nat.mul_div_mul_right _ _ E]
  have υ:val X/2 ^ n=A%B:=by
   have:A*2 ^ n%(B*2 ^ n)=val X:=by rw[← K,Nat.add_mul_mod_self_right,a8T hu]
   rw[← this,Nat.mul_mod_mul_right,Nat.mul_div_cancel _ E]
  have lX:=d.lu';have lQ:=d.lq';have ρ:(aL Q).take c=aL Q:=a8C (by rw[cA]; omega);have Y:(eA X (aL [0])).take (nl (A*2 ^ n)+1)=aL X:=by rw[eA,List.take_append_of_le_length (by rw[cA]; omega),a8C (by rw[cA]; omega)]
  have W:nl (A*2 ^ n)+1≤(eA X (aL [0])).length:=by rw[eA,a7O,cA]; omega
  have α:(eA X (aL [0])).map (fun r=>r.map (PV.dE u 1 (aL Q)))=eA X (aL [0]):=by
   have:eA X (aL [0])=aL (X++[0]):=by simp[eA,aL]
   rw[this]; exact rV _ _ _ _
  have nX:=fM d.limU;have t1:=L.trim Q d.limQ Om;have t2:=L.trim X d.limU Om;have dn:=L.down (aI (val X)) n (aX _) (by rw[bB]; omega) Om;rw[aW,υ] at dn;rw[σ] at t1;generalize aL [0]=Z0 at δ Y W α;simp only[go_sem,EK,ξ];refine qZ (o:=u) (s:=1) (rs:=aL Q) t1 ω (by simp only[go_sem,ρ,show c≤Q.length by omega]) ?_;simp only[go_sem,ν,e];refine qZ (o:=o) (s:=1) (rs:=eA X Z0) t2 (by simp only[go_sem,e,δ,cG.frz,α]) (by simp only[go_sem,Y,W]) ?_;simp only[go_sem,μ];refine aA dn rfl ?_;simp only[go_sem];exact bA (vs:=[aJ (aI (A/B)),aJ (aI (A%B))]) (.inr rfl) .nil rfl a_ ⟨.refl _,rfl⟩
 simp only[aC.wp,go_sem] at tail;simp only[go_sem,bF (Om:¬ ((nl B:Nat):Int)=1),YC,a7G,lB];refine aA bt rfl ?_;simp only[go_sem,θ,en,YD];refine kU ua rfl a_ fun r H1 hr _=>?_;have Z:(2:Nat)*1≤16777216:=by decide
 rcases hr with ⟨h0,_⟩ | ⟨o,rs,rfl,rfl,hrl,hrt⟩
 ·exfalso;have:=congrArg List.length h0;rw[cA,bB] at this;simp at this;omega
 rw[PH.pN];rw[cA,bB] at hrl hrt;simp only[go_sem,Z,cA,bB];refine U9 (src:=[[.int .u32 0],[.int .u32 0]]) (rs:=rs) rfl ?_ Sq hrl ?_ fun o' c'=>?_
 ·unfold roomFor;simp only[maxLen,a8Y,a9W]; omega
 ·rw[hrt];simp only[go_sem];refine aA ub rfl ?_;simp only[go_sem];exact tail o _ _ rfl rfl rfl rfl rfl Sq
 ·rw[hrt];simp only[go_sem];refine aA ub rfl ?_;simp only[go_sem];exact tail o' _ _ rfl rfl rfl rfl rfl Sq
def aM (C:Ctx) (k:Nat) (c:aS):Prop:=∀ (args:List PV) (H:PH) (R:PV→PH→Prop),args.length≤c.ntmps→c.body.wp C (aV c.res R) (PF.args args) H→aH C k args H R
theorem aM.go {C:Ctx} {k:Nat} {c:aS} (r:aM C k c) {args:List PV} {H:PH} {R:PV→PH→Prop} (h:c.body.wp C (aV c.res R) (PF.args args) H) (d:Nat.ble args.length c.ntmps=true):aH C k args H R:=r args H R (Nat.le_of_ble_eq_true d) h
structure fV (C:Ctx):Prop where
 r0:aM C 0 kd
 r1:aM C 1 Hd
 r2:aM C 2 alO
 r4:aM C 4 lk
 r5:aM C 5 amC
 r7:aM C 7 lj
 r20:aM C 20 aVP
 r23:aM C 23 aVV
 r27:aM C 27 j9
 r28:aM C 28 amB
 r29:aM C 29 He
 r30:aM C 30 apQ
 r31:aM C 31 Hj
 r32:aM C 32 apR
 r33:aM C 33 udiv
 r34:aM C 34 apV
 r35:aM C 35 Hl
 r36:aM C 36 apX
 r37:aM C 37 aqA
 r38:aM C 38 Hn
 r39:aM C 39 VN
 r40:aM C 40 Hk
 r41:aM C 41 pq
 r42:aM C 42 pt
 r43:aM C 43 Hm
 r44:aM C 44 p6
 r45:aM C 45 uup
 r47:aM C 47 aqF
 r50:aM C 50 qk
 r58:aM C 58 VR
 r59:aM C 59 Hz
 r95:aM C 95 akM
 r96:aM C 96 akS
 r97:aM C 97 jt
 r98:aM C 98 G6
 r99:aM C 99 G7
 r100:aM C 100 G8
 r101:aM C 101 gone
 r102:aM C 102 G9
 r103:aM C 103 ju
 r104:aM C 104 gin
 r105:aM C 105 akN
 r106:aM C 106 akO
 r107:aM C 107 Ha
 r108:aM C 108 Hb
 r109:aM C 109 jx
 r110:aM C 110 Hc
 r111:aM C 111 Ma
 r112:aM C 112 akP
 r113:aM C 113 ZM
 r114:aM C 114 akA
 r115:aM C 115 jg
 r116:aM C 116 FQ
 r117:aM C 117 uo
 r118:aM C 118 js
 r119:aM C 119 ajZ
 r120:aM C 120 rU
 r121:aM C 121 jr
 r122:aM C 122 G5
 r123:aM C 123 j7
 r124:aM C 124 QG
 r125:aM C 125 QI
 r126:aM C 126 FU
 r127:aM C 127 amG
 r128:aM C 128 Hf
 r129:aM C 129 amI
 r130:aM C 130 amK
 r131:aM C 131 amP
 r132:aM C 132 Hg
 r133:aM C 133 amT
 r134:aM C 134 amV
 r135:aM C 135 Hi
 r136:aM C 136 VC
 r137:aM C 137 l9
 r138:aM C 138 yL
 r139:aM C 139 JY
 r140:aM C 140 mb
 r141:aM C 141 mf
 r142:aM C 142 BO
 r143:aM C 143 nup
 r147:aM C 147 tat
 r148:aM C 148 aXE
 r149:aM C 149 aTL
 r150:aM C 150 aXF
 r151:aM C 151 aWY
 r152:aM C 152 a0I
 r153:aM C 153 aTK
 r154:aM C 154 a0J
 r155:aM C 155 aWZ
 r156:aM C 156 a0H
 r157:aM C 157 aXG
 r158:aM C 158 a0K
 r159:aM C 159 aXJ
 r160:aM C 160 aXH
 r161:aM C 161 aXI
theorem kR {C:Ctx} (c:fV C):pS C :=
 have len:∀ xs,Lim xs→xs.length≤35184372087808→aH C 138 [aJ xs] .nil (aF (.int .i64 (nl (val xs):Nat))):=fun xs h l=>c.r138.go (ma xs h l) rfl
 {length:=len
  large:=fun xs h l=>c.r137.go (Bm xs (len xs h l)) rfl
  sized:=fun xs h l=>(c.r141.go (B5 xs h (len xs h l)) rfl).seen
  trim:=fun xs h l=>(c.r135.go (Qy xs h l (len xs h l)) rfl).seen
  make:=fun v h=>c.r132.go (Qa v h len) rfl
  cmp:=fun xs ys d e i p=>c.r129.go (abW xs ys d e i p (len xs d i) (len ys e p)) rfl }
theorem amF {C:Ctx} (c:fV C):ft C :=
 {subtract:=fun A W Z v f o hW l i e p d=>c.r142.go (RH A W Z v f hW l i e p d o) rfl
  restore:=fun A W Z v o hW l i e=>c.r139.go (XA A W Z v hW l i e o) rfl }
theorem cb {C:Ctx} (c:fV C):ZC C :=
 {L:=kR c
  D:=amF c
  up:=fun a s i u e=>c.r143.go (auM a s i u e) rfl
  short:=fun a d i l p e=>c.r140.go (Br (kR c) a d i l p e) rfl
  lengthO:=fun xs o w q=>c.r138.go (WY xs w q o) rfl }
theorem zR {C:Ctx} (c:fV C) (A B:Nat) (hB:B≠0) (e:nl A≤900) (d:nl B≤900):aH C 136 [aJ (aI A),aJ (aI B)] .nil (aF (pG A B)) :=
 (c.r136.go (ln (cb c) A B hB e d) rfl).seen
theorem lI {C:Ctx} (c:fV C):qU C :=
 {kR c with
  bits:=fun xs h l=>c.r128.go (Po xs h l ((kR c).length xs h l)) rfl
  add:=fun xs ys d e i p=>(c.r127.go (abP (kR c) xs ys d e i p) rfl).seen
  sub:=fun xs ys d e i p=>(c.r134.go (adC (kR c) xs ys d e i p) rfl).seen
  mul:=fun xs ys d e i p=>(c.r133.go (acX (kR c) xs ys d e i p) rfl).seen
  gcd:=fun xs ys d e i p=>(c.r131.go (acP (kR c) (zR c) xs ys d e i p) rfl).seen
  div:=fun xs ys d e i p=>(c.r130.go (acH (kR c) (zR c) xs ys d e i p) rfl).seen }
theorem qA {C:Ctx} (c:fV C):AQ C :=
 {lI c with
  times:=fun a b d i e l p q=>c.r121.go (zi (lI c) a b d i e l p q) rfl
  zero:=fun neg a b d e=>c.r122.go (K7 (lI c) neg a b d e) rfl
  valid:=fun neg a b d i e l=>c.r118.go (zm (lI c) neg a b d i e l) rfl
  abs:=fun v w x=>c.r119.go (Yk (lI c) v w x) rfl
  lowest:=fun neg a b d i e l p q u=>(c.r120.go (ja (lI c) neg a b d i e l p q u) rfl).seen }
theorem PT {C:Ctx} (c:fV C) (x y:RF) (d:x.Ok) (e:y.Ok):aH C 113 [.agg x.cells,.agg y.cells] .nil (aF (frV (gI x.v y.v))) :=
 (c.r113.go (Yp (qA c) x.neg y.neg x.num x.den y.num y.den d.1 d.2.1 e.1 e.2.1 d.2.2.1 d.2.2.2 e.2.2.1 e.2.2.2) rfl).seen
theorem HV {C:Ctx} (c:fV C):fk C :=
 {qA c with
  frac:=fun n d u p=>(c.r115.go (Ky (qA c) n d u.1 u.2 p.1 p.2) rfl).seen
  red:=fun x e=>by rw[← m9];exact (c.r116.go (jj (qA c) x.neg x.num x.den e.1 e.2.1 e.2.2.1 e.2.2.2) rfl).seen
  ord:=fun x y e i=>(c.r114.go (Yz (qA c) x.neg y.neg x.num x.den y.num y.den e.1 e.2.1 i.1 i.2.1 e.2.2.1 e.2.2.2 i.2.2.1 i.2.2.2) rfl).seen
  plus:=PT c
  tot:=fun l q=>(c.r117.go (Y5 (qA c) (PT c) l q.all q.fits) rfl).seen }
theorem pZ {C:Ctx} (c:fV C):rB C :=
 have inn:∀ n lo hi:Int,aH C 104 [.int .i64 n,.int .i64 lo,.int .i64 hi] .nil (aF (.bool (within n lo hi))):=fun n lo hi=>(c.r104.go (asO n lo hi) rfl).seen;have lK:∀ x:RF,x.Ok→aH C 97 [.agg x.cells] .nil (aF (.bool (bG x))):=fun x i=>(c.r97.go (zp (lI c) x i) rfl).seen;have lim:∀ x:RF,x.Ok→aH C 105 [.agg x.cells] .nil (aF (.bool (cS x))):=fun x i=>(c.r105.go (Zv (HV c) x i) rfl).seen;have d:∀ n:Nat,aH C 126 [.int .u8 n] .nil (aF (.bool (eO n))):=fun n=>c.r126.go (j6 n) rfl;have e:∀ n:Nat,aH C 124 [.int .u8 n] .nil (aF (.bool (kK n))):=fun n=>c.r124.go (Aj n) rfl
 {HV c with
  inn:=inn
  lK:=lK
  lim:=lim
  one:=fun x i=>(c.r101.go (Z3 (HV c) x i) rfl).seen
  allf:=fun p fn l q h=>(c.r99.go (Lm p fn l q h) rfl).seen
  alli:=fun p fn l q h=>(c.r100.go (Lz p fn l q h) rfl).seen
  allb:=fun p fn l q h=>(c.r98.go (Lc p fn l q h) rfl).seen
  ends1:=fun b=>(c.r103.go (zt b) rfl).seen
  num1:=fun n=>(c.r107.go (Mn inn n) rfl).seen
  rate1:=fun x i=>(c.r109.go (Aa lim lK x i) rfl).seen
  name:=fun s=>c.r123.go (N2 d (fun n=>c.r125.go (Al d e n) rfl) s) rfl }
theorem PQ {C:Ctx} (c:fV C):fj C :=
 {pZ c with
  num:=fun p d=>(c.r106.go (Zy (pZ c) p d) rfl).seen
  rate:=fun p d=>(c.r108.go (Mt (pZ c) p d) rfl).seen
  uniq:=fun l e=>(c.r110.go (M0 (pZ c) l e) rfl).seen }
theorem PR {C:Ctx} (c:fV C):NW C :=
 {PQ c with
  ends:=fun l e d=>(c.r102.go (Me (pZ c) l e d) rfl).seen }
theorem Ku {C:Ctx} (c:fV C):jV C :=
 {PR c with
  law:=fun l e=>(c.r95.go (Zm (PR c) l e) rfl).seen
  pol:=fun p n q i=>(c.r112.go (Z7 (PQ c) p q n i) rfl).seen
  a6E:=fun f d=>(c.r111.go (Zf (pZ c) f d) rfl).seen }
theorem um {C:Ctx} (c:fV C) (f:aE) (d:f.Ok):aH C 96 [.agg f.cells] .nil (aF (.int .i64 (wJ f))):=(c.r96.go (aaG (Ku c) f d) rfl).seen
theorem jU {C:Ctx} (c:fV C):oQ C:={ trimM:=fun xs h l=>c.r38.go (T7 xs h l) rfl }
theorem RX {C:Ctx} (c:fV C):fw C :=
 {jU c with
  make:=fun v h=>(c.r35.go (Tu (jU c) v h) rfl).seen
  large:=fun xs h l=>(c.r41.go (D2 (jU c) xs h l) rfl).seen
  cmp:=fun xs ys d e i p=>c.r32.go (aeX (jU c) xs ys d e i p) rfl }
theorem RZ {C:Ctx} (c:fV C):fy C :=
 {RX c with
  minus:=fun a b e i l q d=>(c.r42.go (D5 (jU c) a b e i l q d) rfl).seen
  times:=fun a b e i d p=>(c.r44.go (Eh (jU c) a b e i d p) rfl).seen }
theorem zY {C:Ctx} (c:fV C):OB C :=
 {RZ c with
  plus:=fun a b i l d e=>(c.r43.go (T0 (jU c) a b i l d e) rfl).seen }
theorem Rh {C:Ctx} (c:fV C):FF C :=
 {zY c with
  bits:=fun xs h l=>c.r31.go (S3 (jU c) xs h l) rfl
  upM:=fun a n e d i p=>c.r45.go (aBV (jU c) a n e d i p) rfl
  down:=fun a n e d i=>(c.r40.go (Ti (jU c) a n e d i) rfl).seen }
theorem zX {C:Ctx} (c:fV C):NZ C :=
 {RX c with
  divide:=fun A B hB e d=>(c.r39.go (oz (Rh c) A B hB e d) rfl).seen }
theorem RY {C:Ctx} (c:fV C):fx C :=
 {zX c with
  gcd:=fun a b d e i l=>(c.r34.go (afQ (zX c) a b d e i l) rfl).seen
  div:=fun a b d e i l=>(c.r33.go (afI (zX c) a b d e i l) rfl).seen }
theorem mm {C:Ctx} (c:fV C):Gz C :=
 {RY c with
  lowest:=fun neg a b i l p q u w e=>(c.r58.go (qd (RY c) neg a b i l p q u w e) rfl).seen
  size:=fun v d=>c.r59.go (U3 v d.1 d.2) rfl }
theorem tE {C:Ctx} (c:fV C):OA C :=
 {mm c with
  fmk:=fun n d i e=>(c.r50.go (Uq (mm c) n d i e) rfl).seen }
abbrev oN (C:Ctx):Prop:=∀ n:Nat,n<100→aH C 195 [.int .i64 n] .nil (aF (.str (bZ n)))
theorem JK {C:Ctx} (c:fV C) (hi:oN C):AU C :=
 {tE c with
  int:=fun n d=>(c.r47.go (VQ (tE c) n d) rfl).seen
  itoa:=hi
  next:=fun l v T o n a d e=>c.r4.go (Pc T o n a d e) rfl }
theorem QP {C:Ctx} (c:fV C) (hi:oN C):fp C :=
 {JK c hi with
  frac:=fun l v T o a d=>c.r1.go (On (JK c hi) T o a d) rfl }
theorem QQ {C:Ctx} (c:fV C) (hi:oN C):qT C :=
 {QP c hi with
  rep:=fun l v T o a m e d=>c.r5.go (abG (QP c hi) T o a m e d) rfl
  name:=fun s n p i=>c.r29.go (O9 (JK c hi) s n p i) rfl }
theorem QR {C:Ctx} (c:fV C) (hi:oN C):mA C :=
 {QQ c hi with
  law:=fun l v T o dZ a i d e=>c.r2.go (aaU (QQ c hi) T o dZ a i d e) rfl }
theorem kA {f:aE} (h:VF f) {i:Nat} (hi:i<f.a5Y.length):0≤lvl f i∧lvl f i≤4:=by
 rcases a9Q i with e | e
 ·rw[e,h.root.2.1]; omega
 ·have:=h.dom i e hi; omega


theorem aaT (a b:Nat):mkT (a:Int) (b:Int)=⟨false,aI (a/a7I a b),aI (b/a7I a b)⟩:=by
 have c:decide ((a:Int)<0)=false:=decide_eq_false Om;have d:decide ((b:Int)<0)=false:=decide_eq_false Om;unfold mkT mO FV.rf;rw[c,d,Int.natAbs_natCast,Int.natAbs_natCast];rfl
structure SmF (x:RF) (p q:Nat):Prop where
 eq:x=⟨false,aI (p/a7I p q),aI (q/a7I p q)⟩
 a:p≤64
 b:q≤64
 pos:0<q
theorem SmF.mk' {a b:Nat} (c:a≤64) (d:b≤64) (h:0<b):SmF (mkT (a:Int) (b:Int)) a b:=⟨aaT a b,c,d,h⟩
theorem SmF.num {x:RF} {a b:Nat} (h:SmF x a b):val x.num=a/a7I a b:=by rw[h.eq,aW]
theorem SmF.den {x:RF} {a b:Nat} (h:SmF x a b):val x.den=b/a7I a b:=by rw[h.eq,aW]
theorem SmF.v {x:RF} {a b:Nat} (h:SmF x a b):x.v=(false,a/a7I a b,b/a7I a b):=by
 unfold RF.v;rw[h.num,h.den,h.eq]
theorem SmF.Q2 {x:RF} {a b:Nat} (_:SmF x a b):a/a7I a b≤a:=baF ..
theorem SmF.Jw {x:RF} {a b:Nat} (_:SmF x a b):b/a7I a b≤b:=baF ..
theorem SmF.den_pos {x:RF} {a b:Nat} (h:SmF x a b):0<b/a7I a b:=Nat.div_pos (Nat.le_of_dvd h.pos (Nat.gcd_dvd_right a b)) (Nat.gcd_pos_of_pos_right a h.pos)
theorem xY {n:Nat} (h:n≤4096):cM n≤32:=(lT n 32).2 Om
theorem Vq {n:Nat} (h:0<n):0<cM n:=by
 rcases a9Q (cM n) with e | e
 ·rw[jW] at e; omega
 ·exact e
theorem tN {a b:Nat} (d:a≤4096) (e:b≤4096) (h:0<b):cU a b=true:=by
 have i:=xY d;have l:=xY e;have c:=Vq h;unfold cU;rw[decide_eq_true c,decide_eq_true (Om:cM b≤4096),decide_eq_true (Om:cM a≤4096)];rfl
theorem aaQ {n:Bool} {a b:Nat} (c:a≤4096) (d:b≤4096):iH n a b=.ok (n&&decide (a/a7I a b≠0),a/a7I a b,b/a7I a b):=by
 have e:=xY (a8V (baF a (a7I a b)) c);have i:=xY (a8V (baF b (a7I a b)) d);unfold iH;rw[if_neg Om]
theorem SmF.lim {x:RF} {a b:Nat} (h:SmF x a b):cS x=true:=by
 have l:=h.Q2;have p:=h.Jw;have c:=h.den_pos;have:=h.a;have:=h.b;have d:x.neg=false:=by rw[h.eq]
 unfold cS oO;rw[h.num,h.den,d,tN Om Om c,if_pos rfl,aaQ Om Om];have e:=baF (a/a7I a b) (a7I (a/a7I a b) (b/a7I a b));have i:=baF (b/a7I a b) (a7I (a/a7I a b) (b/a7I a b));simp only[a7P,a7Y,a7R,a7X,decide_eq_true_eq];exact⟨xY Om,xY Om⟩
theorem SmF.lK {x:RF} {a b:Nat} (h:SmF x a b) (c:0<a):bG x=true:=by
 unfold bG;rw[h.num];exact decide_eq_true (Nat.ne_of_gt (Nat.div_pos (Nat.le_of_dvd c (Nat.gcd_dvd_left a b)) (Nat.gcd_pos_of_pos_right a h.pos)))
theorem SmF.zero {x:RF} {b:Nat} (h:SmF x 0 b):bG x=false:=by
 unfold bG;rw[h.num,Nat.zero_div];rfl
theorem SmF.one {x:RF} {a b:Nat} (h:SmF x a b) (c:a≤b):wG x=true:=by
 have i:=h.Q2;have l:=h.Jw;have d:=h.den_pos;have:=h.a;have:=h.b;have e:x.neg=false:=by rw[h.eq]
 unfold wG;rw[h.num,h.den,e,tN Om Om d];have:a/a7I a b≤b/a7I a b:=Nat.div_le_div_right c;show (true&&decide (dP (a/a7I a b*1) (1*(b/a7I a b))≤0))=true;rw[Nat.mul_one,Nat.one_mul,a7R];refine decide_eq_true ?_;unfold dP;split
 ·decide
 ·split
  ·omega
  ·decide
theorem SmF.ok {x:RF} {a b:Nat} (h:SmF x a b):x.Ok:=by
 have c:=h.Q2;have d:=h.Jw;have:=h.a;have:=h.b;have k1:nl (a/a7I a b)≤1:=(jB _ _).2 Om;have k2:nl (b/a7I a b)≤1:=(jB _ _).2 Om;rw[h.eq];refine⟨aX _,aX _,?_,?_⟩
 ·show (aI _).length≤_;rw[bB]; omega
 ·show (aI _).length≤_;rw[bB]; omega
theorem aOZ:∀ c:Fin 9,∀ k:Fin 9,c.val+k.val≤8 →
  (c.val/a7I c.val 8*(8/a7I k.val 8)+k.val/a7I k.val 8*(8/a7I c.val 8))/a7I (c.val/a7I c.val 8*(8/a7I k.val 8)+k.val/a7I k.val 8*(8/a7I c.val 8)) (8/a7I c.val 8*(8/a7I k.val 8))=(c.val+k.val)/a7I (c.val+k.val) 8 ∧
  8/a7I c.val 8*(8/a7I k.val 8)/a7I (c.val/a7I c.val 8*(8/a7I k.val 8)+k.val/a7I k.val 8*(8/a7I c.val 8)) (8/a7I c.val 8*(8/a7I k.val 8))=8/a7I (c.val+k.val) 8:=by decide +kernel
abbrev eV (c:Nat):FV:=(false,c/a7I c 8,8/a7I c 8)
theorem WB (c:Nat):0<8/a7I c 8:=Nat.div_pos (Nat.le_of_dvd (by decide) (Nat.gcd_dvd_right c 8)) (Nat.gcd_pos_of_pos_right c (by decide))
theorem Il {c k:Nat} (h:c+k≤8):gI (eV c) (eV k)=.ok (eV (c+k)):=by
 obtain⟨d,e⟩:=aOZ ⟨c,by omega⟩ ⟨k,by omega⟩ h;simp only at d e;have a1:=baF c (a7I c 8);have a2:=baF k (a7I k 8);have a3:=baF 8 (a7I c 8);have a4:=baF 8 (a7I k 8);have i:=WB c;have l:=WB k;simp only[gI];rw[tN Om Om i,tN Om Om l,baJ,if_pos rfl,if_pos trivial];have b1:c/a7I c 8*(8/a7I k 8)≤8*8:=baP Om a4;have b2:k/a7I k 8*(8/a7I c 8)≤8*8:=baP Om a3;have p:8/a7I c 8*(8/a7I k 8)≤8*8:=baP a3 a4;rw[aaQ Om Om,d,e];rfl
theorem TE:∀ (l:List Nat) (c:Nat),c+l.sum≤8→(l.map eV).foldlM gI (eV c)=.ok (eV (c+l.sum))
 | [],c,_=>rfl
 | k::l,c,h=>by rw[List.sum_cons] at h;rw[a8U,List.foldlM_cons,Il Om,List.sum_cons,← a9R];exact TE l (c+k) Om
theorem aOY:eV 0=(false,0,1):=by decide +kernel
theorem aEU:eV 8=(false,1,1):=by decide +kernel
theorem aTJ (l:List Nat) (h:l.sum=8):(match nG (l.map eV) with
  | .ok (n,a,b)=>decide (pL n a b false 1 1=0)
  | .error _=>false)=true:=by
 unfold nG;rw[← aOY,TE l 0 Om,a8E,h,aEU];rfl
def dig (k:Nat):List UInt8:=if k<10 then [UInt8.ofNat (48+k)] else [UInt8.ofNat (48+k/10),UInt8.ofNat (48+k%10)]
def VP:List UInt8→Nat
 | [a]=>a.toNat-48
 | [a,b]=>(a.toNat-48)*10+(b.toNat-48)
 | _=>0
theorem QF {k:Nat} (h:k<100):bZ k=dig k:=by
 unfold bZ dig;by_cases c:k<10
 ·rw[if_pos c]; exact Lib.decDigits_one c
 ·rw[if_neg c]; exact Lib.decDigits_two c h
theorem Jy:∀ k:Fin 100,VP (dig k.val)=k.val∧(dig k.val).length≤2∧((dig k.val).all fun c=>fL c.toNat)=true:=by decide +kernel
theorem vk {p:List UInt8} {c:UInt8} {t:List UInt8} (e:p=c::t) (i:eO c.toNat=true) (u:(t.all fun c=>fL c.toNat)=true) (w:p.length≤8) {k:Nat} (l:k<100):isName (p++bZ k)=true:=by
 obtain⟨-,q,d⟩:=Jy ⟨k,l⟩;simp only at q d;subst e;rw[QF l];show (decide ((c::t++dig k).length≤16)&&eO c.toNat&&(c::t++dig k).all fun c=>fL c.toNat)=true;have hi:fL c.toNat=true:=by unfold fL; rw[i]; rfl
 rw[decide_eq_true (by rw[a7O]; omega),i,List.all_append,d,List.all_cons,u,hi];rfl
theorem WA {l:List (List UInt8)} (c:∀ x∈l,isName x=true) (d:l.Nodup):distinct l=true:=by
 unfold distinct;rw[a7W];intro i hi;rw[a8K] at hi;have e:l.getD i []=l[i]:=by simp[a7Z,hi]
 rw[e,c _ (a7J hi),a7R];have:¬ l[i]∈l.take i:=by intro q;obtain⟨j,p,e⟩:=a8S q;rw[a8A] at p;rw[List.getElem_take] at e;have:=(List.nodup_iff_pairwise_ne.1 d);rw[List.pairwise_iff_getElem] at this;exact this j i Om hi Om e
 simp[this]
theorem RD {l:List (List UInt8)} {g:List UInt8→Nat} (h:∀ i (hi:i<l.length),g l[i]=i):l.Nodup:=by
 rw[List.nodup_iff_pairwise_ne,List.pairwise_iff_getElem];intro i j hi d hlt e;have c:=h i hi;have p:=h j d;rw[e] at c;omega
theorem sL {l:List (List UInt8)} {p:List UInt8} {c:UInt8} {t:List UInt8} (e:p=c::t) (d:eO c.toNat=true) (u:(t.all fun c=>fL c.toNat)=true) (q:p.length≤8) (y:l.length≤100) (h:∀ i (hi:i<l.length),l[i]=p++bZ i):distinct l=true:=by
 refine WA ?_ (RD (g:=fun s=>VP (s.drop p.length)) ?_)
 ·intro x w;obtain⟨i,hi,rfl⟩:=a8S w;rw[h i hi];exact vk e d u q Om
 ·intro i hi;rw[h i hi];simp only[List.drop_left];rw[QF Om];exact (Jy ⟨i,by omega⟩).1
structure sG (x:RF):Prop where
 lim:cS x=true
 ok:x.Ok
theorem SmF.o {x:RF} {a b:Nat} (h:SmF x a b):sG x:=⟨h.lim,h.ok⟩
theorem pR:SmF jQ 0 1:=SmF.mk' (a:=0) (b:=1) (by decide) (by decide) (by decide)
theorem rK (l:List Nat) (a:Nat):sG (fH l a).1∧bG (fH l a).1=true:=by
 have c:=cJ l (show 0<6 by decide) a;have d:=cJ l (show 0<8 by decide) (aG l 6 a).2;have:=SmF.mk' (a:=1+(aG l 6 a).1) (b:=1+(aG l 8 (aG l 6 a).2).1) Om Om Om;exact⟨this.o,this.lK Om⟩
theorem aDV (l:List Nat) (i j a:Nat):sG (jA l i j a).1∧(j=i→bG (jA l i j a).1=false)∧(j=i+1→bG (jA l i j a).1=true):=by
 unfold jA;by_cases c:j=i+1
 ·rw[if_pos c];exact⟨(rK l a).1,fun h=>by omega,fun _=>(rK l a).2⟩
 ·rw[if_neg c];by_cases d:j=i
  ·rw[if_pos d];exact⟨pR.o,fun _=>pR.zero,fun h=>absurd h c⟩
  ·rw[if_neg d];simp only;split
   ·exact⟨(rK l _).1,fun h=>absurd h d,fun h=>absurd h c⟩
   ·exact⟨pR.o,fun h=>absurd h d,fun h=>absurd h c⟩
theorem aeL (l:List Nat) (i a:Nat):∀ n,(dS l i a n).1.length=n∧∀ j (c:j<(dS l i a n).1.length),sG (dS l i a n).1[j]∧(j=i→bG (dS l i a n).1[j]=false)∧(j=i+1→bG (dS l i a n).1[j]=true)
 | 0=>⟨rfl,fun j c=>absurd c (by simp[dS])⟩
 | n+1=>by
  obtain⟨d,p⟩:=aeL l i a n;have e:(dS l i a (n+1)).1=(dS l i a n).1++[(jA l i n (dS l i a n).2).1]:=rfl;rw[e];refine⟨by simp[d],fun j c=>?_⟩;by_cases hlt:j<(dS l i a n).1.length
  ·rw[List.getElem_append_left hlt]; exact p j hlt
  ·rw[a7O,a7S] at c;have:j=n:=Om;subst this;rw[bbD Om];simp only[List.getElem_singleton];exact aDV l i j _
theorem aeD (l:List Nat) (a:Nat):∀ n,(kC l a n).1.length=n∧∀ x∈(kC l a n).1,sG x∧bG x=true
 | 0=>⟨rfl,fun x c=>by cases c⟩
 | n+1=>by
  obtain⟨d,i⟩:=aeD l a n;have e:(kC l a (n+1)).1=(kC l a n).1++[(fH l (kC l a n).2).1]:=rfl;rw[e];refine⟨by simp[d],fun x c=>?_⟩;rw[a9C,a9X] at c;rcases c with c | rfl
  ·exact i x c
  ·exact rK l _
theorem aFG (l:List Nat) (n i a:Nat):sG (eY l n i a).1∧(i+1=n→bG (eY l n i a).1=true):=by
 unfold eY;by_cases h:i+1<n
 ·simp only[if_pos h];refine⟨?_,fun c=>by omega⟩;split
  ·exact pR.o
  ·exact (rK l a).1
 ·simp only[if_neg h];exact⟨(rK l a).1,fun _=>(rK l a).2⟩
def aUO (n:Nat) (a6A:List (List RF)):Prop:=∀ i (hi:i<a6A.length),a6A[i].length=n∧∀ j (c:j<a6A[i].length),sG a6A[i][j]∧(j=i→bG a6A[i][j]=false)∧(j=i+1→bG a6A[i][j]=true)
def aUM (n:Nat) (exit:List RF):Prop:=∀ i (hi:i<exit.length),sG exit[i]∧(i+1=n→bG exit[i]=true)
structure a2M (n i:Nat) (s:CG) (cs:List Nat):Prop where
 start:s.start=cs.map fun c=>mkT ((c:Nat):Int) ((8:Nat):Int)
 lens:s.exit.length=i∧s.a6A.length=i∧cs.length=i
 left:cs.sum+s.left=8∧(i=n→0<n→s.left=0)
 exit:aUM n s.exit
 a6A:aUO n s.a6A
theorem rO {α:Type} {P:Nat→α→Prop} {xs:List α} {x:α} (h:∀ i (hi:i<xs.length),P i xs[i]) (c:P xs.length x):∀ i (hi:i<(xs++[x]).length),P i (xs++[x])[i]:=by
 intro i hi;by_cases hlt:i<xs.length
 ·rw[List.getElem_append_left hlt]; exact h i hlt
 ·rw[a7O,a7S] at hi;have:i=xs.length:=Om;subst this;rw[bbD Om];simpa using c
theorem Ai (l:List Nat) (n a:Nat):∀ i,i≤n→∃ cs,a2M n i (fS l n a i) cs
 | 0,_=>⟨[],rfl,⟨rfl,rfl,rfl⟩,⟨rfl,fun h c=>by omega⟩,fun i hi=>absurd hi (by simp[fS]),fun i hi=>absurd hi (by simp[fS])⟩
 | i+1,hi=>by
  obtain⟨cs,p,⟨c,d,q⟩,⟨h5,-⟩,u,h7⟩:=Ai l n a i Om;generalize y:fS l n a i=s at *
  have e:fS l n a (i+1)=⟨s.start++[mkT ((dR l n i s).1:Nat) 8],s.exit++[(eY l n i (dR l n i s).2).1],s.a6A++[(dS l i (eY l n i (dR l n i s).2).2 n).1],s.left-(dR l n i s).1,(dS l i (eY l n i (dR l n i s).2).2 n).2⟩:=by simp only[fS,y]
  rw[e];have w:(dR l n i s).1≤s.left∧(i+1=n→(dR l n i s).1=s.left):=by
   unfold dR;split
   ·exact⟨by have:=cJ l (Om:0<s.left+1) s.a; omega,fun h=>by omega⟩
   ·exact⟨a7M _,fun _=>rfl⟩
  refine⟨cs++[(dR l n i s).1],?_,⟨by simp[c],by simp[d],by simp[q]⟩,⟨?_,fun h _=>?_⟩,?_,?_⟩
  ·simp only[p,a8G,a8U,a9P]; rfl
  ·simp only[List.sum_append,List.sum_cons,List.sum_nil]; omega
  ·have:=w.2 h;simp only; omega
  ·refine rO (P:=fun i x=>sG x∧(i+1=n→bG x=true)) u ?_;rw[c]; exact aFG l n i _
  ·refine rO (P:=fun i (r:List RF)=>r.length=n∧∀ j (A:j<r.length),sG r[j]∧(j=i→bG r[j]=false)∧(j=i+1→bG r[j]=true)) h7 ?_;rw[d]; exact aeL l i _ n
theorem aFA {x:cE} {e r:RF} (c:x.exit=[e]) (d:x.a6A=[[r]]) (i:bG e=true):oR x=true:=by
 unfold oR;rw[c];show ((cW x 2).all id)=true;simp only[cW,cV,kG,cK,c,d,a8Y,a9W,List.getD_cons_zero,a8U,a9P,i];cases bG r<;>rfl
theorem SE {x:cE} {q u d e i l:RF} (w:x.exit=[q,u]) (y:x.a6A=[[d,e],[i,l]]) (A:bG u=true) (B:bG e=true) (a b:Bool) :
  ∃ c,cV x [a,b] 2=[c,true]∧(b=true→c=true)∧(a=true→c=true):=by
 have E:kG x [a,b] 0=[((a||bG q)||bG d&&(a||bG q))||b,b]:=by unfold kG;rw[w,y];simp only[List.getD_cons_zero,a8U,bbC];generalize (a||bG q)=c;show cK [c,b] 0 [d,e] 2=_;have:cK [c,b] 0 [d,e] 1=[c||bG d&&c,b]:=rfl;show (let p:=cK [c,b] 0 [d,e] 1; p.set 0 (p.getD 0 false||([d,e].map bG).getD 1 false&&p.getD 1 false))=_;rw[this];show [(c||bG d&&c)||(bG e&&b),b]=_;rw[B,a7R]
 have F:∀ c,kG x [c,b] 1=[c,true]:=by intro c;unfold kG;rw[w,y];have:cK [c,true] 1 [i,l] 1=[c,true||bG i&&c]:=rfl;show cK [c,b||bG u] 1 [i,l] 2=_;rw[A,Bool.or_true];show (let p:=cK [c,true] 1 [i,l] 1; p.set 1 (p.getD 1 false||([i,l].map bG).getD 1 false&&p.getD 1 false))=_;rw[this,Bool.true_or];show [c,true||bG l&&true]=_;rw[Bool.true_or]
 refine⟨_,by rw[show cV x [a,b] 2=kG x (kG x [a,b] 0) 1 from rfl,E,F],?_,?_⟩
 ·rintro rfl; rw[Bool.or_true]
 ·rintro rfl; simp
theorem aFB {x:cE} {i A u d w y:RF} (c:x.exit=[i,A]) (l:x.a6A=[[u,d],[w,y]]) (p:bG A=true) (q:bG d=true):oR x=true:=by
 unfold oR;rw[c];show ((cW x 3).all id)=true;have e:∀ r,cW x (r+1)=cV x (cW x r) 2:=fun r=>by rw[cW,c]; rfl
 have i:cW x 0=[false,false]:=by rw[cW,c]; rfl
 obtain⟨B,k1,-,-⟩:=SE c l p q false false;obtain⟨E,k2,K,-⟩:=SE c l p q B true;obtain⟨J,F,H,-⟩:=SE c l p q E true;rw[e,e,e,i,k1,k2,F,H rfl];rfl
theorem Nz {c:Nat}:∀ {cs:List Nat},c∈cs→c≤cs.sum
 | k::t,h=>by
  rw[List.sum_cons];rcases a7T.1 h with rfl | h
  ·omega
  ·have:=Nz h; omega
theorem UY {α:Type} {l:List α} (h:l.length=2):∃ a b,l=[a,b]:=by
 match l,h with
 | [a,b],_=>exact⟨a,b,rfl⟩
theorem aWX (cs:List Nat) (h:cs.sum=8):(match nG ((cs.map fun c=>mkT ((c:Nat):Int) ((8:Nat):Int)).map RF.v) with
  | .ok (n,a,b)=>decide (pL n a b false 1 1=0)
  | .error _=>false)=true:=by
 have i:∀ c∈cs,c≤8:=fun c d=>by have:=Nz d;omega
 have e:((cs.map fun c=>mkT ((c:Nat):Int) ((8:Nat):Int)).map RF.v)=cs.map eV:=by rw[List.map_map];refine bbB fun c d=>?_;have:=i c d;exact (SmF.mk' (a:=c) (b:=8) Om (by decide) (by decide)).v
 rw[e];exact aTJ cs h
theorem xX {α:Type} {p:α→Bool} {l:List α} (h:∀ i (hi:i<l.length),p l[i]=true):l.all p=true:=by
 rw[a7W];intro x c;obtain⟨i,hi,rfl⟩:=a8S c;exact h i hi
theorem alH (l:List Nat) (a:Nat) (J:List UInt8):jZ { (qQ l 2 a).1 with name:=J }=true∧({ (qQ l 2 a).1 with name:=J }:cE).Ok:=by
 obtain⟨n,hn⟩:∃ n,n=1+(aG l 2 a).1:=⟨_,rfl⟩;have V:n=1∨n=2:=by have:=cJ l (show 0<2 by decide) a; omega
 obtain⟨cs,N,⟨Y,Z,h4⟩,⟨h5,Q⟩,K,h7⟩:=Ai l n (aG l 2 a).2 n (a7M _);generalize hs:fS l n (aG l 2 a).2 n=s at *
 have e:({ (qQ l 2 a).1 with name:=J }:cE)=⟨J,s.start,s.a6A,s.exit⟩:=by simp only[qQ,← hn,hs]
 rw[e];have H:cs.sum=8:=by have:=Q rfl Om; omega
 have U:∀ c∈cs,c≤8:=fun c R=>by have:=Nz R;omega
 have p:∀ x∈s.start,sG x:=by intro x d;rw[N] at d;obtain⟨c,R,rfl⟩:=a8J.1 d;have:=U c R;exact (SmF.mk' (a:=c) (b:=8) Om (by decide) (by decide)).o
 have β:s.start.length=n:=by rw[N,a7G,h4]
 have u:oR ⟨J,s.start,s.a6A,s.exit⟩=true:=by
  rcases V with rfl | rfl
  ·obtain⟨e,y⟩:=List.length_eq_one_iff.1 Y;obtain⟨η,q⟩:=List.length_eq_one_iff.1 Z;have W:=(h7 0 Om).1;obtain⟨r,F⟩:=List.length_eq_one_iff.1 W;have d:=(K 0 Om).2 rfl;simp only[q,List.getElem_cons_zero] at F;simp only[y,List.getElem_cons_zero] at d;exact aFA y (by rw[q,F]) d
  ·obtain⟨e0,e1,y⟩:=UY Y;obtain⟨r0,r1,q⟩:=UY Z;have B:=(h7 0 Om).1;have E:=(h7 1 Om).1;have d:=(K 1 Om).2 rfl;have X:=((h7 0 Om).2 1 Om).2.2 rfl;simp only[y,List.getElem_cons_succ,List.getElem_cons_zero] at d;simp only[q,List.getElem_cons_succ,List.getElem_cons_zero] at B E X;obtain⟨γ,δ,w⟩:=UY B;obtain⟨ε,ζ,O⟩:=UY E;simp only[w,List.getElem_cons_succ,List.getElem_cons_zero] at X;exact aFB y (by rw[q,w,O]) d X
 constructor
 ·unfold jZ;simp only[a7X];refine⟨⟨⟨⟨⟨⟨⟨?_,?_⟩,?_⟩,?_⟩,?_⟩,?_⟩,?_⟩,u⟩
  ·rw[within_iff]; omega
  ·exact decide_eq_true Om
  ·exact decide_eq_true Om
  ·exact a7W.2 fun x d=>(p x d).lim
  ·exact xX fun i hi=>(K i hi).1.lim
  ·rw[a7W];intro i hi;rw[a8K] at hi;obtain⟨k1,k2⟩:=h7 i hi;have eg:s.a6A.getD i []=s.a6A[i]:=by simp[a7Z,hi]
   rw[eg,a7X,a7X];refine⟨⟨decide_eq_true Om,xX fun j S=>(k2 j S).1.lim⟩,?_⟩;have A:i<s.a6A[i].length:=Om;rw[getD_at A,(k2 i A).2.1 rfl];rfl
  ·rw[N]; exact aWX cs H
 ·have M:∀ m:Nat,m≤2→m≤9223372036854775807:=fun m hm=>by omega
  have α:n≤2:=Om;refine⟨⟨?_,fun x d=>(p x d).ok⟩,⟨?_,fun x d=>?_⟩,?_,fun r q=>⟨?_,fun x d=>?_⟩⟩
  ·exact M s.start.length Om
  ·exact M s.exit.length Om
  ·obtain⟨i,hi,rfl⟩:=a8S d;exact (K i hi).1.ok
  ·exact M s.a6A.length Om
  ·obtain⟨i,hi,rfl⟩:=a8S q;have:=(h7 i hi).1;exact M (s.a6A[i]'hi).length Om
  ·obtain⟨i,hi,rfl⟩:=a8S q;obtain⟨j,S,rfl⟩:=a8S d;exact ((h7 i hi).2 j S).1.ok
theorem WH (l:List Nat) (a:Nat):∀ n,(hM l a n).1.length=n∧∀ i (hi:i<(hM l a n).1.length),(hM l a n).1[i].name=[108,97,119]++bZ i∧jZ (hM l a n).1[i]=true∧(hM l a n).1[i].Ok
 | 0=>⟨rfl,fun i hi=>absurd hi (by simp[hM])⟩
 | n+1=>by obtain⟨c,d⟩:=WH l a n;have e:(hM l a (n+1)).1=(hM l a n).1++[{ (qQ l 2 (hM l a n).2).1 with name:=[108,97,119]++bZ n }]:=rfl;rw[e];refine⟨by simp[c],rO (P:=fun i (x:cE)=>x.name=[108,97,119]++bZ i∧jZ x=true∧x.Ok) d ?_⟩;rw[c];exact⟨rfl,alH l _ _⟩
theorem NQ (l:List Nat) (a6C:Nat) (d:0<a6C) (a:Nat):∀ n,(eI l a6C a n).1.length=n∧∀ i (hi:i<(eI l a6C a n).1.length),(eI l a6C a n).1[i].name=[109]++bZ i∧∃ e p w:Nat,(eI l a6C a n).1[i].a6L=e∧1≤e∧e≤4∧(eI l a6C a n).1[i].port=p∧1≤p∧p≤8∧(eI l a6C a n).1[i].law=w∧w<a6C
 | 0=>⟨rfl,fun i hi=>absurd hi (by simp[eI])⟩
 | n+1=>by
  obtain⟨c,q⟩:=NQ l a6C d a n;obtain⟨s,u⟩:∃ s,s=eI l a6C a n:=⟨_,rfl⟩;have e:(eI l a6C a (n+1)).1=(eI l a6C a n).1++[⟨[109]++bZ n,(1+(aG l 4 s.2).1:Nat),(1+(aG l 8 (aG l 4 s.2).2).1:Nat),((aG l a6C (aG l 8 (aG l 4 s.2).2).2).1:Nat)⟩]:=by rw[u]; rfl
  rw[e];refine⟨by simp[c],rO (P:=fun i (x:cT)=>x.name=[109]++bZ i∧∃ e p w:Nat,x.a6L=e∧1≤e∧e≤4∧x.port=p∧1≤p∧p≤8∧x.law=w∧w<a6C) q ?_⟩;rw[c];have k1:=cJ l (show 0<4 by decide) s.2;have k2:=cJ l (show 0<8 by decide) (aG l 4 s.2).2;have y:=cJ l d (aG l 8 (aG l 4 s.2).2).2;exact⟨rfl,_,_,_,rfl,by omega,by omega,rfl,by omega,by omega,rfl,y⟩
theorem xM (l:List Nat) (a:Nat):∃ n:Nat,(gQ l a).1=n∧n≤3:=by
 have h:=cJ l (show 0<3 by decide) (aG l 3 a).2;unfold gQ;simp only;split
 ·exact⟨1+(aG l 3 (aG l 3 a).2).1,rfl,by omega⟩
 ·exact⟨0,rfl,by omega⟩
theorem eN {n lo hi:Int} (c:lo≤n) (d:n≤hi):within n lo hi=true:=within_iff.2 ⟨c,d⟩
theorem aWC {w:List UInt8} {k m q s1 s2 s3 s4 g h:Nat} {ms:List Int} {p:List RF} {mc:Nat} (A:1≤k) (B:k≤2) (R:m≤2) (F:k≤q) (H:q≤k+m) (J:s1≤3) (y:s2≤3) (K:s3≤3) (M:s4≤3) (O:g≤8) (Q:h≤4)
  (l:p.length=max m 1) (i:∀ x∈p,sG x∧bG x=true)
  (E:mc≤2) (c:∃ f:Nat,f<mc∧(ms=[(f:Int)]∨mc=2∧ms=[(f:Int),1-(f:Int)])) :
  jJ mc ⟨w,(k:Nat),(m:Nat),(q:Nat),0,(s1:Nat),(s2:Nat),(s3:Nat),(s4:Nat),ms,p,mkT (g:Nat) ((8:Nat):Int),mkT (h:Nat) ((1:Nat):Int)⟩=true ∧
  (⟨w,(k:Nat),(m:Nat),(q:Nat),0,(s1:Nat),(s2:Nat),(s3:Nat),(s4:Nat),ms,p,mkT (g:Nat) ((8:Nat):Int),mkT (h:Nat) ((1:Nat):Int)⟩:bS).Ok:=by
 have G:=SmF.mk' (a:=g) (b:=8) Om (by decide) (by decide);have Z:=SmF.mk' (a:=h) (b:=1) Om (by decide) (by decide);obtain⟨f,N,c⟩:=c;constructor
 ·unfold jJ KC BR;simp only[a7X,List.all_cons,List.all_nil,a9N];refine⟨⟨⟨⟨⟨⟨⟨⟨eN Om Om,eN Om Om⟩,decide_eq_true Om⟩,eN Om Om⟩,rfl⟩,eN Om Om,eN Om Om,eN Om Om,eN Om Om,eN Om Om⟩,?_⟩,⟨⟨⟨⟨decide_eq_true (by rw[l]; omega),?_⟩,G.lim⟩,G.one Om⟩,Z.lim⟩⟩,?_⟩
  ·rcases c with e | ⟨-,e⟩<;>rw[e]<;>rfl
  ·rw[a7W];intro x d;rw[(i x d).1.lim,(i x d).2];rfl
  ·rw[a7W];rcases c with rfl | ⟨rfl,rfl⟩
   ·intro j u;simp only[a8Y,a9W,a8K] at u;have:j=0:=Om;subst this;rw[a7X];exact⟨eN (by simp) (by simp; omega),by simp⟩
   ·intro j u;simp only[a8Y,a9W,a8K] at u;have:j=0∨j=1:=Om;rcases this with rfl | rfl
    ·rw[a7X];exact⟨eN (by simp) (by simp; omega),by simp⟩
    ·rw[a7X];refine⟨eN (by simp; omega) (by simp; omega),?_⟩;have:¬ (1-(f:Int)=f):=Om;simp[this]
 ·refine⟨by unfold dB; constructor<;>simp only<;>omega,by unfold dB; constructor<;>simp only<;>omega,by unfold dB; constructor<;>simp only<;>omega,?_,?_,⟨?_,fun x d=>(i x d).1.ok⟩,G.ok,Z.ok⟩
  ·show ms.length≤_;rcases c with e | ⟨-,e⟩<;>rw[e]<;>simp
  ·show ∀ x∈ms,dB x;unfold dB;rcases c with e | ⟨y,e⟩<;>rw[e]<;>intro x d<;>simp only[a7T,a8B,or_false] at d
   ·subst d; omega
   ·rcases d with rfl | rfl<;>omega
  ·show p.length≤_;rw[l]; omega
theorem Gp (l:List Nat) {mc:Nat} (x:0<mc) (y:mc≤2) (i a:Nat):(lY l mc i a).1.name=[112]++bZ i∧jJ mc (lY l mc i a).1=true∧(lY l mc i a).1.Ok:=by
 refine⟨rfl,?_⟩;have H:=cJ l (show 0<2 by decide) a;have J:=cJ l (show 0<3 by decide) (aG l 2 a).2;have F:=cJ l (show 0<4 by decide) (aG l 3 (aG l 2 a).2).2;unfold lY;simp only;generalize aG l 2 a=k at *
 generalize aG l 3 k.2=m at *
 generalize aG l 4 m.2=h at *
 have K:=cJ l (Om:0<m.1+1) h.2;generalize aG l (m.1+1) h.2=q at *
 obtain⟨r1,r2⟩:=aeD l q.2 (max m.1 1);generalize kC l q.2 (max m.1 1)=r at *
 have E:=cJ l (show 0<9 by decide) r.2;generalize aG l 9 r.2=g at *
 obtain⟨M,e,b1⟩:=xM l g.2;generalize gQ l g.2=s1 at *
 obtain⟨N,p,b2⟩:=xM l s1.2;generalize gQ l s1.2=s2 at *
 obtain⟨O,u,c⟩:=xM l s2.2;generalize gQ l s2.2=s3 at *
 obtain⟨Q,w,d⟩:=xM l s3.2;generalize gQ l s3.2=s4 at *
 have A:=cJ l x s4.2;generalize aG l mc s4.2=f at *
 generalize aG l 2 f.2=b at *
 rw[e,p,u,w];refine aWC Om Om Om Om Om b1 b2 c d Om Om r1 r2 y ⟨f.1,A,?_⟩;split
 ·rename_i B;split
  ·exact .inr ⟨by omega,rfl⟩
  ·exact .inl rfl
 ·exact .inl rfl
theorem BQ (l:List Nat) {mc:Nat} (c:0<mc) (d:mc≤2) (a:Nat):∀ n,(dU l mc a n).1.length=n∧∀ i (hi:i<(dU l mc a n).1.length),(dU l mc a n).1[i].name=[112]++bZ i∧jJ mc (dU l mc a n).1[i]=true∧(dU l mc a n).1[i].Ok
 | 0=>⟨rfl,fun i hi=>absurd hi (by simp[dU])⟩
 | n+1=>by obtain⟨k1,k2⟩:=BQ l c d a n;have e:(dU l mc a (n+1)).1=(dU l mc a n).1++[(lY l mc n (dU l mc a n).2).1]:=rfl;rw[e];refine⟨by simp[k1],rO (P:=fun i (x:bS)=>x.name=[112]++bZ i∧jJ mc x=true∧x.Ok) k2 ?_⟩;rw[k1];exact Gp l c d n _
theorem GL (l:List Nat) {pc:Nat} (c:0<pc) (a:Nat):∀ n,(eM l pc a n).1.length=n∧∀ i (hi:i<(eM l pc a n).1.length),(eM l pc a n).1[i].name=[118]++bZ i∧∃ p:Nat,(eM l pc a n).1[i].a6H=p∧p<pc
 | 0=>⟨rfl,fun i hi=>absurd hi (by simp[eM])⟩
 | n+1=>by obtain⟨k1,k2⟩:=GL l c a n;have e:(eM l pc a (n+1)).1=(eM l pc a n).1++[⟨[118]++bZ n,((aG l pc (eM l pc a n).2).1:Nat)⟩]:=rfl;rw[e];refine⟨by simp[k1],rO (P:=fun i (x:eW)=>x.name=[118]++bZ i∧∃ p:Nat,x.a6H=p∧p<pc) k2 ?_⟩;rw[k1];exact⟨rfl,_,rfl,cJ l c _⟩
abbrev lvs (ds:List cD):List Int:=ds.map cD.level
def a2K (ds:List cD) (i:Nat) (d:cD):Prop:=∃ c p u:Nat,d.name=[kY c]++bZ (i+1)∧d.level=c∧1≤c∧c≤4∧d.parent=p∧p≤i∧(lvs ds)[p]?=some ((c:Int)-1)∧d.a6P=u∧1≤u∧u≤16∧sG d.a6K
def aUL (ds:List cD) (mc i:Nat) (d:dH):Prop:=∃ m c:Nat,d.name=[100]++bZ i∧d.model=m∧m<mc∧d.machine=c∧(lvs ds)[c]?=some 4
structure GV (mc a5V:Nat) (s:GS):Prop where
 len:s.a6E.length≤35
 a6O:s.a6O.length≤a5V
 root:s.a6E[0]?=some mI
 dom:∀ i (hi:i+1<s.a6E.length),a2K s.a6E i s.a6E[i+1]
 drv:∀ i (hi:i<s.a6O.length),aUL s.a6E mc i s.a6O[i]
theorem GV.a {mc a5V:Nat} {s:GS} (h:GV mc a5V s) (x:Nat):GV mc a5V { s with a:=x }:=⟨h.len,h.a6O,h.root,h.dom,h.drv⟩
theorem Mw (l:List Nat) {mc a5V dom:Nat} (e:0<mc) {s:GS} (h:GV mc a5V s) (q:(lvs s.a6E)[dom]?=some 4):∀ n,GV mc a5V (jP l mc a5V dom s n)∧(jP l mc a5V dom s n).a6E=s.a6E
 | 0=>⟨h,rfl⟩
 | n+1=>by
  obtain⟨c,p⟩:=Mw l e h q n;simp only[jP];generalize jP l mc a5V dom s n=t at *
  split
  ·rename_i hlt;refine⟨⟨c.len,by simp only[a7O,a7S]; omega,c.root,c.dom,?_⟩,p⟩;refine rO (P:=fun i d=>aUL t.a6E mc i d) c.drv ?_;exact⟨_,dom,rfl,rfl,cJ l e _,rfl,by rw[p]; exact q⟩
  ·exact⟨c,p⟩
theorem yI {ds:List cD} {p:Nat} {x:Int} {t:List cD} (h:(lvs ds)[p]?=some x):(lvs (ds++t))[p]?=some x:=by
 unfold lvs at *
 rw[a8G,a9Z]
 ·exact h
 ·exact (a8P.1 h).1
theorem aOX (l:List Nat) {mc a5V dom level:Nat} {s:GS} (h:GV mc a5V s) (x:1≤level) (J:level≤4) (B:(lvs s.a6E)[dom]?=some ((level:Int)-1)) (E:qB a5V s=false) :
  GV mc a5V (mZ l level dom s)∧(∃ t,(mZ l level dom s).a6E=s.a6E++t)∧(mZ l level dom s).a6E.length=s.a6E.length+1∧(lvs (mZ l level dom s).a6E)[s.a6E.length]?=some (level:Int):=by
 unfold qB at E;simp only[Bool.or_eq_false_iff,decide_eq_false_iff_not] at E;have H:dom<s.a6E.length:=by
  have:=(a8P.1 B).1
  rwa [a7G] at this
 have M:=cJ l (show 0<16 by decide) s.a;have K:=cJ l (show 0<6 by decide) (aG l 3 (aG l 16 s.a).2).2;unfold mZ;simp only;generalize aG l 16 s.a=u at *
 generalize aG l 3 u.2=t at *
 generalize aG l 6 t.2=k at *
 have y:sG (if t.1=0 then (mkT 1 ((2+k.1:Nat):Int),k.2) else (jQ,t.2)).1:=by
  split
  ·exact (SmF.mk' (a:=1) (b:=2+k.1) Om Om Om).o
  ·exact pR.o
 generalize (if t.1=0 then (mkT 1 ((2+k.1:Nat):Int),k.2) else (jQ,t.2))=sh at *
 refine⟨⟨by simp only[a7O,a7S]; omega,h.a6O,?_,?_,fun i hi=>?_⟩,⟨_,rfl⟩,by simp,?_⟩
 ·rw[a9Z Om]; exact h.root
 ·intro i hi;simp only[a7O,a7S] at hi;by_cases hlt:i+1<s.a6E.length
  ·rw[List.getElem_append_left hlt];obtain⟨A,p,v,d,e,q,w,h5,F,h7,h8⟩:=h.dom i hlt;exact⟨A,p,v,d,e,q,w,h5,F,yI h7,h8⟩
  ·have:i+1=s.a6E.length:=Om;rw[bbD Om];simp only[List.getElem_singleton];exact⟨level,dom,1+u.1,by rw[this],rfl,x,J,rfl,by omega,yI B,rfl,by omega,by omega,y⟩
 ·obtain⟨m,c,d,e,q,w,h5⟩:=h.drv i hi;exact⟨m,c,d,e,q,w,yI h5⟩
 ·unfold lvs;rw[a8G,a9Y (by rw[a7G]; exact a7M _),a7G,baG];rfl
theorem Mx (l:List Nat) {mc a5V dom level:Nat} (e:1≤level) (y:level≤4) {rec:Nat→GS→GS}
  (c:∀ d t,GV mc a5V t→(lvs t.a6E)[d]?=some (level:Int)→GV mc a5V (rec d t)∧∃ u,(rec d t).a6E=t.a6E++u) {s:GS} (h:GV mc a5V s) (x:(lvs s.a6E)[dom]?=some ((level:Int)-1)) :
  ∀ n,GV mc a5V (fZ l level a5V dom rec s n)∧∃ u,(fZ l level a5V dom rec s n).a6E=s.a6E++u
 | 0=>⟨h,[],by simp[fZ]⟩
 | n+1=>by
  obtain⟨q,u,i⟩:=Mx l e y c h x n;simp only[fZ];generalize fZ l level a5V dom rec s n=t at *
  split
  ·exact⟨q,u,i⟩
  ·rename_i A;have p:(lvs t.a6E)[dom]?=some ((level:Int)-1):=by rw[i]; exact yI x
   obtain⟨k1,⟨v,k2⟩,B,E⟩:=aOX l q e y p (by simpa using A);obtain⟨F,w,H⟩:=c ((mZ l level dom t).a6E.length-1) (mZ l level dom t) k1 (by rw[B,Nat.add_sub_cancel]; exact E);exact⟨F,u++(v++w),by rw[H,k2,i]; simp⟩
theorem My (l:List Nat) {mc a5V:Nat} (c:0<mc):∀ (k:Nat),k≤4→∀ (dom:Nat) {s:GS},GV mc a5V s→(lvs s.a6E)[dom]?=some (4-(k:Int))→GV mc a5V (eS l mc a5V k dom s)∧∃ u,(eS l mc a5V k dom s).a6E=s.a6E++u
 | 0,_,dom,s,h,e=>by simp only[eS];obtain⟨p,q⟩:=Mw l c (h.a (aG l 2 s.a).2) e (1+(aG l 2 s.a).1);exact⟨p,[],by rw[q]; simp⟩
 | k+1,x,dom,s,h,e=>by
  simp only[eS];refine Mx l Om Om (fun d t w i=>My l c k Om d w ?_) (h.a (aG l 2 s.a).2) ?_ _
  ·rw[i]; congr 1; omega
  ·rw[e]; congr 1; omega
theorem Ak (c:Nat) (d:1≤c) (e:c≤4):eO (kY c).toNat=true∧kY c≠100:=by
 have:c=1∨c=2∨c=3∨c=4:=Om;rcases this with rfl | rfl | rfl | rfl<;>decide
theorem p4 (c:UInt8) {k:Nat} (d:k<100):VP (([c]++bZ k).drop 1)=k:=by
 show VP (bZ k)=k;rw[QF d];exact (Jy ⟨k,d⟩).1
theorem V1 {mc a5V:Nat} {s:GS} (h:GV mc a5V s) (K:a5V≤60):distinct ((s.a6E.drop 1).map cD.name++s.a6O.map dH.name)=true:=by
 have w:∀ i (hi:i<((s.a6E.drop 1).map cD.name).length),∃ d:Nat,1≤d∧d≤4∧((s.a6E.drop 1).map cD.name)[i]=[kY d]++bZ (i+1):=by intro i hi;rw[a7G,a9J] at hi;obtain⟨d,p,u,l,-,F,q,-⟩:=h.dom i Om;refine⟨d,F,q,?_⟩;rw[a9B,List.getElem_drop];simp only[Nat.add_comm 1 i];exact l
 have hB:∀ i (hi:i<(s.a6O.map dH.name).length),(s.a6O.map dH.name)[i]=[100]++bZ i:=by intro i hi;rw[a7G] at hi;obtain⟨m,c,l,-⟩:=h.drv i hi;rw[a9B]; exact l
 have M:((s.a6E.drop 1).map cD.name).length≤40:=by rw[a7G,a9J]; have:=h.len; omega
 have N:(s.a6O.map dH.name).length≤60:=by rw[a7G]; have:=h.a6O; omega
 generalize (s.a6E.drop 1).map cD.name=A at *
 generalize s.a6O.map dH.name=B at *
 refine WA ?_ ?_
 ·intro x hx;rcases a9C.1 hx with hx | hx
  ·obtain⟨i,hi,rfl⟩:=a8S hx;obtain⟨d,l,q,e⟩:=w i hi;rw[e];exact vk rfl (Ak d l q).1 rfl (by simp) Om
  ·obtain⟨i,hi,rfl⟩:=a8S hx;rw[hB i hi];exact vk rfl (by decide) rfl (by simp) Om
 ·rw[baA];refine⟨?_,?_,?_⟩
  ·refine RD (g:=fun s=>VP (s.drop 1)-1) fun i hi=>?_;obtain⟨d,-,-,e⟩:=w i hi;rw[e,p4 _ Om];omega
  ·refine RD (g:=fun s=>VP (s.drop 1)) fun i hi=>?_;rw[hB i hi];exact p4 _ Om
  ·intro x hx y J e;obtain⟨i,hi,rfl⟩:=a8S hx;obtain⟨j,H,rfl⟩:=a8S J;obtain⟨d,l,q,E⟩:=w i hi;rw[E,hB j H] at e;exact (Ak d l q).2 (List.cons.inj e).1
theorem aIK {mc a5V a:Nat}:GV mc a5V ⟨[mI],[],a⟩ :=
 ⟨by simp,a7N _,rfl,fun i hi=>absurd hi (by simp),fun i hi=>absurd hi (by simp)⟩
theorem aPP {mc a5V:Nat} {s:GS} (h:GV mc a5V s) (f:aE) (x:f.a5Y=s.a6E):nL f=true:=by
 have q:=h.root;have l:=h.dom;unfold nL;rw[x];cases c:s.a6E with
 | nil=>rw[c] at q; cases q
 | cons r t =>
  rw[c] at q;have:r=mI:=by simpa using q
  subst this;show BB f mI t=true;unfold BB;simp only[a7X];refine⟨⟨⟨⟨⟨⟨rfl,rfl⟩,rfl⟩,rfl⟩,pR.lim⟩,by rw[show mI.a6K=jQ from rfl,pR.zero]; rfl⟩,?_⟩;rw[a7W];intro i hi;rw[a8K] at hi;rw[a7U hi];obtain⟨B,p,u,y,w,E,F,h5,H,h7,h8,J,A,d⟩:=l i (by rw[c]; simp; omega);have e:s.a6E[i+1]'(by rw[c]; simp; omega)=t[i]:=by simp[c]
  rw[e] at y w h5 h8 d;show HL f i t[i]=true;unfold HL;simp only[a7X];refine⟨⟨⟨⟨?_,?_⟩,?_⟩,?_⟩,d.lim⟩
  ·rw[h5]; exact eN Om Om
  ·rw[h5,w,x,a9A,a7Z,h7,r8 Om Om];exact decide_eq_true rfl
  ·rw[w]; exact eN Om Om
  ·rw[h8]; exact eN Om Om
theorem Kx (l:List Nat) (a5V a5X a:Nat) (hd:a5V≤24) (hv:a5X≤12) :
  dQ (jG l a5V a5X a).1=true∧(jG l a5V a5X a).1.Ok:=by
 unfold jG;simp only;have he:=cJ l (show 0<2 by decide) a;generalize aG l 2 a=e at *
 have γ:=cJ l (show 0<2 by decide) e.2;generalize aG l 2 e.2=E at *
 obtain⟨w1,U⟩:=WH l E.2 (1+E.1);generalize hM l E.2 (1+E.1)=a6C at *
 have δ:=cJ l (show 0<2 by decide) a6C.2;generalize aG l 2 a6C.2=A at *
 obtain⟨X,Y⟩:=NQ l (1+E.1) Om A.2 (1+A.1);generalize eI l (1+E.1) A.2 (1+A.1)=a5W at *
 obtain⟨G,-⟩:=My l (mc:=1+A.1) (a5V:=a5V) Om 4 (by decide) 0 (s:=⟨[mI],[],a5W.2⟩) aIK rfl;generalize eS l (1+A.1) a5V 4 0 ⟨[mI],[],a5W.2⟩=g at *
 have ε:=cJ l (show 0<2 by decide) g.a;generalize aG l 2 g.a=pl at *
 obtain⟨p1,R⟩:=BQ l (mc:=1+A.1) Om Om pl.2 (1+pl.1);generalize dU l (1+A.1) pl.2 (1+pl.1)=pols at *
 have ζ:=cJ l (Om:0<a5X+1) pols.2;generalize aG l (a5X+1) pols.2=J at *
 obtain⟨v1,S⟩:=GL l (pc:=1+pl.1) Om J.2 J.1;generalize eM l (1+pl.1) J.2 J.1=vols at *
 have g1:=G.len;have g2:=G.a6O;have Q:∀ f:aE,f.a5Y=g.a6E→nL f=true:=fun f hf=>aPP G f hf;have d:∀ n:Nat,n≤1000→n≤9223372036854775807:=fun n h=>by omega
 have B:∀ x∈g.a6O,∃ m c:Nat,x.model=m∧m<1+A.1∧x.machine=c∧c<g.a6E.length∧(lvs g.a6E)[c]?=some 4:=by
  intro x q;obtain⟨i,hi,rfl⟩:=a8S q;obtain⟨m,c,-,O,V,W,h5⟩:=G.drv i hi;refine⟨m,c,O,V,W,?_,h5⟩;have:=(a8P.1 h5).1
  rwa [a7G] at this
 constructor
 ·unfold dQ;rw[Q _ rfl];simp only[a7X,a9N];refine⟨⟨?_,⟨⟨⟨⟨?_,?_⟩,?_⟩,?_⟩,?_⟩⟩,⟨⟨⟨?_,?_⟩,V1 G Om⟩,?_⟩,?_⟩
  ·unfold nE;simp only[a7X];exact⟨⟨⟨⟨⟨⟨eN Om Om,decide_eq_true Om⟩,decide_eq_true Om⟩,decide_eq_true Om⟩,decide_eq_true Om⟩,decide_eq_true Om⟩,decide_eq_true Om⟩
  ·exact xX fun i hi=>(U i hi).2.1
  ·refine xX fun i hi=>?_;obtain⟨-,x,y,z,w,F,H,K,M,e6,Z,e8⟩:=Y i hi;unfold kB;simp only[a7X];rw[w,K,Z,w1];exact⟨⟨eN Om Om,eN Om Om⟩,eN Om Om⟩
  ·rw[a7W];intro x q;obtain⟨m,c,w,F,H,K,M⟩:=B x q;unfold iR;simp only[a7X];rw[w,H,X,a9A,a7Z,M];exact⟨⟨eN Om Om,eN Om Om⟩,rfl⟩
  ·refine xX fun i hi=>?_;rw[X]; exact (R i hi).2.1
  ·refine xX fun i hi=>?_;obtain⟨-,p,w,F⟩:=S i hi;unfold nU;rw[w,p1];exact eN Om Om
  ·refine sL (p:=[108,97,119]) rfl (by decide) (by decide) (by decide) (by rw[a7G]; omega) fun i hi=>?_;rw[a9B]; exact (U i (by simpa using hi)).1
  ·refine sL (p:=[109]) rfl (by decide) (by decide) (by decide) (by rw[a7G]; omega) fun i hi=>?_;rw[a9B]; exact (Y i (by simpa using hi)).1
  ·refine sL (p:=[112]) rfl (by decide) (by decide) (by decide) (by rw[a7G]; omega) fun i hi=>?_;rw[a9B]; exact (R i (by simpa using hi)).1
  ·refine sL (p:=[118]) rfl (by decide) (by decide) (by decide) (by rw[a7G]; omega) fun i hi=>?_;rw[a9B]; exact (S i (by simpa using hi)).1
 ·refine⟨d a6C.1.length Om,d a5W.1.length Om,d g.a6E.length Om,d g.a6O.length Om,d pols.1.length Om,d vols.1.length Om,?_,?_,?_,?_,?_⟩
  ·intro x q;obtain⟨i,hi,rfl⟩:=a8S q;exact (U i hi).2.2
  ·intro x q;obtain⟨i,hi,rfl⟩:=a8S q;rcases a9Q i with rfl | hp
   ·have:g.a6E[0]=mI:=by have:=G.root; rw[a7U hi] at this; exact a9V.inj this
    rw[this];exact⟨pR.ok,by unfold dB; decide,by unfold dB; decide⟩
   ·obtain⟨k,rfl⟩:∃ k,i=k+1:=⟨i-1,by omega⟩;obtain⟨η,p,u,h1,O,V,W,h5,h6,h7,h8,h9,α,N⟩:=G.dom k hi;have β:k+1<g.a6E.length:=hi;rw[O,h5];exact⟨N.ok,by unfold dB; omega,by unfold dB; omega⟩
  ·intro x q;obtain⟨m,c,w,F,H,K,M⟩:=B x q;rw[w,H];unfold dB; omega
  ·intro x q;obtain⟨i,hi,rfl⟩:=a8S q;exact (R i hi).2.2
  ·intro x q;obtain⟨i,hi,rfl⟩:=a8S q;obtain⟨-,p,w,F⟩:=S i hi;rw[w];unfold dB; omega

theorem QS {C:Ctx} (c:fV C) (hi:oN C):fq C :=
 {QR c hi with
  grow:=fun l v T mc a5V d e i=>ZZ (QR c hi) T mc a5V d e i (fun args H R p h=>c.r7 args H R (by rw[p]; decide) h) 4 (a7M _) }
theorem atY {C:Ctx} (c:fV C) (hi:oN C):If C :=
 {QS c hi with
  new:=fun l p q=>c.r28.go (abB l p q) rfl
  fleet:=fun l v T o a5V a5X a d e i=>FC.exact (c.r0.go (Av (QS c hi) T o a5V a5X a d e i) rfl) }


structure ZA (f:aE) (L:List (List Int)):Prop where
 len:L.length=f.a5X.length
 row:∀ v (h:v<L.length),((L[v].length:Nat):Int)=akF f v
 home:∀ r∈L,∀ x∈r,-1≤x∧x<f.a5V.length
theorem ZA.aZV {f:aE} {L:List (List Int)} (h:ZA f L) (hV:VF f):∀ k,k≤L.length→(L.take k).flatten.length≤k*8:=by
 have u:=h.len;intro k
 induction k with
 | zero=>intro _; simp
 | succ k p =>intro d;rw[asJ L d,a7O];have q:=p Om;have e:=h.row k d;obtain⟨l,i⟩:=aHZ hV (Om:k<f.a5X.length);have c:=hV.a6H _ (a7J l);rw[i] at c;unfold akF at e;omega
theorem ZA.ok {f:aE} (hV:VF f) {L:List (List Int)} (h:ZA f L):aYQ L:=by
 have d:=hV.small.a5X;have c:=h.len;have:=h.aZV hV L.length (a7M _);rw[a8I] at this;exact⟨by omega,by omega⟩
section
variable {C:Ctx} {F F':PF} {H:PH}
theorem cR (c:F.le F') {x:aP} {v:PV} (h:x.ev F=some v):x.ev F'=some v:=by
 cases x
 ·exact c _ _ h
 all_goals exact h
theorem FL (c:F.le F'):∀ {xs:List aP} {vs:List PV},aP.evs F xs=some vs→aP.evs F' xs=some vs
 | [],_,h=>h
 | x::xs,vs,h=>by
  rw[zF] at h ⊢;cases e:x.ev F with
  | none=>simp[e] at h
  | some v =>
   cases d:aP.evs F xs with
   | none=>simp[d] at h
   | some i =>rw[e,d] at h;rw[cR c e,FL c d];exact h
theorem Ks (c:F.le F'):∀ {ps:List (Nat × Nat × aP)} {cs ds:List PV},pY cs F ps=some ds→pY cs F' ps=some ds
 | [],_,_,h=>h
 | (i,size,x)::ps,cs,ds,h=>by
  simp only[pY] at h ⊢;cases d:x.ev F with
  | none=>simp[d] at h
  | some v =>
   rw[d] at h;rw[cR c d];simp only at h ⊢;split at h
   ·rename_i e; rw[if_pos e]; exact Ks c h
   ·cases h
theorem CP (c:F.le F') {size:Nat}:∀ {ps:List (Nat × aP)} {cs ds:List (List PV)},gT size cs F ps=some ds→gT size cs F' ps=some ds
 | [],_,_,h=>h
 | (i,x)::ps,cs,ds,h=>by
  simp only[gT] at h ⊢;cases d:x.ev F with
  | none=>simp[d] at h
  | some v =>
   rw[d] at h;rw[cR c d];simp only at h ⊢;split at h
   ·rename_i e; rw[if_pos e]; exact CP c h
   ·cases h
theorem OI (c:F.le F') {d n:Int} {x:Option aP} (h:bnd F d x=some n):bnd F' d x=some n:=by
 cases x with
 | none=>exact h
 | some x =>
  simp only[bnd] at h ⊢;cases e:x.ev F with
  | none=>simp[e] at h
  | some v=>rw[cR c e,← e]; exact h
theorem Ra {op:POp} {v:PV} (A:F.le F') (h:aO op F H=some v):aO op F' H=some v:=by
 cases op
 case mv x=>exact cR A h
 case pick c a b =>
  simp only[aO] at h ⊢;cases K:c.ev F with
  | none=>simp[K] at h
  | some t =>
   rw[K] at h;rw[cR A K];cases t<;>simp only at h ⊢<;>try cases h
   rename_i t;cases t
   ·simp only[baR,if_false] at h ⊢; exact cR A h
   ·simp only[if_true] at h ⊢; exact cR A h
 case same x =>
  simp only[aO] at h ⊢;cases e:x.ev F with
  | none=>simp[e] at h
  | some a=>rw[cR A e,← e]; exact h
 case un o x =>
  simp only[aO] at h ⊢;cases e:x.ev F with
  | none=>simp[e] at h
  | some a=>rw[cR A e,← e]; exact h
 case conv k x =>
  simp only[aO] at h ⊢;cases e:x.ev F with
  | none=>simp[e] at h
  | some a=>rw[cR A e,← e]; exact h
 case a6I x =>
  simp only[aO] at h ⊢;cases e:x.ev F with
  | none=>simp[e] at h
  | some a=>rw[cR A e,← e]; exact h
 case a6Y o x =>
  simp only[aO] at h ⊢;cases e:x.ev F with
  | none=>simp[e] at h
  | some a=>rw[cR A e,← e]; exact h
 case field o n x =>
  simp only[aO] at h ⊢;cases e:x.ev F with
  | none=>simp[e] at h
  | some a=>rw[cR A e,← e]; exact h
 case a6V x =>
  simp only[aO] at h ⊢;cases e:x.ev F with
  | none=>simp[e] at h
  | some a=>rw[cR A e,← e]; exact h
 case isNil n x =>
  simp only[aO] at h ⊢;cases e:x.ev F with
  | none=>simp[e] at h
  | some a=>rw[cR A e,← e]; exact h
 case lenM x =>
  simp only[aO] at h ⊢;cases e:x.ev F with
  | none=>simp[e] at h
  | some a=>rw[cR A e,← e]; exact h
 case a7F x =>
  simp only[aO] at h ⊢;cases e:x.ev F with
  | none=>simp[e] at h
  | some a=>rw[cR A e,← e]; exact h
 case extract x i =>
  simp only[aO] at h ⊢;cases e:x.ev F with
  | none=>simp[e] at h
  | some a=>rw[cR A e,← e]; exact h
 case a6J x =>
  simp only[aO] at h ⊢;cases e:x.ev F with
  | none=>simp[e] at h
  | some a=>rw[cR A e,← e]; exact h
 case len x =>
  simp only[aO] at h ⊢;cases e:x.ev F with
  | none=>simp[e] at h
  | some a=>rw[cR A e,← e]; exact h
 case box r x =>
  cases r
  ·cases h
  simp only[aO] at h ⊢;cases e:x.ev F with
  | none=>simp[e] at h
  | some a=>rw[cR A e,← e]; exact h
 case load n p =>
  cases n
  all_goals
   simp only[aO] at h ⊢;cases e:p.ev F with
   | none=>simp[e] at h
   | some a=>rw[cR A e,← e]; exact h
 case bin o x y =>
  simp only[aO] at h ⊢;cases e:x.ev F with
  | none=>simp[e] at h
  | some a =>
   cases B:y.ev F with
   | none=>simp[e,B] at h
   | some b=>rw[cR A e,cR A B,← e,← B]; exact h
 case eqb n x y =>
  simp only[aO] at h ⊢;cases e:x.ev F with
  | none=>simp[e] at h
  | some a =>
   cases B:y.ev F with
   | none=>simp[e,B] at h
   | some b=>rw[cR A e,cR A B,← e,← B]; exact h
 case eqs n k x y =>
  simp only[aO] at h ⊢;cases e:x.ev F with
  | none=>simp[e] at h
  | some a =>
   cases B:y.ev F with
   | none=>simp[e,B] at h
   | some b=>rw[cR A e,cR A B,← e,← B]; exact h
 case a6M s x i =>
  simp only[aO] at h ⊢;cases e:x.ev F with
  | none=>simp[e] at h
  | some a =>
   cases B:i.ev F with
   | none=>simp[e,B] at h
   | some b=>rw[cR A e,cR A B,← e,← B]; exact h
 case idxA n s x i =>
  simp only[aO] at h ⊢;cases e:x.ev F with
  | none=>simp[e] at h
  | some a =>
   cases B:i.ev F with
   | none=>simp[e,B] at h
   | some b=>rw[cR A e,cR A B,← e,← B]; exact h
 case idxV n s g x i =>
  simp only[aO] at h ⊢;cases e:x.ev F with
  | none=>simp[e] at h
  | some a =>
   cases B:i.ev F with
   | none=>simp[e,B] at h
   | some b=>rw[cR A e,cR A B,← e,← B]; exact h
 case a6W x i =>
  simp only[aO] at h ⊢;cases e:x.ev F with
  | none=>simp[e] at h
  | some a =>
   cases B:i.ev F with
   | none=>simp[e,B] at h
   | some b=>rw[cR A e,cR A B,← e,← B]; exact h
 case a6Q m x y =>
  simp only[aO] at h ⊢;cases e:x.ev F with
  | none=>simp[e] at h
  | some a =>
   cases B:y.ev F with
   | none=>simp[e,B] at h
   | some b=>rw[cR A e,cR A B,← e,← B]; exact h
 case lookup sh z x k ok =>
  simp only[aO] at h ⊢;cases e:x.ev F with
  | none=>simp[e] at h
  | some a =>
   cases B:k.ev F with
   | none=>simp[e,B] at h
   | some b=>rw[cR A e,cR A B,← e,← B]; exact h
 case build z ps =>simp only[aO,a7Q] at h ⊢;obtain⟨cs,E,J⟩:=h;exact⟨cs,Ks A E,J⟩
 case a6B r s l z ps =>
  cases r
  ·cases h
  simp only[aO] at h ⊢;split at h
  ·rename_i K;rw[if_pos K];rw[a7Q] at h ⊢;obtain⟨cs,E,J⟩:=h;exact⟨cs,CP A E,J⟩
  ·cases h
 case mkfn n cs =>simp only[aO,a7Q] at h ⊢;obtain⟨vs,E,J⟩:=h;exact⟨vs,FL A E,J⟩
 case sliceA n s x lo hi mx =>
  cases lo<;>cases hi<;>cases mx<;>simp only[aO] at h ⊢<;>try cases h
  cases e:x.ev F with
  | none=>simp[e] at h
  | some a=>rw[cR A e,← e]; exact h
 case a6S x lo hi =>
  simp only[aO] at h ⊢;cases e:x.ev F with
  | none=>simp[e] at h
  | some a =>
   rw[e] at h;rw[cR A e];cases a<;>simp only at h ⊢<;>try cases h
   cases E:bnd F 0 lo with
   | none=>simp[E] at h
   | some l =>
    rename_i s;cases J:bnd F s.length hi with
    | none=>simp[E,J] at h
    | some u=>rw[OI A E,OI A J,← E,← J]; exact h
 case slice s x lo hi mx =>
  simp only[aO] at h ⊢;cases e:x.ev F with
  | none=>simp[e] at h
  | some a =>
   rw[e] at h;rw[cR A e];have N:∀ (d:Int) (w:PV),(match bnd F 0 lo,bnd F d hi with
     | some a1,some a2=>match (generalizing:=false) mx with
      | none=>PV.slice s w a1 a2 none
      | some m=>(bnd F 0 (some m)).bind fun m=>PV.slice s w a1 a2 (some m)
     | _,_=>none)=some v→(match bnd F' 0 lo,bnd F' d hi with
     | some a1,some a2=>match (generalizing:=false) mx with
      | none=>PV.slice s w a1 a2 none
      | some m=>(bnd F' 0 (some m)).bind fun m=>PV.slice s w a1 a2 (some m)
     | _,_=>none)=some v:=by
    intro d w h;cases E:bnd F 0 lo with
    | none=>simp[E] at h
    | some l =>
     cases J:bnd F d hi with
     | none=>simp[E,J] at h
     | some u =>
      rw[E,J] at h;rw[OI A E,OI A J];cases mx with
      | none=>exact h
      | some m =>
       simp only at h ⊢;cases M:bnd F 0 (some m) with
       | none=>simp[M] at h
       | some q=>rw[OI A M,← M]; exact h
   cases a<;>simp only at h ⊢<;>first | exact N _ _ h | cases h
 all_goals exact h
theorem Io {op:POp} {r:(Nat→PV) × cG} (d:F.le F') (h:dA op F=some r):dA op F'=some r:=by
 cases op
 case box b x =>
  cases b
  ·simp only[dA] at h ⊢;cases e:x.ev F with
   | none=>simp[e] at h
   | some a=>rw[cR d e,← e]; exact h
  ·cases h
 case a6B b s l z ps =>
  cases b
  ·simp only[dA] at h ⊢;split at h
   ·rename_i u;rw[if_pos u];rw[a7Q] at h ⊢;obtain⟨cs,p,q⟩:=h;exact⟨cs,CP d p,q⟩
   ·cases h
  ·cases h
 case a6D s b z l c =>
  simp only[dA] at h ⊢;cases e:l.ev F with
  | none=>simp[e] at h
  | some a =>
   cases i:c.ev F with
   | none=>simp[e,i] at h
   | some b=>rw[cR d e,cR d i,← e,← i]; exact h
 all_goals exact h
theorem Vb {op:POp} {K:PV→PH→Prop} (d:F.le F') (h:cB op F H K):cB op F' H K:=by
 cases op
 case store n x y =>
  simp only[cB] at h ⊢;cases e:x.ev F with
  | none=>simp[e] at h
  | some a =>
   cases i:y.ev F with
   | none=>simp[e,i] at h
   | some b=>rw[cR d e,cR d i]; rw[e,i] at h; exact h
 case append s b x y =>
  simp only[cB] at h ⊢;cases e:x.ev F with
  | none=>simp[e] at h
  | some a =>
   cases i:y.ev F with
   | none=>simp[e,i] at h
   | some b=>rw[cR d e,cR d i]; rw[e,i] at h; exact h
 case a6N sh x y z =>
  simp only[cB] at h ⊢;cases e:x.ev F with
  | none=>simp[e] at h
  | some a =>
   cases i:y.ev F with
   | none=>simp[e,i] at h
   | some b =>
    cases l:z.ev F with
    | none=>simp[e,i,l] at h
    | some c=>rw[cR d e,cR d i,cR d l]; rw[e,i,l] at h; exact h
 case insert sh x y z =>
  simp only[cB] at h ⊢;cases e:x.ev F with
  | none=>simp[e] at h
  | some a =>
   cases i:y.ev F with
   | none=>simp[e,i] at h
   | some b =>
    cases l:z.ev F with
    | none=>simp[e,i,l] at h
    | some c=>rw[cR d e,cR d i,cR d l]; rw[e,i,l] at h; exact h
 all_goals exact h
theorem PF.aWR (c:F.le F') (i:Nat) (v:PV):(F.set i v).le (F'.set i v):=by
 intro j u h;rw[kD] at h ⊢;split at h
 ·rename_i e; rw[if_pos e]; exact h
 ·rename_i e; rw[if_neg e]; exact c j u h
theorem PF.tD (c:F.le F') (d:Option Nat) (v:PV):(F.put d v).le (F'.put d v):=by
 cases d with
 | none=>exact c
 | some d=>exact PF.aWR c d v
theorem PF.aVB (c:F.le F') (o s:Nat) (rs:List (List PV)):(F.frz o s rs).le (F'.frz o s rs):=by
 intro j u h;rw[qW,a7Q] at h ⊢;obtain⟨x,d,e⟩:=h;exact⟨x,c j x d,e⟩
theorem PF.le_trans {A B D:PF} (h:A.le B) (k:B.le D):A.le D:=fun i v hi=>k i v (h i v hi)
theorem jD.up {e:PF} {i:PH} (h:jD F H e i):∀ {F':PF},F.le F'→∃ c,jD F' H c i∧e.le c:=by
 induction h with
 | refl F H=>exact fun {F'} d=>⟨F',.refl _ _,d⟩
 | step o q _ u =>intro F' d;obtain⟨c,l,p⟩:=u (PF.aVB d o _ _);exact⟨c,.step o q l,p⟩
theorem gf {name:Nat} {args:Option (List PV)} {d:Option Nat} {K1 K2:PF→PH→Prop} (w:∀ F F' H,F.le F'→K1 F H→K2 F' H) (e:F.le F') {c:Option (List PV)} (x:∀ vs,args=some vs→c=some vs) (h:sF C name args d K1 F H):sF C name c d K2 F' H:=by
 obtain⟨vs,i,R,l,p,q,u⟩:=h;exact⟨vs,i,R,x _ l,p,q,fun r H' a b=>w _ _ _ (PF.tD e d r) (u r H' a b)⟩
theorem Oe {cs:List PV} {args:List aP} (c:F.le F') (vs:List PV) (h:(aP.evs F args).map (·++cs)=some vs):(aP.evs F' args).map (·++cs)=some vs:=by
 rw[a7Q] at h ⊢;obtain⟨x,d,e⟩:=h;exact⟨x,FL c d,e⟩
theorem X9 {name:Nat} {args:List aP} {cs:List PV} {d:Option Nat} {K1 K2:PF→PH→Prop} (i:∀ F F' H,F.le F'→K1 F H→K2 F' H) (c:F.le F') (h:iV C name args cs d K1 F H):iV C name args cs d K2 F' H:=by
 rcases h with h | ⟨F1,H1,h1,h2⟩
 ·exact .inl (gf i c (Oe c) h)
 ·obtain⟨e,k1,k2⟩:=h1.up c;exact .inr ⟨e,H1,k1,gf i k2 (Oe k2) h2⟩
theorem RA {op:POp} {d:Option Nat} {K1 K2:PF→PH→Prop} (l:∀ F F' H,F.le F'→K1 F H→K2 F' H) (c:F.le F') (h:mV (dA op F) d K1 F H):mV (dA op F') d K2 F' H:=by
 obtain⟨q,x,e,i⟩:=h;exact⟨q,x,Io c e,fun o p=>l _ _ _ (PF.tD c d _) (i o p)⟩
theorem t8 {op:POp} {d:Option Nat} {K1 K2:PF→PH→Prop} (l:∀ F F' H,F.le F'→K1 F H→K2 F' H) (c:F.le F') (h:bX (aO op F H) d K1 F H):bX (aO op F' H) d K2 F' H:=by
 obtain⟨v,e,i⟩:=h;exact⟨v,Ra c e,l _ _ _ (PF.tD c d v) i⟩
theorem H7 {op:POp} {d:Option Nat} {K1 K2:PF→PH→Prop} (e:∀ F F' H,F.le F'→K1 F H→K2 F' H) (c:F.le F') (h:cB op F H fun r H'=>K1 (F.put d r) H'):cB op F' H fun r H'=>K2 (F'.put d r) H' :=
 Vb c (AN (fun v H' i=>e _ _ _ (PF.tD c d v) i) h)
theorem aNT {op:POp} {d:Option Nat} {K1 K2:PF→PH→Prop} (i:∀ F F' H,F.le F'→K1 F H→K2 F' H) (e:F.le F') (h:wpOp C op d K1 F H):wpOp C op d K2 F' H:=by
 cases op
 case call n a=>exact X9 i e h
 case a6X x a =>
  have w:uQ C (x.ev F) a d K1 F H:=h;show uQ C (x.ev F') a d K2 F' H;cases M:x.ev F with
  | none=>rw[M] at w; exact w.elim
  | some u =>
   rw[cR e M];rw[M] at w;cases u<;>first | exact X9 i e w | exact w.elim | skip
   obtain⟨l,O,A⟩:=w;refine⟨l,O,?_⟩;rcases A with ⟨vs,E,R,A,J,K,h5⟩ | ⟨F1,H1,k1,vs,E,R,A,J,K,h5⟩
   ·exact .inl ⟨vs,E,R,FL e A,J,K,fun r H' p q=>i _ _ _ (PF.tD e d r) (h5 r H' p q)⟩
   ·obtain⟨B,k2,N⟩:=k1.up e;exact .inr ⟨B,H1,k2,vs,E,R,FL N A,J,K,fun r H' p q=>i _ _ _ (PF.tD N d r) (h5 r H' p q)⟩
 case box r x=>cases r<;>first | exact RA (op:=.box false x) i e h | exact t8 (op:=.box true x) i e h
 case a6B r s l z ps=>cases r<;>first | exact RA (op:=.a6B false s l z ps) i e h | exact t8 (op:=.a6B true s l z ps) i e h
 case alloc cs=>exact RA (op:=.alloc cs) i e h
 case a6D s b z l c=>exact RA (op:=.a6D s b z l c) i e h
 case a7B sh=>exact RA (op:=.a7B sh) i e h
 case store n x y=>exact H7 (op:=.store n x y) i e h
 case append s b x y=>exact H7 (op:=.append s b x y) i e h
 case a6N sh x y z=>exact H7 (op:=.a6N sh x y z) i e h
 case insert sh x y z=>exact H7 (op:=.insert sh x y z) i e h
 all_goals exact t8 i e h
theorem RV {K1 K2:PF→PH→Prop} (i:∀ F F' H,F.le F'→K1 F H→K2 F' H):∀ {ops:List aU} {F F':PF} {H:PH},F.le F'→wpOps C ops K1 F H→wpOps C ops K2 F' H
 | [],_,_,_,c,h=>i _ _ _ c h
 | ⟨d,op,none⟩::rest,_,_,_,c,h=>aNT (fun _ _ _ a b=>RV i a b) c h
 | ⟨d,op,some (t,p)⟩::rest,F,F',H,c,h=>by
  rw[Xr] at h ⊢;unfold vP at h;split at h
  ·rename_i b l;rw[c t _ l];unfold vP;simp only;split at h
   ·rename_i e; rw[if_pos e]; exact aNT (fun _ _ _ a b=>RV i a b) c h
   ·rename_i e; rw[if_neg e]; exact RV i (PF.tD c d _) h
  ·rename_i l;rw[c t _ l];exact RV i (PF.tD c d _) h
  ·exact h.elim
theorem Q4 {Hs:PH} {S:Spec} {st:Bool} {op:POp} {K:PV→PH→Prop} (d:F.le F') (h:(op.kind F).run C Hs S st K H):(op.kind F').run C Hs S st K H:=by
 have new:∀ op:POp,(Kind.new (dA op F)).run C Hs S st K H→(Kind.new (dA op F')).run C Hs S st K H:=fun op h=>by obtain⟨J,x,e,i⟩:=h;exact⟨J,x,Io d e,i⟩
 have calm:∀ op:POp,(Kind.calm (aO op F)).run C Hs S st K H→(Kind.calm (aO op F')).run C Hs S st K H:=fun op h=>by obtain⟨v,e,i⟩:=h;exact⟨v,Ra d e,i⟩
 have E:∀ op:POp,(Kind.write fun H K=>cB op F H K).run C Hs S st K H→(Kind.write fun H K=>cB op F' H K).run C Hs S st K H:=fun op h=>Vb (op:=op) d (show cB op F H (fun r H'=>Hs.le H'∧K r H') from h);cases op
 case call n a =>obtain⟨vs,D,R,e,i⟩:=h;exact⟨vs,D,R,FL d e,i⟩
 case a6X x a =>
  unfold POp.kind at h ⊢;simp only at h ⊢;cases p:x.ev F with
  | none=>rw[p] at h; exact h.elim
  | some u =>
   rw[p] at h;rw[cR d p];cases u<;>simp only at h ⊢<;>first | exact h | skip
   obtain⟨vs,D,R,e,i⟩:=h;exact⟨vs,D,R,Oe d _ e,i⟩
 case insert sh x k v =>
  obtain⟨o,B,A,u,g,e,i⟩:=h;refine⟨o,B,A,u,g,?_,i⟩;cases p:x.ev F with
  | none=>simp[p] at e
  | some a =>
   cases q:k.ev F with
   | none=>simp[p,q] at e
   | some b =>
    cases w:v.ev F with
    | none=>simp[p,q,w] at e
    | some c=>rw[cR d p,cR d q,cR d w]; rw[p,q,w] at e; exact e
 case box r x=>cases r<;>first | exact new (.box false x) h | exact calm (.box true x) h
 case a6B r s l z ps=>cases r<;>first | exact new (.a6B false s l z ps) h | exact calm (.a6B true s l z ps) h
 case alloc cs=>exact new (.alloc cs) h
 case a6D s b z l c=>exact new (.a6D s b z l c) h
 case a7B sh=>exact new (.a7B sh) h
 case store n x y=>exact E (.store n x y) h
 case append s b x y=>exact E (.append s b x y) h
 case a6N sh x y z=>exact E (.a6N sh x y z) h
 all_goals exact calm _ h
theorem aFW {Hs:PH} {S:Spec} {st:Bool} {i:aU} {K:PV→PH→Prop} (c:F.le F') (h:(i.kind F).run C Hs S st K H):(i.kind F').run C Hs S st K H:=by
 unfold aU.kind at h ⊢;split
 ·rename_i l;rw[l] at h;exact Q4 c h
 ·rename_i t p l;rw[l] at h;simp only at h;split at h
  ·rename_i b d;rw[c t _ d];simp only;split at h
   ·rename_i e; rw[if_pos e]; exact Q4 c h
   ·rename_i e; rw[if_neg e]; exact h
  ·rename_i d;rw[c t _ d];exact h
  ·exact h.elim
theorem aCN {Hs:PH} {S:Spec} {K1 K2:PF→PH→Prop} (e:∀ F F' H,F.le F'→K1 F H→K2 F' H):∀ {ops:List (aU × Bool)} {F F':PF} {H:PH},Hs.le H→F.le F'→wpD C Hs S ops K1 F H→wpD C Hs S ops K2 F' H
 | [],_,_,_,_,c,h=>e _ _ _ c h
 | i::rest,F,F',H,q,c,h=>by have l:(i.1.kind F).run C Hs S i.2 (fun v H'=>wpD C Hs S rest K1 (F.put i.1.dst v) H') H:=h;exact aFW c (Kind.rN (rL _ _) (fun v H' d p=>aCN e d (PF.tD c _ v) p) q l)
class Up (K:bR):Prop where
 up:∀ {e:kM} {F F':PF} {H:PH},F.le F'→K e F H→K e F' H
theorem xR:∀ (c:aC) {K1 K2:bR} (_:∀ e F F' H,F.le F'→K1 e F H→K2 e F' H) {F F':PF} {H:PH},F.le F'→c.wp C K1 F H→c.wp C K2 F' H
 | .skip,_,_,i,_,_,_,d,h=>i _ _ _ _ d h
 | .region ops,_,_,i,_,_,_,d,h=>RV (i .normal) d h
 | .draw ops,_,_,i,_,_,_,d,⟨Hs,S,q,A⟩=>⟨Hs,S,q,aCN (i .normal) q d A⟩
 | .seq a b,K1,K2,i,_,_,_,d,h=>xR a (K1:=gE C (b.wp C) K1) (K2:=gE C (b.wp C) K2) (fun e F F' H p l=>by
   cases e with
   | normal=>exact xR b i p l
   | exit id=>exact i (.exit id) _ _ _ p l
   | ret=>exact i .ret _ _ _ p l) d h
 | .cond c a b,K1,K2,i,F,F',H,d,h=>by
  rw[aNG] at h ⊢;unfold UO at h;split at h
  ·rename_i t N;rw[cR d N];unfold UO;simp only;split at h
   ·rename_i e; rw[if_pos e]; exact xR a i d h
   ·rename_i e; rw[if_neg e]; exact xR b i d h
  ·exact h.elim
 | .block id c,K1,K2,i,_,_,_,d,h=>xR c (K1:=eX id K1) (K2:=eX id K2) (fun e F F' H p l=>by
   cases e with
   | normal=>exact i .normal _ _ _ p l
   | exit j =>
    rw[CI] at l ⊢;split at l
    ·rename_i e; rw[if_pos e]; exact i .normal _ _ _ p l
    ·rename_i e; rw[if_neg e]; exact i (.exit j) _ _ _ p l
   | ret=>exact i .ret _ _ _ p l) d h
 | .loop c,K1,K2,i,F,F',H,d,⟨α,x,Hs,y,m,E,Y,B,q,A,J,K,h5⟩=>by
  obtain⟨u,k1,k2⟩:=q.up d;refine⟨α,x,Hs,y,m,E,u,B,k1,A,PF.le_trans J k2,K,fun a M=>?_⟩;refine xR c (K1:=fJ x Hs y m (m a) K1) (K2:=fJ x Hs y m (m a) K2) (fun e F F' H p l=>?_) PF.le_refl (h5 a M);cases e with
  | normal =>obtain⟨b,Z,H2,R,U,V,W,X⟩:=l;obtain⟨w,O,Q⟩:=R.up p;exact⟨b,w,H2,O,U,V,PF.le_trans W Q,X⟩
  | exit id=>exact i (.exit id) _ _ _ p l
  | ret=>exact i .ret _ _ _ p l
 | .exit id,_,_,i,_,_,_,d,h=>i (.exit id) _ _ _ d h
 | .ret,_,_,i,_,_,_,d,h=>i .ret _ _ _ d h
instance Up.seq {K:bR} [Up K] (b:aC):Up (gE C (b.wp C) K) where
 up {e} {F} {F'} {H} hl hh:=by
  cases e with
  | normal=>exact xR b (fun e F F' H a h=>Up.up a h) hl hh
  | exit id=>exact Up.up (K:=K) (e:=.exit id) hl hh
  | ret=>exact Up.up (K:=K) (e:=.ret) hl hh
instance Up.block {K:bR} [Up K] (id:Nat):Up (eX id K) where
 up {e} {F} {F'} {H} hl hh:=by
  cases e with
  | normal=>exact Up.up (K:=K) (e:=.normal) hl hh
  | exit j =>
   rw[CI] at hh ⊢;split at hh
   ·rename_i e; rw[if_pos e]; exact Up.up (K:=K) (e:=.normal) hl hh
   ·rename_i e; rw[if_neg e]; exact Up.up (K:=K) (e:=.exit j) hl hh
  | ret=>exact Up.up (K:=K) (e:=.ret) hl hh
instance Up.loop {K:bR} [Up K] {α:Type} (d:α→PF) (Hs:α→PH) (i:α→Prop) (m:α→Nat) (n:Nat):Up (fJ d Hs i m n K) where
 up {e} {F} {F'} {H} hl hh:=by
  cases e with
  | normal =>obtain⟨b,A,H2,q,u,w,x,y⟩:=hh;obtain⟨c,l,p⟩:=q.up hl;exact⟨b,c,H2,l,u,w,PF.le_trans x p,y⟩
  | exit id=>exact Up.up (K:=K) (e:=.exit id) hl hh
  | ret=>exact Up.up (K:=K) (e:=.ret) hl hh
theorem aWF {H:PH} (c:F.le F') {x:dV} {v:PV} (h:x.ev F H=some v):x.ev F' H=some v:=by
 cases x with
 | tmp t=>exact c t v h
 | cell t n =>
  cases n<;>simp only[dV.ev] at h ⊢<;>(cases d:F t with
   | none=>simp[d] at h
   | some a=>rw[c t a d,← d]; exact h)
theorem wt {H:PH} (c:F.le F'):∀ {xs:List dV} {vs:List PV},dV.evs F H xs=some vs→dV.evs F' H xs=some vs
 | [],_,h=>h
 | x::xs,vs,h=>by
  rw[kI] at h ⊢;cases e:x.ev F H with
  | none=>simp[e] at h
  | some v =>
   cases d:dV.evs F H xs with
   | none=>simp[d] at h
   | some i =>rw[e,d] at h;rw[aWF c e,wt c d];exact h
instance Up.ret (res:List dV) (R:PV→PH→Prop):Up (aV res R) where
 up {e} {F} {F'} {H} hl hh:=by
  cases e with
  | exit id=>exact hh
  | normal=>obtain⟨vs,c,d⟩:=hh; exact⟨vs,wt hl c,d⟩
  | ret=>obtain⟨vs,c,d⟩:=hh; exact⟨vs,wt hl c,d⟩
end
section
variable {H:PH} {B:List BX} {L:List LI}
end

section
variable {H:PH} {B:List BX} {L:List LI} {s:Nat} {rows:List (List PV)}
theorem oP.some (s:Nat) (rows:List (List PV)) (G:PH):∃ r H',oP s rows r H'∧lZ G .nil H':=by
 obtain⟨o,d⟩:=G.fresh;refine⟨.osl o s 0 rows.length,PH.nil.set o (.rows s rows),.inr ⟨o,rows,rfl,rfl,a7M _,a8I⟩,fun q x c _=>?_⟩;rw[aT] at c;split at c
 ·rename_i e; rw[e]; exact d
 ·cases c
end

section
variable {C:Ctx} {F:PF} {H Hs:PH} {tn a a2:Nat} {raw:List Int} {R:Nat→PV→PH→Prop} {st:Bool} {args:List aP} {d:Option Nat} {K:PF→PH→Prop}
end
section
variable {C:Ctx} {F:PF} {H:PH} {B:List BX} {L:List LI} {args:List aP} {d:Option Nat} {K:PF→PH→Prop}
end


theorem ZA.move {f:aE} {L:List (List Int)} (h:ZA f L) {x k d:Nat} (p:x<L.length) (q:d<f.a5V.length):ZA f (L.set x (L[x].set k d)):=by
 refine⟨by rw[a9L]; exact h.len,fun v l=>?_,fun r c=>?_⟩
 ·rw[a9L] at l;have:=h.row v l;rw[List.getElem_set];split
  ·rename_i e;subst e;rw[a9L]; exact this
  ·exact this
 ·rcases List.mem_or_eq_of_mem_set c with c | rfl
  ·exact h.home r c
  ·intro y i;rcases List.mem_or_eq_of_mem_set i with i | rfl
   ·exact h.home _ (a7J p) y i
   ·omega

structure aUK (C:Ctx):Prop extends fV C where
 r3:aM C 3 aQL
 r6:aM C 6 a0A
 r18:aM C 18 aVE
 r82:aM C 82 a0D
structure fz (C:Ctx):Prop extends OA C where
 int:∀ n:Int,dB n→aH C 47 [.int .i64 n] .nil (aF (.agg (mkT n 1).cells))
 mul:∀ a b,Lim a→Lim b→a.length≤35184372087808→b.length≤35184372087808→aH C 36 [aJ a,aJ b] .nil (aF (opV (dY (val a) (val b)) (val a*val b)))
 add:∀ a b,Lim a→Lim b→a.length≤35184372087808→b.length≤35184372087808→aH C 30 [aJ a,aJ b] .nil (aF (opV (dY (val a) (val b)) (val a+val b)))
 sub:∀ a b,Lim a→Lim b→a.length≤35184372087808→b.length≤35184372087808→aH C 37 [aJ a,aJ b] .nil (aF (rP (val a) (val b)))
theorem Er (a b:Nat):cU a b=(decide (nl b>0)&&(decide (nl b≤128)&&decide (nl a≤128))):=by
 have:=@hZ b;refine Bool.eq_iff_iff.2 ?_;rw[fR];simp only[a7X,decide_eq_true_eq];omega
theorem Ff {C:Ctx} (L:fz C) (neg:Bool) (a b:List Nat) (q:Lim a) (l:Lim b) (u:a.length≤35184372087808) (p:b.length≤35184372087808) :
  ER.wp C (aV qv.res (aF (.bool (cU (val a) (val b))))) (PF.args [.agg (eH neg a b)]) .nil:=by
 rw[Er];simp only[go_sem,ER,Fg,Fh,qv];refine aA (L.trim b l p) rfl ?_;simp only[go_sem,a7G,bB];by_cases e:nl (val b)>0
 ·have c:((nl (val b):Nat):Int)>0:=Om;simp only[go_sem,c];refine aA (L.trim b l p) rfl ?_;simp only[go_sem,a7G,bB];by_cases i:nl (val b)≤128
  ·have d:((nl (val b):Nat):Int)≤128:=Om;simp only[go_sem,d];refine aA (L.trim a q u) rfl ?_;simp only[go_sem,a7G,bB];refine aQ (.inr rfl) rfl ?_;have:decide (((nl (val a):Nat):Int)≤128)=decide (nl (val a)≤128):=by refine decide_eq_decide.2 ?_;omega
   rw[bO,this,decide_eq_true e,decide_eq_true i];rfl
  ·have d:¬ ((nl (val b):Nat):Int)≤128:=Om;simp only[go_sem,d];refine aQ (.inr rfl) rfl ?_;rw[bO,decide_eq_false i,a7P,a8O]
 ·have c:¬ ((nl (val b):Nat):Int)>0:=Om;simp only[go_sem,c];refine aQ (.inr rfl) rfl ?_;rw[bO,decide_eq_false e,a7P]
theorem bf {neg:Bool} {a b:Nat} (h:cU a b=true):iH neg a b=.ok (mO neg a b):=by
 obtain⟨l,c,d⟩:=fR.1 h;have e:=(lW (a/a7I a b) 128).2 (l8 _ d);have i:=(lW (b/a7I a b) 128).2 (l8 _ c);unfold iH mO;rw[if_neg Om]
def aiZ (a b:Nat):Bool:=decide (nl a>128)||decide (nl b>128)
theorem Et {C:Ctx} (neg:Bool) (a b:List Nat) :
  EO.wp C (aV qc.res (aF (.bool (decide (a.length>128)||decide (b.length>128))))) (PF.args [.agg (eH neg a b)]) .nil:=by
 simp only[go_sem,EO,Eu,Ew,qc,a7G];by_cases c:a.length>128
 ·have d:(a.length:Int)>128:=Om;simp only[go_sem,d];refine aQ (.inr rfl) rfl ?_;rw[bO,decide_eq_true c,Bool.true_or]
 ·have d:¬ (a.length:Int)>128:=Om;simp only[go_sem,d,a7G];refine aQ (.inr rfl) rfl ?_;have:decide ((b.length:Int)>128)=decide (b.length>128):=by refine decide_eq_decide.2 ?_;omega
  rw[bO,this,decide_eq_false c,Bool.false_or]
def Kt (x:FV):FR:=if aiZ x.2.1 x.2.2 then .error 2 else .ok x
theorem aPE (neg:Bool) (a b:Nat):Kt (mO neg a b)=iH neg a b:=by
 have d:=lW (a/a7I a b) 128;have e:=lW (b/a7I a b) 128;unfold Kt mO iH aiZ;simp only[Bool.or_eq_true,decide_eq_true_eq];by_cases c:nl (a/a7I a b)>128∨nl (b/a7I a b)>128
 ·rw[if_pos c,if_pos Om]
 ·rw[if_neg c,if_neg Om]
structure OC (C:Ctx):Prop extends fz C where
 valid:∀ x:RF,x.Ok→aH C 56 [.agg x.cells] .nil (aF (.bool (cU (val x.num) (val x.den))))
 big:∀ x:FV,aH C 48 [.agg x.rf.cells] .nil (aF (.bool (aiZ x.2.1 x.2.2)))
theorem Ug {C:Ctx} (L:OC C) (x:FV):MF.wp C (aV Hu.res (bY (frV (Kt x)))) (PF.args [.agg x.rf.cells]) .nil:=by
 simp only[go_sem,MF,Uh,Hu];refine aR fun o c=>?_;simp only[go_sem,Ui];refine aA (L.big x) rfl ?_;unfold Kt;cases aiZ x.2.1 x.2.2 with
 | true =>simp only[go_sem,Uj];refine hL ?_;simp only[go_sem]
 | false =>obtain⟨n,a,b⟩:=x;simp only[go_sem,Uk];exact bA (.inr rfl) .nil (vs:=[.agg (FV.rf (n,a,b)).cells,.int .i64 0]) Sq a_ ⟨.refl _,rfl⟩
theorem qn {C:Ctx} (L:OC C) (x:RF) (c:x.Ok):AJ.wp C (aV VS.res (bY (frV (oO x)))) (PF.args [.agg x.cells]) .nil:=by
 simp only[go_sem,AJ,qp,VS];refine aR fun o l=>?_;simp only[go_sem,qq];refine aA (L.valid x c) rfl ?_;unfold oO;cases d:cU (val x.num) (val x.den) with
 | false =>simp only[go_sem,a7Y,qr];refine hL ?_;simp only[go_sem]
 | true =>obtain⟨i,p,q⟩:=fR.1 d;have e:=bf (neg:=x.neg) d;rw[if_pos rfl,e];simp only[go_sem,a7L,qt];refine aA (L.lowest x.neg x.num x.den c.1 c.2.1 c.2.2.1 c.2.2.2 Om Om i) rfl ?_;simp only[go_sem];exact bA (.inr rfl) .nil (vs:=[.agg (mO x.neg (val x.num) (val x.den)).rf.cells,.int .i64 0]) Sq a_ ⟨.refl _,rfl⟩
theorem Fb {C:Ctx} (L:fz C) (a b:List Nat) (c:Lim a) (d:Lim b) (e:a.length≤35184372087808) (i:b.length≤35184372087808) (l:nl (val a)≤256) (p:nl (val b)≤256) :
  EQ.wp C (aV qu.res (aF (aJ (aI (val a*val b))))) (PF.args [aJ a,aJ b]) .nil:=by
 simp only[go_sem,EQ,Fc,Fd,qu];refine aA (L.mul a b c d e i) rfl ?_;have:=lJ l p;rw[hC Om Om,opV,AE Om];simp only[go_sem,Fe];refine aQ (.inr rfl) rfl ?_;rfl
structure ga (C:Ctx):Prop extends OC C where
 fits:∀ x:FV,aH C 57 [.agg x.rf.cells] .nil (aF (frV (Kt x)))
 red:∀ x:RF,x.Ok→aH C 52 [.agg x.cells] .nil (aF (frV (oO x)))
 prod:∀ a b,Lim a→Lim b→a.length≤35184372087808→b.length≤35184372087808→nl (val a)≤256→nl (val b)≤256→aH C 60 [aJ a,aJ b] .nil (aF (aJ (aI (val a*val b))))
def RF.valid (x:RF):Prop:=cU (val x.num) (val x.den)=true
def pM (x y:RF):Int:=pL x.neg (val x.num) (val x.den) y.neg (val y.num) (val y.den)
def voS:Spec:=fun name vs=>match name,vs with
 | 60,[x,y]=>some ([],fun _=>aF (aJ (aI (val (jE x)*val (jE y)))))
 | _,_=>none
theorem wA (a b:List Nat):voS 60 [aJ a,aJ b]=some ([],fun _=>aF (aJ (aI (val a*val b)))):=by
 show some _=_; rw[eG,eG]
theorem x6 (a b:Nat):dP b a=- dP a b:=by
 unfold dP;rcases Nat.lt_trichotomy a b with h | h | h
 ·rw[if_neg Om,if_pos h,if_pos h]; rfl
 ·subst h;rw[if_neg Om,if_neg Om]; rfl
 ·rw[if_pos h,if_neg Om,if_pos h]
set_option maxHeartbeats 1000000 in
theorem Ex {C : Ctx} (L : ga C) (x y : RF) (hx : x.Ok) (hy : y.Ok) (vx : x.valid) (vy : y.valid) : EP.wp C (aV ql.res (aF (.int .i64 (pM x y)))) (PF.args [.agg x.cells, .agg y.cells]) .nil := by
  obtain ⟨n1, a1, b1⟩ := x;obtain ⟨n2, a2, b2⟩ := y;obtain ⟨ha1, hb1, la1, lb1⟩ := hx;obtain ⟨ha2, hb2, la2, lb2⟩ := hy;obtain ⟨v1, v2, v3⟩ := fR.1 vx;obtain ⟨w1, w2, w3⟩ := fR.1 vy;simp only at ha1 hb1 la1 lb1 ha2 hb2 la2 lb2 v1 v2 v3 w1 w2 w3;have m1 := lJ v3 w2;have m2 := lJ w3 v2;have hA : decide (val a1 ≠ 0) = decide (nl (val a1 * val b2) > 0) := by refine decide_eq_decide.2 ?_;have := @hZ (val a1 * val b2);rw [Nat.mul_eq_zero] at this;omega
  have hB : decide (val a2 ≠ 0) = decide (nl (val a2 * val b1) > 0) := by refine decide_eq_decide.2 ?_;have := @hZ (val a2 * val b1);rw [Nat.mul_eq_zero] at this;omega
  unfold pM pL;simp only [hA, hB];simp only[go_sem,EP,Ey,ql];refine bW .nil voS a_ ?_;simp only[go_sem,Ez];refine bP (wA a1 b2) (L.prod a1 b2 ha1 hb2 la1 lb2 Om Om) rfl a_ ?_;simp only[go_sem];refine bP (wA a2 b1) (L.prod a2 b1 ha2 hb1 la2 lb1 Om Om) rfl a_ ?_;have hc := L.cmp (aI (val a1 * val b2)) (aI (val a2 * val b1)) (aX _) (aX _) (by rw [bB]; omega) (by rw [bB]; omega);have hd := L.cmp (aI (val a2 * val b1)) (aI (val a1 * val b2)) (aX _) (aX _) (by rw [bB]; omega) (by rw [bB]; omega);rw [aW, aW] at hc hd;rw [x6 (val a1 * val b2)] at hd;generalize val a1 * val b2 = A at *
  generalize val a2 * val b1 = B at *
  have gA : decide (((nl A : Nat) : Int) > 0) = decide (nl A > 0) := decide_eq_decide.2 Om;have gB : decide (((nl B : Nat) : Int) > 0) = decide (nl B > 0) := decide_eq_decide.2 Om;generalize decide (nl A > 0) = p at *
  generalize decide (nl B > 0) = q at *
  cases n1 <;> cases n2 <;> cases p <;> cases q
  all_goals
    simp only[go_sem,E0,a7G,bB,gA,gB,E4,E5,E6,E7,E8,E9,Fa]
    first
    | (refine aQ (.inr rfl) rfl ?_; rfl)
    | (refine aA hc rfl ?_
       simp only[go_sem];refine aQ (.inr rfl) rfl ?_;rfl)
    | (refine aA hd rfl ?_
       simp only[go_sem];refine aQ (.inr rfl) rfl ?_;rfl)
structure vJ (C:Ctx):Prop extends ga C where
 order:∀ x y:RF,x.Ok→y.Ok→x.valid→y.valid→aH C 51 [.agg x.cells,.agg y.cells] .nil (aF (.int .i64 (pM x y)))
theorem Um {C:Ctx} (L:vJ C) (x y:RF) (c:x.Ok) (d:y.Ok) (e:x.valid) (i:y.valid):MG.wp C (aV Hv.res (aF (.bool (decide (pM x y<0))))) (PF.args [.agg x.cells,.agg y.cells]) .nil:=by
 simp only[go_sem,MG,Un,Uo,Hv];refine aA (L.order x y c d e i) rfl ?_;simp only[go_sem];refine aQ (.inr rfl) rfl ?_;rfl
theorem Uw {C:Ctx} (L:vJ C) (x y:RF) (c:x.Ok) (d:y.Ok) (e:x.valid) (i:y.valid):MK.wp C (aV Hx.res (aF (.bool (pM x y==0)))) (PF.args [.agg x.cells,.agg y.cells]) .nil:=by
 simp only[go_sem,MK,Ux,Uy,Hx];refine aA (L.order x y c d e i) rfl ?_;simp only[go_sem];refine aQ (.inr rfl) rfl ?_;rfl
theorem FX (n:Int):mkT n 1=⟨decide (n<0),aI n.natAbs,aI 1⟩:=by
 unfold mkT mO FV.rf;rw[show (1:Int).natAbs=1 from rfl,Nat.gcd_one_right,Nat.div_one,Nat.div_one,show decide ((1:Int)<0)=false from rfl];congr 1;by_cases h:n<0
 ·have:n.natAbs≠0:=Om;simp[h,this]
 ·simp[h]
theorem FW (n:Int) (h:dB n):(mkT n 1).Ok∧(mkT n 1).valid:=by
 have c:nl n.natAbs≤2:=nO (by unfold dB at h; omega);rw[FX];refine⟨⟨aX _,aX _,?_,?_⟩,?_⟩
 ·simp only[bB]; omega
 ·simp only[vS]; decide
 ·unfold RF.valid;simp only[aW];rw[Er];have:nl 1=1:=by rw[nl,vS]; rfl
  simp[this];omega
def rD (x:RF):Int:=if val x.num=0 then 0 else if x.neg then -1 else 1
theorem aHW (x:RF):pM x (mkT 0 1)=rD x:=by
 rw[FX];unfold pM rD pL;simp only[aW,show (0:Int).natAbs=0 from rfl,Nat.mul_one,Nat.zero_mul];by_cases h:val x.num=0
 ·simp[h,dP]
 ·cases x.neg<;>simp[h,dP]
def viS (r:Int):Spec:=fun name _=>if name=47 then some ([],fun _=>aF (.agg (mkT 0 1).cells)) else some ([],fun _=>aF (.int .i64 r))
theorem Uz {C:Ctx} (L:vJ C) (x:RF) (e:x.Ok) (i:x.valid):ML.wp C (aV Hy.res (aF (.int .i64 (rD x)))) (PF.args [.agg x.cells]) .nil:=by
 have c:dB 0:=by unfold dB; omega
 have d:=L.order x (mkT 0 1) e (FW 0 c).1 i (FW 0 c).2;rw[aHW] at d;simp only[go_sem,ML,U1,Hy];refine bW .nil (viS (rD x)) a_ ?_;simp only[go_sem,U2];refine bP rfl (L.int 0 c) rfl a_ ?_;simp only[go_sem];refine bP rfl d rfl a_ ?_;simp only[go_sem];refine aQ (.inr rfl) rfl ?_;rfl
theorem aCG {C:Ctx} (L:vJ C) (i l:Bool) (a1 b1 a2 b2:List Nat) (N:Lim a1) (E:Lim b1) (O:Lim a2) (J:Lim b2)
  (Q:a1.length≤35184372087808) (K:b1.length≤35184372087808) (R:a2.length≤35184372087808) (M:b2.length≤35184372087808) :
  CC.wp C (aV Uc.res (bY (frV (gI (i,val a1,val b1) (l,val a2,val b2))))) (PF.args [.agg (eH i a1 b1),.agg (eH l a2 b2)]) .nil:=by
 have vx:aH C 56 [.agg (eH i a1 b1)] .nil (aF (.bool (cU (val a1) (val b1)))):=L.valid ⟨i,a1,b1⟩ ⟨N,E,Q,K⟩;have vy:aH C 56 [.agg (eH l a2 b2)] .nil (aF (.bool (cU (val a2) (val b2)))):=L.valid ⟨l,a2,b2⟩ ⟨O,J,R,M⟩;simp only[go_sem,CC,agQ,Uc];refine aR fun o ho=>?_;simp only[go_sem,agR];refine aA vx rfl ?_;simp only[gI];cases hv:cU (val a1) (val b1) with
 | false =>simp only[go_sem,a7Y,xf,a7P];refine hL ?_;simp only[go_sem]
 | true =>
  obtain⟨v1,v2,v3⟩:=fR.1 hv;simp only[go_sem,a7L];refine aA vy rfl ?_;cases hw:cU (val a2) (val b2) with
  | false =>simp only[go_sem,a7Y,xf,a8O];refine hL ?_;simp only[go_sem]
  | true =>
   obtain⟨w1,w2,w3⟩:=fR.1 hw;simp only[go_sem,a7L,a9N];refine bW .nil voS a_ ?_;simp only[go_sem,agS];refine bP (wA a1 b2) (L.prod a1 b2 N J Q M Om Om) rfl a_ ?_;simp only[go_sem];refine bP (wA a2 b1) (L.prod a2 b1 O E R K Om Om) rfl a_ ?_;simp only[go_sem];refine bP (wA b1 b2) (L.prod b1 b2 E J K M Om Om) rfl a_ ?_;simp only[go_sem];have m1:=lJ v3 w2;have m2:=lJ w3 v2;have m3:=lJ v2 w2;have d0:val b1*val b2≠0:=Nat.mul_ne_zero v1 w1;generalize hA:val a1*val b2=A at *
   generalize hB:val a2*val b1=B at *
   generalize hD:val b1*val b2=D at *
   have fin:∀ (F:PF) (H:PH) (r:FR),(∃ d x y e,frV r=.tup [.agg (eH d x y),.int .i64 e]∧F 4=some (.ptr o 3 0 0)∧F 5=some (.int .i64 e)∧H o=some (.rows 3 [eH d x y]))→aV [.cell 4 (some 3),.tmp 5] (bY (frV r)) .ret F H:=by rintro F H r ⟨d,x,y,e,he,f4,f5,hH⟩;rw[he];exact bA (.inr rfl) .nil (vs:=[.agg (eH d x y),.int .i64 e]) (by simp only[go_sem,f4,f5,hH]) a_ ⟨.refl _,rfl⟩
   have V:(i==l)=decide (i=l):=by cases i<;>cases l<;>rfl
   have low:∀ neg x,nl x≤257→aH C 58 [.bool neg,aJ (aI x),aJ (aI D)] .nil (aF (.agg (mO neg x D).rf.cells)):=by
    intro neg x hx;have W:(aI x).length≤35184372087808:=by rw[bB]; omega
    have Z:(aI D).length≤35184372087808:=by rw[bB]; omega
    have:=L.lowest neg (aI x) (aI D) (aX _) (aX _) W Z;rw[aW,aW] at this;exact this Om Om d0
   have w:∀ neg x,aH C 57 [.agg (mO neg x D).rf.cells] .nil (aF (frV (iH neg x D))):=fun neg x=>by
    have:=L.fits (mO neg x D)
    rwa [aPE] at this
   have lA:(aI A).length≤35184372087808:=by rw[bB]; omega
   have lB:(aI B).length≤35184372087808:=by rw[bB]; omega
   simp only[go_sem,agT];by_cases c:i=l
   ·rw[if_pos c];have S:(i==l)=true:=by rw[V,decide_eq_true c]
    simp only[go_sem,S,agU];have q:=L.add (aI A) (aI B) (aX _) (aX _) lA lB;have α:=P9 m1 m2;rw[aW,aW,hC Om Om,opV,AE Om] at q;refine aA q rfl ?_;simp only[go_sem,agV];refine aA (low i _ Om) rfl ?_;simp only[go_sem];refine aA (w i _) rfl ?_;obtain⟨d,x,y,e,p⟩:=tX (iH i (A+B) D);rw[p];simp only[go_sem];rw[← p];exact fin _ _ _ ⟨d,x,y,e,p,by simp only[go_sem],by simp only[go_sem],by simp only[go_sem]⟩
   ·rw[if_neg c];have S:(i==l)=false:=by rw[V,decide_eq_false c]
    simp only[go_sem,S,agW];have hc:=L.cmp (aI A) (aI B) (aX _) (aX _) lA lB;rw[aW,aW] at hc;refine aA hc rfl ?_;have u:∀ X Y:Nat,nl X≤256→nl Y≤256→Y≤X→aH C 37 [aJ (aI X),aJ (aI Y)] .nil (aF (.tup [aJ (aI (X-Y)),.int .i64 0])):=by intro X Y W Z h;have:=L.sub (aI X) (aI Y) (aX _) (aX _) (by rw[bB]; omega) (by rw[bB]; omega);have h3:=fT (Om:X-Y≤X);rw[aW,aW,rP,hC Om Om,if_neg (by decide),if_neg Om,AE Om] at this;exact this
    by_cases g:B≤A
    ·have U:dP A B≥0:=(UN A B).2 g;rw[if_pos g];simp only[go_sem,U,agX];refine aA (u A B Om Om g) rfl ?_;simp only[go_sem,agY];have h3:=fT (Om:A-B≤A);refine aA (low i (A-B) Om) rfl ?_;simp only[go_sem];refine aA (w i _) rfl ?_;obtain⟨d,x,y,e,p⟩:=tX (iH i (A-B) D);rw[p];simp only[go_sem];rw[← p];exact fin _ _ _ ⟨d,x,y,e,p,by simp only[go_sem],by simp only[go_sem],by simp only[go_sem]⟩
    ·have U:¬ dP A B≥0:=fun h=>g ((UN A B).1 h);rw[if_neg g];simp only[go_sem,U,Ud];refine aA (u B A Om Om Om) rfl ?_;simp only[go_sem,Ue];have h3:=fT (Om:B-A≤B);refine aA (low l (B-A) Om) rfl ?_;simp only[go_sem];refine aA (w l _) rfl ?_;obtain⟨d,x,y,e,p⟩:=tX (iH l (B-A) D);rw[p];simp only[go_sem];rw[← p];exact fin _ _ _ ⟨d,x,y,e,p,by simp only[go_sem],by simp only[go_sem],by simp only[go_sem]⟩
theorem agP {C:Ctx} (L:vJ C) (x y:RF) (c:x.Ok) (d:y.Ok):CC.wp C (aV Uc.res (bY (frV (gI x.v y.v)))) (PF.args [.agg x.cells,.agg y.cells]) .nil :=
 aCG L x.neg y.neg x.num x.den y.num y.den c.1 c.2.1 d.1 d.2.1 c.2.2.1 c.2.2.2 d.2.2.1 d.2.2.2
structure G1 (C:Ctx):Prop extends vJ C where
 less:∀ x y:RF,x.Ok→y.Ok→x.valid→y.valid→aH C 49 [.agg x.cells,.agg y.cells] .nil (aF (.bool (decide (pM x y<0))))
 same:∀ x y:RF,x.Ok→y.Ok→x.valid→y.valid→aH C 53 [.agg x.cells,.agg y.cells] .nil (aF (.bool (pM x y==0)))
 sign:∀ x:RF,x.Ok→x.valid→aH C 54 [.agg x.cells] .nil (aF (.int .i64 (rD x)))
 plus:∀ x y:RF,x.Ok→y.Ok→aH C 46 [.agg x.cells,.agg y.cells] .nil (aF (frV (gI x.v y.v)))
def vsF (l:List RF) (o2 o4 k:Nat):PF:=((((PF.nil.set 0 (frs l)).set 2 (.ptr o2 3 0 0)).set 4 (.ptr o4 3 0 0)).set 5 (.int .i64 k))
theorem ahD {C:Ctx} (L:G1 C) (l:List RF) (hl:∀ x∈l,x.Ok) (V:l.length≤9223372036854775807) :
  TW.wp C (aV aqI.res (bY (frV (nG (l.map RF.v))))) (PF.args [frs l]) .nil:=by
 have Y:dB 0:=by unfold dB; omega
 have hi:(mkT 0 1).cells=(FV.rf (false,0,1)).cells:=by rw[FX]; rfl
 have u:=L.int 0 Y;rw[hi] at u;simp only[go_sem,TW,ahE,aqI];refine aR fun o2 β=>?_;have Z:aN (PH.nil.set o2 (.rows 3 [[.bool false,.aB,.aB]])) [(o2,.rows 3 [[.bool false,.aB,.aB]])] []:=aN.nil.new (H:=PH.nil) rfl _;generalize (PH.nil.set o2 _)=H1 at *
 simp only[go_sem,ahF];refine aA u rfl ?_;simp only[go_sem];refine aR fun o4 S=>?_;have h2:=Z.new S (.rows 3 [(FV.rf (false,0,1)).cells]);simp only[go_sem,ahG];refine wp_loop (α:=Nat × FV × PH) (fun t=>vsF l o2 o4 t.1) (fun t=>t.2.2) (fun t=>t.1≤l.length∧((l.map RF.v).take t.1).foldlM gI (false,0,1)=.ok t.2.1∧aN t.2.2 [(o2,.rows 3 [[.bool false,.aB,.aB]]),(o4,.rows 3 [(FV.rf t.2.1).cells])] []∧(FV.rf t.2.1).Ok) (fun t=>l.length-t.1)
  (0,(false,0,1),_) ⟨a7N _,rfl,h2,⟨aX _,aX _,?_,?_⟩⟩ ?_ b_ ?_
 ·show (aI 0).length≤_;rw[fO]; simp
 ·show (aI 1).length≤_;rw[vS]; simp
 ·unfold vsF;exact Lq
 rintro⟨k,d,U⟩ ⟨hk,K,y,p⟩;simp only at hk K y p ⊢;simp only[go_sem,ahC,ahH,vsF,a7G];by_cases hlt:k<l.length
 ·have i:(k:Int)<(l.length:Nat):=Om;have hr:(l.map RF.cells)[k]?=some (l[k]).cells:=by simp[hlt]
  have q:=L.plus (FV.rf d) l[k] p (hl _ (a7J hlt));rw[FV.aWG] at q;have c:=WF (f:=gI) (l.map RF.v) (false,0,1) (k:=k) (by simpa using hlt);rw[K] at c;simp only[Except.bind,a9B] at c;have N:=y.at 1 rfl;simp only[go_sem,i];refine bW .nil (fun _ _=>some ([],fun _=>aF (frV (gI d (l[k]).v)))) a_ ?_;simp only[go_sem,ahI,N,hr];refine bP rfl q rfl a_ ?_;cases J:gI d (l[k]).v with
  | error e =>
   have R:e≠0:=by
    revert J;obtain⟨n1,a1,b1⟩:=d;obtain⟨n2,a2,b2⟩:=(l[k]).v;simp only[gI,iH]
    repeat' split
    all_goals (intro h; first | (injection h with h; subst h; decide) | cases h)
   rw[J] at c;simp only[go_sem,frV];refine aR fun o6 w=>?_;simp only[go_sem];refine⟨a_,?_⟩;have A:=y.new w (.rows 3 [[.bool false,aJ [],aJ []]]);have M:=A.at 0 rfl;simp only[go_sem,xh,dN R,ahJ,M];rw[nG,jh _ _ c];refine hL ?_;simp only[go_sem]
  | ok r =>
   rw[J] at c;obtain⟨F,B,E⟩:=r;simp only[go_sem,frV];refine aR fun o6 w=>?_;simp only[go_sem];refine⟨a_,?_⟩;have A:=y.new w (.rows 3 [(FV.rf (F,B,E)).cells]);have X:=A.at 2 rfl;have O:=A.at 1 rfl;generalize hG:U.set o6 (.rows 3 [(FV.rf (F,B,E)).cells])=W at *
   have Q:U.set o6 (.rows 3 [[.bool F,aJ (aI B),aJ (aI E)]])=W:=hG;simp only[go_sem,xh,ahK,Q,X,O,ahL,wZz k];have h7:=(A.set 1 rfl (.rows 3 [(FV.rf (F,B,E)).cells])).sM 2;refine aD (k+1,(F,B,E),_) ⟨hlt,c,h7,tz J⟩ (by simp only; omega) ?_ b_;exact Lq
 ·have i:¬ (k:Int)<(l.length:Nat):=Om;have:k=l.length:=Om;subst this;rw[a8C (by simp)] at K;rw[nG,K];have M:=y.at 0 rfl;have N:=y.at 1 rfl;obtain⟨n,a,b⟩:=d;simp only[go_sem,i,U8,N,M];exact bA (.inr rfl) .nil (vs:=[.agg (FV.rf (n,a,b)).cells,.int .i64 0]) Sq a_ ⟨.refl _,rfl⟩
theorem dge {n:Nat} (k:Nat):decide ((n:Int)≥(k:Int))=decide (k≤n):=decide_eq_decide.2 Om
theorem dle {n:Nat} (k:Nat):decide ((n:Int)≤(k:Int))=decide (n≤k):=decide_eq_decide.2 Om
theorem rv {C:Ctx} (n:Nat):AM.wp C (aV VV.res (aF (.bool (eO n)))) (PF.args [.int .u8 n]) .nil:=by
 have e:=dge (n:=n) 97;have i:=dle (n:=n) 122;have l:=dge (n:=n) 65;have p:=dle (n:=n) 90;simp only[Int.cast_ofNat_Int] at e i l p;unfold eO;generalize decide (97≤n)=a at *
 generalize decide (n≤122)=b at *
 generalize decide (65≤n)=c at *
 generalize decide (n≤90)=d at *
 cases a<;>cases b<;>cases c<;>cases d
 all_goals
  simp only[go_sem,AM,rx,ry,VV,e,i,l,p];refine aQ (.inr rfl) rfl ?_;rfl
theorem Fj {C:Ctx} (n:Nat):ET.wp C (aV qx.res (aF (.bool (kK n)))) (PF.args [.int .u8 n]) .nil:=by
 have c:=dge (n:=n) 48;have d:=dle (n:=n) 57;simp only[Int.cast_ofNat_Int] at c d;unfold kK;generalize decide (48≤n)=a at *
 generalize decide (n≤57)=b at *
 cases a<;>cases b
 all_goals
  simp only[go_sem,ET,Fk,Fl,qx,c,d];refine aQ (.inr rfl) rfl ?_;rfl
theorem qy {C:Ctx} (c:∀ n:Nat,aH C 65 [.int .u8 n] .nil (aF (.bool (eO n)))) (d:∀ n:Nat,aH C 63 [.int .u8 n] .nil (aF (.bool (kK n)))) (n:Nat) :
  AK.wp C (aV VT.res (aF (.bool (fL n)))) (PF.args [.int .u8 n]) .nil:=by
 have g1:((n:Int)==45)=decide (n=45):=by by_cases h:n=45<;>simp[h]; omega
 have g2:((n:Int)==46)=decide (n=46):=by by_cases h:n=46<;>simp[h]; omega
 have k1:=c n;have k2:=d n;unfold fL;generalize decide (n=45)=a at *
 generalize decide (n=46)=b at *
 simp only[go_sem,AK,qz,q9,VT];refine aA k1 rfl ?_;cases eO n with
 | true =>simp only[go_sem];refine aQ (.inr rfl) rfl ?_;rfl
 | false =>
  simp only[go_sem];refine aA k2 rfl ?_;cases kK n<;>cases a<;>cases b
  all_goals
   simp only[go_sem,g1,g2];refine aQ (.inr rfl) rfl ?_;rfl
theorem re {C:Ctx} (y:∀ n:Nat,aH C 65 [.int .u8 n] .nil (aF (.bool (eO n)))) (A:∀ n:Nat,aH C 64 [.int .u8 n] .nil (aF (.bool (fL n)))) (s:List UInt8) :
  AL.wp C (aV VU.res (aF (.bool (isName s)))) (PF.args [.str s]) .nil:=by
 simp only[go_sem,AL,rg,rh,VU];cases s with
 | nil =>have x:decide (((0:Nat):Int)<1)=true:=rfl;simp only[go_sem,xQ,a9W,x];refine aQ (.inr rfl) rfl ?_;rfl
 | cons c t =>
  have B:(c::t)[0]?=some c:=rfl;have i:isName (c::t)=(decide ((c::t).length≤16)&&eO c.toNat&&(c::t).all fun c=>fL c.toNat):=rfl;have e:¬ (((c::t).length:Nat):Int)<1:=by simp only[a8Y]; omega
  generalize c::t=s at *
  by_cases w:s.length≤16
  ·have l:¬ (s.length:Int)>16:=Om;rw[decide_eq_true w,a7R] at i;have k1:=y c.toNat;simp only[go_sem,e,l,B,a8W];refine aA k1 rfl ?_;cases u:eO c.toNat with
   | false =>simp only[go_sem,a7Y,xQ];refine aQ (.inr rfl) rfl ?_;rw[bO,i,u,a7P]
   | true =>
    rw[u,a7R] at i;simp only[go_sem,a7L,ri];refine wp_loop (α:=Nat) (fun k=>((PF.nil.set 0 (.str s)).set 3 (.int .i64 k))) (fun _=>.nil) (fun k=>k≤s.length∧(s.take k).all (fun c=>fL c.toNat)=true) (fun k=>s.length-k) 0 ⟨a7N _,rfl⟩ Lq a_ ?_;rintro k ⟨E,p⟩;simp only[go_sem,rc,rj];by_cases hlt:k<s.length
    ·have d:(k:Int)<(s.length:Nat):=Om;have q:s[k]?=some s[k]:=a7U hlt;have k2:=A (s[k]).toNat;simp only[go_sem,d,rk,q,a8W];refine aA k2 rfl ?_;cases hi:fL (s[k]).toNat with
     | false =>simp only[go_sem,a7Y,rp];refine aQ (.inr rfl) rfl ?_;rw[bO,i,pC hlt hi]
     | true =>simp only[go_sem,a7L,rt,wZz k];exact aD (k+1) ⟨hlt,by simpa using pB hlt p hi⟩ Om Lq b_
    ·have d:¬ (k:Int)<(s.length:Nat):=Om;have:k=s.length:=Om;subst this;rw[a8I] at p;simp only[go_sem,d,ru];refine aQ (.inr rfl) rfl ?_;rw[bO,i,p]
  ·have l:(s.length:Int)>16:=Om;rw[decide_eq_false w,a7P,a7P] at i;simp only[go_sem,e,l,xQ];refine aQ (.inr rfl) rfl ?_;rw[bO,i]
def GY (k m:Int):Bool:=within k 1 6&&(within m 0 4&&decide (k+m≤8))
theorem Sk {C:Ctx} (k m:Int):nS.wp C (aV BT.res (aF (.bool (GY k m)))) (PF.args [.int .i64 k,.int .i64 m]) .nil:=by
 unfold GY within;by_cases c:1≤k
 ·by_cases d:k≤6
  ·by_cases e:0≤m
   ·by_cases i:m≤4
    ·have l:IntKind.i64.wrap (k+m)=k+m:=wrap_i64 Om Om;simp only[go_sem,nS,uL,uM,BT,ge_iff_le,c,d,e,i,l];refine aQ (.inr rfl) rfl ?_;simp[bO,c,d,e,i]
    ·simp only[go_sem,nS,uL,uM,BT,ge_iff_le,c,d,e,i];refine aQ (.inr rfl) rfl ?_;simp[bO,c,d,e,i]
   ·simp only[go_sem,nS,uL,uM,BT,ge_iff_le,c,d,e];refine aQ (.inr rfl) rfl ?_;simp[bO,c,d,e]
  ·simp only[go_sem,nS,uL,uM,BT,ge_iff_le,c,d];refine aQ (.inr rfl) rfl ?_;simp[bO,c,d]
 ·simp only[go_sem,nS,uL,uM,BT,ge_iff_le,c];refine aQ (.inr rfl) rfl ?_;simp[bO,c]
def Gc:Rg:=[iA 1 (.box true (Tm 0)),iT 2 false]
def Gd:Rg:=[iO 6 3 1,iK 7 52 6,iM 5 7,iE 8 5 0,iE 9 5 1,iA 3 (.alloc [zB,.aB,.aB]),iS 3 3 8,iM 4 9]
def CE:Rg:=[iM 10 4,iC 11 .eql 10 0,iM 12 11,gF 13 0 3 12 true,gL 14 13 12 true,iG 15 (.un .not (Tm 14)) 12 true,iP 16 12 15,iM 17 16,gF 18 1 3 17 true,gL 19 18 17 true,gN 20 19 17 true,gC 21 .leq 20 1 17 true,iP 22 17 21,iM 23 22,gF 24 2 3 23 true,gL 25 24 23 true,gN 26 25 23 true,gC 27 .leq 26 1 23 true,iP 28 23 27,iM 2 28]
def EZ:aC:=(sq Gc (sq Gd (sq CE .ret)))
def aCW:List Nat:=[1]
def se:aS:=⟨1,29,EZ,[.tmp 2]⟩
def sj:Rg:=[iT 4 false]
def sk:Rg:=[iM 6 0,iN 7 6,iM 8 1,iB 9 .neq 7 8]
def sm:Rg:=[iT 4 false]
def sn:Rg:=[iI 5 0]
def so:Rg:=[iM 10 5,iM 11 1,iB 12 .lss 10 11]
def sr:Rg:=[iM 15 0,iM 16 5,iX 17 3 15 16,iO 18 3 17,iK 19 74 18,iA 20 (.un .not (Tm 19))]
def su:Rg:=[iT 4 false]
def sv:Rg:=[iM 13 5,iC 14 .add 13 1,iM 5 14]
def sf:aC:=(.seq (sq so (.cond (Tm 12) .skip (.exit 0))) (.seq (.block 1 (sq sr (.cond (Tm 20) (sq su .ret) .skip))) (.region sv)))
def sw:Rg:=[iT 4 true]
def AO:aC:=(sq sj (.seq (sq sk (.cond (Tm 9) (sq sm .ret) .skip)) (.seq (sq sn (.block 0 (.loop sf))) (sq sw .ret))))
def aqW:List Nat:=[]
def VW:aS:=⟨2,21,AO,[.tmp 4]⟩
def ahT:Rg:=[iA 1 (.box true (Tm 0)),iT 2 false]
def ahU:Rg:=[iF 12 1 1,iL 13 12,iN 14 13,iM 3 14]
def ahV:Rg:=[iM 15 3,iC 16 .lss 15 1,iM 17 16,gM 18 3 17 false,gC 19 .gtr 18 4 17 false,iQ 20 17 19,iM 21 20,gF 22 1 1 21 false,gL 23 22 21 false,gM 24 3 21 false,gK2 25 75 23 24 21 false,iG 26 (.un .not (Tm 25)) 21 false,iQ 27 21 26,iM 28 27,gF 29 3 1 28 false,gL 30 29 28 false,gM 31 3 28 false,gK2 32 75 30 31 28 false,iG 33 (.un .not (Tm 32)) 28 false,iQ 34 28 33,iM 35 34,gF 36 2 1 35 false,gL 37 36 35 false,gN 38 37 35 false,gM 39 3 35 false,gB 40 .neq 38 39 35 false,iQ 41 35 40]
def yS:Rg:=[iT 2 false]
def ahW:Rg:=[iI 4 0]
def ahX:Rg:=[iM 42 4,iM 43 3,iB 44 .lss 42 43]
def ahY:Rg:=[iF 47 2 1,iL 48 47,iM 49 4,iX 50 1 48 49,iL 51 50,iM 52 3,iK2 53 75 51 52,iA 54 (.un .not (Tm 53)),iM 55 54,gF 56 2 1 55 false,gL 57 56 55 false,gM 58 4 55 false,iG 59 (.a6M 1 (Tm 57) (Tm 58)) 55 false,gL 60 59 55 false,gM 61 4 55 false,iG 62 (.a6M 3 (Tm 60) (Tm 61)) 55 false,gO 63 3 62 55 false,gK 64 54 63 55 false,gC 65 .neq 64 0 55 false,iQ 66 55 65]
def xk:Rg:=[iT 2 false]
def ahZ:Rg:=[iM 45 4,iC 46 .add 45 1,iM 4 46]
def ahR:aC:=(.seq (sq ahX (.cond (Tm 44) .skip (.exit 0))) (.seq (.block 1 (sq ahY (.cond (Tm 66) (sq xk .ret) .skip))) (.region ahZ)))
def Vd:Rg:=[iF 68 1 1,iL 69 68,iK 70 55 69,iM 67 70,iE 71 67 0,iE 72 67 1,iA 5 (.alloc [zB,.aB,.aB]),iS 3 5 71,iM 6 72]
def ef:Rd:=[(iM 73 6,false),(iC 74 .neq 73 0,false),(iM 75 74,false),(gO 76 3 5 75 false,true),(iG 77 (.call 47 [(Ci 1)]) 75 false,true),(gK2 78 53 76 77 75 false,true),(iG 79 (.un .not (Tm 78)) 75 false,false),(iQ 80 75 79,false)]
def el:Rg:=[iT 2 false]
def Ve:Rg:=[iM 81 3,iA 82 (.a6D 1 1 [zB] (Tm 81) (Tm 81)),iM 7 82]
def Vf:Rg:=[iI 8 0]
def Vg:Rg:=[iM 83 8,iM 84 3,iB 85 .lss 83 84]
def Vh:Rg:=[iI 9 0]
def Vi:Rg:=[iM 88 9,iM 89 3,iB 90 .lss 88 89]
def ep:Rg:=[iM 93 7,iM 94 9,iM 95 7,iM 96 9,iX 97 1 95 96,iL 98 97,iM 99 98,gF 100 3 1 99 false,gL 101 100 99 false,gM 102 9 99 false,iG 103 (.a6M 3 (Tm 101) (Tm 102)) 99 false,gO 104 3 103 99 false,gK 105 54 104 99 false,gC 106 .gtr 105 0 99 false,iQ 107 99 106,iX 108 1 93 94,iS 1 108 107]
def e7:Rg:=[iI 10 0]
def Vj:Rg:=[iM 109 10,iM 110 3,iB 111 .lss 109 110]
def fa:Rg:=[iM 114 7,iM 115 9,iM 116 7,iM 117 9,iX 118 1 116 117,iL 119 118,iM 120 119,gF 121 2 1 120 false,gL 122 121 120 false,gM 123 9 120 false,iG 124 (.a6M 1 (Tm 122) (Tm 123)) 120 false,gL 125 124 120 false,gM 126 10 120 false,iG 127 (.a6M 3 (Tm 125) (Tm 126)) 120 false,gO 128 3 127 120 false,gK 129 54 128 120 false,gC 130 .gtr 129 0 120 false,gM 131 130 120 false,gM 132 7 131 true,gM 133 10 131 true,iG 134 (.a6M 1 (Tm 132) (Tm 133)) 131 true,gL 135 134 131 true,iG 136 (.pick (Tm 131) (Tm 135) (.const zB)) 120 false,iQ 137 120 136,iX 138 1 114 115,iS 1 138 137]
def MR:Rg:=[iM 112 10,iC 113 .add 112 1,iM 10 113]
def MQ:aC:=(.seq (sq Vj (.cond (Tm 111) .skip (.exit 6))) (.seq (.block 7 (.region fa)) (.region MR)))
def fc:Rg:=[iM 91 9,iC 92 .add 91 1,iM 9 92]
def d7:aC:=(.seq (sq Vi (.cond (Tm 90) .skip (.exit 4))) (.seq (.block 5 (sq ep (sq e7 (.block 6 (.loop MQ))))) (.region fc)))
def Vk:Rg:=[iM 86 8,iC 87 .add 86 1,iM 8 87]
def d8:aC:=(.seq (sq Vg (.cond (Tm 85) .skip (.exit 2))) (.seq (.block 3 (sq Vh (.block 4 (.loop d7)))) (.region Vk)))
def Vl:Rg:=[iI 11 0]
def Vm:Rg:=[iM 139 11,iM 140 3,iB 141 .lss 139 140]
def fe:Rg:=[iM 144 7,iM 145 11,iX 146 1 144 145,iL 147 146,iA 148 (.un .not (Tm 147))]
def Vn:Rg:=[iT 2 false]
def Vo:Rg:=[iM 142 11,iC 143 .add 142 1,iM 11 143]
def d9:aC:=(.seq (sq Vm (.cond (Tm 141) .skip (.exit 8))) (.seq (.block 9 (sq fe (.cond (Tm 148) (sq Vn .ret) .skip))) (.region Vo)))
def ff:Rg:=[iT 2 true]
def UC:aC:=(sq ahT (sq ahU (.seq (sq ahV (.cond (Tm 41) (sq yS .ret) .skip)) (.seq (sq ahW (.block 0 (.loop ahR))) (.seq (sq Vd (dq ef (.cond (Tm 80) (sq el .ret) .skip))) (sq Ve (.seq (sq Vf (.block 2 (.loop d8))) (.seq (sq Vl (.block 8 (.loop d9))) (sq ff .ret)))))))))
def aUA:List Nat:=[1]
def aqU:aS:=⟨1,149,UC,[.tmp 2]⟩
def aiC:Rg:=[iT 4 false]
def aiD:Rg:=[iM 6 0,iM 7 1,iA 8 (.a6Q true (Tm 7) (Ci 1)),iK2 9 75 6 8,iA 10 (.un .not (Tm 9))]
def aiE:Rg:=[iT 4 false]
def aiF:Rg:=[iI 5 0]
def aiG:Rg:=[iM 11 5,iM 12 0,iN 13 12,iB 14 .lss 11 13]
def aiH:Rg:=[iM 17 0,iM 18 5,iX 19 3 17 18,iO 20 3 19,iK 21 54 20,iC 22 .eql 21 0]
def aiI:Rg:=[iT 4 false]
def aiJ:Rg:=[iM 15 5,iC 16 .add 15 1,iM 5 16]
def aiA:aC:=(.seq (sq aiG (.cond (Tm 14) .skip (.exit 0))) (.seq (.block 1 (sq aiH (.cond (Tm 22) (sq aiI .ret) .skip))) (.region aiJ)))
def aiK:Rg:=[iT 4 true]
def UD:aC:=(sq aiC (.seq (sq aiD (.cond (Tm 10) (sq aiE .ret) .skip)) (.seq (sq aiF (.block 0 (.loop aiA))) (sq aiK .ret))))
def aUB:List Nat:=[]
def aqV:aS:=⟨2,23,UD,[.tmp 4]⟩
def NL:Rg:=[iT 6 false]
def NM:Rg:=[iM 7 0,iM 8 1,iB 9 .geq 7 8,iM 10 9,gM 11 0 10 true,gM 12 2 10 true,gB 13 .leq 11 12 10 true,iP 14 10 13,iM 6 14]
def tU:aC:=(sq NL (sq NM .ret))
def aqX:List Nat:=[]
def GN:aS:=⟨3,15,tU,[.tmp 6]⟩
def F9:Rg:=[iT 12 false]
def Ga:Rg:=[iM 13 0,iC 14 .leq 13 4,iM 15 14,gM 16 1 15 true,gC 17 .leq 16 4 15 true,iP 18 15 17,iM 19 18,gM 20 2 19 true,gC 21 .leq 20 40 19 true,iP 22 19 21,iM 23 22,gM 24 3 23 true,gC 25 .leq 24 24 23 true,iP 26 23 25,iM 27 26,gM 28 4 27 true,gC 29 .leq 28 4 27 true,iP 30 27 29,iM 31 30,gM 32 5 31 true,gC 33 .leq 32 12 31 true,iP 34 31 33,iM 12 34]
def EY:aC:=(sq F9 (sq Ga .ret))
def aCV:List Nat:=[]
def sd:aS:=⟨6,35,EY,[.tmp 12]⟩
def YT:Rg:=[iA 7 (.box true (Tm 3)),iT 8 false]
def YU:Rg:=[iM 10 0,iM 11 1,iK2 12 61 10 11,iA 13 (.un .not (Tm 12)),iM 14 13,gM 15 2 14 false,gM 16 0 14 false,gM 17 0 14 false,gM 18 1 14 false,gB 19 .add 17 18 14 false,iG 20 (.call 76 [(Tm 15),(Tm 16),(Tm 19)]) 14 false,iG 21 (.un .not (Tm 20)) 14 false,iQ 22 14 21,iM 23 22,iG 24 (.idxA 5 1 (Tm 7) (Ci 0)) 23 false,gL 25 24 23 false,gC 26 .neq 25 0 23 false,iQ 27 23 26]
def vH:Rg:=[iT 8 false]
def YV:Rg:=[iI 9 1]
def YW:Rg:=[iM 28 9,iC 29 .lss 28 5]
def EX:Rg:=[iM 32 9,iA 33 (.idxA 5 1 (Tm 7) (Tm 32)),iL 34 33,iA 35 (.call 76 [(Tm 34),(Ci 0),(Ci 8)]),iA 36 (.un .not (Tm 35))]
def YX:Rg:=[iT 8 false]
def YY:Rg:=[iM 30 9,iC 31 .add 30 1,iM 9 31]
def YR:aC:=(.seq (sq YW (.cond (Tm 29) .skip (.exit 0))) (.seq (.block 1 (sq EX (.cond (Tm 36) (sq YX .ret) .skip))) (.region YY)))
def YZ:Rg:=[iT 8 true]
def wK:aC:=(sq YT (.seq (sq YU (.cond (Tm 27) (sq vH .ret) .skip)) (.seq (sq YV (.block 0 (.loop YR))) (sq YZ .ret))))
def Xv:List Nat:=[7]
def MS:aS:=⟨4,37,wK,[.tmp 8]⟩
def ahP:Rg:=[iA 6 (.box true (Tm 2)),iA 7 (.box true (Tm 3)),iT 8 false]
def ahQ:Rd:=[(iM 9 1,false),(iM 10 0,false),(iK2 11 66 9 10,true),(iM 12 11,false),(gO 13 3 6 12 true,false),(gK 14 74 13 12 true,true),(iP 15 12 14,false),(iM 16 15,false),(iG 17 (.call 47 [(Ci 1)]) 16 true,true),(gO 18 3 6 16 true,true),(gK2 19 49 17 18 16 true,true),(iG 20 (.un .not (Tm 19)) 16 true,false),(iP 21 16 20,false),(iM 22 21,false),(gO 23 3 7 22 true,false),(gK 24 74 23 22 true,true),(iP 25 22 24,false),(iM 8 25,false)]
def UA:aC:=(sq ahP (dq ahQ .ret))
def aTZ:List Nat:=[6,7]
def aqT:aS:=⟨4,26,UA,[.tmp 8]⟩
def Fv:Rg:=[iI 4 0]
def Fw:Rg:=[iI 5 0]
def Fy:Rg:=[iM 6 5,iM 7 0,iN 8 7,iB 9 .lss 6 8]
def UB:Rg:=[iM 12 0,iM 13 5,iX 14 1 12 13,iL 15 14,iM 16 1,iB 17 .eql 15 16]
def F0:Rg:=[iM 18 5,iM 4 18]
def F6:Rg:=[iM 10 5,iC 11 .add 10 1,iM 5 11]
def Ft:aC:=(.seq (sq Fy (.cond (Tm 9) .skip (.exit 0))) (.seq (.block 1 (sq UB (.cond (Tm 17) (sq F0 .ret) .skip))) (.region F6)))
def F7:Rg:=[iI 4 (-1)]
def EW:aC:=(sq Fv (.seq (sq Fw (.block 0 (.loop Ft))) (sq F7 .ret)))
def aCT:List Nat:=[]
def sb:aS:=⟨2,19,EW,[.tmp 4]⟩
def Ge:Rg:=[iA 1 (.box true (Tm 0)),iT 2 false]
def Gf:Rg:=[iF 22 0 1,iL 23 22,iA 24 (.call 76 [(Tm 23),(Ci 1),(Ci 4)]),iA 25 (.un .not (Tm 24)),iM 26 25,gF 27 1 1 26 false,gL 28 27 26 false,gN 29 28 26 false,gF 30 2 1 26 false,gL 31 30 26 false,gN 32 31 26 false,gF 33 3 1 26 false,gL 34 33 26 false,gN 35 34 26 false,gF 36 4 1 26 false,gL 37 36 26 false,gN 38 37 26 false,gF 39 5 1 26 false,gL 40 39 26 false,gN 41 40 26 false,gF 42 6 1 26 false,gL 43 42 26 false,gN 44 43 26 false,iG 45 (.call 73 [(Tm 29),(Tm 32),(Tm 35),(Tm 38),(Tm 41),(Tm 44)]) 26 false,iG 46 (.un .not (Tm 45)) 26 false,iQ 47 26 46,iM 48 47,gF 49 3 1 48 false,gL 50 49 48 false,gN 51 50 48 false,gC 52 .eql 51 0 48 false,iQ 53 48 52]
def CF:Rg:=[iT 2 false]
def Gg:Rg:=[iZ 3,iZ 4,iZ 5,iZ 6,iZ 7]
def Gh:Rg:=[iT 8 true]
def Gi:Rg:=[iI 9 0]
def Gj:Rg:=[iM 54 9,iF 55 1 1,iL 56 55,iN 57 56,iB 58 .lss 54 57,iM 59 58,gM 60 8 59 true,iP 61 59 60]
def Gk:Rg:=[iM 65 3,iF 66 1 1,iL 67 66,iM 68 9,iX 69 4 67 68,iF 70 0 69,iL 71 70,iK2 72 70 65 71,iM 64 72,iE 73 64 0,iE 74 64 1,iM 3 73,iM 8 74]
def UE:Rg:=[iM 75 8,iM 76 75,gF 77 1 1 76 true,gL 78 77 76 true,gM 79 9 76 true,iG 80 (.a6M 4 (Tm 78) (Tm 79)) 76 true,gO 81 4 80 76 true,gK 82 68 81 76 true,iP 83 76 82,iM 8 83]
def UF:Rg:=[iM 62 9,iC 63 .add 62 1,iM 9 63]
def MT:aC:=(.seq (sq Gj (.cond (Tm 61) .skip (.exit 0))) (.seq (.block 1 (sq Gk (.region UE))) (.region UF)))
def sy:Rg:=[iI 10 0]
def s7:Rg:=[iM 84 10,iF 85 2 1,iL 86 85,iN 87 86,iB 88 .lss 84 87,iM 89 88,gM 90 8 89 true,iP 91 89 90]
def s8:Rg:=[iF 94 2 1,iL 95 94,iM 96 10,iX 97 4 95 96,iO 98 4 97,iA 11 (.alloc [(.str []),zI,zI,zI]),iS 4 11 98]
def s9:Rg:=[iM 100 4,iF 101 0 11,iL 102 101,iK2 103 70 100 102,iM 99 103,iE 104 99 0,iE 105 99 1,iM 4 104,iM 8 105]
def MW:Rg:=[iM 106 8,iM 107 106,gF 108 1 11 107 true,gL 109 108 107 true,iG 110 (.call 76 [(Tm 109),(Ci 1),(Ci 16)]) 107 true,iP 111 107 110,iM 112 111,gF 113 2 11 112 true,gL 114 113 112 true,iG 115 (.call 76 [(Tm 114),(Ci 1),(Ci 64)]) 112 true,iP 116 112 115,iM 117 116,gF 118 3 11 117 true,gL 119 118 117 true,gF 120 1 1 117 true,gL 121 120 117 true,gN 122 121 117 true,gC 123 .sub 122 1 117 true,iG 124 (.call 76 [(Tm 119),(Ci 0),(Tm 123)]) 117 true,iP 125 117 124,iM 8 125]
def tQ:Rg:=[iM 92 10,iC 93 .add 92 1,iM 10 93]
def MU:aC:=(.seq (sq s7 (.cond (Tm 91) .skip (.exit 2))) (.seq (.block 3 (sq s8 (sq s9 (.region MW)))) (.region tQ)))
def ta:Rg:=[iF 126 3 1,iL 127 126,iA 128 (.a6M 7 (Tm 127) (Ci 0)),iO 129 7 128,iA 12 (.alloc [(.str []),zI,zI,zI,zB,.aB,.aB]),iS 7 12 129]
def MX:Rg:=[iM 130 8,iM 131 130,gF 132 0 12 131 true,gL 133 132 131 true,iG 134 (.bin .eql (Tm 133) (.const (.str []))) 131 true,iP 135 131 134,iM 136 135,gF 137 1 12 136 true,gL 138 137 136 true,gC 139 .eql 138 0 136 true,iP 140 136 139,iM 141 140,gF 142 2 12 141 true,gL 143 142 141 true,gC 144 .eql 143 (-1) 141 true,iP 145 141 144,iM 146 145,gF 147 3 12 146 true,gL 148 147 146 true,gC 149 .eql 148 0 146 true,iP 150 146 149,iM 151 150,gF 152 4 12 151 true,gO 153 3 152 151 true,gK 154 56 153 151 true,iP 155 151 154,iM 156 155,gF 157 4 12 156 true,gO 158 3 157 156 true,gK 159 54 158 156 true,gC 160 .eql 159 0 156 true,iP 161 156 160,iM 8 161]
def MY:Rg:=[iI 13 1]
def tc:Rg:=[iM 162 13,iF 163 3 1,iL 164 163,iN 165 164,iB 166 .lss 162 165,iM 167 166,gM 168 8 167 true,iP 169 167 168]
def td:Rg:=[iF 172 3 1,iL 173 172,iM 174 13,iX 175 7 173 174,iO 176 7 175,iA 14 (.alloc [(.str []),zI,zI,zI,zB,.aB,.aB]),iS 7 14 176]
def te:Rg:=[iM 178 5,iF 179 0 14,iL 180 179,iK2 181 70 178 180,iM 177 181,iE 182 177 0,iE 183 177 1,iM 5 182,iM 8 183]
def MZ:Rd:=[(iM 184 8,false),(iM 185 184,false),(gF 186 1 14 185 true,false),(gL 187 186 185 true,false),(iG 188 (.call 76 [(Tm 187),(Ci 1),(Ci 4)]) 185 true,true),(iP 189 185 188,false),(iM 190 189,false),(gF 191 2 14 190 true,false),(gL 192 191 190 true,false),(gM 193 13 190 true,false),(gC 194 .sub 193 1 190 true,false),(iG 195 (.call 76 [(Tm 192),(Ci 0),(Tm 194)]) 190 true,true),(iP 196 190 195,false),(iM 197 196,false),(gF 198 3 1 197 true,false),(gL 199 198 197 true,false),(gF 200 2 14 197 true,false),(gL 201 200 197 true,false),(iG 202 (.a6M 7 (Tm 199) (Tm 201)) 197 true,false),(gF 203 1 202 197 true,false),(gL 204 203 197 true,false),(gF 205 1 14 197 true,false),(gL 206 205 197 true,false),(gC 207 .sub 206 1 197 true,false),(gB 208 .eql 204 207 197 true,false),(iP 209 197 208,false),(iM 210 209,false),(gF 211 3 14 210 true,false),(gL 212 211 210 true,false),(iG 213 (.call 76 [(Tm 212),(Ci 1),(Ci 64)]) 210 true,true),(iP 214 210 213,false),(iM 215 214,false),(gF 216 4 14 215 true,false),(gO 217 3 216 215 true,false),(gK 218 74 217 215 true,true),(iP 219 215 218,false),(iM 8 219,false)]
def nY:Rg:=[iM 170 13,iC 171 .add 170 1,iM 13 171]
def xS:aC:=(.seq (sq tc (.cond (Tm 169) .skip (.exit 4))) (.seq (.block 5 (sq td (sq te (.draw MZ)))) (.region nY)))
def NA:Rg:=[iI 15 0]
def tf:Rg:=[iM 220 15,iF 221 4 1,iL 222 221,iN 223 222,iB 224 .lss 220 223,iM 225 224,gM 226 8 225 true,iP 227 225 226]
def tg:Rg:=[iF 230 4 1,iL 231 230,iM 232 15,iX 233 3 231 232,iO 234 3 233,iA 16 (.alloc [(.str []),zI,zI]),iS 3 16 234]
def th:Rg:=[iM 236 5,iF 237 0 16,iL 238 237,iK2 239 70 236 238,iM 235 239,iE 240 235 0,iE 241 235 1,iM 5 240,iM 8 241]
def NB:Rg:=[iM 242 8,iM 243 242,gF 244 1 16 243 true,gL 245 244 243 true,gF 246 2 1 243 true,gL 247 246 243 true,gN 248 247 243 true,gC 249 .sub 248 1 243 true,iG 250 (.call 76 [(Tm 245),(Ci 0),(Tm 249)]) 243 true,iP 251 243 250,iM 252 251,gF 253 2 16 252 true,gL 254 253 252 true,gF 255 3 1 252 true,gL 256 255 252 true,gN 257 256 252 true,gC 258 .sub 257 1 252 true,iG 259 (.call 76 [(Tm 254),(Ci 0),(Tm 258)]) 252 true,iP 260 252 259,iM 261 260,gF 262 3 1 261 true,gL 263 262 261 true,gF 264 2 16 261 true,gL 265 264 261 true,iG 266 (.a6M 7 (Tm 263) (Tm 265)) 261 true,gF 267 1 266 261 true,gL 268 267 261 true,gC 269 .eql 268 4 261 true,iP 270 261 269,iM 8 270]
def tR:Rg:=[iM 228 15,iC 229 .add 228 1,iM 15 229]
def xT:aC:=(.seq (sq tf (.cond (Tm 227) .skip (.exit 6))) (.seq (.block 7 (sq tg (sq th (.region NB)))) (.region tR)))
def NC:Rg:=[iI 17 0]
def ti:Rg:=[iM 271 17,iF 272 5 1,iL 273 272,iN 274 273,iB 275 .lss 271 274,iM 276 275,gM 277 8 276 true,iP 278 276 277]
def tj:Rg:=[iF 281 5 1,iL 282 281,iM 283 17,iX 284 17 282 283,iO 285 17 284,iA 18 (.alloc [(.str []),zI,zI,zI,zI,zI,zI,zI,zI,.aB,.aB,zB,.aB,.aB,zB,.aB,.aB]),iS 17 18 285]
def tk:Rg:=[iM 287 6,iF 288 0 18,iL 289 288,iK2 290 70 287 289,iM 286 290,iE 291 286 0,iE 292 286 1,iM 6 291,iM 8 292]
def ND:Rg:=[iM 293 8,iM 294 293,gF 295 1 18 294 true,gL 296 295 294 true,gF 297 2 18 294 true,gL 298 297 294 true,gF 299 3 18 294 true,gL 300 299 294 true,gF 301 4 18 294 true,gO 302 5 301 294 true,iG 303 (.call 72 [(Tm 296),(Tm 298),(Tm 300),(Tm 302)]) 294 true,iP 304 294 303,iM 305 304,gF 306 2 18 305 true,gL 307 306 305 true,gF 308 10 18 305 true,gL 309 308 305 true,gF 310 11 18 305 true,gO 311 3 310 305 true,gF 312 14 18 305 true,gO 313 3 312 305 true,iG 314 (.call 69 [(Tm 307),(Tm 309),(Tm 311),(Tm 313)]) 305 true,iP 315 305 314,iM 316 315,gF 317 9 18 316 true,gL 318 317 316 true,gN 319 318 316 true,gC 320 .gtr 319 0 316 true,iP 321 316 320,iM 8 321]
def tT:Rg:=[iI 19 0]
def tp:Rg:=[iM 322 19,iF 323 9 18,iL 324 323,iN 325 324,iB 326 .lss 322 325,iM 327 326,gM 328 8 327 true,iP 329 327 328]
def tq:Rd:=[(iF 332 9 18,false),(iL 333 332,false),(iM 334 19,false),(iX 335 1 333 334,false),(iL 336 335,false),(iF 337 2 1,false),(iL 338 337,false),(iN 339 338,false),(iC 340 .sub 339 1,false),(iA 341 (.call 76 [(Tm 336),(Ci 0),(Tm 340)]),true),(iM 8 341,false)]
def tr:Rg:=[iI 20 0]
def tt:Rg:=[iM 342 20,iM 343 19,iB 344 .lss 342 343]
def NE:Rd:=[(iM 347 8,false),(iM 348 347,false),(gF 349 9 18 348 true,false),(gL 350 349 348 true,false),(gM 351 20 348 true,false),(iG 352 (.a6M 1 (Tm 350) (Tm 351)) 348 true,false),(gL 353 352 348 true,false),(gF 354 9 18 348 true,false),(gL 355 354 348 true,false),(gM 356 19 348 true,false),(iG 357 (.a6M 1 (Tm 355) (Tm 356)) 348 true,false),(gL 358 357 348 true,false),(gB 359 .neq 353 358 348 true,false),(iP 360 348 359,false),(iM 8 360,false)]
def NF:Rg:=[iM 345 20,iC 346 .add 345 1,iM 20 346]
def MV:aC:=(.seq (sq tt (.cond (Tm 344) .skip (.exit 12))) (.seq (.block 13 (.draw NE)) (.region NF)))
def tu:Rg:=[iM 330 19,iC 331 .add 330 1,iM 19 331]
def xU:aC:=(.seq (sq tp (.cond (Tm 329) .skip (.exit 10))) (.seq (.block 11 (dq tq (sq tr (.block 12 (.loop MV))))) (.region tu)))
def NG:Rg:=[iM 279 17,iC 280 .add 279 1,iM 17 280]
def xV:aC:=(.seq (sq ti (.cond (Tm 278) .skip (.exit 8))) (.seq (.block 9 (sq tj (sq tk (sq ND (sq tT (.block 10 (.loop xU))))))) (.region NG)))
def NH:Rg:=[iI 21 0]
def tv:Rg:=[iM 361 21,iF 362 6 1,iL 363 362,iN 364 363,iB 365 .lss 361 364,iM 366 365,gM 367 8 366 true,iP 368 366 367]
def tw:Rg:=[iM 372 7,iF 373 6 1,iL 374 373,iM 375 21,iX 376 2 374 375,iF 377 0 376,iL 378 377,iK2 379 70 372 378,iM 371 379,iE 380 371 0,iE 381 371 1,iM 7 380,iM 8 381]
def NI:Rd:=[(iM 382 8,false),(iM 383 382,false),(gF 384 6 1 383 true,false),(gL 385 384 383 true,false),(gM 386 21 383 true,false),(iG 387 (.a6M 2 (Tm 385) (Tm 386)) 383 true,false),(gF 388 1 387 383 true,false),(gL 389 388 383 true,false),(gF 390 5 1 383 true,false),(gL 391 390 383 true,false),(gN 392 391 383 true,false),(gC 393 .sub 392 1 383 true,false),(iG 394 (.call 76 [(Tm 389),(Ci 0),(Tm 393)]) 383 true,true),(iP 395 383 394,false),(iM 8 395,false)]
def NJ:Rg:=[iM 369 21,iC 370 .add 369 1,iM 21 370]
def xW:aC:=(.seq (sq tv (.cond (Tm 368) .skip (.exit 14))) (.seq (.block 15 (sq tw (.draw NI))) (.region NJ)))
def NK:Rg:=[iM 396 8,iM 2 396]
def FA:aC:=(sq Ge (.seq (sq Gf (.cond (Tm 53) (sq CF .ret) .skip)) (sq Gg (sq Gh (.seq (sq Gi (.block 0 (.loop MT))) (.seq (sq sy (.block 2 (.loop MU))) (sq ta (sq MX (.seq (sq MY (.block 4 (.loop xS))) (.seq (sq NA (.block 6 (.loop xT))) (.seq (sq NC (.block 8 (.loop xV))) (.seq (sq NH (.block 14 (.loop xW))) (sq NK .ret)))))))))))))
def aDA:List Nat:=[1]
def sx:aS:=⟨1,397,FA,[.tmp 2]⟩
def Fq:Rg:=[iZ 4,iT 5 false]
def Fr:Rg:=[iM 6 0,iM 7 1,iA 8 (.a6B true 1 1 [(.str [])] [(0,(Tm 7))]),iA 9 (.append 1 16 (Tm 6) (Tm 8)),iM 10 1,iK 11 62 10,iM 12 11,gM 13 0 12 true,gM 14 1 12 true,gK2 15 71 13 14 12 true,gC 16 .lss 15 0 12 true,iP 17 12 16,iM 4 9,iM 5 17]
def EV:aC:=(sq Fq (sq Fr .ret))
def aCS:List Nat:=[8]
def sa:aS:=⟨2,18,EV,[.tmp 4,.tmp 5]⟩
theorem tx {C:Ctx} (n lo hi:Int):tU.wp C (aV GN.res (aF (.bool (within n lo hi)))) (PF.args [.int .i64 n,.int .i64 lo,.int .i64 hi]) .nil:=by
 unfold within;by_cases h:lo≤n
 ·simp only[go_sem,tU,NL,NM,GN,ge_iff_le,h];refine aQ (.inr rfl) rfl ?_;simp[bO,h]
 ·simp only[go_sem,tU,NL,NM,GN,ge_iff_le,h];refine aQ (.inr rfl) rfl ?_;simp[bO,h]
def pQ (a b c d e f:Nat):Bool:=decide (a≤4)&&(decide (b≤4)&&(decide (c≤40)&&(decide (d≤24)&&(decide (e≤4)&&decide (f≤12)))))
theorem F8 {C:Ctx} (a b c d e f:Nat):EY.wp C (aV sd.res (aF (.bool (pQ a b c d e f)))) (PF.args [.int .i64 a,.int .i64 b,.int .i64 c,.int .i64 d,.int .i64 e,.int .i64 f]) .nil:=by
 have g:∀ x k:Nat,decide ((x:Int)≤(k:Int))=decide (x≤k):=fun x k=>decide_eq_decide.2 Om;have i:=g a 4;have l:=g b 4;have p:=g c 40;have q:=g d 24;have h5:=g e 4;have u:=g f 12;simp only[Int.cast_ofNat_Int] at i l p q h5 u;unfold pQ;simp only[go_sem,EY,F9,Ga,sd,i];cases decide (a≤4) with
 | false =>simp only[go_sem];refine aQ (.inr rfl) rfl ?_;rfl
 | true =>
  simp only[go_sem,l];cases decide (b≤4) with
  | false =>simp only[go_sem];refine aQ (.inr rfl) rfl ?_;rfl
  | true =>
   simp only[go_sem,p];cases decide (c≤40) with
   | false =>simp only[go_sem];refine aQ (.inr rfl) rfl ?_;rfl
   | true =>
    simp only[go_sem,q];cases decide (d≤24) with
    | false =>simp only[go_sem];refine aQ (.inr rfl) rfl ?_;rfl
    | true =>
     simp only[go_sem,h5];cases decide (e≤4) with
     | false =>simp only[go_sem];refine aQ (.inr rfl) rfl ?_;rfl
     | true =>simp only[go_sem,u];refine aQ (.inr rfl) rfl ?_;rfl
structure NY (C:Ctx):Prop extends G1 C where
 sum:∀ l:List RF,(∀ x∈l,x.Ok)→l.length≤9223372036854775807→aH C 55 [frs l] .nil (aF (frV (nG (l.map RF.v))))
 inn:∀ n lo hi:Int,aH C 76 [.int .i64 n,.int .i64 lo,.int .i64 hi] .nil (aF (.bool (within n lo hi)))
 code:∀ k m:Int,aH C 61 [.int .i64 k,.int .i64 m] .nil (aF (.bool (GY k m)))
def KD (k m q s0 s1 s2 s3 s4:Int):Bool:=GY k m&&(within q k (k+m)&&(decide (s0=0)&&(within s1 0 8&&(within s2 0 8&&(within s3 0 8&&within s4 0 8)))))
theorem aQX (p:bS):KC p=KD p.k p.m p.a6T p.s0 p.s1 p.s2 p.s3 p.s4:=by
 unfold KC KD GY;have:within p.s0 0 8=true∨p.s0≠0:=by
  by_cases h:p.s0=0
  ·rw[h]; exact .inl rfl
  ·exact .inr h
 simp only[List.all_cons,List.all_nil,a9N];rcases this with h | h
 ·rw[h];simp only[a7R,baI]
 ·simp only[h,decide_false,a7P,a8O]
def spR (s1 s2 s3 s4:Int) (k:Nat):Int:=match k with
 | 1=>s1
 | 2=>s2
 | 3=>s3
 | _=>s4
theorem YS {C:Ctx} (L:NY C) (k m q s0 s1 s2 s3 s4:Int) :
  wK.wp C (aV MS.res (aF (.bool (KD k m q s0 s1 s2 s3 s4)))) (PF.args [.int .i64 k,.int .i64 m,.int .i64 q,.agg [.int .i64 s0,.int .i64 s1,.int .i64 s2,.int .i64 s3,.int .i64 s4]]) .nil:=by
 obtain⟨X,p⟩:∃ X,KD k m q s0 s1 s2 s3 s4=X:=⟨_,rfl⟩;rw[p];unfold KD at p;simp only[go_sem,wK,YT,YU,MS];refine aA (L.code k m) rfl ?_;cases E:GY k m with
 | false =>rw[E,a7P] at p;simp only[go_sem,a7Y,vH];refine aQ (.inr rfl) rfl ?_;rw[bO,p]
 | true =>
  rw[E,a7R] at p;have R:1≤k∧k≤6∧0≤m∧m≤4:=by simp only[GY,a7X,within_iff] at E;omega
  have Q:IntKind.i64.wrap (k+m)=k+m:=wrap_i64 Om Om;simp only[go_sem,a7L,Q];refine aA (L.inn q k (k+m)) rfl ?_;cases J:within q k (k+m) with
  | false =>rw[J,a7P] at p;simp only[go_sem,a7Y,vH];refine aQ (.inr rfl) rfl ?_;rw[bO,p]
  | true =>
   rw[J,a7R] at p;have B:(0:Int)<((5:Nat):Int):=by decide
   by_cases F:s0=0
   ·rw[decide_eq_true F,a7R] at p;simp only[go_sem,a7L,B,cC F,YV];refine wp_loop (α:=Nat) (fun j=>((PF.nil.set 7 (.bH [.int .i64 s0,.int .i64 s1,.int .i64 s2,.int .i64 s3,.int .i64 s4])).set 9 (.int .i64 j))) (fun _=>.nil) (fun j=>1≤j∧j≤5∧∀ i,1≤i→i<j→within (spR s1 s2 s3 s4 i) 0 8=true) (fun j=>5-j) 1 ⟨by decide,by decide,fun i E J=>by omega⟩ Lq a_ ?_;rintro j ⟨M,N,d⟩;simp only[go_sem,YR,YW];by_cases hlt:j<5
    ·have l:(j:Int)<5:=Om;have x:((j:Nat):Int)<((5:Nat):Int):=Om;have w:=L.inn (spR s1 s2 s3 s4 j) 0 8;obtain⟨c,u⟩:∃ c,within (spR s1 s2 s3 s4 j) 0 8=c:=⟨_,rfl⟩;rw[u] at w;have y:c=true→∀ i,1≤i→i<j+1→within (spR s1 s2 s3 s4 i) 0 8=true:=fun A i a b=>by
      by_cases e:i=j
      ·rw[e,u,A]
      ·exact d i a Om
     have H:c=false→X=false:=by intro h;rw[h] at u;have A:j=1∨j=2∨j=3∨j=4:=Om;rw[← p];rcases A with rfl | rfl | rfl | rfl<;>(simp only[spR] at u; rw[u]; simp)
     have A:j=1∨j=2∨j=3∨j=4:=Om;cases c with
     | false =>
      have K:=H rfl;rcases A with rfl | rfl | rfl | rfl
      all_goals
       simp only[spR] at w;simp only[go_sem,l,EX,x];refine aA w rfl ?_;simp only[go_sem,a7Y,YX];refine aQ (.inr rfl) rfl ?_;rw[bO,K]
     | true =>
      have O:=y rfl;rcases A with rfl | rfl | rfl | rfl
      all_goals
       simp only[spR] at w;simp only[go_sem,l,EX,x];refine aA w rfl ?_;simp only[go_sem,a7L,YY];refine aD (_+1) ⟨by omega,hlt,O⟩ Om Lq b_
    ·have l:¬ (j:Int)<5:=Om;have:j=5:=Om;subst this;simp only[go_sem,l,YZ];refine aQ (.inr rfl) rfl ?_;have a1:=d 1 (by decide) (by decide);have a2:=d 2 (by decide) (by decide);have a3:=d 3 (by decide) (by decide);have a4:=d 4 (by decide) (by decide);simp only[spR] at a1 a2 a3 a4;rw[bO,← p,a1,a2,a3,a4];rfl
   ·rw[decide_eq_false F,a7P] at p;simp only[go_sem,a7L,B,dN F,vH];refine aQ (.inr rfl) rfl ?_;rw[bO,p]
theorem qD {x:RF} (h:cS x=true):x.valid:=by
 unfold cS oO at h;unfold RF.valid;cases c:cU (val x.num) (val x.den) with
 | true=>rfl
 | false =>rw[c] at h;simp at h
theorem Gb {C:Ctx} (L:NY C) (x:RF) (u:x.Ok):EZ.wp C (aV se.res (aF (.bool (cS x)))) (PF.args [.agg x.cells]) .nil:=by
 have q:=L.red x u;unfold cS;simp only[go_sem,EZ,Gc,Gd,se];refine aA q rfl ?_;cases l:oO x with
 | error e =>have i:=Ru l;simp only[go_sem,frV];refine aR fun o p=>?_;simp only[go_sem,CE,bF i];refine aQ (.inr rfl) rfl ?_;rfl
 | ok r =>
  obtain⟨n,a,b⟩:=r;have w:=lW a 1;have y:=lW b 1;have c:decide (((nl a:Nat):Int)≤1)=decide (cM a≤32):=decide_eq_decide.2 Om;have d:decide (((nl b:Nat):Int)≤1)=decide (cM b≤32):=decide_eq_decide.2 Om;simp only[go_sem,frV];refine aR fun o p=>?_;cases n with
  | true =>simp only[go_sem,CE,a7L];refine aQ (.inr rfl) rfl ?_;rfl
  | false =>
   simp only[go_sem,CE,a7Y,a7G,bB,c];cases decide (cM a≤32) with
   | false =>simp only[go_sem];refine aQ (.inr rfl) rfl ?_;rfl
   | true =>simp only[go_sem,a7G,bB,d];refine aQ (.inr rfl) rfl ?_;rfl
structure UH (C:Ctx):Prop extends NY C where
 small:∀ x:RF,x.Ok→aH C 74 [.agg x.cells] .nil (aF (.bool (cS x)))
 nums:∀ k m q s0 s1 s2 s3 s4:Int,aH C 72 [.int .i64 k,.int .i64 m,.int .i64 q,.agg [.int .i64 s0,.int .i64 s1,.int .i64 s2,.int .i64 s3,.int .i64 s4]] .nil (aF (.bool (KD k m q s0 s1 s2 s3 s4)))
 sizes:∀ a b c d e f:Nat,aH C 73 [.int .i64 a,.int .i64 b,.int .i64 c,.int .i64 d,.int .i64 e,.int .i64 f] .nil (aF (.bool (pQ a b c d e f)))
theorem ji {l:List RF} {k:Nat} (h:k<l.length):(l.map RF.cells)[k]?=some (l[k]).cells:=by simp[h]
theorem sg {C:Ctx} (L:UH C) (l:List RF) (i:jS l) (n:Int):AO.wp C (aV VW.res (aF (.bool (decide ((l.length:Int)=n)&&l.all cS)))) (PF.args [frs l,.int .i64 n]) .nil:=by
 have p:=i.fits;unfold Fits at p;simp only[go_sem,AO,sj,sk,VW,a7G];by_cases h:(l.length:Int)=n
 ·rw[decide_eq_true h,a7R];subst h;simp only[go_sem,cC (show (l.length:Int)=(l.length:Nat) from rfl),sn];refine wp_loop (α:=Nat) (fun k=>(((PF.nil.set 0 (frs l)).set 1 (.int .i64 (l.length:Nat))).set 5 (.int .i64 k))) (fun _=>.nil) (fun k=>k≤l.length∧(l.take k).all cS=true) (fun k=>l.length-k) 0 ⟨a7N _,rfl⟩ Lq a_ ?_;rintro k ⟨u,d⟩;simp only[go_sem,sf,so];by_cases hlt:k<l.length
  ·have c:(k:Int)<(l.length:Nat):=Om;have q:=L.small l[k] (i.all _ (a7J hlt));simp only[go_sem,c,sr,ji hlt];refine aA q rfl ?_;cases hi:cS l[k] with
   | false =>simp only[go_sem,a7Y,su];refine aQ (.inr rfl) rfl ?_;rw[bO,pC hlt hi]
   | true =>have e:=a7W.1 (pB hlt d hi);simp only[go_sem,a7L,sv,wZz k];exact aD (k+1) ⟨hlt,e⟩ Om Lq b_
  ·have c:¬ (k:Int)<(l.length:Nat):=Om;have:k=l.length:=Om;subst this;rw[a8I] at d;simp only[go_sem,c,sw];refine aQ (.inr rfl) rfl ?_;rw[bO,d]
 ·rw[decide_eq_false h,a7P];simp only[go_sem,dN h,sm];refine aQ (.inr rfl) rfl ?_;rfl
structure UI (C:Ctx):Prop extends UH C where
 smalls:∀ l:List RF,jS l→∀ n:Int,aH C 75 [frs l,.int .i64 n] .nil (aF (.bool (decide ((l.length:Int)=n)&&l.all cS)))
theorem LG (x:RF):(rD x==0)=!bG x:=by
 unfold rD bG;by_cases h:val x.num=0
 ·simp[h]
 ·cases x.neg<;>simp[h]
def de (l:List RF) (m:Int):Bool:=decide ((l.length:Int)=max m 1)&&l.all cS&&l.all bG
theorem aiB {C:Ctx} (L:UI C) (l:List RF) (q:jS l) (m:Int):UD.wp C (aV aqV.res (aF (.bool (de l m)))) (PF.args [frs l,.int .i64 m]) .nil:=by
 have w:=q.fits;unfold Fits at w;have y:=L.smalls l q (max m 1);unfold de;simp only[go_sem,UD,aiC,aiD,aqV,max_eq];refine aA y rfl ?_;cases h:(decide ((l.length:Int)=max m 1)&&l.all cS) with
 | false =>simp only[go_sem,a7Y,aiE];refine aQ (.inr rfl) rfl ?_;rfl
 | true =>
  rw[a7X] at h;have d:=a7W.1 h.2;simp only[go_sem,a7L,aiF];refine wp_loop (α:=Nat) (fun k=>((PF.nil.set 0 (frs l)).set 5 (.int .i64 k))) (fun _=>.nil) (fun k=>k≤l.length∧(l.take k).all bG=true) (fun k=>l.length-k) 0 ⟨a7N _,rfl⟩ Lq a_ ?_;rintro k ⟨A,i⟩;simp only[go_sem,aiA,aiG,a7G];by_cases hlt:k<l.length
  ·have c:(k:Int)<(l.length:Nat):=Om;have u:=a7J hlt;have x:=L.sign l[k] (q.all _ u) (qD (d _ u));have e:=LG l[k];simp only[go_sem,c,aiH,ji hlt];refine aA x rfl ?_;cases hi:bG l[k] with
   | false =>rw[hi] at e;simp only[go_sem,e,a7Y,aiI];refine aQ (.inr rfl) rfl ?_;rw[bO,pC hlt hi]
   | true =>rw[hi] at e;have p:=a7W.1 (pB hlt i hi);simp only[go_sem,e,a7L,aiJ,wZz k];exact aD (k+1) ⟨hlt,p⟩ Om Lq b_
  ·have c:¬ (k:Int)<(l.length:Nat):=Om;have:k=l.length:=Om;subst this;rw[a8I] at i;simp only[go_sem,c,aiK];refine aQ (.inr rfl) rfl ?_;rw[bO,i]
structure UJ (C:Ctx):Prop extends UI C where
 reps:∀ l:List RF,jS l→∀ m:Int,aH C 66 [frs l,.int .i64 m] .nil (aF (.bool (de l m)))
def frD:List PV→RF
 | [.bool n,a,b]=>⟨n,jE a,jE b⟩
 | _=>⟨false,[],[]⟩
theorem zg (x:RF):frD x.cells=x:=by
 show (⟨x.neg,jE (aJ x.num),jE (aJ x.den)⟩:RF)=x;rw[eG,eG]
def zdS (r s:Bool):Spec:=fun name vs=>match name,vs with
 | 66,_=>some ([],fun _=>aF (.bool r))
 | 74,[.agg cs]=>some ([],fun _=>aF (.bool (cS (frD cs))))
 | 47,_=>some ([],fun _=>aF (.agg (mkT 1 1).cells))
 | 49,_=>some ([],fun _=>aF (.bool s))
 | _,_=>none
theorem Fo (r s:Bool) (x:RF):zdS r s 74 [.agg x.cells]=some ([],fun _=>aF (.bool (cS x))):=by
 show some ([],fun _=>aF (.bool (cS (frD x.cells))))=_;rw[zg]
theorem avC (x y:RF):pM y x=- pM x y:=by
 unfold pM pL;have e:=x6 (val x.num*val y.den) (val y.num*val x.den);cases x.neg&&decide (val x.num≠0)<;>cases y.neg&&decide (val y.num≠0)<;>simp only[e,Int.neg_neg]<;>rfl
theorem aHU {x:RF} (c:x.valid):decide (pM (mkT 1 1) x<0)=!wG x:=by
 rw[avC x];unfold wG;rw[show cU (val x.num) (val x.den)=true from c,a7R,FX];unfold pM;simp only[aW,show (1:Int).natAbs=1 from rfl,show decide ((1:Int)<0)=false from rfl];by_cases h:pL x.neg (val x.num) (val x.den) false 1 1≤0
 ·rw[decide_eq_true h,decide_eq_false Om]; rfl
 ·rw[decide_eq_false h,decide_eq_true Om]; rfl
def PJ (m:Int) (rep:List RF) (t h:RF):Bool:=de rep m&&(cS t&&(wG t&&cS h))
theorem ahO {C:Ctx} (L:UJ C) (m:Int) (rep:List RF) (p:jS rep) (t h:RF) (i:t.Ok) (l:h.Ok) :
  UA.wp C (aV aqT.res (aF (.bool (PJ m rep t h)))) (PF.args [.int .i64 m,frs rep,.agg t.cells,.agg h.cells]) .nil:=by
 have d:dB 1:=by unfold dB; omega
 unfold PJ;simp only[go_sem,UA,ahP,aqT];refine bW .nil (zdS (de rep m) (!wG t)) a_ ?_;simp only[go_sem,ahQ];refine bP rfl (L.reps rep p m) rfl a_ ?_;cases de rep m with
 | false =>simp only[go_sem];refine aQ (.inr rfl) rfl ?_;rfl
 | true =>
  simp only[go_sem];refine bP (Fo _ _ t) (L.small t i) rfl a_ ?_;cases e:cS t with
  | false =>simp only[go_sem];refine aQ (.inr rfl) rfl ?_;rfl
  | true =>
   have c:=L.less (mkT 1 1) t (FW 1 d).1 i (FW 1 d).2 (qD e);rw[aHU (qD e)] at c;simp only[go_sem];refine bP rfl (L.int 1 d) rfl a_ ?_;simp only[go_sem];refine bP rfl c rfl a_ ?_;cases wG t with
   | false =>simp only[go_sem,a7Y,a7L];refine aQ (.inr rfl) rfl ?_;rfl
   | true =>simp only[go_sem,a7L,a7Y];refine bP (Fo _ _ h) (L.small h l) rfl a_ ?_;simp only[go_sem];refine aQ (.inr rfl) rfl ?_;rfl
theorem aUZ (p:bS):BR p=PJ p.m p.repair p.target p.a6F:=by
 unfold BR PJ de;have:(p.repair.all fun x=>cS x&&bG x)=(p.repair.all cS&&p.repair.all bG):=by
  induction p.repair with
  | nil=>rfl
  | cons a t c =>simp only[List.all_cons,c];cases cS a<;>cases bG a<;>simp
 rw[this];simp only[baI]
section
variable {H:PH} {B:List BX} {L:List LI}
theorem aN.aiS (h:aN H B L) (i:Nat) {s b:Nat} {v y:PV} {rows src:List (List PV)} {K:PV→PH→Prop} (hi:L[i]?=some (v,s,rows)) (A:dX H s y=some src) (x:roomFor rows.length src.length b)
  (l:∀ v' H',bQ H' s v rows→aN H' B (L.set i (v',s,rows++src))→K v' H'):mP H s b v y K:=by
 rcases h.own i hi with ⟨rfl,rfl⟩ | ⟨q,rs,rfl,h1,h2,h3⟩
 ·exact h.append i hi A x fun v' H' E _=>l v' H' (.inl ⟨rfl,rfl⟩) E
 ·have c:(rows++src).length=rows.length+src.length:=a7O;refine⟨src,A,rfl,rfl,x,rs,h1,h2,?_,fun o e=>?_⟩
  ·rw[h3];refine l _ _ (.inr ⟨q,rows++src,rfl,by rw[cP],by rw[c]; omega,List.take_left' rfl⟩) (h.LL i hi (.inr ⟨q,rows++src,by rw[c],by simp only[aT,if_true],a7M _,a8I⟩) (fun p d=>by cases d; exact .inl rfl) fun p _ d=>?_);rw[aT,if_neg (d q rfl)]
  ·rw[h3];have w:q≠o:=by rintro rfl; rw[h1] at e; cases e
   refine l _ _ (.inr ⟨q,rs,rfl,by rw[aT,if_neg w]; exact h1,h2,h3⟩) (h.LL i hi (.inr ⟨o,rows++src,by rw[c],by simp only[aT,if_true],a7M _,a8I⟩) (fun p d=>by cases d; exact .inr e) fun p u d=>?_);obtain⟨f1,f2⟩:=h.fresh e;have F:p≠o:=by rintro rfl; exact u.elim f1 f2
   rw[aT,if_neg F]
end
abbrev mJ (l:List (List UInt8)):List (List PV):=l.map fun s=>[PV.str s]
def zO:List (List UInt8)→List UInt8→Nat→Int
 | [],_,_=>-1
 | x::t,s,i=>if x==s then (i:Int) else zO t s (i+1)
theorem Ns (s:List UInt8):∀ (l:List (List UInt8)) (i:Nat),decide (zO l s i<0)=!l.contains s
 | [],i=>rfl
 | x::t,i=>by
  rw[zO,List.contains_cons,BEq.comm (a:=s)];by_cases h:(x==s)=true
  ·rw[if_pos h,h,Bool.true_or,decide_eq_false Om]; rfl
  ·rw[if_neg h,Ns s t (i+1)];simp only[Bool.not_eq_true] at h;rw[h,Bool.false_or]
theorem Fu {C:Ctx} (l:List (List UInt8)) (q:l.length≤1000000) (s:List UInt8):EW.wp C (aV sb.res (aF (.int .i64 (zO l s 0)))) (PF.args [.sl 1 (mJ l),.str s]) .nil:=by
 simp only[go_sem,EW,Fv,Fw,sb];refine wp_loop (α:=Nat) (fun k=>(((PF.nil.set 0 (.sl 1 (mJ l))).set 1 (.str s)).set 5 (.int .i64 k))) (fun _=>.nil) (fun k=>k≤l.length∧zO l s 0=zO (l.drop k) s k) (fun k=>l.length-k) 0 ⟨a7N _,rfl⟩ Lq a_ ?_;rintro k ⟨p,d⟩;simp only[go_sem,Ft,Fy,a7G];by_cases hlt:k<l.length
 ·have c:(k:Int)<(l.length:Nat):=Om;have e:(mJ l)[k]?=some [.str l[k]]:=by simp[hlt]
  rw[a9H hlt,zO] at d;cases i:l[k]==s with
  | true =>rw[i,if_pos rfl] at d;simp only[go_sem,c,UB,e,i,F0];refine aQ (.inr rfl) rfl ?_;rw[bO,d]
  | false =>rw[i,if_neg (by decide)] at d;simp only[go_sem,c,UB,e,i,F6,wZz k];exact aD (k+1) ⟨hlt,d⟩ Om Lq b_
 ·have c:¬ (k:Int)<(l.length:Nat):=Om;have:k=l.length:=Om;subst this;rw[List.drop_length,zO] at d;simp only[go_sem,c,F7];refine aQ (.inr rfl) rfl ?_;rw[bO,d]
structure UK (C:Ctx):Prop extends UJ C where
 name:∀ s:List UInt8,aH C 62 [.str s] .nil (aF (.bool (isName s)))
 index:∀ (l:List (List UInt8)),l.length≤1000000→∀ s:List UInt8,aH C 71 [.sl 1 (mJ l),.str s] .nil (aF (.int .i64 (zO l s 0)))
def jH (l:List (List UInt8)) (s:List UInt8):Bool:=isName s&&!l.contains s
def fl (l:List (List UInt8)) (s:List UInt8) (r:PV) (B:List BX) (L:List LI):Prop:=∃ c,r=.tup [c,.bool (jH l s)]∧B=[]∧L=[(c,1,mJ (l++[s]))]
theorem Fp {C:Ctx} (L:UK C) (l:List (List UInt8)) (Q:l.length≤1000000) (s:List UInt8) (w:PV) (H:PH) (N:aN H [] [(w,1,mJ l)]) :
  EV.wp C (aV sa.res (fun r H'=>∃ B' L',fl l s r B' L'∧aN H' B' L')) (PF.args [w,.str s]) H:=by
 have p:=L.index l Q s;have E:=L.name s;have d:=Ns s l 0;have A:(1:Nat)*1≤16777216:=by decide
 have fin:∀ (F:PF) (H':PH) (c:PV) (b:Bool),F 4=some c→F 5=some (.bool b)→b=jH l s→aN H' [] [(c,1,mJ (l++[s]))]→aV [.tmp 4,.tmp 5] (fun r H'=>∃ B' L',fl l s r B' L'∧aN H' B' L') .ret F H':=fun F H' c b K M e y =>
  bA (vs:=[c,.bool b]) (.inr rfl) H' (by simp only[go_sem,K,M]) b_ ⟨[],_,⟨c,by rw[e]; rfl,rfl,rfl⟩,y⟩
 simp only[go_sem,EV,Fq,Fr,sa,A];refine N.aiS 0 (src:=[[.str s]]) rfl rfl (by unfold roomFor; rw[a7G]; simp only[a7S,maxLen]; omega) fun c H' O y=>?_;have i:aN H' [] [(c,1,mJ (l++[s]))]:=by
  have e:mJ (l++[s])=mJ l++[[.str s]]:=by simp[mJ]
  rw[e]; exact y
 refine aA E rfl ?_;cases J:isName s with
 | false =>simp only[go_sem];exact fin _ _ c false rfl rfl (by unfold jH; rw[J,a7P]) i
 | true =>
  have u:jH l s=!l.contains s:=by unfold jH; rw[J,a7R]
  rcases O with ⟨R,rfl⟩ | ⟨q,rs,rfl,q1,q2,q3⟩
  ·simp only[go_sem];rw[R] at p;have x:aH C 71 [.aB,.str s] .nil (aF (.int .i64 (zO l s 0))):=p.args (.cons (.nil 1) (.cons (.refl _) .nil));refine aA x rfl ?_;simp only[go_sem,d];exact fin _ _ c _ rfl rfl u.symm i
  ·simp only[go_sem];refine Xp (vs:=[.osl q 1 0 (mJ l).length,.str s]) (.int .i64 (zO l s 0)) ?_ q1 Sq ?_
   ·rw[a8U,a8U,a9P,tZ q2,q3];exact p
   simp only[go_sem,d];exact fin _ _ c _ rfl rfl u.symm i
theorem awR {x:RF} (h:cS x=true):decide (rD x>0)=bG x:=by
 have d:=qD h;unfold cS oO at h;rw[show cU (val x.num) (val x.den)=true from d,if_pos rfl,bf d] at h;unfold rD bG;by_cases c:val x.num=0
 ·simp[c]
 ·have i:val x.num/a7I (val x.num) (val x.den)≠0:=by have:=Nat.div_pos (Nat.gcd_le_left (val x.den) (a9U c)) (Nat.gcd_pos_of_pos_left _ (a9U c));omega
  have e:x.neg=false:=by unfold mO at h;simp only[i,ne_eq,not_false_eq_true,decide_true,a9N,a7X] at h;simpa using h.1
  rw[if_neg c,e];simp[c]
structure Ie (l:cE):Prop where
 exit:∀ x∈l.exit,cS x=true
 row:∀ r∈l.a6A,∀ x∈r,cS x=true
structure oG (C:Ctx):Prop extends UK C where
 fresh:∀ (l:List (List UInt8)),l.length≤1000000→∀ (s:List UInt8) (w:PV) (H:PH),aN H [] [(w,1,mJ l)]→aH C 70 [w,.str s] H (fun r H'=>∃ B' L',fl l s r B' L'∧aN H' B' L')
theorem oG.pos {C:Ctx} (L:oG C) {x:RF} (c:x.Ok) (h:cS x=true):∃ n:Int,aH C 54 [.agg x.cells] .nil (aF (.int .i64 n))∧decide (n>0)=bG x:=⟨_,L.sign x c (qD h),awR h⟩
def zlF (l:cE) (o r i:Nat):PF:=(((((PF.nil.set 1 (.bH l.cells)).set 3 (.int .i64 (l.exit.length:Nat))).set 7 (.osl o 1 0 l.exit.length)).set 8 (.int .i64 r)).set 9 (.int .i64 i))
theorem aNH {C:Ctx} (L:oG C) (l:cE) (o r i:Nat) (row:List RF) (Q:(l.a6A.map fun r=>[frs r])[i]?=some [frs row]) (J:jS row) (E:∀ x∈row,cS x=true) (X:row.length=l.exit.length) (hi:i<l.exit.length) (hn:l.exit.length≤4) (e:List Bool) (Z:e.length=l.exit.length) (K:bR) [Up K] (F:PF) (H:PH)
  (N:((zlF l o r i).set 10 (.int .i64 0)).le F) (M:(gY o e).le H)
  (W:K (.exit 6) (zlF l o r i) (gY o (cK e i row row.length))):aC.wp C (.loop MQ) K F H:=by
 refine wp_loop (α:=Nat) (fun k=>(zlF l o r i).set 10 (.int .i64 k)) (fun k=>gY o (cK e i row k)) (fun k=>k≤row.length) (fun k=>row.length-k) 0 (a7N _) N M ?_;intro k hk;have V:=tG e i row k;have w:∀ h:k<row.length,cK e i row (k+1)=(cK e i row k).set i ((cK e i row k).getD i false||bG row[k]&&(cK e i row k).getD k false):=fun h=>by simp only[cK,a7Z,a8F,a7U h,a8W,baH]
 have fin:∀ (b:Bool) (F:PF) (H:PH),k<row.length→dJ (cK e i row (k+1))=(dJ (cK e i row k)).set i [.bool b]→((zlF l o r i).set 10 (.int .i64 (k+1:Nat))).le F→H o=some (.rows 1 ((dJ (cK e i row k)).set i [.bool b])) →
   fJ (fun k:Nat=>(zlF l o r i).set 10 (.int .i64 k)) (fun k=>gY o (cK e i row k)) (fun k=>k≤row.length) (fun k=>row.length-k) (row.length-k) K .normal F H:=by
  intro b F H hlt U N M;refine aD (k+1) hlt Om N ?_;rw[← U] at M;exact PH.aK a_ M
 unfold zlF gY at fin;simp only[go_sem,MQ,Vj,zlF,gY];by_cases hlt:k<row.length
 ·have d:(k:Int)<(l.exit.length:Nat):=Om;have u:(i:Int)<(l.exit.length:Nat):=Om;have q:=rH (R:=cK e i row k) (i:=i) Om;have y:=rH (R:=cK e i row k) (i:=k) Om;have p:=w hlt;obtain⟨n,S,B⟩:=L.pos (J.all _ (a7J hlt)) (E _ (a7J hlt));have O:=ji hlt;generalize U:(cK e i row k).getD i false=b at *
  generalize hc:(cK e i row k).getD k false=c at *
  generalize Y:bG row[k]=A at *
  cases b with
  | true =>simp only[go_sem,d,fa,u,a8E,q,MR,wZz k];exact fin true _ _ hlt (by rw[p,jX,Bool.true_or]) Lq Sq
  | false =>
   simp only[go_sem,d,fa,u,a8E,q,Q,O];refine aA S rfl ?_;cases A with
   | false =>simp only[go_sem,B,u,d,a8E,q,y,MR,wZz k];exact fin false _ _ hlt (by rw[p,jX,Bool.false_or,a7P]) Lq Sq
   | true =>simp only[go_sem,B,u,d,a8E,q,y,MR,wZz k];exact fin c _ _ hlt (by rw[p,jX,Bool.false_or,a7R]) Lq Sq
 ·have d:¬ (k:Int)<(l.exit.length:Nat):=Om;have:k=row.length:=Om;subst this;simp only[go_sem,d];refine Up.up ?_ W
  (repeat' (first|exact c_|refine d_ ?_ ?_))<;>first|(simp only[go_sem,zlF]<;>rfl)|rfl
theorem aNJ {C:Ctx} (L:oG C) (l:cE) (O:l.Ok) (J:AP l) (S:Ie l) (o r:Nat) (R:List Bool) (Z:R.length=l.exit.length) (K:bR) [Up K] (F:PF) (H:PH)
  (B:(zlF l o r 0).le F) (E:(gY o R).le H)
  (W:K (.exit 4) (zlF l o r l.exit.length) (gY o (cV l R l.exit.length))):aC.wp C (.loop d7) K F H:=by
 refine wp_loop (α:=Nat) (fun i=>zlF l o r i) (fun i=>gY o (cV l R i)) (fun i=>i≤l.exit.length) (fun i=>l.exit.length-i) 0 (a7N _) B E ?_;intro i hi;have Q:=qK l R i;have X:=J.n;simp only[go_sem,d7,Vi,zlF,gY];by_cases hlt:i<l.exit.length
 ·have c:(i:Int)<(l.exit.length:Nat):=Om;have e:i<l.a6A.length:=by rw[J.a6A]; exact hlt
  have q:=rH (R:=cV l R i) (i:=i) Om;have Y:=ji hlt;have y:(l.a6A.map fun r=>[frs r])[i]?=some [frs l.a6A[i]]:=by simp[e]
  have M:(l.a6A[i]).length=l.exit.length:=J.row _ (a7J e);generalize p:(cV l R i).set i ((cV l R i).getD i false||bG l.exit[i])=A;have w:A.length=l.exit.length:=by rw[← p,a9L]; omega
  have u:cV l R (i+1)=cK A i l.a6A[i] (l.a6A[i]).length:=by
   simp only[cV,kG];have U:(l.exit.map bG).getD i false=bG l.exit[i]:=by simp[a7Z,hlt]
   have V:l.a6A.getD i []=l.a6A[i]:=by simp[a7Z,e]
   rw[U,V,p]
  obtain⟨n,N,x⟩:=L.pos (O.exit.all _ (a7J hlt)) (S.exit _ (a7J hlt));have rest:∀ (F:PF) (H:PH),(zlF l o r i).le F→H o=some (.rows 1 (dJ A)) →
    aC.wp C (.seq (.region e7) (.block 6 (.loop MQ))) (eX 5 (gE C (aC.wp C (.region fc)) (fJ (fun i:Nat=>zlF l o r i) (fun i=>gY o (cV l R i)) (fun i=>i≤l.exit.length) (fun i=>l.exit.length-i) (l.exit.length-i) K))) F H:=by
   intro F H B E;refine xR _ (fun _ _ _ _ a b=>Up.up a b) B ?_;simp only[go_sem,e7];refine aNH L l o r i l.a6A[i] y (O.row _ (a7J e)) (S.row _ (a7J e)) M hlt X A w _ _ _ (by (repeat' (first|exact c_|refine d_ ?_ ?_))<;>first|(simp only[go_sem,zlF]<;>rfl)|rfl) (PH.aK a_ E) ?_;simp only[go_sem,zlF,fc,wZz i];exact aD (i+1) hlt Om Lq (by rw[u]; exact b_)
  simp only[zlF,gY] at rest;have d:=rest;simp only[aC.wp,go_sem] at d;generalize hb:(cV l R i).getD i false=b at *
  cases b with
  | true =>simp only[go_sem,c,ep,c,a8E,q];refine d _ _ Lq ?_;rw[← p];simp only[go_sem,jX,Bool.true_or]
  | false =>simp only[go_sem,c,ep,c,a8E,q,Y];refine aA N rfl ?_;simp only[go_sem,c,a8E,q,x];refine d _ _ Lq ?_;rw[← p];simp only[go_sem,jX,Bool.false_or]
 ·have c:¬ (i:Int)<(l.exit.length:Nat):=Om;have:i=l.exit.length:=Om;subst this;simp only[go_sem,c];exact Up.up (by (repeat' (first|exact c_|refine d_ ?_ ?_))<;>first|(simp only[go_sem,zlF]<;>rfl)|rfl) W
theorem aNI {C:Ctx} (L:oG C) (l:cE) (u:l.Ok) (e:AP l) (w:Ie l) (o:Nat) (K:bR) [Up K] (F:PF) (H:PH)
  (i:(((((PF.nil.set 1 (.bH l.cells)).set 3 (.int .i64 (l.exit.length:Nat))).set 7 (.osl o 1 0 l.exit.length)).set 8 (.int .i64 0)):PF).le F) (p:(gY o (cW l 0)).le H)
  (q:K (.exit 2) (((PF.nil.set 3 (.int .i64 (l.exit.length:Nat))).set 7 (.osl o 1 0 l.exit.length))) (gY o (cW l l.exit.length))):aC.wp C (.loop d8) K F H:=by
 have x:=e.n;refine wp_loop (α:=Nat) (fun r=>((((PF.nil.set 1 (.bH l.cells)).set 3 (.int .i64 (l.exit.length:Nat))).set 7 (.osl o 1 0 l.exit.length)).set 8 (.int .i64 r))) (fun r=>gY o (cW l r)) (fun r=>r≤l.exit.length) (fun r=>l.exit.length-r) 0 (a7N _) i p ?_;intro r y;have d:=qJ l r;simp only[go_sem,d8,Vg];by_cases hlt:r<l.exit.length
 ·have c:(r:Int)<(l.exit.length:Nat):=Om;simp only[go_sem,c,Vh];refine aNJ L l u e w o r (cW l r) d _ _ _ (by (repeat' (first|exact c_|refine d_ ?_ ?_))<;>first|(simp only[go_sem,zlF]<;>rfl)|rfl) b_ ?_;simp only[go_sem,zlF,Vk,wZz r];exact aD (r+1) hlt Om Lq b_
 ·have c:¬ (r:Int)<(l.exit.length:Nat):=Om;have:r=l.exit.length:=Om;subst this;simp only[go_sem,c];exact Up.up Lq q
theorem aXT {C:Ctx} (R:List Bool) (B:R.length≤4) (o:Nat) (X:Bool) (y:X=R.all id) (Q:PV→PH→Prop) (x:Q=aF (.bool X)) (F:PF) (H:PH)
  (u:((((PF.nil.set 3 (.int .i64 (R.length:Nat))).set 7 (.osl o 1 0 R.length)).set 11 (.int .i64 0)):PF).le F) (w:(gY o R).le H):aC.wp C (.loop d9) (eX 8 (gE C (aC.wp C (.seq (.region ff) .ret)) (aV [.tmp 2] Q))) F H:=by
 subst y x;refine wp_loop (α:=Nat) (fun k=>(((PF.nil.set 3 (.int .i64 (R.length:Nat))).set 7 (.osl o 1 0 R.length)).set 11 (.int .i64 k))) (fun _=>gY o R) (fun k=>k≤R.length∧(R.take k).all id=true) (fun k=>R.length-k) 0 ⟨a7N _,rfl⟩ u w ?_;rintro k ⟨E,l⟩;simp only[go_sem,d9,Vm,gY];by_cases hlt:k<R.length
 ·have c:(k:Int)<(R.length:Nat):=Om;have d:=rH (R:=R) (i:=k) hlt;have A:R.getD k false=R[k]:=by simp[a7Z,hlt]
  rw[A] at d;cases e:R[k] with
  | false =>rw[e] at d;simp only[go_sem,c,fe,a8E,d,a7Y,Vn];refine aQ (.inr rfl) rfl ?_;rw[bO,pC hlt (p:=id) e]
  | true =>rw[e] at d;have q:=pB hlt l (p:=id) e;simp only[go_sem,c,fe,a8E,d,a7L,Vo,wZz k];exact aD (k+1) ⟨hlt,by simpa using a7W.1 q⟩ Om Lq b_
 ·have c:¬ (k:Int)<(R.length:Nat):=Om;have:k=R.length:=Om;subst this;rw[a8I] at l;simp only[go_sem,c,ff];refine aQ (.inr rfl) rfl ?_;rw[bO,l]
def Marks (R S:List Bool):Prop:=R.length=S.length∧∀ j:Nat,R[j]?=some true→S[j]?=some true
theorem Marks.aWH (R:List Bool):Marks R R:=⟨rfl,fun _ h=>h⟩
theorem Marks.trans {R S T:List Bool} (h:Marks R S) (k:Marks S T):Marks R T:=⟨h.1.trans k.1,fun j a=>k.2 j (h.2 j a)⟩
theorem Og (R:List Bool) (i:Nat) (b:Bool):Marks R (R.set i (R.getD i false||b)):=by
 refine⟨by rw[a9L],fun j h=>?_⟩;rw[List.getElem?_set];obtain⟨c,d⟩:=a8P.1 h;split
 ·rename_i e;subst e;rw[if_pos c,a7Z,h];rfl
 ·exact h
theorem Au (R:List Bool) (i:Nat) (row:List RF):∀ k,Marks R (cK R i row k)
 | 0=>Marks.aWH R
 | k+1=>(Au R i row k).trans (Og _ _ _)
theorem CY (l:cE) (R:List Bool):∀ i,Marks R (cV l R i)
 | 0=>Marks.aWH R
 | i+1=>(CY l R i).trans ((Og _ _ _).trans (Au _ _ _ _))
theorem Oh:∀ {R S:List Bool},Marks R S→R≠S→R.count true<S.count true
 | [],[],_,h=>absurd rfl h
 | [],_::_,h,_=>by have:=h.1; simp at this
 | _::_,[],h,_=>by have:=h.1; simp at this
 | a::R,b::S,h,c=>by
  have d:a=true→b=true:=fun e=>by have:=h.2 0 (by rw[e]; rfl);simpa using this
  have l:Marks R S:=⟨by have:=h.1; simpa using this,fun j i=>by have:=h.2 (j+1) (by simpa using i); simpa using this⟩;by_cases e:R=S
  ·subst e;have:a≠b:=fun e=>c (by rw[e]);cases a<;>cases b<;>simp at this d ⊢
  ·have:=Oh l e;cases a<;>cases b<;>simp at d ⊢<;>omega
theorem ib:∀ {R:List Bool},R.length≤R.count true→R.all id=true
 | [],_=>rfl
 | a::R,h=>by
  have c:=List.count_le_length (a:=true) (l:=R);cases a with
  | true =>simp only[List.count_cons_self,a8Y] at h;simp only[List.all_cons,id,a7R];exact ib Om
  | false =>simp at h;omega
theorem KP (l:cE) {s:Nat} (h:cW l (s+1)=cW l s):∀ d,cW l (s+d)=cW l s
 | 0=>rfl
 | d+1=>by show cV l (cW l (s+d)) l.exit.length=_;rw[KP l h d];exact h
theorem m8 (l:cE):∀ r,(∃ s,s<r∧cW l (s+1)=cW l s)∨r≤(cW l r).count true
 | 0=>.inr (a7N _)
 | r+1=>by
  rcases m8 l r with ⟨s,d,c⟩ | h
  ·exact .inl ⟨s,by omega,c⟩
  ·by_cases e:cW l (r+1)=cW l r
   ·exact .inl ⟨r,by omega,e⟩
   ·have:=Oh (CY l (cW l r) l.exit.length) (fun h=>e h.symm);exact .inr (by show r+1≤(cV l (cW l r) l.exit.length).count true; omega)
theorem aPA (l:cE):oR l=(cW l l.exit.length).all id:=by
 unfold oR;rcases m8 l l.exit.length with ⟨s,y,e⟩ | h
 ·obtain⟨d,u⟩:∃ d,l.exit.length=s+d:=⟨l.exit.length-s,by omega⟩;rw[show l.exit.length+1=s+(d+1) by omega,u,KP l e,KP l e]
 ·have i:(cW l l.exit.length).all id=true:=ib (by rw[qJ]; exact h);have q:Marks (cW l l.exit.length) (cW l (l.exit.length+1)):=CY l (cW l l.exit.length) l.exit.length;rw[i,a7W];intro x w;obtain⟨j,p,rfl⟩:=a8S w;have c:j<(cW l l.exit.length).length:=by rw[q.1]; exact p
  have:=q.2 j (by rw[a7U c];have:=a7W.1 i _ (a7J c);simpa using this);rw[a7U p] at this;simpa using this
def zsS (s:Bool):Spec:=fun name vs=>match name,vs with
 | 47,_=>some ([],fun _=>aF (.agg (mkT 1 1).cells))
 | 53,_=>some ([],fun _=>aF (.bool s))
 | _,_=>none
theorem aFZ (l:cE):jZ l=(within l.start.length 1 4&&((decide ((l.start.length:Int)=l.start.length)&&l.start.all cS)&&((decide ((l.exit.length:Int)=l.start.length)&&l.exit.all cS)&&(decide (l.a6A.length=l.start.length)&&((a7H l.a6A.length).all (rM l)&&(uN l&&oR l)))))):=by
 rw[aaO,decide_eq_true (rfl:(l.start.length:Int)=l.start.length),a7R];have:decide (l.exit.length=l.start.length)=decide ((l.exit.length:Int)=l.start.length):=decide_eq_decide.2 Om;rw[this];cases within l.start.length 1 4<;>cases decide ((l.exit.length:Int)=l.start.length)<;>cases decide (l.a6A.length=l.start.length)<;>cases l.start.all cS<;>cases l.exit.all cS<;>simp[baI]
theorem R5 (l:cE) {i:Nat} (h:i<l.a6A.length):rM l i=((decide (((l.a6A[i]).length:Int)=l.start.length)&&(l.a6A[i]).all cS)&&!((l.a6A[i]).map bG).getD i false):=by
 unfold rM;have:l.a6A.getD i []=l.a6A[i]:=by simp[a7Z,h]
 rw[this];have:decide ((l.a6A[i]).length=l.start.length)=decide (((l.a6A[i]).length:Int)=l.start.length):=decide_eq_decide.2 Om;rw[this]
theorem ahS {C:Ctx} (L:oG C) (l:cE) (N:l.Ok):UC.wp C (aV aqU.res (aF (.bool (jZ l)))) (PF.args [.agg l.cells]) .nil:=by
 have c:=aFZ l;have fail:∀ (F:PF) (H:PH),jZ l=false→F 2=some (.bool false)→aV [.tmp 2] (aF (.bool (jZ l))) .ret F H:=fun F H e h=>by rw[e];exact bA (vs:=[.bool false]) (.inr rfl) .nil (by simp only[go_sem,h]) a_ ⟨rfl,rfl⟩
 have e1:=L.smalls l.start N.start l.start.length;have e2:=L.smalls l.exit N.exit l.start.length;simp only[go_sem,UC,ahT,ahU,aqU,a7G,ahV];by_cases c1:(l.start.length:Int)<1
 ·simp only[go_sem,c1,yS];exact fail _ _ (by rw[c,show within l.start.length 1 4=false from by unfold within; rw[decide_eq_false Om,a7P],a7P]) rfl
 by_cases c2:(l.start.length:Int)>4
 ·simp only[go_sem,c1,c2,yS];exact fail _ _ (by rw[c,show within l.start.length 1 4=false from by unfold within; rw[decide_eq_false (Om:¬ (l.start.length:Int)≤4),a8O],a7P]) rfl
 rw[show within l.start.length 1 4=true from by unfold within; rw[decide_eq_true (Om:(1:Int)≤(l.start.length:Nat)),decide_eq_true (Om:(l.start.length:Int)≤4)]; rfl,a7R] at c;simp only[go_sem,c1,c2];refine aA e1 rfl ?_;cases k1:(decide ((l.start.length:Int)=l.start.length)&&l.start.all cS) with
 | false =>rw[k1,a7P] at c;simp only[go_sem,a7Y,yS];exact fail _ _ c rfl
 | true =>
 rw[k1,a7R] at c;simp only[go_sem,a7L];refine aA e2 rfl ?_;cases k2:(decide ((l.exit.length:Int)=l.start.length)&&l.exit.all cS) with
 | false =>rw[k2,a7P] at c;simp only[go_sem,a7Y,yS];exact fail _ _ c rfl
 | true =>
 rw[k2,a7R] at c;rw[a7X,decide_eq_true_eq] at k2;have y:l.exit.length=l.start.length:=Om;have M:=a7W.1 k2.2;by_cases c3:l.a6A.length=l.start.length
 case neg =>rw[decide_eq_false c3,a7P] at c;simp only[go_sem,a7L,a7G,dN (Om:(l.a6A.length:Int)≠(l.start.length:Nat)),yS];exact fail _ _ c rfl
 rw[decide_eq_true c3,a7R] at c;simp only[go_sem,a7L,a7G,cC (Om:(l.a6A.length:Int)=(l.start.length:Nat)),ahW];refine wp_loop (α:=Nat) (fun i=>(((PF.nil.set 1 (.bH l.cells)).set 3 (.int .i64 (l.start.length:Nat))).set 4 (.int .i64 i))) (fun _=>.nil) (fun i=>i≤l.start.length∧∀ j,j<i→rM l j=true) (fun i=>l.start.length-i) 0 ⟨a7N _,fun j h=>by omega⟩ Lq a_ ?_;rintro i ⟨hi,p⟩;simp only[go_sem,ahR,ahX];by_cases hlt:i<l.start.length
 ·have u:(i:Int)<(l.start.length:Nat):=Om;have w:i<l.a6A.length:=Om;have B:(l.a6A.map fun r=>[frs r])[i]?=some [frs l.a6A[i]]:=by simp[w]
  have V:=N.row _ (a7J w);have e3:=L.smalls l.a6A[i] V l.start.length;have d:=R5 l w;have O:rM l i=false→jZ l=false:=fun h=>by rw[c,show (a7H l.a6A.length).all (rM l)=false from List.all_eq_false.2 ⟨i,a8K.2 w,by simp[h]⟩,a7P]
  simp only[go_sem,u,ahY,B];refine aA e3 rfl ?_;cases k3:(decide (((l.a6A[i]).length:Int)=l.start.length)&&(l.a6A[i]).all cS) with
  | false =>rw[k3,a7P] at d;simp only[go_sem,a7Y,xk];exact fail _ _ (O d) rfl
  | true =>
   rw[k3,a7R] at d;rw[a7X,decide_eq_true_eq] at k3;have θ:(l.a6A[i]).length=l.start.length:=Om;have E:i<(l.a6A[i]).length:=Om;have hm:=a7J E;have hs:=L.sign _ (V.all _ hm) (qD (a7W.1 k3.2 _ hm));have hz:=LG (l.a6A[i])[i];have hg:((l.a6A[i]).map bG).getD i false=bG (l.a6A[i])[i]:=by simp[a7Z,E]
   rw[hg] at d;have A:(rD (l.a6A[i])[i] != 0)=bG (l.a6A[i])[i]:=by rw[bne,hz,Bool.not_not]
   simp only[go_sem,a7L,B,ji E];refine aA hs rfl ?_;cases k4:bG (l.a6A[i])[i] with
   | true =>rw[k4] at d A;simp only[go_sem,A,xk];exact fail _ _ (O d) rfl
   | false =>
    rw[k4] at d A;simp only[go_sem,A,ahZ,wZz i];exact aD (i+1) ⟨hlt,fun j Z=>by
     by_cases e:j=i
     ·rw[e]; exact d
     ·exact p j Om⟩ Om Lq b_
 ·have u:¬ (i:Int)<(l.start.length:Nat):=Om;have:i=l.start.length:=Om;subst this;have J:(a7H l.a6A.length).all (rM l)=true:=a7W.2 fun j Z=>p j (by rw[← c3]; exact a8K.1 Z);rw[J,a7R] at c;have X:∀ r∈l.a6A,r.length=l.start.length∧∀ x∈r,cS x=true:=fun r U=>by obtain⟨j,Z,rfl⟩:=a8S U;have h:=p j Om;rw[R5 l Z,a7X,a7X,decide_eq_true_eq] at h;exact⟨by omega,a7W.1 h.1.2⟩
  have S:Ie l:=⟨M,fun r U=>(X r U).2⟩;have R:AP l:=⟨by omega,by omega,fun r U=>by rw[(X r U).1,y]⟩;have Y:=L.sum l.start N.start.all N.start.fits;simp only[go_sem,u,Vd];refine aA Y rfl ?_;cases Q:nG (l.start.map RF.v) with
  | error e =>
   have δ:=Su Q;have:uN l=false:=by unfold uN; rw[Q]
   rw[this,a7P] at c;simp only[go_sem,frV];refine aR fun o ho=>?_;simp only[go_sem];refine bW .nil eT a_ ?_;simp only[go_sem,ef,dN δ,el];exact fail _ _ c rfl
  | ok r =>
   have W:=aeO Q;have ζ:=ou Q;obtain⟨n,a,b⟩:=r;have h1:dB 1:=by unfold dB; omega
   have K:=L.same (FV.rf (n,a,b)) (mkT 1 1) W (FW 1 h1).1 (by unfold RF.valid FV.rf; simp only[aW]; exact ζ) (FW 1 h1).2;have hP:uN l=(pM (FV.rf (n,a,b)) (mkT 1 1)==0):=by unfold uN;rw[Q,FX];unfold pM FV.rf;simp only[aW,show (1:Int).natAbs=1 from rfl,show decide ((1:Int)<0)=false from rfl];by_cases h:pL n a b false 1 1=0<;>simp[h]
   simp only[go_sem,frV];refine aR fun o ho=>?_;have hH:aN (PH.nil.set o (.rows 3 [(FV.rf (n,a,b)).cells])) [(o,.rows 3 [(FV.rf (n,a,b)).cells])] []:=aN.nil.new (H:=PH.nil) rfl _;simp only[go_sem];refine bW (PH.nil.set o (.rows 3 [(FV.rf (n,a,b)).cells])) (zsS (pM (FV.rf (n,a,b)) (mkT 1 1)==0)) b_ ?_;simp only[go_sem,ef,cC (show (0:Int)=0 from rfl)];refine bP rfl (L.int 1 h1) rfl b_ ?_;simp only[go_sem];refine bP rfl K rfl b_ ?_;rw[← hP];cases hp:uN l with
   | false =>rw[hp,a7P] at c;simp only[go_sem,a7Y,el];exact fail _ _ c rfl
   | true =>
    rw[hp,a7R,aPA] at c;have β:(l.start.length:Int)*((1:Nat):Int)≤140737488355328:=Om;have γ:(l.start.length:Int)≤9223372036854775807:=Om;simp only[go_sem,a7L,Ve,β,γ];refine aR fun q hq=>?_;simp only[go_sem,Vf];have η:a7K l.start.length [PV.bool false]=dJ (cW l 0):=by rw[← y];simp[cW,dJ]
    rw[← y];refine aNI L l N R S q _ _ _ Lq ?_ ?_
    ·refine PH.aK a_ ?_;rw[cP,y,η]
    simp only[go_sem,Vl];have ε:(cW l l.exit.length).length≤4:=by rw[qJ]; omega
    refine aXT (cW l l.exit.length) ε q (jZ l) c _ rfl _ _ ?_ b_;rw[qJ];exact Lq
structure pU (C:Ctx):Prop extends oG C where
 law:∀ l:cE,l.Ok→aH C 68 [.agg l.cells] .nil (aF (.bool (jZ l)))
def okL (base ns:List (List UInt8)) (P:Nat→Bool) (i:Nat):Bool:=jH (base++ns.take i) (ns.getD i [])&&P i
theorem rG {p:Nat→Bool} (k:Nat) (b:Bool):(b&&(a7H (k+1)).all p)=((b&&(a7H k).all p)&&p k):=by
 rw[baS,List.all_append];cases (a7H k).all p<;>cases b<;>simp
theorem rE {p:Nat→Bool} {b:Bool} {i n:Nat} (hi:i≤n) (h:(b&&(a7H i).all p)=false):(b&&(a7H n).all p)=false:=by
 cases b with
 | false=>rfl
 | true =>rw[a7R] at h ⊢;obtain⟨x,e,c⟩:=List.all_eq_false.1 h;exact List.all_eq_false.2 ⟨x,a8K.2 (by have:=a8K.1 e; omega),c⟩
structure gX (H:PH) (w:PV) (base ns:List (List UInt8)) (c:Bool) (i:Nat):Prop where
 ex:∃ names,aN H [] [(w,1,mJ names)]∧(c=true→names=base++ns.take i)
section
variable {C:Ctx} {F:PF} {H:PH} {d:Option Nat} {K:PF→PH→Prop}
theorem gX.call (L:oG C) {w:PV} {base ns:List (List UInt8)} {i:Nat} {B:List BX} {c:List (List UInt8)} (h:aN H B [(w,1,mJ c)]) (J:base.length≤1000) (hi:i≤1000) (u:c=base++ns.take i) (l:i<ns.length) {a b:Nat} (e:aP.evs F [.tmp a,.tmp b]=some [w,.str ns[i]])
  (y:∀ p H',aN H' B [(p,1,mJ (c++[ns[i]]))]→gX H' p base ns true (i+1)→K (F.put d (.tup [p,.bool (jH (base++ns.take i) (ns.getD i []))])) H'):iV C 70 [.tmp a,.tmp b] [] d K F H:=by
 refine EU (B1:=[]) (B2:=B) (L1:=[(w,1,mJ c)]) (L2:=[]) (Q:=fl c ns[i]) h (fun A E=>L.fresh c (by rw[u,a7O,a8A]; omega) ns[i] w A E) e ?_;rintro r B' L' H' ⟨p,rfl,rfl,rfl⟩ x;have q:ns.getD i []=ns[i]:=by simp[a7Z,l]
 rw[q,← u] at y;refine y p H' x ⟨c++[ns[i]],x.sub (List.nil_sublist _) (a9K.refl _),fun _=>?_⟩;rw[a9E l,← a8Q,u]
end
theorem gX.xi {H:PH} {w:PV} {base ns:List (List UInt8)} {c:Bool} {i:Nat} (h:gX H w base ns true i):gX H w base ns c i:=by
 obtain⟨e,l,p⟩:=h.ex;exact⟨e,l,fun _=>p rfl⟩
def IR (f:aE):Bool:=(a7H f.a6C.length).all (okL [] (f.a6C.map cE.name) fun i=>(f.a6C.map jZ).getD i false)
theorem aUD {C:Ctx} (L:pU C) (f:aE) (hf:f.Ok) (hs:f.a6C.length≤4) (K:bR) [Up K] (F:PF) (H:PH)
  (X:(((((((((PF.nil.set 1 (.bH f.cells)).set 3 (.aB)).set 4 (.aB)).set 5 (.aB)).set 6 (.aB)).set 7 (.aB)).set 8 (.bool true)).set 9 (.int .i64 0)):PF).le F)
  (Q:∀ H',K (.exit 0) (((((((PF.nil.set 1 (.bH f.cells)).set 4 (.aB)).set 5 (.aB)).set 6 (.aB)).set 7 (.aB)).set 8 (.bool (IR f)))) H'):aC.wp C (.loop MT) K F H:=by
 obtain⟨ok,E⟩:∃ ok,okL [] (f.a6C.map cE.name) (fun i=>(f.a6C.map jZ).getD i false)=ok:=⟨_,rfl⟩;unfold IR at Q;rw[E] at Q;refine wp_loop (α:=Nat × PV × PH) (fun s=>((((((((PF.nil.set 1 (.bH f.cells)).set 3 (s.2.1)).set 4 (.aB)).set 5 (.aB)).set 6 (.aB)).set 7 (.aB)).set 8 (.bool (true&&(a7H s.1).all ok))).set 9 (.int .i64 s.1))) (fun s=>s.2.2) (fun s=>s.1≤f.a6C.length∧gX s.2.2 s.2.1 [] (f.a6C.map cE.name) (true&&(a7H s.1).all ok) s.1) (fun s=>f.a6C.length-s.1)
  (0,.aB,H) ⟨a7N _,⟨[],aN.nil.nB 1,fun _=>rfl⟩⟩ X b_ ?_
 rintro⟨i,w,U⟩ ⟨hi,V⟩;simp only at hi V ⊢;have fin:∀ (b:Bool) (x:PV) (M:PF) (H':PH),i<f.a6C.length→(true&&(a7H (i+1)).all ok)=b→gX H' x [] (f.a6C.map cE.name) true (i+1) →
   (((((((((PF.nil.set 1 (.bH f.cells)).set 3 (x)).set 4 (.aB)).set 5 (.aB)).set 6 (.aB)).set 7 (.aB)).set 8 (.bool b)).set 9 (.int .i64 (i+1:Nat))):PF).le M →
   fJ (fun s:Nat × PV × PH=>((((((((PF.nil.set 1 (.bH f.cells)).set 3 (s.2.1)).set 4 (.aB)).set 5 (.aB)).set 6 (.aB)).set 7 (.aB)).set 8 (.bool (true&&(a7H s.1).all ok))).set 9 (.int .i64 s.1))) (fun s=>s.2.2) (fun s=>s.1≤f.a6C.length∧gX s.2.2 s.2.1 [] (f.a6C.map cE.name) (true&&(a7H s.1).all ok) s.1) (fun s=>f.a6C.length-s.1) (f.a6C.length-i) K .normal M H' :=
  fun b x M H' hlt Y O N=>aD (i+1,x,H') ⟨hlt,O.xi⟩ (by simp only; omega) (by simp only; rw[Y]; exact N) b_
 have l:=rG (p:=ok) i true;have u:(true&&(a7H i).all ok)=(true&&(a7H f.a6C.length).all ok)→K (.exit 0) (((((((PF.nil.set 1 (.bH f.cells)).set 4 (.aB)).set 5 (.aB)).set 6 (.aB)).set 7 (.aB)).set 8 (.bool (true&&(a7H i).all ok)))) U:=fun e=>by rw[e,a7R]; exact Q U
 have A:=fun h=>rE (p:=ok) (b:=true) hi h;generalize Z:(true&&(a7H i).all ok)=c at *
 simp only[go_sem,MT,Gj,a7G];by_cases hlt:i<f.a6C.length
 ·have q:(i:Int)<(f.a6C.length:Nat):=Om;cases c with
  | false =>simp only[go_sem,q];exact Up.up Lq (u (A rfl).symm)
  | true =>
   obtain⟨S,g1,g3⟩:=V.ex;have B:(f.a6C.map cE.cells)[i]?=some (f.a6C[i]).cells:=by simp[hlt]
   have R:i<(f.a6C.map cE.name).length:=by rw[a7G]; exact hlt
   have J:ok i=(jH ([]++(f.a6C.map cE.name).take i) ((f.a6C.map cE.name).getD i [])&&jZ f.a6C[i]):=by rw[← E];unfold okL;simp[a7Z,hlt]
   have hl:=L.law _ (hf.law _ (a7J hlt));rw[J] at l;simp only[go_sem,q,Gk,B];refine gX.call L.tooG (ns:=f.a6C.map cE.name) g1 (a7N _) Om (g3 rfl) R (by simp only[go_sem,a9B]) fun x H1 h1 y=>?_;generalize jH ([]++(f.a6C.map cE.name).take i) ((f.a6C.map cE.name).getD i [])=W at *
   cases W with
   | false =>simp only[go_sem,UE,UF,wZz i];exact fin false x _ _ hlt (l.trans rfl) y Lq
   | true =>simp only[go_sem,UE,B];refine aA hl rfl ?_;simp only[go_sem,UF,wZz i];exact fin _ x _ _ hlt (l.trans rfl) y Lq
 ·have q:¬ (i:Int)<(f.a6C.length:Nat):=Om;have:i=f.a6C.length:=Om;subst this;simp only[go_sem,q];exact Up.up Lq (u Z.symm)
theorem TA {a b c d e f:Nat} (h:pQ a b c d e f=true):a≤4∧b≤4∧c≤40∧d≤24∧e≤4∧f≤12:=by
 simp only[pQ,a7X,decide_eq_true_eq] at h;omega
theorem rz {n:Nat} (h:n≤1000):IntKind.i64.wrap ((n:Int)-1)=(n:Int)-1:=wrap_i64 Om Om
def inS:Spec:=fun name vs=>match name,vs with
 | 76,[.int _ n,.int _ lo,.int _ hi]=>some ([],fun _=>aF (.bool (within n lo hi)))
 | _,_=>none
def ve (a6C:Nat) (m:cT):Bool:=within m.a6L 1 16&&(within m.port 1 64&&within m.law 0 ((a6C:Int)-1))
def Uv (pols:Nat) (v:eW):Bool:=within v.a6H 0 ((pols:Int)-1)
def yJ (f:aE):Bool:=(a7H f.a5W.length).all (okL [] (f.a5W.map cT.name) fun i=>(f.a5W.map (ve f.a6C.length)).getD i false)
theorem aCY {C:Ctx} (L:pU C) (f:aE) (hf:f.Ok) (hz:pQ f.a6C.length f.a5W.length f.a5Y.length f.a5V.length f.a5Z.length f.a5X.length=true) (b:Bool) (K:bR) [Up K] (F:PF) (H:PH)
  (hF:((((((((PF.nil.set 1 (.bH f.cells)).set 4 (.aB)).set 5 (.aB)).set 6 (.aB)).set 7 (.aB)).set 8 (.bool b)).set 10 (.int .i64 0)):PF).le F)
  (R:∀ H',K (.exit 2) ((((((PF.nil.set 1 (.bH f.cells)).set 5 (.aB)).set 6 (.aB)).set 7 (.aB)).set 8 (.bool (b&&yJ f)))) H'):aC.wp C (.loop MU) K F H:=by
 obtain⟨β,γ,δ,ε,ζ,η⟩:=TA hz;obtain⟨ok,B⟩:∃ ok,okL [] (f.a5W.map cT.name) (fun i=>(f.a5W.map (ve f.a6C.length)).getD i false)=ok:=⟨_,rfl⟩;unfold yJ at R;rw[B] at R;refine wp_loop (α:=Nat × PV × PH) (fun s=>(((((((PF.nil.set 1 (.bH f.cells)).set 4 (s.2.1)).set 5 (.aB)).set 6 (.aB)).set 7 (.aB)).set 8 (.bool (b&&(a7H s.1).all ok))).set 10 (.int .i64 s.1))) (fun s=>s.2.2) (fun s=>s.1≤f.a5W.length∧gX s.2.2 s.2.1 [] (f.a5W.map cT.name) (b&&(a7H s.1).all ok) s.1) (fun s=>f.a5W.length-s.1)
  (0,.aB,H) ⟨a7N _,⟨[],aN.nil.nB 1,fun _=>rfl⟩⟩ (by
   have e:(b&&(a7H 0).all ok)=b:=by cases b<;>rfl
   simp only[e];exact hF) b_ ?_
 rintro⟨i,w,M⟩ ⟨hi,X⟩;simp only at hi X ⊢;have fin:∀ (c:Bool) (u:PV) (J:PF) (H':PH),i<f.a5W.length→(b&&(a7H (i+1)).all ok)=c→gX H' u [] (f.a5W.map cT.name) true (i+1) →
   ((((((((PF.nil.set 1 (.bH f.cells)).set 4 (u)).set 5 (.aB)).set 6 (.aB)).set 7 (.aB)).set 8 (.bool c)).set 10 (.int .i64 (i+1:Nat))):PF).le J →
   fJ (fun s:Nat × PV × PH=>(((((((PF.nil.set 1 (.bH f.cells)).set 4 (s.2.1)).set 5 (.aB)).set 6 (.aB)).set 7 (.aB)).set 8 (.bool (b&&(a7H s.1).all ok))).set 10 (.int .i64 s.1))) (fun s=>s.2.2) (fun s=>s.1≤f.a5W.length∧gX s.2.2 s.2.1 [] (f.a5W.map cT.name) (b&&(a7H s.1).all ok) s.1) (fun s=>f.a5W.length-s.1) (f.a5W.length-i) K .normal J H' :=
  fun c u J H' hlt hb Q O=>aD (i+1,u,H') ⟨hlt,Q.xi⟩ (by simp only; omega) (by simp only; rw[hb]; exact O) b_
 have d:=rG (p:=ok) i b;have x:(b&&(a7H i).all ok)=(b&&(a7H f.a5W.length).all ok)→K (.exit 2) ((((((PF.nil.set 1 (.bH f.cells)).set 5 (.aB)).set 6 (.aB)).set 7 (.aB)).set 8 (.bool (b&&(a7H i).all ok)))) M:=fun e=>by rw[e]; exact R M
 have A:=fun h=>rE (p:=ok) (b:=b) hi h;generalize hc:(b&&(a7H i).all ok)=c at *
 simp only[go_sem,MU,s7,a7G];by_cases hlt:i<f.a5W.length
 ·have l:(i:Int)<(f.a5W.length:Nat):=Om;cases c with
  | false =>simp only[go_sem,l];exact Up.up Lq (x (A rfl).symm)
  | true =>
   obtain⟨W,g1,g3⟩:=X.ex;have S:(f.a5W.map cT.cells)[i]?=some (f.a5W[i]).cells:=by simp[hlt]
   have U:i<(f.a5W.map cT.name).length:=by rw[a7G]; exact hlt
   have E:ok i=(jH ([]++(f.a5W.map cT.name).take i) ((f.a5W.map cT.name).getD i [])&&(ve f.a6C.length) f.a5W[i]):=by rw[← B];unfold okL;simp[a7Z,hlt]
   rw[E] at d;have y:ve f.a6C.length f.a5W[i]=(within (f.a5W[i]).a6L 1 16&&(within (f.a5W[i]).port 1 64&&within (f.a5W[i]).law 0 ((f.a6C.length:Int)-1))):=rfl;rw[y] at d;simp only[go_sem,l,s8,S];refine aR fun o ho=>?_;have g4:=g1.new ho (.rows 4 [(f.a5W[i]).cells]);have Z:=g4.at 0 rfl;simp only[go_sem];generalize M.set o (.rows 4 [(f.a5W[i]).cells])=H2 at *
   simp only[go_sem,s9,Z];refine gX.call L.tooG (ns:=(f.a5W.map cT.name)) g4 (a7N _) Om (g3 rfl) U (by simp only[go_sem,a9B]) fun u H1 h1 q=>?_;have N:=h1.at 0 rfl;generalize jH ([]++(f.a5W.map cT.name).take i) ((f.a5W.map cT.name).getD i [])=Y at *
   cases Y with
   | false =>simp only[go_sem,MW,tQ,wZz i];exact fin false u _ _ hlt (d.trans rfl) q Lq
   | true =>
    simp only[go_sem,MW,N];refine aA (L.inn (f.a5W[i]).a6L 1 16) rfl ?_;cases V:within (f.a5W[i]).a6L 1 16 with
    | false =>simp only[go_sem,tQ,wZz i];exact fin false u _ _ hlt (by rw[d,V]<;>simp) q Lq
    | true =>
     simp only[go_sem,N];refine aA (L.inn (f.a5W[i]).port 1 64) rfl ?_;cases k1:within (f.a5W[i]).port 1 64 with
     | false =>simp only[go_sem,tQ,wZz i];exact fin false u _ _ hlt (by rw[d,V,k1]<;>simp) q Lq
     | true =>simp only[go_sem,N,a7G,rz (Om:f.a6C.length≤1000)];refine aA (L.inn (f.a5W[i]).law 0 ((f.a6C.length:Int)-1)) rfl ?_;simp only[go_sem,tQ,wZz i];exact fin _ u _ _ hlt (by rw[d,V,k1]<;>simp) q Lq
 ·have l:¬ (i:Int)<(f.a5W.length:Nat):=Om;have:i=f.a5W.length:=Om;subst this;simp only[go_sem,l];exact Up.up Lq (x hc.symm)
def Hw (f:aE):Bool:=(a7H f.a5X.length).all (okL [] (f.a5X.map eW.name) fun i=>(f.a5X.map (Uv f.a5Z.length)).getD i false)
theorem aUF {C:Ctx} (L:pU C) (f:aE) (hf:f.Ok) (hz:pQ f.a6C.length f.a5W.length f.a5Y.length f.a5V.length f.a5Z.length f.a5X.length=true) (b:Bool) (K:bR) [Up K] (F:PF) (H:PH)
  (X:(((((PF.nil.set 1 (.bH f.cells)).set 7 (.aB)).set 8 (.bool b)).set 21 (.int .i64 0)):PF).le F)
  (Q:∀ H',K (.exit 14) (((PF.nil.set 1 (.bH f.cells)).set 8 (.bool (b&&Hw f)))) H'):aC.wp C (.loop xW) K F H:=by
 obtain⟨β,γ,δ,ε,ζ,η⟩:=TA hz;obtain⟨ok,E⟩:∃ ok,okL [] (f.a5X.map eW.name) (fun i=>(f.a5X.map (Uv f.a5Z.length)).getD i false)=ok:=⟨_,rfl⟩;unfold Hw at Q;rw[E] at Q;refine wp_loop (α:=Nat × PV × PH) (fun s=>((((PF.nil.set 1 (.bH f.cells)).set 7 (s.2.1)).set 8 (.bool (b&&(a7H s.1).all ok))).set 21 (.int .i64 s.1))) (fun s=>s.2.2) (fun s=>s.1≤f.a5X.length∧gX s.2.2 s.2.1 [] (f.a5X.map eW.name) (b&&(a7H s.1).all ok) s.1) (fun s=>f.a5X.length-s.1)
  (0,.aB,H) ⟨a7N _,⟨[],aN.nil.nB 1,fun _=>rfl⟩⟩ (by
   have e:(b&&(a7H 0).all ok)=b:=by cases b<;>rfl
   simp only[e];exact X) b_ ?_
 rintro⟨i,w,U⟩ ⟨hi,V⟩;simp only at hi V ⊢;have fin:∀ (c:Bool) (x:PV) (M:PF) (H':PH),i<f.a5X.length→(b&&(a7H (i+1)).all ok)=c→gX H' x [] (f.a5X.map eW.name) true (i+1) →
   (((((PF.nil.set 1 (.bH f.cells)).set 7 (x)).set 8 (.bool c)).set 21 (.int .i64 (i+1:Nat))):PF).le M →
   fJ (fun s:Nat × PV × PH=>((((PF.nil.set 1 (.bH f.cells)).set 7 (s.2.1)).set 8 (.bool (b&&(a7H s.1).all ok))).set 21 (.int .i64 s.1))) (fun s=>s.2.2) (fun s=>s.1≤f.a5X.length∧gX s.2.2 s.2.1 [] (f.a5X.map eW.name) (b&&(a7H s.1).all ok) s.1) (fun s=>f.a5X.length-s.1) (f.a5X.length-i) K .normal M H' :=
  fun c x M H' hlt Y O N=>aD (i+1,x,H') ⟨hlt,O.xi⟩ (by simp only; omega) (by simp only; rw[Y]; exact N) b_
 have d:=rG (p:=ok) i b;have q:(b&&(a7H i).all ok)=(b&&(a7H f.a5X.length).all ok)→K (.exit 14) (((PF.nil.set 1 (.bH f.cells)).set 8 (.bool (b&&(a7H i).all ok)))) U:=fun e=>by rw[e]; exact Q U
 have A:=fun h=>rE (p:=ok) (b:=b) hi h;generalize Z:(b&&(a7H i).all ok)=c at *
 simp only[go_sem,xW,tv,a7G];by_cases hlt:i<f.a5X.length
 ·have l:(i:Int)<(f.a5X.length:Nat):=Om;cases c with
  | false =>simp only[go_sem,l];exact Up.up Lq (q (A rfl).symm)
  | true =>
   obtain⟨S,g1,g3⟩:=V.ex;have B:(f.a5X.map eW.cells)[i]?=some (f.a5X[i]).cells:=by simp[hlt]
   have R:i<(f.a5X.map eW.name).length:=by rw[a7G]; exact hlt
   have J:ok i=(jH ([]++(f.a5X.map eW.name).take i) ((f.a5X.map eW.name).getD i [])&&(Uv f.a5Z.length) f.a5X[i]):=by rw[← E];unfold okL;simp[a7Z,hlt]
   rw[J] at d;have u:Uv f.a5Z.length f.a5X[i]=within (f.a5X[i]).a6H 0 ((f.a5Z.length:Int)-1):=rfl;rw[u] at d;simp only[go_sem,l,tw,B];refine gX.call L.tooG (ns:=(f.a5X.map eW.name)) g1 (a7N _) Om (g3 rfl) R (by simp only[go_sem,a9B]) fun x H1 h1 y=>?_;generalize jH ([]++(f.a5X.map eW.name).take i) ((f.a5X.map eW.name).getD i [])=W at *
   cases W with
   | false =>simp only[go_sem];refine bW .nil (inS) a_ ?_;simp only[go_sem,NI,NJ,wZz i];exact fin false x _ _ hlt (d.trans rfl) y Lq
   | true =>simp only[go_sem];refine bW .nil (inS) a_ ?_;simp only[go_sem,NI,B,a7G,rz (Om:f.a5Z.length≤1000)];refine bP rfl (L.inn (f.a5X[i]).a6H 0 ((f.a5Z.length:Int)-1)) rfl a_ ?_;simp only[go_sem,NJ,wZz i];exact fin _ x _ _ hlt (d.trans rfl) y Lq
 ·have l:¬ (i:Int)<(f.a5X.length:Nat):=Om;have:i=f.a5X.length:=Om;subst this;simp only[go_sem,l];exact Up.up Lq (q Z.symm)
def alB:Spec:=fun name vs=>match name,vs with
 | 76,[.int _ n,.int _ lo,.int _ hi]=>some ([],fun _=>aF (.bool (within n lo hi)))
 | 74,[.agg cs]=>some ([],fun _=>aF (.bool (cS (frD cs))))
 | _,_=>none
theorem alC (x:RF):alB 74 [.agg x.cells]=some ([],fun _=>aF (.bool (cS x))):=by
 show some ([],fun _=>aF (.bool (cS (frD x.cells))))=_;rw[zg]
def J3 (f:aE) (i:Nat) (d:cD):Bool :=
 within d.level 1 4&&(within d.parent 0 i&&(((f.a5Y.map cD.level).getD d.parent.toNat 0==IntKind.i64.wrap (d.level-1))&&(within d.a6P 1 64&&cS d.a6K)))
theorem aOW (f:aE) (i:Nat) (d:cD):HL f i d=J3 f i d:=by
 unfold HL J3;have:decide ((f.a5Y.map cD.level).getD d.parent.toNat 0=IntKind.i64.wrap (d.level-1))=((f.a5Y.map cD.level).getD d.parent.toNat 0==IntKind.i64.wrap (d.level-1)):=by generalize (f.a5Y.map cD.level).getD d.parent.toNat 0=u;by_cases h:u=IntKind.i64.wrap (d.level-1)<;>simp[h]
 rw[this];cases within d.parent 0 i<;>cases within d.level 1 4<;>cases within d.a6P 1 64<;>simp
def gS (f:aE):List (List UInt8):=(f.a5Y.drop 1).map cD.name
def wT (f:aE) (i:Nat):Bool:=match f.a5Y[i+1]? with
 | some d=>J3 f i d
 | none=>false
def wU (f:aE):Bool:=(a7H (f.a5Y.length-1)).all (okL [] (gS f) (wT f))
theorem J2 (f:aE):(gS f).length=f.a5Y.length-1:=by simp[gS]
theorem aUC {C:Ctx} (L:pU C) (f:aE) (hf:f.Ok) (μ:f.a5Y.length≤40) (h0:0<f.a5Y.length) (b:Bool) (K:bR) [Up K] (F:PF) (H:PH)
  (hF:(((((((PF.nil.set 1 (.bH f.cells)).set 5 (.aB)).set 6 (.aB)).set 7 (.aB)).set 8 (.bool b)).set 13 (.int .i64 1)):PF).le F)
  (V:∀ w H',gX H' w [] (gS f) (b&&wU f) (f.a5Y.length-1)→K (.exit 4) ((((((PF.nil.set 1 (.bH f.cells)).set 5 (w)).set 6 (.aB)).set 7 (.aB)).set 8 (.bool (b&&wU f)))) H'):aC.wp C (.loop xS) K F H:=by
 obtain⟨ok,O⟩:∃ ok,okL [] (gS f) (wT f)=ok:=⟨_,rfl⟩;unfold wU at V;rw[O] at V;obtain⟨n,hn⟩:∃ n,f.a5Y.length=n+1:=⟨f.a5Y.length-1,by omega⟩;have η:=J2 f;have ζ:f.a5Y.length-1=n:=Om;rw[ζ] at V η;refine wp_loop (α:=Nat × PV × PH) (fun s=>((((((PF.nil.set 1 (.bH f.cells)).set 5 (s.2.1)).set 6 (.aB)).set 7 (.aB)).set 8 (.bool (b&&(a7H s.1).all ok))).set 13 (.int .i64 (s.1+1:Nat)))) (fun s=>s.2.2) (fun s=>s.1≤n∧gX s.2.2 s.2.1 [] (gS f) (b&&(a7H s.1).all ok) s.1) (fun s=>n-s.1)
  (0,.aB,H) ⟨a7N _,⟨[],aN.nil.nB 1,fun _=>rfl⟩⟩ (by
   have e:(b&&(a7H 0).all ok)=b:=by cases b<;>rfl
   simp only[e];exact hF) b_ ?_
 rintro⟨i,w,X⟩ ⟨hi,Z⟩;simp only at hi Z ⊢;have fin:∀ (c:Bool) (y:PV) (W:PF) (H':PH),i<n→(b&&(a7H (i+1)).all ok)=c→gX H' y [] (gS f) true (i+1) →
   (((((((PF.nil.set 1 (.bH f.cells)).set 5 (y)).set 6 (.aB)).set 7 (.aB)).set 8 (.bool c)).set 13 (.int .i64 (i+1+1:Nat))):PF).le W →
   fJ (fun s:Nat × PV × PH=>((((((PF.nil.set 1 (.bH f.cells)).set 5 (s.2.1)).set 6 (.aB)).set 7 (.aB)).set 8 (.bool (b&&(a7H s.1).all ok))).set 13 (.int .i64 (s.1+1:Nat)))) (fun s=>s.2.2) (fun s=>s.1≤n∧gX s.2.2 s.2.1 [] (gS f) (b&&(a7H s.1).all ok) s.1) (fun s=>n-s.1) (n-i) K .normal W H' :=
  fun c y W H' hlt hb β Y=>aD (i+1,y,H') ⟨hlt,β.xi⟩ (by simp only; omega) (by simp only; rw[hb]; exact Y) b_
 have d:=rG (p:=ok) i b;have M:=fun h=>rE (p:=ok) (b:=b) hi h;have B:(b&&(a7H i).all ok)=(b&&(a7H n).all ok)→((b&&(a7H i).all ok)=true→i=n)→K (.exit 4) ((((((PF.nil.set 1 (.bH f.cells)).set 5 (w)).set 6 (.aB)).set 7 (.aB)).set 8 (.bool (b&&(a7H i).all ok)))) X:=fun e e2=>by
  obtain⟨x,g1,g3⟩:=Z.ex;have:=V w X ⟨x,g1,fun h=>by have h':=e.trans h;rw[g3 h',e2 h']⟩
  rwa [← e] at this
 generalize hc:(b&&(a7H i).all ok)=c at *
 simp only[go_sem,xS,tc,a7G];by_cases hlt:i<n
 ·have q:((i+1:Nat):Int)<(f.a5Y.length:Nat):=Om;cases c with
  | false =>simp only[go_sem,q];exact Up.up Lq (B (M rfl).symm (fun h=>by cases h))
  | true =>
   obtain⟨x,g1,g3⟩:=Z.ex;have E:i+1<f.a5Y.length:=Om;have γ:=fG E;have ε:i<(gS f).length:=Om;have θ:(gS f)[i]=(f.a5Y[i+1]).name:=by simp[gS,Nat.add_comm]
   have Q:ok i=(jH ([]++(gS f).take i) ((gS f).getD i [])&&J3 f i f.a5Y[i+1]):=by rw[← O];unfold okL wT;rw[a7U E]
   have δ:=hf.dom _ (a7J E);rw[Q] at d;unfold J3 at d;have e1:IntKind.i64.wrap (((i+1:Nat):Int)-1)=(i:Nat):=by rw[wrap_i64 Om Om]; omega
   have l:IntKind.i64.wrap (((i+1:Nat):Int)+1)=((i+1+1:Nat):Int):=cZ Om;have κ:=L.small _ δ.1;simp only[go_sem,q,td,γ];refine aR fun o ho=>?_;have g4:=g1.new ho (.rows 7 [(f.a5Y[i+1]).cells]);have g5:=g4.at 0 rfl;simp only[go_sem];generalize X.set o (.rows 7 [(f.a5Y[i+1]).cells])=H2 at *
   simp only[go_sem,te,g5];refine gX.call L.tooG (ns:=gS f) g4 (a7N _) Om (g3 rfl) ε (by simp only[go_sem,θ]) fun y H1 h1 u=>?_;have J:=h1.at 0 rfl;generalize jH ([]++(gS f).take i) ((gS f).getD i [])=fb at *
   generalize hd:f.a5Y[i+1]=A at *
   cases fb with
   | false =>simp only[go_sem];refine bW .nil alB a_ ?_;simp only[go_sem,MZ,nY,l];exact fin false y _ _ hlt (d.trans rfl) u Lq
   | true =>
    simp only[go_sem];refine bW .nil alB a_ ?_;simp only[go_sem,MZ,J];refine bP rfl (L.inn A.level 1 4) rfl a_ ?_;cases U:within A.level 1 4 with
    | false =>simp only[go_sem,nY,l];exact fin false y _ _ hlt (by rw[d,U]<;>simp) u Lq
    | true =>
     simp only[go_sem,J,e1];refine bP rfl (L.inn A.parent 0 (i:Nat)) rfl a_ ?_;cases k1:within A.parent 0 (i:Nat) with
     | false =>simp only[go_sem,nY,l];exact fin false y _ _ hlt (by rw[d,U,k1]<;>simp) u Lq
     | true =>
      obtain⟨p0,p1⟩:=within_iff.1 k1;obtain⟨p,hp⟩:∃ p:Nat,A.parent=p:=⟨A.parent.toNat,by omega⟩;have S:p<f.a5Y.length:=Om;obtain⟨lv,N⟩:∃ lv,(f.a5Y.map cD.level).getD A.parent.toNat 0=lv:=⟨_,rfl⟩;have ι:(f.a5Y[p]).level=lv:=by rw[← N,hp,a9A,getD_at S]
      rw[N] at d;have R:=fG S;simp only[go_sem,J,hp,R,ι];cases k2:lv==IntKind.i64.wrap (A.level-1) with
      | false =>simp only[go_sem,nY,l];exact fin false y _ _ hlt (by rw[d,U,k1,k2]<;>simp) u Lq
      | true =>
       simp only[go_sem,J];refine bP rfl (L.inn A.a6P 1 64) rfl a_ ?_;cases k3:within A.a6P 1 64 with
       | false =>simp only[go_sem,nY,l];exact fin false y _ _ hlt (by rw[d,U,k1,k2,k3]<;>simp) u Lq
       | true =>simp only[go_sem,J];refine bP (alC _) κ rfl a_ ?_;simp only[go_sem,nY,l];exact fin _ y _ _ hlt (by rw[d,U,k1,k2,k3]<;>simp) u Lq
 ·have q:¬ ((i+1:Nat):Int)<(f.a5Y.length:Nat):=Om;have:i=n:=Om;subst this;simp only[go_sem,q];exact Up.up Lq (B hc.symm (fun _=>rfl))
def J6 (f:aE) (d:dH):Bool:=within d.model 0 ((f.a5W.length:Int)-1)&&(within d.machine 0 ((f.a5Y.length:Int)-1)&&((f.a5Y.map cD.level).getD d.machine.toNat 0==4))
def lP (f:aE):List (List UInt8):=f.a5V.map dH.name
def uS (f:aE) (i:Nat):Bool:=match f.a5V[i]? with
 | some d=>J6 f d
 | none=>false
def yA (f:aE):Bool:=(a7H f.a5V.length).all (okL (gS f) (lP f) (uS f))
theorem aCX {C:Ctx} (L:pU C) (f:aE) (hf:f.Ok) (ι:f.a5Y.length≤40) (h0:0<f.a5Y.length) (κ:f.a5V.length≤24) (θ:f.a5W.length≤4) (b:Bool) (w0:PV) (K:bR) [Up K] (F:PF) (H:PH)
  (Z:gX H w0 [] (gS f) b (f.a5Y.length-1)) (hF:(((((((PF.nil.set 1 (.bH f.cells)).set 5 (w0)).set 6 (.aB)).set 7 (.aB)).set 8 (.bool b)).set 15 (.int .i64 0)):PF).le F)
  (S:∀ H',K (.exit 6) (((((PF.nil.set 1 (.bH f.cells)).set 6 (.aB)).set 7 (.aB)).set 8 (.bool (b&&yA f)))) H'):aC.wp C (.loop xT) K F H:=by
 obtain⟨ok,N⟩:∃ ok,okL (gS f) (lP f) (uS f)=ok:=⟨_,rfl⟩;unfold yA at S;rw[N] at S;obtain⟨n,hn⟩:∃ n,f.a5V.length=n:=⟨_,rfl⟩;have ζ:=J2 f;have η:(lP f).length=n:=by simp[lP,hn]
 rw[hn] at S;refine wp_loop (α:=Nat × PV × PH) (fun s=>((((((PF.nil.set 1 (.bH f.cells)).set 5 (s.2.1)).set 6 (.aB)).set 7 (.aB)).set 8 (.bool (b&&(a7H s.1).all ok))).set 15 (.int .i64 s.1))) (fun s=>s.2.2) (fun s=>s.1≤n∧gX s.2.2 s.2.1 (gS f) (lP f) (b&&(a7H s.1).all ok) s.1) (fun s=>n-s.1)
  (0,w0,H) ⟨a7N _,by
   obtain⟨u,q1,q2⟩:=Z.ex;have e:(b&&(a7H 0).all ok)=b:=by cases b<;>rfl
   refine⟨u,q1,fun h=>?_⟩;simp only[e] at h;rw[q2 h,List.nil_append,a8C Om];simp⟩ (by
   have e:(b&&(a7H 0).all ok)=b:=by cases b<;>rfl
   simp only[e];exact hF) b_ ?_
 rintro⟨i,w,V⟩ ⟨hi,hG⟩;simp only at hi hG ⊢;have fin:∀ (c:Bool) (y:PV) (U:PF) (H':PH),i<n→(b&&(a7H (i+1)).all ok)=c→gX H' y (gS f) (lP f) true (i+1) →
   (((((((PF.nil.set 1 (.bH f.cells)).set 5 (y)).set 6 (.aB)).set 7 (.aB)).set 8 (.bool c)).set 15 (.int .i64 (i+1:Nat))):PF).le U →
   fJ (fun s:Nat × PV × PH=>((((((PF.nil.set 1 (.bH f.cells)).set 5 (s.2.1)).set 6 (.aB)).set 7 (.aB)).set 8 (.bool (b&&(a7H s.1).all ok))).set 15 (.int .i64 s.1))) (fun s=>s.2.2) (fun s=>s.1≤n∧gX s.2.2 s.2.1 (gS f) (lP f) (b&&(a7H s.1).all ok) s.1) (fun s=>n-s.1) (n-i) K .normal U H' :=
  fun c y U H' hlt hb Y X=>aD (i+1,y,H') ⟨hlt,Y.xi⟩ (by simp only; omega) (by simp only; rw[hb]; exact X) b_
 have d:=rG (p:=ok) i b;have E:=fun h=>rE (p:=ok) (b:=b) hi h;have A:(b&&(a7H i).all ok)=(b&&(a7H n).all ok)→K (.exit 6) (((((PF.nil.set 1 (.bH f.cells)).set 6 (.aB)).set 7 (.aB)).set 8 (.bool (b&&(a7H i).all ok)))) V:=fun e=>by rw[e]; exact S V
 generalize hc:(b&&(a7H i).all ok)=c at *
 simp only[go_sem,xT,tf,a7G];by_cases hlt:i<n
 ·have l:((i:Nat):Int)<(f.a5V.length:Nat):=Om;cases c with
  | false =>simp only[go_sem,l];exact Up.up Lq (A (E rfl).symm)
  | true =>
   obtain⟨u,g1,g3⟩:=hG.ex;have J:i<f.a5V.length:=Om;have β:=pH J;have γ:i<(lP f).length:=Om;have δ:(lP f)[i]=(f.a5V[i]).name:=by simp[lP]
   have O:ok i=(jH (gS f++(lP f).take i) ((lP f).getD i [])&&J6 f f.a5V[i]):=by rw[← N];unfold okL uS;rw[a7U J]
   rw[O] at d;unfold J6 at d;have q:IntKind.i64.wrap ((i:Int)+1)=((i+1:Nat):Int):=cZ Om;have e1:=rz (Om:f.a5W.length≤1000);have e2:=rz (Om:f.a5Y.length≤1000);simp only[go_sem,l,tg,β];refine aR fun o ho=>?_;have g4:=g1.new ho (.rows 3 [(f.a5V[i]).cells]);have g5:=g4.at 0 rfl;simp only[go_sem];generalize V.set o (.rows 3 [(f.a5V[i]).cells])=H2 at *
   simp only[go_sem,th,g5];refine gX.call L.tooG (base:=gS f) (ns:=lP f) g4 Om Om (g3 rfl) γ (by simp only[go_sem,δ]) fun y H1 h1 x=>?_;have W:=h1.at 0 rfl;generalize jH (gS f++(lP f).take i) ((lP f).getD i [])=fb at *
   generalize hd:f.a5V[i]=B at *
   cases fb with
   | false =>simp only[go_sem,NB,tR,q];exact fin false y _ _ hlt (d.trans rfl) x Lq
   | true =>
    simp only[go_sem,NB,W,a7G,e1];refine aA (L.inn B.model 0 ((f.a5W.length:Int)-1)) rfl ?_;cases k0:within B.model 0 ((f.a5W.length:Int)-1) with
    | false =>simp only[go_sem,tR,q];exact fin false y _ _ hlt (by rw[d,k0]<;>simp) x Lq
    | true =>
     simp only[go_sem,W,a7G,e2];refine aA (L.inn B.machine 0 ((f.a5Y.length:Int)-1)) rfl ?_;cases k1:within B.machine 0 ((f.a5Y.length:Int)-1) with
     | false =>simp only[go_sem,tR,q];exact fin false y _ _ hlt (by rw[d,k0,k1]<;>simp) x Lq
     | true =>
      obtain⟨p0,p1⟩:=within_iff.1 k1;obtain⟨p,hp⟩:∃ p:Nat,B.machine=p:=⟨B.machine.toNat,by omega⟩;have R:p<f.a5Y.length:=Om;obtain⟨lv,M⟩:∃ lv,(f.a5Y.map cD.level).getD B.machine.toNat 0=lv:=⟨_,rfl⟩;have ε:(f.a5Y[p]).level=lv:=by rw[← M,hp,a9A,getD_at R]
      rw[M] at d;have Q:=fG R;simp only[go_sem,W,hp,Q,ε,tR,q];exact fin _ y _ _ hlt (by rw[d,k0,k1]<;>simp) x Lq
 ·have l:¬ ((i:Nat):Int)<(f.a5V.length:Nat):=Om;have:i=n:=Om;subst this;simp only[go_sem,l];exact Up.up Lq (A hc.symm)
theorem bb {xs:List Int} {k:Nat} (h:k<xs.length):(xs.map fun x=>[PV.int .i64 x])[k]?=some [.int .i64 xs[k]]:=by simp[h]
def zpF (f:aE) (w:PV) (o i:Nat) (c:Bool) (j:Nat):PF:=(((((((PF.nil.set 1 (.bH f.cells)).set 6 (w)).set 7 (.aB)).set 8 (.bool c)).set 17 (.int .i64 i)).set 18 (.ptr o 17 0 0)).set 19 (.int .i64 j))
theorem aNK {C:Ctx} (f:aE) (w:PV) (o i:Nat) (p:bS) (M:p.a5W.length≤9223372036854775807) (j:Nat) (B:j<p.a5W.length) (b:Bool) (K:bR) [Up K] (F:PF) (H:PH) (E:H o=some (.rows 17 [p.cells])) (y:((zpF f w o i b j).set 20 (.int .i64 0)).le F)
  (A:K (.exit 12) (zpF f w o i (b&&(p.a5W.take j).all fun x=>x != p.a5W[j]) j) H):aC.wp C (.loop MV) K F H:=by
 refine wp_loop (α:=Nat) (fun k=>(zpF f w o i (b&&(p.a5W.take k).all fun x=>x != p.a5W[j]) j).set 20 (.int .i64 k)) (fun _=>H) (fun k=>k≤j) (fun k=>j-k) 0 (a7N _) (by
   have e:(b&&(p.a5W.take 0).all fun x=>x != p.a5W[j])=b:=by cases b<;>rfl
   simp only[e];exact y) b_ ?_
 intro k J;have q:∀ h:k<p.a5W.length,(b&&(p.a5W.take (k+1)).all fun x=>x != p.a5W[j])=((b&&(p.a5W.take k).all fun x=>x != p.a5W[j])&&(p.a5W[k] != p.a5W[j])):=fun h=>by rw[a9E h,List.all_append];simp[baI]
 have fin:∀ (c:Bool) (u:PF),k<j→(b&&(p.a5W.take (k+1)).all fun x=>x != p.a5W[j])=c→((zpF f w o i c j).set 20 (.int .i64 (k+1:Nat))).le u→fJ (fun k:Nat=>(zpF f w o i (b&&(p.a5W.take k).all fun x=>x != p.a5W[j]) j).set 20 (.int .i64 k)) (fun _=>H) (fun k=>k≤j) (fun k=>j-k) (j-k) K .normal u H :=
  fun c u hlt e h=>aD (k+1) hlt Om (by rw[e]; exact h) b_
 unfold zpF at fin;simp only[go_sem,MV,tt,zpF];by_cases hlt:k<j
 ·have d:(k:Int)<(j:Nat):=Om;have l:k<p.a5W.length:=Om;have q:=q l;generalize (b&&(p.a5W.take k).all fun x=>x != p.a5W[j])=c at *
  simp only[go_sem,d];refine bW .nil eT a_ ?_;cases c with
  | false =>simp only[go_sem,NE,NF,wZz k];exact fin false _ hlt (q.trans rfl) Lq
  | true =>simp only[go_sem,NE,E,bb l,bb B,NF,wZz k];exact fin _ _ hlt (q.trans rfl) Lq
 ·have d:¬ (k:Int)<(j:Nat):=Om;have:k=j:=Om;subst this;simp only[go_sem,d];exact Up.up (by (repeat' (first|exact c_|refine d_ ?_ ?_))<;>first|(simp only[go_sem,zpF]<;>rfl)|rfl) A
def KK (a5W:Nat) (ms:List Int) (j:Nat):Bool:=within (ms.getD j 0) 0 ((a5W:Int)-1)&&(ms.take j).all fun x=>x != ms.getD j 0
theorem aCU {C:Ctx} (L:pU C) (f:aE) (U:f.a5W.length≤4) (w:PV) (o i:Nat) (p:bS) (S:p.a5W.length≤9223372036854775807) (b:Bool) (K:bR) [Up K] (F:PF) (H:PH) (B:H o=some (.rows 17 [p.cells])) (N:(zpF f w o i b 0).le F)
  (J:K (.exit 10) ((((((PF.nil.set 1 (.bH f.cells)).set 6 (w)).set 7 (.aB)).set 8 (.bool (b&&(a7H p.a5W.length).all (KK f.a5W.length p.a5W)))).set 17 (.int .i64 i))) H):aC.wp C (.loop xU) K F H:=by
 obtain⟨ok,y⟩:∃ ok,KK f.a5W.length p.a5W=ok:=⟨_,rfl⟩;rw[y] at J;refine wp_loop (α:=Nat) (fun j=>zpF f w o i (b&&(a7H j).all ok) j) (fun _=>H) (fun j=>j≤p.a5W.length) (fun j=>p.a5W.length-j) 0 (a7N _) (by
   have e:(b&&(a7H 0).all ok)=b:=by cases b<;>rfl
   simp only[e];exact N) b_ ?_
 intro j R;have l:=rG (p:=ok) j b;have u:=fun h=>rE (p:=ok) (b:=b) R h;have fin:∀ (c:Bool) (A:PF),j<p.a5W.length→(b&&(a7H (j+1)).all ok)=c→(zpF f w o i c (j+1)).le A→fJ (fun j:Nat=>zpF f w o i (b&&(a7H j).all ok) j) (fun _=>H) (fun j=>j≤p.a5W.length) (fun j=>p.a5W.length-j) (p.a5W.length-j) K .normal A H :=
  fun c A hlt e h=>aD (j+1) hlt Om (by rw[e]; exact h) b_
 unfold zpF at fin;have q:(b&&(a7H j).all ok)=(b&&(a7H p.a5W.length).all ok)→K (.exit 10) ((((((PF.nil.set 1 (.bH f.cells)).set 6 (w)).set 7 (.aB)).set 8 (.bool (b&&(a7H j).all ok))).set 17 (.int .i64 i))) H:=fun e=>by rw[e]; exact J
 generalize O:(b&&(a7H j).all ok)=c at *
 simp only[go_sem,xU,tp,zpF,B,a7G];by_cases hlt:j<p.a5W.length
 ·have d:(j:Int)<(p.a5W.length:Nat):=Om;cases c with
  | false =>simp only[go_sem,d];exact Up.up Lq (q (u rfl).symm)
  | true =>
   have M:=rz (Om:f.a5W.length≤1000);have Q:p.a5W.getD j 0=p.a5W[j]:=by simp[a7Z,hlt]
   have E:ok j=(within p.a5W[j] 0 ((f.a5W.length:Int)-1)&&(p.a5W.take j).all fun x=>x != p.a5W[j]):=by rw[← y];unfold KK;rw[Q]
   rw[E] at l;simp only[go_sem,d];refine bW .nil alB a_ ?_;simp only[go_sem,tq,B,bb hlt,a7G,M];refine bP rfl (L.inn p.a5W[j] 0 ((f.a5W.length:Int)-1)) Sq a_ ?_;simp only[go_sem,tr];refine aNK f w o i p S j hlt (within p.a5W[j] 0 ((f.a5W.length:Int)-1)) _ _ _ B (by (repeat' (first|exact c_|refine d_ ?_ ?_))<;>first|(simp only[go_sem,zpF]<;>rfl)|rfl) ?_;simp only[go_sem,zpF,tu,wZz j];exact fin _ _ hlt (l.trans rfl) Lq
 ·have d:¬ (j:Int)<(p.a5W.length:Nat):=Om;have:j=p.a5W.length:=Om;subst this;simp only[go_sem,d];exact Up.up Lq (q O.symm)
def Re (a5W:Nat) (p:bS):Bool:=KD p.k p.m p.a6T p.s0 p.s1 p.s2 p.s3 p.s4&&(PJ p.m p.repair p.target p.a6F&&(decide (p.a5W.length>0)&&(a7H p.a5W.length).all (KK a5W p.a5W)))
theorem aRF (a5W:Nat) (p:bS):jJ a5W p=Re a5W p:=by
 unfold jJ Re;rw[aQX,aUZ];have c:decide (p.a5W.length≠0)=decide (p.a5W.length>0):=decide_eq_decide.2 Om;have d:(a7H p.a5W.length).all (fun j=>within (p.a5W.getD j 0) 0 ((a5W:Int)-1)&&!(p.a5W.take j).contains (p.a5W.getD j 0))=(a7H p.a5W.length).all (KK a5W p.a5W):=by
  congr 1;funext j;unfold KK;congr 1;generalize p.a5W.getD j 0=x
  induction p.a5W.take j with
  | nil=>rfl
  | cons a t e =>rw[List.contains_cons,List.all_cons,← e,Bool.not_or,bne,BEq.comm]
 rw[c,d];cases KD p.k p.m p.a6T p.s0 p.s1 p.s2 p.s3 p.s4<;>cases PJ p.m p.repair p.target p.a6F<;>cases decide (p.a5W.length>0)<;>simp
structure UL (C:Ctx):Prop extends pU C where
 dur:∀ (m:Int) (rep:List RF),jS rep→∀ t h:RF,t.Ok→h.Ok→aH C 69 [.int .i64 m,frs rep,.agg t.cells,.agg h.cells] .nil (aF (.bool (PJ m rep t h)))
def kT (f:aE):List (List UInt8):=f.a5Z.map bS.name
def KJ (f:aE) (i:Nat):Bool:=match f.a5Z[i]? with
 | some p=>Re f.a5W.length p
 | none=>false
def ml (f:aE):Bool:=(a7H f.a5Z.length).all (okL [] (kT f) (KJ f))
theorem aUE {C:Ctx} (L:UL C) (f:aE) (hf:f.Ok) (δ:f.a5Z.length≤4) (Z:f.a5W.length≤4) (b:Bool) (K:bR) [Up K] (F:PF) (H:PH)
  (hF:((((((PF.nil.set 1 (.bH f.cells)).set 6 (.aB)).set 7 (.aB)).set 8 (.bool b)).set 17 (.int .i64 0)):PF).le F)
  (S:∀ H',K (.exit 8) ((((PF.nil.set 1 (.bH f.cells)).set 7 (.aB)).set 8 (.bool (b&&ml f)))) H'):aC.wp C (.loop xV) K F H:=by
 obtain⟨ok,E⟩:∃ ok,okL [] (kT f) (KJ f)=ok:=⟨_,rfl⟩;unfold ml at S;rw[E] at S;have γ:(kT f).length=f.a5Z.length:=by simp[kT]
 refine wp_loop (α:=Nat × PV × PH) (fun s=>(((((PF.nil.set 1 (.bH f.cells)).set 6 (s.2.1)).set 7 (.aB)).set 8 (.bool (b&&(a7H s.1).all ok))).set 17 (.int .i64 s.1))) (fun s=>s.2.2) (fun s=>s.1≤f.a5Z.length∧gX s.2.2 s.2.1 [] (kT f) (b&&(a7H s.1).all ok) s.1) (fun s=>f.a5Z.length-s.1)
  (0,.aB,H) ⟨a7N _,⟨[],aN.nil.nB 1,fun _=>rfl⟩⟩ (by
   have e:(b&&(a7H 0).all ok)=b:=by cases b<;>rfl
   simp only[e];exact hF) b_ ?_
 rintro⟨i,w,O⟩ ⟨hi,hG⟩;simp only at hi hG ⊢;have fin:∀ (c:Bool) (x:PV) (y:PF) (H':PH),i<f.a5Z.length→(b&&(a7H (i+1)).all ok)=c→gX H' x [] (kT f) true (i+1) →
   ((((((PF.nil.set 1 (.bH f.cells)).set 6 (x)).set 7 (.aB)).set 8 (.bool c)).set 17 (.int .i64 (i+1:Nat))):PF).le y →
   fJ (fun s:Nat × PV × PH=>(((((PF.nil.set 1 (.bH f.cells)).set 6 (s.2.1)).set 7 (.aB)).set 8 (.bool (b&&(a7H s.1).all ok))).set 17 (.int .i64 s.1))) (fun s=>s.2.2) (fun s=>s.1≤f.a5Z.length∧gX s.2.2 s.2.1 [] (kT f) (b&&(a7H s.1).all ok) s.1) (fun s=>f.a5Z.length-s.1) (f.a5Z.length-i) K .normal y H' :=
  fun c x y H' hlt hb Q A=>aD (i+1,x,H') ⟨hlt,Q.xi⟩ (by simp only; omega) (by simp only; rw[hb]; exact A) b_
 have d:=rG (p:=ok) i b;have B:=fun h=>rE (p:=ok) (b:=b) hi h;have u:(b&&(a7H i).all ok)=(b&&(a7H f.a5Z.length).all ok)→K (.exit 8) ((((PF.nil.set 1 (.bH f.cells)).set 7 (.aB)).set 8 (.bool (b&&(a7H i).all ok)))) O:=fun e=>by rw[e]; exact S O
 generalize hc:(b&&(a7H i).all ok)=c at *
 simp only[go_sem,xV,ti,a7G];by_cases hlt:i<f.a5Z.length
 ·have l:(i:Int)<(f.a5Z.length:Nat):=Om;cases c with
  | false =>simp only[go_sem,l];exact Up.up Lq (u (B rfl).symm)
  | true =>
   obtain⟨β,g1,g3⟩:=hG.ex;have U:=Wu hlt;have X:i<(kT f).length:=Om;have Y:(kT f)[i]=(f.a5Z[i]).name:=by simp[kT]
   have J:ok i=(jH ([]++(kT f).take i) ((kT f).getD i [])&&Re f.a5W.length f.a5Z[i]):=by rw[← E];unfold okL KJ;rw[a7U hlt]
   have q:=hf.a6H _ (a7J hlt);rw[J] at d;unfold Re at d;have M:IntKind.i64.wrap ((i:Int)+1)=((i+1:Nat):Int):=cZ Om;simp only[go_sem,l,tj,U];refine aR fun o ho=>?_;have g4:=g1.new ho (.rows 17 [(f.a5Z[i]).cells]);have g5:=g4.at 0 rfl;simp only[go_sem];generalize O.set o (.rows 17 [(f.a5Z[i]).cells])=H2 at *
   simp only[go_sem,tk,g5];refine gX.call L.tooG (ns:=kT f) g4 (a7N _) Om (g3 rfl) X (by simp only[go_sem,Y]) fun x H1 h1 R=>?_;have N:=h1.at 0 rfl;generalize jH ([]++(kT f).take i) ((kT f).getD i [])=fb at *
   generalize hd:f.a5Z[i]=p at *
   have rest:∀ (c:Bool) (y:PF),(zpF f x o i c 0).le y→(c&&(a7H p.a5W.length).all (KK f.a5W.length p.a5W))=(b&&(a7H (i+1)).all ok) →
     aC.wp C (.loop xU) (eX 10 (eX 9 (gE C (aC.wp C (.region NG)) (fJ (fun s:Nat × PV × PH=>(((((PF.nil.set 1 (.bH f.cells)).set 6 (s.2.1)).set 7 (.aB)).set 8 (.bool (b&&(a7H s.1).all ok))).set 17 (.int .i64 s.1))) (fun s=>s.2.2) (fun s=>s.1≤f.a5Z.length∧gX s.2.2 s.2.1 [] (kT f) (b&&(a7H s.1).all ok) s.1) (fun s=>f.a5Z.length-s.1) (f.a5Z.length-i) K)))) y H1:=by
    intro c y A V;refine aCU L.topU f Z x o i p q.a5W c _ _ _ N A ?_;rw[V];simp only[go_sem,NG,M];exact fin _ x _ _ hlt rfl R Lq
   cases fb with
   | false =>simp only[go_sem,ND,tT];exact rest false _ (by (repeat' (first|exact c_|refine d_ ?_ ?_))<;>first|(simp only[go_sem,zpF]<;>rfl)|rfl) (by rw[d]; rfl)
   | true =>
    simp only[go_sem,ND,N];refine aA (L.nums p.k p.m p.a6T p.s0 p.s1 p.s2 p.s3 p.s4) Sq ?_;cases k0:KD p.k p.m p.a6T p.s0 p.s1 p.s2 p.s3 p.s4 with
    | false =>simp only[go_sem,tT];exact rest false _ (by (repeat' (first|exact c_|refine d_ ?_ ?_))<;>first|(simp only[go_sem,zpF]<;>rfl)|rfl) (by rw[d,k0]; rfl)
    | true =>
     simp only[go_sem,N];refine aA (L.dur p.m p.repair q.repair p.target p.a6F q.target q.a6F) Sq ?_;cases k1:PJ p.m p.repair p.target p.a6F with
     | false =>simp only[go_sem,tT];exact rest false _ (by (repeat' (first|exact c_|refine d_ ?_ ?_))<;>first|(simp only[go_sem,zpF]<;>rfl)|rfl) (by rw[d,k0,k1]; rfl)
     | true =>have W:decide ((p.a5W.length:Int)>0)=decide (p.a5W.length>0):=decide_eq_decide.2 Om;simp only[go_sem,N,a7G,W,tT];exact rest _ _ (by (repeat' (first|exact c_|refine d_ ?_ ?_))<;>first|(simp only[go_sem,zpF]<;>rfl)|rfl) (by rw[d,k0,k1]; rfl)
 ·have l:¬ (i:Int)<(f.a5Z.length:Nat):=Om;have:i=f.a5Z.length:=Om;subst this;simp only[go_sem,l];exact Up.up Lq (u hc.symm)
end Go.PM
