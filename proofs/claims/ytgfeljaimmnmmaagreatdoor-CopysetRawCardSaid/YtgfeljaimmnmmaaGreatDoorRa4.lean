/-
  Texts of ours, joined: MkW15 MkW16 L11W1 R2Code R2W1 R2W2 R2W3 R2W4 R2W5 R2W6 R2W7 R2W8 Jn1 Jn2 L11P1 L11W2 L11W3 Mv1 Mv2 Mv3 Mv4 L11W4 Jn3 MkW17 MkW18 L11W5 Pm37 L11W6 L11P2 L11W7 L11W8 L11W9 L11W10 L11W11 L11W12 L11W13 Jn. No condition.
-/
import Derived.Test.YtgfeljaimmnmmaaGreatDoorRa1
import Derived.Test.YtgfeljaimmnmmaaGreatDoorRa2
import Derived.Test.YtgfeljaimmnmmaaGreatDoorRa3

set_option linter.unusedSimpArgs false
set_option linter.unusedVariables false
open Nat renaming reduceEqDiff → γ, reduceAdd → δ, reduceSub → ε, reduceMul → ζ, reduceLT → η, reduceLeDiff → θ, reduceBEq → τ
open Int renaming reduceLT → ι, reduceLE → κ, reduceEq → μ, reduceToNat → ν, reduceAdd → ξ, reduceNeg → ο, reduceBEq → ρ, reduceBNe → σ
open List renaming reduceReplicate → υ
open List renaming length_map → a6K, range → a6L, getElem_mem → a6M, replicate → a6N, length_append → a6T, mem_cons → a6V, length_singleton → a6X, getElem?_eq_getElem → a6Y, all_eq_true → a7B, getD_eq_getElem?_getD → a7C, length_take → a7D, take_of_length_le → a7F, not_mem_nil → a7G, getElem?_map → a7J, map_append → a7L, take_length → a7M, mem_map → a7N, mem_range → a7P, getElem?_eq_some_iff → a7T, append_assoc → a7V, drop_zero → a7W, getElem?_eq_none → a7Z, map_cons → a8B, length_cons → a8D, take_succ_eq_append_getElem → a8E, append_nil → a8H, drop_eq_getElem_cons → a8I, mem_append → a8J, range' → a8K, Sublist → a8L, length_set → a8M, getElem_map → a8P, length_drop → a8Q, map_nil → a8W, getElem?_append_left → a8Z, mem_singleton → a9A, getElem?_append_right → a9B, getElem_of_mem → a9C, mem_of_getElem? → a9D, length_nil → a9F, nodup_append → a9G, set_append_right → a9H, take_append_drop → a9I, ext_getElem → a9R, range_succ → a9U, all_append → a9X, getElem?_take → a9Y, drop_of_length_le → baE, length_filter_le → baF
open Nat renaming gcd → a6O, zero_le → a6Q, le_refl → a6S, mul_add → a6Z, lt_or_ge → a7H, zero_add → a7I, mul_assoc → a7K, mul_comm → a7O, add_mul → a7Q, mul_le_mul_right → a7R, le_trans → a7U, mod_eq_of_lt → a7X, mod_lt → a8A, pow_succ → a8C, add_zero → a8N, eq_zero_or_pos → a8R, min_eq_left → a8S, mul_le_mul_left → a8T, pos_of_ne_zero → a8U, add_assoc → a8X, pow_pos → a9E, pow_le_pow_right → a9J, div_lt_iff_lt_mul → a9M, sub_self → a9N, succ_mul → a9O, div_add_mod → a9Z, div_eq_of_lt → baA, div_le_self → baB
open Bool renaming not_true → a6P, false_and → a6R, true_and → a6W, not_false → a7A, and_eq_true → a7E, and_false → a7S, and_true → a8V, and_assoc → a9L, and_self → a9Q, false_eq_true → a9T
open Option renaming map_eq_some_iff → a6U, map_some → a7Y, some → a8Y, getD_some → a9K, bind_some → a9V, bind_eq_some_iff → baC
open Array renaming replicate → a8F, length_toList → a9P, getElem?_eq_some_iff → a9S, getElem?_eq_getElem → a9W, getD_eq_getD_getElem? → baD
open Int renaming toNat_natCast → a8G, tdiv → a8O
namespace Go.PM
open Go Go.Na
theorem Vk {C:Ctx} (U:lO C) {l:List Nat} {v:PV} (T:Tp l v) (E:FE) (c n a:Nat) (hn:n≤60) (β:c≤50) (ha:a≤l.length) (ext A B J M d:PV) (y:List bT) (R:y.length=c) (L:List LI) (K:bQ) (F:PF) (H:PH)
  (Z:(((fH E).set 18 (.int .i64 n)).set 19 (.int .i64 0)).le F) (w:aN H (E.boxes v ext A B J M d .aB a) ((d,17,lF y)::L))
  (hK:∀ u S H',(fH E).le S→aN H' (E.boxes v ext A B J M d u (gX l c a n).2) ((d,17,lF y)::L++[(u,2,nU (gX l c a n).1)])→K (.exit 8) S H') :
  aC.wp C (.loop IT) K F H:=by
 refine wp_loop (α:=Nat × PV × PH) (fun t=>((fH E).set 18 (.int .i64 n)).set 19 (.int .i64 t.1)) (fun t=>t.2.2) (fun t=>t.1≤n∧aN t.2.2 (E.boxes v ext A B J M d t.2.1 (gX l c a t.1).2) ((d,17,lF y)::L++[(t.2.1,2,nU (gX l c a t.1).1)])) (fun t=>n-t.1) (0,.aB,H) ⟨a6Q _,w.mV 2⟩ Z b_ ?_;rintro⟨i,u,X⟩ ⟨hi,w⟩;simp only at hi w ⊢;obtain⟨k1,k2⟩:=YC l c ha i;have x:gX l c a (i+1)=((gX l c a i).1++[⟨[118]++cT i,((aK l c (gX l c a i).2).1:Nat)⟩],(aK l c (gX l c a i).2).2):=rfl;simp only[go_sem,IT,kh,fH];by_cases hlt:i<n
 ·have p:(i:Int)<(n:Nat):=Om;generalize hg:gX l c a i=g at *
  have V:=w.set 0 rfl (bN v (aK l c g.2).2);generalize O:aK l c g.2=z at *
  have b1:=w.at 1 rfl;have W:=(w.own 0 rfl).sL;rw[a6K,R] at W;have N:(PH.nil.set E.o7 (flB ext A B J M d u)).le X:=PH.aJ a_ b1;simp only[go_sem,p];refine bV (PH.nil.set E.o7 (flB ext A B J M d u)) (mkS l v) N ?_;simp only[go_sem,ki];refine HD U.toqN (s:=[118]) (n:=i) (by decide) Om rfl N ?_;simp only[go_sem,W];refine rE U.toAS T (o:=E.o) (n:=c) (a:=g.2) Om k1 rfl (w.at 0 rfl) ?_ ?_
  ·rw[O]; exact PH.aJ a_ (V.at 1 rfl)
  rw[O];have Q:(1:Nat)*2≤16777216:=by decide
  simp only[go_sem,Q,a6V,a7G,or_false,forall_eq,forall_eq_or_imp];refine V.append (v:=u) (s:=2) (rows:=nU g.1) (L.length+1) (src:=[(⟨[118]++cT i,(z.1:Nat)⟩:eO).cells]) (by simp) rfl (by unfold roomFor; rw[a6K]; simp only[a6X,maxLen]; omega) fun w' H2 h5 hw=>?_;obtain⟨q,rfl⟩:=hw (by simp);rw[show ((d,17,lF y)::L++[(u,2,nU g.1)])=((d,17,lF y)::L)++[(u,2,nU g.1)] from rfl,a9H _ _ (by simp),show L.length+1-((d,17,lF y)::L).length=0 by simp] at h5;have b2:=h5.at 1 rfl;refine⟨PH.aJ a_ b2,?_⟩;refine bV .nil eM a_ ?_;simp only[go_sem,kj,b2,a6V,a7G,or_false,forall_eq];have Y:=h5.set 1 rfl (flB ext A B J M d (.osl q 2 0 (nU g.1++[(⟨[118]++cT i,(z.1:Nat)⟩:eO).cells]).length));refine⟨a_,?_⟩;simp only[go_sem,kk,wZz i];refine aD (i+1,.osl q 2 0 (nU g.1++[(⟨[118]++cT i,(z.1:Nat)⟩:eO).cells]).length,_) ⟨hlt,?_⟩ (by simp only; omega) ?_ b_
  ·rw[x];have e:nU (g.1++[⟨[118]++cT i,(z.1:Nat)⟩])=nU g.1++[(⟨[118]++cT i,(z.1:Nat)⟩:eO).cells]:=by simp[nU]
   simp only;rw[e];exact Y
  ·exact Lq
 ·have p:¬ (i:Int)<(n:Nat):=Om;have:i=n:=Om;subst this;simp only[go_sem,p];exact hK u _ _ (UR rfl rfl rfl rfl rfl) w
def EW (l:List Nat) (v:PV) (o a4Z a5B a:Nat) (r:PV) (H:PH):Prop:=Co r (.agg (kT l a4Z a5B a).1.cells)∧H=PH.nil.set o (bN v (kT l a4Z a5B a).2)
structure el (C:Ctx):Prop extends lO C where
 grow:∀ (l:List Nat) (v:PV),Tp l v→∀ (mc a4Z:Nat),0<mc→mc≤1000→a4Z≤60→ef C l v mc a4Z 4
theorem Ae {C:Ctx} (N:el C) {l:List Nat} {v:PV} (T:Tp l v) (o a4Z a5B a:Nat) (ω:a4Z≤60) (Ξ:a5B≤50) (ha:a≤l.length) :
  CS.wp C (aV jw.res (EW l v o a4Z a5B a)) (PF.args [.ptr o 2 0 0,.int .i64 a4Z,.int .i64 a5B]) (PH.nil.set o (bN v a)):=by
 have hT:kT l a4Z a5B a=kT l a4Z a5B a:=rfl
 conv at hT=>rhs; unfold kT
 dsimp only at hT;have hR:∀ r H,EW l v o a4Z a5B a r H↔Co r (.agg (kT l a4Z a5B a).1.cells)∧H=PH.nil.set o (bN v (kT l a4Z a5B a).2):=fun _ _=>Iff.rfl;have ne:=eV l (show 0<2 by decide) a;have ae:=bR l 2 ha;generalize he:aK l 2 a=e at *
 have Φ:=eV l (show 0<2 by decide) e.2;have δ:=bR l 2 ae;generalize Γ:aK l 2 e.2=M at *
 obtain⟨O,β⟩:=ai l δ (1+M.1);generalize Y:nI l M.2 (1+M.1)=a5G at *
 have Ψ:=eV l (show 0<2 by decide) a5G.2;have ε:=bR l 2 O;generalize Δ:aK l 2 a5G.2=d at *
 obtain⟨Q,V⟩:=JI l (1+M.1) ε (1+d.1);generalize S:hM l (1+M.1) d.2 (1+d.1)=a5A at *
 have θ:GOk l a4Z ⟨[uX],[],a5A.2⟩:=⟨by simp,a6Q _,Q⟩;obtain⟨hG,-⟩:=ZL (mc:=1+d.1) 4 0 θ;generalize hg:fF l (1+d.1) a4Z 4 0 ⟨[uX],[],a5A.2⟩=g at *
 have Ω:=eV l (show 0<2 by decide) g.a;have ζ:=bR l 2 hG.a;generalize Λ:aK l 2 g.a=pl at *
 obtain⟨R,γ⟩:=zU l (1+d.1) ζ (1+pl.1);generalize Z:fU l (1+d.1) pl.2 (1+pl.1)=pols at *
 have a':=eV l (Om:0<a5B+1) pols.2;have ο:=bR l (a5B+1) R;generalize ν:aK l (a5B+1) pols.2=vo at *
 generalize α:gX l (1+pl.1) vo.2 vo.1=vols at *
 have ee:IntKind.i64.wrap (1+(e.1:Int))=((1+e.1:Nat):Int):=by rw[wrap_i64 Om Om]; omega
 have ρ:IntKind.i64.wrap (1+(M.1:Int))=((1+M.1:Nat):Int):=by rw[wrap_i64 Om Om]; omega
 have σ:IntKind.i64.wrap (1+(d.1:Int))=((1+d.1:Nat):Int):=by rw[wrap_i64 Om Om]; omega
 have τ:IntKind.i64.wrap (1+(pl.1:Int))=((1+pl.1:Nat):Int):=by rw[wrap_i64 Om Om]; omega
 have υ:IntKind.i64.wrap ((a5B:Int)+1)=((a5B+1:Nat):Int):=cW Om;have h0:aN (PH.nil.set o (bN v a)) [(o,bN v a)] []:=aN.nil.new (H:=PH.nil) rfl (bN v a);simp only[go_sem,CS,Af,jw];refine aR fun o6 ι=>?_;have i:=h0.new ι flZ;simp only[go_sem,Ag];refine dJ N.toAS T (o:=o) (n:=2) (a:=a) (by decide) ha rfl (i.at 0 rfl) ?_;have u:=i.set 0 rfl (bN v e.2);rw[he];simp only[go_sem,ee];refine aR fun o7 κ=>?_;have B:=u.new κ (flB (.int .i64 (1+e.1:Nat)) .aB .aB .aB .aB .aB .aB);simp only[go_sem,Ah,a6V,a7G,or_false,forall_eq,forall_eq_or_imp];refine dJ N.toAS T (o:=o) (n:=2) (a:=e.2) (by decide) ae rfl (B.at 0 rfl) ?_;have h4:=B.set 0 rfl (bN v M.2);rw[Γ];have h5:=h4.perm (B':=FE.boxes ⟨o,o6,o7,a4Z,a5B⟩ v (.int .i64 (1+e.1:Nat)) .aB .aB .aB .aB .aB .aB M.2) (L':=[]) (List.Perm.cons _ (List.Perm.swap _ _ _)) (List.Perm.refl _);obtain⟨E,c⟩:∃ E:FE,E=⟨o,o6,o7,a4Z,a5B⟩:=⟨_,rfl⟩;rw[← c] at h5;simp only[go_sem,ρ,Ai];refine aFW (C:=C) N.tolO T E (1+M.1) M.2 Om δ _ _ _ _ ?_ h5 ?_
 ·rw[c];unfold fH;exact Lq
 clear h5 h4 B u i h0 ι κ;intro p F1 H1 F i;rw[Y] at i;have f0:F1 0=some (.ptr o 2 0 0):=F 0 _ (by rw[c]; unfold fH; simp only[go_sem]);have f1:F1 1=some (.int .i64 a4Z):=F 1 _ (by rw[c]; unfold fH; simp only[go_sem]);have f2:F1 2=some (.int .i64 a5B):=F 2 _ (by rw[c]; unfold fH; simp only[go_sem]);have f6:F1 6=some (.ptr o6 7 0 0):=F 6 _ (by rw[c]; unfold fH; simp only[go_sem]);have f7:F1 7=some (.ptr o7 7 0 0):=F 7 _ (by rw[c]; unfold fH; simp only[go_sem]);have W:=i.at 0 rfl;rw[c] at W;simp only[go_sem,jx,f0];refine dJ N.toAS T (o:=o) (n:=2) (a:=a5G.2) (by decide) O rfl W ?_;have u:=i.set 0 rfl (bN v d.2);rw[Δ];simp only[go_sem,σ,jy];refine akP (C:=C) N.tolO T E (1+d.1) d.2 (1+M.1) Om Om ε (.int .i64 (1+e.1:Nat)) p a5G.1 β _ _ _ ?_ (by rw[c] at u ⊢; exact u) ?_
 ·rw[c];unfold fH;exact Lq
 clear W u i f0 f1 f2 f6 f7 F;intro w2 F2 H2 J f11 u;rw[S] at u;have f0:F2 0=some (.ptr o 2 0 0):=J 0 _ (by rw[c]; unfold fH; simp only[go_sem]);have f1:F2 1=some (.int .i64 a4Z):=J 1 _ (by rw[c]; unfold fH; simp only[go_sem]);have f2:F2 2=some (.int .i64 a5B):=J 2 _ (by rw[c]; unfold fH; simp only[go_sem]);have f6:F2 6=some (.ptr o6 7 0 0):=J 6 _ (by rw[c]; unfold fH; simp only[go_sem]);have f7:F2 7=some (.ptr o7 7 0 0):=J 7 _ (by rw[c]; unfold fH; simp only[go_sem]);obtain⟨qm,μ⟩:=(u.own 1 rfl).one (by rw[a6K]; omega);rw[a6K,V] at μ;subst μ;have χ:(1:Nat)*7≤16777216:=by decide
 simp only[go_sem,j5];refine aA (N.int 0 (by unfold dE; omega)) rfl ?_;simp only[go_sem,a6V,a7G,or_false,forall_eq,forall_eq_or_imp,χ];refine aR fun od Θ=>?_;have B:=u.alR (s:=7) (rows:=jQ [uX]) Θ;have b7:=u.at 1 rfl;rw[c] at b7;have n7:¬ o7=od:=by have:=B.neL 1 2 rfl rfl rfl;rw[c] at this; exact this
 simp only[go_sem,f7,b7,n7,a6V,a7G,or_false,forall_eq];have h4:=(B.set 1 rfl (flB (.int .i64 (1+e.1:Nat)) p (.osl qm 4 0 (1+d.1)) (.osl od 7 0 1) .aB .aB .aB)).mV 3;rw[c] at h4;have h5:=h4.perm (B':=(GE.mk o o7 qm (.int .i64 (1+e.1:Nat)) p .aB .aB).boxes v (1+d.1) (.osl od 7 0 1) .aB a5A.2++[(o6,flZ)]) (L':=lC ⟨[uX],[],a5A.2⟩ (.osl od 7 0 1) .aB++[(p,4,gQ a5G.1),(.osl qm 4 0 (1+d.1),4,jJ a5A.1)]) (List.Perm.refl _)
  (List.perm_append_comm (l₁:=[(p,4,gQ a5G.1),(.osl qm 4 0 (1+d.1),4,jJ a5A.1)]) (l₂:=lC ⟨[uX],[],a5A.2⟩ (.osl od 7 0 1) .aB))
 simp only[go_sem,j6,f0,f1,f7];refine EO h5 (fun H0 ψ=>N.grow l v T (1+d.1) a4Z Om Om ω (GE.mk o o7 qm (.int .i64 (1+e.1:Nat)) p .aB .aB) (.osl od 7 0 1) .aB ⟨[uX],[],a5A.2⟩ 0 uX θ rfl rfl H0 ψ) (by simp only[go_sem,f0,f1,f7]; rfl) ?_;rintro r B' L' H3 ⟨rfl,y,A,rfl,rfl⟩ h6;rw[hg] at h6;have h7:=h6.perm (B':=E.boxes v (.int .i64 (1+e.1:Nat)) p (.osl qm 4 0 (1+d.1)) y A .aB .aB g.a) (L':=[(p,4,gQ a5G.1),(.osl qm 4 0 (1+d.1),4,jJ a5A.1),(y,7,jQ g.a5I),(A,3,lY g.a5S)]) (by rw[c]; exact List.Perm.refl _)
  (List.perm_append_comm (l₁:=lC g y A) (l₂:=[(p,4,gQ a5G.1),(.osl qm 4 0 (1+d.1),4,jJ a5A.1)]))
 have W:=h7.at 0 rfl;rw[c] at W;simp only[go_sem,j7,f0];refine dJ N.toAS T (o:=o) (n:=2) (a:=g.a) (by decide) hG.a rfl W ?_;have h8:=h7.set 0 rfl (bN v pl.2);rw[Λ];simp only[go_sem,τ,j8];refine Nz (C:=C) N.tolO T E (1+d.1) (1+pl.1) pl.2 Om Om Om ζ ((1+e.1:Nat):Int) p (.osl qm 4 0 (1+d.1)) y A a5G.1 a5A.1 g.a5I g.a5S _ _ _ (by rw[c]; exact⟨by simp only[go_sem,f0],by simp only[go_sem,f1],by simp only[go_sem,f2],by simp only[go_sem,f6],by simp only[go_sem,f7],by simp only[go_sem,f11],by simp only[go_sem],by simp only[go_sem]; rfl⟩) (by rw[c] at h8 ⊢; exact h8) ?_;clear h8 h7 h6 h5 h4 B u W b7 f0 f1 f2 f6 f7 J;intro X F4 H4 K i;rw[Z] at i;have f0:F4 0=some (.ptr o 2 0 0):=K 0 _ (by rw[c]; unfold fH; simp only[go_sem]);have f1:F4 1=some (.int .i64 a4Z):=K 1 _ (by rw[c]; unfold fH; simp only[go_sem]);have f2:F4 2=some (.int .i64 a5B):=K 2 _ (by rw[c]; unfold fH; simp only[go_sem]);have f6:F4 6=some (.ptr o6 7 0 0):=K 6 _ (by rw[c]; unfold fH; simp only[go_sem]);have f7:F4 7=some (.ptr o7 7 0 0):=K 7 _ (by rw[c]; unfold fH; simp only[go_sem]);have W:=i.at 0 rfl;rw[c] at W;simp only[go_sem,kf,f0,f2,υ];refine dJ N.toAS T (o:=o) (n:=a5B+1) (a:=pols.2) Om R rfl W ?_;have u:=i.set 0 rfl (bN v vo.2);rw[ν];have B:=u.perm (B':=E.boxes v (.int .i64 (1+e.1:Nat)) p (.osl qm 4 0 (1+d.1)) y A X .aB vo.2) (L':=(X,17,lF pols.1)::[(p,4,gQ a5G.1),(.osl qm 4 0 (1+d.1),4,jJ a5A.1),(y,7,jQ g.a5I),(A,3,lY g.a5S)]) (List.Perm.refl _)
  (List.perm_append_comm (l₁:=[(p,4,gQ a5G.1),(.osl qm 4 0 (1+d.1),4,jJ a5A.1),(y,7,jQ g.a5I),(A,3,lY g.a5S)]) (l₂:=[(X,17,lF pols.1)]))
 simp only[go_sem,kg];refine Vk (C:=C) N.tolO T E (1+pl.1) vo.1 vo.2 Om Om ο _ _ _ _ _ X pols.1 γ _ _ _ _ ?_ (by rw[c] at B ⊢; exact B) ?_
 ·rw[c];unfold fH;exact Lq
 clear B u i W f0 f1 f2 f6 f7 K;intro w6 F5 H5 η i;rw[α] at i;have f6:F5 6=some (.ptr o6 7 0 0):=η 6 _ (by rw[c]; unfold fH; simp only[go_sem]);have f7:F5 7=some (.ptr o7 7 0 0):=η 7 _ (by rw[c]; unfold fH; simp only[go_sem]);rw[c] at i;have b7:=i.at 1 rfl;have b6:=i.at 2 rfl;have one:∀ (x:PV),x∈[p,y,A,X,w6]→(∃ q s n,x=.osl q s 0 n)∨x=.aB:=by
  intro x hx;have U:∀ {s:Nat} {rows:List (List PV)},bP H5 s x rows→(∃ q s n,x=.osl q s 0 n)∨x=.aB:=by
   rintro s rows (⟨_,h⟩ | ⟨q,rs,h,_⟩)
   ·exact .inr h
   ·exact .inl ⟨q,s,_,h⟩
  simp only[a6V,a7G,or_false] at hx;rcases hx with rfl | rfl | rfl | rfl | rfl
  ·exact U (i.own 1 rfl)
  ·exact U (i.own 3 rfl)
  ·exact U (i.own 4 rfl)
  ·exact U (i.own 0 rfl)
  ·exact U (i.own 5 rfl)
 have w:∀ (x:PV),x∈[p,y,A,X,w6]→PV.one x=true:=fun x hx=>by rcases one x hx with ⟨q,s,n,rfl⟩ | rfl<;>rfl
 have o1:=w p (by simp);have o3:=w y (by simp);have o4:=w A (by simp);have o5:=w X (by simp);have ξ:=w w6 (by simp);simp only[PV.one] at o1 o3 o4 o5 ξ;simp only[go_sem,kn,f6,f7,b7,b6,a6V,a7G,or_false,forall_eq,forall_eq_or_imp,o1,o3,o4,o5,ξ];have u:=i.set 2 rfl (flB (.int .i64 (1+e.1:Nat)) p (.osl qm 4 0 (1+d.1)) y A X w6);have B:=u.sub (B':=[(o,bN v vols.2)]) (a8L.cons_cons _ (List.nil_sublist _)) (a8L.refl _);obtain⟨φ,H6,k1,k2,k3,k4⟩:=aN.giveUp _ B (fun x hx=>by
  simp only[List.cons_append,List.nil_append,a6V,a7G,or_false] at hx;rcases hx with rfl | rfl | rfl | rfl | rfl | rfl
  ·exact acW _
  ·exact Zz _
  ·exact Z1 _
  ·exact Xq _
  ·exact Xs _
  ·exact aTB _) (fun b hb q s rs=>by
  simp only[a6V,a7G,or_false] at hb;subst hb;simp only[cC.frz,a8B,a8W,T.frz];rfl)
 refine yM (vs:=[.agg [.int .i64 (1+e.1:Nat),p,.osl qm 4 0 (1+d.1),y,A,X,w6]]) (.inr rfl) (by simp only[go_sem,f6]) (k4 _ _ (.done (H2:=PH.nil.set o (bN v vols.2)) ?_ (PH.aJ a_ (k3.at 0 rfl))));rw[hR,hT];refine⟨CoL.agg ?_,rfl⟩;have s5:=k1 (X,17,lF pols.1) (by simp);have s1:=k1 (p,4,gQ a5G.1) (by simp);have s2:=k1 (.osl qm 4 0 (1+d.1),4,jJ a5A.1) (by simp);have s3:=k1 (y,7,jQ g.a5I) (by simp);have s4:=k1 (A,3,lY g.a5S) (by simp);have s6:=k1 (w6,2,nU vols.1) (by simp);have s0:φ (.int .i64 (1+e.1:Nat))=.int .i64 (1+e.1:Nat):=k2 _ rfl;show CoL [φ (.int .i64 (1+e.1:Nat)),φ p,φ (.osl qm 4 0 (1+d.1)),φ y,φ A,φ X,φ w6] _;rw[s0];exact CoL.cons (.refl _) (CoL.cons s1.co (CoL.cons s2.co (CoL.cons s3.co (CoL.cons s4.co (CoL.cons s5.co (CoL.cons s6.co .nil))))))
structure Hr (C:Ctx):Prop extends el C where
 new:∀ (l:List Nat),(∀ x∈l,x<256)→l.length≤9223372036854775807→aG C 28 [.sl 1 (mP l)] .nil (ahU l)
 fleet:∀ (l:List Nat) (v:PV),Tp l v→∀ (o a4Z a5B a:Nat),a4Z≤60→a5B≤50→a≤l.length →
  aG C 0 [.ptr o 2 0 0,.int .i64 a4Z,.int .i64 a5B] (PH.nil.set o (bN v a)) (fun r H=>r=.agg (kT l a4Z a5B a).1.cells∧H=PH.nil.set o (bN v (kT l a4Z a5B a).2))
theorem EW.exact {C:Ctx} {name:Nat} {args:List PV} {H:PH} {l:List Nat} {v:PV} {o a4Z a5B a:Nat} (h:aG C name args H (EW l v o a4Z a5B a)):aG C name args H (fun r H=>r=.agg (kT l a4Z a5B a).1.cells∧H=PH.nil.set o (bN v (kT l a4Z a5B a).2)) :=
 h.post fun r H' c=>⟨_,c.1,rfl,c.2⟩
theorem atA {C:Ctx} (p:Hr C) (l:List Nat) (u:∀ x∈l,x<256) (w:l.length≤9223372036854775807) (a4Z a5B:Nat) (c:a4Z≤60) (i:a5B≤50) :
  CQ.wp C (aV js.res (bX (.agg (kT (l.take 400) a4Z a5B 0).1.cells))) (PF.args [.sl 1 (mP l),.int .i64 a4Z,.int .i64 a5B]) .nil:=by
 simp only[go_sem,CQ,z8,js];refine aR fun o6 y=>?_;simp only[go_sem,Aa];refine kJ (p.new l u w) rfl a_ ?_;rintro r H' ⟨o,v,rfl,T,rfl⟩ q;have d:¬ o6=o:=by intro e;subst e;have:=q o6 (bN v 0) (by rw[aT,if_pos rfl]) rfl;rw[aT,if_pos rfl] at this;cases this
 rw[PH.pG];simp only[go_sem];refine mK (p.fleet _ v T o a4Z a5B 0 c i (a6Q _)) (by rw[aT,if_pos rfl]) rfl ?_;simp only[go_sem,d];exact bA (vs:=[.agg (kT (l.take 400) a4Z a5B 0).1.cells]) (.inr rfl) .nil Sq a_ ⟨.refl _,rfl⟩
theorem CoL.a2K:CoL [] []:=⟨rfl,fun j p q h=>by simp at h⟩
theorem CoL.aiT {p q:PV} {ps d:List PV} (h:Co p q) (c:CoL ps d):CoL (p::ps) (q::d):=by
 refine⟨by simp[c.len],fun j x y a b=>?_⟩;cases j with
 | zero =>simp only[List.getElem?_cons_zero,a8Y.injEq] at a b;subst a; subst b; exact h
 | succ j=>exact c.at_ j x y (by simpa using a) (by simpa using b)
theorem aG.seen {C:Ctx} {name:Nat} {args:List PV} {H:PH} {v:PV} (h:aG C name args H (bX v)):aG C name args H (aF v) :=
 h.post fun r H' c=>⟨v,c.1,rfl,c.2⟩
def UZ (x:RF):Bool:=(x.num.all (fun n=>decide (n<4294967296))&&x.den.all fun n=>decide (n<4294967296))&&(decide (x.num.length≤9)&&decide (x.den.length≤9))
theorem KK {x:RF} (h:UZ x=true):x.Ok:=by
 simp only[UZ,a7E,a7B,decide_eq_true_eq] at h;exact⟨h.1.1,h.1.2,by omega,by omega⟩
def FZ (l:List RF):Bool:=decide (l.length≤9)&&l.all UZ
theorem BO {l:List RF} (h:FZ l=true):gY l:=by
 simp only[FZ,a7E,a7B,decide_eq_true_eq] at h;exact⟨by unfold Fits; omega,fun x c=>KK (h.2 x c)⟩
def Nb (x:cG):Bool:=(FZ x.start&&FZ x.exit)&&(decide (x.a5E.length≤9)&&x.a5E.all FZ)
theorem asB {x:cG} (h:Nb x=true):x.Ok:=by
 simp only[Nb,a7E,a7B,decide_eq_true_eq] at h;exact⟨BO h.1.1,BO h.1.2,by unfold Fits; omega,fun r c=>BO (h.2.2 r c)⟩
def Qk (x:bT):Bool:=(decide (dE x.k∧dE x.m∧dE x.a5X)&&(decide (x.a5A.length≤9)&&x.a5A.all fun m=>decide (dE m)))&&(FZ x.repair&&(UZ x.target&&UZ x.a5J))
theorem auN {x:bT} (h:Qk x=true):x.Ok:=by
 simp only[Qk,a7E,a7B,decide_eq_true_eq] at h;exact⟨h.1.1.1,h.1.1.2.1,h.1.1.2.2,by unfold Fits; omega,h.1.2.2,BO h.2.1,KK h.2.2.1,KK h.2.2.2⟩
def okB (f:aE):Bool:=(decide (f.a5G.length≤99∧f.a5A.length≤99∧f.a5C.length≤99∧f.a4Z.length≤99∧f.a5D.length≤99∧f.a5B.length≤99)&&(f.a5G.all Nb&&f.a5D.all Qk)) &&
 (f.a5C.all (fun x=>UZ x.a5O&&decide (dE x.level∧dE x.parent))&&(f.a4Z.all (fun x=>decide (dE x.model∧dE x.machine))&&f.a5B.all fun x=>decide (dE x.a5L)))
theorem aVF {f:aE} (h:okB f=true):f.Ok:=by
 simp only[okB,a7E,a7B,decide_eq_true_eq] at h;obtain⟨⟨⟨p,q,u,w,y,A⟩,e,i⟩,d,l,h5⟩:=h;exact⟨by unfold Fits; omega,by unfold Fits; omega,by unfold Fits; omega,by unfold Fits; omega,by unfold Fits; omega,by unfold Fits; omega,fun x c=>asB (e x c),fun x c=>⟨KK (d x c).1,(d x c).2⟩,l,fun x c=>auN (i x c),h5⟩
def Dp:Rg:=[iZ 4]
def Dq:Rg:=[iZ 5]
def Dr:Rg:=[iA 6 (.mv (.const (.int .u64 0)))]
def Ds:Rg:=[iI 7 0]
def Dt:Rg:=[iM 10 7,iM 11 0,iN 12 11,iB 13 .lss 10 12]
def Du:Rg:=[iM 16 6,iM 8 16]
def Dv:Rg:=[iM 17 7,iM 18 1,iN 19 18,iB 20 .lss 17 19]
def Dw:Rg:=[iM 21 8,iM 22 1,iM 23 7,iX 24 1 22 23,iL 25 24,iA 26 (.conv .u64 (Tm 25)),iB 27 .add 21 26,iM 8 27]
def TB:Rg:=[iM 28 0,iM 29 7,iX 30 1 28 29,iL 31 30,iA 32 (.conv .u64 (Tm 31)),iM 9 32]
def TC:Rg:=[iA 6 (.mv (.const (.int .u64 0)))]
def LK:Rg:=[iM 33 9,iM 34 8,iB 35 .lss 33 34]
def LL:Rg:=[iM 36 9,iA 37 (.bin .add (Tm 36) (.const (.int .u64 4294967296))),iM 9 37]
def LM:Rg:=[iA 6 (.mv (.const (.int .u64 1)))]
def xM:Rg:=[iM 38 5,iM 39 9,iM 40 8,iB 41 .sub 39 40,iA 42 (.conv .u32 (Tm 41)),iA 43 (.a5F true 1 1 [(.int .u32 0)] [(0,(Tm 42))]),iA 44 (.append 1 4 (Tm 38) (Tm 43)),iM 5 44]
def xN:Rg:=[iM 14 7,iC 15 .add 14 1,iM 7 15]
def oq:aC:=(.seq (sq Dt (.cond (Tm 13) .skip (.exit 0))) (.seq (.block 1 (sq Du (.seq (sq Dv (.cond (Tm 20) (.region Dw) .skip)) (sq TB (sq TC (.seq (sq LK (.cond (Tm 35) (sq LL (.region LM)) .skip)) (.region xM))))))) (.region xN)))
def ot:Rg:=[iM 45 5,iK 46 38 45,iM 4 46]
def EG:aC:=(sq Dp (sq Dq (sq Dr (.seq (sq Ds (.block 0 (.loop oq))) (sq ot .ret)))))
def aAY:List Nat:=[43]
def oo:aS:=⟨2,47,EG,[.tmp 4]⟩
def S8:Rg:=[iZ 4]
def S9:Rg:=[iZ 5]
def Ta:Rg:=[iA 6 (.mv (.const (.int .u64 0)))]
def Tb:Rg:=[iI 7 0]
def Tc:Rg:=[iM 9 7,iM 10 0,iN 11 10,iB 12 .lss 9 11,iM 13 12,gM 14 7 13 false,gM 15 1 13 false,gN 16 15 13 false,gB 17 .lss 14 16 13 false,iQ 18 13 17,iM 19 18,gM 20 6 19 false,iG 21 (.bin .gtr (Tm 20) (.const (.int .u64 0))) 19 false,iQ 22 19 21]
def da:Rg:=[iM 25 6,iM 8 25]
def db:Rg:=[iM 26 7,iM 27 0,iN 28 27,iB 29 .lss 26 28]
def dd:Rg:=[iM 30 8,iM 31 0,iM 32 7,iX 33 1 31 32,iL 34 33,iA 35 (.conv .u64 (Tm 34)),iB 36 .add 30 35,iM 8 36]
def LP:Rg:=[iM 37 7,iM 38 1,iN 39 38,iB 40 .lss 37 39]
def LQ:Rg:=[iM 41 8,iM 42 1,iM 43 7,iX 44 1 42 43,iL 45 44,iA 46 (.conv .u64 (Tm 45)),iB 47 .add 41 46,iM 8 47]
def BU:Rg:=[iM 48 5,iM 49 8,iA 50 (.conv .u32 (Tm 49)),iA 51 (.a5F true 1 1 [(.int .u32 0)] [(0,(Tm 50))]),iA 52 (.append 1 4 (Tm 48) (Tm 51)),iM 5 52]
def BV:Rg:=[iM 53 8,iA 54 (.bin .shr (Tm 53) (.const (.int .u64 32))),iM 6 54]
def BW:Rg:=[iM 23 7,iC 24 .add 23 1,iM 7 24]
def Dz:aC:=(.seq (sq Tc (.cond (Tm 22) .skip (.exit 0))) (.seq (.block 1 (sq da (.seq (sq db (.cond (Tm 29) (.region dd) .skip)) (.seq (sq LP (.cond (Tm 40) (.region LQ) .skip)) (sq BU (.region BV)))))) (.region BW)))
def TF:Rg:=[iM 55 5,iK 56 38 55,iM 4 56]
def LO:aC:=(sq S8 (sq S9 (sq Ta (.seq (sq Tb (.block 0 (.loop Dz))) (sq TF .ret)))))
def aLV:List Nat:=[51]
def G6:aS:=⟨2,57,LO,[.tmp 4]⟩
def D1:Rg:=[iZ 4]
def D2:Rg:=[iM 10 0,iN 11 10,iM 12 1,iN 13 12,iB 14 .add 11 13,iA 15 (.a5H 1 4 [(.int .u32 0)] (Tm 14) (Tm 14)),iM 5 15]
def D3:Rg:=[iI 6 0]
def D4:Rg:=[iM 16 6,iM 17 0,iN 18 17,iB 19 .lss 16 18]
def TI:Rg:=[iA 7 (.mv (.const (.int .u64 0)))]
def TJ:Rg:=[iI 8 0]
def D5:Rg:=[iM 22 8,iM 23 1,iN 24 23,iB 25 .lss 22 24]
def D6:Rd:=[(iM 28 0,false),(iM 29 6,false),(iX 30 1 28 29,false),(iL 31 30,false),(iA 32 (.conv .u64 (Tm 31)),false),(iM 33 1,false),(iM 34 8,false),(iX 35 1 33 34,false),(iL 36 35,false),(iA 37 (.conv .u64 (Tm 36)),false),(iB 38 .mul 32 37,false),(iM 39 5,false),(iM 40 6,false),(iM 41 8,false),(iB 42 .add 40 41,false),(iX 43 1 39 42,false),(iL 44 43,false),(iA 45 (.conv .u64 (Tm 44)),false),(iB 46 .add 38 45,false),(iM 47 7,false),(iB 48 .add 46 47,false),(iM 9 48,false)]
def D7:Rg:=[iM 49 5,iM 50 6,iM 51 8,iB 52 .add 50 51,iM 53 9,iA 54 (.conv .u32 (Tm 53)),iX 55 1 49 52,iS 1 55 54]
def D8:Rg:=[iM 56 9,iA 57 (.bin .shr (Tm 56) (.const (.int .u64 32))),iM 7 57]
def oz:Rg:=[iM 26 8,iC 27 .add 26 1,iM 8 27]
def LS:aC:=(.seq (sq D5 (.cond (Tm 25) .skip (.exit 2))) (.seq (.block 3 (dq D6 (sq D7 (.region D8)))) (.region oz)))
def LT:Rg:=[iM 58 5,iM 59 6,iM 60 1,iN 61 60,iB 62 .add 59 61,iM 63 7,iA 64 (.conv .u32 (Tm 63)),iX 65 1 58 62,iS 1 65 64]
def o9:Rg:=[iM 20 6,iC 21 .add 20 1,iM 6 21]
def ow:aC:=(.seq (sq D4 (.cond (Tm 19) .skip (.exit 0))) (.seq (.block 1 (sq TI (.seq (sq TJ (.block 2 (.loop LS))) (.region LT)))) (.region o9)))
def pd:Rg:=[iM 66 5,iK 67 38 66,iM 4 67]
def EH:aC:=(sq D1 (sq D2 (.seq (sq D3 (.block 0 (.loop ow))) (sq pd .ret))))
def aBB:List Nat:=[]
def ov:aS:=⟨2,68,EH,[.tmp 4]⟩
def adX:Rg:=[iZ 4,iI 5 0]
def adY:Rg:=[iM 7 0,iK 8 41 7,iM 9 8,gM 10 1 9 false,gK 11 41 10 9 false,iQ 12 9 11]
def wg:Rg:=[iZ 4,iI 5 2]
def adZ:Rg:=[iM 13 0,iK 14 38 13,iM 15 1,iK 16 38 15,iK2 17 43 14 16,iM 6 17]
def aeA:Rg:=[iM 18 6,iK 19 41 18]
def aeB:Rg:=[iZ 4,iI 5 2]
def aeC:Rg:=[iM 20 6,iM 4 20,iI 5 0]
def SV:aC:=(sq adX (.seq (sq adY (.cond (Tm 12) (sq wg .ret) .skip)) (sq adZ (.seq (sq aeA (.cond (Tm 19) (sq aeB .ret) .skip)) (sq aeC .ret)))))
def aSR:List Nat:=[]
def aoU:aS:=⟨2,21,SV,[.tmp 4,.tmp 5]⟩
def afN:Rg:=[iZ 4,iI 5 0]
def afO:Rg:=[iM 6 0,iK 7 41 6,iM 8 7,gM 9 1 8 false,gK 10 41 9 8 false,iQ 11 8 10]
def wn:Rg:=[iZ 4,iI 5 2]
def afP:Rg:=[iM 12 0,iM 13 1,iK2 14 32 12 13,iC 15 .lss 14 0]
def afQ:Rg:=[iZ 4,iI 5 4]
def afR:Rg:=[iM 16 0,iK 17 38 16,iM 18 1,iK 19 38 18,iK2 20 42 17 19,iM 4 20,iI 5 0]
def TH:aC:=(sq afN (.seq (sq afO (.cond (Tm 11) (sq wn .ret) .skip)) (.seq (sq afP (.cond (Tm 15) (sq afQ .ret) .skip)) (sq afR .ret))))
def aSY:List Nat:=[]
def apE:aS:=⟨2,21,TH,[.tmp 4,.tmp 5]⟩
def afF:Rg:=[iZ 4,iI 5 0]
def afG:Rg:=[iM 7 0,iK 8 41 7,iM 9 8,gM 10 1 9 false,gK 11 41 10 9 false,iQ 12 9 11]
def wm:Rg:=[iZ 4,iI 5 2]
def afH:Rg:=[iM 13 0,iK 14 38 13,iM 15 1,iK 16 38 15,iK2 17 44 14 16,iM 6 17]
def afI:Rg:=[iM 18 6,iK 19 41 18]
def afJ:Rg:=[iZ 4,iI 5 2]
def afK:Rg:=[iM 20 6,iM 4 20,iI 5 0]
def TD:aC:=(sq afF (.seq (sq afG (.cond (Tm 12) (sq wm .ret) .skip)) (sq afH (.seq (sq afI (.cond (Tm 19) (sq afJ .ret) .skip)) (sq afK .ret)))))
def aSV:List Nat:=[]
def apB:aS:=⟨2,21,TD,[.tmp 4,.tmp 5]⟩
def Sb:Rg:=[iI 2 0]
def Sd:Rg:=[iM 5 0,iK 6 38 5,iM 0 6]
def Se:Rg:=[iM 7 0,iN 8 7,iC 9 .eql 8 0]
def Sf:Rg:=[iI 2 0]
def Sg:Rg:=[iM 10 0,iN 11 10,iC 12 .sub 11 1,iA 13 (.bin .mul (Ci 32) (Tm 12)),iM 3 13]
def Sh:Rg:=[iM 14 0,iM 15 0,iN 16 15,iC 17 .sub 16 1,iX 18 1 14 17,iL 19 18,iM 4 19]
def Si:Rg:=[iM 20 4,iA 21 (.bin .gtr (Tm 20) (.const (.int .u32 0)))]
def Sj:Rg:=[iM 24 3,iC 25 .add 24 1,iM 3 25]
def Sk:Rg:=[iM 22 4,iA 23 (.bin .quo (Tm 22) (.const (.int .u32 2))),iM 4 23]
def R9:aC:=(.seq (sq Si (.cond (Tm 21) .skip (.exit 0))) (.seq (.block 1 (.region Sj)) (.region Sk)))
def Di:Rg:=[iM 26 3,iM 2 26]
def LD:aC:=(sq Sb (sq Sd (.seq (sq Se (.cond (Tm 9) (sq Sf .ret) .skip)) (sq Sg (.seq (sq Sh (.block 0 (.loop R9))) (sq Di .ret))))))
def aLL:List Nat:=[]
def G3:aS:=⟨1,27,LD,[.tmp 2]⟩
def aBD:Rg:=[iZ 4]
def aBE:Rg:=[iM 9 0,iN 10 9,iC 11 .eql 10 0]
def aBF:Rg:=[iZ 4]
def aBG:Rg:=[iM 12 1,iC 13 .quo 12 32,iA 14 (.a5H 1 4 [(.int .u32 0)] (Tm 13) (Tm 13)),iM 5 14]
def aBH:Rg:=[iA 6 (.mv (.const (.int .u64 0)))]
def aBI:Rg:=[iI 7 0]
def aBJ:Rg:=[iM 15 7,iM 16 0,iN 17 16,iB 18 .lss 15 17]
def aBK:Rg:=[iM 21 0,iM 22 7,iX 23 1 21 22,iL 24 23,iA 25 (.conv .u64 (Tm 24)),iM 26 1,iC 27 .rem 26 32,iA 28 (.conv .u64 (Tm 27)),iB 29 .shl 25 28,iM 30 6,iB 31 .or 29 30,iM 8 31]
def aBL:Rg:=[iM 32 5,iM 33 8,iA 34 (.conv .u32 (Tm 33)),iA 35 (.a5F true 1 1 [(.int .u32 0)] [(0,(Tm 34))]),iA 36 (.append 1 4 (Tm 32) (Tm 35)),iM 5 36]
def aBM:Rg:=[iM 37 8,iA 38 (.bin .shr (Tm 37) (.const (.int .u64 32))),iM 6 38]
def afT:Rg:=[iM 19 7,iC 20 .add 19 1,iM 7 20]
def afS:aC:=(.seq (sq aBJ (.cond (Tm 18) .skip (.exit 0))) (.seq (.block 1 (sq aBK (sq aBL (.region aBM)))) (.region afT)))
def afU:Rg:=[iM 39 5,iM 40 6,iA 41 (.conv .u32 (Tm 40)),iA 42 (.a5F true 1 1 [(.int .u32 0)] [(0,(Tm 41))]),iA 43 (.append 1 4 (Tm 39) (Tm 42)),iK 44 38 43,iM 4 44]
def df:aC:=(sq aBD (.seq (sq aBE (.cond (Tm 11) (sq aBF .ret) .skip)) (sq aBG (sq aBH (.seq (sq aBI (.block 0 (.loop afS))) (sq afU .ret))))))
def aWN:List Nat:=[35,42]
def uup:aS:=⟨2,45,df,[.tmp 4]⟩
def Ss:Rg:=[iZ 4]
def St:Rg:=[iM 8 1,iC 9 .quo 8 32,iM 10 0,iN 11 10,iB 12 .geq 9 11]
def Su:Rg:=[iZ 4]
def Sv:Rg:=[iZ 5]
def Sw:Rg:=[iM 13 1,iC 14 .quo 13 32,iM 6 14]
def Sx:Rg:=[iM 15 6,iM 16 0,iN 17 16,iB 18 .lss 15 17]
def Sy:Rg:=[iM 21 0,iM 22 6,iX 23 1 21 22,iL 24 23,iA 25 (.conv .u64 (Tm 24)),iM 7 25]
def Sz:Rg:=[iM 26 6,iC 27 .add 26 1,iM 28 0,iN 29 28,iB 30 .lss 27 29]
def S0:Rg:=[iM 31 7,iM 32 0,iM 33 6,iC 34 .add 33 1,iX 35 1 32 34,iL 36 35,iA 37 (.conv .u64 (Tm 36)),iA 38 (.bin .shl (Tm 37) (.const (.int .u64 32))),iB 39 .or 31 38,iM 7 39]
def c8:Rg:=[iM 40 5,iM 41 7,iM 42 1,iC 43 .rem 42 32,iA 44 (.conv .u64 (Tm 43)),iB 45 .shr 41 44,iA 46 (.conv .u32 (Tm 45)),iA 47 (.a5F true 1 1 [(.int .u32 0)] [(0,(Tm 46))]),iA 48 (.append 1 4 (Tm 40) (Tm 47)),iM 5 48]
def SZ:Rg:=[iM 19 6,iC 20 .add 19 1,iM 6 20]
def Dj:aC:=(.seq (sq Sx (.cond (Tm 18) .skip (.exit 0))) (.seq (.block 1 (sq Sy (.seq (sq Sz (.cond (Tm 30) (.region S0) .skip)) (.region c8)))) (.region SZ)))
def Dk:Rg:=[iM 49 5,iK 50 38 49,iM 4 50]
def LH:aC:=(sq Ss (.seq (sq St (.cond (Tm 12) (sq Su .ret) .skip)) (sq Sv (.seq (sq Sw (.block 0 (.loop Dj))) (sq Dk .ret)))))
def aLO:List Nat:=[47]
def G4:aS:=⟨2,51,LH,[.tmp 4]⟩
def Ew:Rg:=[iA 1 (.box true (Tm 0)),iT 2 false]
def Ex:Rg:=[iF 3 2 1,iL 4 3,iK 5 38 4,iN 6 5,iC 7 .gtr 6 0,iM 8 7,gF 9 2 1 8 true,gL 10 9 8 true,gK 11 38 10 8 true,gN 12 11 8 true,gC 13 .leq 12 128 8 true,iP 14 8 13,iM 15 14,gF 16 1 1 15 true,gL 17 16 15 true,gK 18 38 17 15 true,gN 19 18 15 true,gC 20 .leq 19 128 15 true,iP 21 15 20,iM 2 21]
def EL:aC:=(sq Ew (sq Ex .ret))
def aBS:List Nat:=[1]
def qc:aS:=⟨1,22,EL,[.tmp 2]⟩
def Ec:Rg:=[iA 1 (.box true (Tm 0)),iT 2 false]
def Ed:Rg:=[iF 3 1 1,iL 4 3,iN 5 4,iC 6 .gtr 5 128,iM 7 6,gF 8 2 1 7 false,gL 9 8 7 false,gN 10 9 7 false,gC 11 .gtr 10 128 7 false,iQ 12 7 11,iM 2 12]
def EI:aC:=(sq Ec (sq Ed .ret))
def aBP:List Nat:=[1]
def pi:aS:=⟨1,13,EI,[.tmp 2]⟩
def Tq:Rg:=[iA 1 (.box true (Tm 0)),iA 2 (.alloc [zB,.aB,.aB]),iI 3 0]
def Tr:Rg:=[iO 4 3 1,iK 5 48 4]
def Ts:Rg:=[iA 6 (.build [zB,.aB,.aB] []),iS 3 2 6,iI 3 2]
def Tt:Rg:=[iO 7 3 1,iS 3 2 7,iI 3 0]
def LX:aC:=(sq Tq (.seq (sq Tr (.cond (Tm 5) (sq Ts .ret) .skip)) (sq Tt .ret)))
def aLZ:List Nat:=[1]
def Hd:aS:=⟨1,8,LX,[.cell 2 (some 3),.tmp 3]⟩
def p7:Rg:=[iA 1 (.box true (Tm 0)),iA 2 (.alloc [zB,.aB,.aB]),iI 3 0]
def p8:Rg:=[iO 4 3 1,iK 5 56 4,iA 6 (.un .not (Tm 5))]
def p9:Rg:=[iA 7 (.build [zB,.aB,.aB] []),iS 3 2 7,iI 3 1]
def qa:Rg:=[iF 8 0 1,iL 9 8,iF 10 1 1,iL 11 10,iF 12 2 1,iL 13 12,iA 14 (.call 58 [(Tm 9),(Tm 11),(Tm 13)]),iS 3 2 14,iI 3 0]
def AI:aC:=(sq p7 (.seq (sq p8 (.cond (Tm 6) (sq p9 .ret) .skip)) (sq qa .ret)))
def apL:List Nat:=[1]
def VI:aS:=⟨1,15,AI,[.cell 2 (some 3),.tmp 3]⟩
def Er:Rg:=[iZ 4]
def Es:Rg:=[iM 8 0,iM 9 1,iK2 10 36 8 9,iM 7 10,iE 11 7 0,iE 12 7 1,iM 5 11,iM 6 12]
def Et:Rg:=[iM 13 5,iM 4 13]
def EK:aC:=(sq Er (sq Es (sq Et .ret)))
def aBR:List Nat:=[]
def qb:aS:=⟨2,14,EK,[.tmp 4]⟩
def Ef:Rg:=[iA 2 (.box true (Tm 0)),iA 3 (.box true (Tm 1)),iI 4 0]
def Eg:Rd:=[(iF 9 1 2,false),(iL 10 9,false),(iF 11 2 3,false),(iL 12 11,false),(iK2 13 60 10 12,true),(iF 14 1 3,true),(iL 15 14,true),(iF 16 2 2,true),(iL 17 16,true),(iK2 18 60 15 17,true),(iM 5 13,false),(iM 6 18,false)]
def Eh:Rg:=[iF 19 0 2,iL 20 19,iM 21 20,gM 22 5 21 true,gN 23 22 21 true,gC 24 .gtr 23 0 21 true,iP 25 21 24,iF 26 0 3,iL 27 26,iM 28 27,gM 29 6 28 true,gN 30 29 28 true,gC 31 .gtr 30 0 28 true,iP 32 28 31,iM 7 25,iM 8 32]
def Ei:Rg:=[iM 34 7,iM 35 34,gM 36 8 35 true,iG 37 (.un .not (Tm 36)) 35 true,iP 38 35 37,iM 33 38]
def Ej:Rg:=[iI 4 (-1)]
def Ek:Rg:=[iM 40 8,iM 41 40,gM 42 7 41 true,iG 43 (.un .not (Tm 42)) 41 true,iP 44 41 43,iM 39 44]
def El:Rg:=[iI 4 1]
def Em:Rg:=[iM 46 7,iM 45 46]
def En:Rg:=[iM 47 6,iM 48 5,iK2 49 32 47 48,iM 4 49]
def Eo:Rg:=[iM 50 5,iM 51 6,iK2 52 32 50 51,iM 4 52]
def EJ:aC:=(sq Ef (dq Eg (sq Eh (.seq (.block 0 (sq Ei (.cond (Tm 33) (sq Ej .ret) (sq Ek (.cond (Tm 39) (sq El .ret) (sq Em (.cond (Tm 45) (sq En .ret) .skip))))))) (sq Eo .ret)))))
def aBQ:List Nat:=[2,3]
def p5:aS:=⟨2,53,EJ,[.tmp 4]⟩
def Tw:Rg:=[iA 2 (.box true (Tm 0)),iA 3 (.box true (Tm 1)),iT 4 false]
def Tx:Rg:=[iO 5 3 2,iO 6 3 3,iK2 7 51 5 6,iC 8 .lss 7 0,iM 4 8]
def LY:aC:=(sq Tw (sq Tx .ret))
def aMB:List Nat:=[2,3]
def He:aS:=⟨2,9,LY,[.tmp 4]⟩
def T6:Rg:=[iA 2 (.box true (Tm 0)),iA 3 (.box true (Tm 1)),iT 4 false]
def T7:Rg:=[iO 5 3 2,iO 6 3 3,iK2 7 51 5 6,iC 8 .eql 7 0,iM 4 8]
def MC:aC:=(sq T6 (sq T7 .ret))
def aMD:List Nat:=[2,3]
def Hg:aS:=⟨2,9,MC,[.tmp 4]⟩
def T9:Rg:=[iA 1 (.box true (Tm 0)),iI 2 0]
def Ua:Rd:=[(iO 3 3 1,true),(iA 4 (.call 47 [(Ci 0)]),true),(iK2 5 51 3 4,true),(iM 2 5,false)]
def MD:aC:=(sq T9 (dq Ua .ret))
def aME:List Nat:=[1]
def Hh:aS:=⟨1,6,MD,[.tmp 2]⟩
def afW:Rg:=[iA 2 (.box true (Tm 0)),iA 3 (.box true (Tm 1)),iA 4 (.alloc [zB,.aB,.aB]),iI 5 0]
def afX:Rg:=[iO 15 3 2,iK 16 56 15,iA 17 (.un .not (Tm 16)),iM 18 17,gO 19 3 3 18 false,gK 20 56 19 18 false,iG 21 (.un .not (Tm 20)) 18 false,iQ 22 18 21]
def wq:Rg:=[iA 23 (.build [zB,.aB,.aB] []),iS 3 4 23,iI 5 1]
def afY:Rd:=[(iF 24 1 2,false),(iL 25 24,false),(iF 26 2 3,false),(iL 27 26,false),(iK2 28 60 25 27,true),(iF 29 1 3,true),(iL 30 29,true),(iF 31 2 2,true),(iL 32 31,true),(iK2 33 60 30 32,true),(iF 34 2 2,true),(iL 35 34,true),(iF 36 2 3,true),(iL 37 36,true),(iK2 38 60 35 37,true),(iM 6 28,false),(iM 7 33,false),(iM 8 38,false)]
def afZ:Rg:=[iF 39 0 2,iL 40 39,iF 41 0 3,iL 42 41,iA 43 (.eqb false (Tm 40) (Tm 42))]
def agA:Rg:=[iM 45 6,iM 46 7,iK2 47 30 45 46,iM 44 47,iE 48 44 0,iE 49 44 1,iM 9 48,iM 10 49]
def agB:Rg:=[iF 50 0 2,iL 51 50,iM 52 9,iM 53 8,iA 54 (.call 58 [(Tm 51),(Tm 52),(Tm 53)]),iK 55 57 54,iE 56 55 0,iE 57 55 1,iS 3 4 56,iM 5 57]
def agC:Rg:=[iM 58 6,iM 59 7,iK2 60 32 58 59,iC 61 .geq 60 0]
def agD:Rg:=[iM 63 6,iM 64 7,iK2 65 37 63 64,iM 62 65,iE 66 62 0,iE 67 62 1,iM 11 66,iM 12 67]
def agE:Rg:=[iF 68 0 2,iL 69 68,iM 70 11,iM 71 8,iA 72 (.call 58 [(Tm 69),(Tm 70),(Tm 71)]),iK 73 57 72,iE 74 73 0,iE 75 73 1,iS 3 4 74,iM 5 75]
def Tk:Rg:=[iM 77 7,iM 78 6,iK2 79 37 77 78,iM 76 79,iE 80 76 0,iE 81 76 1,iM 13 80,iM 14 81]
def Tl:Rg:=[iF 82 0 3,iL 83 82,iM 84 13,iM 85 8,iA 86 (.call 58 [(Tm 83),(Tm 84),(Tm 85)]),iK 87 57 86,iE 88 87 0,iE 89 87 1,iS 3 4 88,iM 5 89]
def BY:aC:=(sq afW (.seq (sq afX (.cond (Tm 22) (sq wq .ret) .skip)) (dq afY (.seq (sq afZ (.cond (Tm 43) (sq agA (sq agB .ret)) .skip)) (.seq (sq agC (.cond (Tm 61) (sq agD (sq agE .ret)) .skip)) (sq Tk (sq Tl .ret)))))))
def aSZ:List Nat:=[2,3]
def Tj:aS:=⟨2,90,BY,[.cell 4 (some 3),.tmp 5]⟩
def agK:Rg:=[iA 2 (.alloc [zB,.aB,.aB]),iI 3 0]
def agL:Rg:=[iA 8 (.call 47 [(Ci 0)]),iA 4 (.alloc [zB,.aB,.aB]),iS 3 4 8]
def agM:Rg:=[iI 5 0]
def agN:Rg:=[iM 9 5,iM 10 0,iN 11 10,iB 12 .lss 9 11]
def agO:Rd:=[(iO 16 3 4,false),(iM 17 0,false),(iM 18 5,false),(iX 19 3 17 18,false),(iO 20 3 19,false),(iK2 21 46 16 20,true),(iM 15 21,false),(iE 22 15 0,false),(iE 23 15 1,true),(iA 6 (.alloc [zB,.aB,.aB]),true),(iS 3 6 22,true),(iM 7 23,false)]
def wt:Rg:=[iM 24 7,iC 25 .neq 24 0]
def agP:Rg:=[iA 26 (.build [zB,.aB,.aB] []),iM 27 7,iS 3 2 26,iM 3 27]
def agQ:Rg:=[iO 28 3 6,iS 3 4 28]
def agR:Rg:=[iM 13 5,iC 14 .add 13 1,iM 5 14]
def agI:aC:=(.seq (sq agN (.cond (Tm 12) .skip (.exit 0))) (.seq (.block 1 (dq agO (.seq (sq wt (.cond (Tm 25) (sq agP .ret) .skip)) (.region agQ)))) (.region agR)))
def Ug:Rg:=[iO 29 3 4,iS 3 2 29,iI 3 0]
def TN:aC:=(sq agK (sq agL (.seq (sq agM (.block 0 (.loop agI))) (sq Ug .ret))))
def aTD:List Nat:=[]
def apM:aS:=⟨1,30,TN,[.cell 2 (some 3),.tmp 3]⟩
def uH:Rg:=[iT 4 false]
def uI:Rg:=[iM 5 0,iC 6 .geq 5 1,iM 7 6,gM 8 0 7 true,gC 9 .leq 8 6 7 true,iP 10 7 9,iM 11 10,gM 12 1 11 true,gC 13 .geq 12 0 11 true,iP 14 11 13,iM 15 14,gM 16 1 15 true,gC 17 .leq 16 4 15 true,iP 18 15 17,iM 19 18,gM 20 0 19 true,gM 21 1 19 true,gB 22 .add 20 21 19 true,gC 23 .leq 22 8 19 true,iP 24 19 23,iM 4 24]
def nL:aC:=(sq uH (sq uI .ret))
def aHS:List Nat:=[]
def BP:aS:=⟨2,25,nL,[.tmp 4]⟩
def qw:Rg:=[iT 2 false]
def qx:Rg:=[iM 3 0,iA 4 (.bin .geq (Tm 3) (.const (.int .u8 97))),iM 5 4,gM 6 0 5 true,iG 7 (.bin .leq (Tm 6) (.const (.int .u8 122))) 5 true,iP 8 5 7,iM 9 8,gM 10 0 9 false,iG 11 (.bin .geq (Tm 10) (.const (.int .u8 65))) 9 false,gM 12 11 9 false,gM 13 0 12 true,iG 14 (.bin .leq (Tm 13) (.const (.int .u8 90))) 12 true,iG 15 (.pick (Tm 12) (Tm 14) (.const zB)) 9 false,iQ 16 9 15,iM 2 16]
def AL:aC:=(sq qw (sq qx .ret))
def apP:List Nat:=[]
def VL:aS:=⟨1,17,AL,[.tmp 2]⟩
def E0:Rg:=[iT 2 false]
def E4:Rg:=[iM 3 0,iA 4 (.bin .geq (Tm 3) (.const (.int .u8 48))),iM 5 4,gM 6 0 5 true,iG 7 (.bin .leq (Tm 6) (.const (.int .u8 57))) 5 true,iP 8 5 7,iM 2 8]
def EN:aC:=(sq E0 (sq E4 .ret))
def aBT:List Nat:=[]
def qe:aS:=⟨1,9,EN,[.tmp 2]⟩
def qg:Rg:=[iT 2 false]
def qh:Rg:=[iM 3 0,iK 4 65 3,iM 5 4,gM 6 0 5 false,gK 7 63 6 5 false,iQ 8 5 7,iM 9 8,gM 10 0 9 false,iG 11 (.bin .eql (Tm 10) (.const (.int .u8 45))) 9 false,iQ 12 9 11,iM 13 12,gM 14 0 13 false,iG 15 (.bin .eql (Tm 14) (.const (.int .u8 46))) 13 false,iQ 16 13 15,iM 2 16]
def AJ:aC:=(sq qg (sq qh .ret))
def apN:List Nat:=[]
def VJ:aS:=⟨1,17,AJ,[.tmp 2]⟩
def qk:Rg:=[iT 2 false]
def ql:Rg:=[iM 4 0,iA 5 (.a5Z (Tm 4)),iC 6 .lss 5 1,iM 7 6,gM 8 0 7 false,iG 9 (.a5Z (Tm 8)) 7 false,gC 10 .gtr 9 16 7 false,iQ 11 7 10,iM 12 11,gM 13 0 12 false,iG 14 (.a6A (Tm 13) (Ci 0)) 12 false,gK 15 65 14 12 false,iG 16 (.un .not (Tm 15)) 12 false,iQ 17 12 16]
def xP:Rg:=[iT 2 false]
def qn:Rg:=[iI 3 0]
def qp:Rg:=[iM 18 3,iM 19 0,iA 20 (.a5Z (Tm 19)),iB 21 .lss 18 20]
def qq:Rg:=[iM 24 0,iM 25 3,iA 26 (.a6A (Tm 24) (Tm 25)),iK 27 64 26,iA 28 (.un .not (Tm 27))]
def qr:Rg:=[iT 2 false]
def qt:Rg:=[iM 22 3,iC 23 .add 22 1,iM 3 23]
def qi:aC:=(.seq (sq qp (.cond (Tm 21) .skip (.exit 0))) (.seq (.block 1 (sq qq (.cond (Tm 28) (sq qr .ret) .skip))) (.region qt)))
def qu:Rg:=[iT 2 true]
def AK:aC:=(sq qk (.seq (sq ql (.cond (Tm 17) (sq xP .ret) .skip)) (.seq (sq qn (.block 0 (.loop qi))) (sq qu .ret))))
def apO:List Nat:=[]
def VK:aS:=⟨1,29,AK,[.tmp 2]⟩
theorem qC (P:List Nat) (v:Nat):aL P++[[.int .u32 (v:Int)]]=aL (P++[v]):=by simp[aL]
theorem qB {P:List Nat} (h:P.length≤35184372087808):roomFor (aL P).length 1 4:=by
 unfold roomFor;rw[bY];simp only[maxLen]; omega
def VE (a b:List Nat) (v:PV) (c i:Nat):PF:=(((((PF.nil.set 0 (aI a)).set 1 (aI b)).set 5 (v)).set 6 (.int .u64 c)).set 7 (.int .i64 i))
theorem Do {C:Ctx} (L:oP C) (a b:List Nat) (ha:Lim a) (hb:Lim b) (η:val b≤val a) (hl:b.length≤a.length) (h1:a.length≤35184372087808) :
  EG.wp C (aV oo.res (bX (aI (aH (val a-val b))))) (PF.args [aI a,aI b]) .nil:=by
 simp only[go_sem,EG,Dp,Dq,Dr,Ds,oo];refine wp_loop (α:=List Nat × Nat × PV × PH) (fun s=>VE a b s.2.2.1 s.2.1 s.1.length) (fun s=>s.2.2.2)
  (fun s=>s.1.length≤a.length∧Lim s.1∧s.2.1≤1∧val (a.take s.1.length)+4294967296 ^ s.1.length*s.2.1=val s.1+val (b.take s.1.length)∧bP s.2.2.2 1 s.2.2.1 (aL s.1)) (fun s=>a.length-s.1.length) ([],0,.aB,.nil) ⟨by simp,by simp[Lim],by simp,by simp[val],.nil⟩ ?_ a_ ?_
 ·unfold VE;exact Lq
 rintro⟨P,c,v,H0⟩ ⟨hP,i,hc,w,S⟩;simp only at hP i hc w S ⊢;simp only[go_sem,oq,Dt,VE];by_cases U:P.length<a.length
 ·have B:(P.length:Int)<(a.length:Nat):=Om;have ε:=ha _ (a6M U);have δ:=cB a U;have β:(aL a)[P.length]?=some [.int .u32 ((a[P.length]:Nat):Int)]:=bS a U;generalize hx:a[P.length]=x at *
  have ex:IntKind.u64.wrap ((x:Nat):Int)=((x:Nat):Int):=bE Om;have fin:∀ (t:Nat) (A:PF),t<4294967296→val (b.take (P.length+1))=val (b.take P.length)+4294967296 ^ P.length*t →
    A 0=some (aI a)→A 1=some (aI b)→A 5=some v→A 8=some (.int .u64 (c+t:Nat))→A 7=some (.int .i64 P.length) →
    ∀ K:bQ,(∀ u l v' R H2,u.length=P.length+1→Lim u→l≤1→val (a.take (P.length+1))+4294967296 ^ u.length*l=val u+val (b.take (P.length+1))→(VE a b v' l u.length).le R→bP H2 1 v' (aL u)→K .normal R H2) →
    aC.wp C (.seq (.region TB) (.seq (.region TC) (.seq (.seq (.region LK) (.cond (.tmp 35) (.seq (.region LL) (.region LM)) .skip)) (.region xM)))) (eP 1 (fV C (aC.wp C (.region xN)) K)) A H0:=by
   intro t A ht q g0 g1 g5 Z Y K hK;have step:∀ (d l:Nat),d<4294967296→l≤1→x+4294967296*l=d+(c+t)→val (a.take (P.length+1))+4294967296 ^ (P.length+1)*l=val (P++[d])+val (b.take (P.length+1)):=by
    intro d l hd ζ he;have h2:4294967296 ^ P.length*(x+4294967296*l)=4294967296 ^ P.length*(d+(c+t)):=by rw[he]
    rw[a6Z,a6Z,a6Z] at h2;rw[jF,a8C,a7K,δ,q];omega
   simp only[go_sem,TB,g0,Y,β,ex,TC,LK,Z];by_cases c2:x<c+t
   ·have E:((x:Nat):Int)<((c+t:Nat):Int):=Om;have N:IntKind.u64.wrap ((x:Int)+4294967296)=((x+4294967296:Nat):Int):=by rw[show (x:Int)+4294967296=((x+4294967296:Nat):Int) by omega];exact bE Om
    have H:IntKind.u64.wrap (((x+4294967296:Nat):Int)-((c+t:Nat):Int))=((x+4294967296-(c+t):Nat):Int):=by rw[show ((x+4294967296:Nat):Int)-((c+t:Nat):Int)=((x+4294967296-(c+t):Nat):Int) by omega];exact bE Om
    have J:IntKind.u32.wrap ((x+4294967296-(c+t):Nat):Int)=((x+4294967296-(c+t):Nat):Int):=by rw[cI,a7X Om]
    have M:(1:Nat)*1≤16777216:=by decide
    simp only[go_sem,E,LL,N,LM,xM,g5,Z,H,J,M];refine eZ (src:=[[.int .u32 ((x+4294967296-(c+t):Nat):Int)]]) S rfl (qB Om) fun v' H' p _=>?_;rw[qC] at p;simp only[go_sem,xN,Y,cW (Om:P.length<9223372036854775807)];refine hK _ 1 v' _ H' (by simp) (i.app fun y Q=>by simp at Q; subst Q; omega) (a6S _) ?_ ?_ p
    ·rw[a6T,a6X];exact step _ 1 Om (a6S _) Om
    ·unfold VE;rw[a6T,a6X];exact Lq
   ·have E:¬ ((x:Nat):Int)<((c+t:Nat):Int):=Om;have H:IntKind.u64.wrap (((x:Nat):Int)-((c+t:Nat):Int))=((x-(c+t):Nat):Int):=by rw[show ((x:Nat):Int)-((c+t:Nat):Int)=((x-(c+t):Nat):Int) by omega];exact bE Om
    have J:IntKind.u32.wrap ((x-(c+t):Nat):Int)=((x-(c+t):Nat):Int):=by rw[cI,a7X Om]
    have M:(1:Nat)*1≤16777216:=by decide
    simp only[go_sem,E,xM,g5,Z,H,J,M];refine eZ (src:=[[.int .u32 ((x-(c+t):Nat):Int)]]) S rfl (qB Om) fun v' H' p _=>?_;rw[qC] at p;simp only[go_sem,xN,Y,cW (Om:P.length<9223372036854775807)];refine hK _ 0 v' _ H' (by simp) (i.app fun y Q=>by simp at Q; subst Q; omega) (by decide) ?_ ?_ p
    ·rw[a6T,a6X];exact step _ 0 Om (by decide) Om
    ·unfold VE;rw[a6T,a6X];exact Lq
  simp only[aC.wp,go_sem] at fin;simp only[go_sem,B,Du,Dv];by_cases V:P.length<b.length
  ·have F:(P.length:Int)<(b.length:Nat):=Om;have γ:=hb _ (a6M V);have q:=cB b V;have eb:IntKind.u64.wrap ((b[P.length]:Nat):Int)=((b[P.length]:Nat):Int):=bE Om;have es:IntKind.u64.wrap ((c:Int)+(b[P.length]:Int))=((c+b[P.length]:Nat):Int):=eT Om;simp only[go_sem,F,Dw,bS b V,eb,es];refine fin b[P.length] _ γ q rfl rfl rfl rfl rfl _ ?_;intro u l v' R H2 N H J O W X;rw[← N] at O;exact aD (α:=List Nat × Nat × PV × PH) (u,l,v',H2) ⟨by simp only; omega,H,J,O,X⟩ (by simp only; omega) W b_
  ·have F:¬ (P.length:Int)<(b.length:Nat):=Om;have q:val (b.take (P.length+1))=val (b.take P.length)+4294967296 ^ P.length*0:=by rw[a7F Om,a7F Om]; simp
   simp only[go_sem,F];refine fin 0 _ (by decide) q rfl rfl rfl rfl rfl _ ?_;intro u l v' R H2 N H J O W X;rw[← N] at O;exact aD (α:=List Nat × Nat × PV × PH) (u,l,v',H2) ⟨by simp only; omega,H,J,O,X⟩ (by simp only; omega) W b_
 ·have e:P.length=a.length:=Om;have B:¬ (P.length:Int)<(a.length:Nat):=Om;have hV:val P=val a-val b:=by
   rw[e,a7M,a7F hl] at w;have hlt:=eS i;rw[e] at hlt;rcases a8R c with h | h
   ·subst h; omega
   ·have:c=1:=Om;subst this; omega
  simp only[go_sem,B,ot];have hs:=L.trim _ i Om;rw[hV] at hs;refine tH hs S rfl fun F1 H1 _=>?_;simp only[go_sem];exact bA (.inr rfl) .nil rfl a_ ⟨.refl _,rfl⟩
def rL (a b:List Nat) (o i:Nat):PF:=((((PF.nil.set 0 (aI a)).set 1 (aI b)).set 5 (.osl o 1 0 (a.length+b.length))).set 6 (.int .i64 i))
def utG (a b:List Nat) (o i c j:Nat):PF:=((((((PF.nil.set 0 (aI a)).set 1 (aI b)).set 5 (.osl o 1 0 (a.length+b.length))).set 6 (.int .i64 i)).set 7 (.int .u64 c)).set 8 (.int .i64 j))
theorem apF {C:Ctx} (a b:List Nat) (ha:Lim a) (hb:Lim b) (h1:a.length≤35184372087808) (h2:b.length≤35184372087808) (L:List Nat) (i:Nat) (hi:i<a.length) (N:EX a b L i) (q:Nat) (K:bQ) (F:PF) (H:PH) (J:(rL a b q i).le F) (hH:H q=some (.rows 1 (aL L)))
  (hK:∀ L' F' H',EX a b L' (i+1)→(rL a b q i).le F'→H' q=some (.rows 1 (aL L'))→K .normal F' H') :
  aC.wp C (.block 1 (.seq (.region TI) (.seq (.seq (.region TJ) (.block 2 (.loop LS))) (.region LT)))) K F H:=by
 have f0:=J 0 _ (by unfold rL; simp only[go_sem]; rfl);have f1:=J 1 _ (by unfold rL; simp only[go_sem]; rfl);have f5:=J 5 _ (by unfold rL; simp only[go_sem]; rfl);have f6:=J 6 _ (by unfold rL; simp only[go_sem]; rfl);have hx:=ha _ (a6M hi);have Y:=cB a hi;generalize β:a[i]=x at *
 have V:(aL a)[i]?=some [.int .u32 ((x:Nat):Int)]:=by rw[bS a hi,β]
 simp only[go_sem,TI,TJ];refine wp_loop (α:=List Nat × Nat × Nat) (fun t=>utG a b q i t.2.1 t.2.2) (fun t=>PH.nil.set q (.rows 1 (aL t.1)))
  (fun t=>t.2.2≤b.length∧t.1.length=a.length+b.length∧Lim t.1∧t.2.1<4294967296∧val t.1+4294967296 ^ (i+t.2.2)*t.2.1=val (a.take i)*val b+4294967296 ^ i*(x*val (b.take t.2.2))∧∀ j y,i+b.length≤j→t.1[j]?=some y→y=0) (fun t=>b.length-t.2.2) (L,0,0)
  ⟨by simp,N.len,N.lim,by simp,by simp[val,N.v],N.z⟩ ?_ (PH.aJ a_ hH) ?_
 ·unfold utG;exact Lq
 rintro⟨M,c,j⟩ ⟨hj,U,e,X,u,Q⟩;simp only at hj U e X u Q;simp only[go_sem,LS,D5,utG];by_cases R:j<b.length
 ·have w:(j:Int)<(b.length:Nat):=Om;have O:=hb _ (a6M R);have Z:=cB b R;generalize γ:b[j]=y at *
  have W:(aL b)[j]?=some [.int .u32 ((y:Nat):Int)]:=by rw[bS b R,γ]
  have d:i+j<M.length:=Om;have E:=e _ (a6M d);have p:=GD d;generalize δ:M[i+j]=z at *
  have B:(aL M)[i+j]?=some [.int .u32 ((z:Nat):Int)]:=by rw[bS M d,δ]
  have ex:IntKind.u64.wrap ((x:Nat):Int)=((x:Nat):Int):=bE Om;have ey:IntKind.u64.wrap ((y:Nat):Int)=((y:Nat):Int):=bE Om;have ez:IntKind.u64.wrap ((z:Nat):Int)=((z:Nat):Int):=bE Om;have em:=aaN hx O;have ζ:x*y≤4294967295*4294967295:=Nat.mul_le_mul Om Om;have e1:IntKind.u64.wrap (((x*y:Nat):Int)+(z:Int))=((x*y+z:Nat):Int):=eT Om;have e2:IntKind.u64.wrap (((x*y+z:Nat):Int)+(c:Int))=((x*y+z+c:Nat):Int):=eT Om;have A:IntKind.i64.wrap ((i:Int)+(j:Int))=((i+j:Nat):Int):=fW Om;have hlt:((i+j:Nat):Int)<((a.length+b.length:Nat):Int):=Om;generalize ht:x*y+z+c=t at *
  have ε:t<4294967296*4294967296:=Om;have l:(aL M).set (i+j) [.int .u32 ((t%4294967296:Nat):Int)]=aL (M.set (i+j) (t%4294967296)):=fE M (i+j) _;simp only[go_sem,w];refine bV .nil eM a_ ?_;simp only[go_sem,D6,V,W,ex,ey,em,A,hlt,B,ez,e1,e2,D7,cI,l,D8,xL,oz,wZz j];refine aD (M.set (i+j) (t%4294967296),t/4294967296,j+1) ⟨by simp only; omega,by simp only[a8M]; exact U,e.set _ (a8A _ (by decide)),by simp only; omega,?_,qz Q _ _ Om⟩ (by simp only; omega) ?_ (PH.aJ a_ Sq)
  ·simp only;have S:=p (t%4294967296);have h4:4294967296 ^ (i+(j+1))*(t/4294967296)+4294967296 ^ (i+j)*(t%4294967296)=4294967296 ^ (i+j)*t:=by rw[← a8X,a8C,a7K,← a6Z,a9Z]
   have h5:4294967296 ^ (i+j)*t=4294967296 ^ (i+j)*(x*y)+4294967296 ^ (i+j)*z+4294967296 ^ (i+j)*c:=by rw[← ht,a6Z,a6Z]
   have h6:4294967296 ^ i*(x*val (b.take (j+1)))=4294967296 ^ i*(x*val (b.take j))+4294967296 ^ (i+j)*(x*y):=by rw[Z,a6Z,a6Z,Nat.pow_add];congr 1;rw[Nat.mul_left_comm x,a7K]
   omega
  ·exact Lq
 ·have he:j=b.length:=Om;have w:¬ (j:Int)<(b.length:Nat):=Om;subst he;have d:i+b.length<M.length:=Om;have E:M[i+b.length]=0:=Q _ _ (a6S _) (a6Y d);have p:=GD d;have B:(aL M)[i+b.length]?=some [.int .u32 ((0:Nat):Int)]:=by rw[bS M d,E]
  have A:IntKind.i64.wrap ((i:Int)+(b.length:Int))=((i+b.length:Nat):Int):=fW Om;have hlt:((i+b.length:Nat):Int)<((a.length+b.length:Nat):Int):=Om;have l:(aL M).set (i+b.length) [.int .u32 ((c%4294967296:Nat):Int)]=aL (M.set (i+b.length) c):=by rw[a7X X]; exact fE M _ _
  simp only[go_sem,w,LT,A,cI,hlt,B,l];refine hK (M.set (i+b.length) c) _ _ ⟨by rw[a8M]; exact U,e.set _ X,?_,fun j y hj O=>?_⟩ (by unfold rL; exact Lq) Sq
  ·have S:=p c;rw[E,Nat.mul_zero,a8N] at S;rw[S,u,a7M,Y,a7Q,a7K]
  ·rw[List.getElem?_set_ne Om] at O;exact Q j y Om O
theorem D0 {C:Ctx} (L:oP C) (a b:List Nat) (H:Lim a) (J:Lim b) (R:a.length≤8388608) (S:b.length≤8388608) :
  EH.wp C (aV ov.res (bX (aI (aH (val a*val b))))) (PF.args [aI a,aI b]) .nil:=by
 have l:IntKind.i64.wrap ((a.length:Int)+(b.length:Int))=((a.length+b.length:Nat):Int):=fW Om;have w:((a.length+b.length:Nat):Int)*((4:Nat):Int)≤140737488355328:=Om;have y:((a.length+b.length:Nat):Int)≤9223372036854775807:=Om;have N:a6N (a.length+b.length) [PV.int .u32 0]=aL (a6N (a.length+b.length) 0):=by simp[aL]
 simp only[go_sem,EH,D1,D2,ov,a6K,l,w,y,N];refine aR fun o U=>?_;simp only[go_sem,D3];refine wp_loop (α:=List Nat × Nat) (fun t=>rL a b o t.2) (fun t=>PH.nil.set o (.rows 1 (aL t.1))) (fun t=>t.2≤a.length∧EX a b t.1 t.2) (fun t=>a.length-t.2) (a6N (a.length+b.length) 0,0)
  ⟨by simp,by simp,vO _,by simp[val,rX],fun j x _ B=>by rw[List.getElem?_replicate] at B; split at B<;>simp_all⟩ ?_ (PH.aJ a_ Sq) ?_
 ·unfold rL;exact Lq
 rintro⟨M,i⟩ ⟨hi,d⟩;simp only at hi d;simp only[go_sem,ow,D4,rL];by_cases E:i<a.length
 ·have e:(i:Int)<(a.length:Nat):=Om;have p:=apF (C:=C) a b H J Om Om M i E d o;simp only[go_sem] at p;simp only[go_sem,e];refine p _ _ _ (by unfold rL; exact Lq) Sq ?_;intro L' O H' u c q;have F:=c 6 _ (by unfold rL; simp only[go_sem]; rfl);have g0:=c 0 _ (by unfold rL; simp only[go_sem]; rfl);have g1:=c 1 _ (by unfold rL; simp only[go_sem]; rfl);have Q:=c 5 _ (by unfold rL; simp only[go_sem]; rfl);simp only[go_sem,o9,F,wZz i];refine aD (L',i+1) ⟨by simp only; omega,u⟩ (by simp only; omega) ?_ (PH.aJ a_ q);exact Lq
 ·have K:i=a.length:=Om;subst K;have e:¬ (a.length:Int)<(a.length:Nat):=Om;have hV:val M=val a*val b:=by rw[d.v,a7M]
  simp only[go_sem,pd];have A:=L.trim _ d.lim (by rw[d.len]; omega);rw[hV] at A;refine qJ (o:=o) (s:=1) (k:=a.length+b.length) (rs:=aL M) (v:=aI (aH (val a*val b))) ?_ rfl Sq (by rw[bY,d.len]; exact a6S _) ?_
  ·rw[a7F (by rw[bY,d.len]; exact a6S _)]; exact A
  ·simp only[go_sem];exact bA (.inr rfl) .nil rfl a_ ⟨.refl _,rfl⟩
structure fc (C:Ctx):Prop extends e8 C where
 minus:∀ a b,Lim a→Lim b→val b≤val a→b.length≤a.length→a.length≤35184372087808→aG C 42 [aI a,aI b] .nil (aF (aI (aH (val a-val b))))
 times:∀ a b,Lim a→Lim b→a.length≤8388608→b.length≤8388608→aG C 44 [aI a,aI b] .nil (aF (aI (aH (val a*val b))))
theorem afE {C:Ctx} (L:fc C) (a b:List Nat) (i:Lim a) (l:Lim b) (u:a.length≤35184372087808) (w:b.length≤35184372087808) :
  TD.wp C (aV apB.res (bX (opV (dU (val a) (val b)) (val a*val b)))) (PF.args [aI a,aI b]) .nil:=by
 unfold opV;simp only[go_sem,TD,afF,afG,apB];refine aA (L.large a i u) rfl ?_;by_cases d:nl (val a)>512
 ·simp only[go_sem,d,wm];rw[if_pos (by simp[dU,d])];exact eJ rfl
 simp only[go_sem,d];refine aA (L.large b l w) rfl ?_;by_cases e:nl (val b)>512
 ·simp only[go_sem,e,wm];rw[if_pos (by simp[dU,e])];exact eJ rfl
 rw[if_neg (by simp[dU,d,e])];simp only[go_sem,e,afH];refine aA (L.trim a i u) rfl ?_;simp only[go_sem];refine aA (L.trim b l w) rfl ?_;simp only[go_sem];have q:=L.times (aH (val a)) (aH (val b)) (aX _) (aX _) (by rw[bB]; omega) (by rw[bB]; omega);rw[aW,aW] at q;refine aA q rfl ?_;have x:=kY (a:=val a) (b:=val b) (m:=512) (n:=512) Om Om;have p:=L.large (aH (val a*val b)) (aX _) (by rw[bB]; omega);rw[aW] at p;simp only[go_sem,afI];refine aA p rfl ?_;unfold szV szL szE;by_cases c:nl (val a*val b)>512
 ·rw[if_pos c,if_pos c];simp only[go_sem,c,afJ];exact eJ rfl
 ·rw[if_neg c,if_neg c];simp only[go_sem,c,afK];exact bA (.inr rfl) .nil rfl a_ ⟨.refl _,rfl⟩
def wR (a:List Nat) (i:Nat):Nat:=a.getD i 0
theorem Jh {a:List Nat} (h:Lim a) (i:Nat):wR a i<4294967296:=by
 unfold wR;rw[a7C];rcases a7H i a.length with h1 | h1
 ·rw[a6Y h1]; exact h _ (a6M h1)
 ·rw[a7Z h1]; decide
theorem YX {a:List Nat} {i:Nat} (h:i<a.length):wR a i=a[i]:=by simp[wR,a7C,h]
theorem OZ {a:List Nat} {i:Nat} (h:¬ i<a.length):wR a i=0:=by simp[wR,a7C,h]
theorem TK (a:List Nat) (i:Nat):val (a.take (i+1))=val (a.take i)+4294967296 ^ i*wR a i:=by
 rcases a7H i a.length with h | h
 ·rw[YX h]; exact cB a h
 ·rw[OZ Om,a7F Om,a7F Om]; simp
def tF (a b:List Nat) (v:PV) (c i:Nat):PF:=(((((PF.nil.set 0 (aI a)).set 1 (aI b)).set 5 (v)).set 6 (.int .u64 c)).set 7 (.int .i64 i))
theorem S7 {C:Ctx} (L:oP C) (a b:List Nat) (ha:Lim a) (hb:Lim b) (h1:a.length≤8388608) (h2:b.length≤8388608) :
  LO.wp C (aV G6.res (bX (aI (aH (val a+val b))))) (PF.args [aI a,aI b]) .nil:=by
 simp only[go_sem,LO,S8,S9,Ta,Tb,G6];refine wp_loop (α:=List Nat × Nat × PV × PH) (fun s=>tF a b s.2.2.1 s.2.1 s.1.length) (fun s=>s.2.2.2)
  (fun s=>s.1.length≤max a.length b.length+1∧(s.1.length≤max a.length b.length∨s.2.1=0)∧Lim s.1∧s.2.1≤1∧val s.1+4294967296 ^ s.1.length*s.2.1=val (a.take s.1.length)+val (b.take s.1.length)∧bP s.2.2.2 1 s.2.2.1 (aL s.1)) (fun s=>max a.length b.length+1-s.1.length) ([],0,.aB,.nil)
  ⟨by simp,by simp,by simp[Lim],by simp,by simp[val],.nil⟩ ?_ a_ ?_
 ·unfold tF;exact Lq
 rintro⟨P,c,v,H0⟩ ⟨hP,δ,l,hc,B,hO⟩;simp only at hP δ l hc B hO ⊢;have ι:=Jh ha P.length;have κ:=Jh hb P.length;have η:=TK a P.length;have θ:=TK b P.length;generalize hx:wR a P.length=x at *
 generalize Z:wR b P.length=y at *
 have ex:IntKind.u64.wrap ((x:Nat):Int)=((x:Nat):Int):=bE Om;have ey:IntKind.u64.wrap ((y:Nat):Int)=((y:Nat):Int):=bE Om;have M:IntKind.u64.wrap ((c:Int)+(x:Int))=((c+x:Nat):Int):=eT Om;have N:IntKind.u64.wrap (((c+x:Nat):Int)+(y:Int))=((c+x+y:Nat):Int):=eT Om;have ζ:P.length<a.length→(aL a)[P.length]?=some [.int .u32 ((x:Nat):Int)]:=fun h=>by rw[bS a h,← hx,YX h]
 have X:P.length<b.length→(aL b)[P.length]?=some [.int .u32 ((y:Nat):Int)]:=fun h=>by rw[bS b h,← Z,YX h]
 have Y:¬ P.length<a.length→x=0:=fun h=>by rw[← hx,OZ h]
 have O:¬ P.length<b.length→y=0:=fun h=>by rw[← Z,OZ h]
 have body:(P.length≤max a.length b.length)→∀ K:bQ,(∀ i q v' Q H2,i.length=P.length+1→Lim i→q≤1→(P.length+1≤max a.length b.length∨q=0)→val i+4294967296 ^ i.length*q=val (a.take (P.length+1))+val (b.take (P.length+1))→(tF a b v' q i.length).le Q→bP H2 1 v' (aL i)→K .normal Q H2) →
   ∀ F:PF,(tF a b v c P.length).le F→aC.wp C (.seq (.block 1 (.seq (.region da) (.seq (.seq (.region db) (.cond (.tmp 29) (.region dd) .skip)) (.seq (.seq (.region LP) (.cond (.tmp 40) (.region LQ) .skip)) (.seq (.region BU) (.region BV)))))) (.region BW)) K F H0:=by
  intro μ K hK F V;have g0:F 0=some (aI a):=V 0 _ (by unfold tF; simp only[go_sem]);have g1:F 1=some (aI b):=V 1 _ (by unfold tF; simp only[go_sem]);have g5:F 5=some v:=V 5 _ (by unfold tF; simp only[go_sem]);have g6:F 6=some (.int .u64 c):=V 6 _ (by unfold tF; simp only[go_sem]);have u:F 7=some (.int .i64 P.length):=V 7 _ (by unfold tF; simp only[go_sem]);have fin:∀ E:PF,E 0=some (aI a)→E 1=some (aI b)→E 5=some v→E 7=some (.int .i64 P.length)→E 8=some (.int .u64 (c+x+y:Nat)) →
    aC.wp C (.seq (.region BU) (.region BV)) (eP 1 (fV C (aC.wp C (.region BW)) K)) E H0:=by
   intro E q0 q1 q5 q7 q8;have ε:(1:Nat)*1≤16777216:=by decide
   generalize ht:c+x+y=t at *
   have ν:t<2*4294967296:=Om;simp only[go_sem,BU,q5,q8,ε,cI];refine eZ (src:=[[.int .u32 ((t%4294967296:Nat):Int)]]) hO rfl (qB Om) fun v' H' W _=>?_;rw[qC] at W;simp only[go_sem,BV,q8,xL,BW,q7,cW (Om:P.length<9223372036854775807)];refine hK (P++[t%4294967296]) (t/4294967296) v' _ H' (by simp) (l.app fun y Z=>by simp at Z; subst Z; omega) Om ?_ ?_ ?_ W
   ·rcases a7H P.length (max a.length b.length) with h | h
    ·exact .inl h
    ·right;have h1:=Y Om;have h2:=O Om;omega
   ·rw[jF,a6T,a6X,η,θ,a8C,a7K,a8X,← a6Z];rw[show t%4294967296+4294967296*(t/4294967296)=t from Nat.mod_add_div t 4294967296];have h3:4294967296 ^ P.length*t=4294967296 ^ P.length*c+4294967296 ^ P.length*x+4294967296 ^ P.length*y:=by rw[← ht,a6Z,a6Z]
    omega
   ·unfold tF;rw[a6T,a6X];exact Lq
  simp only[aC.wp,go_sem] at fin;simp only[go_sem,da,g6,db,u,g0];by_cases c1:P.length<a.length
  ·have e:(P.length:Int)<(a.length:Nat):=Om;simp only[go_sem,e,dd,g0,u,ζ c1,ex,M,LP,g1];by_cases H:P.length<b.length
   ·have d:(P.length:Int)<(b.length:Nat):=Om;simp only[go_sem,d,LQ,g1,u,X H,ey,N];exact fin _ (by simp only[go_sem,g0]) (by simp only[go_sem,g1]) (by simp only[go_sem,g5]) (by simp only[go_sem,u]) rfl
   ·have d:¬ (P.length:Int)<(b.length:Nat):=Om;have h0:=O H;simp only[go_sem,d];exact fin _ (by simp only[go_sem,g0]) (by simp only[go_sem,g1]) (by simp only[go_sem,g5]) (by simp only[go_sem,u]) (by simp only[go_sem,h0])
  ·have e:¬ (P.length:Int)<(a.length:Nat):=Om;have h0:=Y c1;simp only[go_sem,e,LP,g1,u];by_cases H:P.length<b.length
   ·have d:(P.length:Int)<(b.length:Nat):=Om;have β:IntKind.u64.wrap ((c:Int)+(y:Int))=((c+x+y:Nat):Int):=by rw[h0]; exact eT Om
    simp only[go_sem,d,LQ,g1,u,X H,ey,β];exact fin _ (by simp only[go_sem,g0]) (by simp only[go_sem,g1]) (by simp only[go_sem,g5]) (by simp only[go_sem,u]) rfl
   ·have d:¬ (P.length:Int)<(b.length:Nat):=Om;have γ:=O H;simp only[go_sem,d];exact fin _ (by simp only[go_sem,g0]) (by simp only[go_sem,g1]) (by simp only[go_sem,g5]) (by simp only[go_sem,u]) (by simp only[go_sem,h0,γ])
 simp only[aC.wp,go_sem] at body;have p:¬ P.length<a.length→¬ P.length<b.length→c=0→∀ F:PF,F 5=some v→aC.wp C (.seq (.region TF) .ret) (aV [.tmp 4] (bX (aI (aH (val a+val b))))) F H0:=by
  intro n1 n2 n3 F f5;have hV:val P=val a+val b:=by rw[n3,a7F Om,a7F Om] at B;omega
  have hs:=L.trim _ l Om;rw[hV] at hs;simp only[go_sem,TF,f5];refine tH hs hO rfl fun F1 H1 _=>?_;simp only[go_sem];exact bA (.inr rfl) .nil rfl a_ ⟨.refl _,rfl⟩
 simp only[aC.wp,go_sem] at p;simp only[go_sem,Dz,Tc,tF];by_cases c1:P.length<a.length
 ·have e:(P.length:Int)<(a.length:Nat):=Om;simp only[go_sem,e];refine body Om _ ?_ _ (by unfold tF; exact Lq);intro i q v' Q H2 M N R w A S U;rw[← M] at A w;exact aD (α:=List Nat × Nat × PV × PH) (i,q,v',H2) ⟨by simp only; omega,w,N,R,A,U⟩ (by simp only; omega) S b_
 ·have e:¬ (P.length:Int)<(a.length:Nat):=Om;simp only[go_sem,e];by_cases H:P.length<b.length
  ·have d:(P.length:Int)<(b.length:Nat):=Om;simp only[go_sem,d];refine body Om _ ?_ _ (by unfold tF; exact Lq);intro i q v' Q H2 M N R w A S U;rw[← M] at A w;exact aD (α:=List Nat × Nat × PV × PH) (i,q,v',H2) ⟨by simp only; omega,w,N,R,A,U⟩ (by simp only; omega) S b_
  ·have d:¬ (P.length:Int)<(b.length:Nat):=Om;simp only[go_sem,d];by_cases c3:c=0
   ·have J:¬ (c:Int)>0:=Om;simp only[go_sem,J];exact p c1 H c3 _ rfl
   ·have J:(c:Int)>0:=Om;simp only[go_sem,J];refine body Om _ ?_ _ (by unfold tF; exact Lq);intro i q v' Q H2 M N R w A S U;rw[← M] at A w;exact aD (α:=List Nat × Nat × PV × PH) (i,q,v',H2) ⟨by simp only; omega,w,N,R,A,U⟩ (by simp only; omega) S b_
structure NU (C:Ctx):Prop extends fc C where
 plus:∀ a b,Lim a→Lim b→a.length≤8388608→b.length≤8388608→aG C 43 [aI a,aI b] .nil (aF (aI (aH (val a+val b))))
theorem adW {C:Ctx} (L:NU C) (a b:List Nat) (i:Lim a) (l:Lim b) (u:a.length≤35184372087808) (w:b.length≤35184372087808) :
  SV.wp C (aV aoU.res (bX (opV (dU (val a) (val b)) (val a+val b)))) (PF.args [aI a,aI b]) .nil:=by
 unfold opV;simp only[go_sem,SV,adX,adY,aoU];refine aA (L.large a i u) rfl ?_;by_cases d:nl (val a)>512
 ·simp only[go_sem,d,wg];rw[if_pos (by simp[dU,d])];exact eJ rfl
 simp only[go_sem,d];refine aA (L.large b l w) rfl ?_;by_cases e:nl (val b)>512
 ·simp only[go_sem,e,wg];rw[if_pos (by simp[dU,e])];exact eJ rfl
 rw[if_neg (by simp[dU,d,e])];simp only[go_sem,e,adZ];refine aA (L.trim a i u) rfl ?_;simp only[go_sem];refine aA (L.trim b l w) rfl ?_;simp only[go_sem];have q:=L.plus (aH (val a)) (aH (val b)) (aX _) (aX _) (by rw[bB]; omega) (by rw[bB]; omega);rw[aW,aW] at q;refine aA q rfl ?_;have x:=Pn (a:=val a) (b:=val b) (m:=512) Om Om;have p:=L.large (aH (val a+val b)) (aX _) (by rw[bB]; omega);rw[aW] at p;simp only[go_sem,aeA];refine aA p rfl ?_;unfold szV szL szE;by_cases c:nl (val a+val b)>512
 ·rw[if_pos c,if_pos c];simp only[go_sem,c,aeB];exact eJ rfl
 ·rw[if_neg c,if_neg c];simp only[go_sem,c,aeC];exact bA (.inr rfl) .nil rfl a_ ⟨.refl _,rfl⟩
theorem afM {C:Ctx} (L:NU C) (a b:List Nat) (i:Lim a) (l:Lim b) (p:a.length≤35184372087808) (q:b.length≤35184372087808) :
  TH.wp C (aV apE.res (bX (rK (val a) (val b)))) (PF.args [aI a,aI b]) .nil:=by
 unfold rK;simp only[go_sem,TH,afN,afO,apE];refine aA (L.large a i p) rfl ?_;by_cases c:nl (val a)>512
 ·simp only[go_sem,c,wn];rw[if_pos (by simp[dU,c])];exact eJ rfl
 simp only[go_sem,c];refine aA (L.large b l q) rfl ?_;by_cases d:nl (val b)>512
 ·simp only[go_sem,d,wn];rw[if_pos (by simp[dU,d])];exact eJ rfl
 rw[if_neg (by simp[dU,c,d])];simp only[go_sem,d,afP];refine aA (L.cmp a b i l p q) rfl ?_;by_cases e:val a<val b
 ·have:dM (val a) (val b)=-1:=by simp[dM,e]
  rw[if_pos e];simp only[go_sem,this,show ((-1:Int)<0) by decide,afQ];exact eJ rfl
 ·have:¬ dM (val a) (val b)<0:=by unfold dM;rw[if_neg e];split<;>decide
  rw[if_neg e];have x:=fL (Nat.sub_le (val a) (val b));have w:=fL (Om:val b≤val a);simp only[go_sem,this,afR];refine aA (L.trim a i p) rfl ?_;simp only[go_sem];refine aA (L.trim b l q) rfl ?_;simp only[go_sem];have u:=L.minus (aH (val a)) (aH (val b)) (aX _) (aX _) (by rw[aW,aW]; omega) (by rw[bB,bB]; exact w) (by rw[bB]; omega);rw[aW,aW] at u;refine aA u rfl ?_;rw[AE Om];simp only[go_sem];exact bA (.inr rfl) .nil rfl a_ ⟨.refl _,rfl⟩
def R8 (k:Nat) (v:Nat):PF:=((PF.nil.set 3 (.int .i64 k)).set 4 (.int .u32 v))
theorem Sa {C:Ctx} (L:oP C) (xs:List Nat) (F:Lim xs) (O:xs.length≤35184372087808) :
  LD.wp C (aV G3.res (aF (.int .i64 (cJ (val xs):Nat)))) (PF.args [aI xs]) .nil:=by
 simp only[go_sem,LD,Sb,Sd,G3];refine aA (L.trim xs F O) rfl ?_;have Q:=fD F;simp only[go_sem,Se,a6K,bB,BT];by_cases u:nl (val xs)=0
 ·simp only[go_sem,decide_eq_true u,Sf];refine aQ (.inr rfl) rfl ?_;have:val xs=0:=gT.1 u;simp[bO,this,jH]
 obtain⟨n,M⟩:∃ n,nl (val xs)=n+1:=⟨nl (val xs)-1,by omega⟩;obtain⟨t,q,x⟩:=R6 (xs:=aH (val xs)) (aX _) (by rw[aW]; exact M);have e:t<4294967296:=aX _ t (a9D q);have N:val xs=val ((aH (val xs)).take n)+4294967296 ^ n*t:=by
  have:=aW (val xs);have c:n<(aH (val xs)).length:=by rw[bB]; omega
  have K:(aH (val xs))[n]=t:=by rw[a6Y c] at q; exact a8Y.inj q
  conv=>lhs; rw[← this,← a7F (l:=aH (val xs)) (i:=n+1) (by rw[bB]; omega)]
  rw[cB _ c,K]
 have R:cJ (val xs)=32*n+cJ t:=by have B:=eS ((aX (val xs)).take n);rw[a7D,bB,a8S Om] at B;have p:=Ib (lo:=val ((aH (val xs)).take n)) (k:=32*n) (hi:=t) (by rw[Nat.pow_mul]; exact B) x;rw[← p,Nat.pow_mul];exact congrArg cJ N
 have d:(aL (aH (val xs)))[n]?=some [.int .u32 (t:Nat)]:=by simp[aL,q]
 have H:IntKind.i64.wrap (((nl (val xs):Nat):Int)-1)=(n:Int):=by rw[wrap_i64 Om Om]; omega
 have J:IntKind.i64.wrap (32*(n:Int))=((32*n:Nat):Int):=by rw[wrap_i64 Om Om]; omega
 simp only[go_sem,decide_eq_false u,Sg,Sh,a6K,bB,H,J,d];refine wp_loop (α:=Nat × Nat) (fun a=>R8 a.1 a.2) (fun _=>.nil) (fun a=>a.1+cJ a.2=32*n+cJ t∧a.2<4294967296) (fun a=>a.2) (32*n,t) ⟨rfl,e⟩ ?_ a_ ?_
 ·unfold R8;exact Lq
 rintro⟨k,v⟩ ⟨p,hlt⟩;simp only at p hlt;have E:cJ t≤32:=(lL t 32).2 e;simp only[go_sem,R9,Si,R8];by_cases A:(v:Int)>0
 ·have y:v≠0:=Om;have w:IntKind.u32.wrap (a8O (v:Int) 2)=((v/2:Nat):Int):=by rw[show a8O (v:Int) 2=((v/2:Nat):Int) from Int.ofNat_tdiv v 2,cI,a7X Om]
  simp only[go_sem,A,Sj,Sk,w,wZz k];refine aD (k+1,v/2) ⟨?_,?_⟩ (Nat.div_lt_self Om (by decide)) ?_ a_
  ·have:=oZ y;simp only; omega
  ·simp only; omega
  ·exact Lq
 ·have:v=0:=Om;subst this;simp only[go_sem,A,Di];refine aQ (.inr rfl) rfl ?_;rw[jH] at p;simp only[bO,PV.int.injEq,true_and];omega
theorem Bv (n:Nat):4294967296 ^ (n/32)*2 ^ (n%32)=2 ^ n:=by
 rw[show (4294967296:Nat)=2 ^ 32 by decide,← Nat.pow_mul,← Nat.pow_add];congr 1;omega
theorem axT (n:Nat):IntKind.i64.wrap (a8O (n:Int) 32)=IntKind.i64.wrap ((n/32:Nat):Int):=by
 rw[show a8O (n:Int) 32=((n/32:Nat):Int) from Int.ofNat_tdiv n 32]
theorem ayG (n:Nat):Int.tmod (n:Int) 32=((n%32:Nat):Int):=Int.ofNat_tmod n 32
def aLY (a:List Nat) (n:Nat) (v:PV) (c i:Nat):PF:=(((((PF.nil.set 0 (aI a)).set 1 (.int .i64 n)).set 5 (v)).set 6 (.int .u64 c)).set 7 (.int .i64 i))
theorem aBC {C:Ctx} (L:oP C) (a:List Nat) (n:Nat) (ha:Lim a) (h1:a.length≤8388608) (hn:n≤8388608) (h0:a.length=0→val a=0) :
  df.wp C (aV uup.res (oO 1 (aL (aH (val a*2 ^ n))))) (PF.args [aI a,.int .i64 n]) .nil:=by
 simp only[go_sem,df,aBD,aBE,uup,a6K,BT];by_cases B:a.length=0
 ·simp only[go_sem,decide_eq_true B,aBF];rw[h0 B,Nat.zero_mul,fG];exact vw (.inr rfl) rfl
 have ez:IntKind.i64.wrap (a8O (n:Int) 32)=((n/32:Nat):Int):=by rw[axT,dg Om]
 have em:=ayG n;have eu:IntKind.u64.wrap ((n%32:Nat):Int)=((n%32:Nat):Int):=bE Om;have S:=Bv n;have R:n%32<32:=a8A _ (by decide);have hz:n/32≤8388608:=Om;generalize ε:n/32=z at *
 generalize γ:n%32=s at *
 have O:((z:Nat):Int)*((4:Nat):Int)≤140737488355328:=Om;have Q:((z:Nat):Int)≤9223372036854775807:=Om;have V:a6N z [PV.int .u32 0]=aL (a6N z 0):=by simp[aL]
 have J:2 ^ s≤2147483648:=a9J (show 0<2 by decide) (Om:s≤31);have w:0<2 ^ s:=a9E (by decide);simp only[go_sem,decide_eq_false B,aBG,ez,O,Q,V];refine aR fun o ho=>?_;simp only[go_sem,aBH,aBI];refine wp_loop (α:=List Nat × Nat × Nat × PV × PH) (fun t=>aLY a n t.2.2.2.1 t.2.1 t.2.2.1) (fun t=>t.2.2.2.2)
  (fun t=>t.2.2.1≤a.length∧t.1.length=z+t.2.2.1∧Lim t.1∧t.2.1<2 ^ s∧val t.1+4294967296 ^ t.1.length*t.2.1=val (a.take t.2.2.1)*2 ^ n∧bP t.2.2.2.2 1 t.2.2.2.1 (aL t.1)) (fun t=>a.length-t.2.2.1) (a6N z 0,0,0,.osl o 1 0 z,PH.nil.set o (.rows 1 (aL (a6N z 0))))
  ⟨by simp,by simp,vO _,w,by simp[val,rX],.inr ⟨o,aL (a6N z 0),by rw[bY,List.length_replicate],by simp only[go_sem],by rw[bY]; exact a6S _,a7M⟩⟩ ?_ b_ ?_
 ·unfold aLY;exact Lq
 rintro⟨P,c,i,v,H0⟩ ⟨hi,W,d,X,p,M⟩;simp only at hi W d X p M ⊢;simp only[go_sem,afS,aBJ,aLY];by_cases E:i<a.length
 ·have q:(i:Int)<(a.length:Nat):=Om;have β:=ha _ (a6M E);have U:=cB a E;have N:=bS a E;generalize Y:a[i]=x at *
  have δ:x*2 ^ s≤4294967295*2147483648:=Nat.mul_le_mul Om J;have ex:IntKind.u64.wrap ((x:Nat):Int)=((x:Nat):Int):=bE Om;have Z:2 ^ s*x=x*2 ^ s:=a7O _ _;have H:shift .shl .u64 (x:Int) (s:Int)=some (.int .u64 ((2 ^ s*x:Nat):Int)):=KV Om Om;have F:=orI (a:=2 ^ s*x) (b:=c) (n:=c+2 ^ s*x) Om Om (by rw[Nat.or_comm]; exact Qd X Om) Om;have A:(c+2 ^ s*x)/4294967296<2 ^ s:=by rw[a9M (by decide)];have:2 ^ s*(x+1)≤2 ^ s*4294967296:=a8T _ Om;rw[a6Z,Nat.mul_one] at this;omega
  have u:(1:Nat)*1≤16777216:=by decide
  simp only[go_sem,q,aBK,N,ex,em,eu,H,F,aBL,cI,u];refine eZ (src:=[[.int .u32 (((c+2 ^ s*x)%4294967296:Nat):Int)]]) M rfl (qB Om) fun v' H' l _=>?_;rw[qC] at l;simp only[go_sem,aBM,xL,afT,wZz i];refine aD (P++[(c+2 ^ s*x)%4294967296],(c+2 ^ s*x)/4294967296,i+1,v',H') ⟨by simp only; omega,by simp; omega,d.app fun y hy=>by simp at hy; subst hy; exact a8A _ (by decide),A,?_,l⟩ (by simp only; omega) ?_ b_
  ·simp only;have hp:4294967296 ^ P.length*(2 ^ s*x)=4294967296 ^ i*x*2 ^ n:=by rw[W,Nat.pow_add,← S];rw[a7K,Nat.mul_left_comm (4294967296 ^ i),← a7K (4294967296 ^ z),a7O (4294967296 ^ z*2 ^ s),a7K,a7O x]
   rw[jF,a6T,a6X,a8C,a7K,a8X,← a6Z,Nat.mod_add_div,U,a6Z,a7Q,← a8X,p,hp]
  ·exact Lq
 ·have e:i=a.length:=Om;subst e;have q:¬ (a.length:Int)<(a.length:Nat):=Om;have u:(1:Nat)*1≤16777216:=by decide
  have hV:val (P++[c])=val a*2 ^ n:=by rw[jF,p,a7M]
  have K:Lim (P++[c]):=d.app fun x Y=>by simp at Y; omega
  have ec:IntKind.u32.wrap ((c:Nat):Int)=((c:Nat):Int):=by rw[cI,a7X Om]
  simp only[go_sem,q,afU,ec,u];refine eZ (src:=[[.int .u32 ((c:Nat):Int)]]) M rfl (qB Om) fun v' H' l _=>?_;rw[qC] at l;have R:=L.trimM _ K (by simp; omega);rw[hV] at R;refine Gf R l rfl fun F1 H1 _ r H2 hr _=>?_;simp only[go_sem];exact auT (.inr rfl) hr rfl
def SY (a:List Nat) (n:Nat) (v:PV) (i:Nat):PF:=((((PF.nil.set 0 (aI a)).set 1 (.int .i64 n)).set 5 (v)).set 6 (.int .i64 i))
theorem Sr {C:Ctx} (L:oP C) (a:List Nat) (n:Nat) (E:Lim a) (h1:a.length≤8388608) (hn:n≤1000000000) :
  LH.wp C (aV G4.res (bX (aI (aH (val a/2 ^ n))))) (PF.args [aI a,.int .i64 n]) .nil:=by
 have ez:IntKind.i64.wrap (a8O (n:Int) 32)=((n/32:Nat):Int):=by rw[axT,dg Om]
 have em:=ayG n;have eu:IntKind.u64.wrap ((n%32:Nat):Int)=((n%32:Nat):Int):=bE Om;have J:=Bv n;have O:n%32<32:=a8A _ (by decide);have hz:n/32≤1000000000:=Om;generalize θ:n/32=z at *
 generalize η:n%32=s at *
 simp only[go_sem,LH,Ss,St,G4,a6K,ez];by_cases c0:a.length≤z
 ·have d:((z:Nat):Int)≥(a.length:Nat):=Om;have hq:val a/2 ^ n=0:=by refine baA (Nat.lt_of_lt_of_le (eS E) ?_);rw[← J];exact a7U (a9J (by decide) c0) (Nat.le_mul_of_pos_right _ (a9E (by decide)))
  simp only[go_sem,d,Su];rw[hq,fG];exact bA (vs:=[.aB]) (.inr rfl) .nil rfl a_ ⟨.nil 1,rfl⟩
 have d:¬ ((z:Nat):Int)≥(a.length:Nat):=Om;have hR:val a/2 ^ n=val (a.drop z)/2 ^ s:=by rw[uK E Om,← J,Nat.div_div_eq_div_mul]
 have A:Lim (a.drop z):=E.drop z;simp only[go_sem,d,Sv,Sw,ez];refine wp_loop (α:=List Nat × PV × PH) (fun t=>SY a n t.2.1 (z+t.1.length)) (fun t=>t.2.2)
  (fun t=>z+t.1.length≤a.length∧t.1=dR t.1.length (val (a.drop z)/2 ^ s)∧bP t.2.2 1 t.2.1 (aL t.1)) (fun t=>a.length-t.1.length) ([],.aB,.nil)
  ⟨by simp; omega,rfl,.nil⟩ ?_ a_ ?_
 ·unfold SY
  (repeat' (first|exact c_|refine d_ ?_ ?_))<;>first|(simp only[go_sem,a9F]<;>rfl)|rfl
 rintro⟨P,v,H0⟩ ⟨hP,hD,Y⟩;simp only at hP hD Y ⊢;simp only[go_sem,Dj,Sx,SY];have w:Lim P:=by rw[hD]; exact mE _ _
 by_cases Q:z+P.length<a.length
 ·have p:((z+P.length:Nat):Int)<(a.length:Nat):=Om;have ζ:=E _ (a6M Q);have Z:=bS a Q;have γ:P.length≤(a.drop z).length:=by rw[a8Q]; omega
  have M:=uK A γ;have c:(a.drop z).drop P.length=a[z+P.length]::a.drop (z+P.length+1):=by rw[List.drop_drop,a8I Q]
  generalize hx:a[z+P.length]=x at *
  have ex:IntKind.u64.wrap ((x:Nat):Int)=((x:Nat):Int):=bE Om;have β:(1:Nat)*1≤16777216:=by decide
  have X:IntKind.i64.wrap (((z+P.length:Nat):Int)+1)=((z+P.length+1:Nat):Int):=cW Om;have fin:∀ (t:Nat) (F:PF),t<18446744073709551616→val (a.drop z)/4294967296 ^ P.length%(4294967296*4294967296)=t→F 0=some (aI a)→F 1=some (.int .i64 n)→F 5=some v→F 6=some (.int .i64 (z+P.length:Nat))→F 7=some (.int .u64 t) →
    ∀ K:bQ,(∀ v' N H2,(SY a n v' (z+(P.length+1))).le N→bP H2 1 v' (aL (P++[t/2 ^ s%4294967296]))→(P++[t/2 ^ s%4294967296])=dR (P.length+1) (val (a.drop z)/2 ^ s)→K .normal N H2) →
    aC.wp C (.region c8) (eP 1 (fV C (aC.wp C (.region SZ)) K)) F H0:=by
   intro t F ht δ f0 f1 f5 f6 f7 K hK;have u:shift .shr .u64 (t:Int) (s:Int)=some (.int .u64 ((t/2 ^ s:Nat):Int)):=aVY Om;simp only[go_sem,c8,f5,f7,f1,em,eu,u,cI,β];refine eZ (src:=[[.int .u32 ((t/2 ^ s%4294967296:Nat):Int)]]) Y rfl (qB Om) fun v' H' B _=>?_;rw[qC] at B;simp only[go_sem,SZ,f6,X];refine hK v' _ H' ?_ B ?_
   ·unfold SY;exact Lq
   ·rw[vL,← hD];congr 2;have e:val (a.drop z)/4294967296 ^ P.length=t%4294967296+4294967296*(t/4294967296+4294967296*(val (a.drop z)/4294967296 ^ P.length/(4294967296*4294967296))):=by have:=Nat.mod_add_div (val (a.drop z)/4294967296 ^ P.length) (4294967296*4294967296);rw[δ] at this;have h2:=Nat.mod_add_div t 4294967296;rw[a6Z,← a8X,h2,← a7K];exact this.symm
    have:=XL O e;rw[this];congr 2;have h2:=Nat.mod_add_div t 4294967296;omega
  simp only[aC.wp,go_sem] at fin;simp only[go_sem,p,Sy,Z,ex,Sz,X];by_cases R:z+P.length+1<a.length
  ·have q:((z+P.length+1:Nat):Int)<(a.length:Nat):=Om;have ε:=E _ (a6M R);have H:=bS a R;rw[a8I R] at c;generalize hy:a[z+P.length+1]=y at *
   have ey:IntKind.u64.wrap ((y:Nat):Int)=((y:Nat):Int):=bE Om;have u:shift .shl .u64 (y:Int) ((32:Nat):Int)=some (.int .u64 ((2 ^ 32*y:Nat):Int)):=KV (by decide) Om;have W:=orI (a:=x) (b:=2 ^ 32*y) (n:=x+2 ^ 32*y) Om Om (Qd Om Om) Om;simp only[go_sem,q,S0,X,H,ey,show shift .shl .u64 (y:Int) 32=_ from u,W];refine fin (x+2 ^ 32*y) _ Om ?_ rfl rfl rfl rfl rfl _ ?_
   ·rw[← M,c];simp only[val];omega
   ·intro v' N H2 S U V;refine aD (α:=List Nat × PV × PH) (P++[(x+2 ^ 32*y)/2 ^ s%4294967296],v',H2) ⟨by simp; omega,by simpa using V,U⟩ (by simp; omega) ?_ b_;simp only[a6T,a6X];exact S
  ·have q:¬ ((z+P.length+1:Nat):Int)<(a.length:Nat):=Om;rw[baE (l:=a) (i:=z+P.length+1) Om] at c;simp only[go_sem,q];refine fin x _ Om ?_ rfl rfl rfl rfl rfl _ ?_
   ·rw[← M,c];simp only[val];omega
   ·intro v' N H2 S U V;refine aD (α:=List Nat × PV × PH) (P++[x/2 ^ s%4294967296],v',H2) ⟨by simp; omega,by simpa using V,U⟩ (by simp; omega) ?_ b_;simp only[a6T,a6X];exact S
 ·have e:z+P.length=a.length:=Om;have p:¬ ((z+P.length:Nat):Int)<(a.length:Nat):=Om;have hV:val P=val (a.drop z)/2 ^ s:=by rw[hD];refine oI (Nat.lt_of_le_of_lt (baB _ _) ?_);have:=eS A;rw[a8Q] at this;rw[show P.length=a.length-z by omega];exact this
  have O:=L.trim _ w Om;rw[hV,← hR] at O;simp only[go_sem,p,Dk];refine tH O Y rfl fun F1 H1 _=>?_;simp only[go_sem];exact bA (.inr rfl) .nil rfl a_ ⟨.refl _,rfl⟩
structure EY (C:Ctx):Prop extends NU C where
 bits:∀ xs,Lim xs→xs.length≤35184372087808→aG C 31 [aI xs] .nil (aF (.int .i64 (cJ (val xs):Nat)))
 upM:∀ (a:List Nat) (n:Nat),Lim a→a.length≤8388608→n≤8388608→(a.length=0→val a=0)→aG C 45 [aI a,.int .i64 n] .nil (oO 1 (aL (aH (val a*2 ^ n))))
 down:∀ (a:List Nat) (n:Nat),Lim a→a.length≤8388608→n≤1000000000→aG C 40 [aI a,.int .i64 n] .nil (aF (aI (aH (val a/2 ^ n))))
def udS:Spec:=fun name vs=>match name,vs with
 | 35,[.int _ v]=>some ([],fun _=>aF (aI (aH v.toNat)))
 | 44,[x,y]=>some ([],fun _=>aF (aI (aH (val (iV x)*val (iV y)))))
 | 32,[x,.osl q _ _ _]=>some ([q],fun c r H'=>H'=c∧∀ xs,Lim xs→c q=some (.rows 1 (aL xs))→r=.int .i64 (dM (val (iV x)) (val xs)))
 | _,_=>none
theorem aLN (v:Nat):udS 35 [.int .u64 v]=some ([],fun _=>aF (aI (aH v))):=rfl
theorem aAV (x y:List Nat):udS 44 [aI x,aI y]=some ([],fun _=>aF (aI (aH (val x*val y)))):=by
 show some ([],fun _=>aF (aI (aH (val (iV (aI x))*val (iV (aI y))))))=_; rw[eC,eC]
theorem aDK (q:Nat) (x L:List Nat):(PH.nil.set q (.rows 1 (aL L)))=(PH.nil.set q (.rows 1 (aL L)))∧∀ xs,Lim xs→(PH.nil.set q (.rows 1 (aL L))) q=some (.rows 1 (aL xs))→(PV.int .i64 (dM (val x) (val L)))=.int .i64 (dM (val (iV (aI x))) (val xs)):=by
 refine⟨rfl,fun xs c e=>?_⟩;rw[cN] at e;have:aL L=aL xs:=(cC.rows.inj (a8Y.inj e)).2;rw[QW this,eC]
def duF (n o d:Nat) (y:List Nat) (top e c:Nat) (k:Int):PF :=
 ((((((PF.nil.set 10 (.int .i64 n)).set 11 (.osl o 1 0 d)).set 12 (aI y)).set 13 (.int .u64 top)).set 14 (.osl e 1 0 c)).set 15 (.int .i64 k))
abbrev dW (X:List Nat) (Z:List (List PV)):List (List PV):=aL X++Z
theorem MH {X:List Nat} {Z:List (List PV)} {i:Nat} (h:i<X.length):(dW X Z)[i]?=some [.int .u32 ((X[i]:Nat):Int)]:=by
 rw[dW,a8Z (by rw[bY]; exact h),bS X h]
theorem E6 {X:List Nat} {Z:List (List PV)} {i:Nat} (h:i<X.length) (v:Nat):(dW X Z).set i [.int .u32 (v:Int)]=dW (X.set i v) Z:=by
 rw[dW,List.set_append_left _ _ (by rw[bY]; exact h),fE]
theorem E5 {X:List Nat} {Z:List (List PV)} {j m:Nat} (h:j+m≤X.length):((dW X Z).drop j).take m=aL ((X.drop j).take m):=by
 rw[dW,List.drop_append_of_le_length (by rw[bY]; omega),List.take_append_of_le_length (by rw[a8Q,bY]; omega)];unfold aL;rw[← List.map_drop,← List.map_take]
theorem aWM {C:Ctx} (L:EY C) (n o p:Nat) (y:List Nat) (top l R j:Nat) (X:List Nat) (Z:List (List PV)) (O:l≠o) (hy:Lim y) (hX:Lim X) (γ:X.length=p) (hl:p≤5000) (hj:j+(y.length+1)≤p) (A:0<val y)
  (V:cC) (g0:Nat) (hg:val ((X.drop j).take (y.length+1))/val y≤g0) (N:g0<4294967296) (K:bQ) (F:PF) (H:PH) (hF:((duF n o p y top l R j).set 17 (.int .u64 g0)).le F) (hH:((PH.nil.set o (.rows 1 (dW X Z))).set l V).le H)
  (hK:∀ Y H',((duF n o p y top l R j).set 17 (.int .u64 (val ((X.drop j).take (y.length+1))/val y:Nat))).le Y→((PH.nil.set o (.rows 1 (dW X Z))).set l V).le H'→K .normal Y H') :
  aC.wp C (.block 4 (.loop uY)) K F H:=by
 have d:¬ o=l:=fun h=>O h.symm;have e:((X.drop j).take (y.length+1)).length=y.length+1:=by rw[a7D,a8Q]; omega
 have q:Lim ((X.drop j).take (y.length+1)):=(hX.drop _).take _;have u:=E5 (X:=X) (Z:=Z) (j:=j) (m:=y.length+1) Om;have w:j+(y.length+1)≤(dW X Z).length:=by rw[dW,a6T,bY]; omega
 have J:aL ((X.drop j).take (y.length+1))≠[]:=fun h=>by have:=congrArg List.length h;rw[bY,e] at this;simp at this
 generalize hW:(X.drop j).take (y.length+1)=W at *
 generalize x:val W/val y=E at *
 simp only[go_sem];refine wp_loop (α:=Nat) (fun g=>(duF n o p y top l R j).set 17 (.int .u64 g)) (fun _=>(PH.nil.set o (.rows 1 (dW X Z))).set l V) (fun g=>E≤g∧g<4294967296) (fun g=>g) g0 ⟨hg,N⟩ hF hH ?_;rintro g ⟨β,hlt⟩;have e1:IntKind.i64.wrap ((j:Int)+(y.length:Int))=((j+y.length:Nat):Int):=fW Om;have e2:IntKind.i64.wrap (((j+y.length:Nat):Int)+1)=((j+y.length+1:Nat):Int):=cW Om;have b1:(j:Int)≤((j+y.length+1:Nat):Int):=Om;have b2:((j+y.length+1:Nat):Int)≤(p:Nat):=Om;have b3:j+y.length+1-j=y.length+1:=Om;have mk:=L.make g Om;have tm:=L.times y (aH g) hy (aX _) Om (by have B:nl g≤1:=nJ (by rw[Nat.pow_one]; exact hlt);rw[bB]; omega)
 rw[aW] at tm;have Q:(aH (val y*g)).length≤35184372087808:=by have B:nl g≤1:=nJ (by rw[Nat.pow_one]; exact hlt);have h2:=kY (a:=val y) (b:=g) (fD hy) B;rw[bB]; omega
 have cm:=L.cmp (aH (val y*g)) W (aX _) q Q Om;rw[aW] at cm;simp only[go_sem,uY];refine bV .nil udS a_ ?_;simp only[go_sem,XV,duF];refine bM (aLN g) mk Sq a_ ?_;simp only[go_sem];have tS:=aAV y (aH g);rw[aW] at tS;refine bM tS tm Sq a_ ?_;simp only[go_sem,a6K,e1,e2,b1,b2,b3];refine tG (src:=aL W) ?_ ?_ (fun h=>absurd h J) fun _ o' i=>?_
 ·simp only[go_sem,d,w,u]
 ·unfold roomFor;rw[bY,e];simp only[maxLen]; omega
 refine⟨a_,?_⟩;rw[bY,e];have n1:¬ o'=l:=(hC.1 i).1;refine aDT (o:=o') (s:=1) (rs:=aL W) (vs:=[aI (aH (val y*g)),.osl o' 1 0 (y.length+1)]) (v:=.int .i64 (dM (val y*g) (val W))) rfl (.int _ _) Sq ?_ ?_ ?_ Sq a_ ?_
 ·rw[a8B,a8B,a8W,tR (by rw[bY,e]; exact a6S _),a7F (by rw[bY,e]; exact a6S _)];exact cm
 ·have:=aDK o' (aH (val y*g)) W;rw[aW] at this;exact this
 ·rintro r H' ⟨B,h2⟩;have:=h2 W q (by rw[cN]);rw[eC,aW] at this;exact⟨this,B⟩
 simp only[go_sem];by_cases c:val W<val y*g
 ·have M:dM (val y*g) (val W)=1:=by unfold dM;rw[if_neg Om,if_pos c]
  have hq:E<g:=by rw[← x]; exact (a9M A).2 (by rw[a7O]; exact c)
  have ew:IntKind.u64.wrap ((g:Int)-1)=((g-1:Nat):Int):=by rw[wrap_u64 Om Om]; omega
  simp only[go_sem,M,show (1:Int)>0 by decide,XW,ew];refine aD (g-1) ⟨by omega,by omega⟩ Om ?_ ?_
  ·exact Lq
  ·refine PH.aJ (PH.aJ a_ ?_) ?_
   ·have S:¬ o=o':=fun h=>by subst h;rw[aT,if_neg d,cN] at i;cases i
    simp only[go_sem,S,d]
   ·have U:¬ l=o':=fun h=>n1 h.symm;simp only[go_sem,U]
 ·have M:¬ dM (val y*g) (val W)>0:=by unfold dM;rw[if_neg c];split<;>decide
  have hq:g=E:=by
   have:g≤E:=by rw[← x]; exact (Nat.le_div_iff_mul_le A).2 (by rw[a7O]; omega)
   omega
  simp only[go_sem,M];refine hK _ _ ?_ ?_
  ·unfold duF
   (repeat' (first|exact c_|refine d_ ?_ ?_))<;>first|(simp only[go_sem,← hq]<;>rfl)|rfl
  ·refine PH.aJ (PH.aJ a_ ?_) ?_
   ·have S:¬ o=o':=fun h=>by subst h;rw[aT,if_neg d,cN] at i;cases i
    simp only[go_sem,S,d]
   ·have U:¬ l=o':=fun h=>n1 h.symm;simp only[go_sem,U]
theorem aPL (R k:Nat) (h:k<nl R):∃ i:k<(aH R).length,(aH R)[k]=R/4294967296 ^ k%4294967296:=by
 have c:k<(aH R).length:=by rw[bB]; exact h
 refine⟨c,?_⟩;have d:=uK (aX R) (Nat.le_of_lt c);rw[aW,a8I c] at d;have e:=aX R _ (a6M c);simp only[val] at d;rw[← d,Nat.add_mul_mod_self_left,a7X e]
theorem aFG (R k:Nat) (h:nl R≤k):R/4294967296 ^ k%4294967296=0:=by
 rw[baA ((iJ R k).1 h)]
theorem aRP {A P W Z:List Nat} {i:Nat} (c:P.length=i) (hi:i<W.length) (v:Nat):(A++(P++W.drop i)++Z).set (A.length+i) v=A++((P++[v])++W.drop (i+1))++Z :=
 QW (by rw[← fE]; exact GA c hi v)
theorem aZO {C:Ctx} (n o w:Nat) (y:List Nat) (top q Q j:Nat) (X:List Nat) (Z:List (List PV)) (B:q≠o) (N:X.length=w) (hl:w≤5000) (hj:j+(y.length+1)≤w)
  (S:cC) (g R:Nat) (K:bQ) (F:PF) (H:PH) (hF:((((duF n o w y top q Q j).set 17 (.int .u64 g)).set 18 (aI (aH R))).set 19 (.int .i64 0)).le F) (hH:((PH.nil.set o (.rows 1 (dW X Z))).set q S).le H)
  (hK:∀ U H',((duF n o w y top q Q j).set 17 (.int .u64 g)).le U→((PH.nil.set o (.rows 1 (dW (X.take j++dR (y.length+1) R++X.drop (j+(y.length+1))) Z))).set q S).le H'→K .normal U H') :
  aC.wp C (.block 6 (.loop uZ)) K F H:=by
 have l:¬ o=q:=fun h=>B h.symm;have hA:(X.take j).length=j:=by rw[a7D]; omega
 have ε:((X.drop j).take (y.length+1)).length=y.length+1:=by rw[a7D,a8Q]; omega
 have θ:(X.drop (j+(y.length+1))).length=w-(j+(y.length+1)):=by rw[a8Q,N]
 have u:X.take j++(X.drop j).take (y.length+1)++X.drop (j+(y.length+1))=X:=by rw[a7V,← List.drop_drop,a9I,a9I]
 rw[← u] at hH;generalize γ:X.take j=A at *
 generalize δ:(X.drop j).take (y.length+1)=W at *
 generalize η:X.drop (j+(y.length+1))=p at *
 simp only[go_sem];refine wp_loop (α:=List Nat) (fun P=>(((duF n o w y top q Q j).set 17 (.int .u64 g)).set 18 (aI (aH R))).set 19 (.int .i64 P.length)) (fun P=>(PH.nil.set o (.rows 1 (dW (A++(P++W.drop P.length)++p) Z))).set q S)
  (fun P=>P.length≤y.length+1∧P=dR P.length R) (fun P=>y.length+1-P.length) [] ⟨a6Q _,rfl⟩ hF (by simpa using hH) ?_
 rintro P ⟨hP,hD⟩;simp only[go_sem,uZ,XY,duF];by_cases c:P.length<y.length+1
 ·have J:(P.length:Int)≤(y.length:Nat):=Om;have V:IntKind.i64.wrap ((j:Int)+(P.length:Int))=((j+P.length:Nat):Int):=fW Om;have β:(A++(P++W.drop P.length)++p).length=w:=by simp only[a6T,a8Q]; omega
  have hi:j+P.length<(A++(P++W.drop P.length)++p).length:=Om;have b1:((j+P.length:Nat):Int)<(w:Nat):=Om;have r1:=MH (Z:=Z) hi;have s1:=E6 (Z:=Z) hi 0;have E:j+P.length<((A++(P++W.drop P.length)++p).set (j+P.length) 0).length:=by rw[a8M]; exact hi
  have d:=fun v=>aRP (A:=A) (P:=P) (W:=W) (Z:=p) (i:=P.length) rfl Om v;rw[hA] at d;generalize ζ:A++(P++W.drop P.length)++p=XX at *
  have r2:(dW (A++((P++[0])++W.drop (P.length+1))++p) Z)[j+P.length]?=some [.int .u32 ((0:Nat):Int)]:=by rw[← d 0,MH E,List.getElem_set_self]
  have s2:∀ v,(dW (A++((P++[0])++W.drop (P.length+1))++p) Z).set (j+P.length) [.int .u32 ((v:Nat):Int)]=dW (A++((P++[v])++W.drop (P.length+1))++p) Z:=by intro v;rw[← d 0,E6 E,List.set_set,d]
  have a5V:=vL P.length R;rw[← hD] at a5V;have Y:IntKind.i64.wrap ((P.length:Int)+1)=((P.length+1:Nat):Int):=cW Om;simp only[go_sem,J,XZ,V,b1,l,r1,show ([PV.int .u32 (0:Int)])=[PV.int .u32 ((0:Nat):Int)] from rfl,s1,YA,bB];by_cases c2:P.length<nl R
  ·have x:(P.length:Int)<(nl R:Nat):=Om;obtain⟨M,O⟩:=aPL R P.length c2;have hr:=bS (aH R) M;rw[O] at hr;simp only[go_sem,x,YB,hr,V,b1,l,r2,s2,List.set_set,d,EB,Y];refine aD (P++[R/4294967296 ^ P.length%4294967296]) ⟨by simp; omega,by rw[a6T,a6X]; exact a5V.symm⟩ (by simp; omega) ?_ ?_
   ·rw[a6T,a6X];exact Lq
   ·rw[a6T,a6X];refine PH.aJ (PH.aJ a_ ?_) ?_<;>simp only[go_sem,l,show ¬ q=o from B]
  ·have x:¬ (P.length:Int)<(nl R:Nat):=Om;have O:=aFG R P.length Om;rw[O] at a5V;simp only[go_sem,x,d,EB,Y];refine aD (P++[0]) ⟨by simp; omega,by rw[a6T,a6X]; exact a5V.symm⟩ (by simp; omega) ?_ ?_
   ·rw[a6T,a6X];exact Lq
   ·rw[a6T,a6X];refine PH.aJ (PH.aJ a_ ?_) ?_<;>simp only[go_sem,l,show ¬ q=o from B]
 ·have J:¬ (P.length:Int)≤(y.length:Nat):=Om;have e:P.length=y.length+1:=Om;simp only[go_sem,J];refine hK _ _ (by unfold duF; exact Lq) ?_;have h2:A++dR (y.length+1) R++p=A++(P++W.drop P.length)++p:=by rw[baE Om,a8H,← e,← hD]
  rw[h2];exact b_
theorem aEU {y W:List Nat} {m:Nat} (A:Lim y) (hW:Lim W) (w:y.length=m+1) (u:W.length=m+2) (x:0<y[m]):val W/val y≤(4294967296*W[m+1]+W[m])/y[m]:=by
 have p:=cB y (Om:m<y.length);rw[a7F Om] at p;have d:=cB W (Om:m+1<W.length);rw[a7F Om,cB W (Om:m<W.length)] at d;have i:=eS (hW.take m);rw[a7D,a8S Om] at i;have l:0<4294967296 ^ m:=a9E (by decide);have q:4294967296 ^ m*y[m]≤val y:=Om;have c:0<4294967296 ^ m*y[m]:=Nat.mul_pos l x;have e:val W=val (W.take m)+4294967296 ^ m*(4294967296*W[m+1]+W[m]):=by rw[d,a8C,a6Z,a7K]; omega
 refine a7U (Nat.div_le_div_left q c) ?_;rw[← Nat.div_div_eq_div_mul,e,Nat.add_mul_div_left _ _ l,baA i,a7I];exact a6S _
theorem aAW {C:Ctx} (L:EY C) (U0 n o i d e m:Nat) (y z:List Nat) (M:e≠o) (hy:Lim y) (B:y.length=m+1) (ht:0<y[m]) (b':i=d+(m+1)) (O:i≤5000) (X:List Nat) (A:oV U0 (val y) (m+1) i d d X (a6N d 0)) (K:bQ) (F:PF) (H:PH)
  (hF:(duF n o i y (y[m]) e d ((d:Int)-1)).le F) (hH:((PH.nil.set o (.rows 1 (dW X (aL z)))).set e (.rows 1 (aL (a6N d 0)))).le H)
  (hK:∀ X' Q' F' H',oV U0 (val y) (m+1) i d 0 X' Q'→(duF n o i y (y[m]) e d (-1)).le F'→((PH.nil.set o (.rows 1 (dW X' (aL z)))).set e (.rows 1 (aL Q'))).le H'→K .normal F' H') :
  aC.wp C (.block 2 (.loop vC)) K F H:=by
 have l:¬ o=e:=fun h=>M h.symm;have l':¬ e=o:=M;have hV:val y<4294967296 ^ (m+1):=by have:=eS hy; rw[B] at this; exact this
 have ι:0<val y:=by have h1:=cB y (Om:m<y.length);rw[a7F Om] at h1;have:0<4294967296 ^ m*y[m]:=Nat.mul_pos (a9E (by decide)) ht;omega
 have r':=hy _ (a6M (Om:m<y.length));generalize htop:y[m]=top at *
 simp only[go_sem];refine wp_loop (α:=Nat × List Nat × List Nat) (fun t=>duF n o i y top e d ((t.1:Int)-1)) (fun t=>(PH.nil.set o (.rows 1 (dW t.2.1 (aL z)))).set e (.rows 1 (aL t.2.2)))
  (fun t=>t.1≤d∧oV U0 (val y) (m+1) i d t.1 t.2.1 t.2.2) (fun t=>t.1) (d,X,a6N d 0) ⟨a6S _,A⟩ hF hH ?_
 rintro⟨k,X,Q⟩ ⟨hk,A⟩;simp only at hk A;simp only[go_sem,vC,XQ,duF];by_cases h0:0<k
 ·obtain⟨j,rfl⟩:∃ j,k=j+1:=⟨k-1,by omega⟩;have hz:((j+1:Nat):Int)-1=(j:Int):=Om;have Ψ:(j:Int)≥0:=Om;have dst:=Jj A hV Om b';rw[show m+1+1=m+2 from rfl] at dst;obtain⟨hlt,ω⟩:=dst;have κ:=A.lu';have m':=A.lq';have J:((X.drop j).take (m+2)).length=m+2:=by rw[a7D,a8Q]; omega
  have V:Lim ((X.drop j).take (m+2)):=(A.limU.drop _).take _;have p':m+1<((X.drop j).take (m+2)).length:=Om;have n':m<((X.drop j).take (m+2)).length:=Om;have a1:j+(m+1)<X.length:=Om;have a0:j+m<X.length:=Om;have w1:((X.drop j).take (m+2))[m+1]=X[j+(m+1)]:=by simp
  have w0:((X.drop j).take (m+2))[m]=X[j+m]:=by simp
  have ν:=aEU hy V B J (by rw[htop]; exact ht);rw[w1,w0,htop] at ν;have r1:=MH (Z:=aL z) a1;have r0:=MH (Z:=aL z) a0;have l1:=A.limU _ (a6M a1);have l0:=A.limU _ (a6M a0);generalize t':X[j+(m+1)]=u at *
  generalize s':X[j+m]=x at *
  have e1:IntKind.i64.wrap ((j:Int)+(y.length:Int))=((j+(m+1):Nat):Int):=by rw[B]; exact fW Om
  have e0:IntKind.i64.wrap (((j+(m+1):Nat):Int)-1)=((j+m:Nat):Int):=by rw[wrap_i64 Om Om]; omega
  have b1:((j+(m+1):Nat):Int)<(i:Nat):=Om;have b0:((j+m:Nat):Int)<(i:Nat):=Om;have χ:IntKind.u64.wrap ((u:Nat):Int)=((u:Nat):Int):=bE Om;have φ:IntKind.u64.wrap ((x:Nat):Int)=((x:Nat):Int):=bE Om;have δ:shift .shl .u64 (u:Int) 32=some (.int .u64 ((2 ^ 32*u:Nat):Int)):=KV (s:=32) Om Om;have υ:(2:Nat) ^ 32=4294967296:=by decide
  have β:=orI (a:=2 ^ 32*u) (b:=x) (n:=2 ^ 32*u+x) Om Om (Nat.two_pow_add_eq_or_of_lt Om u).symm Om;rw[υ] at δ β;have Θ:¬ ((top:Nat):Int)=0:=Om;have ρ:(4294967296*u+x)/top<18446744073709551616:=Nat.lt_of_le_of_lt (baB _ _) Om;have γ:IntKind.u64.wrap (a8O ((4294967296*u+x:Nat):Int) ((top:Nat):Int))=(((4294967296*u+x)/top:Nat):Int):=by rw[show a8O ((4294967296*u+x:Nat):Int) ((top:Nat):Int)=(((4294967296*u+x)/top:Nat):Int) from rfl];exact bE ρ
  have σ:val ((X.drop j).take (m+2))/val y<4294967296:=(a9M ι).2 (by rw[a7O]; exact hlt);have μ:=E5 (X:=X) (Z:=aL z) (j:=j) (m:=m+2) Om;have ξ:j+(m+2)≤(dW X (aL z)).length:=by rw[dW,a6T,bY]; omega
  have Y:val ((X.drop j).take (m+2))-val y*(val ((X.drop j).take (m+2))/val y)=val ((X.drop j).take (m+2))%val y:=by have:=a9Z (val ((X.drop j).take (m+2))) (val y);omega
  have w:val y*(val ((X.drop j).take (m+2))/val y)≤val ((X.drop j).take (m+2)):=Nat.mul_div_le _ _;clear w1 w0;have gu:=fun g0=>aWM (C:=C) L n o i y top e d j X (aL z) M hy A.limU κ O Om ι (.rows 1 (aL Q)) g0;rw[B,show m+1+1=m+2 from rfl] at gu;generalize hW:(X.drop j).take (m+2)=W at *
  generalize q':val W/val y=E at *
  have Γ:aL W≠[]:=fun h=>by have:=congrArg List.length h;rw[bY,J] at this;simp at this
  have tail:∀ (g0:Nat) (F:PF) (H:PH),E≤g0→g0<4294967296→((duF n o i y top e d j).set 17 (.int .u64 g0)).le F→((PH.nil.set o (.rows 1 (dW X (aL z)))).set e (.rows 1 (aL Q))).le H →
    aC.wp C (.seq (.block 4 (.loop uY)) (.seq (.region DZ) (.seq (.seq (.region EA) (.block 6 (.loop uZ))) (.region EC)))) (eP 3 (fV C (aC.wp C (.region ED)) (fB (fun (t:Nat × List Nat × List Nat)=>duF n o i y top e d ((t.1:Int)-1)) (fun t=>(PH.nil.set o (.rows 1 (dW t.2.1 (aL z)))).set e (.rows 1 (aL t.2.2))) (fun t=>t.1≤d∧oV U0 (val y) (m+1) i d t.1 t.2.1 t.2.2) (fun t=>t.1) (j+1) (eP 2 K)))) F H:=by
   intro g0 F H hg Φ hF hH;have gu:=gu g0 hg Φ;simp only[go_sem] at gu;simp only[go_sem];refine gu _ F H hF hH ?_;intro R H1 p η;have f11:R 11=some (.osl o 1 0 i):=p 11 _ (by unfold duF; simp only[go_sem]);have U:R 12=some (aI y):=p 12 _ (by unfold duF; simp only[go_sem]);have ε:R 15=some (.int .i64 j):=p 15 _ (by unfold duF; simp only[go_sem]);have ζ:R 17=some (.int .u64 (E:Nat)):=p 17 _ (by unfold duF; simp only[go_sem]);have ψ:R 10=some (.int .i64 n):=p 10 _ (by unfold duF; simp only[go_sem]);have f13:R 13=some (.int .u64 top):=p 13 _ (by unfold duF; simp only[go_sem]);have f14:R 14=some (.osl e 1 0 d):=p 14 _ (by unfold duF; simp only[go_sem]);have ho:H1 o=some (.rows 1 (dW X (aL z))):=η o _ (by simp only[go_sem,l]);have ο:H1 e=some (.rows 1 (aL Q)):=η e _ Sq;have b3:(j:Int)≤((j+(m+1)+1:Nat):Int):=Om;have b4:((j+(m+1)+1:Nat):Int)≤(i:Nat):=Om;have b5:j+(m+1)+1-j=m+2:=Om;have e2:IntKind.i64.wrap (((j+(m+1):Nat):Int)+1)=((j+(m+1)+1:Nat):Int):=cW Om;simp only[go_sem,DZ,f11,ε,U,a6K,e1,e2,b3,b4,b5];refine tG (src:=aL W) ?_ ?_ (fun h=>absurd h Γ) fun _ o' N=>?_
   ·simp only[go_sem,ho,ξ,μ]
   ·unfold roomFor;rw[bY,J];simp only[maxLen]; omega
   rw[bY,J];have n1:¬ e=o':=fun h=>by subst h; rw[ο] at N; cases N
   have n2:¬ o=o':=fun h=>by subst h; rw[ho] at N; cases N
   have nq:nl E≤1:=nJ (by rw[Nat.pow_one]; exact σ);have tm:=L.times y (aH E) hy (aX _) Om (by rw[bB]; omega);rw[aW] at tm;have nW:=fD V;have mn:=L.minus W (aH (val y*E)) V (aX _) (by rw[aW]; exact w) (by rw[bB]; exact a7U (fL w) nW) Om;rw[aW,Y] at mn;have Δ:(aL W).take (m+2)=aL W:=a7F (by rw[bY]; omega);simp only[go_sem,ζ];refine aA (L.make E Om) Sq ?_;simp only[go_sem,U];refine aA tm Sq ?_;simp only[go_sem];refine qT (o:=o') (s:=1) (rs:=aL W) mn Sq (by simp only[go_sem,show m+2≤W.length by omega,Δ]) ?_;simp only[go_sem,EA];have Ξ:(dW X (aL z)).map (fun r=>r.map (PV.dA o' 1 (aL W)))=dW X (aL z):=by
    have:dW X (aL z)=aL (X++z):=by simp[dW,aL]
    rw[this]; exact rP _ _ _ _
   have Λ:(aL Q).map (fun r=>r.map (PV.dA o' 1 (aL W)))=aL Q:=rP _ _ _ _;have ur:=aZO (C:=C) n o i y top e d j X (aL z) M κ O Om (.rows 1 (aL Q)) E (val W%val y);rw[B,show m+1+1=m+2 from rfl] at ur;simp only[go_sem] at ur;refine ur _ _ _ ?_ ?_ ?_
   ·unfold duF
    (repeat' (first|exact c_|refine d_ ?_ ?_))<;>first|(simp only[go_sem,ψ,f11,U,f13,f14,ε,ζ,n1,n2]<;>rfl)|rfl
   ·refine PH.aJ (PH.aJ a_ ?_) ?_
    ·simp only[go_sem,l,n2,ho,cC.frz,Ξ]
    ·simp only[go_sem,n1,ο,cC.frz,Λ]
   intro S H3 q θ;have f':S 10=some (.int .i64 n):=q 10 _ (by unfold duF; simp only[go_sem]);have g':S 11=some (.osl o 1 0 i):=q 11 _ (by unfold duF; simp only[go_sem]);have h':S 12=some (aI y):=q 12 _ (by unfold duF; simp only[go_sem]);have i':S 13=some (.int .u64 top):=q 13 _ (by unfold duF; simp only[go_sem]);have τ:S 14=some (.osl e 1 0 d):=q 14 _ (by unfold duF; simp only[go_sem]);have j':S 15=some (.int .i64 j):=q 15 _ (by unfold duF; simp only[go_sem]);have k':S 17=some (.int .u64 E):=q 17 _ (by unfold duF; simp only[go_sem]);have d':H3 o=some (.rows 1 (dW (X.take j++dR (m+2) (val W%val y)++X.drop (j+(m+2))) (aL z))):=θ o _ (by simp only[go_sem,l]);have e':H3 e=some (.rows 1 (aL Q)):=θ e _ Sq;have a':j<Q.length:=Om;have rq:=bS Q a';have Ω:(j:Int)<(d:Nat):=Om;have sq:=fE Q j E;have ec:IntKind.u32.wrap ((E:Nat):Int)=((E:Nat):Int):=by rw[cI,a7X σ]
   have ej:IntKind.i64.wrap ((j:Int)-1)=(j:Int)-1:=wrap_i64 Om Om;simp only[go_sem,EC,τ,j',k',Ω,e',rq,ec,sq,ED,ej];refine aD (α:=Nat × List Nat × List Nat) (j,_,_) ⟨by simp only; omega,ω⟩ (by simp only; omega) ?_ ?_
   ·unfold duF
    (repeat' (first|exact c_|refine d_ ?_ ?_))<;>first|(simp only[go_sem,f',g',h',i',τ]<;>rfl)|rfl
   ·refine PH.aJ (PH.aJ a_ ?_) ?_
    ·simp only[go_sem,l,d']
    ·simp only[go_sem]
  simp only[aC.wp,go_sem] at tail;simp only[go_sem,hz,Ψ];refine bV .nil eM a_ ?_;simp only[go_sem,XR,e1,e0,b1,b0,l,r1,r0,χ,φ,δ,β,XS,Θ,γ,XT];by_cases c:(4294967296*u+x)/top>4294967295
  ·have c':(((4294967296*u+x)/top:Nat):Int)>4294967295:=Om;simp only[go_sem,c',XU];exact tail 4294967295 _ _ Om (by decide) (by unfold duF; exact Lq) b_
  ·have c':¬ (((4294967296*u+x)/top:Nat):Int)>4294967295:=Om;simp only[go_sem,c'];exact tail _ _ _ ν Om (by unfold duF; exact Lq) b_
 ·have:k=0:=Om;subst this;have hz:¬ ((0:Nat):Int)-1≥0:=by decide
  simp only[go_sem,hz];refine hK X Q _ _ A ?_ b_;unfold duF
  (repeat' (first|exact c_|refine d_ ?_ ?_))<;>first|(simp only[go_sem,show ((0:Nat):Int)-1=-1 from rfl]<;>rfl)|rfl
def aLM (a:List Nat) (d q k r:Nat):PF:=(((((PF.nil.set 0 (aI a)).set 1 (aI [d])).set 6 (.osl q 1 0 a.length)).set 7 (.int .u64 r)).set 8 (.int .i64 ((k:Int)-1)))
theorem aoX {C:Ctx} (L:EY C) (a:List Nat) (d:Nat) (ha:Lim a) (i:0<d) (hd:d<4294967296) (h1:a.length≤1000) (F:PF) (f0:F 0=some (aI a)) (f1:F 1=some (aI [d])) :
  aC.wp C (.seq (.region LE) (.seq (.region LF) (.seq (.seq (.region LG) (.block 0 (.loop DS))) (.seq (.region DT) .ret)))) (aV [.tmp 4,.tmp 5] (bX (pC (val a) d))) F .nil:=by
 have V:(a.length:Int)*((4:Nat):Int)≤140737488355328:=Om;have W:(a.length:Int)≤9223372036854775807:=Om;have hz:a6N a.length [PV.int .u32 0]=aL (a6N a.length 0++[]):=by simp[aL]
 simp only[go_sem,LE,f0,a6K,V,W,hz];refine aR fun o ho=>?_;simp only[go_sem,LF,LG,f0,a6K];refine wp_loop (α:=Nat × List Nat × Nat) (fun t=>aLM a d o t.1 t.2.2) (fun t=>PH.nil.set o (.rows 1 (aL (a6N t.1 0++t.2.1))))
  (fun t=>t.1+t.2.1.length=a.length∧Lim t.2.1∧t.2.2<d∧val t.2.1*d+t.2.2=val (a.drop t.1)) (fun t=>t.1) (a.length,[],0) ⟨by simp,by simp[Lim],i,by simp[val]⟩ ?_ ?_ ?_
 ·unfold aLM
  (repeat' (first|exact c_|refine d_ ?_ ?_))<;>first|(simp only[go_sem,f0,f1,wrap_i64 (Om:-9223372036854775808≤(a.length:Int)-1) (Om:(a.length:Int)-1≤9223372036854775807)]<;>rfl)|rfl
 ·exact PH.aJ a_ Sq
 rintro⟨k,S,r⟩ ⟨hk,e,K,c⟩;simp only at hk e K c;simp only[go_sem,DS,oe,aLM];by_cases h0:0<k
 ·obtain⟨m,rfl⟩:∃ m,k=m+1:=⟨k-1,by omega⟩;have q:((m+1:Nat):Int)-1=(m:Int):=Om;have R:(m:Int)≥0:=Om;have p:m<a.length:=Om;have hlt:(m:Int)<(a.length:Nat):=Om;have β:=ha _ (a6M p);have l:val (a.drop m)=a[m]+4294967296*val (a.drop (m+1)):=by rw[a8I p]; rfl
  have O:=bS a p;generalize hx:a[m]=x at *
  have ex:IntKind.u64.wrap ((x:Nat):Int)=((x:Nat):Int):=bE Om;have Z:IntKind.u64.wrap ((d:Nat):Int)=((d:Nat):Int):=bE Om;have B:shift .shl .u64 (r:Int) 32=some (.int .u64 ((2 ^ 32*r:Nat):Int)):=KV (s:=32) Om Om;have M:(2:Nat) ^ 32=4294967296:=by decide
  have u:=orI (a:=2 ^ 32*r) (b:=x) (n:=2 ^ 32*r+x) Om Om (Nat.two_pow_add_eq_or_of_lt Om r).symm Om;rw[M] at B u;have J:(4294967296*r+x)/d<4294967296:=by rw[a9M i];have:4294967296*(r+1)≤4294967296*d:=a8T _ K;omega
  have Q:¬ ((d:Nat):Int)=0:=Om;have w:IntKind.u64.wrap (a8O ((4294967296*r+x:Nat):Int) ((d:Nat):Int))=(((4294967296*r+x)/d:Nat):Int):=by rw[show a8O ((4294967296*r+x:Nat):Int) ((d:Nat):Int)=(((4294967296*r+x)/d:Nat):Int) from rfl];exact bE Om
  have A:Int.tmod ((4294967296*r+x:Nat):Int) ((d:Nat):Int)=(((4294967296*r+x)%d:Nat):Int):=rfl;have Y:IntKind.u32.wrap (((4294967296*r+x)/d:Nat):Int)=(((4294967296*r+x)/d:Nat):Int):=by rw[cI,a7X J]
  have E:a6N (m+1) 0++S=a6N m 0++(0::S):=by rw[List.replicate_succ',a7V]; rfl
  have U:(aL (a6N m 0++(0::S)))[m]?=some [.int .u32 ((0:Nat):Int)]:=by rw[bS _ (by simp)]; simp
  have H:(aL (a6N m 0++(0::S))).set m [.int .u32 (((4294967296*r+x)/d:Nat):Int)]=aL (a6N m 0++(((4294967296*r+x)/d)::S)):=by rw[fE,a9H _ _ (by simp)]; simp
  simp only[go_sem,q,R,og,B,O,ex,u,oi,Z,Q,w,Y,hlt,E,U,H,XM,A,XN];refine aD (m,((4294967296*r+x)/d)::S,(4294967296*r+x)%d) ⟨by simp only[a8D]; omega,fun y hy=>?_,a8A _ i,?_⟩ (by simp only; omega) ?_ (PH.aJ a_ Sq)
  ·rw[a6V] at hy;rcases hy with rfl | hy
   ·exact J
   ·exact e y hy
  ·simp only[val];rw[l,← c,a7Q,a6Z,a7K];have:=a9Z (4294967296*r+x) d;rw[a7O d] at this;omega
  ·(repeat' (first|exact c_|refine d_ ?_ ?_))<;>first|(simp only[go_sem,wrap_i64 (Om:-9223372036854775808≤(m:Int)-1) (Om:(m:Int)-1≤9223372036854775807)]<;>rfl)|rfl
 ·have:k=0:=Om;subst this;have q:¬ ((0:Nat):Int)-1≥0:=by decide
  rw[a7W] at c;have hS:S.length=a.length:=Om;have J:val S=val a/d:=by rw[← c,a7O,Nat.mul_add_div i,baA K,a8N]
  have X:r=val a%d:=by rw[← c,a7O,Nat.mul_add_mod,a7X K]
  have γ:a6N 0 0++S=S:=by simp
  have hl:=L.trim S e Om;have N:(aL S).take a.length=aL S:=a7F (by rw[bY]; omega);simp only[go_sem,q,DT,List.nil_append];refine qT (o:=o) (s:=1) (rs:=aL S) hl Sq (by simp only[go_sem,N,show a.length≤S.length by omega]) ?_;simp only[go_sem];refine aA (L.make r Om) Sq ?_;simp only[go_sem];refine bA (vs:=[aI (aH (val S)),aI (aH r)]) (.inr rfl) .nil Ev a_ ⟨?_,rfl⟩;rw[J,X];exact .refl _
theorem aNI {B m:Nat} (h:nl B=m+1):32*m<cJ B∧cJ B≤32*(m+1):=by
 refine⟨?_,(lM B (m+1)).2 Om⟩;rcases a7H (32*m) (cJ B) with h1 | h1
 ·exact h1
 ·have:=(lM B m).1 h1;omega
theorem aNJ {B:Nat} (h:B≠0):2 ^ (cJ B-1)≤B:=by
 rcases a7H B (2 ^ (cJ B-1)) with h1 | h1
 ·have c:=(lL B _).2 h1;have d:cJ B≠0:=fun e=>h (jO.1 e);omega
 ·exact h1
theorem n6 {C:Ctx} (L:EY C) (A B:Nat) (hB:B≠0) (hA:nl A≤512) (Λ:nl B≤512) :
  AF.wp C (aV VD.res (bX (pC A B))) (PF.args [aI (aH A),aI (aH B)]) .nil:=by
 have N:=aX A;have LB:=aX B;have vA:=aW A;have vB:=aW B;have lA:(aH A).length=nl A:=rfl;have lB:(aH B).length=nl B:=rfl;simp only[go_sem,AF,n8,n9,VD];refine aA (L.cmp _ _ N LB Om Om) rfl ?_;rw[vA,vB];by_cases c1:A<B
 ·have hc:dM A B<0:=by simp[dM,c1]
  simp only[go_sem,hc,oa];refine aA (L.trim _ N Om) rfl ?_;rw[vA];simp only[go_sem];refine bA (vs:=[.aB,aI (aH A)]) (.inr rfl) .nil rfl a_ ⟨?_,rfl⟩;rw[pC,baA c1,a7X c1,fG];exact CoL.tup (CoL.cons (.nil 1) (CoL.cons (.refl _) .nil))
 have hc:¬ dM A B<0:=by unfold dM;rw[if_neg c1];split<;>decide
 have ο:0<B:=a8U hB;have b':nl B≠0:=fun h=>hB (gT.1 h);simp only[go_sem,hc,oc,a6K,lB];by_cases c2:nl B=1
 ·have O:B<4294967296:=by have:=(iJ B 1).1 Om; simpa using this
  have φ:aH B=[B]:=oE hB O;have sh:=aoX (C:=C) L (aH A) B N ο O Om;rw[vA] at sh;simp only[aC.wp,go_sem] at sh;simp only[go_sem,bH (Om:((nl B:Nat):Int)=1)];exact sh _ rfl (by simp only[go_sem,φ])
 obtain⟨m,hm⟩:∃ m,nl B=m+1:=⟨nl B-1,by omega⟩;have a':1≤m:=Om;obtain⟨Ψ,Z⟩:=aNI hm;obtain⟨n,hn⟩:∃ n,n+cJ B=32*(m+1):=⟨32*(m+1)-cJ B,by omega⟩;have β:n<32:=Om;have E:0<2 ^ n:=a9E (by decide);have S:B<2 ^ cJ B:=(lL B _).1 (a6S _);have R:=aNJ hB;have V:B*2 ^ n<4294967296 ^ (m+1):=by have:B*2 ^ n<2 ^ cJ B*2 ^ n:=Nat.mul_lt_mul_of_pos_right S E;rw[← Nat.pow_add,show cJ B+n=32*(m+1) by omega,Nat.pow_mul] at this;exact this
 have Δ:4294967296 ^ m*2147483648≤B*2 ^ n:=by have:2 ^ (cJ B-1)*2 ^ n≤B*2 ^ n:=a7R _ R;rw[← Nat.pow_add,show cJ B-1+n=32*m+31 by omega,Nat.pow_add,Nat.pow_mul] at this;exact this
 have nV:nl (B*2 ^ n)=m+1:=by
  have w:=(iJ (B*2 ^ n) (m+1)).2 V;rcases a7H (nl (B*2 ^ n)) (m+1) with h | h
  ·have:=(iJ (B*2 ^ n) m).1 Om;have ψ:0<4294967296 ^ m:=a9E (by decide);omega
  ·omega
 have Φ:B*2 ^ n≠0:=Nat.mul_ne_zero hB Om;have d':nl (A*2 ^ n)≤nl A+1:=kY (a6S _) (nJ (by rw[Nat.pow_one]; exact Nat.pow_lt_pow_right (a:=2) (m:=n) (n:=32) (by decide) β));have τ:B*2 ^ n≤A*2 ^ n:=a7R _ Om;have e':m+1≤nl (A*2 ^ n):=by rw[← nV]; exact fL τ
 have Ξ:A*2 ^ n≠0:=Om;have θ:IntKind.i64.wrap (32*((nl B:Nat):Int))=((32*(m+1):Nat):Int):=by rw[wrap_i64 Om Om]; omega
 have en:IntKind.i64.wrap (((32*(m+1):Nat):Int)-((cJ B:Nat):Int))=(n:Int):=by rw[wrap_i64 Om Om]; omega
 have bt:=L.bits (aH B) LB Om;rw[vB] at bt;have ua:=L.upM (aH A) n N Om Om (fun h=>by have:=eS N; rw[h] at this; omega);have ub:=(L.upM (aH B) n LB Om Om (fun h=>by have:=eS LB; rw[h] at this; omega)).freeze;rw[vA] at ua;rw[vB] at ub;have tail:∀ (o:Nat) (F:PF) (H:PH),F 0=some (aI (aH A))→F 1=some (aI (aH B))→F 10=some (.int .i64 n)→F 11=some (.osl o 1 0 (nl (A*2 ^ n)+2))→F 12=some (aI (aH (B*2 ^ n)))→H o=some (.rows 1 (aL (aH (A*2 ^ n))++[[.int .u32 0],[.int .u32 0]])) →
   aC.wp C (.seq (.region DU) (.seq (.region DW) (.seq (.region DX) (.seq (.seq (.region DY) (.block 2 (.loop vC))) (.seq (.region EE) .ret))))) (aV [.tmp 4,.tmp 5] (bX (pC A B))) F H:=by
  intro o F H f0 f1 ι f11 κ hH;have LU:=aX (A*2 ^ n);have LV:=aX (B*2 ^ n);have vU:=aW (A*2 ^ n);have vV:=aW (B*2 ^ n);have lU:(aH (A*2 ^ n)).length=nl (A*2 ^ n):=rfl;have lV:(aH (B*2 ^ n)).length=m+1:=nV;have eu:IntKind.i64.wrap (((nl (A*2 ^ n):Nat):Int)+1)=((nl (A*2 ^ n)+1:Nat):Int):=cW Om;have b1:((nl (A*2 ^ n)+1:Nat):Int)≤((nl (A*2 ^ n)+2:Nat):Int):=Om;simp only[go_sem,DU,f11,f0,ι];refine aA ua.freeze rfl ?_;obtain⟨c,Ω⟩:∃ c,nl (A*2 ^ n)+1-(m+1)=c:=⟨_,rfl⟩;have χ:nl (A*2 ^ n)+1=c+(m+1):=Om;have em:IntKind.i64.wrap (((m+1:Nat):Int)-1)=((m:Nat):Int):=by rw[wrap_i64 Om Om]; omega
  have l:m<(aH (B*2 ^ n)).length:=Om;have rm:=bS (aH (B*2 ^ n)) l;have tl:=LV _ (a6M l);have htop:0<(aH (B*2 ^ n))[m]:=by
   have w:=cB (aH (B*2 ^ n)) l;rw[a7F Om,vV] at w;have h2:=eS (LV.take m);rw[a7D,a8S Om] at h2;have ψ:0<4294967296 ^ m:=a9E (by decide);rcases a8R (aH (B*2 ^ n))[m] with h | h
   ·rw[h] at w; omega
   ·exact h
  have η:2147483648≤(aH (B*2 ^ n))[m]:=by
   have w:=cB (aH (B*2 ^ n)) l;rw[a7F Om,vV] at w;have h2:=eS (LV.take m);rw[a7D,a8S Om] at h2;rcases a7H (aH (B*2 ^ n))[m] 2147483648 with h | h
   ·exfalso;have h3:4294967296 ^ m*((aH (B*2 ^ n))[m]+1)≤4294967296 ^ m*2147483648:=a8T _ h;rw[a6Z,Nat.mul_one] at h3;omega
   ·exact h
  have q:=aAW (C:=C) L (A*2 ^ n) n o (nl (A*2 ^ n)+1) c;have hI:oV (A*2 ^ n) (val (aH (B*2 ^ n))) (m+1) (nl (A*2 ^ n)+1) c c (aH (A*2 ^ n)++[0]) (a6N c 0):=by
   refine⟨by rw[a6T,lU]; rfl,List.length_replicate,LU.app fun x M=>by simp at M; omega,vO _,?_,?_,fun i x _ M=>Uk M⟩
   ·rw[fS,vU,rX]; simp[val]
   ·have Θ:(aH (A*2 ^ n)++[0]).length=nl (A*2 ^ n)+1:=by rw[a6T,lU]; rfl
    have Γ:val (aH (A*2 ^ n)++[0])=A*2 ^ n:=by rw[fS,vU]; simp[val]
    rw[uK (LU.app fun x M=>by simp at M; omega) Om,Γ,vV,a9M (a9E (by decide))];have w:A*2 ^ n<4294967296 ^ nl (A*2 ^ n):=(iJ _ _).1 (a6S _);have M:nl (A*2 ^ n)=m+c:=Om;rw[M,Nat.pow_add] at w;have h2:4294967296 ^ m*4294967296 ^ c≤(B*2 ^ n)*4294967296 ^ c:=a7R _ Om;omega
  have J:aL (aH (A*2 ^ n))++[[PV.int .u32 0],[PV.int .u32 0]]=dW (aH (A*2 ^ n)++[0]) (aL [0]):=by simp[dW,aL]
  rw[J] at hH;generalize ζ:(aH (B*2 ^ n))[m]=top at *
  have et:IntKind.u64.wrap ((top:Nat):Int)=((top:Nat):Int):=bE Om;have k2:IntKind.i64.wrap (((nl (A*2 ^ n)+1:Nat):Int)-((m+1:Nat):Int))=((c:Nat):Int):=by rw[wrap_i64 Om Om]; omega
  have k3:((c:Nat):Int)*((4:Nat):Int)≤140737488355328:=Om;have k4:((c:Nat):Int)≤9223372036854775807:=Om;have hz:a6N c [PV.int .u32 0]=aL (a6N c 0):=by simp[aL]
  have jq:IntKind.i64.wrap ((c:Int)-1)=(c:Int)-1:=wrap_i64 Om Om;simp only[go_sem,a6K,lU,eu,b1,DW,κ,lV,em,rm,et,DX,k2,k3,k4,hz];refine aR fun u ε=>?_;have γ:u≠o:=by rintro rfl; rw[hH] at ε; cases ε
  have e:¬ o=u:=fun h=>γ h.symm;have p:=q u m (aH (B*2 ^ n)) [0] γ LV lV (by rw[ζ]; exact htop) χ Om _ hI;rw[ζ] at p;simp only[go_sem] at p;simp only[go_sem,DY,jq];refine p _ _ _ ?_ ?_ ?_
  ·unfold duF;exact Lq
  ·refine PH.aJ (PH.aJ a_ ?_) ?_
   ·simp only[go_sem,e,hH]
   ·simp only[go_sem]
  clear p q;intro X Q F1 H1 d y U;have μ:F1 10=some (.int .i64 n):=y 10 _ (by unfold duF; simp only[go_sem]);have ν:F1 11=some (.osl o 1 0 (nl (A*2 ^ n)+1)):=y 11 _ (by unfold duF; simp only[go_sem]);have ξ:F1 14=some (.osl u 1 0 c):=y 14 _ (by unfold duF; simp only[go_sem]);have δ:H1 o=some (.rows 1 (dW X (aL [0]))):=U o _ (by simp only[go_sem,e]);have ω:H1 u=some (.rows 1 (aL Q)):=U u _ Sq;have hu:val X<val (aH (B*2 ^ n)):=by have:=d.r; rwa [a7W] at this
  have K:=d.v;rw[vV] at hu K;have σ:val Q=A/B:=by
   have:A*2 ^ n/(B*2 ^ n)=val Q:=by rw[← K,Nat.add_mul_div_right _ _ Om,baA hu,a7I]
   rw[← this,Nat.mul_div_mul_right _ _ E]
  have υ:val X/2 ^ n=A%B:=by
   have:A*2 ^ n%(B*2 ^ n)=val X:=by rw[← K,Nat.add_mul_mod_self_right,a7X hu]
   rw[← this,Nat.mul_mod_mul_right,Nat.mul_div_cancel _ E]
  have lX:=d.lu';have lQ:=d.lq';have ρ:(aL Q).take c=aL Q:=a7F (by rw[bY]; omega);have Y:(dW X (aL [0])).take (nl (A*2 ^ n)+1)=aL X:=by rw[dW,List.take_append_of_le_length (by rw[bY]; omega),a7F (by rw[bY]; omega)]
  have W:nl (A*2 ^ n)+1≤(dW X (aL [0])).length:=by rw[dW,a6T,bY]; omega
  have α:(dW X (aL [0])).map (fun r=>r.map (PV.dA u 1 (aL Q)))=dW X (aL [0]):=by
   have:dW X (aL [0])=aL (X++[0]):=by simp[dW,aL]
   rw[this]; exact rP _ _ _ _
  have nX:=fD d.limU;have t1:=L.trim Q d.limQ Om;have t2:=L.trim X d.limU Om;have dn:=L.down (aH (val X)) n (aX _) (by rw[bB]; omega) Om;rw[aW,υ] at dn;rw[σ] at t1;generalize aL [0]=Z0 at δ Y W α;simp only[go_sem,EE,ξ];refine qT (o:=u) (s:=1) (rs:=aL Q) t1 ω (by simp only[go_sem,ρ,show c≤Q.length by omega]) ?_;simp only[go_sem,ν,e];refine qT (o:=o) (s:=1) (rs:=dW X Z0) t2 (by simp only[go_sem,e,δ,cC.frz,α]) (by simp only[go_sem,Y,W]) ?_;simp only[go_sem,μ];refine aA dn rfl ?_;simp only[go_sem];exact bA (vs:=[aI (aH (A/B)),aI (aH (A%B))]) (.inr rfl) .nil rfl a_ ⟨.refl _,rfl⟩
 simp only[aC.wp,go_sem] at tail;simp only[go_sem,bF (Om:¬ ((nl B:Nat):Int)=1),XO,a6K,lB];refine aA bt rfl ?_;simp only[go_sem,θ,en,XP];refine kJ ua rfl a_ fun r H1 hr _=>?_;have Z:(2:Nat)*1≤16777216:=by decide
 rcases hr with ⟨h0,_⟩ | ⟨o,rs,rfl,rfl,hrl,hrt⟩
 ·exfalso;have:=congrArg List.length h0;rw[bY,bB] at this;simp at this;omega
 rw[PH.pG];rw[bY,bB] at hrl hrt;simp only[go_sem,Z,bY,bB];refine Uh (src:=[[.int .u32 0],[.int .u32 0]]) (rs:=rs) rfl ?_ Sq hrl ?_ fun o' c'=>?_
 ·unfold roomFor;simp only[maxLen,a8D,a9F]; omega
 ·rw[hrt];simp only[go_sem];refine aA ub rfl ?_;simp only[go_sem];exact tail o _ _ rfl rfl rfl rfl rfl Sq
 ·rw[hrt];simp only[go_sem];refine aA ub rfl ?_;simp only[go_sem];exact tail o' _ _ rfl rfl rfl rfl rfl Sq
def aM (C:Ctx) (k:Nat) (c:aS):Prop:=∀ (args:List PV) (H:PH) (R:PV→PH→Prop),args.length≤c.ntmps→c.body.wp C (aV c.res R) (PF.args args) H→aG C k args H R
theorem aM.go {C:Ctx} {k:Nat} {c:aS} (r:aM C k c) {args:List PV} {H:PH} {R:PV→PH→Prop} (h:c.body.wp C (aV c.res R) (PF.args args) H) (d:Nat.ble args.length c.ntmps=true):aG C k args H R:=r args H R (Nat.le_of_ble_eq_true d) h
structure fO (C:Ctx):Prop where
 r0:aM C 0 jw
 r1:aM C 1 Gx
 r2:aM C 2 akR
 r4:aM C 4 kp
 r5:aM C 5 alF
 r7:aM C 7 ko
 r20:aM C 20 aUT
 r23:aM C 23 aUZ
 r27:aM C 27 js
 r28:aM C 28 alE
 r29:aM C 29 Gy
 r30:aM C 30 aoU
 r31:aM C 31 G3
 r32:aM C 32 aoV
 r33:aM C 33 udiv
 r34:aM C 34 aoZ
 r35:aM C 35 G5
 r36:aM C 36 apB
 r37:aM C 37 apE
 r38:aM C 38 G7
 r39:aM C 39 VD
 r40:aM C 40 G4
 r41:aM C 41 oj
 r42:aM C 42 oo
 r43:aM C 43 G6
 r44:aM C 44 ov
 r45:aM C 45 uup
 r47:aM C 47 apJ
 r50:aM C 50 p4
 r58:aM C 58 VH
 r59:aM C 59 Hi
 r95:aM C 95 ajR
 r96:aM C 96 ajX
 r97:aM C 97 jd
 r98:aM C 98 Gq
 r99:aM C 99 Gr
 r100:aM C 100 Gs
 r101:aM C 101 gone
 r102:aM C 102 Gt
 r103:aM C 103 je
 r104:aM C 104 gin
 r105:aM C 105 ajS
 r106:aM C 106 ajT
 r107:aM C 107 Gu
 r108:aM C 108 Gv
 r109:aM C 109 jh
 r110:aM C 110 Gw
 r111:aM C 111 Ln
 r112:aM C 112 ajU
 r113:aM C 113 YZ
 r114:aM C 114 ajF
 r115:aM C 115 iy
 r116:aM C 116 FI
 r117:aM C 117 tw
 r118:aM C 118 jc
 r119:aM C 119 ajE
 r120:aM C 120 rO
 r121:aM C 121 jb
 r122:aM C 122 Gp
 r123:aM C 123 jp
 r124:aM C 124 PY
 r125:aM C 125 QA
 r126:aM C 126 FL
 r127:aM C 127 alJ
 r128:aM C 128 Gz
 r129:aM C 129 alL
 r130:aM C 130 alN
 r131:aM C 131 alS
 r132:aM C 132 G1
 r133:aM C 133 alW
 r134:aM C 134 alZ
 r135:aM C 135 G2
 r136:aM C 136 UU
 r137:aM C 137 lj
 r138:aM C 138 yI
 r139:aM C 139 JR
 r140:aM C 140 ll
 r141:aM C 141 ln
 r142:aM C 142 BM
 r143:aM C 143 nup
 r147:aM C 147 tat
 r148:aM C 148 aWG
 r149:aM C 149 aSQ
 r150:aM C 150 aWH
 r151:aM C 151 aWA
 r152:aM C 152 aZL
 r153:aM C 153 aSP
 r154:aM C 154 aZM
 r155:aM C 155 aWB
 r156:aM C 156 aZK
 r157:aM C 157 aWI
 r158:aM C 158 aZN
 r159:aM C 159 aWL
 r160:aM C 160 aWJ
 r161:aM C 161 aWK
theorem kE {C:Ctx} (c:fO C):pN C :=
 have len:∀ xs,Lim xs→xs.length≤35184372087808→aG C 138 [aI xs] .nil (aF (.int .i64 (nl (val xs):Nat))):=fun xs h l=>c.r138.go (lk xs h l) rfl
 {length:=len
  large:=fun xs h l=>c.r137.go (A5 xs (len xs h l)) rfl
  sized:=fun xs h l=>(c.r141.go (Bk xs h (len xs h l)) rfl).seen
  trim:=fun xs h l=>(c.r135.go (P7 xs h l (len xs h l)) rfl).seen
  make:=fun v h=>c.r132.go (Po v h len) rfl
  cmp:=fun xs ys d e i p=>c.r129.go (aaW xs ys d e i p (len xs d i) (len ys e p)) rfl }
theorem alI {C:Ctx} (c:fO C):ep C :=
 {subtract:=fun A W Z v f o hW l i e p d=>c.r142.go (QY A W Z v f hW l i e p d o) rfl
  restore:=fun A W Z v o hW l i e=>c.r139.go (WN A W Z v hW l i e o) rfl }
theorem bk {C:Ctx} (c:fO C):YO C :=
 {L:=kE c
  D:=alI c
  up:=fun a s i u e=>c.r143.go (atT a s i u e) rfl
  short:=fun a d i l p e=>c.r140.go (Ba (kE c) a d i l p e) rfl
  lengthO:=fun xs o w q=>c.r138.go (WL xs w q o) rfl }
theorem zQ {C:Ctx} (c:fO C) (A B:Nat) (hB:B≠0) (e:nl A≤900) (d:nl B≤900):aG C 136 [aI (aH A),aI (aH B)] .nil (aF (pC A B)) :=
 (c.r136.go (kw (bk c) A B hB e d) rfl).seen
theorem kX {C:Ctx} (c:fO C):qO C :=
 {kE c with
  bits:=fun xs h l=>c.r128.go (O3 xs h l ((kE c).length xs h l)) rfl
  add:=fun xs ys d e i p=>(c.r127.go (aaO (kE c) xs ys d e i p) rfl).seen
  sub:=fun xs ys d e i p=>(c.r134.go (acK (kE c) xs ys d e i p) rfl).seen
  mul:=fun xs ys d e i p=>(c.r133.go (abX (kE c) xs ys d e i p) rfl).seen
  gcd:=fun xs ys d e i p=>(c.r131.go (abP (kE c) (zQ c) xs ys d e i p) rfl).seen
  div:=fun xs ys d e i p=>(c.r130.go (abH (kE c) (zQ c) xs ys d e i p) rfl).seen }
theorem pW {C:Ctx} (c:fO C):AP C :=
 {kX c with
  times:=fun a b d i e l p q=>c.r121.go (yx (kX c) a b d i e l p q) rfl
  zero:=fun neg a b d e=>c.r122.go (Km (kX c) neg a b d e) rfl
  valid:=fun neg a b d i e l=>c.r118.go (y7 (kX c) neg a b d i e l) rfl
  abs:=fun v w x=>c.r119.go (Xt (kX c) v w x) rfl
  lowest:=fun neg a b d i e l p q u=>(c.r120.go (ir (kX c) neg a b d i e l p q u) rfl).seen }
theorem PL {C:Ctx} (c:fO C) (x y:RF) (d:x.Ok) (e:y.Ok):aG C 113 [.agg x.cells,.agg y.cells] .nil (aF (frV (gU x.v y.v))) :=
 (c.r113.go (Xy (pW c) x.neg y.neg x.num x.den y.num y.den d.1 d.2.1 e.1 e.2.1 d.2.2.1 d.2.2.2 e.2.2.1 e.2.2.2) rfl).seen
theorem HO {C:Ctx} (c:fO C):d8 C :=
 {pW c with
  frac:=fun n d u p=>(c.r115.go (Ke (pW c) n d u.1 u.2 p.1 p.2) rfl).seen
  red:=fun x e=>by rw[← mj];exact (c.r116.go (i4 (pW c) x.neg x.num x.den e.1 e.2.1 e.2.2.1 e.2.2.2) rfl).seen
  ord:=fun x y e i=>(c.r114.go (X8 (pW c) x.neg y.neg x.num x.den y.num y.den e.1 e.2.1 i.1 i.2.1 e.2.2.1 e.2.2.2 i.2.2.1 i.2.2.2) rfl).seen
  plus:=PL c
  tot:=fun l q=>(c.r117.go (Ye (pW c) (PL c) l q.all q.fits) rfl).seen }
theorem pV {C:Ctx} (c:fO C):qV C :=
 have inn:∀ n lo hi:Int,aG C 104 [.int .i64 n,.int .i64 lo,.int .i64 hi] .nil (aF (.bool (within n lo hi))):=fun n lo hi=>(c.r104.go (arU n lo hi) rfl).seen;have lS:∀ x:RF,x.Ok→aG C 97 [.agg x.cells] .nil (aF (.bool (cH x))):=fun x i=>(c.r97.go (za (kX c) x i) rfl).seen;have lim:∀ x:RF,x.Ok→aG C 105 [.agg x.cells] .nil (aF (.bool (cP x))):=fun x i=>(c.r105.go (Y4 (HO c) x i) rfl).seen;have d:∀ n:Nat,aG C 126 [.int .u8 n] .nil (aF (.bool (fA n))):=fun n=>c.r126.go (jo n) rfl;have e:∀ n:Nat,aG C 124 [.int .u8 n] .nil (aF (.bool (jW n))):=fun n=>c.r124.go (zt n) rfl
 {HO c with
  inn:=inn
  lS:=lS
  lim:=lim
  one:=fun x i=>(c.r101.go (Zb (HO c) x i) rfl).seen
  allf:=fun p fn l q h=>(c.r99.go (K3 p fn l q h) rfl).seen
  alli:=fun p fn l q h=>(c.r100.go (Le p fn l q h) rfl).seen
  allb:=fun p fn l q h=>(c.r98.go (Kr p fn l q h) rfl).seen
  ends1:=fun b=>(c.r103.go (zd b) rfl).seen
  num1:=fun n=>(c.r107.go (L5 inn n) rfl).seen
  rate1:=fun x i=>(c.r109.go (zk lim lS x i) rfl).seen
  name:=fun s=>c.r123.go (Nh d (fun n=>c.r125.go (zu d e n) rfl) s) rfl }
theorem PI {C:Ctx} (c:fO C):d7 C :=
 {pV c with
  num:=fun p d=>(c.r106.go (Y7 (pV c) p d) rfl).seen
  rate:=fun p d=>(c.r108.go (Mb (pV c) p d) rfl).seen
  uniq:=fun l e=>(c.r110.go (Mf (pV c) l e) rfl).seen }
theorem PJ {C:Ctx} (c:fO C):NP C :=
 {PI c with
  ends:=fun l e d=>(c.r102.go (Lt (pV c) l e d) rfl).seen }
theorem Kb {C:Ctx} (c:fO C):jN C :=
 {PJ c with
  law:=fun l e=>(c.r95.go (Yv (PJ c) l e) rfl).seen
  pol:=fun p n q i=>(c.r112.go (Zf (PI c) p q n i) rfl).seen
  a5I:=fun f d=>(c.r111.go (Yo (pV c) f d) rfl).seen }
theorem tu {C:Ctx} (c:fO C) (f:aE) (d:f.Ok):aG C 96 [.agg f.cells] .nil (aF (.int .i64 (wH f))):=(c.r96.go (Zo (Kb c) f d) rfl).seen
theorem jL {C:Ctx} (c:fO C):oP C:={ trimM:=fun xs h l=>c.r38.go (Te xs h l) rfl }
theorem RQ {C:Ctx} (c:fO C):e8 C :=
 {jL c with
  make:=fun v h=>(c.r35.go (S1 (jL c) v h) rfl).seen
  large:=fun xs h l=>(c.r41.go (Dl (jL c) xs h l) rfl).seen
  cmp:=fun xs ys d e i p=>c.r32.go (aeD (jL c) xs ys d e i p) rfl }
theorem RS {C:Ctx} (c:fO C):fc C :=
 {RQ c with
  minus:=fun a b e i l q d=>(c.r42.go (Do (jL c) a b e i l q d) rfl).seen
  times:=fun a b e i d p=>(c.r44.go (D0 (jL c) a b e i d p) rfl).seen }
theorem zX {C:Ctx} (c:fO C):NU C :=
 {RS c with
  plus:=fun a b i l d e=>(c.r43.go (S7 (jL c) a b i l d e) rfl).seen }
theorem Qn {C:Ctx} (c:fO C):EY C :=
 {zX c with
  bits:=fun xs h l=>c.r31.go (Sa (jL c) xs h l) rfl
  upM:=fun a n e d i p=>c.r45.go (aBC (jL c) a n e d i p) rfl
  down:=fun a n e d i=>(c.r40.go (Sr (jL c) a n e d i) rfl).seen }
theorem zW {C:Ctx} (c:fO C):NS C :=
 {RQ c with
  divide:=fun A B hB e d=>(c.r39.go (n6 (Qn c) A B hB e d) rfl).seen }
theorem RR {C:Ctx} (c:fO C):fa C :=
 {zW c with
  gcd:=fun a b d e i l=>(c.r34.go (aeW (zW c) a b d e i l) rfl).seen
  div:=fun a b d e i l=>(c.r33.go (aeO (zW c) a b d e i l) rfl).seen }
theorem l4 {C:Ctx} (c:fO C):Gi C :=
 {RR c with
  lowest:=fun neg a b i l p q u w e=>(c.r58.go (pj (RR c) neg a b i l p q u w e) rfl).seen
  size:=fun v d=>c.r59.go (Ub v d.1 d.2) rfl }
theorem sY {C:Ctx} (c:fO C):NT C :=
 {l4 c with
  fmk:=fun n d i e=>(c.r50.go (Tz (l4 c) n d i e) rfl).seen }
abbrev oJ (C:Ctx):Prop:=∀ n:Nat,n<100→aG C 195 [.int .i64 n] .nil (aF (.str (cT n)))
theorem JD {C:Ctx} (c:fO C) (hi:oJ C):AS C :=
 {sY c with
  int:=fun n d=>(c.r47.go (VG (sY c) n d) rfl).seen
  itoa:=hi
  next:=fun l v T o n a d e=>c.r4.go (Oq T o n a d e) rfl }
theorem QH {C:Ctx} (c:fO C) (hi:oJ C):eg C :=
 {JD c hi with
  frac:=fun l v T o a d=>c.r1.go (N0 (JD c hi) T o a d) rfl }
theorem QI {C:Ctx} (c:fO C) (hi:oJ C):qN C :=
 {QH c hi with
  rep:=fun l v T o a m e d=>c.r5.go (aaF (QH c hi) T o a m e d) rfl
  name:=fun s n p i=>c.r29.go (Ol (JD c hi) s n p i) rfl }
theorem QJ {C:Ctx} (c:fO C) (hi:oJ C):lO C :=
 {QI c hi with
  law:=fun l v T o dV a i d e=>c.r2.go (Z3 (QI c hi) T o dV a i d e) rfl }
theorem jR {f:aE} (h:VF f) {i:Nat} (hi:i<f.a5C.length):0≤lvl f i∧lvl f i≤4:=by
 rcases a8R i with e | e
 ·rw[e,h.root.2.1]; omega
 ·have:=h.dom i e hi; omega


theorem Z2 (a b:Nat):mkT (a:Int) (b:Int)=⟨false,aH (a/a6O a b),aH (b/a6O a b)⟩:=by
 have c:decide ((a:Int)<0)=false:=decide_eq_false Om;have d:decide ((b:Int)<0)=false:=decide_eq_false Om;unfold mkT mH FV.rf;rw[c,d,Int.natAbs_natCast,Int.natAbs_natCast];rfl
structure SmF (x:RF) (p q:Nat):Prop where
 eq:x=⟨false,aH (p/a6O p q),aH (q/a6O p q)⟩
 a:p≤64
 b:q≤64
 pos:0<q
theorem SmF.mk' {a b:Nat} (c:a≤64) (d:b≤64) (h:0<b):SmF (mkT (a:Int) (b:Int)) a b:=⟨Z2 a b,c,d,h⟩
theorem SmF.num {x:RF} {a b:Nat} (h:SmF x a b):val x.num=a/a6O a b:=by rw[h.eq,aW]
theorem SmF.den {x:RF} {a b:Nat} (h:SmF x a b):val x.den=b/a6O a b:=by rw[h.eq,aW]
theorem SmF.v {x:RF} {a b:Nat} (h:SmF x a b):x.v=(false,a/a6O a b,b/a6O a b):=by
 unfold RF.v;rw[h.num,h.den,h.eq]
theorem SmF.Qa {x:RF} {a b:Nat} (_:SmF x a b):a/a6O a b≤a:=baB ..
theorem SmF.Jg {x:RF} {a b:Nat} (_:SmF x a b):b/a6O a b≤b:=baB ..
theorem SmF.den_pos {x:RF} {a b:Nat} (h:SmF x a b):0<b/a6O a b:=Nat.div_pos (Nat.le_of_dvd h.pos (Nat.gcd_dvd_right a b)) (Nat.gcd_pos_of_pos_right a h.pos)
theorem xW {n:Nat} (h:n≤4096):cJ n≤32:=(lL n 32).2 Om
theorem U2 {n:Nat} (h:0<n):0<cJ n:=by
 rcases a8R (cJ n) with e | e
 ·rw[jO] at e; omega
 ·exact e
theorem TL {a b:Nat} (d:a≤4096) (e:b≤4096) (h:0<b):cR a b=true:=by
 have i:=xW d;have l:=xW e;have c:=U2 h;unfold cR;rw[decide_eq_true c,decide_eq_true (Om:cJ b≤4096),decide_eq_true (Om:cJ a≤4096)];rfl
theorem aPM {n:Bool} {a b:Nat} (c:a≤4096) (d:b≤4096):gW n a b=.ok (n&&decide (a/a6O a b≠0),a/a6O a b,b/a6O a b):=by
 have e:=xW (a7U (baB a (a6O a b)) c);have i:=xW (a7U (baB b (a6O a b)) d);unfold gW;rw[if_neg Om]
theorem SmF.lim {x:RF} {a b:Nat} (h:SmF x a b):cP x=true:=by
 have l:=h.Qa;have p:=h.Jg;have c:=h.den_pos;have:=h.a;have:=h.b;have d:x.neg=false:=by rw[h.eq]
 unfold cP oM;rw[h.num,h.den,d,TL Om Om c,if_pos rfl,aPM Om Om];have e:=baB (a/a6O a b) (a6O (a/a6O a b) (b/a6O a b));have i:=baB (b/a6O a b) (a6O (a/a6O a b) (b/a6O a b));simp only[a6R,a7A,a6W,a7E,decide_eq_true_eq];exact⟨xW Om,xW Om⟩
theorem SmF.lS {x:RF} {a b:Nat} (h:SmF x a b) (c:0<a):cH x=true:=by
 unfold cH;rw[h.num];exact decide_eq_true (Nat.ne_of_gt (Nat.div_pos (Nat.le_of_dvd c (Nat.gcd_dvd_left a b)) (Nat.gcd_pos_of_pos_right a h.pos)))
theorem SmF.zero {x:RF} {b:Nat} (h:SmF x 0 b):cH x=false:=by
 unfold cH;rw[h.num,Nat.zero_div];rfl
theorem SmF.one {x:RF} {a b:Nat} (h:SmF x a b) (c:a≤b):wE x=true:=by
 have i:=h.Qa;have l:=h.Jg;have d:=h.den_pos;have:=h.a;have:=h.b;have e:x.neg=false:=by rw[h.eq]
 unfold wE;rw[h.num,h.den,e,TL Om Om d];have:a/a6O a b≤b/a6O a b:=Nat.div_le_div_right c;show (true&&decide (dM (a/a6O a b*1) (1*(b/a6O a b))≤0))=true;rw[Nat.mul_one,Nat.one_mul,a6W];refine decide_eq_true ?_;unfold dM;split
 ·decide
 ·split
  ·omega
  ·decide
theorem SmF.ok {x:RF} {a b:Nat} (h:SmF x a b):x.Ok:=by
 have c:=h.Qa;have d:=h.Jg;have:=h.a;have:=h.b;have k1:nl (a/a6O a b)≤1:=(iJ _ _).2 Om;have k2:nl (b/a6O a b)≤1:=(iJ _ _).2 Om;rw[h.eq];refine⟨aX _,aX _,?_,?_⟩
 ·show (aH _).length≤_;rw[bB]; omega
 ·show (aH _).length≤_;rw[bB]; omega
structure aTS (x:RF):Prop where
 lim:cP x=true
 ok:x.Ok
theorem SmF.o {x:RF} {a b:Nat} (h:SmF x a b):aTS x:=⟨h.lim,h.ok⟩
abbrev lvs (ds:List cE):List Int:=ds.map cE.level
def a1M (ds:List cE) (i:Nat) (d:cE):Prop:=∃ c p u:Nat,d.name=[oC c]++cT (i+1)∧d.level=c∧1≤c∧c≤4∧d.parent=p∧p≤i∧(lvs ds)[p]?=some ((c:Int)-1)∧d.a5T=u∧1≤u∧u≤16∧aTS d.a5O
def a1O (ds:List cE) (mc i:Nat) (d:dN):Prop:=∃ m c:Nat,d.name=[100]++cT i∧d.model=m∧m<mc∧d.machine=c∧(lvs ds)[c]?=some 4
structure GV (mc a4Z:Nat) (s:GS):Prop where
 len:s.a5I.length≤35
 a5S:s.a5S.length≤a4Z
 root:s.a5I[0]?=some uX
 dom:∀ i (hi:i+1<s.a5I.length),a1M s.a5I i s.a5I[i+1]
 drv:∀ i (hi:i<s.a5S.length),a1O s.a5I mc i s.a5S[i]
theorem GV.a {mc a4Z:Nat} {s:GS} (h:GV mc a4Z s) (x:Nat):GV mc a4Z { s with a:=x }:=⟨h.len,h.a5S,h.root,h.dom,h.drv⟩
theorem Zy {ds:List cE} {p:Nat} {x:Int} {t:List cE} (h:(lvs ds)[p]?=some x):(lvs (ds++t))[p]?=some x:=by
 unfold lvs at *
 rw[a7L,a8Z]
 ·exact h
 ·exact (a7T.1 h).1


theorem QK {C:Ctx} (c:fO C) (hi:oJ C):el C :=
 {QJ c hi with
  grow:=fun l v T mc a4Z d e i=>ZM (QJ c hi) T mc a4Z d e i (fun args H R p h=>c.r7 args H R (by rw[p]; decide) h) 4 (a6S _) }
theorem atD {C:Ctx} (c:fO C) (hi:oJ C):Hr C :=
 {QK c hi with
  new:=fun l p q=>c.r28.go (aaA l p q) rfl
  fleet:=fun l v T o a4Z a5B a d e i=>EW.exact (c.r0.go (Ae (QK c hi) T o a4Z a5B a d e i) rfl) }


structure YN (f:aE) (L:List (List Int)):Prop where
 len:L.length=f.a5B.length
 row:∀ v (h:v<L.length),((L[v].length:Nat):Int)=ajK f v
 home:∀ r∈L,∀ x∈r,-1≤x∧x<f.a4Z.length
theorem YN.aYY {f:aE} {L:List (List Int)} (h:YN f L) (hV:VF f):∀ k,k≤L.length→(L.take k).flatten.length≤k*8:=by
 have u:=h.len;intro k
 induction k with
 | zero=>intro _; simp
 | succ k p =>intro d;rw[arO L d,a6T];have q:=p Om;have e:=h.row k d;obtain⟨l,i⟩:=aHB hV (Om:k<f.a5B.length);have c:=hV.a5L _ (a6M l);rw[i] at c;unfold ajK at e;omega
theorem YN.ok {f:aE} (hV:VF f) {L:List (List Int)} (h:YN f L):aXS L:=by
 have d:=hV.small.a5B;have c:=h.len;have:=h.aYY hV L.length (a6S _);rw[a7M] at this;exact⟨by omega,by omega⟩
section
variable {C:Ctx} {F F':PF} {H:PH}
theorem cO (c:F.le F') {x:aP} {v:PV} (h:x.ev F=some v):x.ev F'=some v:=by
 cases x
 ·exact c _ _ h
 all_goals exact h
theorem FD (c:F.le F'):∀ {xs:List aP} {vs:List PV},aP.evs F xs=some vs→aP.evs F' xs=some vs
 | [],_,h=>h
 | x::xs,vs,h=>by
  rw[zD] at h ⊢;cases e:x.ev F with
  | none=>simp[e] at h
  | some v =>
   cases d:aP.evs F xs with
   | none=>simp[d] at h
   | some i =>rw[e,d] at h;rw[cO c e,FD c d];exact h
theorem J9 (c:F.le F'):∀ {ps:List (Nat × Nat × aP)} {cs ds:List PV},pT cs F ps=some ds→pT cs F' ps=some ds
 | [],_,_,h=>h
 | (i,size,x)::ps,cs,ds,h=>by
  simp only[pT] at h ⊢;cases d:x.ev F with
  | none=>simp[d] at h
  | some v =>
   rw[d] at h;rw[cO c d];simp only at h ⊢;split at h
   ·rename_i e; rw[if_pos e]; exact J9 c h
   ·cases h
theorem CJ (c:F.le F') {size:Nat}:∀ {ps:List (Nat × aP)} {cs ds:List (List PV)},fZ size cs F ps=some ds→fZ size cs F' ps=some ds
 | [],_,_,h=>h
 | (i,x)::ps,cs,ds,h=>by
  simp only[fZ] at h ⊢;cases d:x.ev F with
  | none=>simp[d] at h
  | some v =>
   rw[d] at h;rw[cO c d];simp only at h ⊢;split at h
   ·rename_i e; rw[if_pos e]; exact CJ c h
   ·cases h
theorem OB (c:F.le F') {d n:Int} {x:Option aP} (h:bnd F d x=some n):bnd F' d x=some n:=by
 cases x with
 | none=>exact h
 | some x =>
  simp only[bnd] at h ⊢;cases e:x.ev F with
  | none=>simp[e] at h
  | some v=>rw[cO c e,← e]; exact h
theorem Qi {op:POp} {v:PV} (A:F.le F') (h:aO op F H=some v):aO op F' H=some v:=by
 cases op
 case mv x=>exact cO A h
 case pick c a b =>
  simp only[aO] at h ⊢;cases K:c.ev F with
  | none=>simp[K] at h
  | some t =>
   rw[K] at h;rw[cO A K];cases t<;>simp only at h ⊢<;>try cases h
   rename_i t;cases t
   ·simp only[a9T,if_false] at h ⊢; exact cO A h
   ·simp only[if_true] at h ⊢; exact cO A h
 case same x =>
  simp only[aO] at h ⊢;cases e:x.ev F with
  | none=>simp[e] at h
  | some a=>rw[cO A e,← e]; exact h
 case un o x =>
  simp only[aO] at h ⊢;cases e:x.ev F with
  | none=>simp[e] at h
  | some a=>rw[cO A e,← e]; exact h
 case conv k x =>
  simp only[aO] at h ⊢;cases e:x.ev F with
  | none=>simp[e] at h
  | some a=>rw[cO A e,← e]; exact h
 case a5M x =>
  simp only[aO] at h ⊢;cases e:x.ev F with
  | none=>simp[e] at h
  | some a=>rw[cO A e,← e]; exact h
 case a6C o x =>
  simp only[aO] at h ⊢;cases e:x.ev F with
  | none=>simp[e] at h
  | some a=>rw[cO A e,← e]; exact h
 case field o n x =>
  simp only[aO] at h ⊢;cases e:x.ev F with
  | none=>simp[e] at h
  | some a=>rw[cO A e,← e]; exact h
 case a5Z x =>
  simp only[aO] at h ⊢;cases e:x.ev F with
  | none=>simp[e] at h
  | some a=>rw[cO A e,← e]; exact h
 case isNil n x =>
  simp only[aO] at h ⊢;cases e:x.ev F with
  | none=>simp[e] at h
  | some a=>rw[cO A e,← e]; exact h
 case lenM x =>
  simp only[aO] at h ⊢;cases e:x.ev F with
  | none=>simp[e] at h
  | some a=>rw[cO A e,← e]; exact h
 case a6J x =>
  simp only[aO] at h ⊢;cases e:x.ev F with
  | none=>simp[e] at h
  | some a=>rw[cO A e,← e]; exact h
 case extract x i =>
  simp only[aO] at h ⊢;cases e:x.ev F with
  | none=>simp[e] at h
  | some a=>rw[cO A e,← e]; exact h
 case a5N x =>
  simp only[aO] at h ⊢;cases e:x.ev F with
  | none=>simp[e] at h
  | some a=>rw[cO A e,← e]; exact h
 case len x =>
  simp only[aO] at h ⊢;cases e:x.ev F with
  | none=>simp[e] at h
  | some a=>rw[cO A e,← e]; exact h
 case box r x =>
  cases r
  ·cases h
  simp only[aO] at h ⊢;cases e:x.ev F with
  | none=>simp[e] at h
  | some a=>rw[cO A e,← e]; exact h
 case load n p =>
  cases n
  all_goals
   simp only[aO] at h ⊢;cases e:p.ev F with
   | none=>simp[e] at h
   | some a=>rw[cO A e,← e]; exact h
 case bin o x y =>
  simp only[aO] at h ⊢;cases e:x.ev F with
  | none=>simp[e] at h
  | some a =>
   cases B:y.ev F with
   | none=>simp[e,B] at h
   | some b=>rw[cO A e,cO A B,← e,← B]; exact h
 case eqb n x y =>
  simp only[aO] at h ⊢;cases e:x.ev F with
  | none=>simp[e] at h
  | some a =>
   cases B:y.ev F with
   | none=>simp[e,B] at h
   | some b=>rw[cO A e,cO A B,← e,← B]; exact h
 case eqs n k x y =>
  simp only[aO] at h ⊢;cases e:x.ev F with
  | none=>simp[e] at h
  | some a =>
   cases B:y.ev F with
   | none=>simp[e,B] at h
   | some b=>rw[cO A e,cO A B,← e,← B]; exact h
 case a5Q s x i =>
  simp only[aO] at h ⊢;cases e:x.ev F with
  | none=>simp[e] at h
  | some a =>
   cases B:i.ev F with
   | none=>simp[e,B] at h
   | some b=>rw[cO A e,cO A B,← e,← B]; exact h
 case idxA n s x i =>
  simp only[aO] at h ⊢;cases e:x.ev F with
  | none=>simp[e] at h
  | some a =>
   cases B:i.ev F with
   | none=>simp[e,B] at h
   | some b=>rw[cO A e,cO A B,← e,← B]; exact h
 case idxV n s g x i =>
  simp only[aO] at h ⊢;cases e:x.ev F with
  | none=>simp[e] at h
  | some a =>
   cases B:i.ev F with
   | none=>simp[e,B] at h
   | some b=>rw[cO A e,cO A B,← e,← B]; exact h
 case a6A x i =>
  simp only[aO] at h ⊢;cases e:x.ev F with
  | none=>simp[e] at h
  | some a =>
   cases B:i.ev F with
   | none=>simp[e,B] at h
   | some b=>rw[cO A e,cO A B,← e,← B]; exact h
 case a5U m x y =>
  simp only[aO] at h ⊢;cases e:x.ev F with
  | none=>simp[e] at h
  | some a =>
   cases B:y.ev F with
   | none=>simp[e,B] at h
   | some b=>rw[cO A e,cO A B,← e,← B]; exact h
 case lookup sh z x k ok =>
  simp only[aO] at h ⊢;cases e:x.ev F with
  | none=>simp[e] at h
  | some a =>
   cases B:k.ev F with
   | none=>simp[e,B] at h
   | some b=>rw[cO A e,cO A B,← e,← B]; exact h
 case build z ps =>simp only[aO,a6U] at h ⊢;obtain⟨cs,E,J⟩:=h;exact⟨cs,J9 A E,J⟩
 case a5F r s l z ps =>
  cases r
  ·cases h
  simp only[aO] at h ⊢;split at h
  ·rename_i K;rw[if_pos K];rw[a6U] at h ⊢;obtain⟨cs,E,J⟩:=h;exact⟨cs,CJ A E,J⟩
  ·cases h
 case mkfn n cs =>simp only[aO,a6U] at h ⊢;obtain⟨vs,E,J⟩:=h;exact⟨vs,FD A E,J⟩
 case sliceA n s x lo hi mx =>
  cases lo<;>cases hi<;>cases mx<;>simp only[aO] at h ⊢<;>try cases h
  cases e:x.ev F with
  | none=>simp[e] at h
  | some a=>rw[cO A e,← e]; exact h
 case a5W x lo hi =>
  simp only[aO] at h ⊢;cases e:x.ev F with
  | none=>simp[e] at h
  | some a =>
   rw[e] at h;rw[cO A e];cases a<;>simp only at h ⊢<;>try cases h
   cases E:bnd F 0 lo with
   | none=>simp[E] at h
   | some l =>
    rename_i s;cases J:bnd F s.length hi with
    | none=>simp[E,J] at h
    | some u=>rw[OB A E,OB A J,← E,← J]; exact h
 case slice s x lo hi mx =>
  simp only[aO] at h ⊢;cases e:x.ev F with
  | none=>simp[e] at h
  | some a =>
   rw[e] at h;rw[cO A e];have N:∀ (d:Int) (w:PV),(match bnd F 0 lo,bnd F d hi with
     | some a1,some a2=>match (generalizing:=false) mx with
      | none=>PV.slice s w a1 a2 none
      | some m=>(bnd F 0 (some m)).bind fun m=>PV.slice s w a1 a2 (some m)
     | _,_=>none)=some v→(match bnd F' 0 lo,bnd F' d hi with
     | some a1,some a2=>match (generalizing:=false) mx with
      | none=>PV.slice s w a1 a2 none
      | some m=>(bnd F' 0 (some m)).bind fun m=>PV.slice s w a1 a2 (some m)
     | _,_=>none)=some v:=by
    intro d w h;cases E:bnd F 0 lo with
    | none=>simp[E] at h
    | some l =>
     cases J:bnd F d hi with
     | none=>simp[E,J] at h
     | some u =>
      rw[E,J] at h;rw[OB A E,OB A J];cases mx with
      | none=>exact h
      | some m =>
       simp only at h ⊢;cases M:bnd F 0 (some m) with
       | none=>simp[M] at h
       | some q=>rw[OB A M,← M]; exact h
   cases a<;>simp only at h ⊢<;>first | exact N _ _ h | cases h
 all_goals exact h
theorem H7 {op:POp} {r:(Nat→PV) × cC} (d:F.le F') (h:cX op F=some r):cX op F'=some r:=by
 cases op
 case box b x =>
  cases b
  ·simp only[cX] at h ⊢;cases e:x.ev F with
   | none=>simp[e] at h
   | some a=>rw[cO d e,← e]; exact h
  ·cases h
 case a5F b s l z ps =>
  cases b
  ·simp only[cX] at h ⊢;split at h
   ·rename_i u;rw[if_pos u];rw[a6U] at h ⊢;obtain⟨cs,p,q⟩:=h;exact⟨cs,CJ d p,q⟩
   ·cases h
  ·cases h
 case a5H s b z l c =>
  simp only[cX] at h ⊢;cases e:l.ev F with
  | none=>simp[e] at h
  | some a =>
   cases i:c.ev F with
   | none=>simp[e,i] at h
   | some b=>rw[cO d e,cO d i,← e,← i]; exact h
 all_goals exact h
theorem Uj {op:POp} {K:PV→PH→Prop} (d:F.le F') (h:bZ op F H K):bZ op F' H K:=by
 cases op
 case store n x y =>
  simp only[bZ] at h ⊢;cases e:x.ev F with
  | none=>simp[e] at h
  | some a =>
   cases i:y.ev F with
   | none=>simp[e,i] at h
   | some b=>rw[cO d e,cO d i]; rw[e,i] at h; exact h
 case append s b x y =>
  simp only[bZ] at h ⊢;cases e:x.ev F with
  | none=>simp[e] at h
  | some a =>
   cases i:y.ev F with
   | none=>simp[e,i] at h
   | some b=>rw[cO d e,cO d i]; rw[e,i] at h; exact h
 case a5R sh x y z =>
  simp only[bZ] at h ⊢;cases e:x.ev F with
  | none=>simp[e] at h
  | some a =>
   cases i:y.ev F with
   | none=>simp[e,i] at h
   | some b =>
    cases l:z.ev F with
    | none=>simp[e,i,l] at h
    | some c=>rw[cO d e,cO d i,cO d l]; rw[e,i,l] at h; exact h
 case insert sh x y z =>
  simp only[bZ] at h ⊢;cases e:x.ev F with
  | none=>simp[e] at h
  | some a =>
   cases i:y.ev F with
   | none=>simp[e,i] at h
   | some b =>
    cases l:z.ev F with
    | none=>simp[e,i,l] at h
    | some c=>rw[cO d e,cO d i,cO d l]; rw[e,i,l] at h; exact h
 all_goals exact h
theorem PF.aVU (c:F.le F') (i:Nat) (v:PV):(F.set i v).le (F'.set i v):=by
 intro j u h;rw[jS] at h ⊢;split at h
 ·rename_i e; rw[if_pos e]; exact h
 ·rename_i e; rw[if_neg e]; exact c j u h
theorem PF.sX (c:F.le F') (d:Option Nat) (v:PV):(F.put d v).le (F'.put d v):=by
 cases d with
 | none=>exact c
 | some d=>exact PF.aVU c d v
theorem PF.aUF (c:F.le F') (o s:Nat) (rs:List (List PV)):(F.frz o s rs).le (F'.frz o s rs):=by
 intro j u h;rw[qQ,a6U] at h ⊢;obtain⟨x,d,e⟩:=h;exact⟨x,c j x d,e⟩
theorem PF.le_trans {A B D:PF} (h:A.le B) (k:B.le D):A.le D:=fun i v hi=>k i v (h i v hi)
theorem iU.up {e:PF} {i:PH} (h:iU F H e i):∀ {F':PF},F.le F'→∃ c,iU F' H c i∧e.le c:=by
 induction h with
 | refl F H=>exact fun {F'} d=>⟨F',.refl _ _,d⟩
 | step o q _ u =>intro F' d;obtain⟨c,l,p⟩:=u (PF.aUF d o _ _);exact⟨c,.step o q l,p⟩
theorem fj {name:Nat} {args:Option (List PV)} {d:Option Nat} {K1 K2:PF→PH→Prop} (w:∀ F F' H,F.le F'→K1 F H→K2 F' H) (e:F.le F') {c:Option (List PV)} (x:∀ vs,args=some vs→c=some vs) (h:rZ C name args d K1 F H):rZ C name c d K2 F' H:=by
 obtain⟨vs,i,R,l,p,q,u⟩:=h;exact⟨vs,i,R,x _ l,p,q,fun r H' a b=>w _ _ _ (PF.sX e d r) (u r H' a b)⟩
theorem Nt {cs:List PV} {args:List aP} (c:F.le F') (vs:List PV) (h:(aP.evs F args).map (·++cs)=some vs):(aP.evs F' args).map (·++cs)=some vs:=by
 rw[a6U] at h ⊢;obtain⟨x,d,e⟩:=h;exact⟨x,FD c d,e⟩
theorem Xi {name:Nat} {args:List aP} {cs:List PV} {d:Option Nat} {K1 K2:PF→PH→Prop} (i:∀ F F' H,F.le F'→K1 F H→K2 F' H) (c:F.le F') (h:hZ C name args cs d K1 F H):hZ C name args cs d K2 F' H:=by
 rcases h with h | ⟨F1,H1,h1,h2⟩
 ·exact .inl (fj i c (Nt c) h)
 ·obtain⟨e,k1,k2⟩:=h1.up c;exact .inr ⟨e,H1,k1,fj i k2 (Nt k2) h2⟩
theorem QS {op:POp} {d:Option Nat} {K1 K2:PF→PH→Prop} (l:∀ F F' H,F.le F'→K1 F H→K2 F' H) (c:F.le F') (h:mQ (cX op F) d K1 F H):mQ (cX op F') d K2 F' H:=by
 obtain⟨q,x,e,i⟩:=h;exact⟨q,x,H7 c e,fun o p=>l _ _ _ (PF.sX c d _) (i o p)⟩
theorem tf {op:POp} {d:Option Nat} {K1 K2:PF→PH→Prop} (l:∀ F F' H,F.le F'→K1 F H→K2 F' H) (c:F.le F') (h:bW (aO op F H) d K1 F H):bW (aO op F' H) d K2 F' H:=by
 obtain⟨v,e,i⟩:=h;exact⟨v,Qi c e,l _ _ _ (PF.sX c d v) i⟩
theorem Hj {op:POp} {d:Option Nat} {K1 K2:PF→PH→Prop} (e:∀ F F' H,F.le F'→K1 F H→K2 F' H) (c:F.le F') (h:bZ op F H fun r H'=>K1 (F.put d r) H'):bZ op F' H fun r H'=>K2 (F'.put d r) H' :=
 Uj c (AM (fun v H' i=>e _ _ _ (PF.sX c d v) i) h)
theorem aMU {op:POp} {d:Option Nat} {K1 K2:PF→PH→Prop} (i:∀ F F' H,F.le F'→K1 F H→K2 F' H) (e:F.le F') (h:wpOp C op d K1 F H):wpOp C op d K2 F' H:=by
 cases op
 case call n a=>exact Xi i e h
 case a6B x a =>
  have w:uN C (x.ev F) a d K1 F H:=h;show uN C (x.ev F') a d K2 F' H;cases M:x.ev F with
  | none=>rw[M] at w; exact w.elim
  | some u =>
   rw[cO e M];rw[M] at w;cases u<;>first | exact Xi i e w | exact w.elim | skip
   obtain⟨l,O,A⟩:=w;refine⟨l,O,?_⟩;rcases A with ⟨vs,E,R,A,J,K,h5⟩ | ⟨F1,H1,k1,vs,E,R,A,J,K,h5⟩
   ·exact .inl ⟨vs,E,R,FD e A,J,K,fun r H' p q=>i _ _ _ (PF.sX e d r) (h5 r H' p q)⟩
   ·obtain⟨B,k2,N⟩:=k1.up e;exact .inr ⟨B,H1,k2,vs,E,R,FD N A,J,K,fun r H' p q=>i _ _ _ (PF.sX N d r) (h5 r H' p q)⟩
 case box r x=>cases r<;>first | exact QS (op:=.box false x) i e h | exact tf (op:=.box true x) i e h
 case a5F r s l z ps=>cases r<;>first | exact QS (op:=.a5F false s l z ps) i e h | exact tf (op:=.a5F true s l z ps) i e h
 case alloc cs=>exact QS (op:=.alloc cs) i e h
 case a5H s b z l c=>exact QS (op:=.a5H s b z l c) i e h
 case a6F sh=>exact QS (op:=.a6F sh) i e h
 case store n x y=>exact Hj (op:=.store n x y) i e h
 case append s b x y=>exact Hj (op:=.append s b x y) i e h
 case a5R sh x y z=>exact Hj (op:=.a5R sh x y z) i e h
 case insert sh x y z=>exact Hj (op:=.insert sh x y z) i e h
 all_goals exact tf i e h
theorem RN {K1 K2:PF→PH→Prop} (i:∀ F F' H,F.le F'→K1 F H→K2 F' H):∀ {ops:List aU} {F F':PF} {H:PH},F.le F'→wpOps C ops K1 F H→wpOps C ops K2 F' H
 | [],_,_,_,c,h=>i _ _ _ c h
 | ⟨d,op,none⟩::rest,_,_,_,c,h=>aMU (fun _ _ _ a b=>RN i a b) c h
 | ⟨d,op,some (t,p)⟩::rest,F,F',H,c,h=>by
  rw[W1] at h ⊢;unfold vN at h;split at h
  ·rename_i b l;rw[c t _ l];unfold vN;simp only;split at h
   ·rename_i e; rw[if_pos e]; exact aMU (fun _ _ _ a b=>RN i a b) c h
   ·rename_i e; rw[if_neg e]; exact RN i (PF.sX c d _) h
  ·rename_i l;rw[c t _ l];exact RN i (PF.sX c d _) h
  ·exact h.elim
theorem Qc {Hs:PH} {S:Spec} {st:Bool} {op:POp} {K:PV→PH→Prop} (d:F.le F') (h:(op.kind F).run C Hs S st K H):(op.kind F').run C Hs S st K H:=by
 have new:∀ op:POp,(Kind.new (cX op F)).run C Hs S st K H→(Kind.new (cX op F')).run C Hs S st K H:=fun op h=>by obtain⟨J,x,e,i⟩:=h;exact⟨J,x,H7 d e,i⟩
 have calm:∀ op:POp,(Kind.calm (aO op F)).run C Hs S st K H→(Kind.calm (aO op F')).run C Hs S st K H:=fun op h=>by obtain⟨v,e,i⟩:=h;exact⟨v,Qi d e,i⟩
 have E:∀ op:POp,(Kind.write fun H K=>bZ op F H K).run C Hs S st K H→(Kind.write fun H K=>bZ op F' H K).run C Hs S st K H:=fun op h=>Uj (op:=op) d (show bZ op F H (fun r H'=>Hs.le H'∧K r H') from h);cases op
 case call n a =>obtain⟨vs,D,R,e,i⟩:=h;exact⟨vs,D,R,FD d e,i⟩
 case a6B x a =>
  unfold POp.kind at h ⊢;simp only at h ⊢;cases p:x.ev F with
  | none=>rw[p] at h; exact h.elim
  | some u =>
   rw[p] at h;rw[cO d p];cases u<;>simp only at h ⊢<;>first | exact h | skip
   obtain⟨vs,D,R,e,i⟩:=h;exact⟨vs,D,R,Nt d _ e,i⟩
 case insert sh x k v =>
  obtain⟨o,B,A,u,g,e,i⟩:=h;refine⟨o,B,A,u,g,?_,i⟩;cases p:x.ev F with
  | none=>simp[p] at e
  | some a =>
   cases q:k.ev F with
   | none=>simp[p,q] at e
   | some b =>
    cases w:v.ev F with
    | none=>simp[p,q,w] at e
    | some c=>rw[cO d p,cO d q,cO d w]; rw[p,q,w] at e; exact e
 case box r x=>cases r<;>first | exact new (.box false x) h | exact calm (.box true x) h
 case a5F r s l z ps=>cases r<;>first | exact new (.a5F false s l z ps) h | exact calm (.a5F true s l z ps) h
 case alloc cs=>exact new (.alloc cs) h
 case a5H s b z l c=>exact new (.a5H s b z l c) h
 case a6F sh=>exact new (.a6F sh) h
 case store n x y=>exact E (.store n x y) h
 case append s b x y=>exact E (.append s b x y) h
 case a5R sh x y z=>exact E (.a5R sh x y z) h
 all_goals exact calm _ h
theorem aFA {Hs:PH} {S:Spec} {st:Bool} {i:aU} {K:PV→PH→Prop} (c:F.le F') (h:(i.kind F).run C Hs S st K H):(i.kind F').run C Hs S st K H:=by
 unfold aU.kind at h ⊢;split
 ·rename_i l;rw[l] at h;exact Qc c h
 ·rename_i t p l;rw[l] at h;simp only at h;split at h
  ·rename_i b d;rw[c t _ d];simp only;split at h
   ·rename_i e; rw[if_pos e]; exact Qc c h
   ·rename_i e; rw[if_neg e]; exact h
  ·rename_i d;rw[c t _ d];exact h
  ·exact h.elim
theorem aBU {Hs:PH} {S:Spec} {K1 K2:PF→PH→Prop} (e:∀ F F' H,F.le F'→K1 F H→K2 F' H):∀ {ops:List (aU × Bool)} {F F':PF} {H:PH},Hs.le H→F.le F'→wpD C Hs S ops K1 F H→wpD C Hs S ops K2 F' H
 | [],_,_,_,_,c,h=>e _ _ _ c h
 | i::rest,F,F',H,q,c,h=>by have l:(i.1.kind F).run C Hs S i.2 (fun v H'=>wpD C Hs S rest K1 (F.put i.1.dst v) H') H:=h;exact aFA c (Kind.rJ (rG _ _) (fun v H' d p=>aBU e d (PF.sX c _ v) p) q l)
class Up (K:bQ):Prop where
 up:∀ {e:jZ} {F F':PF} {H:PH},F.le F'→K e F H→K e F' H
theorem xQ:∀ (c:aC) {K1 K2:bQ} (_:∀ e F F' H,F.le F'→K1 e F H→K2 e F' H) {F F':PF} {H:PH},F.le F'→c.wp C K1 F H→c.wp C K2 F' H
 | .skip,_,_,i,_,_,_,d,h=>i _ _ _ _ d h
 | .region ops,_,_,i,_,_,_,d,h=>RN (i .normal) d h
 | .draw ops,_,_,i,_,_,_,d,⟨Hs,S,q,A⟩=>⟨Hs,S,q,aBU (i .normal) q d A⟩
 | .seq a b,K1,K2,i,_,_,_,d,h=>xQ a (K1:=fV C (b.wp C) K1) (K2:=fV C (b.wp C) K2) (fun e F F' H p l=>by
   cases e with
   | normal=>exact xQ b i p l
   | exit id=>exact i (.exit id) _ _ _ p l
   | ret=>exact i .ret _ _ _ p l) d h
 | .cond c a b,K1,K2,i,F,F',H,d,h=>by
  rw[aMG] at h ⊢;unfold UF at h;split at h
  ·rename_i t N;rw[cO d N];unfold UF;simp only;split at h
   ·rename_i e; rw[if_pos e]; exact xQ a i d h
   ·rename_i e; rw[if_neg e]; exact xQ b i d h
  ·exact h.elim
 | .block id c,K1,K2,i,_,_,_,d,h=>xQ c (K1:=eP id K1) (K2:=eP id K2) (fun e F F' H p l=>by
   cases e with
   | normal=>exact i .normal _ _ _ p l
   | exit j =>
    rw[CC] at l ⊢;split at l
    ·rename_i e; rw[if_pos e]; exact i .normal _ _ _ p l
    ·rename_i e; rw[if_neg e]; exact i (.exit j) _ _ _ p l
   | ret=>exact i .ret _ _ _ p l) d h
 | .loop c,K1,K2,i,F,F',H,d,⟨α,x,Hs,y,m,E,Y,B,q,A,J,K,h5⟩=>by
  obtain⟨u,k1,k2⟩:=q.up d;refine⟨α,x,Hs,y,m,E,u,B,k1,A,PF.le_trans J k2,K,fun a M=>?_⟩;refine xQ c (K1:=fB x Hs y m (m a) K1) (K2:=fB x Hs y m (m a) K2) (fun e F F' H p l=>?_) PF.le_refl (h5 a M);cases e with
  | normal =>obtain⟨b,Z,H2,R,U,V,W,X⟩:=l;obtain⟨w,O,Q⟩:=R.up p;exact⟨b,w,H2,O,U,V,PF.le_trans W Q,X⟩
  | exit id=>exact i (.exit id) _ _ _ p l
  | ret=>exact i .ret _ _ _ p l
 | .exit id,_,_,i,_,_,_,d,h=>i (.exit id) _ _ _ d h
 | .ret,_,_,i,_,_,_,d,h=>i .ret _ _ _ d h
instance Up.seq {K:bQ} [Up K] (b:aC):Up (fV C (b.wp C) K) where
 up {e} {F} {F'} {H} hl hh:=by
  cases e with
  | normal=>exact xQ b (fun e F F' H a h=>Up.up a h) hl hh
  | exit id=>exact Up.up (K:=K) (e:=.exit id) hl hh
  | ret=>exact Up.up (K:=K) (e:=.ret) hl hh
instance Up.block {K:bQ} [Up K] (id:Nat):Up (eP id K) where
 up {e} {F} {F'} {H} hl hh:=by
  cases e with
  | normal=>exact Up.up (K:=K) (e:=.normal) hl hh
  | exit j =>
   rw[CC] at hh ⊢;split at hh
   ·rename_i e; rw[if_pos e]; exact Up.up (K:=K) (e:=.normal) hl hh
   ·rename_i e; rw[if_neg e]; exact Up.up (K:=K) (e:=.exit j) hl hh
  | ret=>exact Up.up (K:=K) (e:=.ret) hl hh
instance Up.loop {K:bQ} [Up K] {α:Type} (d:α→PF) (Hs:α→PH) (i:α→Prop) (m:α→Nat) (n:Nat):Up (fB d Hs i m n K) where
 up {e} {F} {F'} {H} hl hh:=by
  cases e with
  | normal =>obtain⟨b,A,H2,q,u,w,x,y⟩:=hh;obtain⟨c,l,p⟩:=q.up hl;exact⟨b,c,H2,l,u,w,PF.le_trans x p,y⟩
  | exit id=>exact Up.up (K:=K) (e:=.exit id) hl hh
  | ret=>exact Up.up (K:=K) (e:=.ret) hl hh
theorem aVI {H:PH} (c:F.le F') {x:dQ} {v:PV} (h:x.ev F H=some v):x.ev F' H=some v:=by
 cases x with
 | tmp t=>exact c t v h
 | cell t n =>
  cases n<;>simp only[dQ.ev] at h ⊢<;>(cases d:F t with
   | none=>simp[d] at h
   | some a=>rw[c t a d,← d]; exact h)
theorem v6 {H:PH} (c:F.le F'):∀ {xs:List dQ} {vs:List PV},dQ.evs F H xs=some vs→dQ.evs F' H xs=some vs
 | [],_,h=>h
 | x::xs,vs,h=>by
  rw[jU] at h ⊢;cases e:x.ev F H with
  | none=>simp[e] at h
  | some v =>
   cases d:dQ.evs F H xs with
   | none=>simp[d] at h
   | some i =>rw[e,d] at h;rw[aVI c e,v6 c d];exact h
instance Up.ret (res:List dQ) (R:PV→PH→Prop):Up (aV res R) where
 up {e} {F} {F'} {H} hl hh:=by
  cases e with
  | exit id=>exact hh
  | normal=>obtain⟨vs,c,d⟩:=hh; exact⟨vs,v6 hl c,d⟩
  | ret=>obtain⟨vs,c,d⟩:=hh; exact⟨vs,v6 hl c,d⟩
end
section
variable {H:PH} {B:List BX} {L:List LI}
end

section
variable {H:PH} {B:List BX} {L:List LI} {s:Nat} {rows:List (List PV)}
theorem oO.some (s:Nat) (rows:List (List PV)) (G:PH):∃ r H',oO s rows r H'∧lN G .nil H':=by
 obtain⟨o,d⟩:=G.fresh;refine⟨.osl o s 0 rows.length,PH.nil.set o (.rows s rows),.inr ⟨o,rows,rfl,rfl,a6S _,a7M⟩,fun q x c _=>?_⟩;rw[aT] at c;split at c
 ·rename_i e; rw[e]; exact d
 ·cases c
end

section
variable {C:Ctx} {F:PF} {H Hs:PH} {tn a a2:Nat} {raw:List Int} {R:Nat→PV→PH→Prop} {st:Bool} {args:List aP} {d:Option Nat} {K:PF→PH→Prop}
end
section
variable {C:Ctx} {F:PF} {H:PH} {B:List BX} {L:List LI} {args:List aP} {d:Option Nat} {K:PF→PH→Prop}
end


theorem YN.move {f:aE} {L:List (List Int)} (h:YN f L) {x k d:Nat} (p:x<L.length) (q:d<f.a4Z.length):YN f (L.set x (L[x].set k d)):=by
 refine⟨by rw[a8M]; exact h.len,fun v l=>?_,fun r c=>?_⟩
 ·rw[a8M] at l;have:=h.row v l;rw[List.getElem_set];split
  ·rename_i e;subst e;rw[a8M]; exact this
  ·exact this
 ·rcases List.mem_or_eq_of_mem_set c with c | rfl
  ·exact h.home r c
  ·intro y i;rcases List.mem_or_eq_of_mem_set i with i | rfl
   ·exact h.home _ (a6M p) y i
   ·omega

structure aTR (C:Ctx):Prop extends fO C where
 r3:aM C 3 aPO
 r6:aM C 6 aZD
 r18:aM C 18 aUI
 r82:aM C 82 aZG
structure fe (C:Ctx):Prop extends NT C where
 int:∀ n:Int,dE n→aG C 47 [.int .i64 n] .nil (aF (.agg (mkT n 1).cells))
 mul:∀ a b,Lim a→Lim b→a.length≤35184372087808→b.length≤35184372087808→aG C 36 [aI a,aI b] .nil (aF (opV (dU (val a) (val b)) (val a*val b)))
 add:∀ a b,Lim a→Lim b→a.length≤35184372087808→b.length≤35184372087808→aG C 30 [aI a,aI b] .nil (aF (opV (dU (val a) (val b)) (val a+val b)))
 sub:∀ a b,Lim a→Lim b→a.length≤35184372087808→b.length≤35184372087808→aG C 37 [aI a,aI b] .nil (aF (rK (val a) (val b)))
theorem D9 (a b:Nat):cR a b=(decide (nl b>0)&&(decide (nl b≤128)&&decide (nl a≤128))):=by
 have:=@gT b;refine Bool.eq_iff_iff.2 ?_;rw[fJ];simp only[a7E,decide_eq_true_eq];omega
theorem Eu {C:Ctx} (L:fe C) (neg:Bool) (a b:List Nat) (q:Lim a) (l:Lim b) (u:a.length≤35184372087808) (p:b.length≤35184372087808) :
  EL.wp C (aV qc.res (aF (.bool (cR (val a) (val b))))) (PF.args [.agg (eD neg a b)]) .nil:=by
 rw[D9];simp only[go_sem,EL,Ew,Ex,qc];refine aA (L.trim b l p) rfl ?_;simp only[go_sem,a6K,bB];by_cases e:nl (val b)>0
 ·have c:((nl (val b):Nat):Int)>0:=Om;simp only[go_sem,c];refine aA (L.trim b l p) rfl ?_;simp only[go_sem,a6K,bB];by_cases i:nl (val b)≤128
  ·have d:((nl (val b):Nat):Int)≤128:=Om;simp only[go_sem,d];refine aA (L.trim a q u) rfl ?_;simp only[go_sem,a6K,bB];refine aQ (.inr rfl) rfl ?_;have:decide (((nl (val a):Nat):Int)≤128)=decide (nl (val a)≤128):=by refine decide_eq_decide.2 ?_;omega
   rw[bO,this,decide_eq_true e,decide_eq_true i];rfl
  ·have d:¬ ((nl (val b):Nat):Int)≤128:=Om;simp only[go_sem,d];refine aQ (.inr rfl) rfl ?_;rw[bO,decide_eq_false i,a6R,a7S]
 ·have c:¬ ((nl (val b):Nat):Int)>0:=Om;simp only[go_sem,c];refine aQ (.inr rfl) rfl ?_;rw[bO,decide_eq_false e,a6R]
theorem al {neg:Bool} {a b:Nat} (h:cR a b=true):gW neg a b=.ok (mH neg a b):=by
 obtain⟨l,c,d⟩:=fJ.1 h;have e:=(lM (a/a6O a b) 128).2 (lh _ d);have i:=(lM (b/a6O a b) 128).2 (lh _ c);unfold gW mH;rw[if_neg Om]
def aiE (a b:Nat):Bool:=decide (nl a>128)||decide (nl b>128)
theorem Eb {C:Ctx} (neg:Bool) (a b:List Nat) :
  EI.wp C (aV pi.res (aF (.bool (decide (a.length>128)||decide (b.length>128))))) (PF.args [.agg (eD neg a b)]) .nil:=by
 simp only[go_sem,EI,Ec,Ed,pi,a6K];by_cases c:a.length>128
 ·have d:(a.length:Int)>128:=Om;simp only[go_sem,d];refine aQ (.inr rfl) rfl ?_;rw[bO,decide_eq_true c,Bool.true_or]
 ·have d:¬ (a.length:Int)>128:=Om;simp only[go_sem,d,a6K];refine aQ (.inr rfl) rfl ?_;have:decide ((b.length:Int)>128)=decide (b.length>128):=by refine decide_eq_decide.2 ?_;omega
  rw[bO,this,decide_eq_false c,Bool.false_or]
def Ka (x:FV):FR:=if aiE x.2.1 x.2.2 then .error 2 else .ok x
theorem aOE (neg:Bool) (a b:Nat):Ka (mH neg a b)=gW neg a b:=by
 have d:=lM (a/a6O a b) 128;have e:=lM (b/a6O a b) 128;unfold Ka mH gW aiE;simp only[Bool.or_eq_true,decide_eq_true_eq];by_cases c:nl (a/a6O a b)>128∨nl (b/a6O a b)>128
 ·rw[if_pos c,if_pos Om]
 ·rw[if_neg c,if_neg Om]
structure NV (C:Ctx):Prop extends fe C where
 valid:∀ x:RF,x.Ok→aG C 56 [.agg x.cells] .nil (aF (.bool (cR (val x.num) (val x.den))))
 big:∀ x:FV,aG C 48 [.agg x.rf.cells] .nil (aF (.bool (aiE x.2.1 x.2.2)))
theorem To {C:Ctx} (L:NV C) (x:FV):LX.wp C (aV Hd.res (bX (frV (Ka x)))) (PF.args [.agg x.rf.cells]) .nil:=by
 simp only[go_sem,LX,Tq,Hd];refine aR fun o c=>?_;simp only[go_sem,Tr];refine aA (L.big x) rfl ?_;unfold Ka;cases aiE x.2.1 x.2.2 with
 | true =>simp only[go_sem,Ts];refine gS ?_;simp only[go_sem]
 | false =>obtain⟨n,a,b⟩:=x;simp only[go_sem,Tt];exact bA (.inr rfl) .nil (vs:=[.agg (FV.rf (n,a,b)).cells,.int .i64 0]) Sq a_ ⟨.refl _,rfl⟩
theorem p6 {C:Ctx} (L:NV C) (x:RF) (c:x.Ok):AI.wp C (aV VI.res (bX (frV (oM x)))) (PF.args [.agg x.cells]) .nil:=by
 simp only[go_sem,AI,p7,VI];refine aR fun o l=>?_;simp only[go_sem,p8];refine aA (L.valid x c) rfl ?_;unfold oM;cases d:cR (val x.num) (val x.den) with
 | false =>simp only[go_sem,a7A,p9];refine gS ?_;simp only[go_sem]
 | true =>obtain⟨i,p,q⟩:=fJ.1 d;have e:=al (neg:=x.neg) d;rw[if_pos rfl,e];simp only[go_sem,a6P,qa];refine aA (L.lowest x.neg x.num x.den c.1 c.2.1 c.2.2.1 c.2.2.2 Om Om i) rfl ?_;simp only[go_sem];exact bA (.inr rfl) .nil (vs:=[.agg (mH x.neg (val x.num) (val x.den)).rf.cells,.int .i64 0]) Sq a_ ⟨.refl _,rfl⟩
theorem Ep {C:Ctx} (L:fe C) (a b:List Nat) (c:Lim a) (d:Lim b) (e:a.length≤35184372087808) (i:b.length≤35184372087808) (l:nl (val a)≤256) (p:nl (val b)≤256) :
  EK.wp C (aV qb.res (aF (aI (aH (val a*val b))))) (PF.args [aI a,aI b]) .nil:=by
 simp only[go_sem,EK,Er,Es,qb];refine aA (L.mul a b c d e i) rfl ?_;have:=kY l p;rw[gR Om Om,opV,AE Om];simp only[go_sem,Et];refine aQ (.inr rfl) rfl ?_;rfl
structure ff (C:Ctx):Prop extends NV C where
 fits:∀ x:FV,aG C 57 [.agg x.rf.cells] .nil (aF (frV (Ka x)))
 red:∀ x:RF,x.Ok→aG C 52 [.agg x.cells] .nil (aF (frV (oM x)))
 prod:∀ a b,Lim a→Lim b→a.length≤35184372087808→b.length≤35184372087808→nl (val a)≤256→nl (val b)≤256→aG C 60 [aI a,aI b] .nil (aF (aI (aH (val a*val b))))
def RF.valid (x:RF):Prop:=cR (val x.num) (val x.den)=true
def pF (x y:RF):Int:=rH x.neg (val x.num) (val x.den) y.neg (val y.num) (val y.den)
def voS:Spec:=fun name vs=>match name,vs with
 | 60,[x,y]=>some ([],fun _=>aF (aI (aH (val (iV x)*val (iV y)))))
 | _,_=>none
theorem vY (a b:List Nat):voS 60 [aI a,aI b]=some ([],fun _=>aF (aI (aH (val a*val b)))):=by
 show some _=_; rw[eC,eC]
theorem xo (a b:Nat):dM b a=- dM a b:=by
 unfold dM;rcases Nat.lt_trichotomy a b with h | h | h
 ·rw[if_neg Om,if_pos h,if_pos h]; rfl
 ·subst h;rw[if_neg Om,if_neg Om]; rfl
 ·rw[if_pos h,if_neg Om,if_pos h]
set_option maxHeartbeats 1000000 in
theorem Ee {C : Ctx} (L : ff C) (x y : RF) (hx : x.Ok) (hy : y.Ok) (vx : x.valid) (vy : y.valid) : EJ.wp C (aV p5.res (aF (.int .i64 (pF x y)))) (PF.args [.agg x.cells, .agg y.cells]) .nil := by
  obtain ⟨n1, a1, b1⟩ := x;obtain ⟨n2, a2, b2⟩ := y;obtain ⟨ha1, hb1, la1, lb1⟩ := hx;obtain ⟨ha2, hb2, la2, lb2⟩ := hy;obtain ⟨v1, v2, v3⟩ := fJ.1 vx;obtain ⟨w1, w2, w3⟩ := fJ.1 vy;simp only at ha1 hb1 la1 lb1 ha2 hb2 la2 lb2 v1 v2 v3 w1 w2 w3;have m1 := kY v3 w2;have m2 := kY w3 v2;have hA : decide (val a1 ≠ 0) = decide (nl (val a1 * val b2) > 0) := by refine decide_eq_decide.2 ?_;have := @gT (val a1 * val b2);rw [Nat.mul_eq_zero] at this;omega
  have hB : decide (val a2 ≠ 0) = decide (nl (val a2 * val b1) > 0) := by refine decide_eq_decide.2 ?_;have := @gT (val a2 * val b1);rw [Nat.mul_eq_zero] at this;omega
  unfold pF rH;simp only [hA, hB];simp only[go_sem,EJ,Ef,p5];refine bV .nil voS a_ ?_;simp only[go_sem,Eg];refine bM (vY a1 b2) (L.prod a1 b2 ha1 hb2 la1 lb2 Om Om) rfl a_ ?_;simp only[go_sem];refine bM (vY a2 b1) (L.prod a2 b1 ha2 hb1 la2 lb1 Om Om) rfl a_ ?_;have hc := L.cmp (aH (val a1 * val b2)) (aH (val a2 * val b1)) (aX _) (aX _) (by rw [bB]; omega) (by rw [bB]; omega);have hd := L.cmp (aH (val a2 * val b1)) (aH (val a1 * val b2)) (aX _) (aX _) (by rw [bB]; omega) (by rw [bB]; omega);rw [aW, aW] at hc hd;rw [xo (val a1 * val b2)] at hd;generalize val a1 * val b2 = A at *
  generalize val a2 * val b1 = B at *
  have gA : decide (((nl A : Nat) : Int) > 0) = decide (nl A > 0) := decide_eq_decide.2 Om;have gB : decide (((nl B : Nat) : Int) > 0) = decide (nl B > 0) := decide_eq_decide.2 Om;generalize decide (nl A > 0) = p at *
  generalize decide (nl B > 0) = q at *
  cases n1 <;> cases n2 <;> cases p <;> cases q
  all_goals
    simp only[go_sem,Eh,a6K,bB,gA,gB,Ei,Ej,Ek,El,Em,En,Eo]
    first
    | (refine aQ (.inr rfl) rfl ?_; rfl)
    | (refine aA hc rfl ?_
       simp only[go_sem];refine aQ (.inr rfl) rfl ?_;rfl)
    | (refine aA hd rfl ?_
       simp only[go_sem];refine aQ (.inr rfl) rfl ?_;rfl)
structure vG (C:Ctx):Prop extends ff C where
 order:∀ x y:RF,x.Ok→y.Ok→x.valid→y.valid→aG C 51 [.agg x.cells,.agg y.cells] .nil (aF (.int .i64 (pF x y)))
theorem Tv {C:Ctx} (L:vG C) (x y:RF) (c:x.Ok) (d:y.Ok) (e:x.valid) (i:y.valid):LY.wp C (aV He.res (aF (.bool (decide (pF x y<0))))) (PF.args [.agg x.cells,.agg y.cells]) .nil:=by
 simp only[go_sem,LY,Tw,Tx,He];refine aA (L.order x y c d e i) rfl ?_;simp only[go_sem];refine aQ (.inr rfl) rfl ?_;rfl
theorem T5 {C:Ctx} (L:vG C) (x y:RF) (c:x.Ok) (d:y.Ok) (e:x.valid) (i:y.valid):MC.wp C (aV Hg.res (aF (.bool (pF x y==0)))) (PF.args [.agg x.cells,.agg y.cells]) .nil:=by
 simp only[go_sem,MC,T6,T7,Hg];refine aA (L.order x y c d e i) rfl ?_;simp only[go_sem];refine aQ (.inr rfl) rfl ?_;rfl
theorem FO (n:Int):mkT n 1=⟨decide (n<0),aH n.natAbs,aH 1⟩:=by
 unfold mkT mH FV.rf;rw[show (1:Int).natAbs=1 from rfl,Nat.gcd_one_right,Nat.div_one,Nat.div_one,show decide ((1:Int)<0)=false from rfl];congr 1;by_cases h:n<0
 ·have:n.natAbs≠0:=Om;simp[h,this]
 ·simp[h]
theorem FN (n:Int) (h:dE n):(mkT n 1).Ok∧(mkT n 1).valid:=by
 have c:nl n.natAbs≤2:=nJ (by unfold dE at h; omega);rw[FO];refine⟨⟨aX _,aX _,?_,?_⟩,?_⟩
 ·simp only[bB]; omega
 ·simp only[vP]; decide
 ·unfold RF.valid;simp only[aW];rw[D9];have:nl 1=1:=by rw[nl,vP]; rfl
  simp[this];omega
def qZ (x:RF):Int:=if val x.num=0 then 0 else if x.neg then -1 else 1
theorem aGY (x:RF):pF x (mkT 0 1)=qZ x:=by
 rw[FO];unfold pF qZ rH;simp only[aW,show (0:Int).natAbs=0 from rfl,Nat.mul_one,Nat.zero_mul];by_cases h:val x.num=0
 ·simp[h,dM]
 ·cases x.neg<;>simp[h,dM]
def viS (r:Int):Spec:=fun name _=>if name=47 then some ([],fun _=>aF (.agg (mkT 0 1).cells)) else some ([],fun _=>aF (.int .i64 r))
theorem T8 {C:Ctx} (L:vG C) (x:RF) (e:x.Ok) (i:x.valid):MD.wp C (aV Hh.res (aF (.int .i64 (qZ x)))) (PF.args [.agg x.cells]) .nil:=by
 have c:dE 0:=by unfold dE; omega
 have d:=L.order x (mkT 0 1) e (FN 0 c).1 i (FN 0 c).2;rw[aGY] at d;simp only[go_sem,MD,T9,Hh];refine bV .nil (viS (qZ x)) a_ ?_;simp only[go_sem,Ua];refine bM rfl (L.int 0 c) rfl a_ ?_;simp only[go_sem];refine bM rfl d rfl a_ ?_;simp only[go_sem];refine aQ (.inr rfl) rfl ?_;rfl
theorem aBN {C:Ctx} (L:vG C) (i l:Bool) (a1 b1 a2 b2:List Nat) (N:Lim a1) (E:Lim b1) (O:Lim a2) (J:Lim b2)
  (Q:a1.length≤35184372087808) (K:b1.length≤35184372087808) (R:a2.length≤35184372087808) (M:b2.length≤35184372087808) :
  BY.wp C (aV Tj.res (bX (frV (gU (i,val a1,val b1) (l,val a2,val b2))))) (PF.args [.agg (eD i a1 b1),.agg (eD l a2 b2)]) .nil:=by
 have vx:aG C 56 [.agg (eD i a1 b1)] .nil (aF (.bool (cR (val a1) (val b1)))):=L.valid ⟨i,a1,b1⟩ ⟨N,E,Q,K⟩;have vy:aG C 56 [.agg (eD l a2 b2)] .nil (aF (.bool (cR (val a2) (val b2)))):=L.valid ⟨l,a2,b2⟩ ⟨O,J,R,M⟩;simp only[go_sem,BY,afW,Tj];refine aR fun o ho=>?_;simp only[go_sem,afX];refine aA vx rfl ?_;simp only[gU];cases hv:cR (val a1) (val b1) with
 | false =>simp only[go_sem,a7A,wq,a6R];refine gS ?_;simp only[go_sem]
 | true =>
  obtain⟨v1,v2,v3⟩:=fJ.1 hv;simp only[go_sem,a6P];refine aA vy rfl ?_;cases hw:cR (val a2) (val b2) with
  | false =>simp only[go_sem,a7A,wq,a7S];refine gS ?_;simp only[go_sem]
  | true =>
   obtain⟨w1,w2,w3⟩:=fJ.1 hw;simp only[go_sem,a6P,a8V];refine bV .nil voS a_ ?_;simp only[go_sem,afY];refine bM (vY a1 b2) (L.prod a1 b2 N J Q M Om Om) rfl a_ ?_;simp only[go_sem];refine bM (vY a2 b1) (L.prod a2 b1 O E R K Om Om) rfl a_ ?_;simp only[go_sem];refine bM (vY b1 b2) (L.prod b1 b2 E J K M Om Om) rfl a_ ?_;simp only[go_sem];have m1:=kY v3 w2;have m2:=kY w3 v2;have m3:=kY v2 w2;have d0:val b1*val b2≠0:=Nat.mul_ne_zero v1 w1;generalize hA:val a1*val b2=A at *
   generalize hB:val a2*val b1=B at *
   generalize hD:val b1*val b2=D at *
   have fin:∀ (F:PF) (H:PH) (r:FR),(∃ d x y e,frV r=.tup [.agg (eD d x y),.int .i64 e]∧F 4=some (.ptr o 3 0 0)∧F 5=some (.int .i64 e)∧H o=some (.rows 3 [eD d x y]))→aV [.cell 4 (some 3),.tmp 5] (bX (frV r)) .ret F H:=by rintro F H r ⟨d,x,y,e,he,f4,f5,hH⟩;rw[he];exact bA (.inr rfl) .nil (vs:=[.agg (eD d x y),.int .i64 e]) (by simp only[go_sem,f4,f5,hH]) a_ ⟨.refl _,rfl⟩
   have V:(i==l)=decide (i=l):=by cases i<;>cases l<;>rfl
   have low:∀ neg x,nl x≤257→aG C 58 [.bool neg,aI (aH x),aI (aH D)] .nil (aF (.agg (mH neg x D).rf.cells)):=by
    intro neg x hx;have W:(aH x).length≤35184372087808:=by rw[bB]; omega
    have Z:(aH D).length≤35184372087808:=by rw[bB]; omega
    have:=L.lowest neg (aH x) (aH D) (aX _) (aX _) W Z;rw[aW,aW] at this;exact this Om Om d0
   have w:∀ neg x,aG C 57 [.agg (mH neg x D).rf.cells] .nil (aF (frV (gW neg x D))):=fun neg x=>by
    have:=L.fits (mH neg x D)
    rwa [aOE] at this
   have lA:(aH A).length≤35184372087808:=by rw[bB]; omega
   have lB:(aH B).length≤35184372087808:=by rw[bB]; omega
   simp only[go_sem,afZ];by_cases c:i=l
   ·rw[if_pos c];have S:(i==l)=true:=by rw[V,decide_eq_true c]
    simp only[go_sem,S,agA];have q:=L.add (aH A) (aH B) (aX _) (aX _) lA lB;have α:=Pn m1 m2;rw[aW,aW,gR Om Om,opV,AE Om] at q;refine aA q rfl ?_;simp only[go_sem,agB];refine aA (low i _ Om) rfl ?_;simp only[go_sem];refine aA (w i _) rfl ?_;obtain⟨d,x,y,e,p⟩:=tP (gW i (A+B) D);rw[p];simp only[go_sem];rw[← p];exact fin _ _ _ ⟨d,x,y,e,p,by simp only[go_sem],by simp only[go_sem],by simp only[go_sem]⟩
   ·rw[if_neg c];have S:(i==l)=false:=by rw[V,decide_eq_false c]
    simp only[go_sem,S,agC];have hc:=L.cmp (aH A) (aH B) (aX _) (aX _) lA lB;rw[aW,aW] at hc;refine aA hc rfl ?_;have u:∀ X Y:Nat,nl X≤256→nl Y≤256→Y≤X→aG C 37 [aI (aH X),aI (aH Y)] .nil (aF (.tup [aI (aH (X-Y)),.int .i64 0])):=by intro X Y W Z h;have:=L.sub (aH X) (aH Y) (aX _) (aX _) (by rw[bB]; omega) (by rw[bB]; omega);have h3:=fL (Om:X-Y≤X);rw[aW,aW,rK,gR Om Om,if_neg (by decide),if_neg Om,AE Om] at this;exact this
    by_cases g:B≤A
    ·have U:dM A B≥0:=(UE A B).2 g;rw[if_pos g];simp only[go_sem,U,agD];refine aA (u A B Om Om g) rfl ?_;simp only[go_sem,agE];have h3:=fL (Om:A-B≤A);refine aA (low i (A-B) Om) rfl ?_;simp only[go_sem];refine aA (w i _) rfl ?_;obtain⟨d,x,y,e,p⟩:=tP (gW i (A-B) D);rw[p];simp only[go_sem];rw[← p];exact fin _ _ _ ⟨d,x,y,e,p,by simp only[go_sem],by simp only[go_sem],by simp only[go_sem]⟩
    ·have U:¬ dM A B≥0:=fun h=>g ((UE A B).1 h);rw[if_neg g];simp only[go_sem,U,Tk];refine aA (u B A Om Om Om) rfl ?_;simp only[go_sem,Tl];have h3:=fL (Om:B-A≤B);refine aA (low l (B-A) Om) rfl ?_;simp only[go_sem];refine aA (w l _) rfl ?_;obtain⟨d,x,y,e,p⟩:=tP (gW l (B-A) D);rw[p];simp only[go_sem];rw[← p];exact fin _ _ _ ⟨d,x,y,e,p,by simp only[go_sem],by simp only[go_sem],by simp only[go_sem]⟩
theorem afV {C:Ctx} (L:vG C) (x y:RF) (c:x.Ok) (d:y.Ok):BY.wp C (aV Tj.res (bX (frV (gU x.v y.v)))) (PF.args [.agg x.cells,.agg y.cells]) .nil :=
 aBN L x.neg y.neg x.num x.den y.num y.den c.1 c.2.1 d.1 d.2.1 c.2.2.1 c.2.2.2 d.2.2.1 d.2.2.2
structure Gj (C:Ctx):Prop extends vG C where
 less:∀ x y:RF,x.Ok→y.Ok→x.valid→y.valid→aG C 49 [.agg x.cells,.agg y.cells] .nil (aF (.bool (decide (pF x y<0))))
 same:∀ x y:RF,x.Ok→y.Ok→x.valid→y.valid→aG C 53 [.agg x.cells,.agg y.cells] .nil (aF (.bool (pF x y==0)))
 sign:∀ x:RF,x.Ok→x.valid→aG C 54 [.agg x.cells] .nil (aF (.int .i64 (qZ x)))
 plus:∀ x y:RF,x.Ok→y.Ok→aG C 46 [.agg x.cells,.agg y.cells] .nil (aF (frV (gU x.v y.v)))
def vsF (l:List RF) (o2 o4 k:Nat):PF:=((((PF.nil.set 0 (frs l)).set 2 (.ptr o2 3 0 0)).set 4 (.ptr o4 3 0 0)).set 5 (.int .i64 k))
theorem agJ {C:Ctx} (L:Gj C) (l:List RF) (hl:∀ x∈l,x.Ok) (V:l.length≤9223372036854775807) :
  TN.wp C (aV apM.res (bX (frV (pM (l.map RF.v))))) (PF.args [frs l]) .nil:=by
 have Y:dE 0:=by unfold dE; omega
 have hi:(mkT 0 1).cells=(FV.rf (false,0,1)).cells:=by rw[FO]; rfl
 have u:=L.int 0 Y;rw[hi] at u;simp only[go_sem,TN,agK,apM];refine aR fun o2 β=>?_;have Z:aN (PH.nil.set o2 (.rows 3 [[.bool false,.aB,.aB]])) [(o2,.rows 3 [[.bool false,.aB,.aB]])] []:=aN.nil.new (H:=PH.nil) rfl _;generalize (PH.nil.set o2 _)=H1 at *
 simp only[go_sem,agL];refine aA u rfl ?_;simp only[go_sem];refine aR fun o4 S=>?_;have h2:=Z.new S (.rows 3 [(FV.rf (false,0,1)).cells]);simp only[go_sem,agM];refine wp_loop (α:=Nat × FV × PH) (fun t=>vsF l o2 o4 t.1) (fun t=>t.2.2) (fun t=>t.1≤l.length∧((l.map RF.v).take t.1).foldlM gU (false,0,1)=.ok t.2.1∧aN t.2.2 [(o2,.rows 3 [[.bool false,.aB,.aB]]),(o4,.rows 3 [(FV.rf t.2.1).cells])] []∧(FV.rf t.2.1).Ok) (fun t=>l.length-t.1)
  (0,(false,0,1),_) ⟨a6Q _,rfl,h2,⟨aX _,aX _,?_,?_⟩⟩ ?_ b_ ?_
 ·show (aH 0).length≤_;rw[fG]; simp
 ·show (aH 1).length≤_;rw[vP]; simp
 ·unfold vsF;exact Lq
 rintro⟨k,d,U⟩ ⟨hk,K,y,p⟩;simp only at hk K y p ⊢;simp only[go_sem,agI,agN,vsF,a6K];by_cases hlt:k<l.length
 ·have i:(k:Int)<(l.length:Nat):=Om;have hr:(l.map RF.cells)[k]?=some (l[k]).cells:=by simp[hlt]
  have q:=L.plus (FV.rf d) l[k] p (hl _ (a6M hlt));rw[FV.aVJ] at q;have c:=VT (f:=gU) (l.map RF.v) (false,0,1) (k:=k) (by simpa using hlt);rw[K] at c;simp only[Except.bind,a8P] at c;have N:=y.at 1 rfl;simp only[go_sem,i];refine bV .nil (fun _ _=>some ([],fun _=>aF (frV (gU d (l[k]).v)))) a_ ?_;simp only[go_sem,agO,N,hr];refine bM rfl q rfl a_ ?_;cases J:gU d (l[k]).v with
  | error e =>
   have R:e≠0:=by
    revert J;obtain⟨n1,a1,b1⟩:=d;obtain⟨n2,a2,b2⟩:=(l[k]).v;simp only[gU,gW]
    repeat' split
    all_goals (intro h; first | (injection h with h; subst h; decide) | cases h)
   rw[J] at c;simp only[go_sem,frV];refine aR fun o6 w=>?_;simp only[go_sem];refine⟨a_,?_⟩;have A:=y.new w (.rows 3 [[.bool false,aI [],aI []]]);have M:=A.at 0 rfl;simp only[go_sem,wt,dK R,agP,M];rw[pM,iz _ _ c];refine gS ?_;simp only[go_sem]
  | ok r =>
   rw[J] at c;obtain⟨F,B,E⟩:=r;simp only[go_sem,frV];refine aR fun o6 w=>?_;simp only[go_sem];refine⟨a_,?_⟩;have A:=y.new w (.rows 3 [(FV.rf (F,B,E)).cells]);have X:=A.at 2 rfl;have O:=A.at 1 rfl;generalize hG:U.set o6 (.rows 3 [(FV.rf (F,B,E)).cells])=W at *
   have Q:U.set o6 (.rows 3 [[.bool F,aI (aH B),aI (aH E)]])=W:=hG;simp only[go_sem,wt,agQ,Q,X,O,agR,wZz k];have h7:=(A.set 1 rfl (.rows 3 [(FV.rf (F,B,E)).cells])).sF 2;refine aD (k+1,(F,B,E),_) ⟨hlt,c,h7,tc J⟩ (by simp only; omega) ?_ b_;exact Lq
 ·have i:¬ (k:Int)<(l.length:Nat):=Om;have:k=l.length:=Om;subst this;rw[a7F (by simp)] at K;rw[pM,K];have M:=y.at 0 rfl;have N:=y.at 1 rfl;obtain⟨n,a,b⟩:=d;simp only[go_sem,i,Ug,N,M];exact bA (.inr rfl) .nil (vs:=[.agg (FV.rf (n,a,b)).cells,.int .i64 0]) Sq a_ ⟨.refl _,rfl⟩
theorem dge {n:Nat} (k:Nat):decide ((n:Int)≥(k:Int))=decide (k≤n):=decide_eq_decide.2 Om
theorem dle {n:Nat} (k:Nat):decide ((n:Int)≤(k:Int))=decide (n≤k):=decide_eq_decide.2 Om
theorem qv {C:Ctx} (n:Nat):AL.wp C (aV VL.res (aF (.bool (fA n)))) (PF.args [.int .u8 n]) .nil:=by
 have e:=dge (n:=n) 97;have i:=dle (n:=n) 122;have l:=dge (n:=n) 65;have p:=dle (n:=n) 90;simp only[Int.cast_ofNat_Int] at e i l p;unfold fA;generalize decide (97≤n)=a at *
 generalize decide (n≤122)=b at *
 generalize decide (65≤n)=c at *
 generalize decide (n≤90)=d at *
 cases a<;>cases b<;>cases c<;>cases d
 all_goals
  simp only[go_sem,AL,qw,qx,VL,e,i,l,p];refine aQ (.inr rfl) rfl ?_;rfl
theorem Ez {C:Ctx} (n:Nat):EN.wp C (aV qe.res (aF (.bool (jW n)))) (PF.args [.int .u8 n]) .nil:=by
 have c:=dge (n:=n) 48;have d:=dle (n:=n) 57;simp only[Int.cast_ofNat_Int] at c d;unfold jW;generalize decide (48≤n)=a at *
 generalize decide (n≤57)=b at *
 cases a<;>cases b
 all_goals
  simp only[go_sem,EN,E0,E4,qe,c,d];refine aQ (.inr rfl) rfl ?_;rfl
theorem qf {C:Ctx} (c:∀ n:Nat,aG C 65 [.int .u8 n] .nil (aF (.bool (fA n)))) (d:∀ n:Nat,aG C 63 [.int .u8 n] .nil (aF (.bool (jW n)))) (n:Nat) :
  AJ.wp C (aV VJ.res (aF (.bool (hL n)))) (PF.args [.int .u8 n]) .nil:=by
 have g1:((n:Int)==45)=decide (n=45):=by by_cases h:n=45<;>simp[h]; omega
 have g2:((n:Int)==46)=decide (n=46):=by by_cases h:n=46<;>simp[h]; omega
 have k1:=c n;have k2:=d n;unfold hL;generalize decide (n=45)=a at *
 generalize decide (n=46)=b at *
 simp only[go_sem,AJ,qg,qh,VJ];refine aA k1 rfl ?_;cases fA n with
 | true =>simp only[go_sem];refine aQ (.inr rfl) rfl ?_;rfl
 | false =>
  simp only[go_sem];refine aA k2 rfl ?_;cases jW n<;>cases a<;>cases b
  all_goals
   simp only[go_sem,g1,g2];refine aQ (.inr rfl) rfl ?_;rfl
theorem qj {C:Ctx} (y:∀ n:Nat,aG C 65 [.int .u8 n] .nil (aF (.bool (fA n)))) (A:∀ n:Nat,aG C 64 [.int .u8 n] .nil (aF (.bool (hL n)))) (s:List UInt8) :
  AK.wp C (aV VK.res (aF (.bool (isName s)))) (PF.args [.str s]) .nil:=by
 simp only[go_sem,AK,qk,ql,VK];cases s with
 | nil =>have x:decide (((0:Nat):Int)<1)=true:=rfl;simp only[go_sem,xP,a9F,x];refine aQ (.inr rfl) rfl ?_;rfl
 | cons c t =>
  have B:(c::t)[0]?=some c:=rfl;have i:isName (c::t)=(decide ((c::t).length≤16)&&fA c.toNat&&(c::t).all fun c=>hL c.toNat):=rfl;have e:¬ (((c::t).length:Nat):Int)<1:=by simp only[a8D]; omega
  generalize c::t=s at *
  by_cases w:s.length≤16
  ·have l:¬ (s.length:Int)>16:=Om;rw[decide_eq_true w,a6W] at i;have k1:=y c.toNat;simp only[go_sem,e,l,B,a7Y];refine aA k1 rfl ?_;cases u:fA c.toNat with
   | false =>simp only[go_sem,a7A,xP];refine aQ (.inr rfl) rfl ?_;rw[bO,i,u,a6R]
   | true =>
    rw[u,a6W] at i;simp only[go_sem,a6P,qn];refine wp_loop (α:=Nat) (fun k=>((PF.nil.set 0 (.str s)).set 3 (.int .i64 k))) (fun _=>.nil) (fun k=>k≤s.length∧(s.take k).all (fun c=>hL c.toNat)=true) (fun k=>s.length-k) 0 ⟨a6Q _,rfl⟩ Lq a_ ?_;rintro k ⟨E,p⟩;simp only[go_sem,qi,qp];by_cases hlt:k<s.length
    ·have d:(k:Int)<(s.length:Nat):=Om;have q:s[k]?=some s[k]:=a6Y hlt;have k2:=A (s[k]).toNat;simp only[go_sem,d,qq,q,a7Y];refine aA k2 rfl ?_;cases hi:hL (s[k]).toNat with
     | false =>simp only[go_sem,a7A,qr];refine aQ (.inr rfl) rfl ?_;rw[bO,i,oY hlt hi]
     | true =>simp only[go_sem,a6P,qt,wZz k];exact aD (k+1) ⟨hlt,by simpa using oX hlt p hi⟩ Om Lq b_
    ·have d:¬ (k:Int)<(s.length:Nat):=Om;have:k=s.length:=Om;subst this;rw[a7M] at p;simp only[go_sem,d,qu];refine aQ (.inr rfl) rfl ?_;rw[bO,i,p]
  ·have l:(s.length:Int)>16:=Om;rw[decide_eq_false w,a6R,a6R] at i;simp only[go_sem,e,l,xP];refine aQ (.inr rfl) rfl ?_;rw[bO,i]
def GQ (k m:Int):Bool:=within k 1 6&&(within m 0 4&&decide (k+m≤8))
theorem Rs {C:Ctx} (k m:Int):nL.wp C (aV BP.res (aF (.bool (GQ k m)))) (PF.args [.int .i64 k,.int .i64 m]) .nil:=by
 unfold GQ within;by_cases c:1≤k
 ·by_cases d:k≤6
  ·by_cases e:0≤m
   ·by_cases i:m≤4
    ·have l:IntKind.i64.wrap (k+m)=k+m:=wrap_i64 Om Om;simp only[go_sem,nL,uH,uI,BP,ge_iff_le,c,d,e,i,l];refine aQ (.inr rfl) rfl ?_;simp[bO,c,d,e,i]
    ·simp only[go_sem,nL,uH,uI,BP,ge_iff_le,c,d,e,i];refine aQ (.inr rfl) rfl ?_;simp[bO,c,d,e,i]
   ·simp only[go_sem,nL,uH,uI,BP,ge_iff_le,c,d,e];refine aQ (.inr rfl) rfl ?_;simp[bO,c,d,e]
  ·simp only[go_sem,nL,uH,uI,BP,ge_iff_le,c,d];refine aQ (.inr rfl) rfl ?_;simp[bO,c,d]
 ·simp only[go_sem,nL,uH,uI,BP,ge_iff_le,c];refine aQ (.inr rfl) rfl ?_;simp[bO,c]
def Fn:Rg:=[iA 1 (.box true (Tm 0)),iT 2 false]
def Fo:Rg:=[iO 6 3 1,iK 7 52 6,iM 5 7,iE 8 5 0,iE 9 5 1,iA 3 (.alloc [zB,.aB,.aB]),iS 3 3 8,iM 4 9]
def CA:Rg:=[iM 10 4,iC 11 .eql 10 0,iM 12 11,gF 13 0 3 12 true,gL 14 13 12 true,iG 15 (.un .not (Tm 14)) 12 true,iP 16 12 15,iM 17 16,gF 18 1 3 17 true,gL 19 18 17 true,gN 20 19 17 true,gC 21 .leq 20 1 17 true,iP 22 17 21,iM 23 22,gF 24 2 3 23 true,gL 25 24 23 true,gN 26 25 23 true,gC 27 .leq 26 1 23 true,iP 28 23 27,iM 2 28]
def ET:aC:=(sq Fn (sq Fo (sq CA .ret)))
def aCD:List Nat:=[1]
def rg:aS:=⟨1,29,ET,[.tmp 2]⟩
def rj:Rg:=[iT 4 false]
def rk:Rg:=[iM 6 0,iN 7 6,iM 8 1,iB 9 .neq 7 8]
def rp:Rg:=[iT 4 false]
def rt:Rg:=[iI 5 0]
def ru:Rg:=[iM 10 5,iM 11 1,iB 12 .lss 10 11]
def rv:Rg:=[iM 15 0,iM 16 5,iX 17 3 15 16,iO 18 3 17,iK 19 74 18,iA 20 (.un .not (Tm 19))]
def rx:Rg:=[iT 4 false]
def ry:Rg:=[iM 13 5,iC 14 .add 13 1,iM 5 14]
def rh:aC:=(.seq (sq ru (.cond (Tm 12) .skip (.exit 0))) (.seq (.block 1 (sq rv (.cond (Tm 20) (sq rx .ret) .skip))) (.region ry)))
def rz:Rg:=[iT 4 true]
def AN:aC:=(sq rj (.seq (sq rk (.cond (Tm 9) (sq rp .ret) .skip)) (.seq (sq rt (.block 0 (.loop rh))) (sq rz .ret))))
def aqB:List Nat:=[]
def VM:aS:=⟨2,21,AN,[.tmp 4]⟩
def agZ:Rg:=[iA 1 (.box true (Tm 0)),iT 2 false]
def ahA:Rg:=[iF 12 1 1,iL 13 12,iN 14 13,iM 3 14]
def ahB:Rg:=[iM 15 3,iC 16 .lss 15 1,iM 17 16,gM 18 3 17 false,gC 19 .gtr 18 4 17 false,iQ 20 17 19,iM 21 20,gF 22 1 1 21 false,gL 23 22 21 false,gM 24 3 21 false,gK2 25 75 23 24 21 false,iG 26 (.un .not (Tm 25)) 21 false,iQ 27 21 26,iM 28 27,gF 29 3 1 28 false,gL 30 29 28 false,gM 31 3 28 false,gK2 32 75 30 31 28 false,iG 33 (.un .not (Tm 32)) 28 false,iQ 34 28 33,iM 35 34,gF 36 2 1 35 false,gL 37 36 35 false,gN 38 37 35 false,gM 39 3 35 false,gB 40 .neq 38 39 35 false,iQ 41 35 40]
def yQ:Rg:=[iT 2 false]
def ahC:Rg:=[iI 4 0]
def ahD:Rg:=[iM 42 4,iM 43 3,iB 44 .lss 42 43]
def ahE:Rg:=[iF 47 2 1,iL 48 47,iM 49 4,iX 50 1 48 49,iL 51 50,iM 52 3,iK2 53 75 51 52,iA 54 (.un .not (Tm 53)),iM 55 54,gF 56 2 1 55 false,gL 57 56 55 false,gM 58 4 55 false,iG 59 (.a5Q 1 (Tm 57) (Tm 58)) 55 false,gL 60 59 55 false,gM 61 4 55 false,iG 62 (.a5Q 3 (Tm 60) (Tm 61)) 55 false,gO 63 3 62 55 false,gK 64 54 63 55 false,gC 65 .neq 64 0 55 false,iQ 66 55 65]
def wx:Rg:=[iT 2 false]
def ahF:Rg:=[iM 45 4,iC 46 .add 45 1,iM 4 46]
def agX:aC:=(.seq (sq ahD (.cond (Tm 44) .skip (.exit 0))) (.seq (.block 1 (sq ahE (.cond (Tm 66) (sq wx .ret) .skip))) (.region ahF)))
def Ul:Rg:=[iF 68 1 1,iL 69 68,iK 70 55 69,iM 67 70,iE 71 67 0,iE 72 67 1,iA 5 (.alloc [zB,.aB,.aB]),iS 3 5 71,iM 6 72]
def dk:Rd:=[(iM 73 6,false),(iC 74 .neq 73 0,false),(iM 75 74,false),(gO 76 3 5 75 false,true),(iG 77 (.call 47 [(Ci 1)]) 75 false,true),(gK2 78 53 76 77 75 false,true),(iG 79 (.un .not (Tm 78)) 75 false,false),(iQ 80 75 79,false)]
def dl:Rg:=[iT 2 false]
def Um:Rg:=[iM 81 3,iA 82 (.a5H 1 1 [zB] (Tm 81) (Tm 81)),iM 7 82]
def Un:Rg:=[iI 8 0]
def Uo:Rg:=[iM 83 8,iM 84 3,iB 85 .lss 83 84]
def Uq:Rg:=[iI 9 0]
def Ur:Rg:=[iM 88 9,iM 89 3,iB 90 .lss 88 89]
def dp:Rg:=[iM 93 7,iM 94 9,iM 95 7,iM 96 9,iX 97 1 95 96,iL 98 97,iM 99 98,gF 100 3 1 99 false,gL 101 100 99 false,gM 102 9 99 false,iG 103 (.a5Q 3 (Tm 101) (Tm 102)) 99 false,gO 104 3 103 99 false,gK 105 54 104 99 false,gC 106 .gtr 105 0 99 false,iQ 107 99 106,iX 108 1 93 94,iS 1 108 107]
def dt:Rg:=[iI 10 0]
def Us:Rg:=[iM 109 10,iM 110 3,iB 111 .lss 109 110]
def du:Rg:=[iM 114 7,iM 115 9,iM 116 7,iM 117 9,iX 118 1 116 117,iL 119 118,iM 120 119,gF 121 2 1 120 false,gL 122 121 120 false,gM 123 9 120 false,iG 124 (.a5Q 1 (Tm 122) (Tm 123)) 120 false,gL 125 124 120 false,gM 126 10 120 false,iG 127 (.a5Q 3 (Tm 125) (Tm 126)) 120 false,gO 128 3 127 120 false,gK 129 54 128 120 false,gC 130 .gtr 129 0 120 false,gM 131 130 120 false,gM 132 7 131 true,gM 133 10 131 true,iG 134 (.a5Q 1 (Tm 132) (Tm 133)) 131 true,gL 135 134 131 true,iG 136 (.pick (Tm 131) (Tm 135) (.const zB)) 120 false,iQ 137 120 136,iX 138 1 114 115,iS 1 138 137]
def MK:Rg:=[iM 112 10,iC 113 .add 112 1,iM 10 113]
def MJ:aC:=(.seq (sq Us (.cond (Tm 111) .skip (.exit 6))) (.seq (.block 7 (.region du)) (.region MK)))
def dw:Rg:=[iM 91 9,iC 92 .add 91 1,iM 9 92]
def dh:aC:=(.seq (sq Ur (.cond (Tm 90) .skip (.exit 4))) (.seq (.block 5 (sq dp (sq dt (.block 6 (.loop MJ))))) (.region dw)))
def Uu:Rg:=[iM 86 8,iC 87 .add 86 1,iM 8 87]
def di:aC:=(.seq (sq Uo (.cond (Tm 85) .skip (.exit 2))) (.seq (.block 3 (sq Uq (.block 4 (.loop dh)))) (.region Uu)))
def Uv:Rg:=[iI 11 0]
def Uw:Rg:=[iM 139 11,iM 140 3,iB 141 .lss 139 140]
def dx:Rg:=[iM 144 7,iM 145 11,iX 146 1 144 145,iL 147 146,iA 148 (.un .not (Tm 147))]
def Ux:Rg:=[iT 2 false]
def Uy:Rg:=[iM 142 11,iC 143 .add 142 1,iM 11 143]
def dj:aC:=(.seq (sq Uw (.cond (Tm 141) .skip (.exit 8))) (.seq (.block 9 (sq dx (.cond (Tm 148) (sq Ux .ret) .skip))) (.region Uy)))
def dy:Rg:=[iT 2 true]
def TT:aC:=(sq agZ (sq ahA (.seq (sq ahB (.cond (Tm 41) (sq yQ .ret) .skip)) (.seq (sq ahC (.block 0 (.loop agX))) (.seq (sq Ul (dq dk (.cond (Tm 80) (sq dl .ret) .skip))) (sq Um (.seq (sq Un (.block 2 (.loop di))) (.seq (sq Uv (.block 8 (.loop dj))) (sq dy .ret)))))))))
def aTH:List Nat:=[1]
def apZ:aS:=⟨1,149,TT,[.tmp 2]⟩
def ahI:Rg:=[iT 4 false]
def ahJ:Rg:=[iM 6 0,iM 7 1,iA 8 (.a5U true (Tm 7) (Ci 1)),iK2 9 75 6 8,iA 10 (.un .not (Tm 9))]
def ahK:Rg:=[iT 4 false]
def ahL:Rg:=[iI 5 0]
def ahM:Rg:=[iM 11 5,iM 12 0,iN 13 12,iB 14 .lss 11 13]
def ahN:Rg:=[iM 17 0,iM 18 5,iX 19 3 17 18,iO 20 3 19,iK 21 54 20,iC 22 .eql 21 0]
def ahO:Rg:=[iT 4 false]
def ahP:Rg:=[iM 15 5,iC 16 .add 15 1,iM 5 16]
def ahG:aC:=(.seq (sq ahM (.cond (Tm 14) .skip (.exit 0))) (.seq (.block 1 (sq ahN (.cond (Tm 22) (sq ahO .ret) .skip))) (.region ahP)))
def ahQ:Rg:=[iT 4 true]
def TU:aC:=(sq ahI (.seq (sq ahJ (.cond (Tm 10) (sq ahK .ret) .skip)) (.seq (sq ahL (.block 0 (.loop ahG))) (sq ahQ .ret))))
def aTI:List Nat:=[]
def aqA:aS:=⟨2,23,TU,[.tmp 4]⟩
def NF:Rg:=[iT 6 false]
def NG:Rg:=[iM 7 0,iM 8 1,iB 9 .geq 7 8,iM 10 9,gM 11 0 10 true,gM 12 2 10 true,gB 13 .leq 11 12 10 true,iP 14 10 13,iM 6 14]
def tL:aC:=(sq NF (sq NG .ret))
def aqC:List Nat:=[]
def GG:aS:=⟨3,15,tL,[.tmp 6]⟩
def Fk:Rg:=[iT 12 false]
def Fl:Rg:=[iM 13 0,iC 14 .leq 13 4,iM 15 14,gM 16 1 15 true,gC 17 .leq 16 4 15 true,iP 18 15 17,iM 19 18,gM 20 2 19 true,gC 21 .leq 20 40 19 true,iP 22 19 21,iM 23 22,gM 24 3 23 true,gC 25 .leq 24 24 23 true,iP 26 23 25,iM 27 26,gM 28 4 27 true,gC 29 .leq 28 4 27 true,iP 30 27 29,iM 31 30,gM 32 5 31 true,gC 33 .leq 32 12 31 true,iP 34 31 33,iM 12 34]
def ES:aC:=(sq Fk (sq Fl .ret))
def aCC:List Nat:=[]
def re:aS:=⟨6,35,ES,[.tmp 12]⟩
def YG:Rg:=[iA 7 (.box true (Tm 3)),iT 8 false]
def YH:Rg:=[iM 10 0,iM 11 1,iK2 12 61 10 11,iA 13 (.un .not (Tm 12)),iM 14 13,gM 15 2 14 false,gM 16 0 14 false,gM 17 0 14 false,gM 18 1 14 false,gB 19 .add 17 18 14 false,iG 20 (.call 76 [(Tm 15),(Tm 16),(Tm 19)]) 14 false,iG 21 (.un .not (Tm 20)) 14 false,iQ 22 14 21,iM 23 22,iG 24 (.idxA 5 1 (Tm 7) (Ci 0)) 23 false,gL 25 24 23 false,gC 26 .neq 25 0 23 false,iQ 27 23 26]
def vE:Rg:=[iT 8 false]
def YI:Rg:=[iI 9 1]
def YJ:Rg:=[iM 28 9,iC 29 .lss 28 5]
def ER:Rg:=[iM 32 9,iA 33 (.idxA 5 1 (Tm 7) (Tm 32)),iL 34 33,iA 35 (.call 76 [(Tm 34),(Ci 0),(Ci 8)]),iA 36 (.un .not (Tm 35))]
def YK:Rg:=[iT 8 false]
def YL:Rg:=[iM 30 9,iC 31 .add 30 1,iM 9 31]
def YE:aC:=(.seq (sq YJ (.cond (Tm 29) .skip (.exit 0))) (.seq (.block 1 (sq ER (.cond (Tm 36) (sq YK .ret) .skip))) (.region YL)))
def YM:Rg:=[iT 8 true]
def wJ:aC:=(sq YG (.seq (sq YH (.cond (Tm 27) (sq vE .ret) .skip)) (.seq (sq YI (.block 0 (.loop YE))) (sq YM .ret))))
def W5:List Nat:=[7]
def ML:aS:=⟨4,37,wJ,[.tmp 8]⟩
def agV:Rg:=[iA 6 (.box true (Tm 2)),iA 7 (.box true (Tm 3)),iT 8 false]
def agW:Rd:=[(iM 9 1,false),(iM 10 0,false),(iK2 11 66 9 10,true),(iM 12 11,false),(gO 13 3 6 12 true,false),(gK 14 74 13 12 true,true),(iP 15 12 14,false),(iM 16 15,false),(iG 17 (.call 47 [(Ci 1)]) 16 true,true),(gO 18 3 6 16 true,true),(gK2 19 49 17 18 16 true,true),(iG 20 (.un .not (Tm 19)) 16 true,false),(iP 21 16 20,false),(iM 22 21,false),(gO 23 3 7 22 true,false),(gK 24 74 23 22 true,true),(iP 25 22 24,false),(iM 8 25,false)]
def TR:aC:=(sq agV (dq agW .ret))
def aTG:List Nat:=[6,7]
def apY:aS:=⟨4,26,TR,[.tmp 8]⟩
def Fd:Rg:=[iI 4 0]
def Fe:Rg:=[iI 5 0]
def Ff:Rg:=[iM 6 5,iM 7 0,iN 8 7,iB 9 .lss 6 8]
def TS:Rg:=[iM 12 0,iM 13 5,iX 14 1 12 13,iL 15 14,iM 16 1,iB 17 .eql 15 16]
def Fg:Rg:=[iM 18 5,iM 4 18]
def Fh:Rg:=[iM 10 5,iC 11 .add 10 1,iM 5 11]
def Fb:aC:=(.seq (sq Ff (.cond (Tm 9) .skip (.exit 0))) (.seq (.block 1 (sq TS (.cond (Tm 17) (sq Fg .ret) .skip))) (.region Fh)))
def Fi:Rg:=[iI 4 (-1)]
def EQ:aC:=(sq Fd (.seq (sq Fe (.block 0 (.loop Fb))) (sq Fi .ret)))
def aCA:List Nat:=[]
def rc:aS:=⟨2,19,EQ,[.tmp 4]⟩
def Fp:Rg:=[iA 1 (.box true (Tm 0)),iT 2 false]
def Fq:Rg:=[iF 22 0 1,iL 23 22,iA 24 (.call 76 [(Tm 23),(Ci 1),(Ci 4)]),iA 25 (.un .not (Tm 24)),iM 26 25,gF 27 1 1 26 false,gL 28 27 26 false,gN 29 28 26 false,gF 30 2 1 26 false,gL 31 30 26 false,gN 32 31 26 false,gF 33 3 1 26 false,gL 34 33 26 false,gN 35 34 26 false,gF 36 4 1 26 false,gL 37 36 26 false,gN 38 37 26 false,gF 39 5 1 26 false,gL 40 39 26 false,gN 41 40 26 false,gF 42 6 1 26 false,gL 43 42 26 false,gN 44 43 26 false,iG 45 (.call 73 [(Tm 29),(Tm 32),(Tm 35),(Tm 38),(Tm 41),(Tm 44)]) 26 false,iG 46 (.un .not (Tm 45)) 26 false,iQ 47 26 46,iM 48 47,gF 49 3 1 48 false,gL 50 49 48 false,gN 51 50 48 false,gC 52 .eql 51 0 48 false,iQ 53 48 52]
def CB:Rg:=[iT 2 false]
def Fr:Rg:=[iZ 3,iZ 4,iZ 5,iZ 6,iZ 7]
def Fu:Rg:=[iT 8 true]
def Fv:Rg:=[iI 9 0]
def Fw:Rg:=[iM 54 9,iF 55 1 1,iL 56 55,iN 57 56,iB 58 .lss 54 57,iM 59 58,gM 60 8 59 true,iP 61 59 60]
def Fy:Rg:=[iM 65 3,iF 66 1 1,iL 67 66,iM 68 9,iX 69 4 67 68,iF 70 0 69,iL 71 70,iK2 72 70 65 71,iM 64 72,iE 73 64 0,iE 74 64 1,iM 3 73,iM 8 74]
def TV:Rg:=[iM 75 8,iM 76 75,gF 77 1 1 76 true,gL 78 77 76 true,gM 79 9 76 true,iG 80 (.a5Q 4 (Tm 78) (Tm 79)) 76 true,gO 81 4 80 76 true,gK 82 68 81 76 true,iP 83 76 82,iM 8 83]
def TW:Rg:=[iM 62 9,iC 63 .add 62 1,iM 9 63]
def MM:aC:=(.seq (sq Fw (.cond (Tm 61) .skip (.exit 0))) (.seq (.block 1 (sq Fy (.region TV))) (.region TW)))
def r9:Rg:=[iI 10 0]
def sa:Rg:=[iM 84 10,iF 85 2 1,iL 86 85,iN 87 86,iB 88 .lss 84 87,iM 89 88,gM 90 8 89 true,iP 91 89 90]
def sb:Rg:=[iF 94 2 1,iL 95 94,iM 96 10,iX 97 4 95 96,iO 98 4 97,iA 11 (.alloc [(.str []),zI,zI,zI]),iS 4 11 98]
def sd:Rg:=[iM 100 4,iF 101 0 11,iL 102 101,iK2 103 70 100 102,iM 99 103,iE 104 99 0,iE 105 99 1,iM 4 104,iM 8 105]
def MP:Rg:=[iM 106 8,iM 107 106,gF 108 1 11 107 true,gL 109 108 107 true,iG 110 (.call 76 [(Tm 109),(Ci 1),(Ci 16)]) 107 true,iP 111 107 110,iM 112 111,gF 113 2 11 112 true,gL 114 113 112 true,iG 115 (.call 76 [(Tm 114),(Ci 1),(Ci 64)]) 112 true,iP 116 112 115,iM 117 116,gF 118 3 11 117 true,gL 119 118 117 true,gF 120 1 1 117 true,gL 121 120 117 true,gN 122 121 117 true,gC 123 .sub 122 1 117 true,iG 124 (.call 76 [(Tm 119),(Ci 0),(Tm 123)]) 117 true,iP 125 117 124,iM 8 125]
def tI:Rg:=[iM 92 10,iC 93 .add 92 1,iM 10 93]
def MN:aC:=(.seq (sq sa (.cond (Tm 91) .skip (.exit 2))) (.seq (.block 3 (sq sb (sq sd (.region MP)))) (.region tI)))
def se:Rg:=[iF 126 3 1,iL 127 126,iA 128 (.a5Q 7 (Tm 127) (Ci 0)),iO 129 7 128,iA 12 (.alloc [(.str []),zI,zI,zI,zB,.aB,.aB]),iS 7 12 129]
def MQ:Rg:=[iM 130 8,iM 131 130,gF 132 0 12 131 true,gL 133 132 131 true,iG 134 (.bin .eql (Tm 133) (.const (.str []))) 131 true,iP 135 131 134,iM 136 135,gF 137 1 12 136 true,gL 138 137 136 true,gC 139 .eql 138 0 136 true,iP 140 136 139,iM 141 140,gF 142 2 12 141 true,gL 143 142 141 true,gC 144 .eql 143 (-1) 141 true,iP 145 141 144,iM 146 145,gF 147 3 12 146 true,gL 148 147 146 true,gC 149 .eql 148 0 146 true,iP 150 146 149,iM 151 150,gF 152 4 12 151 true,gO 153 3 152 151 true,gK 154 56 153 151 true,iP 155 151 154,iM 156 155,gF 157 4 12 156 true,gO 158 3 157 156 true,gK 159 54 158 156 true,gC 160 .eql 159 0 156 true,iP 161 156 160,iM 8 161]
def MR:Rg:=[iI 13 1]
def sf:Rg:=[iM 162 13,iF 163 3 1,iL 164 163,iN 165 164,iB 166 .lss 162 165,iM 167 166,gM 168 8 167 true,iP 169 167 168]
def sg:Rg:=[iF 172 3 1,iL 173 172,iM 174 13,iX 175 7 173 174,iO 176 7 175,iA 14 (.alloc [(.str []),zI,zI,zI,zB,.aB,.aB]),iS 7 14 176]
def sj:Rg:=[iM 178 5,iF 179 0 14,iL 180 179,iK2 181 70 178 180,iM 177 181,iE 182 177 0,iE 183 177 1,iM 5 182,iM 8 183]
def MS:Rd:=[(iM 184 8,false),(iM 185 184,false),(gF 186 1 14 185 true,false),(gL 187 186 185 true,false),(iG 188 (.call 76 [(Tm 187),(Ci 1),(Ci 4)]) 185 true,true),(iP 189 185 188,false),(iM 190 189,false),(gF 191 2 14 190 true,false),(gL 192 191 190 true,false),(gM 193 13 190 true,false),(gC 194 .sub 193 1 190 true,false),(iG 195 (.call 76 [(Tm 192),(Ci 0),(Tm 194)]) 190 true,true),(iP 196 190 195,false),(iM 197 196,false),(gF 198 3 1 197 true,false),(gL 199 198 197 true,false),(gF 200 2 14 197 true,false),(gL 201 200 197 true,false),(iG 202 (.a5Q 7 (Tm 199) (Tm 201)) 197 true,false),(gF 203 1 202 197 true,false),(gL 204 203 197 true,false),(gF 205 1 14 197 true,false),(gL 206 205 197 true,false),(gC 207 .sub 206 1 197 true,false),(gB 208 .eql 204 207 197 true,false),(iP 209 197 208,false),(iM 210 209,false),(gF 211 3 14 210 true,false),(gL 212 211 210 true,false),(iG 213 (.call 76 [(Tm 212),(Ci 1),(Ci 64)]) 210 true,true),(iP 214 210 213,false),(iM 215 214,false),(gF 216 4 14 215 true,false),(gO 217 3 216 215 true,false),(gK 218 74 217 215 true,true),(iP 219 215 218,false),(iM 8 219,false)]
def nN:Rg:=[iM 170 13,iC 171 .add 170 1,iM 13 171]
def xR:aC:=(.seq (sq sf (.cond (Tm 169) .skip (.exit 4))) (.seq (.block 5 (sq sg (sq sj (.draw MS)))) (.region nN)))
def MT:Rg:=[iI 15 0]
def sk:Rg:=[iM 220 15,iF 221 4 1,iL 222 221,iN 223 222,iB 224 .lss 220 223,iM 225 224,gM 226 8 225 true,iP 227 225 226]
def sm:Rg:=[iF 230 4 1,iL 231 230,iM 232 15,iX 233 3 231 232,iO 234 3 233,iA 16 (.alloc [(.str []),zI,zI]),iS 3 16 234]
def sn:Rg:=[iM 236 5,iF 237 0 16,iL 238 237,iK2 239 70 236 238,iM 235 239,iE 240 235 0,iE 241 235 1,iM 5 240,iM 8 241]
def MU:Rg:=[iM 242 8,iM 243 242,gF 244 1 16 243 true,gL 245 244 243 true,gF 246 2 1 243 true,gL 247 246 243 true,gN 248 247 243 true,gC 249 .sub 248 1 243 true,iG 250 (.call 76 [(Tm 245),(Ci 0),(Tm 249)]) 243 true,iP 251 243 250,iM 252 251,gF 253 2 16 252 true,gL 254 253 252 true,gF 255 3 1 252 true,gL 256 255 252 true,gN 257 256 252 true,gC 258 .sub 257 1 252 true,iG 259 (.call 76 [(Tm 254),(Ci 0),(Tm 258)]) 252 true,iP 260 252 259,iM 261 260,gF 262 3 1 261 true,gL 263 262 261 true,gF 264 2 16 261 true,gL 265 264 261 true,iG 266 (.a5Q 7 (Tm 263) (Tm 265)) 261 true,gF 267 1 266 261 true,gL 268 267 261 true,gC 269 .eql 268 4 261 true,iP 270 261 269,iM 8 270]
def tJ:Rg:=[iM 228 15,iC 229 .add 228 1,iM 15 229]
def xS:aC:=(.seq (sq sk (.cond (Tm 227) .skip (.exit 6))) (.seq (.block 7 (sq sm (sq sn (.region MU)))) (.region tJ)))
def MV:Rg:=[iI 17 0]
def so:Rg:=[iM 271 17,iF 272 5 1,iL 273 272,iN 274 273,iB 275 .lss 271 274,iM 276 275,gM 277 8 276 true,iP 278 276 277]
def sr:Rg:=[iF 281 5 1,iL 282 281,iM 283 17,iX 284 17 282 283,iO 285 17 284,iA 18 (.alloc [(.str []),zI,zI,zI,zI,zI,zI,zI,zI,.aB,.aB,zB,.aB,.aB,zB,.aB,.aB]),iS 17 18 285]
def su:Rg:=[iM 287 6,iF 288 0 18,iL 289 288,iK2 290 70 287 289,iM 286 290,iE 291 286 0,iE 292 286 1,iM 6 291,iM 8 292]
def MW:Rg:=[iM 293 8,iM 294 293,gF 295 1 18 294 true,gL 296 295 294 true,gF 297 2 18 294 true,gL 298 297 294 true,gF 299 3 18 294 true,gL 300 299 294 true,gF 301 4 18 294 true,gO 302 5 301 294 true,iG 303 (.call 72 [(Tm 296),(Tm 298),(Tm 300),(Tm 302)]) 294 true,iP 304 294 303,iM 305 304,gF 306 2 18 305 true,gL 307 306 305 true,gF 308 10 18 305 true,gL 309 308 305 true,gF 310 11 18 305 true,gO 311 3 310 305 true,gF 312 14 18 305 true,gO 313 3 312 305 true,iG 314 (.call 69 [(Tm 307),(Tm 309),(Tm 311),(Tm 313)]) 305 true,iP 315 305 314,iM 316 315,gF 317 9 18 316 true,gL 318 317 316 true,gN 319 318 316 true,gC 320 .gtr 319 0 316 true,iP 321 316 320,iM 8 321]
def tK:Rg:=[iI 19 0]
def sv:Rg:=[iM 322 19,iF 323 9 18,iL 324 323,iN 325 324,iB 326 .lss 322 325,iM 327 326,gM 328 8 327 true,iP 329 327 328]
def sw:Rd:=[(iF 332 9 18,false),(iL 333 332,false),(iM 334 19,false),(iX 335 1 333 334,false),(iL 336 335,false),(iF 337 2 1,false),(iL 338 337,false),(iN 339 338,false),(iC 340 .sub 339 1,false),(iA 341 (.call 76 [(Tm 336),(Ci 0),(Tm 340)]),true),(iM 8 341,false)]
def sx:Rg:=[iI 20 0]
def sy:Rg:=[iM 342 20,iM 343 19,iB 344 .lss 342 343]
def MX:Rd:=[(iM 347 8,false),(iM 348 347,false),(gF 349 9 18 348 true,false),(gL 350 349 348 true,false),(gM 351 20 348 true,false),(iG 352 (.a5Q 1 (Tm 350) (Tm 351)) 348 true,false),(gL 353 352 348 true,false),(gF 354 9 18 348 true,false),(gL 355 354 348 true,false),(gM 356 19 348 true,false),(iG 357 (.a5Q 1 (Tm 355) (Tm 356)) 348 true,false),(gL 358 357 348 true,false),(gB 359 .neq 353 358 348 true,false),(iP 360 348 359,false),(iM 8 360,false)]
def MY:Rg:=[iM 345 20,iC 346 .add 345 1,iM 20 346]
def MO:aC:=(.seq (sq sy (.cond (Tm 344) .skip (.exit 12))) (.seq (.block 13 (.draw MX)) (.region MY)))
def s7:Rg:=[iM 330 19,iC 331 .add 330 1,iM 19 331]
def xT:aC:=(.seq (sq sv (.cond (Tm 329) .skip (.exit 10))) (.seq (.block 11 (dq sw (sq sx (.block 12 (.loop MO))))) (.region s7)))
def MZ:Rg:=[iM 279 17,iC 280 .add 279 1,iM 17 280]
def xU:aC:=(.seq (sq so (.cond (Tm 278) .skip (.exit 8))) (.seq (.block 9 (sq sr (sq su (sq MW (sq tK (.block 10 (.loop xT))))))) (.region MZ)))
def NA:Rg:=[iI 21 0]
def s8:Rg:=[iM 361 21,iF 362 6 1,iL 363 362,iN 364 363,iB 365 .lss 361 364,iM 366 365,gM 367 8 366 true,iP 368 366 367]
def s9:Rg:=[iM 372 7,iF 373 6 1,iL 374 373,iM 375 21,iX 376 2 374 375,iF 377 0 376,iL 378 377,iK2 379 70 372 378,iM 371 379,iE 380 371 0,iE 381 371 1,iM 7 380,iM 8 381]
def NC:Rd:=[(iM 382 8,false),(iM 383 382,false),(gF 384 6 1 383 true,false),(gL 385 384 383 true,false),(gM 386 21 383 true,false),(iG 387 (.a5Q 2 (Tm 385) (Tm 386)) 383 true,false),(gF 388 1 387 383 true,false),(gL 389 388 383 true,false),(gF 390 5 1 383 true,false),(gL 391 390 383 true,false),(gN 392 391 383 true,false),(gC 393 .sub 392 1 383 true,false),(iG 394 (.call 76 [(Tm 389),(Ci 0),(Tm 393)]) 383 true,true),(iP 395 383 394,false),(iM 8 395,false)]
def ND:Rg:=[iM 369 21,iC 370 .add 369 1,iM 21 370]
def xV:aC:=(.seq (sq s8 (.cond (Tm 368) .skip (.exit 14))) (.seq (.block 15 (sq s9 (.draw NC))) (.region ND)))
def NE:Rg:=[iM 396 8,iM 2 396]
def EU:aC:=(sq Fp (.seq (sq Fq (.cond (Tm 53) (sq CB .ret) .skip)) (sq Fr (sq Fu (.seq (sq Fv (.block 0 (.loop MM))) (.seq (sq r9 (.block 2 (.loop MN))) (sq se (sq MQ (.seq (sq MR (.block 4 (.loop xR))) (.seq (sq MT (.block 6 (.loop xS))) (.seq (sq MV (.block 8 (.loop xU))) (.seq (sq NA (.block 14 (.loop xV))) (sq NE .ret)))))))))))))
def aCH:List Nat:=[1]
def r8:aS:=⟨1,397,EU,[.tmp 2]⟩
def E9:Rg:=[iZ 4,iT 5 false]
def Fa:Rg:=[iM 6 0,iM 7 1,iA 8 (.a5F true 1 1 [(.str [])] [(0,(Tm 7))]),iA 9 (.append 1 16 (Tm 6) (Tm 8)),iM 10 1,iK 11 62 10,iM 12 11,gM 13 0 12 true,gM 14 1 12 true,gK2 15 71 13 14 12 true,gC 16 .lss 15 0 12 true,iP 17 12 16,iM 4 9,iM 5 17]
def EP:aC:=(sq E9 (sq Fa .ret))
def aBZ:List Nat:=[8]
def q9:aS:=⟨2,18,EP,[.tmp 4,.tmp 5]⟩
theorem ta {C:Ctx} (n lo hi:Int):tL.wp C (aV GG.res (aF (.bool (within n lo hi)))) (PF.args [.int .i64 n,.int .i64 lo,.int .i64 hi]) .nil:=by
 unfold within;by_cases h:lo≤n
 ·simp only[go_sem,tL,NF,NG,GG,ge_iff_le,h];refine aQ (.inr rfl) rfl ?_;simp[bO,h]
 ·simp only[go_sem,tL,NF,NG,GG,ge_iff_le,h];refine aQ (.inr rfl) rfl ?_;simp[bO,h]
def pJ (a b c d e f:Nat):Bool:=decide (a≤4)&&(decide (b≤4)&&(decide (c≤40)&&(decide (d≤24)&&(decide (e≤4)&&decide (f≤12)))))
theorem Fj {C:Ctx} (a b c d e f:Nat):ES.wp C (aV re.res (aF (.bool (pJ a b c d e f)))) (PF.args [.int .i64 a,.int .i64 b,.int .i64 c,.int .i64 d,.int .i64 e,.int .i64 f]) .nil:=by
 have g:∀ x k:Nat,decide ((x:Int)≤(k:Int))=decide (x≤k):=fun x k=>decide_eq_decide.2 Om;have i:=g a 4;have l:=g b 4;have p:=g c 40;have q:=g d 24;have h5:=g e 4;have u:=g f 12;simp only[Int.cast_ofNat_Int] at i l p q h5 u;unfold pJ;simp only[go_sem,ES,Fk,Fl,re,i];cases decide (a≤4) with
 | false =>simp only[go_sem];refine aQ (.inr rfl) rfl ?_;rfl
 | true =>
  simp only[go_sem,l];cases decide (b≤4) with
  | false =>simp only[go_sem];refine aQ (.inr rfl) rfl ?_;rfl
  | true =>
   simp only[go_sem,p];cases decide (c≤40) with
   | false =>simp only[go_sem];refine aQ (.inr rfl) rfl ?_;rfl
   | true =>
    simp only[go_sem,q];cases decide (d≤24) with
    | false =>simp only[go_sem];refine aQ (.inr rfl) rfl ?_;rfl
    | true =>
     simp only[go_sem,h5];cases decide (e≤4) with
     | false =>simp only[go_sem];refine aQ (.inr rfl) rfl ?_;rfl
     | true =>simp only[go_sem,u];refine aQ (.inr rfl) rfl ?_;rfl
structure NR (C:Ctx):Prop extends Gj C where
 sum:∀ l:List RF,(∀ x∈l,x.Ok)→l.length≤9223372036854775807→aG C 55 [frs l] .nil (aF (frV (pM (l.map RF.v))))
 inn:∀ n lo hi:Int,aG C 76 [.int .i64 n,.int .i64 lo,.int .i64 hi] .nil (aF (.bool (within n lo hi)))
 code:∀ k m:Int,aG C 61 [.int .i64 k,.int .i64 m] .nil (aF (.bool (GQ k m)))
def JT (k m q s0 s1 s2 s3 s4:Int):Bool:=GQ k m&&(within q k (k+m)&&(decide (s0=0)&&(within s1 0 8&&(within s2 0 8&&(within s3 0 8&&within s4 0 8)))))
theorem aQC (p:bT):RK p=JT p.k p.m p.a5X p.s0 p.s1 p.s2 p.s3 p.s4:=by
 unfold RK JT GQ;have:within p.s0 0 8=true∨p.s0≠0:=by
  by_cases h:p.s0=0
  ·rw[h]; exact .inl rfl
  ·exact .inr h
 simp only[List.all_cons,List.all_nil,a8V];rcases this with h | h
 ·rw[h];simp only[a6W,a9L]
 ·simp only[h,decide_false,a6R,a7S]
def spR (s1 s2 s3 s4:Int) (k:Nat):Int:=match k with
 | 1=>s1
 | 2=>s2
 | 3=>s3
 | _=>s4
theorem YF {C:Ctx} (L:NR C) (k m q s0 s1 s2 s3 s4:Int) :
  wJ.wp C (aV ML.res (aF (.bool (JT k m q s0 s1 s2 s3 s4)))) (PF.args [.int .i64 k,.int .i64 m,.int .i64 q,.agg [.int .i64 s0,.int .i64 s1,.int .i64 s2,.int .i64 s3,.int .i64 s4]]) .nil:=by
 obtain⟨X,p⟩:∃ X,JT k m q s0 s1 s2 s3 s4=X:=⟨_,rfl⟩;rw[p];unfold JT at p;simp only[go_sem,wJ,YG,YH,ML];refine aA (L.code k m) rfl ?_;cases E:GQ k m with
 | false =>rw[E,a6R] at p;simp only[go_sem,a7A,vE];refine aQ (.inr rfl) rfl ?_;rw[bO,p]
 | true =>
  rw[E,a6W] at p;have R:1≤k∧k≤6∧0≤m∧m≤4:=by simp only[GQ,a7E,within_iff] at E;omega
  have Q:IntKind.i64.wrap (k+m)=k+m:=wrap_i64 Om Om;simp only[go_sem,a6P,Q];refine aA (L.inn q k (k+m)) rfl ?_;cases J:within q k (k+m) with
  | false =>rw[J,a6R] at p;simp only[go_sem,a7A,vE];refine aQ (.inr rfl) rfl ?_;rw[bO,p]
  | true =>
   rw[J,a6W] at p;have B:(0:Int)<((5:Nat):Int):=by decide
   by_cases F:s0=0
   ·rw[decide_eq_true F,a6W] at p;simp only[go_sem,a6P,B,cA F,YI];refine wp_loop (α:=Nat) (fun j=>((PF.nil.set 7 (.bG [.int .i64 s0,.int .i64 s1,.int .i64 s2,.int .i64 s3,.int .i64 s4])).set 9 (.int .i64 j))) (fun _=>.nil) (fun j=>1≤j∧j≤5∧∀ i,1≤i→i<j→within (spR s1 s2 s3 s4 i) 0 8=true) (fun j=>5-j) 1 ⟨by decide,by decide,fun i E J=>by omega⟩ Lq a_ ?_;rintro j ⟨M,N,d⟩;simp only[go_sem,YE,YJ];by_cases hlt:j<5
    ·have l:(j:Int)<5:=Om;have x:((j:Nat):Int)<((5:Nat):Int):=Om;have w:=L.inn (spR s1 s2 s3 s4 j) 0 8;obtain⟨c,u⟩:∃ c,within (spR s1 s2 s3 s4 j) 0 8=c:=⟨_,rfl⟩;rw[u] at w;have y:c=true→∀ i,1≤i→i<j+1→within (spR s1 s2 s3 s4 i) 0 8=true:=fun A i a b=>by
      by_cases e:i=j
      ·rw[e,u,A]
      ·exact d i a Om
     have H:c=false→X=false:=by intro h;rw[h] at u;have A:j=1∨j=2∨j=3∨j=4:=Om;rw[← p];rcases A with rfl | rfl | rfl | rfl<;>(simp only[spR] at u; rw[u]; simp)
     have A:j=1∨j=2∨j=3∨j=4:=Om;cases c with
     | false =>
      have K:=H rfl;rcases A with rfl | rfl | rfl | rfl
      all_goals
       simp only[spR] at w;simp only[go_sem,l,ER,x];refine aA w rfl ?_;simp only[go_sem,a7A,YK];refine aQ (.inr rfl) rfl ?_;rw[bO,K]
     | true =>
      have O:=y rfl;rcases A with rfl | rfl | rfl | rfl
      all_goals
       simp only[spR] at w;simp only[go_sem,l,ER,x];refine aA w rfl ?_;simp only[go_sem,a6P,YL];refine aD (_+1) ⟨by omega,hlt,O⟩ Om Lq b_
    ·have l:¬ (j:Int)<5:=Om;have:j=5:=Om;subst this;simp only[go_sem,l,YM];refine aQ (.inr rfl) rfl ?_;have a1:=d 1 (by decide) (by decide);have a2:=d 2 (by decide) (by decide);have a3:=d 3 (by decide) (by decide);have a4:=d 4 (by decide) (by decide);simp only[spR] at a1 a2 a3 a4;rw[bO,← p,a1,a2,a3,a4];rfl
   ·rw[decide_eq_false F,a6R] at p;simp only[go_sem,a6P,B,dK F,vE];refine aQ (.inr rfl) rfl ?_;rw[bO,p]
theorem pY {x:RF} (h:cP x=true):x.valid:=by
 unfold cP oM at h;unfold RF.valid;cases c:cR (val x.num) (val x.den) with
 | true=>rfl
 | false =>rw[c] at h;simp at h
theorem Fm {C:Ctx} (L:NR C) (x:RF) (u:x.Ok):ET.wp C (aV rg.res (aF (.bool (cP x)))) (PF.args [.agg x.cells]) .nil:=by
 have q:=L.red x u;unfold cP;simp only[go_sem,ET,Fn,Fo,rg];refine aA q rfl ?_;cases l:oM x with
 | error e =>have i:=Qz l;simp only[go_sem,frV];refine aR fun o p=>?_;simp only[go_sem,CA,bF i];refine aQ (.inr rfl) rfl ?_;rfl
 | ok r =>
  obtain⟨n,a,b⟩:=r;have w:=lM a 1;have y:=lM b 1;have c:decide (((nl a:Nat):Int)≤1)=decide (cJ a≤32):=decide_eq_decide.2 Om;have d:decide (((nl b:Nat):Int)≤1)=decide (cJ b≤32):=decide_eq_decide.2 Om;simp only[go_sem,frV];refine aR fun o p=>?_;cases n with
  | true =>simp only[go_sem,CA,a6P];refine aQ (.inr rfl) rfl ?_;rfl
  | false =>
   simp only[go_sem,CA,a7A,a6K,bB,c];cases decide (cJ a≤32) with
   | false =>simp only[go_sem];refine aQ (.inr rfl) rfl ?_;rfl
   | true =>simp only[go_sem,a6K,bB,d];refine aQ (.inr rfl) rfl ?_;rfl
structure TY (C:Ctx):Prop extends NR C where
 small:∀ x:RF,x.Ok→aG C 74 [.agg x.cells] .nil (aF (.bool (cP x)))
 nums:∀ k m q s0 s1 s2 s3 s4:Int,aG C 72 [.int .i64 k,.int .i64 m,.int .i64 q,.agg [.int .i64 s0,.int .i64 s1,.int .i64 s2,.int .i64 s3,.int .i64 s4]] .nil (aF (.bool (JT k m q s0 s1 s2 s3 s4)))
 sizes:∀ a b c d e f:Nat,aG C 73 [.int .i64 a,.int .i64 b,.int .i64 c,.int .i64 d,.int .i64 e,.int .i64 f] .nil (aF (.bool (pJ a b c d e f)))
theorem i0 {l:List RF} {k:Nat} (h:k<l.length):(l.map RF.cells)[k]?=some (l[k]).cells:=by simp[h]
theorem ri {C:Ctx} (L:TY C) (l:List RF) (i:gY l) (n:Int):AN.wp C (aV VM.res (aF (.bool (decide ((l.length:Int)=n)&&l.all cP)))) (PF.args [frs l,.int .i64 n]) .nil:=by
 have p:=i.fits;unfold Fits at p;simp only[go_sem,AN,rj,rk,VM,a6K];by_cases h:(l.length:Int)=n
 ·rw[decide_eq_true h,a6W];subst h;simp only[go_sem,cA (show (l.length:Int)=(l.length:Nat) from rfl),rt];refine wp_loop (α:=Nat) (fun k=>(((PF.nil.set 0 (frs l)).set 1 (.int .i64 (l.length:Nat))).set 5 (.int .i64 k))) (fun _=>.nil) (fun k=>k≤l.length∧(l.take k).all cP=true) (fun k=>l.length-k) 0 ⟨a6Q _,rfl⟩ Lq a_ ?_;rintro k ⟨u,d⟩;simp only[go_sem,rh,ru];by_cases hlt:k<l.length
  ·have c:(k:Int)<(l.length:Nat):=Om;have q:=L.small l[k] (i.all _ (a6M hlt));simp only[go_sem,c,rv,i0 hlt];refine aA q rfl ?_;cases hi:cP l[k] with
   | false =>simp only[go_sem,a7A,rx];refine aQ (.inr rfl) rfl ?_;rw[bO,oY hlt hi]
   | true =>have e:=a7B.1 (oX hlt d hi);simp only[go_sem,a6P,ry,wZz k];exact aD (k+1) ⟨hlt,e⟩ Om Lq b_
  ·have c:¬ (k:Int)<(l.length:Nat):=Om;have:k=l.length:=Om;subst this;rw[a7M] at d;simp only[go_sem,c,rz];refine aQ (.inr rfl) rfl ?_;rw[bO,d]
 ·rw[decide_eq_false h,a6R];simp only[go_sem,dK h,rp];refine aQ (.inr rfl) rfl ?_;rfl
structure TZ (C:Ctx):Prop extends TY C where
 smalls:∀ l:List RF,gY l→∀ n:Int,aG C 75 [frs l,.int .i64 n] .nil (aF (.bool (decide ((l.length:Int)=n)&&l.all cP)))
theorem KW (x:RF):(qZ x==0)=!cH x:=by
 unfold qZ cH;by_cases h:val x.num=0
 ·simp[h]
 ·cases x.neg<;>simp[h]
def cr (l:List RF) (m:Int):Bool:=decide ((l.length:Int)=max m 1)&&l.all cP&&l.all cH
theorem ahH {C:Ctx} (L:TZ C) (l:List RF) (q:gY l) (m:Int):TU.wp C (aV aqA.res (aF (.bool (cr l m)))) (PF.args [frs l,.int .i64 m]) .nil:=by
 have w:=q.fits;unfold Fits at w;have y:=L.smalls l q (max m 1);unfold cr;simp only[go_sem,TU,ahI,ahJ,aqA,max_eq];refine aA y rfl ?_;cases h:(decide ((l.length:Int)=max m 1)&&l.all cP) with
 | false =>simp only[go_sem,a7A,ahK];refine aQ (.inr rfl) rfl ?_;rfl
 | true =>
  rw[a7E] at h;have d:=a7B.1 h.2;simp only[go_sem,a6P,ahL];refine wp_loop (α:=Nat) (fun k=>((PF.nil.set 0 (frs l)).set 5 (.int .i64 k))) (fun _=>.nil) (fun k=>k≤l.length∧(l.take k).all cH=true) (fun k=>l.length-k) 0 ⟨a6Q _,rfl⟩ Lq a_ ?_;rintro k ⟨A,i⟩;simp only[go_sem,ahG,ahM,a6K];by_cases hlt:k<l.length
  ·have c:(k:Int)<(l.length:Nat):=Om;have u:=a6M hlt;have x:=L.sign l[k] (q.all _ u) (pY (d _ u));have e:=KW l[k];simp only[go_sem,c,ahN,i0 hlt];refine aA x rfl ?_;cases hi:cH l[k] with
   | false =>rw[hi] at e;simp only[go_sem,e,a7A,ahO];refine aQ (.inr rfl) rfl ?_;rw[bO,oY hlt hi]
   | true =>rw[hi] at e;have p:=a7B.1 (oX hlt i hi);simp only[go_sem,e,a6P,ahP,wZz k];exact aD (k+1) ⟨hlt,p⟩ Om Lq b_
  ·have c:¬ (k:Int)<(l.length:Nat):=Om;have:k=l.length:=Om;subst this;rw[a7M] at i;simp only[go_sem,c,ahQ];refine aQ (.inr rfl) rfl ?_;rw[bO,i]
structure UA (C:Ctx):Prop extends TZ C where
 reps:∀ l:List RF,gY l→∀ m:Int,aG C 66 [frs l,.int .i64 m] .nil (aF (.bool (cr l m)))
def frD:List PV→RF
 | [.bool n,a,b]=>⟨n,iV a,iV b⟩
 | _=>⟨false,[],[]⟩
theorem yv (x:RF):frD x.cells=x:=by
 show (⟨x.neg,iV (aI x.num),iV (aI x.den)⟩:RF)=x;rw[eC,eC]
def zdS (r s:Bool):Spec:=fun name vs=>match name,vs with
 | 66,_=>some ([],fun _=>aF (.bool r))
 | 74,[.agg cs]=>some ([],fun _=>aF (.bool (cP (frD cs))))
 | 47,_=>some ([],fun _=>aF (.agg (mkT 1 1).cells))
 | 49,_=>some ([],fun _=>aF (.bool s))
 | _,_=>none
theorem E7 (r s:Bool) (x:RF):zdS r s 74 [.agg x.cells]=some ([],fun _=>aF (.bool (cP x))):=by
 show some ([],fun _=>aF (.bool (cP (frD x.cells))))=_;rw[yv]
theorem auJ (x y:RF):pF y x=- pF x y:=by
 unfold pF rH;have e:=xo (val x.num*val y.den) (val y.num*val x.den);cases x.neg&&decide (val x.num≠0)<;>cases y.neg&&decide (val y.num≠0)<;>simp only[e,Int.neg_neg]<;>rfl
theorem aGW {x:RF} (c:x.valid):decide (pF (mkT 1 1) x<0)=!wE x:=by
 rw[auJ x];unfold wE;rw[show cR (val x.num) (val x.den)=true from c,a6W,FO];unfold pF;simp only[aW,show (1:Int).natAbs=1 from rfl,show decide ((1:Int)<0)=false from rfl];by_cases h:rH x.neg (val x.num) (val x.den) false 1 1≤0
 ·rw[decide_eq_true h,decide_eq_false Om]; rfl
 ·rw[decide_eq_false h,decide_eq_true Om]; rfl
def PA (m:Int) (rep:List RF) (t h:RF):Bool:=cr rep m&&(cP t&&(wE t&&cP h))
theorem agU {C:Ctx} (L:UA C) (m:Int) (rep:List RF) (p:gY rep) (t h:RF) (i:t.Ok) (l:h.Ok) :
  TR.wp C (aV apY.res (aF (.bool (PA m rep t h)))) (PF.args [.int .i64 m,frs rep,.agg t.cells,.agg h.cells]) .nil:=by
 have d:dE 1:=by unfold dE; omega
 unfold PA;simp only[go_sem,TR,agV,apY];refine bV .nil (zdS (cr rep m) (!wE t)) a_ ?_;simp only[go_sem,agW];refine bM rfl (L.reps rep p m) rfl a_ ?_;cases cr rep m with
 | false =>simp only[go_sem];refine aQ (.inr rfl) rfl ?_;rfl
 | true =>
  simp only[go_sem];refine bM (E7 _ _ t) (L.small t i) rfl a_ ?_;cases e:cP t with
  | false =>simp only[go_sem];refine aQ (.inr rfl) rfl ?_;rfl
  | true =>
   have c:=L.less (mkT 1 1) t (FN 1 d).1 i (FN 1 d).2 (pY e);rw[aGW (pY e)] at c;simp only[go_sem];refine bM rfl (L.int 1 d) rfl a_ ?_;simp only[go_sem];refine bM rfl c rfl a_ ?_;cases wE t with
   | false =>simp only[go_sem,a7A,a6P];refine aQ (.inr rfl) rfl ?_;rfl
   | true =>simp only[go_sem,a6P,a7A];refine bM (E7 _ _ h) (L.small h l) rfl a_ ?_;simp only[go_sem];refine aQ (.inr rfl) rfl ?_;rfl
theorem aUD (p:bT):KD p=PA p.m p.repair p.target p.a5J:=by
 unfold KD PA cr;have:(p.repair.all fun x=>cP x&&cH x)=(p.repair.all cP&&p.repair.all cH):=by
  induction p.repair with
  | nil=>rfl
  | cons a t c =>simp only[List.all_cons,c];cases cP a<;>cases cH a<;>simp
 rw[this];simp only[a9L]
section
variable {H:PH} {B:List BX} {L:List LI}
theorem aN.ahZ (h:aN H B L) (i:Nat) {s b:Nat} {v y:PV} {rows src:List (List PV)} {K:PV→PH→Prop} (hi:L[i]?=some (v,s,rows)) (A:dT H s y=some src) (x:roomFor rows.length src.length b)
  (l:∀ v' H',bP H' s v rows→aN H' B (L.set i (v',s,rows++src))→K v' H'):mJ H s b v y K:=by
 rcases h.own i hi with ⟨rfl,rfl⟩ | ⟨q,rs,rfl,h1,h2,h3⟩
 ·exact h.append i hi A x fun v' H' E _=>l v' H' (.inl ⟨rfl,rfl⟩) E
 ·have c:(rows++src).length=rows.length+src.length:=a6T;refine⟨src,A,rfl,rfl,x,rs,h1,h2,?_,fun o e=>?_⟩
  ·rw[h3];refine l _ _ (.inr ⟨q,rows++src,rfl,by rw[cN],by rw[c]; omega,List.take_left' rfl⟩) (h.LC i hi (.inr ⟨q,rows++src,by rw[c],by simp only[aT,if_true],a6S _,a7M⟩) (fun p d=>by cases d; exact .inl rfl) fun p _ d=>?_);rw[aT,if_neg (d q rfl)]
  ·rw[h3];have w:q≠o:=by rintro rfl; rw[h1] at e; cases e
   refine l _ _ (.inr ⟨q,rs,rfl,by rw[aT,if_neg w]; exact h1,h2,h3⟩) (h.LC i hi (.inr ⟨o,rows++src,by rw[c],by simp only[aT,if_true],a6S _,a7M⟩) (fun p d=>by cases d; exact .inr e) fun p u d=>?_);obtain⟨f1,f2⟩:=h.fresh e;have F:p≠o:=by rintro rfl; exact u.elim f1 f2
   rw[aT,if_neg F]
end
abbrev mC (l:List (List UInt8)):List (List PV):=l.map fun s=>[PV.str s]
def zM:List (List UInt8)→List UInt8→Nat→Int
 | [],_,_=>-1
 | x::t,s,i=>if x==s then (i:Int) else zM t s (i+1)
theorem M5 (s:List UInt8):∀ (l:List (List UInt8)) (i:Nat),decide (zM l s i<0)=!l.contains s
 | [],i=>rfl
 | x::t,i=>by
  rw[zM,List.contains_cons,BEq.comm (a:=s)];by_cases h:(x==s)=true
  ·rw[if_pos h,h,Bool.true_or,decide_eq_false Om]; rfl
  ·rw[if_neg h,M5 s t (i+1)];simp only[Bool.not_eq_true] at h;rw[h,Bool.false_or]
theorem Fc {C:Ctx} (l:List (List UInt8)) (q:l.length≤1000000) (s:List UInt8):EQ.wp C (aV rc.res (aF (.int .i64 (zM l s 0)))) (PF.args [.sl 1 (mC l),.str s]) .nil:=by
 simp only[go_sem,EQ,Fd,Fe,rc];refine wp_loop (α:=Nat) (fun k=>(((PF.nil.set 0 (.sl 1 (mC l))).set 1 (.str s)).set 5 (.int .i64 k))) (fun _=>.nil) (fun k=>k≤l.length∧zM l s 0=zM (l.drop k) s k) (fun k=>l.length-k) 0 ⟨a6Q _,rfl⟩ Lq a_ ?_;rintro k ⟨p,d⟩;simp only[go_sem,Fb,Ff,a6K];by_cases hlt:k<l.length
 ·have c:(k:Int)<(l.length:Nat):=Om;have e:(mC l)[k]?=some [.str l[k]]:=by simp[hlt]
  rw[a8I hlt,zM] at d;cases i:l[k]==s with
  | true =>rw[i,if_pos rfl] at d;simp only[go_sem,c,TS,e,i,Fg];refine aQ (.inr rfl) rfl ?_;rw[bO,d]
  | false =>rw[i,if_neg (by decide)] at d;simp only[go_sem,c,TS,e,i,Fh,wZz k];exact aD (k+1) ⟨hlt,d⟩ Om Lq b_
 ·have c:¬ (k:Int)<(l.length:Nat):=Om;have:k=l.length:=Om;subst this;rw[List.drop_length,zM] at d;simp only[go_sem,c,Fi];refine aQ (.inr rfl) rfl ?_;rw[bO,d]
structure UB (C:Ctx):Prop extends UA C where
 name:∀ s:List UInt8,aG C 62 [.str s] .nil (aF (.bool (isName s)))
 index:∀ (l:List (List UInt8)),l.length≤1000000→∀ s:List UInt8,aG C 71 [.sl 1 (mC l),.str s] .nil (aF (.int .i64 (zM l s 0)))
def jA (l:List (List UInt8)) (s:List UInt8):Bool:=isName s&&!l.contains s
def d9 (l:List (List UInt8)) (s:List UInt8) (r:PV) (B:List BX) (L:List LI):Prop:=∃ c,r=.tup [c,.bool (jA l s)]∧B=[]∧L=[(c,1,mC (l++[s]))]
theorem E8 {C:Ctx} (L:UB C) (l:List (List UInt8)) (Q:l.length≤1000000) (s:List UInt8) (w:PV) (H:PH) (N:aN H [] [(w,1,mC l)]) :
  EP.wp C (aV q9.res (fun r H'=>∃ B' L',d9 l s r B' L'∧aN H' B' L')) (PF.args [w,.str s]) H:=by
 have p:=L.index l Q s;have E:=L.name s;have d:=M5 s l 0;have A:(1:Nat)*1≤16777216:=by decide
 have fin:∀ (F:PF) (H':PH) (c:PV) (b:Bool),F 4=some c→F 5=some (.bool b)→b=jA l s→aN H' [] [(c,1,mC (l++[s]))]→aV [.tmp 4,.tmp 5] (fun r H'=>∃ B' L',d9 l s r B' L'∧aN H' B' L') .ret F H':=fun F H' c b K M e y =>
  bA (vs:=[c,.bool b]) (.inr rfl) H' (by simp only[go_sem,K,M]) b_ ⟨[],_,⟨c,by rw[e]; rfl,rfl,rfl⟩,y⟩
 simp only[go_sem,EP,E9,Fa,q9,A];refine N.ahZ 0 (src:=[[.str s]]) rfl rfl (by unfold roomFor; rw[a6K]; simp only[a6X,maxLen]; omega) fun c H' O y=>?_;have i:aN H' [] [(c,1,mC (l++[s]))]:=by
  have e:mC (l++[s])=mC l++[[.str s]]:=by simp[mC]
  rw[e]; exact y
 refine aA E rfl ?_;cases J:isName s with
 | false =>simp only[go_sem];exact fin _ _ c false rfl rfl (by unfold jA; rw[J,a6R]) i
 | true =>
  have u:jA l s=!l.contains s:=by unfold jA; rw[J,a6W]
  rcases O with ⟨R,rfl⟩ | ⟨q,rs,rfl,q1,q2,q3⟩
  ·simp only[go_sem];rw[R] at p;have x:aG C 71 [.aB,.str s] .nil (aF (.int .i64 (zM l s 0))):=p.args (.cons (.nil 1) (.cons (.refl _) .nil));refine aA x rfl ?_;simp only[go_sem,d];exact fin _ _ c _ rfl rfl u.symm i
  ·simp only[go_sem];refine Wz (vs:=[.osl q 1 0 (mC l).length,.str s]) (.int .i64 (zM l s 0)) ?_ q1 Sq ?_
   ·rw[a8B,a8B,a8W,tR q2,q3];exact p
   simp only[go_sem,d];exact fin _ _ c _ rfl rfl u.symm i
theorem avY {x:RF} (h:cP x=true):decide (qZ x>0)=cH x:=by
 have d:=pY h;unfold cP oM at h;rw[show cR (val x.num) (val x.den)=true from d,if_pos rfl,al d] at h;unfold qZ cH;by_cases c:val x.num=0
 ·simp[c]
 ·have i:val x.num/a6O (val x.num) (val x.den)≠0:=by have:=Nat.div_pos (Nat.gcd_le_left (val x.den) (a8U c)) (Nat.gcd_pos_of_pos_left _ (a8U c));omega
  have e:x.neg=false:=by unfold mH at h;simp only[i,ne_eq,not_false_eq_true,decide_true,a8V,a7E] at h;simpa using h.1
  rw[if_neg c,e];simp[c]
structure Hq (l:cG):Prop where
 exit:∀ x∈l.exit,cP x=true
 row:∀ r∈l.a5E,∀ x∈r,cP x=true
structure nY (C:Ctx):Prop extends UB C where
 fresh:∀ (l:List (List UInt8)),l.length≤1000000→∀ (s:List UInt8) (w:PV) (H:PH),aN H [] [(w,1,mC l)]→aG C 70 [w,.str s] H (fun r H'=>∃ B' L',d9 l s r B' L'∧aN H' B' L')
theorem nY.pos {C:Ctx} (L:nY C) {x:RF} (c:x.Ok) (h:cP x=true):∃ n:Int,aG C 54 [.agg x.cells] .nil (aF (.int .i64 n))∧decide (n>0)=cH x:=⟨_,L.sign x c (pY h),avY h⟩
def zlF (l:cG) (o r i:Nat):PF:=(((((PF.nil.set 1 (.bG l.cells)).set 3 (.int .i64 (l.exit.length:Nat))).set 7 (.osl o 1 0 l.exit.length)).set 8 (.int .i64 r)).set 9 (.int .i64 i))
theorem aMH {C:Ctx} (L:nY C) (l:cG) (o r i:Nat) (row:List RF) (Q:(l.a5E.map fun r=>[frs r])[i]?=some [frs row]) (J:gY row) (E:∀ x∈row,cP x=true) (X:row.length=l.exit.length) (hi:i<l.exit.length) (hn:l.exit.length≤4) (e:List Bool) (Z:e.length=l.exit.length) (K:bQ) [Up K] (F:PF) (H:PH)
  (N:((zlF l o r i).set 10 (.int .i64 0)).le F) (M:(gP o e).le H)
  (W:K (.exit 6) (zlF l o r i) (gP o (cS e i row row.length))):aC.wp C (.loop MJ) K F H:=by
 refine wp_loop (α:=Nat) (fun k=>(zlF l o r i).set 10 (.int .i64 k)) (fun k=>gP o (cS e i row k)) (fun k=>k≤row.length) (fun k=>row.length-k) 0 (a6Q _) N M ?_;intro k hk;have V:=tA e i row k;have w:∀ h:k<row.length,cS e i row (k+1)=(cS e i row k).set i ((cS e i row k).getD i false||cH row[k]&&(cS e i row k).getD k false):=fun h=>by simp only[cS,a7C,a7J,a6Y h,a7Y,a9K]
 have fin:∀ (b:Bool) (F:PF) (H:PH),k<row.length→dB (cS e i row (k+1))=(dB (cS e i row k)).set i [.bool b]→((zlF l o r i).set 10 (.int .i64 (k+1:Nat))).le F→H o=some (.rows 1 ((dB (cS e i row k)).set i [.bool b])) →
   fB (fun k:Nat=>(zlF l o r i).set 10 (.int .i64 k)) (fun k=>gP o (cS e i row k)) (fun k=>k≤row.length) (fun k=>row.length-k) (row.length-k) K .normal F H:=by
  intro b F H hlt U N M;refine aD (k+1) hlt Om N ?_;rw[← U] at M;exact PH.aJ a_ M
 unfold zlF gP at fin;simp only[go_sem,MJ,Us,zlF,gP];by_cases hlt:k<row.length
 ·have d:(k:Int)<(l.exit.length:Nat):=Om;have u:(i:Int)<(l.exit.length:Nat):=Om;have q:=rD (R:=cS e i row k) (i:=i) Om;have y:=rD (R:=cS e i row k) (i:=k) Om;have p:=w hlt;obtain⟨n,S,B⟩:=L.pos (J.all _ (a6M hlt)) (E _ (a6M hlt));have O:=i0 hlt;generalize U:(cS e i row k).getD i false=b at *
  generalize hc:(cS e i row k).getD k false=c at *
  generalize Y:cH row[k]=A at *
  cases b with
  | true =>simp only[go_sem,d,du,u,a7I,q,MK,wZz k];exact fin true _ _ hlt (by rw[p,jP,Bool.true_or]) Lq Sq
  | false =>
   simp only[go_sem,d,du,u,a7I,q,Q,O];refine aA S rfl ?_;cases A with
   | false =>simp only[go_sem,B,u,d,a7I,q,y,MK,wZz k];exact fin false _ _ hlt (by rw[p,jP,Bool.false_or,a6R]) Lq Sq
   | true =>simp only[go_sem,B,u,d,a7I,q,y,MK,wZz k];exact fin c _ _ hlt (by rw[p,jP,Bool.false_or,a6W]) Lq Sq
 ·have d:¬ (k:Int)<(l.exit.length:Nat):=Om;have:k=row.length:=Om;subst this;simp only[go_sem,d];refine Up.up ?_ W
  (repeat' (first|exact c_|refine d_ ?_ ?_))<;>first|(simp only[go_sem,zlF]<;>rfl)|rfl
theorem aMJ {C:Ctx} (L:nY C) (l:cG) (O:l.Ok) (J:AO l) (S:Hq l) (o r:Nat) (R:List Bool) (Z:R.length=l.exit.length) (K:bQ) [Up K] (F:PF) (H:PH)
  (B:(zlF l o r 0).le F) (E:(gP o R).le H)
  (W:K (.exit 4) (zlF l o r l.exit.length) (gP o (dH l R l.exit.length))):aC.wp C (.loop dh) K F H:=by
 refine wp_loop (α:=Nat) (fun i=>zlF l o r i) (fun i=>gP o (dH l R i)) (fun i=>i≤l.exit.length) (fun i=>l.exit.length-i) 0 (a6Q _) B E ?_;intro i hi;have Q:=qF l R i;have X:=J.n;simp only[go_sem,dh,Ur,zlF,gP];by_cases hlt:i<l.exit.length
 ·have c:(i:Int)<(l.exit.length:Nat):=Om;have e:i<l.a5E.length:=by rw[J.a5E]; exact hlt
  have q:=rD (R:=dH l R i) (i:=i) Om;have Y:=i0 hlt;have y:(l.a5E.map fun r=>[frs r])[i]?=some [frs l.a5E[i]]:=by simp[e]
  have M:(l.a5E[i]).length=l.exit.length:=J.row _ (a6M e);generalize p:(dH l R i).set i ((dH l R i).getD i false||cH l.exit[i])=A;have w:A.length=l.exit.length:=by rw[← p,a8M]; omega
  have u:dH l R (i+1)=cS A i l.a5E[i] (l.a5E[i]).length:=by
   simp only[dH,zZ];have U:(l.exit.map cH).getD i false=cH l.exit[i]:=by simp[a7C,hlt]
   have V:l.a5E.getD i []=l.a5E[i]:=by simp[a7C,e]
   rw[U,V,p]
  obtain⟨n,N,x⟩:=L.pos (O.exit.all _ (a6M hlt)) (S.exit _ (a6M hlt));have rest:∀ (F:PF) (H:PH),(zlF l o r i).le F→H o=some (.rows 1 (dB A)) →
    aC.wp C (.seq (.region dt) (.block 6 (.loop MJ))) (eP 5 (fV C (aC.wp C (.region dw)) (fB (fun i:Nat=>zlF l o r i) (fun i=>gP o (dH l R i)) (fun i=>i≤l.exit.length) (fun i=>l.exit.length-i) (l.exit.length-i) K))) F H:=by
   intro F H B E;refine xQ _ (fun _ _ _ _ a b=>Up.up a b) B ?_;simp only[go_sem,dt];refine aMH L l o r i l.a5E[i] y (O.row _ (a6M e)) (S.row _ (a6M e)) M hlt X A w _ _ _ (by (repeat' (first|exact c_|refine d_ ?_ ?_))<;>first|(simp only[go_sem,zlF]<;>rfl)|rfl) (PH.aJ a_ E) ?_;simp only[go_sem,zlF,dw,wZz i];exact aD (i+1) hlt Om Lq (by rw[u]; exact b_)
  simp only[zlF,gP] at rest;have d:=rest;simp only[aC.wp,go_sem] at d;generalize hb:(dH l R i).getD i false=b at *
  cases b with
  | true =>simp only[go_sem,c,dp,c,a7I,q];refine d _ _ Lq ?_;rw[← p];simp only[go_sem,jP,Bool.true_or]
  | false =>simp only[go_sem,c,dp,c,a7I,q,Y];refine aA N rfl ?_;simp only[go_sem,c,a7I,q,x];refine d _ _ Lq ?_;rw[← p];simp only[go_sem,jP,Bool.false_or]
 ·have c:¬ (i:Int)<(l.exit.length:Nat):=Om;have:i=l.exit.length:=Om;subst this;simp only[go_sem,c];exact Up.up (by (repeat' (first|exact c_|refine d_ ?_ ?_))<;>first|(simp only[go_sem,zlF]<;>rfl)|rfl) W
theorem aMI {C:Ctx} (L:nY C) (l:cG) (u:l.Ok) (e:AO l) (w:Hq l) (o:Nat) (K:bQ) [Up K] (F:PF) (H:PH)
  (i:(((((PF.nil.set 1 (.bG l.cells)).set 3 (.int .i64 (l.exit.length:Nat))).set 7 (.osl o 1 0 l.exit.length)).set 8 (.int .i64 0)):PF).le F) (p:(gP o (dO l 0)).le H)
  (q:K (.exit 2) (((PF.nil.set 3 (.int .i64 (l.exit.length:Nat))).set 7 (.osl o 1 0 l.exit.length))) (gP o (dO l l.exit.length))):aC.wp C (.loop di) K F H:=by
 have x:=e.n;refine wp_loop (α:=Nat) (fun r=>((((PF.nil.set 1 (.bG l.cells)).set 3 (.int .i64 (l.exit.length:Nat))).set 7 (.osl o 1 0 l.exit.length)).set 8 (.int .i64 r))) (fun r=>gP o (dO l r)) (fun r=>r≤l.exit.length) (fun r=>l.exit.length-r) 0 (a6Q _) i p ?_;intro r y;have d:=qE l r;simp only[go_sem,di,Uo];by_cases hlt:r<l.exit.length
 ·have c:(r:Int)<(l.exit.length:Nat):=Om;simp only[go_sem,c,Uq];refine aMJ L l u e w o r (dO l r) d _ _ _ (by (repeat' (first|exact c_|refine d_ ?_ ?_))<;>first|(simp only[go_sem,zlF]<;>rfl)|rfl) b_ ?_;simp only[go_sem,zlF,Uu,wZz r];exact aD (r+1) hlt Om Lq b_
 ·have c:¬ (r:Int)<(l.exit.length:Nat):=Om;have:r=l.exit.length:=Om;subst this;simp only[go_sem,c];exact Up.up Lq q
theorem aWV {C:Ctx} (R:List Bool) (B:R.length≤4) (o:Nat) (X:Bool) (y:X=R.all id) (Q:PV→PH→Prop) (x:Q=aF (.bool X)) (F:PF) (H:PH)
  (u:((((PF.nil.set 3 (.int .i64 (R.length:Nat))).set 7 (.osl o 1 0 R.length)).set 11 (.int .i64 0)):PF).le F) (w:(gP o R).le H):aC.wp C (.loop dj) (eP 8 (fV C (aC.wp C (.seq (.region dy) .ret)) (aV [.tmp 2] Q))) F H:=by
 subst y x;refine wp_loop (α:=Nat) (fun k=>(((PF.nil.set 3 (.int .i64 (R.length:Nat))).set 7 (.osl o 1 0 R.length)).set 11 (.int .i64 k))) (fun _=>gP o R) (fun k=>k≤R.length∧(R.take k).all id=true) (fun k=>R.length-k) 0 ⟨a6Q _,rfl⟩ u w ?_;rintro k ⟨E,l⟩;simp only[go_sem,dj,Uw,gP];by_cases hlt:k<R.length
 ·have c:(k:Int)<(R.length:Nat):=Om;have d:=rD (R:=R) (i:=k) hlt;have A:R.getD k false=R[k]:=by simp[a7C,hlt]
  rw[A] at d;cases e:R[k] with
  | false =>rw[e] at d;simp only[go_sem,c,dx,a7I,d,a7A,Ux];refine aQ (.inr rfl) rfl ?_;rw[bO,oY hlt (p:=id) e]
  | true =>rw[e] at d;have q:=oX hlt l (p:=id) e;simp only[go_sem,c,dx,a7I,d,a6P,Uy,wZz k];exact aD (k+1) ⟨hlt,by simpa using a7B.1 q⟩ Om Lq b_
 ·have c:¬ (k:Int)<(R.length:Nat):=Om;have:k=R.length:=Om;subst this;rw[a7M] at l;simp only[go_sem,c,dy];refine aQ (.inr rfl) rfl ?_;rw[bO,l]
def Marks (R S:List Bool):Prop:=R.length=S.length∧∀ j:Nat,R[j]?=some true→S[j]?=some true
theorem Marks.aVK (R:List Bool):Marks R R:=⟨rfl,fun _ h=>h⟩
theorem Marks.trans {R S T:List Bool} (h:Marks R S) (k:Marks S T):Marks R T:=⟨h.1.trans k.1,fun j a=>k.2 j (h.2 j a)⟩
theorem Nv (R:List Bool) (i:Nat) (b:Bool):Marks R (R.set i (R.getD i false||b)):=by
 refine⟨by rw[a8M],fun j h=>?_⟩;rw[List.getElem?_set];obtain⟨c,d⟩:=a7T.1 h;split
 ·rename_i e;subst e;rw[if_pos c,a7C,h];rfl
 ·exact h
theorem Ad (R:List Bool) (i:Nat) (row:List RF):∀ k,Marks R (cS R i row k)
 | 0=>Marks.aVK R
 | k+1=>(Ad R i row k).trans (Nv _ _ _)
theorem CR (l:cG) (R:List Bool):∀ i,Marks R (dH l R i)
 | 0=>Marks.aVK R
 | i+1=>(CR l R i).trans ((Nv _ _ _).trans (Ad _ _ _ _))
theorem Nw:∀ {R S:List Bool},Marks R S→R≠S→R.count true<S.count true
 | [],[],_,h=>absurd rfl h
 | [],_::_,h,_=>by have:=h.1; simp at this
 | _::_,[],h,_=>by have:=h.1; simp at this
 | a::R,b::S,h,c=>by
  have d:a=true→b=true:=fun e=>by have:=h.2 0 (by rw[e]; rfl);simpa using this
  have l:Marks R S:=⟨by have:=h.1; simpa using this,fun j i=>by have:=h.2 (j+1) (by simpa using i); simpa using this⟩;by_cases e:R=S
  ·subst e;have:a≠b:=fun e=>c (by rw[e]);cases a<;>cases b<;>simp at this d ⊢
  ·have:=Nw l e;cases a<;>cases b<;>simp at d ⊢<;>omega
theorem gj:∀ {R:List Bool},R.length≤R.count true→R.all id=true
 | [],_=>rfl
 | a::R,h=>by
  have c:=List.count_le_length (a:=true) (l:=R);cases a with
  | true =>simp only[List.count_cons_self,a8D] at h;simp only[List.all_cons,id,a6W];exact gj Om
  | false =>simp at h;omega
theorem KG (l:cG) {s:Nat} (h:dO l (s+1)=dO l s):∀ d,dO l (s+d)=dO l s
 | 0=>rfl
 | d+1=>by show dH l (dO l (s+d)) l.exit.length=_;rw[KG l h d];exact h
theorem mi (l:cG):∀ r,(∃ s,s<r∧dO l (s+1)=dO l s)∨r≤(dO l r).count true
 | 0=>.inr (a6Q _)
 | r+1=>by
  rcases mi l r with ⟨s,d,c⟩ | h
  ·exact .inl ⟨s,by omega,c⟩
  ·by_cases e:dO l (r+1)=dO l r
   ·exact .inl ⟨r,by omega,e⟩
   ·have:=Nw (CR l (dO l r) l.exit.length) (fun h=>e h.symm);exact .inr (by show r+1≤(dH l (dO l r) l.exit.length).count true; omega)
theorem aOA (l:cG):wU l=(dO l l.exit.length).all id:=by
 unfold wU;rcases mi l l.exit.length with ⟨s,y,e⟩ | h
 ·obtain⟨d,u⟩:∃ d,l.exit.length=s+d:=⟨l.exit.length-s,by omega⟩;rw[show l.exit.length+1=s+(d+1) by omega,u,KG l e,KG l e]
 ·have i:(dO l l.exit.length).all id=true:=gj (by rw[qE]; exact h);have q:Marks (dO l l.exit.length) (dO l (l.exit.length+1)):=CR l (dO l l.exit.length) l.exit.length;rw[i,a7B];intro x w;obtain⟨j,p,rfl⟩:=a9C w;have c:j<(dO l l.exit.length).length:=by rw[q.1]; exact p
  have:=q.2 j (by rw[a6Y c];have:=a7B.1 i _ (a6M c);simpa using this);rw[a6Y p] at this;simpa using this
def zsS (s:Bool):Spec:=fun name vs=>match name,vs with
 | 47,_=>some ([],fun _=>aF (.agg (mkT 1 1).cells))
 | 53,_=>some ([],fun _=>aF (.bool s))
 | _,_=>none
theorem aFD (l:cG):lJ l=(within l.start.length 1 4&&((decide ((l.start.length:Int)=l.start.length)&&l.start.all cP)&&((decide ((l.exit.length:Int)=l.start.length)&&l.exit.all cP)&&(decide (l.a5E.length=l.start.length)&&((a6L l.a5E.length).all (rI l)&&(uJ l&&wU l)))))):=by
 rw[Zw,decide_eq_true (rfl:(l.start.length:Int)=l.start.length),a6W];have:decide (l.exit.length=l.start.length)=decide ((l.exit.length:Int)=l.start.length):=decide_eq_decide.2 Om;rw[this];cases within l.start.length 1 4<;>cases decide ((l.exit.length:Int)=l.start.length)<;>cases decide (l.a5E.length=l.start.length)<;>cases l.start.all cP<;>cases l.exit.all cP<;>simp[a9L]
theorem Rb (l:cG) {i:Nat} (h:i<l.a5E.length):rI l i=((decide (((l.a5E[i]).length:Int)=l.start.length)&&(l.a5E[i]).all cP)&&!((l.a5E[i]).map cH).getD i false):=by
 unfold rI;have:l.a5E.getD i []=l.a5E[i]:=by simp[a7C,h]
 rw[this];have:decide ((l.a5E[i]).length=l.start.length)=decide (((l.a5E[i]).length:Int)=l.start.length):=decide_eq_decide.2 Om;rw[this]
theorem agY {C:Ctx} (L:nY C) (l:cG) (N:l.Ok):TT.wp C (aV apZ.res (aF (.bool (lJ l)))) (PF.args [.agg l.cells]) .nil:=by
 have c:=aFD l;have fail:∀ (F:PF) (H:PH),lJ l=false→F 2=some (.bool false)→aV [.tmp 2] (aF (.bool (lJ l))) .ret F H:=fun F H e h=>by rw[e];exact bA (vs:=[.bool false]) (.inr rfl) .nil (by simp only[go_sem,h]) a_ ⟨rfl,rfl⟩
 have e1:=L.smalls l.start N.start l.start.length;have e2:=L.smalls l.exit N.exit l.start.length;simp only[go_sem,TT,agZ,ahA,apZ,a6K,ahB];by_cases c1:(l.start.length:Int)<1
 ·simp only[go_sem,c1,yQ];exact fail _ _ (by rw[c,show within l.start.length 1 4=false from by unfold within; rw[decide_eq_false Om,a6R],a6R]) rfl
 by_cases c2:(l.start.length:Int)>4
 ·simp only[go_sem,c1,c2,yQ];exact fail _ _ (by rw[c,show within l.start.length 1 4=false from by unfold within; rw[decide_eq_false (Om:¬ (l.start.length:Int)≤4),a7S],a6R]) rfl
 rw[show within l.start.length 1 4=true from by unfold within; rw[decide_eq_true (Om:(1:Int)≤(l.start.length:Nat)),decide_eq_true (Om:(l.start.length:Int)≤4)]; rfl,a6W] at c;simp only[go_sem,c1,c2];refine aA e1 rfl ?_;cases k1:(decide ((l.start.length:Int)=l.start.length)&&l.start.all cP) with
 | false =>rw[k1,a6R] at c;simp only[go_sem,a7A,yQ];exact fail _ _ c rfl
 | true =>
 rw[k1,a6W] at c;simp only[go_sem,a6P];refine aA e2 rfl ?_;cases k2:(decide ((l.exit.length:Int)=l.start.length)&&l.exit.all cP) with
 | false =>rw[k2,a6R] at c;simp only[go_sem,a7A,yQ];exact fail _ _ c rfl
 | true =>
 rw[k2,a6W] at c;rw[a7E,decide_eq_true_eq] at k2;have y:l.exit.length=l.start.length:=Om;have M:=a7B.1 k2.2;by_cases c3:l.a5E.length=l.start.length
 case neg =>rw[decide_eq_false c3,a6R] at c;simp only[go_sem,a6P,a6K,dK (Om:(l.a5E.length:Int)≠(l.start.length:Nat)),yQ];exact fail _ _ c rfl
 rw[decide_eq_true c3,a6W] at c;simp only[go_sem,a6P,a6K,cA (Om:(l.a5E.length:Int)=(l.start.length:Nat)),ahC];refine wp_loop (α:=Nat) (fun i=>(((PF.nil.set 1 (.bG l.cells)).set 3 (.int .i64 (l.start.length:Nat))).set 4 (.int .i64 i))) (fun _=>.nil) (fun i=>i≤l.start.length∧∀ j,j<i→rI l j=true) (fun i=>l.start.length-i) 0 ⟨a6Q _,fun j h=>by omega⟩ Lq a_ ?_;rintro i ⟨hi,p⟩;simp only[go_sem,agX,ahD];by_cases hlt:i<l.start.length
 ·have u:(i:Int)<(l.start.length:Nat):=Om;have w:i<l.a5E.length:=Om;have B:(l.a5E.map fun r=>[frs r])[i]?=some [frs l.a5E[i]]:=by simp[w]
  have V:=N.row _ (a6M w);have e3:=L.smalls l.a5E[i] V l.start.length;have d:=Rb l w;have O:rI l i=false→lJ l=false:=fun h=>by rw[c,show (a6L l.a5E.length).all (rI l)=false from List.all_eq_false.2 ⟨i,a7P.2 w,by simp[h]⟩,a6R]
  simp only[go_sem,u,ahE,B];refine aA e3 rfl ?_;cases k3:(decide (((l.a5E[i]).length:Int)=l.start.length)&&(l.a5E[i]).all cP) with
  | false =>rw[k3,a6R] at d;simp only[go_sem,a7A,wx];exact fail _ _ (O d) rfl
  | true =>
   rw[k3,a6W] at d;rw[a7E,decide_eq_true_eq] at k3;have θ:(l.a5E[i]).length=l.start.length:=Om;have E:i<(l.a5E[i]).length:=Om;have hm:=a6M E;have hs:=L.sign _ (V.all _ hm) (pY (a7B.1 k3.2 _ hm));have hz:=KW (l.a5E[i])[i];have hg:((l.a5E[i]).map cH).getD i false=cH (l.a5E[i])[i]:=by simp[a7C,E]
   rw[hg] at d;have A:(qZ (l.a5E[i])[i] != 0)=cH (l.a5E[i])[i]:=by rw[bne,hz,Bool.not_not]
   simp only[go_sem,a6P,B,i0 E];refine aA hs rfl ?_;cases k4:cH (l.a5E[i])[i] with
   | true =>rw[k4] at d A;simp only[go_sem,A,wx];exact fail _ _ (O d) rfl
   | false =>
    rw[k4] at d A;simp only[go_sem,A,ahF,wZz i];exact aD (i+1) ⟨hlt,fun j Z=>by
     by_cases e:j=i
     ·rw[e]; exact d
     ·exact p j Om⟩ Om Lq b_
 ·have u:¬ (i:Int)<(l.start.length:Nat):=Om;have:i=l.start.length:=Om;subst this;have J:(a6L l.a5E.length).all (rI l)=true:=a7B.2 fun j Z=>p j (by rw[← c3]; exact a7P.1 Z);rw[J,a6W] at c;have X:∀ r∈l.a5E,r.length=l.start.length∧∀ x∈r,cP x=true:=fun r U=>by obtain⟨j,Z,rfl⟩:=a9C U;have h:=p j Om;rw[Rb l Z,a7E,a7E,decide_eq_true_eq] at h;exact⟨by omega,a7B.1 h.1.2⟩
  have S:Hq l:=⟨M,fun r U=>(X r U).2⟩;have R:AO l:=⟨by omega,by omega,fun r U=>by rw[(X r U).1,y]⟩;have Y:=L.sum l.start N.start.all N.start.fits;simp only[go_sem,u,Ul];refine aA Y rfl ?_;cases Q:pM (l.start.map RF.v) with
  | error e =>
   have δ:=R1 Q;have:uJ l=false:=by unfold uJ; rw[Q]
   rw[this,a6R] at c;simp only[go_sem,frV];refine aR fun o ho=>?_;simp only[go_sem];refine bV .nil eM a_ ?_;simp only[go_sem,dk,dK δ,dl];exact fail _ _ c rfl
  | ok r =>
   have W:=adU Q;have ζ:=nz Q;obtain⟨n,a,b⟩:=r;have h1:dE 1:=by unfold dE; omega
   have K:=L.same (FV.rf (n,a,b)) (mkT 1 1) W (FN 1 h1).1 (by unfold RF.valid FV.rf; simp only[aW]; exact ζ) (FN 1 h1).2;have hP:uJ l=(pF (FV.rf (n,a,b)) (mkT 1 1)==0):=by unfold uJ;rw[Q,FO];unfold pF FV.rf;simp only[aW,show (1:Int).natAbs=1 from rfl,show decide ((1:Int)<0)=false from rfl];by_cases h:rH n a b false 1 1=0<;>simp[h]
   simp only[go_sem,frV];refine aR fun o ho=>?_;have hH:aN (PH.nil.set o (.rows 3 [(FV.rf (n,a,b)).cells])) [(o,.rows 3 [(FV.rf (n,a,b)).cells])] []:=aN.nil.new (H:=PH.nil) rfl _;simp only[go_sem];refine bV (PH.nil.set o (.rows 3 [(FV.rf (n,a,b)).cells])) (zsS (pF (FV.rf (n,a,b)) (mkT 1 1)==0)) b_ ?_;simp only[go_sem,dk,cA (show (0:Int)=0 from rfl)];refine bM rfl (L.int 1 h1) rfl b_ ?_;simp only[go_sem];refine bM rfl K rfl b_ ?_;rw[← hP];cases hp:uJ l with
   | false =>rw[hp,a6R] at c;simp only[go_sem,a7A,dl];exact fail _ _ c rfl
   | true =>
    rw[hp,a6W,aOA] at c;have β:(l.start.length:Int)*((1:Nat):Int)≤140737488355328:=Om;have γ:(l.start.length:Int)≤9223372036854775807:=Om;simp only[go_sem,a6P,Um,β,γ];refine aR fun q hq=>?_;simp only[go_sem,Un];have η:a6N l.start.length [PV.bool false]=dB (dO l 0):=by rw[← y];simp[dO,dB]
    rw[← y];refine aMI L l N R S q _ _ _ Lq ?_ ?_
    ·refine PH.aJ a_ ?_;rw[cN,y,η]
    simp only[go_sem,Uv];have ε:(dO l l.exit.length).length≤4:=by rw[qE]; omega
    refine aWV (dO l l.exit.length) ε q (lJ l) c _ rfl _ _ ?_ b_;rw[qE];exact Lq
structure pP (C:Ctx):Prop extends nY C where
 law:∀ l:cG,l.Ok→aG C 68 [.agg l.cells] .nil (aF (.bool (lJ l)))
def okL (base ns:List (List UInt8)) (P:Nat→Bool) (i:Nat):Bool:=jA (base++ns.take i) (ns.getD i [])&&P i
theorem rB {p:Nat→Bool} (k:Nat) (b:Bool):(b&&(a6L (k+1)).all p)=((b&&(a6L k).all p)&&p k):=by
 rw[a9U,a9X];cases (a6L k).all p<;>cases b<;>simp
theorem rA {p:Nat→Bool} {b:Bool} {i n:Nat} (hi:i≤n) (h:(b&&(a6L i).all p)=false):(b&&(a6L n).all p)=false:=by
 cases b with
 | false=>rfl
 | true =>rw[a6W] at h ⊢;obtain⟨x,e,c⟩:=List.all_eq_false.1 h;exact List.all_eq_false.2 ⟨x,a7P.2 (by have:=a7P.1 e; omega),c⟩
structure gJ (H:PH) (w:PV) (base ns:List (List UInt8)) (c:Bool) (i:Nat):Prop where
 ex:∃ names,aN H [] [(w,1,mC names)]∧(c=true→names=base++ns.take i)
section
variable {C:Ctx} {F:PF} {H:PH} {d:Option Nat} {K:PF→PH→Prop}
theorem gJ.call (L:nY C) {w:PV} {base ns:List (List UInt8)} {i:Nat} {B:List BX} {c:List (List UInt8)} (h:aN H B [(w,1,mC c)]) (J:base.length≤1000) (hi:i≤1000) (u:c=base++ns.take i) (l:i<ns.length) {a b:Nat} (e:aP.evs F [.tmp a,.tmp b]=some [w,.str ns[i]])
  (y:∀ p H',aN H' B [(p,1,mC (c++[ns[i]]))]→gJ H' p base ns true (i+1)→K (F.put d (.tup [p,.bool (jA (base++ns.take i) (ns.getD i []))])) H'):hZ C 70 [.tmp a,.tmp b] [] d K F H:=by
 refine EO (B1:=[]) (B2:=B) (L1:=[(w,1,mC c)]) (L2:=[]) (Q:=d9 c ns[i]) h (fun A E=>L.fresh c (by rw[u,a6T,a7D]; omega) ns[i] w A E) e ?_;rintro r B' L' H' ⟨p,rfl,rfl,rfl⟩ x;have q:ns.getD i []=ns[i]:=by simp[a7C,l]
 rw[q,← u] at y;refine y p H' x ⟨c++[ns[i]],x.sub (List.nil_sublist _) (a8L.refl _),fun _=>?_⟩;rw[a8E l,← a7V,u]
end
theorem gJ.wu {H:PH} {w:PV} {base ns:List (List UInt8)} {c:Bool} {i:Nat} (h:gJ H w base ns true i):gJ H w base ns c i:=by
 obtain⟨e,l,p⟩:=h.ex;exact⟨e,l,fun _=>p rfl⟩
def IJ (f:aE):Bool:=(a6L f.a5G.length).all (okL [] (f.a5G.map cG.name) fun i=>(f.a5G.map lJ).getD i false)
theorem aTK {C:Ctx} (L:pP C) (f:aE) (hf:f.Ok) (hs:f.a5G.length≤4) (K:bQ) [Up K] (F:PF) (H:PH)
  (X:(((((((((PF.nil.set 1 (.bG f.cells)).set 3 (.aB)).set 4 (.aB)).set 5 (.aB)).set 6 (.aB)).set 7 (.aB)).set 8 (.bool true)).set 9 (.int .i64 0)):PF).le F)
  (Q:∀ H',K (.exit 0) (((((((PF.nil.set 1 (.bG f.cells)).set 4 (.aB)).set 5 (.aB)).set 6 (.aB)).set 7 (.aB)).set 8 (.bool (IJ f)))) H'):aC.wp C (.loop MM) K F H:=by
 obtain⟨ok,E⟩:∃ ok,okL [] (f.a5G.map cG.name) (fun i=>(f.a5G.map lJ).getD i false)=ok:=⟨_,rfl⟩;unfold IJ at Q;rw[E] at Q;refine wp_loop (α:=Nat × PV × PH) (fun s=>((((((((PF.nil.set 1 (.bG f.cells)).set 3 (s.2.1)).set 4 (.aB)).set 5 (.aB)).set 6 (.aB)).set 7 (.aB)).set 8 (.bool (true&&(a6L s.1).all ok))).set 9 (.int .i64 s.1))) (fun s=>s.2.2) (fun s=>s.1≤f.a5G.length∧gJ s.2.2 s.2.1 [] (f.a5G.map cG.name) (true&&(a6L s.1).all ok) s.1) (fun s=>f.a5G.length-s.1)
  (0,.aB,H) ⟨a6Q _,⟨[],aN.nil.mV 1,fun _=>rfl⟩⟩ X b_ ?_
 rintro⟨i,w,U⟩ ⟨hi,V⟩;simp only at hi V ⊢;have fin:∀ (b:Bool) (x:PV) (M:PF) (H':PH),i<f.a5G.length→(true&&(a6L (i+1)).all ok)=b→gJ H' x [] (f.a5G.map cG.name) true (i+1) →
   (((((((((PF.nil.set 1 (.bG f.cells)).set 3 (x)).set 4 (.aB)).set 5 (.aB)).set 6 (.aB)).set 7 (.aB)).set 8 (.bool b)).set 9 (.int .i64 (i+1:Nat))):PF).le M →
   fB (fun s:Nat × PV × PH=>((((((((PF.nil.set 1 (.bG f.cells)).set 3 (s.2.1)).set 4 (.aB)).set 5 (.aB)).set 6 (.aB)).set 7 (.aB)).set 8 (.bool (true&&(a6L s.1).all ok))).set 9 (.int .i64 s.1))) (fun s=>s.2.2) (fun s=>s.1≤f.a5G.length∧gJ s.2.2 s.2.1 [] (f.a5G.map cG.name) (true&&(a6L s.1).all ok) s.1) (fun s=>f.a5G.length-s.1) (f.a5G.length-i) K .normal M H' :=
  fun b x M H' hlt Y O N=>aD (i+1,x,H') ⟨hlt,O.wu⟩ (by simp only; omega) (by simp only; rw[Y]; exact N) b_
 have l:=rB (p:=ok) i true;have u:(true&&(a6L i).all ok)=(true&&(a6L f.a5G.length).all ok)→K (.exit 0) (((((((PF.nil.set 1 (.bG f.cells)).set 4 (.aB)).set 5 (.aB)).set 6 (.aB)).set 7 (.aB)).set 8 (.bool (true&&(a6L i).all ok)))) U:=fun e=>by rw[e,a6W]; exact Q U
 have A:=fun h=>rA (p:=ok) (b:=true) hi h;generalize Z:(true&&(a6L i).all ok)=c at *
 simp only[go_sem,MM,Fw,a6K];by_cases hlt:i<f.a5G.length
 ·have q:(i:Int)<(f.a5G.length:Nat):=Om;cases c with
  | false =>simp only[go_sem,q];exact Up.up Lq (u (A rfl).symm)
  | true =>
   obtain⟨S,g1,g3⟩:=V.ex;have B:(f.a5G.map cG.cells)[i]?=some (f.a5G[i]).cells:=by simp[hlt]
   have R:i<(f.a5G.map cG.name).length:=by rw[a6K]; exact hlt
   have J:ok i=(jA ([]++(f.a5G.map cG.name).take i) ((f.a5G.map cG.name).getD i [])&&lJ f.a5G[i]):=by rw[← E];unfold okL;simp[a7C,hlt]
   have hl:=L.law _ (hf.law _ (a6M hlt));rw[J] at l;simp only[go_sem,q,Fy,B];refine gJ.call L.tonY (ns:=f.a5G.map cG.name) g1 (a6Q _) Om (g3 rfl) R (by simp only[go_sem,a8P]) fun x H1 h1 y=>?_;generalize jA ([]++(f.a5G.map cG.name).take i) ((f.a5G.map cG.name).getD i [])=W at *
   cases W with
   | false =>simp only[go_sem,TV,TW,wZz i];exact fin false x _ _ hlt (l.trans rfl) y Lq
   | true =>simp only[go_sem,TV,B];refine aA hl rfl ?_;simp only[go_sem,TW,wZz i];exact fin _ x _ _ hlt (l.trans rfl) y Lq
 ·have q:¬ (i:Int)<(f.a5G.length:Nat):=Om;have:i=f.a5G.length:=Om;subst this;simp only[go_sem,q];exact Up.up Lq (u Z.symm)
theorem SR {a b c d e f:Nat} (h:pJ a b c d e f=true):a≤4∧b≤4∧c≤40∧d≤24∧e≤4∧f≤12:=by
 simp only[pJ,a7E,decide_eq_true_eq] at h;omega
theorem qy {n:Nat} (h:n≤1000):IntKind.i64.wrap ((n:Int)-1)=(n:Int)-1:=wrap_i64 Om Om
def inS:Spec:=fun name vs=>match name,vs with
 | 76,[.int _ n,.int _ lo,.int _ hi]=>some ([],fun _=>aF (.bool (within n lo hi)))
 | _,_=>none
def ut (a5G:Nat) (m:cQ):Bool:=within m.a5P 1 16&&(within m.port 1 64&&within m.law 0 ((a5G:Int)-1))
def T4 (pols:Nat) (v:eO):Bool:=within v.a5L 0 ((pols:Int)-1)
def yG (f:aE):Bool:=(a6L f.a5A.length).all (okL [] (f.a5A.map cQ.name) fun i=>(f.a5A.map (ut f.a5G.length)).getD i false)
theorem aCF {C:Ctx} (L:pP C) (f:aE) (hf:f.Ok) (hz:pJ f.a5G.length f.a5A.length f.a5C.length f.a4Z.length f.a5D.length f.a5B.length=true) (b:Bool) (K:bQ) [Up K] (F:PF) (H:PH)
  (hF:((((((((PF.nil.set 1 (.bG f.cells)).set 4 (.aB)).set 5 (.aB)).set 6 (.aB)).set 7 (.aB)).set 8 (.bool b)).set 10 (.int .i64 0)):PF).le F)
  (R:∀ H',K (.exit 2) ((((((PF.nil.set 1 (.bG f.cells)).set 5 (.aB)).set 6 (.aB)).set 7 (.aB)).set 8 (.bool (b&&yG f)))) H'):aC.wp C (.loop MN) K F H:=by
 obtain⟨β,γ,δ,ε,ζ,η⟩:=SR hz;obtain⟨ok,B⟩:∃ ok,okL [] (f.a5A.map cQ.name) (fun i=>(f.a5A.map (ut f.a5G.length)).getD i false)=ok:=⟨_,rfl⟩;unfold yG at R;rw[B] at R;refine wp_loop (α:=Nat × PV × PH) (fun s=>(((((((PF.nil.set 1 (.bG f.cells)).set 4 (s.2.1)).set 5 (.aB)).set 6 (.aB)).set 7 (.aB)).set 8 (.bool (b&&(a6L s.1).all ok))).set 10 (.int .i64 s.1))) (fun s=>s.2.2) (fun s=>s.1≤f.a5A.length∧gJ s.2.2 s.2.1 [] (f.a5A.map cQ.name) (b&&(a6L s.1).all ok) s.1) (fun s=>f.a5A.length-s.1)
  (0,.aB,H) ⟨a6Q _,⟨[],aN.nil.mV 1,fun _=>rfl⟩⟩ (by
   have e:(b&&(a6L 0).all ok)=b:=by cases b<;>rfl
   simp only[e];exact hF) b_ ?_
 rintro⟨i,w,M⟩ ⟨hi,X⟩;simp only at hi X ⊢;have fin:∀ (c:Bool) (u:PV) (J:PF) (H':PH),i<f.a5A.length→(b&&(a6L (i+1)).all ok)=c→gJ H' u [] (f.a5A.map cQ.name) true (i+1) →
   ((((((((PF.nil.set 1 (.bG f.cells)).set 4 (u)).set 5 (.aB)).set 6 (.aB)).set 7 (.aB)).set 8 (.bool c)).set 10 (.int .i64 (i+1:Nat))):PF).le J →
   fB (fun s:Nat × PV × PH=>(((((((PF.nil.set 1 (.bG f.cells)).set 4 (s.2.1)).set 5 (.aB)).set 6 (.aB)).set 7 (.aB)).set 8 (.bool (b&&(a6L s.1).all ok))).set 10 (.int .i64 s.1))) (fun s=>s.2.2) (fun s=>s.1≤f.a5A.length∧gJ s.2.2 s.2.1 [] (f.a5A.map cQ.name) (b&&(a6L s.1).all ok) s.1) (fun s=>f.a5A.length-s.1) (f.a5A.length-i) K .normal J H' :=
  fun c u J H' hlt hb Q O=>aD (i+1,u,H') ⟨hlt,Q.wu⟩ (by simp only; omega) (by simp only; rw[hb]; exact O) b_
 have d:=rB (p:=ok) i b;have x:(b&&(a6L i).all ok)=(b&&(a6L f.a5A.length).all ok)→K (.exit 2) ((((((PF.nil.set 1 (.bG f.cells)).set 5 (.aB)).set 6 (.aB)).set 7 (.aB)).set 8 (.bool (b&&(a6L i).all ok)))) M:=fun e=>by rw[e]; exact R M
 have A:=fun h=>rA (p:=ok) (b:=b) hi h;generalize hc:(b&&(a6L i).all ok)=c at *
 simp only[go_sem,MN,sa,a6K];by_cases hlt:i<f.a5A.length
 ·have l:(i:Int)<(f.a5A.length:Nat):=Om;cases c with
  | false =>simp only[go_sem,l];exact Up.up Lq (x (A rfl).symm)
  | true =>
   obtain⟨W,g1,g3⟩:=X.ex;have S:(f.a5A.map cQ.cells)[i]?=some (f.a5A[i]).cells:=by simp[hlt]
   have U:i<(f.a5A.map cQ.name).length:=by rw[a6K]; exact hlt
   have E:ok i=(jA ([]++(f.a5A.map cQ.name).take i) ((f.a5A.map cQ.name).getD i [])&&(ut f.a5G.length) f.a5A[i]):=by rw[← B];unfold okL;simp[a7C,hlt]
   rw[E] at d;have y:ut f.a5G.length f.a5A[i]=(within (f.a5A[i]).a5P 1 16&&(within (f.a5A[i]).port 1 64&&within (f.a5A[i]).law 0 ((f.a5G.length:Int)-1))):=rfl;rw[y] at d;simp only[go_sem,l,sb,S];refine aR fun o ho=>?_;have g4:=g1.new ho (.rows 4 [(f.a5A[i]).cells]);have Z:=g4.at 0 rfl;simp only[go_sem];generalize M.set o (.rows 4 [(f.a5A[i]).cells])=H2 at *
   simp only[go_sem,sd,Z];refine gJ.call L.tonY (ns:=(f.a5A.map cQ.name)) g4 (a6Q _) Om (g3 rfl) U (by simp only[go_sem,a8P]) fun u H1 h1 q=>?_;have N:=h1.at 0 rfl;generalize jA ([]++(f.a5A.map cQ.name).take i) ((f.a5A.map cQ.name).getD i [])=Y at *
   cases Y with
   | false =>simp only[go_sem,MP,tI,wZz i];exact fin false u _ _ hlt (d.trans rfl) q Lq
   | true =>
    simp only[go_sem,MP,N];refine aA (L.inn (f.a5A[i]).a5P 1 16) rfl ?_;cases V:within (f.a5A[i]).a5P 1 16 with
    | false =>simp only[go_sem,tI,wZz i];exact fin false u _ _ hlt (by rw[d,V]<;>simp) q Lq
    | true =>
     simp only[go_sem,N];refine aA (L.inn (f.a5A[i]).port 1 64) rfl ?_;cases k1:within (f.a5A[i]).port 1 64 with
     | false =>simp only[go_sem,tI,wZz i];exact fin false u _ _ hlt (by rw[d,V,k1]<;>simp) q Lq
     | true =>simp only[go_sem,N,a6K,qy (Om:f.a5G.length≤1000)];refine aA (L.inn (f.a5A[i]).law 0 ((f.a5G.length:Int)-1)) rfl ?_;simp only[go_sem,tI,wZz i];exact fin _ u _ _ hlt (by rw[d,V,k1]<;>simp) q Lq
 ·have l:¬ (i:Int)<(f.a5A.length:Nat):=Om;have:i=f.a5A.length:=Om;subst this;simp only[go_sem,l];exact Up.up Lq (x hc.symm)
def Hf (f:aE):Bool:=(a6L f.a5B.length).all (okL [] (f.a5B.map eO.name) fun i=>(f.a5B.map (T4 f.a5D.length)).getD i false)
theorem aTM {C:Ctx} (L:pP C) (f:aE) (hf:f.Ok) (hz:pJ f.a5G.length f.a5A.length f.a5C.length f.a4Z.length f.a5D.length f.a5B.length=true) (b:Bool) (K:bQ) [Up K] (F:PF) (H:PH)
  (X:(((((PF.nil.set 1 (.bG f.cells)).set 7 (.aB)).set 8 (.bool b)).set 21 (.int .i64 0)):PF).le F)
  (Q:∀ H',K (.exit 14) (((PF.nil.set 1 (.bG f.cells)).set 8 (.bool (b&&Hf f)))) H'):aC.wp C (.loop xV) K F H:=by
 obtain⟨β,γ,δ,ε,ζ,η⟩:=SR hz;obtain⟨ok,E⟩:∃ ok,okL [] (f.a5B.map eO.name) (fun i=>(f.a5B.map (T4 f.a5D.length)).getD i false)=ok:=⟨_,rfl⟩;unfold Hf at Q;rw[E] at Q;refine wp_loop (α:=Nat × PV × PH) (fun s=>((((PF.nil.set 1 (.bG f.cells)).set 7 (s.2.1)).set 8 (.bool (b&&(a6L s.1).all ok))).set 21 (.int .i64 s.1))) (fun s=>s.2.2) (fun s=>s.1≤f.a5B.length∧gJ s.2.2 s.2.1 [] (f.a5B.map eO.name) (b&&(a6L s.1).all ok) s.1) (fun s=>f.a5B.length-s.1)
  (0,.aB,H) ⟨a6Q _,⟨[],aN.nil.mV 1,fun _=>rfl⟩⟩ (by
   have e:(b&&(a6L 0).all ok)=b:=by cases b<;>rfl
   simp only[e];exact X) b_ ?_
 rintro⟨i,w,U⟩ ⟨hi,V⟩;simp only at hi V ⊢;have fin:∀ (c:Bool) (x:PV) (M:PF) (H':PH),i<f.a5B.length→(b&&(a6L (i+1)).all ok)=c→gJ H' x [] (f.a5B.map eO.name) true (i+1) →
   (((((PF.nil.set 1 (.bG f.cells)).set 7 (x)).set 8 (.bool c)).set 21 (.int .i64 (i+1:Nat))):PF).le M →
   fB (fun s:Nat × PV × PH=>((((PF.nil.set 1 (.bG f.cells)).set 7 (s.2.1)).set 8 (.bool (b&&(a6L s.1).all ok))).set 21 (.int .i64 s.1))) (fun s=>s.2.2) (fun s=>s.1≤f.a5B.length∧gJ s.2.2 s.2.1 [] (f.a5B.map eO.name) (b&&(a6L s.1).all ok) s.1) (fun s=>f.a5B.length-s.1) (f.a5B.length-i) K .normal M H' :=
  fun c x M H' hlt Y O N=>aD (i+1,x,H') ⟨hlt,O.wu⟩ (by simp only; omega) (by simp only; rw[Y]; exact N) b_
 have d:=rB (p:=ok) i b;have q:(b&&(a6L i).all ok)=(b&&(a6L f.a5B.length).all ok)→K (.exit 14) (((PF.nil.set 1 (.bG f.cells)).set 8 (.bool (b&&(a6L i).all ok)))) U:=fun e=>by rw[e]; exact Q U
 have A:=fun h=>rA (p:=ok) (b:=b) hi h;generalize Z:(b&&(a6L i).all ok)=c at *
 simp only[go_sem,xV,s8,a6K];by_cases hlt:i<f.a5B.length
 ·have l:(i:Int)<(f.a5B.length:Nat):=Om;cases c with
  | false =>simp only[go_sem,l];exact Up.up Lq (q (A rfl).symm)
  | true =>
   obtain⟨S,g1,g3⟩:=V.ex;have B:(f.a5B.map eO.cells)[i]?=some (f.a5B[i]).cells:=by simp[hlt]
   have R:i<(f.a5B.map eO.name).length:=by rw[a6K]; exact hlt
   have J:ok i=(jA ([]++(f.a5B.map eO.name).take i) ((f.a5B.map eO.name).getD i [])&&(T4 f.a5D.length) f.a5B[i]):=by rw[← E];unfold okL;simp[a7C,hlt]
   rw[J] at d;have u:T4 f.a5D.length f.a5B[i]=within (f.a5B[i]).a5L 0 ((f.a5D.length:Int)-1):=rfl;rw[u] at d;simp only[go_sem,l,s9,B];refine gJ.call L.tonY (ns:=(f.a5B.map eO.name)) g1 (a6Q _) Om (g3 rfl) R (by simp only[go_sem,a8P]) fun x H1 h1 y=>?_;generalize jA ([]++(f.a5B.map eO.name).take i) ((f.a5B.map eO.name).getD i [])=W at *
   cases W with
   | false =>simp only[go_sem];refine bV .nil (inS) a_ ?_;simp only[go_sem,NC,ND,wZz i];exact fin false x _ _ hlt (d.trans rfl) y Lq
   | true =>simp only[go_sem];refine bV .nil (inS) a_ ?_;simp only[go_sem,NC,B,a6K,qy (Om:f.a5D.length≤1000)];refine bM rfl (L.inn (f.a5B[i]).a5L 0 ((f.a5D.length:Int)-1)) rfl a_ ?_;simp only[go_sem,ND,wZz i];exact fin _ x _ _ hlt (d.trans rfl) y Lq
 ·have l:¬ (i:Int)<(f.a5B.length:Nat):=Om;have:i=f.a5B.length:=Om;subst this;simp only[go_sem,l];exact Up.up Lq (q Z.symm)
def akG:Spec:=fun name vs=>match name,vs with
 | 76,[.int _ n,.int _ lo,.int _ hi]=>some ([],fun _=>aF (.bool (within n lo hi)))
 | 74,[.agg cs]=>some ([],fun _=>aF (.bool (cP (frD cs))))
 | _,_=>none
theorem akH (x:RF):akG 74 [.agg x.cells]=some ([],fun _=>aF (.bool (cP x))):=by
 show some ([],fun _=>aF (.bool (cP (frD x.cells))))=_;rw[yv]
def Jm (f:aE) (i:Nat) (d:cE):Bool :=
 within d.level 1 4&&(within d.parent 0 i&&(((f.a5C.map cE.level).getD d.parent.toNat 0==IntKind.i64.wrap (d.level-1))&&(within d.a5T 1 64&&cP d.a5O)))
theorem aNY (f:aE) (i:Nat) (d:cE):YY f i d=Jm f i d:=by
 unfold YY Jm;have:decide ((f.a5C.map cE.level).getD d.parent.toNat 0=IntKind.i64.wrap (d.level-1))=((f.a5C.map cE.level).getD d.parent.toNat 0==IntKind.i64.wrap (d.level-1)):=by generalize (f.a5C.map cE.level).getD d.parent.toNat 0=u;by_cases h:u=IntKind.i64.wrap (d.level-1)<;>simp[h]
 rw[this];cases within d.parent 0 i<;>cases within d.level 1 4<;>cases within d.a5T 1 64<;>simp
def fY (f:aE):List (List UInt8):=(f.a5C.drop 1).map cE.name
def wS (f:aE) (i:Nat):Bool:=match f.a5C[i+1]? with
 | some d=>Jm f i d
 | none=>false
def wT (f:aE):Bool:=(a6L (f.a5C.length-1)).all (okL [] (fY f) (wS f))
theorem Jl (f:aE):(fY f).length=f.a5C.length-1:=by simp[fY]
theorem aTJ {C:Ctx} (L:pP C) (f:aE) (hf:f.Ok) (μ:f.a5C.length≤40) (h0:0<f.a5C.length) (b:Bool) (K:bQ) [Up K] (F:PF) (H:PH)
  (hF:(((((((PF.nil.set 1 (.bG f.cells)).set 5 (.aB)).set 6 (.aB)).set 7 (.aB)).set 8 (.bool b)).set 13 (.int .i64 1)):PF).le F)
  (V:∀ w H',gJ H' w [] (fY f) (b&&wT f) (f.a5C.length-1)→K (.exit 4) ((((((PF.nil.set 1 (.bG f.cells)).set 5 (w)).set 6 (.aB)).set 7 (.aB)).set 8 (.bool (b&&wT f)))) H'):aC.wp C (.loop xR) K F H:=by
 obtain⟨ok,O⟩:∃ ok,okL [] (fY f) (wS f)=ok:=⟨_,rfl⟩;unfold wT at V;rw[O] at V;obtain⟨n,hn⟩:∃ n,f.a5C.length=n+1:=⟨f.a5C.length-1,by omega⟩;have η:=Jl f;have ζ:f.a5C.length-1=n:=Om;rw[ζ] at V η;refine wp_loop (α:=Nat × PV × PH) (fun s=>((((((PF.nil.set 1 (.bG f.cells)).set 5 (s.2.1)).set 6 (.aB)).set 7 (.aB)).set 8 (.bool (b&&(a6L s.1).all ok))).set 13 (.int .i64 (s.1+1:Nat)))) (fun s=>s.2.2) (fun s=>s.1≤n∧gJ s.2.2 s.2.1 [] (fY f) (b&&(a6L s.1).all ok) s.1) (fun s=>n-s.1)
  (0,.aB,H) ⟨a6Q _,⟨[],aN.nil.mV 1,fun _=>rfl⟩⟩ (by
   have e:(b&&(a6L 0).all ok)=b:=by cases b<;>rfl
   simp only[e];exact hF) b_ ?_
 rintro⟨i,w,X⟩ ⟨hi,Z⟩;simp only at hi Z ⊢;have fin:∀ (c:Bool) (y:PV) (W:PF) (H':PH),i<n→(b&&(a6L (i+1)).all ok)=c→gJ H' y [] (fY f) true (i+1) →
   (((((((PF.nil.set 1 (.bG f.cells)).set 5 (y)).set 6 (.aB)).set 7 (.aB)).set 8 (.bool c)).set 13 (.int .i64 (i+1+1:Nat))):PF).le W →
   fB (fun s:Nat × PV × PH=>((((((PF.nil.set 1 (.bG f.cells)).set 5 (s.2.1)).set 6 (.aB)).set 7 (.aB)).set 8 (.bool (b&&(a6L s.1).all ok))).set 13 (.int .i64 (s.1+1:Nat)))) (fun s=>s.2.2) (fun s=>s.1≤n∧gJ s.2.2 s.2.1 [] (fY f) (b&&(a6L s.1).all ok) s.1) (fun s=>n-s.1) (n-i) K .normal W H' :=
  fun c y W H' hlt hb β Y=>aD (i+1,y,H') ⟨hlt,β.wu⟩ (by simp only; omega) (by simp only; rw[hb]; exact Y) b_
 have d:=rB (p:=ok) i b;have M:=fun h=>rA (p:=ok) (b:=b) hi h;have B:(b&&(a6L i).all ok)=(b&&(a6L n).all ok)→((b&&(a6L i).all ok)=true→i=n)→K (.exit 4) ((((((PF.nil.set 1 (.bG f.cells)).set 5 (w)).set 6 (.aB)).set 7 (.aB)).set 8 (.bool (b&&(a6L i).all ok)))) X:=fun e e2=>by
  obtain⟨x,g1,g3⟩:=Z.ex;have:=V w X ⟨x,g1,fun h=>by have h':=e.trans h;rw[g3 h',e2 h']⟩
  rwa [← e] at this
 generalize hc:(b&&(a6L i).all ok)=c at *
 simp only[go_sem,xR,sf,a6K];by_cases hlt:i<n
 ·have q:((i+1:Nat):Int)<(f.a5C.length:Nat):=Om;cases c with
  | false =>simp only[go_sem,q];exact Up.up Lq (B (M rfl).symm (fun h=>by cases h))
  | true =>
   obtain⟨x,g1,g3⟩:=Z.ex;have E:i+1<f.a5C.length:=Om;have γ:=eY E;have ε:i<(fY f).length:=Om;have θ:(fY f)[i]=(f.a5C[i+1]).name:=by simp[fY,Nat.add_comm]
   have Q:ok i=(jA ([]++(fY f).take i) ((fY f).getD i [])&&Jm f i f.a5C[i+1]):=by rw[← O];unfold okL wS;rw[a6Y E]
   have δ:=hf.dom _ (a6M E);rw[Q] at d;unfold Jm at d;have e1:IntKind.i64.wrap (((i+1:Nat):Int)-1)=(i:Nat):=by rw[wrap_i64 Om Om]; omega
   have l:IntKind.i64.wrap (((i+1:Nat):Int)+1)=((i+1+1:Nat):Int):=cW Om;have κ:=L.small _ δ.1;simp only[go_sem,q,sg,γ];refine aR fun o ho=>?_;have g4:=g1.new ho (.rows 7 [(f.a5C[i+1]).cells]);have g5:=g4.at 0 rfl;simp only[go_sem];generalize X.set o (.rows 7 [(f.a5C[i+1]).cells])=H2 at *
   simp only[go_sem,sj,g5];refine gJ.call L.tonY (ns:=fY f) g4 (a6Q _) Om (g3 rfl) ε (by simp only[go_sem,θ]) fun y H1 h1 u=>?_;have J:=h1.at 0 rfl;generalize jA ([]++(fY f).take i) ((fY f).getD i [])=fb at *
   generalize hd:f.a5C[i+1]=A at *
   cases fb with
   | false =>simp only[go_sem];refine bV .nil akG a_ ?_;simp only[go_sem,MS,nN,l];exact fin false y _ _ hlt (d.trans rfl) u Lq
   | true =>
    simp only[go_sem];refine bV .nil akG a_ ?_;simp only[go_sem,MS,J];refine bM rfl (L.inn A.level 1 4) rfl a_ ?_;cases U:within A.level 1 4 with
    | false =>simp only[go_sem,nN,l];exact fin false y _ _ hlt (by rw[d,U]<;>simp) u Lq
    | true =>
     simp only[go_sem,J,e1];refine bM rfl (L.inn A.parent 0 (i:Nat)) rfl a_ ?_;cases k1:within A.parent 0 (i:Nat) with
     | false =>simp only[go_sem,nN,l];exact fin false y _ _ hlt (by rw[d,U,k1]<;>simp) u Lq
     | true =>
      obtain⟨p0,p1⟩:=within_iff.1 k1;obtain⟨p,hp⟩:∃ p:Nat,A.parent=p:=⟨A.parent.toNat,by omega⟩;have S:p<f.a5C.length:=Om;obtain⟨lv,N⟩:∃ lv,(f.a5C.map cE.level).getD A.parent.toNat 0=lv:=⟨_,rfl⟩;have ι:(f.a5C[p]).level=lv:=by rw[← N,hp,a8G,getD_at S]
      rw[N] at d;have R:=eY S;simp only[go_sem,J,hp,R,ι];cases k2:lv==IntKind.i64.wrap (A.level-1) with
      | false =>simp only[go_sem,nN,l];exact fin false y _ _ hlt (by rw[d,U,k1,k2]<;>simp) u Lq
      | true =>
       simp only[go_sem,J];refine bM rfl (L.inn A.a5T 1 64) rfl a_ ?_;cases k3:within A.a5T 1 64 with
       | false =>simp only[go_sem,nN,l];exact fin false y _ _ hlt (by rw[d,U,k1,k2,k3]<;>simp) u Lq
       | true =>simp only[go_sem,J];refine bM (akH _) κ rfl a_ ?_;simp only[go_sem,nN,l];exact fin _ y _ _ hlt (by rw[d,U,k1,k2,k3]<;>simp) u Lq
 ·have q:¬ ((i+1:Nat):Int)<(f.a5C.length:Nat):=Om;have:i=n:=Om;subst this;simp only[go_sem,q];exact Up.up Lq (B hc.symm (fun _=>rfl))
def Jp (f:aE) (d:dN):Bool:=within d.model 0 ((f.a5A.length:Int)-1)&&(within d.machine 0 ((f.a5C.length:Int)-1)&&((f.a5C.map cE.level).getD d.machine.toNat 0==4))
def lI (f:aE):List (List UInt8):=f.a4Z.map dN.name
def uP (f:aE) (i:Nat):Bool:=match f.a4Z[i]? with
 | some d=>Jp f d
 | none=>false
def xY (f:aE):Bool:=(a6L f.a4Z.length).all (okL (fY f) (lI f) (uP f))
theorem aCE {C:Ctx} (L:pP C) (f:aE) (hf:f.Ok) (ι:f.a5C.length≤40) (h0:0<f.a5C.length) (κ:f.a4Z.length≤24) (θ:f.a5A.length≤4) (b:Bool) (w0:PV) (K:bQ) [Up K] (F:PF) (H:PH)
  (Z:gJ H w0 [] (fY f) b (f.a5C.length-1)) (hF:(((((((PF.nil.set 1 (.bG f.cells)).set 5 (w0)).set 6 (.aB)).set 7 (.aB)).set 8 (.bool b)).set 15 (.int .i64 0)):PF).le F)
  (S:∀ H',K (.exit 6) (((((PF.nil.set 1 (.bG f.cells)).set 6 (.aB)).set 7 (.aB)).set 8 (.bool (b&&xY f)))) H'):aC.wp C (.loop xS) K F H:=by
 obtain⟨ok,N⟩:∃ ok,okL (fY f) (lI f) (uP f)=ok:=⟨_,rfl⟩;unfold xY at S;rw[N] at S;obtain⟨n,hn⟩:∃ n,f.a4Z.length=n:=⟨_,rfl⟩;have ζ:=Jl f;have η:(lI f).length=n:=by simp[lI,hn]
 rw[hn] at S;refine wp_loop (α:=Nat × PV × PH) (fun s=>((((((PF.nil.set 1 (.bG f.cells)).set 5 (s.2.1)).set 6 (.aB)).set 7 (.aB)).set 8 (.bool (b&&(a6L s.1).all ok))).set 15 (.int .i64 s.1))) (fun s=>s.2.2) (fun s=>s.1≤n∧gJ s.2.2 s.2.1 (fY f) (lI f) (b&&(a6L s.1).all ok) s.1) (fun s=>n-s.1)
  (0,w0,H) ⟨a6Q _,by
   obtain⟨u,q1,q2⟩:=Z.ex;have e:(b&&(a6L 0).all ok)=b:=by cases b<;>rfl
   refine⟨u,q1,fun h=>?_⟩;simp only[e] at h;rw[q2 h,List.nil_append,a7F Om];simp⟩ (by
   have e:(b&&(a6L 0).all ok)=b:=by cases b<;>rfl
   simp only[e];exact hF) b_ ?_
 rintro⟨i,w,V⟩ ⟨hi,hG⟩;simp only at hi hG ⊢;have fin:∀ (c:Bool) (y:PV) (U:PF) (H':PH),i<n→(b&&(a6L (i+1)).all ok)=c→gJ H' y (fY f) (lI f) true (i+1) →
   (((((((PF.nil.set 1 (.bG f.cells)).set 5 (y)).set 6 (.aB)).set 7 (.aB)).set 8 (.bool c)).set 15 (.int .i64 (i+1:Nat))):PF).le U →
   fB (fun s:Nat × PV × PH=>((((((PF.nil.set 1 (.bG f.cells)).set 5 (s.2.1)).set 6 (.aB)).set 7 (.aB)).set 8 (.bool (b&&(a6L s.1).all ok))).set 15 (.int .i64 s.1))) (fun s=>s.2.2) (fun s=>s.1≤n∧gJ s.2.2 s.2.1 (fY f) (lI f) (b&&(a6L s.1).all ok) s.1) (fun s=>n-s.1) (n-i) K .normal U H' :=
  fun c y U H' hlt hb Y X=>aD (i+1,y,H') ⟨hlt,Y.wu⟩ (by simp only; omega) (by simp only; rw[hb]; exact X) b_
 have d:=rB (p:=ok) i b;have E:=fun h=>rA (p:=ok) (b:=b) hi h;have A:(b&&(a6L i).all ok)=(b&&(a6L n).all ok)→K (.exit 6) (((((PF.nil.set 1 (.bG f.cells)).set 6 (.aB)).set 7 (.aB)).set 8 (.bool (b&&(a6L i).all ok)))) V:=fun e=>by rw[e]; exact S V
 generalize hc:(b&&(a6L i).all ok)=c at *
 simp only[go_sem,xS,sk,a6K];by_cases hlt:i<n
 ·have l:((i:Nat):Int)<(f.a4Z.length:Nat):=Om;cases c with
  | false =>simp only[go_sem,l];exact Up.up Lq (A (E rfl).symm)
  | true =>
   obtain⟨u,g1,g3⟩:=hG.ex;have J:i<f.a4Z.length:=Om;have β:=pD J;have γ:i<(lI f).length:=Om;have δ:(lI f)[i]=(f.a4Z[i]).name:=by simp[lI]
   have O:ok i=(jA (fY f++(lI f).take i) ((lI f).getD i [])&&Jp f f.a4Z[i]):=by rw[← N];unfold okL uP;rw[a6Y J]
   rw[O] at d;unfold Jp at d;have q:IntKind.i64.wrap ((i:Int)+1)=((i+1:Nat):Int):=cW Om;have e1:=qy (Om:f.a5A.length≤1000);have e2:=qy (Om:f.a5C.length≤1000);simp only[go_sem,l,sm,β];refine aR fun o ho=>?_;have g4:=g1.new ho (.rows 3 [(f.a4Z[i]).cells]);have g5:=g4.at 0 rfl;simp only[go_sem];generalize V.set o (.rows 3 [(f.a4Z[i]).cells])=H2 at *
   simp only[go_sem,sn,g5];refine gJ.call L.tonY (base:=fY f) (ns:=lI f) g4 Om Om (g3 rfl) γ (by simp only[go_sem,δ]) fun y H1 h1 x=>?_;have W:=h1.at 0 rfl;generalize jA (fY f++(lI f).take i) ((lI f).getD i [])=fb at *
   generalize hd:f.a4Z[i]=B at *
   cases fb with
   | false =>simp only[go_sem,MU,tJ,q];exact fin false y _ _ hlt (d.trans rfl) x Lq
   | true =>
    simp only[go_sem,MU,W,a6K,e1];refine aA (L.inn B.model 0 ((f.a5A.length:Int)-1)) rfl ?_;cases k0:within B.model 0 ((f.a5A.length:Int)-1) with
    | false =>simp only[go_sem,tJ,q];exact fin false y _ _ hlt (by rw[d,k0]<;>simp) x Lq
    | true =>
     simp only[go_sem,W,a6K,e2];refine aA (L.inn B.machine 0 ((f.a5C.length:Int)-1)) rfl ?_;cases k1:within B.machine 0 ((f.a5C.length:Int)-1) with
     | false =>simp only[go_sem,tJ,q];exact fin false y _ _ hlt (by rw[d,k0,k1]<;>simp) x Lq
     | true =>
      obtain⟨p0,p1⟩:=within_iff.1 k1;obtain⟨p,hp⟩:∃ p:Nat,B.machine=p:=⟨B.machine.toNat,by omega⟩;have R:p<f.a5C.length:=Om;obtain⟨lv,M⟩:∃ lv,(f.a5C.map cE.level).getD B.machine.toNat 0=lv:=⟨_,rfl⟩;have ε:(f.a5C[p]).level=lv:=by rw[← M,hp,a8G,getD_at R]
      rw[M] at d;have Q:=eY R;simp only[go_sem,W,hp,Q,ε,tJ,q];exact fin _ y _ _ hlt (by rw[d,k0,k1]<;>simp) x Lq
 ·have l:¬ ((i:Nat):Int)<(f.a4Z.length:Nat):=Om;have:i=n:=Om;subst this;simp only[go_sem,l];exact Up.up Lq (A hc.symm)
theorem aa {xs:List Int} {k:Nat} (h:k<xs.length):(xs.map fun x=>[PV.int .i64 x])[k]?=some [.int .i64 xs[k]]:=by simp[h]
def zpF (f:aE) (w:PV) (o i:Nat) (c:Bool) (j:Nat):PF:=(((((((PF.nil.set 1 (.bG f.cells)).set 6 (w)).set 7 (.aB)).set 8 (.bool c)).set 17 (.int .i64 i)).set 18 (.ptr o 17 0 0)).set 19 (.int .i64 j))
theorem aMK {C:Ctx} (f:aE) (w:PV) (o i:Nat) (p:bT) (M:p.a5A.length≤9223372036854775807) (j:Nat) (B:j<p.a5A.length) (b:Bool) (K:bQ) [Up K] (F:PF) (H:PH) (E:H o=some (.rows 17 [p.cells])) (y:((zpF f w o i b j).set 20 (.int .i64 0)).le F)
  (A:K (.exit 12) (zpF f w o i (b&&(p.a5A.take j).all fun x=>x != p.a5A[j]) j) H):aC.wp C (.loop MO) K F H:=by
 refine wp_loop (α:=Nat) (fun k=>(zpF f w o i (b&&(p.a5A.take k).all fun x=>x != p.a5A[j]) j).set 20 (.int .i64 k)) (fun _=>H) (fun k=>k≤j) (fun k=>j-k) 0 (a6Q _) (by
   have e:(b&&(p.a5A.take 0).all fun x=>x != p.a5A[j])=b:=by cases b<;>rfl
   simp only[e];exact y) b_ ?_
 intro k J;have q:∀ h:k<p.a5A.length,(b&&(p.a5A.take (k+1)).all fun x=>x != p.a5A[j])=((b&&(p.a5A.take k).all fun x=>x != p.a5A[j])&&(p.a5A[k] != p.a5A[j])):=fun h=>by rw[a8E h,a9X];simp[a9L]
 have fin:∀ (c:Bool) (u:PF),k<j→(b&&(p.a5A.take (k+1)).all fun x=>x != p.a5A[j])=c→((zpF f w o i c j).set 20 (.int .i64 (k+1:Nat))).le u→fB (fun k:Nat=>(zpF f w o i (b&&(p.a5A.take k).all fun x=>x != p.a5A[j]) j).set 20 (.int .i64 k)) (fun _=>H) (fun k=>k≤j) (fun k=>j-k) (j-k) K .normal u H :=
  fun c u hlt e h=>aD (k+1) hlt Om (by rw[e]; exact h) b_
 unfold zpF at fin;simp only[go_sem,MO,sy,zpF];by_cases hlt:k<j
 ·have d:(k:Int)<(j:Nat):=Om;have l:k<p.a5A.length:=Om;have q:=q l;generalize (b&&(p.a5A.take k).all fun x=>x != p.a5A[j])=c at *
  simp only[go_sem,d];refine bV .nil eM a_ ?_;cases c with
  | false =>simp only[go_sem,MX,MY,wZz k];exact fin false _ hlt (q.trans rfl) Lq
  | true =>simp only[go_sem,MX,E,aa l,aa B,MY,wZz k];exact fin _ _ hlt (q.trans rfl) Lq
 ·have d:¬ (k:Int)<(j:Nat):=Om;have:k=j:=Om;subst this;simp only[go_sem,d];exact Up.up (by (repeat' (first|exact c_|refine d_ ?_ ?_))<;>first|(simp only[go_sem,zpF]<;>rfl)|rfl) A
def JZ (a5A:Nat) (ms:List Int) (j:Nat):Bool:=within (ms.getD j 0) 0 ((a5A:Int)-1)&&(ms.take j).all fun x=>x != ms.getD j 0
theorem aCB {C:Ctx} (L:pP C) (f:aE) (U:f.a5A.length≤4) (w:PV) (o i:Nat) (p:bT) (S:p.a5A.length≤9223372036854775807) (b:Bool) (K:bQ) [Up K] (F:PF) (H:PH) (B:H o=some (.rows 17 [p.cells])) (N:(zpF f w o i b 0).le F)
  (J:K (.exit 10) ((((((PF.nil.set 1 (.bG f.cells)).set 6 (w)).set 7 (.aB)).set 8 (.bool (b&&(a6L p.a5A.length).all (JZ f.a5A.length p.a5A)))).set 17 (.int .i64 i))) H):aC.wp C (.loop xT) K F H:=by
 obtain⟨ok,y⟩:∃ ok,JZ f.a5A.length p.a5A=ok:=⟨_,rfl⟩;rw[y] at J;refine wp_loop (α:=Nat) (fun j=>zpF f w o i (b&&(a6L j).all ok) j) (fun _=>H) (fun j=>j≤p.a5A.length) (fun j=>p.a5A.length-j) 0 (a6Q _) (by
   have e:(b&&(a6L 0).all ok)=b:=by cases b<;>rfl
   simp only[e];exact N) b_ ?_
 intro j R;have l:=rB (p:=ok) j b;have u:=fun h=>rA (p:=ok) (b:=b) R h;have fin:∀ (c:Bool) (A:PF),j<p.a5A.length→(b&&(a6L (j+1)).all ok)=c→(zpF f w o i c (j+1)).le A→fB (fun j:Nat=>zpF f w o i (b&&(a6L j).all ok) j) (fun _=>H) (fun j=>j≤p.a5A.length) (fun j=>p.a5A.length-j) (p.a5A.length-j) K .normal A H :=
  fun c A hlt e h=>aD (j+1) hlt Om (by rw[e]; exact h) b_
 unfold zpF at fin;have q:(b&&(a6L j).all ok)=(b&&(a6L p.a5A.length).all ok)→K (.exit 10) ((((((PF.nil.set 1 (.bG f.cells)).set 6 (w)).set 7 (.aB)).set 8 (.bool (b&&(a6L j).all ok))).set 17 (.int .i64 i))) H:=fun e=>by rw[e]; exact J
 generalize O:(b&&(a6L j).all ok)=c at *
 simp only[go_sem,xT,sv,zpF,B,a6K];by_cases hlt:j<p.a5A.length
 ·have d:(j:Int)<(p.a5A.length:Nat):=Om;cases c with
  | false =>simp only[go_sem,d];exact Up.up Lq (q (u rfl).symm)
  | true =>
   have M:=qy (Om:f.a5A.length≤1000);have Q:p.a5A.getD j 0=p.a5A[j]:=by simp[a7C,hlt]
   have E:ok j=(within p.a5A[j] 0 ((f.a5A.length:Int)-1)&&(p.a5A.take j).all fun x=>x != p.a5A[j]):=by rw[← y];unfold JZ;rw[Q]
   rw[E] at l;simp only[go_sem,d];refine bV .nil akG a_ ?_;simp only[go_sem,sw,B,aa hlt,a6K,M];refine bM rfl (L.inn p.a5A[j] 0 ((f.a5A.length:Int)-1)) Sq a_ ?_;simp only[go_sem,sx];refine aMK f w o i p S j hlt (within p.a5A[j] 0 ((f.a5A.length:Int)-1)) _ _ _ B (by (repeat' (first|exact c_|refine d_ ?_ ?_))<;>first|(simp only[go_sem,zpF]<;>rfl)|rfl) ?_;simp only[go_sem,zpF,s7,wZz j];exact fin _ _ hlt (l.trans rfl) Lq
 ·have d:¬ (j:Int)<(p.a5A.length:Nat):=Om;have:j=p.a5A.length:=Om;subst this;simp only[go_sem,d];exact Up.up Lq (q O.symm)
def Ql (a5A:Nat) (p:bT):Bool:=JT p.k p.m p.a5X p.s0 p.s1 p.s2 p.s3 p.s4&&(PA p.m p.repair p.target p.a5J&&(decide (p.a5A.length>0)&&(a6L p.a5A.length).all (JZ a5A p.a5A)))
theorem aQK (a5A:Nat) (p:bT):kI a5A p=Ql a5A p:=by
 unfold kI Ql;rw[aQC,aUD];have c:decide (p.a5A.length≠0)=decide (p.a5A.length>0):=decide_eq_decide.2 Om;have d:(a6L p.a5A.length).all (fun j=>within (p.a5A.getD j 0) 0 ((a5A:Int)-1)&&!(p.a5A.take j).contains (p.a5A.getD j 0))=(a6L p.a5A.length).all (JZ a5A p.a5A):=by
  congr 1;funext j;unfold JZ;congr 1;generalize p.a5A.getD j 0=x
  induction p.a5A.take j with
  | nil=>rfl
  | cons a t e =>rw[List.contains_cons,List.all_cons,← e,Bool.not_or,bne,BEq.comm]
 rw[c,d];cases JT p.k p.m p.a5X p.s0 p.s1 p.s2 p.s3 p.s4<;>cases PA p.m p.repair p.target p.a5J<;>cases decide (p.a5A.length>0)<;>simp
structure UC (C:Ctx):Prop extends pP C where
 dur:∀ (m:Int) (rep:List RF),gY rep→∀ t h:RF,t.Ok→h.Ok→aG C 69 [.int .i64 m,frs rep,.agg t.cells,.agg h.cells] .nil (aF (.bool (PA m rep t h)))
def kG (f:aE):List (List UInt8):=f.a5D.map bT.name
def JY (f:aE) (i:Nat):Bool:=match f.a5D[i]? with
 | some p=>Ql f.a5A.length p
 | none=>false
def l3 (f:aE):Bool:=(a6L f.a5D.length).all (okL [] (kG f) (JY f))
theorem aTL {C:Ctx} (L:UC C) (f:aE) (hf:f.Ok) (δ:f.a5D.length≤4) (Z:f.a5A.length≤4) (b:Bool) (K:bQ) [Up K] (F:PF) (H:PH)
  (hF:((((((PF.nil.set 1 (.bG f.cells)).set 6 (.aB)).set 7 (.aB)).set 8 (.bool b)).set 17 (.int .i64 0)):PF).le F)
  (S:∀ H',K (.exit 8) ((((PF.nil.set 1 (.bG f.cells)).set 7 (.aB)).set 8 (.bool (b&&l3 f)))) H'):aC.wp C (.loop xU) K F H:=by
 obtain⟨ok,E⟩:∃ ok,okL [] (kG f) (JY f)=ok:=⟨_,rfl⟩;unfold l3 at S;rw[E] at S;have γ:(kG f).length=f.a5D.length:=by simp[kG]
 refine wp_loop (α:=Nat × PV × PH) (fun s=>(((((PF.nil.set 1 (.bG f.cells)).set 6 (s.2.1)).set 7 (.aB)).set 8 (.bool (b&&(a6L s.1).all ok))).set 17 (.int .i64 s.1))) (fun s=>s.2.2) (fun s=>s.1≤f.a5D.length∧gJ s.2.2 s.2.1 [] (kG f) (b&&(a6L s.1).all ok) s.1) (fun s=>f.a5D.length-s.1)
  (0,.aB,H) ⟨a6Q _,⟨[],aN.nil.mV 1,fun _=>rfl⟩⟩ (by
   have e:(b&&(a6L 0).all ok)=b:=by cases b<;>rfl
   simp only[e];exact hF) b_ ?_
 rintro⟨i,w,O⟩ ⟨hi,hG⟩;simp only at hi hG ⊢;have fin:∀ (c:Bool) (x:PV) (y:PF) (H':PH),i<f.a5D.length→(b&&(a6L (i+1)).all ok)=c→gJ H' x [] (kG f) true (i+1) →
   ((((((PF.nil.set 1 (.bG f.cells)).set 6 (x)).set 7 (.aB)).set 8 (.bool c)).set 17 (.int .i64 (i+1:Nat))):PF).le y →
   fB (fun s:Nat × PV × PH=>(((((PF.nil.set 1 (.bG f.cells)).set 6 (s.2.1)).set 7 (.aB)).set 8 (.bool (b&&(a6L s.1).all ok))).set 17 (.int .i64 s.1))) (fun s=>s.2.2) (fun s=>s.1≤f.a5D.length∧gJ s.2.2 s.2.1 [] (kG f) (b&&(a6L s.1).all ok) s.1) (fun s=>f.a5D.length-s.1) (f.a5D.length-i) K .normal y H' :=
  fun c x y H' hlt hb Q A=>aD (i+1,x,H') ⟨hlt,Q.wu⟩ (by simp only; omega) (by simp only; rw[hb]; exact A) b_
 have d:=rB (p:=ok) i b;have B:=fun h=>rA (p:=ok) (b:=b) hi h;have u:(b&&(a6L i).all ok)=(b&&(a6L f.a5D.length).all ok)→K (.exit 8) ((((PF.nil.set 1 (.bG f.cells)).set 7 (.aB)).set 8 (.bool (b&&(a6L i).all ok)))) O:=fun e=>by rw[e]; exact S O
 generalize hc:(b&&(a6L i).all ok)=c at *
 simp only[go_sem,xU,so,a6K];by_cases hlt:i<f.a5D.length
 ·have l:(i:Int)<(f.a5D.length:Nat):=Om;cases c with
  | false =>simp only[go_sem,l];exact Up.up Lq (u (B rfl).symm)
  | true =>
   obtain⟨β,g1,g3⟩:=hG.ex;have U:=V4 hlt;have X:i<(kG f).length:=Om;have Y:(kG f)[i]=(f.a5D[i]).name:=by simp[kG]
   have J:ok i=(jA ([]++(kG f).take i) ((kG f).getD i [])&&Ql f.a5A.length f.a5D[i]):=by rw[← E];unfold okL JY;rw[a6Y hlt]
   have q:=hf.a5L _ (a6M hlt);rw[J] at d;unfold Ql at d;have M:IntKind.i64.wrap ((i:Int)+1)=((i+1:Nat):Int):=cW Om;simp only[go_sem,l,sr,U];refine aR fun o ho=>?_;have g4:=g1.new ho (.rows 17 [(f.a5D[i]).cells]);have g5:=g4.at 0 rfl;simp only[go_sem];generalize O.set o (.rows 17 [(f.a5D[i]).cells])=H2 at *
   simp only[go_sem,su,g5];refine gJ.call L.tonY (ns:=kG f) g4 (a6Q _) Om (g3 rfl) X (by simp only[go_sem,Y]) fun x H1 h1 R=>?_;have N:=h1.at 0 rfl;generalize jA ([]++(kG f).take i) ((kG f).getD i [])=fb at *
   generalize hd:f.a5D[i]=p at *
   have rest:∀ (c:Bool) (y:PF),(zpF f x o i c 0).le y→(c&&(a6L p.a5A.length).all (JZ f.a5A.length p.a5A))=(b&&(a6L (i+1)).all ok) →
     aC.wp C (.loop xT) (eP 10 (eP 9 (fV C (aC.wp C (.region MZ)) (fB (fun s:Nat × PV × PH=>(((((PF.nil.set 1 (.bG f.cells)).set 6 (s.2.1)).set 7 (.aB)).set 8 (.bool (b&&(a6L s.1).all ok))).set 17 (.int .i64 s.1))) (fun s=>s.2.2) (fun s=>s.1≤f.a5D.length∧gJ s.2.2 s.2.1 [] (kG f) (b&&(a6L s.1).all ok) s.1) (fun s=>f.a5D.length-s.1) (f.a5D.length-i) K)))) y H1:=by
    intro c y A V;refine aCB L.topP f Z x o i p q.a5A c _ _ _ N A ?_;rw[V];simp only[go_sem,MZ,M];exact fin _ x _ _ hlt rfl R Lq
   cases fb with
   | false =>simp only[go_sem,MW,tK];exact rest false _ (by (repeat' (first|exact c_|refine d_ ?_ ?_))<;>first|(simp only[go_sem,zpF]<;>rfl)|rfl) (by rw[d]; rfl)
   | true =>
    simp only[go_sem,MW,N];refine aA (L.nums p.k p.m p.a5X p.s0 p.s1 p.s2 p.s3 p.s4) Sq ?_;cases k0:JT p.k p.m p.a5X p.s0 p.s1 p.s2 p.s3 p.s4 with
    | false =>simp only[go_sem,tK];exact rest false _ (by (repeat' (first|exact c_|refine d_ ?_ ?_))<;>first|(simp only[go_sem,zpF]<;>rfl)|rfl) (by rw[d,k0]; rfl)
    | true =>
     simp only[go_sem,N];refine aA (L.dur p.m p.repair q.repair p.target p.a5J q.target q.a5J) Sq ?_;cases k1:PA p.m p.repair p.target p.a5J with
     | false =>simp only[go_sem,tK];exact rest false _ (by (repeat' (first|exact c_|refine d_ ?_ ?_))<;>first|(simp only[go_sem,zpF]<;>rfl)|rfl) (by rw[d,k0,k1]; rfl)
     | true =>have W:decide ((p.a5A.length:Int)>0)=decide (p.a5A.length>0):=decide_eq_decide.2 Om;simp only[go_sem,N,a6K,W,tK];exact rest _ _ (by (repeat' (first|exact c_|refine d_ ?_ ?_))<;>first|(simp only[go_sem,zpF]<;>rfl)|rfl) (by rw[d,k0,k1]; rfl)
 ·have l:¬ (i:Int)<(f.a5D.length:Nat):=Om;have:i=f.a5D.length:=Om;subst this;simp only[go_sem,l];exact Up.up Lq (u hc.symm)
def qH (r:cE):Bool:=(r.name==[])&&((r.level==0)&&((r.parent==-1)&&((r.a5T==0)&&(cR (val r.a5O.num) (val r.a5O.den)&&(qZ r.a5O==0)))))
def amL (f:aE):Bool:=match f.a5C with
 | []=>false
 | r::_=>qH r
def aHF (f:aE):Bool:=within f.a6D 1 4&&(pJ f.a5G.length f.a5A.length f.a5C.length f.a4Z.length f.a5D.length f.a5B.length&&(decide (0<f.a5C.length)&&((((((IJ f&&yG f)&&amL f)&&wT f)&&xY f)&&l3 f)&&Hf f)))
theorem W6 (n:Nat) (p q:Nat→Bool):(a6L n).all (fun i=>p i&&q i)=((a6L n).all p&&(a6L n).all q):=by
 induction n with
 | zero=>rfl
 | succ n c =>simp only[a9U,a9X,c,List.all_cons,List.all_nil,a8V];cases (a6L n).all p<;>cases (a6L n).all q<;>cases p n<;>simp
theorem yU {α:Type} (l:List α) (p:α→Bool):(a6L l.length).all (fun i=>(l.map p).getD i false)=l.all p:=by
 refine Bool.eq_iff_iff.2 ?_;rw[a7B,a7B];constructor
 ·intro h x c;obtain⟨i,hi,rfl⟩:=a9C c;have:=h i (a7P.2 hi);simpa [a7C,hi] using this
 ·intro h i hi;have hi:=a7P.1 hi;simp[a7C,hi,h _ (a6M hi)]
theorem FP (ns:List (List UInt8)) (n:Nat) (c:ns.length=n) (P:Nat→Bool):(a6L n).all (okL [] ns P)=(distinct ns&&(a6L n).all P):=by
 subst c;have:okL [] ns P=fun i=>(isName (ns.getD i [])&&!(ns.take i).contains (ns.getD i []))&&P i:=by funext i;rfl
 rw[this,W6];rfl
theorem aQE (base ns:List (List UInt8)) (P Q:Nat→Bool):((a6L base.length).all (okL [] base P)&&(a6L ns.length).all (okL base ns Q))=(distinct (base++ns)&&((a6L base.length).all P&&(a6L ns.length).all Q)):=by
 have c:okL base ns Q=fun i=>(isName (ns.getD i [])&&!(base++ns.take i).contains (ns.getD i []))&&Q i:=by funext i;rfl
 have d:distinct (base++ns)=(distinct base&&(a6L ns.length).all fun i=>isName (ns.getD i [])&&!(base++ns.take i).contains (ns.getD i [])):=by
  unfold distinct;rw[a6T,List.range_add,a9X,List.all_map];congr 1
  ·refine Bool.eq_iff_iff.2 ?_;rw[a7B,a7B];refine forall_congr' fun i=>forall_congr' fun hi=>?_;have hi:=a7P.1 hi;have a1:(base++ns).getD i []=base.getD i []:=by simp only[a7C];rw[a8Z hi]
   have a2:(base++ns).take i=base.take i:=by rw[List.take_append_of_le_length Om]
   rw[a1,a2]
  ·refine Bool.eq_iff_iff.2 ?_;rw[a7B,a7B];refine forall_congr' fun i=>forall_congr' fun _=>?_;have a1:(base++ns).getD (base.length+i) []=ns.getD i []:=by simp only[a7C];rw[a9B Om];congr 2;omega
   have a2:(base++ns).take (base.length+i)=base++ns.take i:=by rw[List.take_append,a7F Om]; congr 2; omega
   simp only[Function.comp,a1,a2]
 rw[FP base base.length rfl P,c,W6,d];cases distinct base<;>cases (a6L base.length).all P<;>simp
theorem aHL (r:cE):(decide (r.name=[])&&decide (r.level=0)&&decide (r.parent=-1)&&decide (r.a5T=0)&&cP r.a5O&&!cH r.a5O)=qH r:=by
 have i:decide (r.name=[])=(r.name==[]):=by cases r.name<;>rfl
 have l:decide (r.level=0)=(r.level==0):=by generalize r.level=x; by_cases h:x=0<;>simp[h]
 have p:decide (r.parent=-1)=(r.parent==-1):=by generalize r.parent=x; by_cases h:x=-1<;>simp[h]
 have q:decide (r.a5T=0)=(r.a5T==0):=by generalize r.a5T=x; by_cases h:x=0<;>simp[h]
 have h5:(cP r.a5O&&!cH r.a5O)=(cR (val r.a5O.num) (val r.a5O.den)&&(qZ r.a5O==0)):=by
  rw[KW];by_cases h:val r.a5O.num=0
  ·have d:cH r.a5O=false:=by unfold cH; simp[h]
   rw[d];simp only[a7A,a8V];cases c:cR (val r.a5O.num) (val r.a5O.den) with
   | false =>unfold cP oM;rw[c];rfl
   | true =>
    obtain⟨w,-,-⟩:=fJ.1 c;unfold cP oM;rw[c,if_pos rfl,al c,h];unfold mH;have u:val r.a5O.den/a6O 0 (val r.a5O.den)=1:=by rw[Nat.gcd_zero_left,Nat.div_self (a8U w)]
    have e:cJ (0/a6O 0 (val r.a5O.den))=0:=by rw[Nat.zero_div]; exact jH
    have b1:cJ 1=1:=by rw[oZ (by decide),jH]
    simp only[u,e,b1];simp
  ·have d:cH r.a5O=true:=by unfold cH; simp[h]
   rw[d];simp
 unfold qH;rw[i,l,p,q];simp only[a9L] at h5 ⊢;rw[h5]
theorem aEA (f:aE) {r:cE} {t:List cE} (h:f.a5C=r::t):UG f r t=(qH r&&(a6L t.length).all (wS f)):=by
 unfold UG;rw[aHL];congr 2;funext i;unfold wS;rw[h,List.getElem?_cons_succ];cases t[i]? with
 | none=>rfl
 | some d=>exact aNY f i d
theorem arF (f:aE):f.a4Z.all (iY f)=(a6L f.a4Z.length).all (uP f):=by
 have:uP f=fun i=>(f.a4Z.map (iY f)).getD i false:=by
  funext i;unfold uP;rw[a7C,a7J];cases f.a4Z[i]? with
  | none=>rfl
  | some d =>
   show Jp f d=iY f d;unfold Jp iY;have:decide ((f.a5C.map cE.level).getD d.machine.toNat 0=4)=((f.a5C.map cE.level).getD d.machine.toNat 0==4):=by generalize (f.a5C.map cE.level).getD d.machine.toNat 0=u;by_cases h:u=4<;>simp[h]
   rw[this,a9L]
 rw[this,yU]
theorem auM (f:aE):f.a5D.all (kI f.a5A.length)=(a6L f.a5D.length).all (JY f):=by
 have:JY f=fun i=>(f.a5D.map (kI f.a5A.length)).getD i false:=by
  funext i;unfold JY;rw[a7C,a7J];cases f.a5D[i]? with
  | none=>rfl
  | some d=>exact (aQK _ d).symm
 rw[this,yU]
theorem aQS (f:aE):aHF f=dS f:=by
 have N:ut f.a5G.length=jX f:=by funext m;unfold ut jX;rw[a9L]
 have A:T4 f.a5D.length=oN f:=rfl;have O:(within f.a6D 1 4&&pJ f.a5G.length f.a5A.length f.a5C.length f.a4Z.length f.a5D.length f.a5B.length)=nS f:=by unfold nS pJ;simp only[a9L]
 unfold aHF dS IJ yG l3 Hf;rw[FP _ _ (by rw[a6K]),FP _ _ (by rw[a6K]),FP _ _ (by rw[kG,a6K]),FP _ _ (by rw[a6K]),yU,yU,yU,N,A,auM,arF,← a9L,O];unfold qW amL;cases l:f.a5C with
 | nil=>simp
 | cons r t =>
  have i:decide (0<f.a5C.length)=true:=by rw[l]; simp
  rw[l] at i;rw[i,a6W];simp only;rw[aEA f l];have y:fY f=(f.a5C.drop 1).map cE.name:=rfl;rw[l] at y;have M:(fY f).length=t.length:=by rw[y]; simp
  have p:=aQE (fY f) (lI f) (wS f) (uP f);rw[M,show (lI f).length=f.a4Z.length by simp[lI]] at p;have J:wT f=(a6L t.length).all (okL [] (fY f) (wS f)):=by unfold wT;rw[l];rfl
  have K:xY f=(a6L f.a4Z.length).all (okL (fY f) (lI f) (uP f)):=rfl;rw[J,K,← y];rw[show f.a4Z.map dN.name=lI f from rfl,show f.a5D.map bT.name=kG f from rfl];generalize (a6L t.length).all (okL [] (fY f) (wS f))=a at *
  generalize (a6L f.a4Z.length).all (okL (fY f) (lI f) (uP f))=b at *
  generalize distinct (fY f++lI f)=c at *
  generalize (a6L t.length).all (wS f)=d at *
  generalize (a6L f.a4Z.length).all (uP f)=e at *
  generalize nS f=s;generalize qH r=ro;generalize distinct (f.a5G.map cG.name)=q;generalize f.a5G.all lJ=u;generalize distinct (f.a5A.map cQ.name)=w;generalize f.a5A.all (jX f)=x;generalize distinct (kG f)=B;generalize (a6L f.a5D.length).all (JY f)=E;generalize distinct (f.a5B.map eO.name)=F;generalize f.a5B.all (oN f)=H;have:(s&&(((((((q&&u)&&(w&&x))&&ro)&&a)&&b)&&(B&&E))&&(F&&H)))=(s&&(ro&&((q&&u)&&((w&&x)&&((a&&b)&&((B&&E)&&(F&&H))))))):=by cases s<;>cases ro<;>cases q<;>cases u<;>cases w<;>cases x<;>simp[a9L]
  rw[this,p];cases s<;>cases ro<;>cases q<;>cases u<;>cases w<;>cases x<;>cases c<;>cases d<;>cases e<;>simp;cases B<;>cases E<;>cases F<;>cases H<;>rfl
theorem aHK (f:aE) (h:0<f.a5C.length):amL f=qH f.a5C[0]:=by
 obtain⟨a,b,c,d,e,g,i⟩:=f;cases d with
 | nil=>simp at h
 | cons r t=>rfl
theorem aCG {C:Ctx} (L:UC C) (f:aE) (l:f.Ok):EU.wp C (aV r8.res (aF (.bool (dS f)))) (PF.args [.agg f.cells]) .nil:=by
 have i:=aQS f;unfold aHF at i;have fail:∀ (F:PF) (H:PH),dS f=false→F 2=some (.bool false)→aV [.tmp 2] (aF (.bool (dS f))) .ret F H:=fun F H e h=>by rw[e];exact bA (vs:=[.bool false]) (.inr rfl) .nil (by simp only[go_sem,h]) a_ ⟨rfl,rfl⟩
 simp only[go_sem,EU,Fp,Fq,r8];refine aA (L.inn f.a6D 1 4) rfl ?_;cases Q:within f.a6D 1 4 with
 | false =>rw[Q,a6R] at i;simp only[go_sem,a7A,CB];exact fail _ _ i.symm rfl
 | true =>
 rw[Q,a6W] at i;simp only[go_sem,a6P,a6K];refine aA (L.sizes f.a5G.length f.a5A.length f.a5C.length f.a4Z.length f.a5D.length f.a5B.length) rfl ?_;cases k1:pJ f.a5G.length f.a5A.length f.a5C.length f.a4Z.length f.a5D.length f.a5B.length with
 | false =>rw[k1,a6R] at i;simp only[go_sem,a7A,CB];exact fail _ _ i.symm rfl
 | true =>
 rw[k1,a6W] at i;obtain⟨J,u,x,K,M,W⟩:=SR k1;by_cases h0:f.a5C.length=0
 ·rw[decide_eq_false Om,a6R] at i;simp only[go_sem,a6P,a6K,bH (Om:(f.a5C.length:Int)=0),CB];exact fail _ _ i.symm rfl
 have d:0<f.a5C.length:=Om;rw[decide_eq_true d,a6W] at i;simp only[go_sem,a6P,a6K,bF (Om:(f.a5C.length:Int)≠0),Fr,Fu,Fv];refine aTK L.topP f l J _ _ _ Lq fun X=>?_;simp only[go_sem,r9];refine aCF L.topP f l k1 (IJ f) _ _ _ Lq fun H2=>?_;have B:=eY d;have q:=(l.dom _ (a6M d)).1;have E:=aHK f d;rw[E] at i;generalize f.a5C[0]=r at *
 have rest:∀ (c:Bool) (F:PF) (H:PH),((((((PF.nil.set 1 (.bG f.cells)).set 5 (.aB)).set 6 (.aB)).set 7 (.aB)).set 8 (.bool c)):PF).le F→c=((IJ f&&yG f)&&qH r) →
   aC.wp C (.seq (.seq (.region MR) (.block 4 (.loop xR))) (.seq (.seq (.region MT) (.block 6 (.loop xS))) (.seq (.seq (.region MV) (.block 8 (.loop xU))) (.seq (.seq (.region NA) (.block 14 (.loop xV))) (.seq (.region NE) .ret))))) (aV [.tmp 2] (aF (.bool (dS f)))) F H:=by
  intro c F H S V;refine xQ _ (fun _ _ _ _ a b=>Up.up a b) S ?_;simp only[go_sem,MR];refine aTJ L.topP f l x d c _ _ _ Lq fun w R U=>?_;simp only[go_sem,MT];refine aCE L.topP f l x d K u (c&&wT f) w _ _ _ U Lq fun Y=>?_;simp only[go_sem,MV];refine aTL L f l M u ((c&&wT f)&&xY f) _ _ _ Lq fun Z=>?_;simp only[go_sem,NA];refine aTM L.topP f l k1 (((c&&wT f)&&xY f)&&l3 f) _ _ _ Lq fun H6=>?_;simp only[go_sem,NE];refine bA (vs:=[.bool (dS f)]) (.inr rfl) .nil ?_ a_ ⟨rfl,rfl⟩;rw[← i,V];simp only[go_sem]
 simp only[aC.wp,go_sem] at rest;simp only[go_sem,se,B];refine aR fun o ho=>?_;have g0:(H2.set o (.rows 7 [r.cells])) o=some (.rows 7 [r.cells]):=cN ..;simp only[go_sem];generalize H2.set o (.rows 7 [r.cells])=R at *
 cases k2:(IJ f&&yG f) with
 | false =>simp only[go_sem,MQ];exact rest false _ _ Lq (by rw[k2]; rfl)
 | true =>
  simp only[go_sem,MQ,g0];cases p:r.name==[] with
  | false =>simp only[go_sem];exact rest false _ _ Lq (by rw[k2]; unfold qH; rw[p]; rfl)
  | true =>
   simp only[go_sem,g0];cases y:r.level==0 with
   | false =>simp only[go_sem];exact rest false _ _ Lq (by rw[k2]; unfold qH; rw[p,y]; rfl)
   | true =>
    simp only[go_sem,g0];cases A:r.parent==-1 with
    | false =>simp only[go_sem];exact rest false _ _ Lq (by rw[k2]; unfold qH; rw[p,y,A]; rfl)
    | true =>
     simp only[go_sem,g0];cases N:r.a5T==0 with
     | false =>simp only[go_sem];exact rest false _ _ Lq (by rw[k2]; unfold qH; rw[p,y,A,N]; rfl)
     | true =>
      simp only[go_sem,g0];refine aA (L.valid _ q) rfl ?_;cases O:cR (val r.a5O.num) (val r.a5O.den) with
      | false =>simp only[go_sem];exact rest false _ _ Lq (by rw[k2]; unfold qH; rw[p,y,A,N,O]; rfl)
      | true =>simp only[go_sem,g0];refine aA (L.sign _ q O) rfl ?_;simp only[go_sem];exact rest _ _ _ Lq (by rw[k2]; unfold qH; rw[p,y,A,N,O]; rfl)
def aIA:Rg:=[iA 2 (.box true (Tm 0)),iZ 4]
def aIB:Rg:=[iO 8 7 2,iK 9 67 8,iA 10 (.un .not (Tm 9))]
def aIC:Rg:=[iZ 4]
def aID:Rg:=[iZ 5]
def aIE:Rg:=[iI 6 0]
def aIF:Rg:=[iM 11 6,iF 12 4 2,iL 13 12,iN 14 13,iB 15 .lss 11 14]
def aIG:Rd:=[(iF 18 2 2,false),(iL 19 18,false),(iF 20 4 2,false),(iL 21 20,false),(iM 22 6,false),(iX 23 3 21 22,false),(iF 24 1 23,false),(iL 25 24,false),(iX 26 4 19 25,false),(iF 27 1 26,false),(iL 28 27,false),(iM 7 28,false)]
def aIH:Rg:=[iM 29 1,iN 30 29,iF 31 4 2,iL 32 31,iN 33 32,iB 34 .eql 30 33]
def aII:Rg:=[iM 35 1,iM 36 6,iX 37 1 35 36,iL 38 37,iM 39 7,iA 40 (.a5U false (Tm 38) (Tm 39)),iA 41 (.a5U true (Ci 0) (Tm 40)),iM 7 41]
def aIJ:Rg:=[iM 42 5,iM 43 7,iA 44 (.a5F true 1 1 [zI] [(0,(Tm 43))]),iA 45 (.append 1 8 (Tm 42) (Tm 44)),iM 5 45]
def awL:Rg:=[iM 16 6,iC 17 .add 16 1,iM 6 17]
def awK:aC:=(.seq (sq aIF (.cond (Tm 15) .skip (.exit 0))) (.seq (.block 1 (dq aIG (.seq (sq aIH (.cond (Tm 34) (.region aII) .skip)) (.region aIJ)))) (.region awL)))
def awM:Rg:=[iM 46 5,iM 4 46]
def anA:aC:=(sq aIA (.seq (sq aIB (.cond (Tm 10) (sq aIC .ret) .skip)) (sq aID (.seq (sq aIE (.block 0 (.loop awK))) (sq awM .ret)))))
def aZH:aS:=⟨2,47,anA,[.tmp 4]⟩
def C2:Rg:=[iA 3 (.box true (Tm 0)),iI 6 0]
def C3:Rg:=[iF 8 4 3,iL 9 8,iM 10 1,iX 11 3 9 10,iF 12 2 11,iL 13 12,iM 7 13]
def C4:Rg:=[iF 14 3 3,iL 15 14,iM 16 7,iX 17 7 15 16,iF 18 1 17,iL 19 18,iM 20 2,iB 21 .gtr 19 20]
def C5:Rg:=[iF 22 3 3,iL 23 22,iM 24 7,iX 25 7 23 24,iF 26 2 25,iL 27 26,iM 7 27]
def C1:aC:=(.seq (sq C4 (.cond (Tm 21) .skip (.exit 0))) (.block 1 (.region C5)))
def C6:Rg:=[iM 28 7,iM 6 28]
def DO:aC:=(sq C2 (sq C3 (.seq (.block 0 (.loop C1)) (sq C6 .ret))))
def avC:List Nat:=[3]
def nb:aS:=⟨3,29,DO,[.tmp 6]⟩
def aVM:Rg:=[iA 3 (.box true (Tm 0)),iI 6 0]
def aVN:Rg:=[iO 7 7 3,iK 8 67 7,iA 9 (.un .not (Tm 8)),iM 10 9,gM 11 1 10 false,gC 12 .lss 11 0 10 false,iQ 13 10 12,iM 14 13,gM 15 1 14 false,gF 16 4 3 14 false,gL 17 16 14 false,gN 18 17 14 false,gB 19 .geq 15 18 14 false,iQ 20 14 19,iM 21 20,gM 22 2 21 false,gC 23 .lss 22 0 21 false,iQ 24 21 23,iM 25 24,gM 26 2 25 false,gC 27 .gtr 26 4 25 false,iQ 28 25 27]
def aVO:Rg:=[iI 6 (-1)]
def aVP:Rg:=[iO 29 7 3,iM 30 1,iM 31 2,iA 32 (.call 88 [(Tm 29),(Tm 30),(Tm 31)]),iM 6 32]
def aHQ:aC:=(sq aVM (.seq (sq aVN (.cond (Tm 28) (sq aVO .ret) .skip)) (sq aVP .ret)))
def sat:aS:=⟨3,33,aHQ,[.tmp 6]⟩
def nj:Rg:=[iA 2 (.box true (Tm 0)),iZ 4]
def nn:Rg:=[iZ 5]
def np:Rg:=[iO 7 7 2,iK 8 67 7,iA 9 (.un .not (Tm 8)),iM 10 9,gM 11 1 10 false,gC 12 .lss 11 0 10 false,iQ 13 10 12,iM 14 13,gM 15 1 14 false,gF 16 3 2 14 false,gL 17 16 14 false,gN 18 17 14 false,gB 19 .geq 15 18 14 false,iQ 20 14 19]
def xK:Rg:=[iZ 4]
def nr:Rg:=[iI 6 0]
def nt:Rg:=[iM 21 6,iF 22 4 2,iL 23 22,iN 24 23,iB 25 .lss 21 24]
def nu:Rd:=[(iO 28 7 2,false),(iM 29 6,false),(iF 30 3 2,false),(iL 31 30,false),(iM 32 1,false),(iX 33 7 31 32,false),(iF 34 1 33,false),(iL 35 34,false),(iA 36 (.call 88 [(Tm 28),(Tm 29),(Tm 35)]),true),(iM 37 1,true),(iB 38 .eql 36 37,false)]
def nv:Rg:=[iM 39 5,iM 40 6,iA 41 (.a5F true 1 1 [zI] [(0,(Tm 40))]),iA 42 (.append 1 8 (Tm 39) (Tm 41)),iM 5 42]
def KR:Rg:=[iM 26 6,iC 27 .add 26 1,iM 6 27]
def ni:aC:=(.seq (sq nt (.cond (Tm 25) .skip (.exit 0))) (.seq (.block 1 (dq nu (.cond (Tm 38) (.region nv) .skip))) (.region KR)))
def XK:Rg:=[iM 43 5,iM 4 43]
def AC:aC:=(sq nj (sq nn (.seq (sq np (.cond (Tm 20) (sq xK .ret) .skip)) (.seq (sq nr (.block 0 (.loop ni))) (sq XK .ret)))))
def amQ:List Nat:=[2,41]
def VA:aS:=⟨2,44,AC,[.tmp 4]⟩
def avG:Rg:=[iA 2 (.box true (Tm 0)),iZ 4]
def avH:Rg:=[iZ 5]
def avI:Rg:=[iO 7 7 2,iK 8 67 7,iA 9 (.un .not (Tm 8)),iM 10 9,gM 11 1 10 false,gC 12 .lss 11 0 10 false,iQ 13 10 12]
def avJ:Rg:=[iZ 4]
def avK:Rg:=[iI 6 1]
def avL:Rg:=[iM 14 6,iF 15 3 2,iL 16 15,iN 17 16,iB 18 .lss 14 17]
def avM:Rg:=[iF 21 3 2,iL 22 21,iM 23 6,iX 24 7 22 23,iF 25 2 24,iL 26 25,iM 27 1,iB 28 .eql 26 27]
def avN:Rg:=[iM 29 5,iM 30 6,iA 31 (.a5F true 1 1 [zI] [(0,(Tm 30))]),iA 32 (.append 1 8 (Tm 29) (Tm 31)),iM 5 32]
def avO:Rg:=[iM 19 6,iC 20 .add 19 1,iM 6 20]
def avF:aC:=(.seq (sq avL (.cond (Tm 18) .skip (.exit 0))) (.seq (.block 1 (sq avM (.cond (Tm 28) (.region avN) .skip))) (.region avO)))
def amO:Rg:=[iM 33 5,iM 4 33]
def Wc:aC:=(sq avG (sq avH (.seq (sq avI (.cond (Tm 13) (sq avJ .ret) .skip)) (.seq (sq avK (.block 0 (.loop avF))) (sq amO .ret)))))
def aVR:aS:=⟨2,34,Wc,[.tmp 4]⟩
def avZ:Rg:=[iA 2 (.box true (Tm 0)),iZ 4]
def awA:Rg:=[iO 8 7 2,iK 9 67 8,iA 10 (.un .not (Tm 9))]
def awB:Rg:=[iZ 4]
def awC:Rg:=[iF 11 4 2,iL 12 11,iN 13 12,iA 14 (.a5H 1 8 [zI] (Tm 13) (Tm 13)),iM 5 14]
def awD:Rg:=[iI 6 0]
def awE:Rg:=[iM 15 6,iM 16 1,iN 17 16,iB 18 .lss 15 17]
def awF:Rg:=[iI 7 0]
def awG:Rg:=[iM 21 7,iM 22 1,iM 23 6,iX 24 1 22 23,iL 25 24,iN 26 25,iB 27 .lss 21 26]
def awH:Rg:=[iM 30 1,iM 31 6,iX 32 1 30 31,iL 33 32,iM 34 7,iX 35 1 33 34,iL 36 35,iC 37 .geq 36 0,iM 38 37,gM 39 1 38 true,gM 40 6 38 true,iG 41 (.a5Q 1 (Tm 39) (Tm 40)) 38 true,gL 42 41 38 true,gM 43 7 38 true,iG 44 (.a5Q 1 (Tm 42) (Tm 43)) 38 true,gL 45 44 38 true,gM 46 5 38 true,gN 47 46 38 true,gB 48 .lss 45 47 38 true,iP 49 38 48]
def awI:Rg:=[iM 50 5,iM 51 1,iM 52 6,iX 53 1 51 52,iL 54 53,iM 55 7,iX 56 1 54 55,iL 57 56,iX 58 1 50 57,iL 59 58,iC 60 .add 59 1,iX 61 1 50 57,iS 1 61 60]
def amW:Rg:=[iM 28 7,iC 29 .add 28 1,iM 7 29]
def amU:aC:=(.seq (sq awG (.cond (Tm 27) .skip (.exit 2))) (.seq (.block 3 (sq awH (.cond (Tm 49) (.region awI) .skip))) (.region amW)))
def amX:Rg:=[iM 19 6,iC 20 .add 19 1,iM 6 20]
def amV:aC:=(.seq (sq awE (.cond (Tm 18) .skip (.exit 0))) (.seq (.block 1 (sq awF (.block 2 (.loop amU)))) (.region amX)))
def amY:Rg:=[iM 62 5,iM 4 62]
def Wf:aC:=(sq avZ (.seq (sq awA (.cond (Tm 10) (sq awB .ret) .skip)) (sq awC (.seq (sq awD (.block 0 (.loop amV))) (sq amY .ret)))))
def aVZ:aS:=⟨2,63,Wf,[.tmp 4]⟩
def aRG:Rg:=[iA 2 (.box true (Tm 0)),iI 4 0]
def aRH:Rg:=[iI 5 0]
def aRI:Rg:=[iM 6 5,iM 7 1,iN 8 7,iB 9 .lss 6 8]
def aRJ:Rd:=[(iM 12 1,false),(iM 13 5,false),(iX 14 1 12 13,false),(iL 15 14,false),(iC 16 .lss 15 (-1),false),(iM 17 16,false),(gM 18 1 17 false,false),(gM 19 5 17 false,false),(iG 20 (.a5Q 1 (Tm 18) (Tm 19)) 17 false,false),(gL 21 20 17 false,false),(gF 22 4 2 17 false,false),(gL 23 22 17 false,false),(gN 24 23 17 false,false),(gB 25 .geq 21 24 17 false,false),(iQ 26 17 25,false)]
def aRK:Rg:=[iM 27 5,iM 4 27]
def aRL:Rg:=[iM 10 5,iC 11 .add 10 1,iM 5 11]
def aRF:aC:=(.seq (sq aRI (.cond (Tm 9) .skip (.exit 0))) (.seq (.block 1 (dq aRJ (.cond (Tm 26) (sq aRK .ret) .skip))) (.region aRL)))
def aRM:Rg:=[iI 4 (-1)]
def avE:aC:=(sq aRG (.seq (sq aRH (.block 0 (.loop aRF))) (sq aRM .ret)))
def a2P:aS:=⟨2,28,avE,[.tmp 4]⟩
def anC:Rg:=[iA 2 (.box true (Tm 0)),iT 4 false]
def anD:Rg:=[iO 6 7 2,iK 7 67 6,iA 8 (.un .not (Tm 7)),iM 9 8,gM 10 1 9 false,gN 11 10 9 false,gF 12 6 2 9 false,gL 13 12 9 false,gN 14 13 9 false,gB 15 .neq 11 14 9 false,iQ 16 9 15]
def anE:Rg:=[iT 4 false]
def anF:Rg:=[iI 5 0]
def anG:Rg:=[iM 17 5,iM 18 1,iN 19 18,iB 20 .lss 17 19]
def anH:Rd:=[(iM 23 1,true),(iM 24 5,true),(iX 25 1 23 24,true),(iL 26 25,true),(iN 27 26,true),(iO 28 7 2,false),(iM 29 5,false),(iK2 30 82 28 29,true),(iB 31 .neq 27 30,false),(iM 32 31,false),(gO 33 7 2 32 false,false),(gM 34 1 32 false,false),(gM 35 5 32 false,false),(iG 36 (.a5Q 1 (Tm 34) (Tm 35)) 32 false,false),(gL 37 36 32 false,false),(gK2 38 89 33 37 32 false,true),(gC 39 .geq 38 0 32 false,false),(iQ 40 32 39,false)]
def anI:Rg:=[iT 4 false]
def anJ:Rg:=[iM 21 5,iC 22 .add 21 1,iM 5 22]
def anB:aC:=(.seq (sq anG (.cond (Tm 20) .skip (.exit 0))) (.seq (.block 1 (dq anH (.cond (Tm 40) (sq anI .ret) .skip))) (.region anJ)))
def anK:Rg:=[iT 4 true]
def Rz:aC:=(sq anC (.seq (sq anD (.cond (Tm 16) (sq anE .ret) .skip)) (.seq (sq anF (.block 0 (.loop anB))) (sq anK .ret))))
def aSE:aS:=⟨2,41,Rz,[.tmp 4]⟩
def XD:Rg:=[iA 3 (.box true (Tm 0)),iA 4 (.box true (Tm 1)),iT 6 false]
def XE:Rg:=[iI 7 0]
def XF:Rg:=[iM 8 7,iF 9 9 3,iL 10 9,iN 11 10,iB 12 .lss 8 11]
def DP:Rd:=[(iF 15 9 3,false),(iL 16 15,false),(iM 17 7,false),(iX 18 1 16 17,false),(iL 19 18,false),(iF 20 4 4,false),(iL 21 20,false),(iM 22 2,false),(iX 23 3 21 22,false),(iF 24 1 23,false),(iL 25 24,false),(iB 26 .eql 19 25,false)]
def XG:Rg:=[iT 6 true]
def XH:Rg:=[iM 13 7,iC 14 .add 13 1,iM 7 14]
def XC:aC:=(.seq (sq XF (.cond (Tm 12) .skip (.exit 0))) (.seq (.block 1 (dq DP (.cond (Tm 26) (sq XG .ret) .skip))) (.region XH)))
def XI:Rg:=[iT 6 false]
def wG:aC:=(sq XD (.seq (sq XE (.block 0 (.loop XC))) (sq XI .ret)))
def Wa:List Nat:=[3,4]
def KQ:aS:=⟨3,27,wG,[.tmp 6]⟩
def C8:Rg:=[iA 3 (.box true (Tm 0)),iI 6 0]
def C9:Rg:=[iI 7 0]
def Da:Rg:=[iI 8 0]
def Db:Rg:=[iM 9 8,iM 10 1,iN 11 10,iB 12 .lss 9 11]
def SO:Rd:=[(iM 15 1,false),(iM 16 8,false),(iX 17 1 15 16,false),(iL 18 17,false),(iC 19 .geq 18 0,false),(iM 20 19,false),(gO 21 7 3 20 true,false),(gM 22 1 20 true,false),(gM 23 8 20 true,false),(iG 24 (.a5Q 1 (Tm 22) (Tm 23)) 20 true,false),(gL 25 24 20 true,false),(gF 26 3 3 20 true,false),(gL 27 26 20 true,false),(gM 28 2 20 true,false),(iG 29 (.a5Q 7 (Tm 27) (Tm 28)) 20 true,false),(gF 30 1 29 20 true,false),(gL 31 30 20 true,false),(iG 32 (.call 88 [(Tm 21),(Tm 25),(Tm 31)]) 20 true,true),(gM 33 2 20 true,true),(gB 34 .eql 32 33 20 true,false),(iP 35 20 34,false)]
def Dc:Rg:=[iM 36 7,iC 37 .add 36 1,iM 7 37]
def BQ:Rg:=[iM 13 8,iC 14 .add 13 1,iM 8 14]
def C7:aC:=(.seq (sq Db (.cond (Tm 12) .skip (.exit 0))) (.seq (.block 1 (dq SO (.cond (Tm 35) (.region Dc) .skip))) (.region BQ)))
def SP:Rg:=[iM 38 7,iM 6 38]
def DQ:aC:=(sq C8 (sq C9 (.seq (sq Da (.block 0 (.loop C7))) (sq SP .ret))))
def avQ:List Nat:=[3]
def nc:aS:=⟨3,39,DQ,[.tmp 6]⟩
def aRU:Rg:=[iA 3 (.box true (Tm 0)),iZ 6]
def aRV:Rg:=[iM 17 2,iN 18 17,iO 19 7 3,iM 20 1,iK2 21 82 19 20,iB 22 .neq 18 21]
def aRW:Rg:=[iM 23 1,iM 24 2,iN 25 24,iA 26 (.build [zI,zI,zI] [(0,1,(Ci 1)),(1,1,(Tm 23)),(2,1,(Tm 25))]),iA 27 (.a5F true 3 1 [zI,zI,zI] [(0,(Tm 26))]),iM 6 27]
def aRX:Rg:=[iO 28 7 3,iM 29 2,iK2 30 89 28 29,iM 7 30]
def aRY:Rg:=[iM 31 7,iC 32 .geq 31 0]
def aRZ:Rg:=[iM 33 1,iM 34 7,iA 35 (.build [zI,zI,zI] [(0,1,(Ci 1)),(1,1,(Tm 33)),(2,1,(Tm 34))]),iA 36 (.a5F true 3 1 [zI,zI,zI] [(0,(Tm 35))]),iM 6 36]
def aSA:Rg:=[iZ 8]
def aSB:Rg:=[iI 9 0]
def aSC:Rg:=[iM 37 9,iM 38 2,iN 39 38,iB 40 .lss 37 39]
def aSD:Rg:=[iM 43 2,iM 44 9,iX 45 1 43 44,iL 46 45,iC 47 .eql 46 (-1)]
def aIP:Rg:=[iM 48 8,iM 49 1,iM 50 9,iA 51 (.build [zI,zI,zI] [(0,1,(Ci 2)),(1,1,(Tm 49)),(2,1,(Tm 50))]),iA 52 (.a5F true 3 1 [zI,zI,zI] [(0,(Tm 51))]),iA 53 (.append 3 24 (Tm 48) (Tm 52)),iM 8 53]
def aIQ:Rg:=[iM 41 9,iC 42 .add 41 1,iM 9 42]
def aIK:aC:=(.seq (sq aSC (.cond (Tm 40) .skip (.exit 0))) (.seq (.block 1 (sq aSD (.cond (Tm 47) (.region aIP) .skip))) (.region aIQ)))
def aIR:Rg:=[iI 10 0]
def aIS:Rg:=[iM 54 10,iF 55 4 3,iL 56 55,iN 57 56,iB 58 .lss 54 57]
def aIT:Rg:=[iI 11 0]
def aIU:Rg:=[iI 12 0]
def aIV:Rg:=[iM 61 12,iM 62 2,iN 63 62,iB 64 .lss 61 63]
def aIW:Rg:=[iM 67 2,iM 68 12,iX 69 1 67 68,iL 70 69,iM 71 10,iB 72 .eql 70 71]
def aIX:Rg:=[iM 73 11,iC 74 .add 73 1,iM 11 74]
def aIY:Rg:=[iM 65 12,iC 66 .add 65 1,iM 12 66]
def aIL:aC:=(.seq (sq aIV (.cond (Tm 64) .skip (.exit 4))) (.seq (.block 5 (sq aIW (.cond (Tm 72) (.region aIX) .skip))) (.region aIY)))
def aIZ:Rg:=[iM 75 11,iC 76 .gtr 75 1]
def aJA:Rg:=[iM 77 8,iM 78 1,iM 79 10,iA 80 (.build [zI,zI,zI] [(0,1,(Ci 3)),(1,1,(Tm 78)),(2,1,(Tm 79))]),iA 81 (.a5F true 3 1 [zI,zI,zI] [(0,(Tm 80))]),iA 82 (.append 3 24 (Tm 77) (Tm 81)),iM 8 82]
def aJB:Rg:=[iM 59 10,iC 60 .add 59 1,iM 10 60]
def aIM:aC:=(.seq (sq aIS (.cond (Tm 58) .skip (.exit 2))) (.seq (.block 3 (sq aIT (.seq (sq aIU (.block 4 (.loop aIL))) (sq aIZ (.cond (Tm 76) (.region aJA) .skip))))) (.region aJB)))
def aJC:Rd:=[(iF 83 5 3,false),(iL 84 83,false),(iF 85 6 3,false),(iL 86 85,false),(iM 87 1,false),(iX 88 2 86 87,false),(iF 89 1 88,false),(iL 90 89,false),(iX 91 17 84 90,false),(iO 92 17 91,false),(iA 13 (.alloc [(.str []),zI,zI,zI,zI,zI,zI,zI,zI,.aB,.aB,zB,.aB,.aB,zB,.aB,.aB]),true),(iS 17 13 92,true)]
def aJD:Rg:=[iI 14 0]
def aJE:Rg:=[iM 93 14,iM 94 2,iN 95 94,iB 96 .lss 93 95]
def aJF:Rd:=[(iM 99 2,false),(iM 100 14,false),(iX 101 1 99 100,false),(iL 102 101,false),(iC 103 .geq 102 0,false),(iM 104 103,false),(gO 105 17 13 104 true,false),(gO 106 7 3 104 true,false),(gM 107 2 104 true,false),(gM 108 14 104 true,false),(iG 109 (.a5Q 1 (Tm 107) (Tm 108)) 104 true,false),(gL 110 109 104 true,false),(iG 111 (.call 77 [(Tm 105),(Tm 106),(Tm 110)]) 104 true,true),(iG 112 (.un .not (Tm 111)) 104 true,false),(iP 113 104 112,false)]
def aJG:Rg:=[iM 114 8,iM 115 1,iM 116 14,iA 117 (.build [zI,zI,zI] [(0,1,(Ci 4)),(1,1,(Tm 115)),(2,1,(Tm 116))]),iA 118 (.a5F true 3 1 [zI,zI,zI] [(0,(Tm 117))]),iA 119 (.append 3 24 (Tm 114) (Tm 118)),iM 8 119]
def aJH:Rg:=[iM 97 14,iC 98 .add 97 1,iM 14 98]
def aIN:aC:=(.seq (sq aJE (.cond (Tm 96) .skip (.exit 6))) (.seq (.block 7 (dq aJF (.cond (Tm 113) (.region aJG) .skip))) (.region aJH)))
def aJI:Rg:=[iI 15 1]
def aJJ:Rg:=[iM 120 15,iF 121 3 3,iL 122 121,iN 123 122,iB 124 .lss 120 123]
def aJK:Rg:=[iF 127 3 3,iL 128 127,iM 129 15,iX 130 7 128 129,iF 131 1 130,iL 132 131,iF 133 4 13,iA 134 (.idxA 5 1 (Tm 133) (Tm 132)),iL 135 134,iM 16 135]
def aJL:Rg:=[iM 136 16,iC 137 .gtr 136 0,iM 138 137,gO 139 7 3 138 true,gM 140 2 138 true,gM 141 15 138 true,iG 142 (.call 80 [(Tm 139),(Tm 140),(Tm 141)]) 138 true,gM 143 16 138 true,gB 144 .gtr 142 143 138 true,iP 145 138 144]
def aJM:Rg:=[iM 146 8,iM 147 1,iM 148 15,iA 149 (.build [zI,zI,zI] [(0,1,(Ci 5)),(1,1,(Tm 147)),(2,1,(Tm 148))]),iA 150 (.a5F true 3 1 [zI,zI,zI] [(0,(Tm 149))]),iA 151 (.append 3 24 (Tm 146) (Tm 150)),iM 8 151]
def aJN:Rg:=[iM 125 15,iC 126 .add 125 1,iM 15 126]
def aIO:aC:=(.seq (sq aJJ (.cond (Tm 124) .skip (.exit 8))) (.seq (.block 9 (sq aJK (sq aJL (.cond (Tm 145) (.region aJM) .skip)))) (.region aJN)))
def aJO:Rg:=[iM 152 8,iM 6 152]
def awN:aC:=(sq aRU (.seq (sq aRV (.cond (Tm 22) (sq aRW .ret) .skip)) (.seq (sq aRX (sq aRY (.cond (Tm 32) (sq aRZ .ret) .skip))) (sq aSA (.seq (sq aSB (.block 0 (.loop aIK))) (.seq (sq aIR (.block 2 (.loop aIM))) (dq aJC (.seq (sq aJD (.block 6 (.loop aIN))) (.seq (sq aJI (.block 8 (.loop aIO))) (sq aJO .ret))))))))))
def a2S:aS:=⟨3,153,awN,[.tmp 6]⟩
def aJS:Rg:=[iA 3 (.box true (Tm 0)),iZ 6]
def aJT:Rg:=[iO 12 7 3,iK 13 67 12,iA 14 (.un .not (Tm 13))]
def aJU:Rg:=[iZ 6]
def aJV:Rg:=[iM 15 1,iN 16 15,iF 17 6 3,iL 18 17,iN 19 18,iB 20 .neq 16 19]
def aJW:Rg:=[iM 21 1,iN 22 21,iA 23 (.build [zI,zI,zI] [(0,1,(Ci 1)),(1,1,(Ci (-1))),(2,1,(Tm 22))]),iA 24 (.a5F true 3 1 [zI,zI,zI] [(0,(Tm 23))]),iM 6 24]
def aJX:Rg:=[iZ 7]
def aJY:Rg:=[iI 8 0]
def aJZ:Rg:=[iM 25 8,iM 26 1,iN 27 26,iB 28 .lss 25 27]
def aKA:Rd:=[(iM 31 7,true),(iO 32 7 3,false),(iM 33 8,false),(iM 34 1,false),(iM 35 8,false),(iX 36 1 34 35,false),(iL 37 36,false),(iA 38 (.call 90 [(Tm 32),(Tm 33),(Tm 37)]),true),(iA 39 (.append 3 24 (Tm 31) (Tm 38)),true),(iM 7 39,false)]
def aKB:Rg:=[iM 29 8,iC 30 .add 29 1,iM 8 30]
def awQ:aC:=(.seq (sq aJZ (.cond (Tm 28) .skip (.exit 0))) (.seq (.block 1 (.draw aKA)) (.region aKB)))
def awS:Rd:=[(iO 40 7 3,false),(iM 41 2,false),(iK2 42 85 40 41,true),(iO 43 7 3,true),(iM 44 1,true),(iK2 45 84 43 44,true),(iM 9 42,false),(iM 10 45,false)]
def awT:Rg:=[iI 11 0]
def awU:Rg:=[iM 46 11,iM 47 9,iN 48 47,iB 49 .lss 46 48]
def awV:Rd:=[(iM 52 10,false),(iM 53 11,false),(iX 54 1 52 53,false),(iL 55 54,false),(iM 56 9,false),(iM 57 11,false),(iX 58 1 56 57,false),(iL 59 58,false),(iB 60 .gtr 55 59,false)]
def awW:Rg:=[iM 61 7,iM 62 11,iA 63 (.build [zI,zI,zI] [(0,1,(Ci 6)),(1,1,(Ci (-1))),(2,1,(Tm 62))]),iA 64 (.a5F true 3 1 [zI,zI,zI] [(0,(Tm 63))]),iA 65 (.append 3 24 (Tm 61) (Tm 64)),iM 7 65]
def awX:Rg:=[iM 50 11,iC 51 .add 50 1,iM 11 51]
def awR:aC:=(.seq (sq awU (.cond (Tm 49) .skip (.exit 2))) (.seq (.block 3 (dq awV (.cond (Tm 60) (.region awW) .skip))) (.region awX)))
def awY:Rg:=[iM 66 7,iM 6 66]
def anL:aC:=(sq aJS (.seq (sq aJT (.cond (Tm 14) (sq aJU .ret) .skip)) (.seq (sq aJV (.cond (Tm 20) (sq aJW .ret) .skip)) (sq aJX (.seq (sq aJY (.block 0 (.loop awQ))) (dq awS (.seq (sq awT (.block 2 (.loop awR))) (sq awY .ret))))))))
def aZI:aS:=⟨3,67,anL,[.tmp 6]⟩
def avW:Rg:=[iA 3 (.box true (Tm 0)),iT 6 false]
def avX:Rg:=[iO 7 7 3,iK 8 67 7,iM 9 8,gO 10 7 3 9 true,gM 11 1 9 true,gM 12 2 9 true,iG 13 (.call 87 [(Tm 10),(Tm 11),(Tm 12)]) 9 true,gN 14 13 9 true,gC 15 .eql 14 0 9 true,iP 16 9 15,iM 6 16]
def Wd:aC:=(sq avW (sq avX .ret))
def aVV:aS:=⟨3,17,Wd,[.tmp 6]⟩
theorem avB {C:Ctx} (f:aE) (i:VF f) (d:Nat) (h:d<f.a4Z.length) (level:Int) (u:0≤level) (w:level≤4) :
  DO.wp C (aV nb.res (aF (.int .i64 (cL f d level:Nat)))) (PF.args [.agg f.cells,.int .i64 d,.int .i64 level]) .nil:=by
 simp only[go_sem,DO,C2,C3,nb,pD h,i.uj h];refine wp_loop (α:=Nat) (fun k=>(((PF.nil.set 2 (.int .i64 level)).set 3 (.bG f.cells)).set 7 (.int .i64 (upN f k (dC f d))))) (fun _=>.nil) (fun k=>k≤4-level.toNat) (fun k=>4-level.toNat-k) 0 (a6Q _) (by (repeat' (first|exact c_|refine d_ ?_ ?_))<;>first|(simp only[go_sem,upN]<;>rfl)|rfl) a_ ?_;intro k x;obtain⟨c,q⟩:=GC i h (k:=k) Om;simp only[go_sem,C1,C4,eY c,sP c];by_cases hlt:k<4-level.toNat
 ·have l:lvl f (upN f k (dC f d))>level:=by rw[q]; omega
  have p:0<upN f k (dC f d):=by
   rcases a8R (upN f k (dC f d)) with e | e
   ·rw[e,i.root.2.1] at q; omega
   ·exact e
  simp only[go_sem,l,C5,eY c,lz c,i.vj p c];exact aD (k+1) hlt Om (by (repeat' (first|exact c_|refine d_ ?_ ?_))<;>first|(simp only[go_sem,upN]<;>rfl)|rfl) a_
 ·have l:¬ lvl f (upN f k (dC f d))>level:=by rw[q]; omega
  have:k=4-level.toNat:=Om;subst this;simp only[go_sem,l,C6];refine aQ (.inr rfl) Ev ?_;rfl
structure Ht (C:Ctx):Prop where
 valid:∀ f:aE,f.Ok→aG C 67 [.agg f.cells] .nil (aF (.bool (dS f)))
 lS:∀ (f:aE) (d:Nat) (level:Int),VF f→d<f.a4Z.length→0≤level→level≤4→aG C 88 [.agg f.cells,.int .i64 d,.int .i64 level] .nil (aF (.int .i64 (cL f d level:Nat)))
def soS (f:aE):Spec:=fun name vs=>match name,vs with
 | 88,[_,.int _ d,.int _ l]=>some ([],fun _=>aF (.int .i64 (cL f d.toNat l:Nat)))
 | 82,[_,.int _ v]=>some ([],fun _=>aF (.int .i64 (ajK f v.toNat)))
 | _,_=>none
theorem De (f:aE) (d:Nat) (l:Int):soS f 88 [.agg f.cells,.int .i64 d,.int .i64 l]=some ([],fun _=>aF (.int .i64 (cL f d l:Nat))):=rfl
theorem asZ {f:aE} (hV:VF f) {n:Nat} (c:n<f.a5C.length):0≤lvl f n∧lvl f n≤4:=by
 rcases a8R n with e | e
 ·rw[e,hV.root.2.1]; decide
 ·have:=hV.dom n e c; omega
theorem amP {C:Ctx} (L:Ht C) (f:aE) (H:f.Ok) (dom:Int) :
  AC.wp C (aV VA.res (bX (ints (FC f dom)))) (PF.args [.agg f.cells,.int .i64 dom]) .nil:=by
 simp only[go_sem,AC,nj,nn,np,VA];refine aA (L.valid f H) Sq ?_;unfold FC;cases M:dS f with
 | false =>simp only[go_sem,a7A,xK];rw[if_neg (by simp)];exact AA Ev
 | true =>
  have hV:=VF.of M;by_cases x:dom<0
  ·simp only[go_sem,a6P,x,xK];rw[if_neg Om];exact AA Ev
  ·by_cases B:dom≥(f.a5C.length:Nat)
   ·simp only[go_sem,a6P,x,a6K,B,xK];rw[if_neg Om];exact AA Ev
   ·obtain⟨n,rfl⟩:∃ n:Nat,dom=n:=⟨dom.toNat,by omega⟩;have A:n<f.a5C.length:=Om;have E:=hV.small.a4Z;have l:=asZ hV A;simp only[go_sem,a6P,x,a6K,B,nr];rw[if_pos Om];generalize K:(fun d=>decide ((cL f d (lvl f n):Nat)=n))=p;refine wp_loop (α:=Nat × PV × PH) (fun t=>((((PF.nil.set 1 (.int .i64 n)).set 2 (.bG f.cells)).set 5 (t.2.1)).set 6 (.int .i64 t.1))) (fun t=>t.2.2) (fun t=>t.1≤f.a4Z.length∧bP t.2.2 1 t.2.1 (aY (pick t.1 p))) (fun t=>f.a4Z.length-t.1) (0,.aB,.nil) ⟨a6Q _,.nil⟩ Lq a_ ?_;rintro⟨k,v,F⟩ ⟨J,q⟩;simp only at J q ⊢;simp only[go_sem,ni,nt,a6K];by_cases hlt:k<f.a4Z.length
    ·have i:(k:Int)<(f.a4Z.length:Nat):=Om;simp only[go_sem,i];refine bV .nil (soS f) a_ ?_;simp only[go_sem,nu,eY A,sP A];refine bM (De f k (lvl f n)) (L.lS f k (lvl f n) hV hlt l.1 l.2) Sq a_ ?_;have w:p k=decide ((cL f k (lvl f n):Nat)=n):=by rw[← K]
     have e:=auL k p;have y:(1:Nat)*1≤16777216:=by decide
     by_cases c:cL f k (lvl f n)=n
     ·rw[if_pos (by rw[w]; simp[c])] at e;simp only[go_sem,bH (show ((cL f k (lvl f n):Nat):Int)=(n:Int) by omega),nv,y];refine eZ (src:=[[.int .i64 k]]) q Sq (by unfold roomFor; have:=aGZ k p; rw[cY]; simp only[a6X,maxLen]; omega) fun v' H' u _=>?_;rw[akI,← e] at u;simp only[go_sem,KR,wZz k];exact aD (k+1,v',H') ⟨hlt,u⟩ (by simp only; omega) Lq b_
     ·rw[if_neg (by rw[w]; simp[c])] at e;simp only[go_sem,bF (show ((cL f k (lvl f n):Nat):Int)≠(n:Int) by omega),KR,wZz k];rw[← e] at q;exact aD (k+1,v,F) ⟨hlt,q⟩ (by simp only; omega) Lq b_
    ·have i:¬ (k:Int)<(f.a4Z.length:Nat):=Om;have:k=f.a4Z.length:=Om;subst this;simp only[go_sem,i,XK];exact vz q Sq
end Go.PM
