/-
  Texts of ours, joined: MkW15 MkW16 L11W1 R2Code R2W1 R2W2 R2W3 R2W4 R2W5 R2W6 R2W7 R2W8 Jn1 Jn2 L11P1 L11W2 L11W3 Mv1 Mv2 Mv3 Mv4 L11W4 Jn3 MkW17 MkW18 L11W5 Pm37 L11W6 L11P2 L11W7 L11W8 L11W9 L11W10 L11W11 L11W12 L11W13 Jn. No condition.
-/
import Derived.Test.YtgfeljaimmnmmaaGreatDoorLo1
import Derived.Test.YtgfeljaimmnmmaaGreatDoorLo2
import Derived.Test.YtgfeljaimmnmmaaGreatDoorLo3

set_option linter.unusedSimpArgs false
set_option linter.unusedVariables false
open Nat renaming reduceEqDiff → γ, reduceAdd → δ, reduceSub → ε, reduceMul → ζ, reduceLT → η, reduceLeDiff → θ, reduceBEq → τ
open Int renaming reduceLT → ι, reduceLE → κ, reduceEq → μ, reduceToNat → ν, reduceAdd → ξ, reduceNeg → ο, reduceBEq → ρ, reduceBNe → σ
open List renaming reduceReplicate → υ
open List renaming length_map → a7W, range → a7X, getElem_mem → a7Z, replicate → a8A, length_append → a8E, length_singleton → a8I, mem_cons → a8J, getElem?_eq_getElem → a8K, all_eq_true → a8M, getD_eq_getElem?_getD → a8P, length_take → a8Q, not_mem_nil → a8R, take_of_length_le → a8S, getElem?_map → a8V, map_append → a8W, take_length → a8Y, mem_map → a8Z, mem_range → a9A, getElem?_eq_some_iff → a9F, append_assoc → a9G, drop_zero → a9H, getElem_of_mem → a9I, map_cons → a9L, getElem?_eq_none → a9N, length_cons → a9O, getElem_map → a9R, mem_append → a9S, take_succ_eq_append_getElem → a9U, append_nil → a9W, drop_eq_getElem_cons → a9X, range' → a9Y, length_drop → a9Z, Sublist → baA, length_set → baB, map_nil → baF, length_nil → baM, mem_singleton → baN, getElem?_append_right → baO, getElem?_append_left → baP, nodup_append → baQ, mem_of_getElem? → baS, set_append_right → baT, take_append_drop → baU, ext_getElem → bbE, range_succ → bbI, getElem?_take → bbK, drop_of_length_le → bbQ, map_congr_left → bbR, set_cons_zero → bbS, length_filter_le → bbT, getElem_append_right → bbU
open Nat renaming gcd → a7Y, zero_le → a8C, le_refl → a8D, mul_add → a8L, lt_or_ge → a8T, zero_add → a8U, mul_assoc → a8X, mul_comm → a9B, add_mul → a9C, mul_le_mul_right → a9D, le_trans → a9J, mod_eq_of_lt → a9K, mod_lt → a9P, pow_succ → a9T, add_zero → baC, eq_zero_or_pos → baG, add_assoc → baH, min_eq_left → baI, mul_le_mul_left → baJ, pos_of_ne_zero → baK, pow_pos → baR, div_le_self → baV, pow_le_pow_right → baW, sub_self → baX, div_lt_iff_lt_mul → bbB, succ_mul → bbC, mul_le_mul → bbF, div_add_mod → bbL, div_eq_of_lt → bbM
open Bool renaming not_true → a8B, false_and → a8F, true_and → a8H, not_false → a8N, and_eq_true → a8O, and_false → a9E, and_true → baD, and_assoc → baZ, and_self → bbA, false_eq_true → bbH
open Option renaming map_eq_some_iff → a8G, map_some → a9M, some → baL, getD_some → baY, bind_eq_some_iff → bbN, bind_some → bbO
open Int renaming toNat_natCast → a9Q, tdiv → baE
open Array renaming replicate → a9V, length_toList → bbD, getElem?_eq_some_iff → bbG, getElem?_eq_getElem → bbJ, getD_eq_getD_getElem? → bbP
namespace Go.PM
open Go Go.Na
theorem Ws {C:Ctx} (S:mB C) {l:List Nat} {v:PV} (T:Tp l v) (E:FE) (pc n a:Nat) (hn:n≤60) (β:pc≤50) (ha:a≤l.length) (ext y A B J c:PV) (x:List bS) (Q:x.length=pc) (L:List LI) (K:bR) (F:PF) (H:PH)
  (Y:(((fP E).set 18 (.int .i64 n)).set 19 (.int .i64 0)).le F) (u:aN H (E.boxes v ext y A B J c .aB a) ((c,17,lO x)::L))
  (Z:∀ p R H',(fP E).le R→aN H' (E.boxes v ext y A B J c p (eM l pc a n).2) ((c,17,lO x)::L++[(p,2,oI (eM l pc a n).1)])→K (.exit 8) R H') :
  aC.wp C (.loop IZ) K F H:=by
 refine wp_loop (α:=Nat × PV × PH) (fun t=>((fP E).set 18 (.int .i64 n)).set 19 (.int .i64 t.1)) (fun t=>t.2.2) (fun t=>t.1≤n∧aN t.2.2 (E.boxes v ext y A B J c t.2.1 (eM l pc a t.1).2) ((c,17,lO x)::L++[(t.2.1,2,oI (eM l pc a t.1).1)])) (fun t=>n-t.1) (0,.aB,H) ⟨a8C _,u.nC 2⟩ Y b_ ?_;rintro⟨i,p,W⟩ ⟨hi,u⟩;simp only at hi u ⊢;obtain⟨k1,k2⟩:=YW l pc ha i;have w:eM l pc a (i+1)=((eM l pc a i).1++[⟨[118]++cA i,((aG l pc (eM l pc a i).2).1:Nat)⟩],(aG l pc (eM l pc a i).2).2):=rfl;simp only[go_sem,IZ,lk,fP];by_cases hlt:i<n
 ·have d:(i:Int)<(n:Nat):=Om;generalize hg:eM l pc a i=g at *
  have U:=u.set 0 rfl (bN v (aG l pc g.2).2);generalize N:aG l pc g.2=z at *
  have b1:=u.at 1 rfl;have V:=(u.own 0 rfl).sT;rw[a7W,Q] at V;have M:(PH.nil.set E.o7 (flB ext y A B J c p)).le W:=PH.aK a_ b1;simp only[go_sem,d];refine bV (PH.nil.set E.o7 (flB ext y A B J c p)) (mkS l v) M ?_;simp only[go_sem,ll];refine HI S.toqV (s:=[118]) (n:=i) (by decide) Om rfl M ?_;simp only[go_sem,V];refine rK S.toAV T (o:=E.o) (n:=pc) (a:=g.2) Om k1 rfl (u.at 0 rfl) ?_ ?_
  ·rw[N]; exact PH.aK a_ (U.at 1 rfl)
  rw[N];have O:(1:Nat)*2≤16777216:=by decide
  simp only[go_sem,O,a8J,a8R,or_false,forall_eq,forall_eq_or_imp];refine U.append (v:=p) (s:=2) (rows:=oI g.1) (L.length+1) (src:=[(⟨[118]++cA i,(z.1:Nat)⟩:eW).cells]) (by simp) rfl (by unfold roomFor; rw[a7W]; simp only[a8I,maxLen]; omega) fun w' H2 h5 hw=>?_;obtain⟨q,rfl⟩:=hw (by simp);rw[show ((c,17,lO x)::L++[(p,2,oI g.1)])=((c,17,lO x)::L)++[(p,2,oI g.1)] from rfl,baT _ _ (by simp),show L.length+1-((c,17,lO x)::L).length=0 by simp] at h5;have b2:=h5.at 1 rfl;refine⟨PH.aK a_ b2,?_⟩;refine bV .nil eT a_ ?_;simp only[go_sem,lm,b2,a8J,a8R,or_false,forall_eq];have X:=h5.set 1 rfl (flB ext y A B J c (.osl q 2 0 (oI g.1++[(⟨[118]++cA i,(z.1:Nat)⟩:eW).cells]).length));refine⟨a_,?_⟩;simp only[go_sem,ln,wZz i];refine aD (i+1,.osl q 2 0 (oI g.1++[(⟨[118]++cA i,(z.1:Nat)⟩:eW).cells]).length,_) ⟨hlt,?_⟩ (by simp only; omega) ?_ b_
  ·rw[w];have e:oI (g.1++[⟨[118]++cA i,(z.1:Nat)⟩])=oI g.1++[(⟨[118]++cA i,(z.1:Nat)⟩:eW).cells]:=by simp[oI]
   simp only;rw[e];exact X
  ·exact Lq
 ·have d:¬ (i:Int)<(n:Nat):=Om;have:i=n:=Om;subst this;simp only[go_sem,d];exact Z p _ _ (UZ rfl rfl rfl rfl rfl) u
def FC (l:List Nat) (v:PV) (o a6L a6N a:Nat) (r:PV) (H:PH):Prop:=Co r (.agg (gZ l a6L a6N a).1.cells)∧H=PH.nil.set o (bN v (gZ l a6L a6N a).2)
structure fz (C:Ctx):Prop extends mB C where
 grow:∀ (l:List Nat) (v:PV),Tp l v→∀ (mc a6L:Nat),0<mc→mc≤1000→a6L≤60→fx C l v mc a6L 4
theorem Bf {C:Ctx} (N:fz C) {l:List Nat} {v:PV} (T:Tp l v) (o a6L a6N a:Nat) (ω:a6L≤60) (Ξ:a6N≤50) (ha:a≤l.length) :
  CZ.wp C (aV kk.res (FC l v o a6L a6N a)) (PF.args [.ptr o 2 0 0,.int .i64 a6L,.int .i64 a6N]) (PH.nil.set o (bN v a)):=by
 have hT:gZ l a6L a6N a=gZ l a6L a6N a:=rfl
 conv at hT=>rhs; unfold gZ
 dsimp only at hT;have hR:∀ r H,FC l v o a6L a6N a r H↔Co r (.agg (gZ l a6L a6N a).1.cells)∧H=PH.nil.set o (bN v (gZ l a6L a6N a).2):=fun _ _=>Iff.rfl;have ne:=cJ l (show 0<2 by decide) a;have ae:=bT l 2 ha;generalize he:aG l 2 a=e at *
 have Φ:=cJ l (show 0<2 by decide) e.2;have δ:=bT l 2 ae;generalize Γ:aG l 2 e.2=M at *
 obtain⟨O,β⟩:=bn l δ (1+M.1);generalize Y:hZ l M.2 (1+M.1)=a6S at *
 have Ψ:=cJ l (show 0<2 by decide) a6S.2;have ε:=bT l 2 O;generalize Δ:aG l 2 a6S.2=d at *
 obtain⟨Q,V⟩:=JO l (1+M.1) ε (1+d.1);generalize S:eI l (1+M.1) d.2 (1+d.1)=a6M at *
 have θ:GOk l a6L ⟨[mJ],[],a6M.2⟩:=⟨by simp,a8C _,Q⟩;obtain⟨hG,-⟩:=an (mc:=1+d.1) 4 0 θ;generalize hg:eR l (1+d.1) a6L 4 0 ⟨[mJ],[],a6M.2⟩=g at *
 have Ω:=cJ l (show 0<2 by decide) g.a;have ζ:=bT l 2 hG.a;generalize Λ:aG l 2 g.a=pl at *
 obtain⟨R,γ⟩:=zX l (1+d.1) ζ (1+pl.1);generalize Z:dO l (1+d.1) pl.2 (1+pl.1)=pols at *
 have a':=cJ l (Om:0<a6N+1) pols.2;have ο:=bT l (a6N+1) R;generalize ν:aG l (a6N+1) pols.2=vo at *
 generalize α:eM l (1+pl.1) vo.2 vo.1=vols at *
 have ee:IntKind.i64.wrap (1+(e.1:Int))=((1+e.1:Nat):Int):=by rw[wrap_i64 Om Om]; omega
 have ρ:IntKind.i64.wrap (1+(M.1:Int))=((1+M.1:Nat):Int):=by rw[wrap_i64 Om Om]; omega
 have σ:IntKind.i64.wrap (1+(d.1:Int))=((1+d.1:Nat):Int):=by rw[wrap_i64 Om Om]; omega
 have τ:IntKind.i64.wrap (1+(pl.1:Int))=((1+pl.1:Nat):Int):=by rw[wrap_i64 Om Om]; omega
 have υ:IntKind.i64.wrap ((a6N:Int)+1)=((a6N+1:Nat):Int):=cZ Om;have h0:aN (PH.nil.set o (bN v a)) [(o,bN v a)] []:=aN.nil.new (H:=PH.nil) rfl (bN v a);simp only[go_sem,CZ,Bg,kk];refine aR fun o6 ι=>?_;have i:=h0.new ι flZ;simp only[go_sem,Bh];refine dM N.toAV T (o:=o) (n:=2) (a:=a) (by decide) ha rfl (i.at 0 rfl) ?_;have u:=i.set 0 rfl (bN v e.2);rw[he];simp only[go_sem,ee];refine aR fun o7 κ=>?_;have B:=u.new κ (flB (.int .i64 (1+e.1:Nat)) .aB .aB .aB .aB .aB .aB);simp only[go_sem,Bi,a8J,a8R,or_false,forall_eq,forall_eq_or_imp];refine dM N.toAV T (o:=o) (n:=2) (a:=e.2) (by decide) ae rfl (B.at 0 rfl) ?_;have h4:=B.set 0 rfl (bN v M.2);rw[Γ];have h5:=h4.perm (B':=FE.boxes ⟨o,o6,o7,a6L,a6N⟩ v (.int .i64 (1+e.1:Nat)) .aB .aB .aB .aB .aB .aB M.2) (L':=[]) (List.Perm.cons _ (List.Perm.swap _ _ _)) (List.Perm.refl _);obtain⟨E,c⟩:∃ E:FE,E=⟨o,o6,o7,a6L,a6N⟩:=⟨_,rfl⟩;rw[← c] at h5;simp only[go_sem,ρ,Bj];refine aHK (C:=C) N.tomB T E (1+M.1) M.2 Om δ _ _ _ _ ?_ h5 ?_
 ·rw[c];unfold fP;exact Lq
 clear h5 h4 B u i h0 ι κ;intro p F1 H1 F i;rw[Y] at i;have f0:F1 0=some (.ptr o 2 0 0):=F 0 _ (by rw[c]; unfold fP; simp only[go_sem]);have f1:F1 1=some (.int .i64 a6L):=F 1 _ (by rw[c]; unfold fP; simp only[go_sem]);have f2:F1 2=some (.int .i64 a6N):=F 2 _ (by rw[c]; unfold fP; simp only[go_sem]);have f6:F1 6=some (.ptr o6 7 0 0):=F 6 _ (by rw[c]; unfold fP; simp only[go_sem]);have f7:F1 7=some (.ptr o7 7 0 0):=F 7 _ (by rw[c]; unfold fP; simp only[go_sem]);have W:=i.at 0 rfl;rw[c] at W;simp only[go_sem,kn,f0];refine dM N.toAV T (o:=o) (n:=2) (a:=a6S.2) (by decide) O rfl W ?_;have u:=i.set 0 rfl (bN v d.2);rw[Δ];simp only[go_sem,σ,ko];refine amD (C:=C) N.tomB T E (1+d.1) d.2 (1+M.1) Om Om ε (.int .i64 (1+e.1:Nat)) p a6S.1 β _ _ _ ?_ (by rw[c] at u ⊢; exact u) ?_
 ·rw[c];unfold fP;exact Lq
 clear W u i f0 f1 f2 f6 f7 F;intro w2 F2 H2 J f11 u;rw[S] at u;have f0:F2 0=some (.ptr o 2 0 0):=J 0 _ (by rw[c]; unfold fP; simp only[go_sem]);have f1:F2 1=some (.int .i64 a6L):=J 1 _ (by rw[c]; unfold fP; simp only[go_sem]);have f2:F2 2=some (.int .i64 a6N):=J 2 _ (by rw[c]; unfold fP; simp only[go_sem]);have f6:F2 6=some (.ptr o6 7 0 0):=J 6 _ (by rw[c]; unfold fP; simp only[go_sem]);have f7:F2 7=some (.ptr o7 7 0 0):=J 7 _ (by rw[c]; unfold fP; simp only[go_sem]);obtain⟨qm,μ⟩:=(u.own 1 rfl).one (by rw[a7W]; omega);rw[a7W,V] at μ;subst μ;have χ:(1:Nat)*7≤16777216:=by decide
 simp only[go_sem,kx];refine aA (N.int 0 (by unfold dB; omega)) rfl ?_;simp only[go_sem,a8J,a8R,or_false,forall_eq,forall_eq_or_imp,χ];refine aR fun od Θ=>?_;have B:=u.anF (s:=7) (rows:=jY [mJ]) Θ;have b7:=u.at 1 rfl;rw[c] at b7;have n7:¬ o7=od:=by have:=B.neL 1 2 rfl rfl rfl;rw[c] at this; exact this
 simp only[go_sem,f7,b7,n7,a8J,a8R,or_false,forall_eq];have h4:=(B.set 1 rfl (flB (.int .i64 (1+e.1:Nat)) p (.osl qm 4 0 (1+d.1)) (.osl od 7 0 1) .aB .aB .aB)).nC 3;rw[c] at h4;have h5:=h4.perm (B':=(GE.mk o o7 qm (.int .i64 (1+e.1:Nat)) p .aB .aB).boxes v (1+d.1) (.osl od 7 0 1) .aB a6M.2++[(o6,flZ)]) (L':=lL ⟨[mJ],[],a6M.2⟩ (.osl od 7 0 1) .aB++[(p,4,hC a6S.1),(.osl qm 4 0 (1+d.1),4,jQ a6M.1)]) (List.Perm.refl _)
  (List.perm_append_comm (l₁:=[(p,4,hC a6S.1),(.osl qm 4 0 (1+d.1),4,jQ a6M.1)]) (l₂:=lL ⟨[mJ],[],a6M.2⟩ (.osl od 7 0 1) .aB))
 simp only[go_sem,ky,f0,f1,f7];refine EU h5 (fun H0 ψ=>N.grow l v T (1+d.1) a6L Om Om ω (GE.mk o o7 qm (.int .i64 (1+e.1:Nat)) p .aB .aB) (.osl od 7 0 1) .aB ⟨[mJ],[],a6M.2⟩ 0 mJ θ rfl rfl H0 ψ) (by simp only[go_sem,f0,f1,f7]; rfl) ?_;rintro r B' L' H3 ⟨rfl,y,A,rfl,rfl⟩ h6;rw[hg] at h6;have h7:=h6.perm (B':=E.boxes v (.int .i64 (1+e.1:Nat)) p (.osl qm 4 0 (1+d.1)) y A .aB .aB g.a) (L':=[(p,4,hC a6S.1),(.osl qm 4 0 (1+d.1),4,jQ a6M.1),(y,7,jY g.a6U),(A,3,mF g.a7E)]) (by rw[c]; exact List.Perm.refl _)
  (List.perm_append_comm (l₁:=lL g y A) (l₂:=[(p,4,hC a6S.1),(.osl qm 4 0 (1+d.1),4,jQ a6M.1)]))
 have W:=h7.at 0 rfl;rw[c] at W;simp only[go_sem,kz,f0];refine dM N.toAV T (o:=o) (n:=2) (a:=g.a) (by decide) hG.a rfl W ?_;have h8:=h7.set 0 rfl (bN v pl.2);rw[Λ];simp only[go_sem,τ,k6];refine O9 (C:=C) N.tomB T E (1+d.1) (1+pl.1) pl.2 Om Om Om ζ ((1+e.1:Nat):Int) p (.osl qm 4 0 (1+d.1)) y A a6S.1 a6M.1 g.a6U g.a7E _ _ _ (by rw[c]; exact⟨by simp only[go_sem,f0],by simp only[go_sem,f1],by simp only[go_sem,f2],by simp only[go_sem,f6],by simp only[go_sem,f7],by simp only[go_sem,f11],by simp only[go_sem],by simp only[go_sem]; rfl⟩) (by rw[c] at h8 ⊢; exact h8) ?_;clear h8 h7 h6 h5 h4 B u W b7 f0 f1 f2 f6 f7 J;intro X F4 H4 K i;rw[Z] at i;have f0:F4 0=some (.ptr o 2 0 0):=K 0 _ (by rw[c]; unfold fP; simp only[go_sem]);have f1:F4 1=some (.int .i64 a6L):=K 1 _ (by rw[c]; unfold fP; simp only[go_sem]);have f2:F4 2=some (.int .i64 a6N):=K 2 _ (by rw[c]; unfold fP; simp only[go_sem]);have f6:F4 6=some (.ptr o6 7 0 0):=K 6 _ (by rw[c]; unfold fP; simp only[go_sem]);have f7:F4 7=some (.ptr o7 7 0 0):=K 7 _ (by rw[c]; unfold fP; simp only[go_sem]);have W:=i.at 0 rfl;rw[c] at W;simp only[go_sem,lh,f0,f2,υ];refine dM N.toAV T (o:=o) (n:=a6N+1) (a:=pols.2) Om R rfl W ?_;have u:=i.set 0 rfl (bN v vo.2);rw[ν];have B:=u.perm (B':=E.boxes v (.int .i64 (1+e.1:Nat)) p (.osl qm 4 0 (1+d.1)) y A X .aB vo.2) (L':=(X,17,lO pols.1)::[(p,4,hC a6S.1),(.osl qm 4 0 (1+d.1),4,jQ a6M.1),(y,7,jY g.a6U),(A,3,mF g.a7E)]) (List.Perm.refl _)
  (List.perm_append_comm (l₁:=[(p,4,hC a6S.1),(.osl qm 4 0 (1+d.1),4,jQ a6M.1),(y,7,jY g.a6U),(A,3,mF g.a7E)]) (l₂:=[(X,17,lO pols.1)]))
 simp only[go_sem,lj];refine Ws (C:=C) N.tomB T E (1+pl.1) vo.1 vo.2 Om Om ο _ _ _ _ _ X pols.1 γ _ _ _ _ ?_ (by rw[c] at B ⊢; exact B) ?_
 ·rw[c];unfold fP;exact Lq
 clear B u i W f0 f1 f2 f6 f7 K;intro w6 F5 H5 η i;rw[α] at i;have f6:F5 6=some (.ptr o6 7 0 0):=η 6 _ (by rw[c]; unfold fP; simp only[go_sem]);have f7:F5 7=some (.ptr o7 7 0 0):=η 7 _ (by rw[c]; unfold fP; simp only[go_sem]);rw[c] at i;have b7:=i.at 1 rfl;have b6:=i.at 2 rfl;have one:∀ (x:PV),x∈[p,y,A,X,w6]→(∃ q s n,x=.osl q s 0 n)∨x=.aB:=by
  intro x hx;have U:∀ {s:Nat} {rows:List (List PV)},bQ H5 s x rows→(∃ q s n,x=.osl q s 0 n)∨x=.aB:=by
   rintro s rows (⟨_,h⟩ | ⟨q,rs,h,_⟩)
   ·exact .inr h
   ·exact .inl ⟨q,s,_,h⟩
  simp only[a8J,a8R,or_false] at hx;rcases hx with rfl | rfl | rfl | rfl | rfl
  ·exact U (i.own 1 rfl)
  ·exact U (i.own 3 rfl)
  ·exact U (i.own 4 rfl)
  ·exact U (i.own 0 rfl)
  ·exact U (i.own 5 rfl)
 have w:∀ (x:PV),x∈[p,y,A,X,w6]→PV.one x=true:=fun x hx=>by rcases one x hx with ⟨q,s,n,rfl⟩ | rfl<;>rfl
 have o1:=w p (by simp);have o3:=w y (by simp);have o4:=w A (by simp);have o5:=w X (by simp);have ξ:=w w6 (by simp);simp only[PV.one] at o1 o3 o4 o5 ξ;simp only[go_sem,lx,f6,f7,b7,b6,a8J,a8R,or_false,forall_eq,forall_eq_or_imp,o1,o3,o4,o5,ξ];have u:=i.set 2 rfl (flB (.int .i64 (1+e.1:Nat)) p (.osl qm 4 0 (1+d.1)) y A X w6);have B:=u.sub (B':=[(o,bN v vols.2)]) (baA.cons_cons _ (List.nil_sublist _)) (baA.refl _);obtain⟨φ,H6,k1,k2,k3,k4⟩:=aN.giveUp _ B (fun x hx=>by
  simp only[List.cons_append,List.nil_append,a8J,a8R,or_false] at hx;rcases hx with rfl | rfl | rfl | rfl | rfl | rfl
  ·exact aeF _
  ·exact abI _
  ·exact abJ _
  ·exact Yy _
  ·exact Y0 _
  ·exact aUM _) (fun b hb q s rs=>by
  simp only[a8J,a8R,or_false] at hb;subst hb;simp only[cG.frz,a9L,baF,T.frz];rfl)
 refine yQ (vs:=[.agg [.int .i64 (1+e.1:Nat),p,.osl qm 4 0 (1+d.1),y,A,X,w6]]) (.inr rfl) (by simp only[go_sem,f6]) (k4 _ _ (.done (H2:=PH.nil.set o (bN v vols.2)) ?_ (PH.aK a_ (k3.at 0 rfl))));rw[hR,hT];refine⟨CoL.agg ?_,rfl⟩;have s5:=k1 (X,17,lO pols.1) (by simp);have s1:=k1 (p,4,hC a6S.1) (by simp);have s2:=k1 (.osl qm 4 0 (1+d.1),4,jQ a6M.1) (by simp);have s3:=k1 (y,7,jY g.a6U) (by simp);have s4:=k1 (A,3,mF g.a7E) (by simp);have s6:=k1 (w6,2,oI vols.1) (by simp);have s0:φ (.int .i64 (1+e.1:Nat))=.int .i64 (1+e.1:Nat):=k2 _ rfl;show CoL [φ (.int .i64 (1+e.1:Nat)),φ p,φ (.osl qm 4 0 (1+d.1)),φ y,φ A,φ X,φ w6] _;rw[s0];exact CoL.cons (.refl _) (CoL.cons s1.co (CoL.cons s2.co (CoL.cons s3.co (CoL.cons s4.co (CoL.cons s5.co (CoL.cons s6.co .nil))))))
structure Iz (C:Ctx):Prop extends fz C where
 new:∀ (l:List Nat),(∀ x∈l,x<256)→l.length≤9223372036854775807→aH C 28 [.sl 1 (kF l)] .nil (ajF l)
 fleet:∀ (l:List Nat) (v:PV),Tp l v→∀ (o a6L a6N a:Nat),a6L≤60→a6N≤50→a≤l.length →
  aH C 0 [.ptr o 2 0 0,.int .i64 a6L,.int .i64 a6N] (PH.nil.set o (bN v a)) (fun r H=>r=.agg (gZ l a6L a6N a).1.cells∧H=PH.nil.set o (bN v (gZ l a6L a6N a).2))
theorem FC.exact {C:Ctx} {name:Nat} {args:List PV} {H:PH} {l:List Nat} {v:PV} {o a6L a6N a:Nat} (h:aH C name args H (FC l v o a6L a6N a)):aH C name args H (fun r H=>r=.agg (gZ l a6L a6N a).1.cells∧H=PH.nil.set o (bN v (gZ l a6L a6N a).2)) :=
 h.post fun r H' c=>⟨_,c.1,rfl,c.2⟩
theorem auO {C:Ctx} (p:Iz C) (l:List Nat) (u:∀ x∈l,x<256) (w:l.length≤9223372036854775807) (a6L a6N:Nat) (c:a6L≤60) (i:a6N≤50) :
  CX.wp C (aV kg.res (bZ (.agg (gZ (l.take 400) a6L a6N 0).1.cells))) (PF.args [.sl 1 (kF l),.int .i64 a6L,.int .i64 a6N]) .nil:=by
 simp only[go_sem,CX,Ba,kg];refine aR fun o6 y=>?_;simp only[go_sem,Bb];refine kU (p.new l u w) rfl a_ ?_;rintro r H' ⟨o,v,rfl,T,rfl⟩ q;have d:¬ o6=o:=by intro e;subst e;have:=q o6 (bN v 0) (by rw[aT,if_pos rfl]) rfl;rw[aT,if_pos rfl] at this;cases this
 rw[PH.pO];simp only[go_sem];refine mS (p.fleet _ v T o a6L a6N 0 c i (a8C _)) (by rw[aT,if_pos rfl]) rfl ?_;simp only[go_sem,d];exact bA (vs:=[.agg (gZ (l.take 400) a6L a6N 0).1.cells]) (.inr rfl) .nil Sq a_ ⟨.refl _,rfl⟩
theorem CoL.a3X:CoL [] []:=⟨rfl,fun j p q h=>by simp at h⟩
theorem CoL.akF {p q:PV} {ps d:List PV} (h:Co p q) (c:CoL ps d):CoL (p::ps) (q::d):=by
 refine⟨by simp[c.len],fun j x y a b=>?_⟩;cases j with
 | zero =>simp only[List.getElem?_cons_zero,baL.injEq] at a b;subst a; subst b; exact h
 | succ j=>exact c.at_ j x y (by simpa using a) (by simpa using b)
theorem aH.seen {C:Ctx} {name:Nat} {args:List PV} {H:PH} {v:PV} (h:aH C name args H (bZ v)):aH C name args H (aF v) :=
 h.post fun r H' c=>⟨v,c.1,rfl,c.2⟩
def VJ (x:RF):Bool:=(x.num.all (fun n=>decide (n<4294967296))&&x.den.all fun n=>decide (n<4294967296))&&(decide (x.num.length≤9)&&decide (x.den.length≤9))
theorem KQ {x:RF} (h:VJ x=true):x.Ok:=by
 simp only[VJ,a8O,a8M,decide_eq_true_eq] at h;exact⟨h.1.1,h.1.2,by omega,by omega⟩
def GF (l:List RF):Bool:=decide (l.length≤9)&&l.all VJ
theorem BT {l:List RF} (h:GF l=true):jR l:=by
 simp only[GF,a8O,a8M,decide_eq_true_eq] at h;exact⟨by unfold Fits; omega,fun x c=>KQ (h.2 x c)⟩
def Oi (x:cE):Bool:=(GF x.start&&GF x.exit)&&(decide (x.a6Q.length≤9)&&x.a6Q.all GF)
theorem atO {x:cE} (h:Oi x=true):x.Ok:=by
 simp only[Oi,a8O,a8M,decide_eq_true_eq] at h;exact⟨BT h.1.1,BT h.1.2,by unfold Fits; omega,fun r c=>BT (h.2.2 r c)⟩
def Rt (x:bS):Bool:=(decide (dB x.k∧dB x.m∧dB x.a7J)&&(decide (x.a6M.length≤9)&&x.a6M.all fun m=>decide (dB m)))&&(GF x.repair&&(VJ x.target&&VJ x.a6V))
theorem avZ {x:bS} (h:Rt x=true):x.Ok:=by
 simp only[Rt,a8O,a8M,decide_eq_true_eq] at h;exact⟨h.1.1.1,h.1.1.2.1,h.1.1.2.2,by unfold Fits; omega,h.1.2.2,BT h.2.1,KQ h.2.2.1,KQ h.2.2.2⟩
def okB (f:aE):Bool:=(decide (f.a6S.length≤99∧f.a6M.length≤99∧f.a6O.length≤99∧f.a6L.length≤99∧f.a6P.length≤99∧f.a6N.length≤99)&&(f.a6S.all Oi&&f.a6P.all Rt)) &&
 (f.a6O.all (fun x=>VJ x.a7A&&decide (dB x.level∧dB x.parent))&&(f.a6L.all (fun x=>decide (dB x.model∧dB x.machine))&&f.a6N.all fun x=>decide (dB x.a6X)))
theorem aWS {f:aE} (h:okB f=true):f.Ok:=by
 simp only[okB,a8O,a8M,decide_eq_true_eq] at h;obtain⟨⟨⟨p,q,u,w,y,A⟩,e,i⟩,d,l,h5⟩:=h;exact⟨by unfold Fits; omega,by unfold Fits; omega,by unfold Fits; omega,by unfold Fits; omega,by unfold Fits; omega,by unfold Fits; omega,fun x c=>atO (e x c),fun x c=>⟨KQ (d x c).1,(d x c).2⟩,l,fun x c=>avZ (i x c),h5⟩
def Er:Rg:=[iZ 4]
def Es:Rg:=[iZ 5]
def Et:Rg:=[iA 6 (.mv (.const (.int .u64 0)))]
def Eu:Rg:=[iI 7 0]
def Ew:Rg:=[iM 10 7,iM 11 0,iN 12 11,iB 13 .lss 10 12]
def Ex:Rg:=[iM 16 6,iM 8 16]
def Ey:Rg:=[iM 17 7,iM 18 1,iN 19 18,iB 20 .lss 17 19]
def Ez:Rg:=[iM 21 8,iM 22 1,iM 23 7,iX 24 1 22 23,iL 25 24,iA 26 (.conv .u64 (Tm 25)),iB 27 .add 21 26,iM 8 27]
def TM:Rg:=[iM 28 0,iM 29 7,iX 30 1 28 29,iL 31 30,iA 32 (.conv .u64 (Tm 31)),iM 9 32]
def TN:Rg:=[iA 6 (.mv (.const (.int .u64 0)))]
def LQ:Rg:=[iM 33 9,iM 34 8,iB 35 .lss 33 34]
def LS:Rg:=[iM 36 9,iA 37 (.bin .add (Tm 36) (.const (.int .u64 4294967296))),iM 9 37]
def LT:Rg:=[iA 6 (.mv (.const (.int .u64 1)))]
def xO:Rg:=[iM 38 5,iM 39 9,iM 40 8,iB 41 .sub 39 40,iA 42 (.conv .u32 (Tm 41)),iA 43 (.a6R true 1 1 [(.int .u32 0)] [(0,(Tm 42))]),iA 44 (.append 1 4 (Tm 38) (Tm 43)),iM 5 44]
def xP:Rg:=[iM 14 7,iC 15 .add 14 1,iM 7 15]
def qj:aC:=(.seq (sq Ew (.cond (Tm 13) .skip (.exit 0))) (.seq (.block 1 (sq Ex (.seq (sq Ey (.cond (Tm 20) (.region Ez) .skip)) (sq TM (sq TN (.seq (sq LQ (.cond (Tm 35) (sq LS (.region LT)) .skip)) (.region xO))))))) (.region xP)))
def qk:Rg:=[iM 45 5,iK 46 38 45,iM 4 46]
def EM:aC:=(sq Er (sq Es (sq Et (.seq (sq Eu (.block 0 (.loop qj))) (sq qk .ret)))))
def aCK:List Nat:=[43]
def qi:aS:=⟨2,47,EM,[.tmp 4]⟩
def Uh:Rg:=[iZ 4]
def Ui:Rg:=[iZ 5]
def Uj:Rg:=[iA 6 (.mv (.const (.int .u64 0)))]
def Uk:Rg:=[iI 7 0]
def Ul:Rg:=[iM 9 7,iM 10 0,iN 11 10,iB 12 .lss 9 11,iM 13 12,gM 14 7 13 false,gM 15 1 13 false,gN 16 15 13 false,gB 17 .lss 14 16 13 false,iQ 18 13 17,iM 19 18,gM 20 6 19 false,iG 21 (.bin .gtr (Tm 20) (.const (.int .u64 0))) 19 false,iQ 22 19 21]
def d7:Rg:=[iM 25 6,iM 8 25]
def d8:Rg:=[iM 26 7,iM 27 0,iN 28 27,iB 29 .lss 26 28]
def d9:Rg:=[iM 30 8,iM 31 0,iM 32 7,iX 33 1 31 32,iL 34 33,iA 35 (.conv .u64 (Tm 34)),iB 36 .add 30 35,iM 8 36]
def LY:Rg:=[iM 37 7,iM 38 1,iN 39 38,iB 40 .lss 37 39]
def LZ:Rg:=[iM 41 8,iM 42 1,iM 43 7,iX 44 1 42 43,iL 45 44,iA 46 (.conv .u64 (Tm 45)),iB 47 .add 41 46,iM 8 47]
def CA:Rg:=[iM 48 5,iM 49 8,iA 50 (.conv .u32 (Tm 49)),iA 51 (.a6R true 1 1 [(.int .u32 0)] [(0,(Tm 50))]),iA 52 (.append 1 4 (Tm 48) (Tm 51)),iM 5 52]
def CB:Rg:=[iM 53 8,iA 54 (.bin .shr (Tm 53) (.const (.int .u64 32))),iM 6 54]
def CC:Rg:=[iM 23 7,iC 24 .add 23 1,iM 7 24]
def E5:aC:=(.seq (sq Ul (.cond (Tm 22) .skip (.exit 0))) (.seq (.block 1 (sq d7 (.seq (sq d8 (.cond (Tm 29) (.region d9) .skip)) (.seq (sq LY (.cond (Tm 40) (.region LZ) .skip)) (sq CA (.region CB)))))) (.region CC)))
def TQ:Rg:=[iM 55 5,iK 56 38 55,iM 4 56]
def LX:aC:=(sq Uh (sq Ui (sq Uj (.seq (sq Uk (.block 0 (.loop E5))) (sq TQ .ret)))))
def aNL:List Nat:=[51]
def Ie:aS:=⟨2,57,LX,[.tmp 4]⟩
def E7:Rg:=[iZ 4]
def E8:Rg:=[iM 10 0,iN 11 10,iM 12 1,iN 13 12,iB 14 .add 11 13,iA 15 (.a6T 1 4 [(.int .u32 0)] (Tm 14) (Tm 14)),iM 5 15]
def E9:Rg:=[iI 6 0]
def Fa:Rg:=[iM 16 6,iM 17 0,iN 18 17,iB 19 .lss 16 18]
def TT:Rg:=[iA 7 (.mv (.const (.int .u64 0)))]
def TU:Rg:=[iI 8 0]
def Fb:Rg:=[iM 22 8,iM 23 1,iN 24 23,iB 25 .lss 22 24]
def Fc:Rd:=[(iM 28 0,false),(iM 29 6,false),(iX 30 1 28 29,false),(iL 31 30,false),(iA 32 (.conv .u64 (Tm 31)),false),(iM 33 1,false),(iM 34 8,false),(iX 35 1 33 34,false),(iL 36 35,false),(iA 37 (.conv .u64 (Tm 36)),false),(iB 38 .mul 32 37,false),(iM 39 5,false),(iM 40 6,false),(iM 41 8,false),(iB 42 .add 40 41,false),(iX 43 1 39 42,false),(iL 44 43,false),(iA 45 (.conv .u64 (Tm 44)),false),(iB 46 .add 38 45,false),(iM 47 7,false),(iB 48 .add 46 47,false),(iM 9 48,false)]
def Fd:Rg:=[iM 49 5,iM 50 6,iM 51 8,iB 52 .add 50 51,iM 53 9,iA 54 (.conv .u32 (Tm 53)),iX 55 1 49 52,iS 1 55 54]
def Fe:Rg:=[iM 56 9,iA 57 (.bin .shr (Tm 56) (.const (.int .u64 32))),iM 7 57]
def qt:Rg:=[iM 26 8,iC 27 .add 26 1,iM 8 27]
def MA:aC:=(.seq (sq Fb (.cond (Tm 25) .skip (.exit 2))) (.seq (.block 3 (dq Fc (sq Fd (.region Fe)))) (.region qt)))
def MB:Rg:=[iM 58 5,iM 59 6,iM 60 1,iN 61 60,iB 62 .add 59 61,iM 63 7,iA 64 (.conv .u32 (Tm 63)),iX 65 1 58 62,iS 1 65 64]
def qu:Rg:=[iM 20 6,iC 21 .add 20 1,iM 6 21]
def qr:aC:=(.seq (sq Fa (.cond (Tm 19) .skip (.exit 0))) (.seq (.block 1 (sq TT (.seq (sq TU (.block 2 (.loop MA))) (.region MB)))) (.region qu)))
def qv:Rg:=[iM 66 5,iK 67 38 66,iM 4 67]
def EN:aC:=(sq E7 (sq E8 (.seq (sq E9 (.block 0 (.loop qr))) (sq qv .ret))))
def aCN:List Nat:=[]
def qq:aS:=⟨2,68,EN,[.tmp 4]⟩
def afI:Rg:=[iZ 4,iI 5 0]
def afJ:Rg:=[iM 7 0,iK 8 41 7,iM 9 8,gM 10 1 9 false,gK 11 41 10 9 false,iQ 12 9 11]
def xv:Rg:=[iZ 4,iI 5 2]
def afK:Rg:=[iM 13 0,iK 14 38 13,iM 15 1,iK 16 38 15,iK2 17 43 14 16,iM 6 17]
def afL:Rg:=[iM 18 6,iK 19 41 18]
def afM:Rg:=[iZ 4,iI 5 2]
def afN:Rg:=[iM 20 6,iM 4 20,iI 5 0]
def TG:aC:=(sq afI (.seq (sq afJ (.cond (Tm 12) (sq xv .ret) .skip)) (sq afK (.seq (sq afL (.cond (Tm 19) (sq afM .ret) .skip)) (sq afN .ret)))))
def aUC:List Nat:=[]
def aqJ:aS:=⟨2,21,TG,[.tmp 4,.tmp 5]⟩
def agY:Rg:=[iZ 4,iI 5 0]
def agZ:Rg:=[iM 6 0,iK 7 41 6,iM 8 7,gM 9 1 8 false,gK 10 41 9 8 false,iQ 11 8 10]
def xz:Rg:=[iZ 4,iI 5 2]
def ahA:Rg:=[iM 12 0,iM 13 1,iK2 14 32 12 13,iC 15 .lss 14 0]
def ahB:Rg:=[iZ 4,iI 5 4]
def ahC:Rg:=[iM 16 0,iK 17 38 16,iM 18 1,iK 19 38 18,iK2 20 42 17 19,iM 4 20,iI 5 0]
def TS:aC:=(sq agY (.seq (sq agZ (.cond (Tm 11) (sq xz .ret) .skip)) (.seq (sq ahA (.cond (Tm 15) (sq ahB .ret) .skip)) (sq ahC .ret))))
def aUJ:List Nat:=[]
def aqT:aS:=⟨2,21,TS,[.tmp 4,.tmp 5]⟩
def agQ:Rg:=[iZ 4,iI 5 0]
def agR:Rg:=[iM 7 0,iK 8 41 7,iM 9 8,gM 10 1 9 false,gK 11 41 10 9 false,iQ 12 9 11]
def xy:Rg:=[iZ 4,iI 5 2]
def agS:Rg:=[iM 13 0,iK 14 38 13,iM 15 1,iK 16 38 15,iK2 17 44 14 16,iM 6 17]
def agT:Rg:=[iM 18 6,iK 19 41 18]
def agU:Rg:=[iZ 4,iI 5 2]
def agV:Rg:=[iM 20 6,iM 4 20,iI 5 0]
def TO:aC:=(sq agQ (.seq (sq agR (.cond (Tm 12) (sq xy .ret) .skip)) (sq agS (.seq (sq agT (.cond (Tm 19) (sq agU .ret) .skip)) (sq agV .ret)))))
def aUG:List Nat:=[]
def aqQ:aS:=⟨2,21,TO,[.tmp 4,.tmp 5]⟩
def Tk:Rg:=[iI 2 0]
def Tl:Rg:=[iM 5 0,iK 6 38 5,iM 0 6]
def Tn:Rg:=[iM 7 0,iN 8 7,iC 9 .eql 8 0]
def To:Rg:=[iI 2 0]
def Tq:Rg:=[iM 10 0,iN 11 10,iC 12 .sub 11 1,iA 13 (.bin .mul (Ci 32) (Tm 12)),iM 3 13]
def Tr:Rg:=[iM 14 0,iM 15 0,iN 16 15,iC 17 .sub 16 1,iX 18 1 14 17,iL 19 18,iM 4 19]
def Ts:Rg:=[iM 20 4,iA 21 (.bin .gtr (Tm 20) (.const (.int .u32 0)))]
def Tt:Rg:=[iM 24 3,iC 25 .add 24 1,iM 3 25]
def Tu:Rg:=[iM 22 4,iA 23 (.bin .quo (Tm 22) (.const (.int .u32 2))),iM 4 23]
def Ti:aC:=(.seq (sq Ts (.cond (Tm 21) .skip (.exit 0))) (.seq (.block 1 (.region Tt)) (.region Tu)))
def Ej:Rg:=[iM 26 3,iM 2 26]
def LK:aC:=(sq Tk (sq Tl (.seq (sq Tn (.cond (Tm 9) (sq To .ret) .skip)) (sq Tq (.seq (sq Tr (.block 0 (.loop Ti))) (sq Ej .ret))))))
def aNB:List Nat:=[]
def Ib:aS:=⟨1,27,LK,[.tmp 2]⟩
def aCP:Rg:=[iZ 4]
def aCQ:Rg:=[iM 9 0,iN 10 9,iC 11 .eql 10 0]
def aCR:Rg:=[iZ 4]
def aCS:Rg:=[iM 12 1,iC 13 .quo 12 32,iA 14 (.a6T 1 4 [(.int .u32 0)] (Tm 13) (Tm 13)),iM 5 14]
def aCT:Rg:=[iA 6 (.mv (.const (.int .u64 0)))]
def aCU:Rg:=[iI 7 0]
def aCV:Rg:=[iM 15 7,iM 16 0,iN 17 16,iB 18 .lss 15 17]
def aCW:Rg:=[iM 21 0,iM 22 7,iX 23 1 21 22,iL 24 23,iA 25 (.conv .u64 (Tm 24)),iM 26 1,iC 27 .rem 26 32,iA 28 (.conv .u64 (Tm 27)),iB 29 .shl 25 28,iM 30 6,iB 31 .or 29 30,iM 8 31]
def aCX:Rg:=[iM 32 5,iM 33 8,iA 34 (.conv .u32 (Tm 33)),iA 35 (.a6R true 1 1 [(.int .u32 0)] [(0,(Tm 34))]),iA 36 (.append 1 4 (Tm 32) (Tm 35)),iM 5 36]
def aCY:Rg:=[iM 37 8,iA 38 (.bin .shr (Tm 37) (.const (.int .u64 32))),iM 6 38]
def ahE:Rg:=[iM 19 7,iC 20 .add 19 1,iM 7 20]
def ahD:aC:=(.seq (sq aCV (.cond (Tm 18) .skip (.exit 0))) (.seq (.block 1 (sq aCW (sq aCX (.region aCY)))) (.region ahE)))
def ahF:Rg:=[iM 39 5,iM 40 6,iA 41 (.conv .u32 (Tm 40)),iA 42 (.a6R true 1 1 [(.int .u32 0)] [(0,(Tm 41))]),iA 43 (.append 1 4 (Tm 39) (Tm 42)),iK 44 38 43,iM 4 44]
def el:aC:=(sq aCP (.seq (sq aCQ (.cond (Tm 11) (sq aCR .ret) .skip)) (sq aCS (sq aCT (.seq (sq aCU (.block 0 (.loop ahD))) (sq ahF .ret))))))
def aYC:List Nat:=[35,42]
def uup:aS:=⟨2,45,el,[.tmp 4]⟩
def T2:Rg:=[iZ 4]
def T3:Rg:=[iM 8 1,iC 9 .quo 8 32,iM 10 0,iN 11 10,iB 12 .geq 9 11]
def T4:Rg:=[iZ 4]
def T5:Rg:=[iZ 5]
def T6:Rg:=[iM 13 1,iC 14 .quo 13 32,iM 6 14]
def T7:Rg:=[iM 15 6,iM 16 0,iN 17 16,iB 18 .lss 15 17]
def T8:Rg:=[iM 21 0,iM 22 6,iX 23 1 21 22,iL 24 23,iA 25 (.conv .u64 (Tm 24)),iM 7 25]
def T9:Rg:=[iM 26 6,iC 27 .add 26 1,iM 28 0,iN 29 28,iB 30 .lss 27 29]
def Ua:Rg:=[iM 31 7,iM 32 0,iM 33 6,iC 34 .add 33 1,iX 35 1 32 34,iL 36 35,iA 37 (.conv .u64 (Tm 36)),iA 38 (.bin .shl (Tm 37) (.const (.int .u64 32))),iB 39 .or 31 38,iM 7 39]
def d3:Rg:=[iM 40 5,iM 41 7,iM 42 1,iC 43 .rem 42 32,iA 44 (.conv .u64 (Tm 43)),iB 45 .shr 41 44,iA 46 (.conv .u32 (Tm 45)),iA 47 (.a6R true 1 1 [(.int .u32 0)] [(0,(Tm 46))]),iA 48 (.append 1 4 (Tm 40) (Tm 47)),iM 5 48]
def TK:Rg:=[iM 19 6,iC 20 .add 19 1,iM 6 20]
def Ek:aC:=(.seq (sq T7 (.cond (Tm 18) .skip (.exit 0))) (.seq (.block 1 (sq T8 (.seq (sq T9 (.cond (Tm 30) (.region Ua) .skip)) (.region d3)))) (.region TK)))
def El:Rg:=[iM 49 5,iK 50 38 49,iM 4 50]
def LO:aC:=(sq T2 (.seq (sq T3 (.cond (Tm 12) (sq T4 .ret) .skip)) (sq T5 (.seq (sq T6 (.block 0 (.loop Ek))) (sq El .ret)))))
def aNE:List Nat:=[47]
def Ic:aS:=⟨2,51,LO,[.tmp 4]⟩
def F8:Rg:=[iA 1 (.box true (Tm 0)),iT 2 false]
def F9:Rg:=[iF 3 2 1,iL 4 3,iK 5 38 4,iN 6 5,iC 7 .gtr 6 0,iM 8 7,gF 9 2 1 8 true,gL 10 9 8 true,gK 11 38 10 8 true,gN 12 11 8 true,gC 13 .leq 12 128 8 true,iP 14 8 13,iM 15 14,gF 16 1 1 15 true,gL 17 16 15 true,gK 18 38 17 15 true,gN 19 18 15 true,gC 20 .leq 19 128 15 true,iP 21 15 20,iM 2 21]
def ER:aC:=(sq F8 (sq F9 .ret))
def aDE:List Nat:=[1]
def ry:aS:=⟨1,22,ER,[.tmp 2]⟩
def Fi:Rg:=[iA 1 (.box true (Tm 0)),iT 2 false]
def Fj:Rg:=[iF 3 1 1,iL 4 3,iN 5 4,iC 6 .gtr 5 128,iM 7 6,gF 8 2 1 7 false,gL 9 8 7 false,gN 10 9 7 false,gC 11 .gtr 10 128 7 false,iQ 12 7 11,iM 2 12]
def EO:aC:=(sq Fi (sq Fj .ret))
def aDB:List Nat:=[1]
def qx:aS:=⟨1,13,EO,[.tmp 2]⟩
def Uy:Rg:=[iA 1 (.box true (Tm 0)),iA 2 (.alloc [zB,.aB,.aB]),iI 3 0]
def Uz:Rg:=[iO 4 3 1,iK 5 48 4]
def U1:Rg:=[iA 6 (.build [zB,.aB,.aB] []),iS 3 2 6,iI 3 2]
def U2:Rg:=[iO 7 3 1,iS 3 2 7,iI 3 0]
def MD:aC:=(sq Uy (.seq (sq Uz (.cond (Tm 5) (sq U1 .ret) .skip)) (sq U2 .ret)))
def aNP:List Nat:=[1]
def Il:aS:=⟨1,8,MD,[.cell 2 (some 3),.tmp 3]⟩
def rp:Rg:=[iA 1 (.box true (Tm 0)),iA 2 (.alloc [zB,.aB,.aB]),iI 3 0]
def rt:Rg:=[iO 4 3 1,iK 5 56 4,iA 6 (.un .not (Tm 5))]
def ru:Rg:=[iA 7 (.build [zB,.aB,.aB] []),iS 3 2 7,iI 3 1]
def rv:Rg:=[iF 8 0 1,iL 9 8,iF 10 1 1,iL 11 10,iF 12 2 1,iL 13 12,iA 14 (.call 58 [(Tm 9),(Tm 11),(Tm 13)]),iS 3 2 14,iI 3 0]
def AK:aC:=(sq rp (.seq (sq rt (.cond (Tm 6) (sq ru .ret) .skip)) (sq rv .ret)))
def arA:List Nat:=[1]
def VS:aS:=⟨1,15,AK,[.cell 2 (some 3),.tmp 3]⟩
def Fy:Rg:=[iZ 4]
def F0:Rg:=[iM 8 0,iM 9 1,iK2 10 36 8 9,iM 7 10,iE 11 7 0,iE 12 7 1,iM 5 11,iM 6 12]
def F6:Rg:=[iM 13 5,iM 4 13]
def EQ:aC:=(sq Fy (sq F0 (sq F6 .ret)))
def aDD:List Nat:=[]
def rx:aS:=⟨2,14,EQ,[.tmp 4]⟩
def Fl:Rg:=[iA 2 (.box true (Tm 0)),iA 3 (.box true (Tm 1)),iI 4 0]
def Fm:Rd:=[(iF 9 1 2,false),(iL 10 9,false),(iF 11 2 3,false),(iL 12 11,false),(iK2 13 60 10 12,true),(iF 14 1 3,true),(iL 15 14,true),(iF 16 2 2,true),(iL 17 16,true),(iK2 18 60 15 17,true),(iM 5 13,false),(iM 6 18,false)]
def Fn:Rg:=[iF 19 0 2,iL 20 19,iM 21 20,gM 22 5 21 true,gN 23 22 21 true,gC 24 .gtr 23 0 21 true,iP 25 21 24,iF 26 0 3,iL 27 26,iM 28 27,gM 29 6 28 true,gN 30 29 28 true,gC 31 .gtr 30 0 28 true,iP 32 28 31,iM 7 25,iM 8 32]
def Fo:Rg:=[iM 34 7,iM 35 34,gM 36 8 35 true,iG 37 (.un .not (Tm 36)) 35 true,iP 38 35 37,iM 33 38]
def Fp:Rg:=[iI 4 (-1)]
def Fq:Rg:=[iM 40 8,iM 41 40,gM 42 7 41 true,iG 43 (.un .not (Tm 42)) 41 true,iP 44 41 43,iM 39 44]
def Fr:Rg:=[iI 4 1]
def Ft:Rg:=[iM 46 7,iM 45 46]
def Fu:Rg:=[iM 47 6,iM 48 5,iK2 49 32 47 48,iM 4 49]
def Fv:Rg:=[iM 50 5,iM 51 6,iK2 52 32 50 51,iM 4 52]
def EP:aC:=(sq Fl (dq Fm (sq Fn (.seq (.block 0 (sq Fo (.cond (Tm 33) (sq Fp .ret) (sq Fq (.cond (Tm 39) (sq Fr .ret) (sq Ft (.cond (Tm 45) (sq Fu .ret) .skip))))))) (sq Fv .ret)))))
def aDC:List Nat:=[2,3]
def rj:aS:=⟨2,53,EP,[.tmp 4]⟩
def U5:Rg:=[iA 2 (.box true (Tm 0)),iA 3 (.box true (Tm 1)),iT 4 false]
def U6:Rg:=[iO 5 3 2,iO 6 3 3,iK2 7 51 5 6,iC 8 .lss 7 0,iM 4 8]
def MF:aC:=(sq U5 (sq U6 .ret))
def aNR:List Nat:=[2,3]
def Im:aS:=⟨2,9,MF,[.tmp 4]⟩
def Ve:Rg:=[iA 2 (.box true (Tm 0)),iA 3 (.box true (Tm 1)),iT 4 false]
def Vf:Rg:=[iO 5 3 2,iO 6 3 3,iK2 7 51 5 6,iC 8 .eql 7 0,iM 4 8]
def MJ:aC:=(sq Ve (sq Vf .ret))
def aNT:List Nat:=[2,3]
def Io:aS:=⟨2,9,MJ,[.tmp 4]⟩
def Vh:Rg:=[iA 1 (.box true (Tm 0)),iI 2 0]
def Vi:Rd:=[(iO 3 3 1,true),(iA 4 (.call 47 [(Ci 0)]),true),(iK2 5 51 3 4,true),(iM 2 5,false)]
def MK:aC:=(sq Vh (dq Vi .ret))
def aNU:List Nat:=[1]
def Ip:aS:=⟨1,6,MK,[.tmp 2]⟩
def ahH:Rg:=[iA 2 (.box true (Tm 0)),iA 3 (.box true (Tm 1)),iA 4 (.alloc [zB,.aB,.aB]),iI 5 0]
def ahI:Rg:=[iO 15 3 2,iK 16 56 15,iA 17 (.un .not (Tm 16)),iM 18 17,gO 19 3 3 18 false,gK 20 56 19 18 false,iG 21 (.un .not (Tm 20)) 18 false,iQ 22 18 21]
def x2:Rg:=[iA 23 (.build [zB,.aB,.aB] []),iS 3 4 23,iI 5 1]
def ahJ:Rd:=[(iF 24 1 2,false),(iL 25 24,false),(iF 26 2 3,false),(iL 27 26,false),(iK2 28 60 25 27,true),(iF 29 1 3,true),(iL 30 29,true),(iF 31 2 2,true),(iL 32 31,true),(iK2 33 60 30 32,true),(iF 34 2 2,true),(iL 35 34,true),(iF 36 2 3,true),(iL 37 36,true),(iK2 38 60 35 37,true),(iM 6 28,false),(iM 7 33,false),(iM 8 38,false)]
def ahK:Rg:=[iF 39 0 2,iL 40 39,iF 41 0 3,iL 42 41,iA 43 (.eqb false (Tm 40) (Tm 42))]
def ahL:Rg:=[iM 45 6,iM 46 7,iK2 47 30 45 46,iM 44 47,iE 48 44 0,iE 49 44 1,iM 9 48,iM 10 49]
def ahM:Rg:=[iF 50 0 2,iL 51 50,iM 52 9,iM 53 8,iA 54 (.call 58 [(Tm 51),(Tm 52),(Tm 53)]),iK 55 57 54,iE 56 55 0,iE 57 55 1,iS 3 4 56,iM 5 57]
def ahN:Rg:=[iM 58 6,iM 59 7,iK2 60 32 58 59,iC 61 .geq 60 0]
def ahO:Rg:=[iM 63 6,iM 64 7,iK2 65 37 63 64,iM 62 65,iE 66 62 0,iE 67 62 1,iM 11 66,iM 12 67]
def ahP:Rg:=[iF 68 0 2,iL 69 68,iM 70 11,iM 71 8,iA 72 (.call 58 [(Tm 69),(Tm 70),(Tm 71)]),iK 73 57 72,iE 74 73 0,iE 75 73 1,iS 3 4 74,iM 5 75]
def Uu:Rg:=[iM 77 7,iM 78 6,iK2 79 37 77 78,iM 76 79,iE 80 76 0,iE 81 76 1,iM 13 80,iM 14 81]
def Uv:Rg:=[iF 82 0 3,iL 83 82,iM 84 13,iM 85 8,iA 86 (.call 58 [(Tm 83),(Tm 84),(Tm 85)]),iK 87 57 86,iE 88 87 0,iE 89 87 1,iS 3 4 88,iM 5 89]
def CD:aC:=(sq ahH (.seq (sq ahI (.cond (Tm 22) (sq x2 .ret) .skip)) (dq ahJ (.seq (sq ahK (.cond (Tm 43) (sq ahL (sq ahM .ret)) .skip)) (.seq (sq ahN (.cond (Tm 61) (sq ahO (sq ahP .ret)) .skip)) (sq Uu (sq Uv .ret)))))))
def aUK:List Nat:=[2,3]
def Ut:aS:=⟨2,90,CD,[.cell 4 (some 3),.tmp 5]⟩
def ahV:Rg:=[iA 2 (.alloc [zB,.aB,.aB]),iI 3 0]
def ahW:Rg:=[iA 8 (.call 47 [(Ci 0)]),iA 4 (.alloc [zB,.aB,.aB]),iS 3 4 8]
def ahX:Rg:=[iI 5 0]
def ahY:Rg:=[iM 9 5,iM 10 0,iN 11 10,iB 12 .lss 9 11]
def ahZ:Rd:=[(iO 16 3 4,false),(iM 17 0,false),(iM 18 5,false),(iX 19 3 17 18,false),(iO 20 3 19,false),(iK2 21 46 16 20,true),(iM 15 21,false),(iE 22 15 0,false),(iE 23 15 1,true),(iA 6 (.alloc [zB,.aB,.aB]),true),(iS 3 6 22,true),(iM 7 23,false)]
def x4:Rg:=[iM 24 7,iC 25 .neq 24 0]
def aiA:Rg:=[iA 26 (.build [zB,.aB,.aB] []),iM 27 7,iS 3 2 26,iM 3 27]
def aiB:Rg:=[iO 28 3 6,iS 3 4 28]
def aiC:Rg:=[iM 13 5,iC 14 .add 13 1,iM 5 14]
def ahT:aC:=(.seq (sq ahY (.cond (Tm 12) .skip (.exit 0))) (.seq (.block 1 (dq ahZ (.seq (sq x4 (.cond (Tm 25) (sq aiA .ret) .skip)) (.region aiB)))) (.region aiC)))
def Vo:Rg:=[iO 29 3 4,iS 3 2 29,iI 3 0]
def TX:aC:=(sq ahV (sq ahW (.seq (sq ahX (.block 0 (.loop ahT))) (sq Vo .ret))))
def aUN:List Nat:=[]
def arB:aS:=⟨1,30,TX,[.cell 2 (some 3),.tmp 3]⟩
def uN:Rg:=[iT 4 false]
def uO:Rg:=[iM 5 0,iC 6 .geq 5 1,iM 7 6,gM 8 0 7 true,gC 9 .leq 8 6 7 true,iP 10 7 9,iM 11 10,gM 12 1 11 true,gC 13 .geq 12 0 11 true,iP 14 11 13,iM 15 14,gM 16 1 15 true,gC 17 .leq 16 4 15 true,iP 18 15 17,iM 19 18,gM 20 0 19 true,gM 21 1 19 true,gB 22 .add 20 21 19 true,gC 23 .leq 22 8 19 true,iP 24 19 23,iM 4 24]
def nY:aC:=(sq uN (sq uO .ret))
def aJH:List Nat:=[]
def BU:aS:=⟨2,25,nY,[.tmp 4]⟩
def sv:Rg:=[iT 2 false]
def sw:Rg:=[iM 3 0,iA 4 (.bin .geq (Tm 3) (.const (.int .u8 97))),iM 5 4,gM 6 0 5 true,iG 7 (.bin .leq (Tm 6) (.const (.int .u8 122))) 5 true,iP 8 5 7,iM 9 8,gM 10 0 9 false,iG 11 (.bin .geq (Tm 10) (.const (.int .u8 65))) 9 false,gM 12 11 9 false,gM 13 0 12 true,iG 14 (.bin .leq (Tm 13) (.const (.int .u8 90))) 12 true,iG 15 (.pick (Tm 12) (Tm 14) (.const zB)) 9 false,iQ 16 9 15,iM 2 16]
def AN:aC:=(sq sv (sq sw .ret))
def arE:List Nat:=[]
def VV:aS:=⟨1,17,AN,[.tmp 2]⟩
def Gc:Rg:=[iT 2 false]
def Gd:Rg:=[iM 3 0,iA 4 (.bin .geq (Tm 3) (.const (.int .u8 48))),iM 5 4,gM 6 0 5 true,iG 7 (.bin .leq (Tm 6) (.const (.int .u8 57))) 5 true,iP 8 5 7,iM 2 8]
def ET:aC:=(sq Gc (sq Gd .ret))
def aDF:List Nat:=[]
def r8:aS:=⟨1,9,ET,[.tmp 2]⟩
def sa:Rg:=[iT 2 false]
def sb:Rg:=[iM 3 0,iK 4 65 3,iM 5 4,gM 6 0 5 false,gK 7 63 6 5 false,iQ 8 5 7,iM 9 8,gM 10 0 9 false,iG 11 (.bin .eql (Tm 10) (.const (.int .u8 45))) 9 false,iQ 12 9 11,iM 13 12,gM 14 0 13 false,iG 15 (.bin .eql (Tm 14) (.const (.int .u8 46))) 13 false,iQ 16 13 15,iM 2 16]
def AL:aC:=(sq sa (sq sb .ret))
def arC:List Nat:=[]
def VT:aS:=⟨1,17,AL,[.tmp 2]⟩
def sf:Rg:=[iT 2 false]
def sg:Rg:=[iM 4 0,iA 5 (.a7L (Tm 4)),iC 6 .lss 5 1,iM 7 6,gM 8 0 7 false,iG 9 (.a7L (Tm 8)) 7 false,gC 10 .gtr 9 16 7 false,iQ 11 7 10,iM 12 11,gM 13 0 12 false,iG 14 (.a7M (Tm 13) (Ci 0)) 12 false,gK 15 65 14 12 false,iG 16 (.un .not (Tm 15)) 12 false,iQ 17 12 16]
def xR:Rg:=[iT 2 false]
def sj:Rg:=[iI 3 0]
def sk:Rg:=[iM 18 3,iM 19 0,iA 20 (.a7L (Tm 19)),iB 21 .lss 18 20]
def sm:Rg:=[iM 24 0,iM 25 3,iA 26 (.a7M (Tm 24) (Tm 25)),iK 27 64 26,iA 28 (.un .not (Tm 27))]
def sn:Rg:=[iT 2 false]
def so:Rg:=[iM 22 3,iC 23 .add 22 1,iM 3 23]
def sd:aC:=(.seq (sq sk (.cond (Tm 21) .skip (.exit 0))) (.seq (.block 1 (sq sm (.cond (Tm 28) (sq sn .ret) .skip))) (.region so)))
def sr:Rg:=[iT 2 true]
def AM:aC:=(sq sf (.seq (sq sg (.cond (Tm 17) (sq xR .ret) .skip)) (.seq (sq sj (.block 0 (.loop sd))) (sq sr .ret))))
def arD:List Nat:=[]
def VU:aS:=⟨1,29,AM,[.tmp 2]⟩
theorem qJ (P:List Nat) (v:Nat):aL P++[[.int .u32 (v:Int)]]=aL (P++[v]):=by simp[aL]
theorem qI {P:List Nat} (h:P.length≤35184372087808):roomFor (aL P).length 1 4:=by
 unfold roomFor;rw[cB];simp only[maxLen]; omega
def VO (a b:List Nat) (v:PV) (c i:Nat):PF:=(((((PF.nil.set 0 (aJ a)).set 1 (aJ b)).set 5 (v)).set 6 (.int .u64 c)).set 7 (.int .i64 i))
theorem Ep {C:Ctx} (L:oT C) (a b:List Nat) (ha:Lim a) (hb:Lim b) (η:val b≤val a) (hl:b.length≤a.length) (h1:a.length≤35184372087808) :
  EM.wp C (aV qi.res (bZ (aJ (aI (val a-val b))))) (PF.args [aJ a,aJ b]) .nil:=by
 simp only[go_sem,EM,Er,Es,Et,Eu,qi];refine wp_loop (α:=List Nat × Nat × PV × PH) (fun s=>VO a b s.2.2.1 s.2.1 s.1.length) (fun s=>s.2.2.2)
  (fun s=>s.1.length≤a.length∧Lim s.1∧s.2.1≤1∧val (a.take s.1.length)+4294967296 ^ s.1.length*s.2.1=val s.1+val (b.take s.1.length)∧bQ s.2.2.2 1 s.2.2.1 (aL s.1)) (fun s=>a.length-s.1.length) ([],0,.aB,.nil) ⟨by simp,by simp[Lim],by simp,by simp[val],.nil⟩ ?_ a_ ?_
 ·unfold VO;exact Lq
 rintro⟨P,c,v,H0⟩ ⟨hP,i,hc,w,S⟩;simp only at hP i hc w S ⊢;simp only[go_sem,qj,Ew,VO];by_cases U:P.length<a.length
 ·have B:(P.length:Int)<(a.length:Nat):=Om;have ε:=ha _ (a7Z U);have δ:=cF a U;have β:(aL a)[P.length]?=some [.int .u32 ((a[P.length]:Nat):Int)]:=bU a U;generalize hx:a[P.length]=x at *
  have ex:IntKind.u64.wrap ((x:Nat):Int)=((x:Nat):Int):=bE Om;have fin:∀ (t:Nat) (A:PF),t<4294967296→val (b.take (P.length+1))=val (b.take P.length)+4294967296 ^ P.length*t →
    A 0=some (aJ a)→A 1=some (aJ b)→A 5=some v→A 8=some (.int .u64 (c+t:Nat))→A 7=some (.int .i64 P.length) →
    ∀ K:bR,(∀ u l v' R H2,u.length=P.length+1→Lim u→l≤1→val (a.take (P.length+1))+4294967296 ^ u.length*l=val u+val (b.take (P.length+1))→(VO a b v' l u.length).le R→bQ H2 1 v' (aL u)→K .normal R H2) →
    aC.wp C (.seq (.region TM) (.seq (.region TN) (.seq (.seq (.region LQ) (.cond (.tmp 35) (.seq (.region LS) (.region LT)) .skip)) (.region xO)))) (eX 1 (gG C (aC.wp C (.region xP)) K)) A H0:=by
   intro t A ht q g0 g1 g5 Z Y K hK;have step:∀ (d l:Nat),d<4294967296→l≤1→x+4294967296*l=d+(c+t)→val (a.take (P.length+1))+4294967296 ^ (P.length+1)*l=val (P++[d])+val (b.take (P.length+1)):=by
    intro d l hd ζ he;have h2:4294967296 ^ P.length*(x+4294967296*l)=4294967296 ^ P.length*(d+(c+t)):=by rw[he]
    rw[a8L,a8L,a8L] at h2;rw[jK,a9T,a8X,δ,q];omega
   simp only[go_sem,TM,g0,Y,β,ex,TN,LQ,Z];by_cases c2:x<c+t
   ·have E:((x:Nat):Int)<((c+t:Nat):Int):=Om;have N:IntKind.u64.wrap ((x:Int)+4294967296)=((x+4294967296:Nat):Int):=by rw[show (x:Int)+4294967296=((x+4294967296:Nat):Int) by omega];exact bE Om
    have H:IntKind.u64.wrap (((x+4294967296:Nat):Int)-((c+t:Nat):Int))=((x+4294967296-(c+t):Nat):Int):=by rw[show ((x+4294967296:Nat):Int)-((c+t:Nat):Int)=((x+4294967296-(c+t):Nat):Int) by omega];exact bE Om
    have J:IntKind.u32.wrap ((x+4294967296-(c+t):Nat):Int)=((x+4294967296-(c+t):Nat):Int):=by rw[cL,a9K Om]
    have M:(1:Nat)*1≤16777216:=by decide
    simp only[go_sem,E,LS,N,LT,xO,g5,Z,H,J,M];refine fI (src:=[[.int .u32 ((x+4294967296-(c+t):Nat):Int)]]) S rfl (qI Om) fun v' H' p _=>?_;rw[qJ] at p;simp only[go_sem,xP,Y,cZ (Om:P.length<9223372036854775807)];refine hK _ 1 v' _ H' (by simp) (i.app fun y Q=>by simp at Q; subst Q; omega) (a8D _) ?_ ?_ p
    ·rw[a8E,a8I];exact step _ 1 Om (a8D _) Om
    ·unfold VO;rw[a8E,a8I];exact Lq
   ·have E:¬ ((x:Nat):Int)<((c+t:Nat):Int):=Om;have H:IntKind.u64.wrap (((x:Nat):Int)-((c+t:Nat):Int))=((x-(c+t):Nat):Int):=by rw[show ((x:Nat):Int)-((c+t:Nat):Int)=((x-(c+t):Nat):Int) by omega];exact bE Om
    have J:IntKind.u32.wrap ((x-(c+t):Nat):Int)=((x-(c+t):Nat):Int):=by rw[cL,a9K Om]
    have M:(1:Nat)*1≤16777216:=by decide
    simp only[go_sem,E,xO,g5,Z,H,J,M];refine fI (src:=[[.int .u32 ((x-(c+t):Nat):Int)]]) S rfl (qI Om) fun v' H' p _=>?_;rw[qJ] at p;simp only[go_sem,xP,Y,cZ (Om:P.length<9223372036854775807)];refine hK _ 0 v' _ H' (by simp) (i.app fun y Q=>by simp at Q; subst Q; omega) (by decide) ?_ ?_ p
    ·rw[a8E,a8I];exact step _ 0 Om (by decide) Om
    ·unfold VO;rw[a8E,a8I];exact Lq
  simp only[aC.wp,go_sem] at fin;simp only[go_sem,B,Ex,Ey];by_cases V:P.length<b.length
  ·have F:(P.length:Int)<(b.length:Nat):=Om;have γ:=hb _ (a7Z V);have q:=cF b V;have eb:IntKind.u64.wrap ((b[P.length]:Nat):Int)=((b[P.length]:Nat):Int):=bE Om;have es:IntKind.u64.wrap ((c:Int)+(b[P.length]:Int))=((c+b[P.length]:Nat):Int):=fC Om;simp only[go_sem,F,Ez,bU b V,eb,es];refine fin b[P.length] _ γ q rfl rfl rfl rfl rfl _ ?_;intro u l v' R H2 N H J O W X;rw[← N] at O;exact aD (α:=List Nat × Nat × PV × PH) (u,l,v',H2) ⟨by simp only; omega,H,J,O,X⟩ (by simp only; omega) W b_
  ·have F:¬ (P.length:Int)<(b.length:Nat):=Om;have q:val (b.take (P.length+1))=val (b.take P.length)+4294967296 ^ P.length*0:=by rw[a8S Om,a8S Om]; simp
   simp only[go_sem,F];refine fin 0 _ (by decide) q rfl rfl rfl rfl rfl _ ?_;intro u l v' R H2 N H J O W X;rw[← N] at O;exact aD (α:=List Nat × Nat × PV × PH) (u,l,v',H2) ⟨by simp only; omega,H,J,O,X⟩ (by simp only; omega) W b_
 ·have e:P.length=a.length:=Om;have B:¬ (P.length:Int)<(a.length:Nat):=Om;have hV:val P=val a-val b:=by
   rw[e,a8Y,a8S hl] at w;have hlt:=fB i;rw[e] at hlt;rcases baG c with h | h
   ·subst h; omega
   ·have:c=1:=Om;subst this; omega
  simp only[go_sem,B,qk];have hs:=L.trim _ i Om;rw[hV] at hs;refine tQ hs S rfl fun F1 H1 _=>?_;simp only[go_sem];exact bA (.inr rfl) .nil rfl a_ ⟨.refl _,rfl⟩
def rS (a b:List Nat) (o i:Nat):PF:=((((PF.nil.set 0 (aJ a)).set 1 (aJ b)).set 5 (.osl o 1 0 (a.length+b.length))).set 6 (.int .i64 i))
def utG (a b:List Nat) (o i c j:Nat):PF:=((((((PF.nil.set 0 (aJ a)).set 1 (aJ b)).set 5 (.osl o 1 0 (a.length+b.length))).set 6 (.int .i64 i)).set 7 (.int .u64 c)).set 8 (.int .i64 j))
theorem aqU {C:Ctx} (a b:List Nat) (ha:Lim a) (hb:Lim b) (h1:a.length≤35184372087808) (h2:b.length≤35184372087808) (L:List Nat) (i:Nat) (hi:i<a.length) (N:FD a b L i) (q:Nat) (K:bR) (F:PF) (H:PH) (J:(rS a b q i).le F) (hH:H q=some (.rows 1 (aL L)))
  (hK:∀ L' F' H',FD a b L' (i+1)→(rS a b q i).le F'→H' q=some (.rows 1 (aL L'))→K .normal F' H') :
  aC.wp C (.block 1 (.seq (.region TT) (.seq (.seq (.region TU) (.block 2 (.loop MA))) (.region MB)))) K F H:=by
 have f0:=J 0 _ (by unfold rS; simp only[go_sem]; rfl);have f1:=J 1 _ (by unfold rS; simp only[go_sem]; rfl);have f5:=J 5 _ (by unfold rS; simp only[go_sem]; rfl);have f6:=J 6 _ (by unfold rS; simp only[go_sem]; rfl);have hx:=ha _ (a7Z hi);have Y:=cF a hi;generalize β:a[i]=x at *
 have V:(aL a)[i]?=some [.int .u32 ((x:Nat):Int)]:=by rw[bU a hi,β]
 simp only[go_sem,TT,TU];refine wp_loop (α:=List Nat × Nat × Nat) (fun t=>utG a b q i t.2.1 t.2.2) (fun t=>PH.nil.set q (.rows 1 (aL t.1)))
  (fun t=>t.2.2≤b.length∧t.1.length=a.length+b.length∧Lim t.1∧t.2.1<4294967296∧val t.1+4294967296 ^ (i+t.2.2)*t.2.1=val (a.take i)*val b+4294967296 ^ i*(x*val (b.take t.2.2))∧∀ j y,i+b.length≤j→t.1[j]?=some y→y=0) (fun t=>b.length-t.2.2) (L,0,0)
  ⟨by simp,N.len,N.lim,by simp,by simp[val,N.v],N.z⟩ ?_ (PH.aK a_ hH) ?_
 ·unfold utG;exact Lq
 rintro⟨M,c,j⟩ ⟨hj,U,e,X,u,Q⟩;simp only at hj U e X u Q;simp only[go_sem,MA,Fb,utG];by_cases R:j<b.length
 ·have w:(j:Int)<(b.length:Nat):=Om;have O:=hb _ (a7Z R);have Z:=cF b R;generalize γ:b[j]=y at *
  have W:(aL b)[j]?=some [.int .u32 ((y:Nat):Int)]:=by rw[bU b R,γ]
  have d:i+j<M.length:=Om;have E:=e _ (a7Z d);have p:=GJ d;generalize δ:M[i+j]=z at *
  have B:(aL M)[i+j]?=some [.int .u32 ((z:Nat):Int)]:=by rw[bU M d,δ]
  have ex:IntKind.u64.wrap ((x:Nat):Int)=((x:Nat):Int):=bE Om;have ey:IntKind.u64.wrap ((y:Nat):Int)=((y:Nat):Int):=bE Om;have ez:IntKind.u64.wrap ((z:Nat):Int)=((z:Nat):Int):=bE Om;have em:=acF hx O;have ζ:x*y≤4294967295*4294967295:=bbF Om Om;have e1:IntKind.u64.wrap (((x*y:Nat):Int)+(z:Int))=((x*y+z:Nat):Int):=fC Om;have e2:IntKind.u64.wrap (((x*y+z:Nat):Int)+(c:Int))=((x*y+z+c:Nat):Int):=fC Om;have A:IntKind.i64.wrap ((i:Int)+(j:Int))=((i+j:Nat):Int):=gI Om;have hlt:((i+j:Nat):Int)<((a.length+b.length:Nat):Int):=Om;generalize ht:x*y+z+c=t at *
  have ε:t<4294967296*4294967296:=Om;have l:(aL M).set (i+j) [.int .u32 ((t%4294967296:Nat):Int)]=aL (M.set (i+j) (t%4294967296)):=fN M (i+j) _;simp only[go_sem,w];refine bV .nil eT a_ ?_;simp only[go_sem,Fc,V,W,ex,ey,em,A,hlt,B,ez,e1,e2,Fd,cL,l,Fe,xM,qt,wZz j];refine aD (M.set (i+j) (t%4294967296),t/4294967296,j+1) ⟨by simp only; omega,by simp only[baB]; exact U,e.set _ (a9P _ (by decide)),by simp only; omega,?_,s7 Q _ _ Om⟩ (by simp only; omega) ?_ (PH.aK a_ Sq)
  ·simp only;have S:=p (t%4294967296);have h4:4294967296 ^ (i+(j+1))*(t/4294967296)+4294967296 ^ (i+j)*(t%4294967296)=4294967296 ^ (i+j)*t:=by rw[← baH,a9T,a8X,← a8L,bbL]
   have h5:4294967296 ^ (i+j)*t=4294967296 ^ (i+j)*(x*y)+4294967296 ^ (i+j)*z+4294967296 ^ (i+j)*c:=by rw[← ht,a8L,a8L]
   have h6:4294967296 ^ i*(x*val (b.take (j+1)))=4294967296 ^ i*(x*val (b.take j))+4294967296 ^ (i+j)*(x*y):=by rw[Z,a8L,a8L,Nat.pow_add];congr 1;rw[Nat.mul_left_comm x,a8X]
   omega
  ·exact Lq
 ·have he:j=b.length:=Om;have w:¬ (j:Int)<(b.length:Nat):=Om;subst he;have d:i+b.length<M.length:=Om;have E:M[i+b.length]=0:=Q _ _ (a8D _) (a8K d);have p:=GJ d;have B:(aL M)[i+b.length]?=some [.int .u32 ((0:Nat):Int)]:=by rw[bU M d,E]
  have A:IntKind.i64.wrap ((i:Int)+(b.length:Int))=((i+b.length:Nat):Int):=gI Om;have hlt:((i+b.length:Nat):Int)<((a.length+b.length:Nat):Int):=Om;have l:(aL M).set (i+b.length) [.int .u32 ((c%4294967296:Nat):Int)]=aL (M.set (i+b.length) c):=by rw[a9K X]; exact fN M _ _
  simp only[go_sem,w,MB,A,cL,hlt,B,l];refine hK (M.set (i+b.length) c) _ _ ⟨by rw[baB]; exact U,e.set _ X,?_,fun j y hj O=>?_⟩ (by unfold rS; exact Lq) Sq
  ·have S:=p c;rw[E,Nat.mul_zero,baC] at S;rw[S,u,a8Y,Y,a9C,a8X]
  ·rw[List.getElem?_set_ne Om] at O;exact Q j y Om O
theorem E6 {C:Ctx} (L:oT C) (a b:List Nat) (H:Lim a) (J:Lim b) (R:a.length≤8388608) (S:b.length≤8388608) :
  EN.wp C (aV qq.res (bZ (aJ (aI (val a*val b))))) (PF.args [aJ a,aJ b]) .nil:=by
 have l:IntKind.i64.wrap ((a.length:Int)+(b.length:Int))=((a.length+b.length:Nat):Int):=gI Om;have w:((a.length+b.length:Nat):Int)*((4:Nat):Int)≤140737488355328:=Om;have y:((a.length+b.length:Nat):Int)≤9223372036854775807:=Om;have N:a8A (a.length+b.length) [PV.int .u32 0]=aL (a8A (a.length+b.length) 0):=by simp[aL]
 simp only[go_sem,EN,E7,E8,qq,a7W,l,w,y,N];refine aR fun o U=>?_;simp only[go_sem,E9];refine wp_loop (α:=List Nat × Nat) (fun t=>rS a b o t.2) (fun t=>PH.nil.set o (.rows 1 (aL t.1))) (fun t=>t.2≤a.length∧FD a b t.1 t.2) (fun t=>a.length-t.2) (a8A (a.length+b.length) 0,0)
  ⟨by simp,by simp,vS _,by simp[val,sE],fun j x _ B=>by rw[List.getElem?_replicate] at B; split at B<;>simp_all⟩ ?_ (PH.aK a_ Sq) ?_
 ·unfold rS;exact Lq
 rintro⟨M,i⟩ ⟨hi,d⟩;simp only at hi d;simp only[go_sem,qr,Fa,rS];by_cases E:i<a.length
 ·have e:(i:Int)<(a.length:Nat):=Om;have p:=aqU (C:=C) a b H J Om Om M i E d o;simp only[go_sem] at p;simp only[go_sem,e];refine p _ _ _ (by unfold rS; exact Lq) Sq ?_;intro L' O H' u c q;have F:=c 6 _ (by unfold rS; simp only[go_sem]; rfl);have g0:=c 0 _ (by unfold rS; simp only[go_sem]; rfl);have g1:=c 1 _ (by unfold rS; simp only[go_sem]; rfl);have Q:=c 5 _ (by unfold rS; simp only[go_sem]; rfl);simp only[go_sem,qu,F,wZz i];refine aD (L',i+1) ⟨by simp only; omega,u⟩ (by simp only; omega) ?_ (PH.aK a_ q);exact Lq
 ·have K:i=a.length:=Om;subst K;have e:¬ (a.length:Int)<(a.length:Nat):=Om;have hV:val M=val a*val b:=by rw[d.v,a8Y]
  simp only[go_sem,qv];have A:=L.trim _ d.lim (by rw[d.len]; omega);rw[hV] at A;refine qQ (o:=o) (s:=1) (k:=a.length+b.length) (rs:=aL M) (v:=aJ (aI (val a*val b))) ?_ rfl Sq (by rw[cB,d.len]; exact a8D _) ?_
  ·rw[a8S (by rw[cB,d.len]; exact a8D _)]; exact A
  ·simp only[go_sem];exact bA (.inr rfl) .nil rfl a_ ⟨.refl _,rfl⟩
structure gf (C:Ctx):Prop extends gd C where
 minus:∀ a b,Lim a→Lim b→val b≤val a→b.length≤a.length→a.length≤35184372087808→aH C 42 [aJ a,aJ b] .nil (aF (aJ (aI (val a-val b))))
 times:∀ a b,Lim a→Lim b→a.length≤8388608→b.length≤8388608→aH C 44 [aJ a,aJ b] .nil (aF (aJ (aI (val a*val b))))
theorem agP {C:Ctx} (L:gf C) (a b:List Nat) (i:Lim a) (l:Lim b) (u:a.length≤35184372087808) (w:b.length≤35184372087808) :
  TO.wp C (aV aqQ.res (bZ (opV (dY (val a) (val b)) (val a*val b)))) (PF.args [aJ a,aJ b]) .nil:=by
 unfold opV;simp only[go_sem,TO,agQ,agR,aqQ];refine aA (L.large a i u) rfl ?_;by_cases d:nl (val a)>512
 ·simp only[go_sem,d,xy];rw[if_pos (by simp[dY,d])];exact eQ rfl
 simp only[go_sem,d];refine aA (L.large b l w) rfl ?_;by_cases e:nl (val b)>512
 ·simp only[go_sem,e,xy];rw[if_pos (by simp[dY,e])];exact eQ rfl
 rw[if_neg (by simp[dY,d,e])];simp only[go_sem,e,agS];refine aA (L.trim a i u) rfl ?_;simp only[go_sem];refine aA (L.trim b l w) rfl ?_;simp only[go_sem];have q:=L.times (aI (val a)) (aI (val b)) (aX _) (aX _) (by rw[bB]; omega) (by rw[bB]; omega);rw[aW,aW] at q;refine aA q rfl ?_;have x:=lJ (a:=val a) (b:=val b) (m:=512) (n:=512) Om Om;have p:=L.large (aI (val a*val b)) (aX _) (by rw[bB]; omega);rw[aW] at p;simp only[go_sem,agT];refine aA p rfl ?_;unfold szV szL szE;by_cases c:nl (val a*val b)>512
 ·rw[if_pos c,if_pos c];simp only[go_sem,c,agU];exact eQ rfl
 ·rw[if_neg c,if_neg c];simp only[go_sem,c,agV];exact bA (.inr rfl) .nil rfl a_ ⟨.refl _,rfl⟩
def wT (a:List Nat) (i:Nat):Nat:=a.getD i 0
theorem Kh {a:List Nat} (h:Lim a) (i:Nat):wT a i<4294967296:=by
 unfold wT;rw[a8P];rcases a8T i a.length with h1 | h1
 ·rw[a8K h1]; exact h _ (a7Z h1)
 ·rw[a9N h1]; decide
theorem ZS {a:List Nat} {i:Nat} (h:i<a.length):wT a i=a[i]:=by simp[wT,a8P,h]
theorem PJ {a:List Nat} {i:Nat} (h:¬ i<a.length):wT a i=0:=by simp[wT,a8P,h]
theorem TV (a:List Nat) (i:Nat):val (a.take (i+1))=val (a.take i)+4294967296 ^ i*wT a i:=by
 rcases a8T i a.length with h | h
 ·rw[ZS h]; exact cF a h
 ·rw[PJ Om,a8S Om,a8S Om]; simp
def tN (a b:List Nat) (v:PV) (c i:Nat):PF:=(((((PF.nil.set 0 (aJ a)).set 1 (aJ b)).set 5 (v)).set 6 (.int .u64 c)).set 7 (.int .i64 i))
theorem Ug {C:Ctx} (L:oT C) (a b:List Nat) (ha:Lim a) (hb:Lim b) (h1:a.length≤8388608) (h2:b.length≤8388608) :
  LX.wp C (aV Ie.res (bZ (aJ (aI (val a+val b))))) (PF.args [aJ a,aJ b]) .nil:=by
 simp only[go_sem,LX,Uh,Ui,Uj,Uk,Ie];refine wp_loop (α:=List Nat × Nat × PV × PH) (fun s=>tN a b s.2.2.1 s.2.1 s.1.length) (fun s=>s.2.2.2)
  (fun s=>s.1.length≤max a.length b.length+1∧(s.1.length≤max a.length b.length∨s.2.1=0)∧Lim s.1∧s.2.1≤1∧val s.1+4294967296 ^ s.1.length*s.2.1=val (a.take s.1.length)+val (b.take s.1.length)∧bQ s.2.2.2 1 s.2.2.1 (aL s.1)) (fun s=>max a.length b.length+1-s.1.length) ([],0,.aB,.nil)
  ⟨by simp,by simp,by simp[Lim],by simp,by simp[val],.nil⟩ ?_ a_ ?_
 ·unfold tN;exact Lq
 rintro⟨P,c,v,H0⟩ ⟨hP,δ,l,hc,B,hO⟩;simp only at hP δ l hc B hO ⊢;have ι:=Kh ha P.length;have κ:=Kh hb P.length;have η:=TV a P.length;have θ:=TV b P.length;generalize hx:wT a P.length=x at *
 generalize Z:wT b P.length=y at *
 have ex:IntKind.u64.wrap ((x:Nat):Int)=((x:Nat):Int):=bE Om;have ey:IntKind.u64.wrap ((y:Nat):Int)=((y:Nat):Int):=bE Om;have M:IntKind.u64.wrap ((c:Int)+(x:Int))=((c+x:Nat):Int):=fC Om;have N:IntKind.u64.wrap (((c+x:Nat):Int)+(y:Int))=((c+x+y:Nat):Int):=fC Om;have ζ:P.length<a.length→(aL a)[P.length]?=some [.int .u32 ((x:Nat):Int)]:=fun h=>by rw[bU a h,← hx,ZS h]
 have X:P.length<b.length→(aL b)[P.length]?=some [.int .u32 ((y:Nat):Int)]:=fun h=>by rw[bU b h,← Z,ZS h]
 have Y:¬ P.length<a.length→x=0:=fun h=>by rw[← hx,PJ h]
 have O:¬ P.length<b.length→y=0:=fun h=>by rw[← Z,PJ h]
 have body:(P.length≤max a.length b.length)→∀ K:bR,(∀ i q v' Q H2,i.length=P.length+1→Lim i→q≤1→(P.length+1≤max a.length b.length∨q=0)→val i+4294967296 ^ i.length*q=val (a.take (P.length+1))+val (b.take (P.length+1))→(tN a b v' q i.length).le Q→bQ H2 1 v' (aL i)→K .normal Q H2) →
   ∀ F:PF,(tN a b v c P.length).le F→aC.wp C (.seq (.block 1 (.seq (.region d7) (.seq (.seq (.region d8) (.cond (.tmp 29) (.region d9) .skip)) (.seq (.seq (.region LY) (.cond (.tmp 40) (.region LZ) .skip)) (.seq (.region CA) (.region CB)))))) (.region CC)) K F H0:=by
  intro μ K hK F V;have g0:F 0=some (aJ a):=V 0 _ (by unfold tN; simp only[go_sem]);have g1:F 1=some (aJ b):=V 1 _ (by unfold tN; simp only[go_sem]);have g5:F 5=some v:=V 5 _ (by unfold tN; simp only[go_sem]);have g6:F 6=some (.int .u64 c):=V 6 _ (by unfold tN; simp only[go_sem]);have u:F 7=some (.int .i64 P.length):=V 7 _ (by unfold tN; simp only[go_sem]);have fin:∀ E:PF,E 0=some (aJ a)→E 1=some (aJ b)→E 5=some v→E 7=some (.int .i64 P.length)→E 8=some (.int .u64 (c+x+y:Nat)) →
    aC.wp C (.seq (.region CA) (.region CB)) (eX 1 (gG C (aC.wp C (.region CC)) K)) E H0:=by
   intro E q0 q1 q5 q7 q8;have ε:(1:Nat)*1≤16777216:=by decide
   generalize ht:c+x+y=t at *
   have ν:t<2*4294967296:=Om;simp only[go_sem,CA,q5,q8,ε,cL];refine fI (src:=[[.int .u32 ((t%4294967296:Nat):Int)]]) hO rfl (qI Om) fun v' H' W _=>?_;rw[qJ] at W;simp only[go_sem,CB,q8,xM,CC,q7,cZ (Om:P.length<9223372036854775807)];refine hK (P++[t%4294967296]) (t/4294967296) v' _ H' (by simp) (l.app fun y Z=>by simp at Z; subst Z; omega) Om ?_ ?_ ?_ W
   ·rcases a8T P.length (max a.length b.length) with h | h
    ·exact .inl h
    ·right;have h1:=Y Om;have h2:=O Om;omega
   ·rw[jK,a8E,a8I,η,θ,a9T,a8X,baH,← a8L];rw[show t%4294967296+4294967296*(t/4294967296)=t from Nat.mod_add_div t 4294967296];have h3:4294967296 ^ P.length*t=4294967296 ^ P.length*c+4294967296 ^ P.length*x+4294967296 ^ P.length*y:=by rw[← ht,a8L,a8L]
    omega
   ·unfold tN;rw[a8E,a8I];exact Lq
  simp only[aC.wp,go_sem] at fin;simp only[go_sem,d7,g6,d8,u,g0];by_cases c1:P.length<a.length
  ·have e:(P.length:Int)<(a.length:Nat):=Om;simp only[go_sem,e,d9,g0,u,ζ c1,ex,M,LY,g1];by_cases H:P.length<b.length
   ·have d:(P.length:Int)<(b.length:Nat):=Om;simp only[go_sem,d,LZ,g1,u,X H,ey,N];exact fin _ (by simp only[go_sem,g0]) (by simp only[go_sem,g1]) (by simp only[go_sem,g5]) (by simp only[go_sem,u]) rfl
   ·have d:¬ (P.length:Int)<(b.length:Nat):=Om;have h0:=O H;simp only[go_sem,d];exact fin _ (by simp only[go_sem,g0]) (by simp only[go_sem,g1]) (by simp only[go_sem,g5]) (by simp only[go_sem,u]) (by simp only[go_sem,h0])
  ·have e:¬ (P.length:Int)<(a.length:Nat):=Om;have h0:=Y c1;simp only[go_sem,e,LY,g1,u];by_cases H:P.length<b.length
   ·have d:(P.length:Int)<(b.length:Nat):=Om;have β:IntKind.u64.wrap ((c:Int)+(y:Int))=((c+x+y:Nat):Int):=by rw[h0]; exact fC Om
    simp only[go_sem,d,LZ,g1,u,X H,ey,β];exact fin _ (by simp only[go_sem,g0]) (by simp only[go_sem,g1]) (by simp only[go_sem,g5]) (by simp only[go_sem,u]) rfl
   ·have d:¬ (P.length:Int)<(b.length:Nat):=Om;have γ:=O H;simp only[go_sem,d];exact fin _ (by simp only[go_sem,g0]) (by simp only[go_sem,g1]) (by simp only[go_sem,g5]) (by simp only[go_sem,u]) (by simp only[go_sem,h0,γ])
 simp only[aC.wp,go_sem] at body;have p:¬ P.length<a.length→¬ P.length<b.length→c=0→∀ F:PF,F 5=some v→aC.wp C (.seq (.region TQ) .ret) (aV [.tmp 4] (bZ (aJ (aI (val a+val b))))) F H0:=by
  intro n1 n2 n3 F f5;have hV:val P=val a+val b:=by rw[n3,a8S Om,a8S Om] at B;omega
  have hs:=L.trim _ l Om;rw[hV] at hs;simp only[go_sem,TQ,f5];refine tQ hs hO rfl fun F1 H1 _=>?_;simp only[go_sem];exact bA (.inr rfl) .nil rfl a_ ⟨.refl _,rfl⟩
 simp only[aC.wp,go_sem] at p;simp only[go_sem,E5,Ul,tN];by_cases c1:P.length<a.length
 ·have e:(P.length:Int)<(a.length:Nat):=Om;simp only[go_sem,e];refine body Om _ ?_ _ (by unfold tN; exact Lq);intro i q v' Q H2 M N R w A S U;rw[← M] at A w;exact aD (α:=List Nat × Nat × PV × PH) (i,q,v',H2) ⟨by simp only; omega,w,N,R,A,U⟩ (by simp only; omega) S b_
 ·have e:¬ (P.length:Int)<(a.length:Nat):=Om;simp only[go_sem,e];by_cases H:P.length<b.length
  ·have d:(P.length:Int)<(b.length:Nat):=Om;simp only[go_sem,d];refine body Om _ ?_ _ (by unfold tN; exact Lq);intro i q v' Q H2 M N R w A S U;rw[← M] at A w;exact aD (α:=List Nat × Nat × PV × PH) (i,q,v',H2) ⟨by simp only; omega,w,N,R,A,U⟩ (by simp only; omega) S b_
  ·have d:¬ (P.length:Int)<(b.length:Nat):=Om;simp only[go_sem,d];by_cases c3:c=0
   ·have J:¬ (c:Int)>0:=Om;simp only[go_sem,J];exact p c1 H c3 _ rfl
   ·have J:(c:Int)>0:=Om;simp only[go_sem,J];refine body Om _ ?_ _ (by unfold tN; exact Lq);intro i q v' Q H2 M N R w A S U;rw[← M] at A w;exact aD (α:=List Nat × Nat × PV × PH) (i,q,v',H2) ⟨by simp only; omega,w,N,R,A,U⟩ (by simp only; omega) S b_
structure OB (C:Ctx):Prop extends gf C where
 plus:∀ a b,Lim a→Lim b→a.length≤8388608→b.length≤8388608→aH C 43 [aJ a,aJ b] .nil (aF (aJ (aI (val a+val b))))
theorem afH {C:Ctx} (L:OB C) (a b:List Nat) (i:Lim a) (l:Lim b) (u:a.length≤35184372087808) (w:b.length≤35184372087808) :
  TG.wp C (aV aqJ.res (bZ (opV (dY (val a) (val b)) (val a+val b)))) (PF.args [aJ a,aJ b]) .nil:=by
 unfold opV;simp only[go_sem,TG,afI,afJ,aqJ];refine aA (L.large a i u) rfl ?_;by_cases d:nl (val a)>512
 ·simp only[go_sem,d,xv];rw[if_pos (by simp[dY,d])];exact eQ rfl
 simp only[go_sem,d];refine aA (L.large b l w) rfl ?_;by_cases e:nl (val b)>512
 ·simp only[go_sem,e,xv];rw[if_pos (by simp[dY,e])];exact eQ rfl
 rw[if_neg (by simp[dY,d,e])];simp only[go_sem,e,afK];refine aA (L.trim a i u) rfl ?_;simp only[go_sem];refine aA (L.trim b l w) rfl ?_;simp only[go_sem];have q:=L.plus (aI (val a)) (aI (val b)) (aX _) (aX _) (by rw[bB]; omega) (by rw[bB]; omega);rw[aW,aW] at q;refine aA q rfl ?_;have x:=Qu (a:=val a) (b:=val b) (m:=512) Om Om;have p:=L.large (aI (val a+val b)) (aX _) (by rw[bB]; omega);rw[aW] at p;simp only[go_sem,afL];refine aA p rfl ?_;unfold szV szL szE;by_cases c:nl (val a+val b)>512
 ·rw[if_pos c,if_pos c];simp only[go_sem,c,afM];exact eQ rfl
 ·rw[if_neg c,if_neg c];simp only[go_sem,c,afN];exact bA (.inr rfl) .nil rfl a_ ⟨.refl _,rfl⟩
theorem agX {C:Ctx} (L:OB C) (a b:List Nat) (i:Lim a) (l:Lim b) (p:a.length≤35184372087808) (q:b.length≤35184372087808) :
  TS.wp C (aV aqT.res (bZ (rR (val a) (val b)))) (PF.args [aJ a,aJ b]) .nil:=by
 unfold rR;simp only[go_sem,TS,agY,agZ,aqT];refine aA (L.large a i p) rfl ?_;by_cases c:nl (val a)>512
 ·simp only[go_sem,c,xz];rw[if_pos (by simp[dY,c])];exact eQ rfl
 simp only[go_sem,c];refine aA (L.large b l q) rfl ?_;by_cases d:nl (val b)>512
 ·simp only[go_sem,d,xz];rw[if_pos (by simp[dY,d])];exact eQ rfl
 rw[if_neg (by simp[dY,c,d])];simp only[go_sem,d,ahA];refine aA (L.cmp a b i l p q) rfl ?_;by_cases e:val a<val b
 ·have:dQ (val a) (val b)=-1:=by simp[dQ,e]
  rw[if_pos e];simp only[go_sem,this,show ((-1:Int)<0) by decide,ahB];exact eQ rfl
 ·have:¬ dQ (val a) (val b)<0:=by unfold dQ;rw[if_neg e];split<;>decide
  rw[if_neg e];have x:=fT (Nat.sub_le (val a) (val b));have w:=fT (Om:val b≤val a);simp only[go_sem,this,ahC];refine aA (L.trim a i p) rfl ?_;simp only[go_sem];refine aA (L.trim b l q) rfl ?_;simp only[go_sem];have u:=L.minus (aI (val a)) (aI (val b)) (aX _) (aX _) (by rw[aW,aW]; omega) (by rw[bB,bB]; exact w) (by rw[bB]; omega);rw[aW,aW] at u;refine aA u rfl ?_;rw[AG Om];simp only[go_sem];exact bA (.inr rfl) .nil rfl a_ ⟨.refl _,rfl⟩
def Th (k:Nat) (v:Nat):PF:=((PF.nil.set 3 (.int .i64 k)).set 4 (.int .u32 v))
theorem Tj {C:Ctx} (L:oT C) (xs:List Nat) (F:Lim xs) (O:xs.length≤35184372087808) :
  LK.wp C (aV Ib.res (aF (.int .i64 (cM (val xs):Nat)))) (PF.args [aJ xs]) .nil:=by
 simp only[go_sem,LK,Tk,Tl,Ib];refine aA (L.trim xs F O) rfl ?_;have Q:=fM F;simp only[go_sem,Tn,a7W,bB,BZ];by_cases u:nl (val xs)=0
 ·simp only[go_sem,decide_eq_true u,To];refine aQ (.inr rfl) rfl ?_;have:val xs=0:=iD.1 u;simp[bP,this,jM]
 obtain⟨n,M⟩:∃ n,nl (val xs)=n+1:=⟨nl (val xs)-1,by omega⟩;obtain⟨t,q,x⟩:=Tf (xs:=aI (val xs)) (aX _) (by rw[aW]; exact M);have e:t<4294967296:=aX _ t (baS q);have N:val xs=val ((aI (val xs)).take n)+4294967296 ^ n*t:=by
  have:=aW (val xs);have c:n<(aI (val xs)).length:=by rw[bB]; omega
  have K:(aI (val xs))[n]=t:=by rw[a8K c] at q; exact baL.inj q
  conv=>lhs; rw[← this,← a8S (l:=aI (val xs)) (i:=n+1) (by rw[bB]; omega)]
  rw[cF _ c,K]
 have R:cM (val xs)=32*n+cM t:=by have B:=fB ((aX (val xs)).take n);rw[a8Q,bB,baI Om] at B;have p:=Jb (lo:=val ((aI (val xs)).take n)) (k:=32*n) (hi:=t) (by rw[Nat.pow_mul]; exact B) x;rw[← p,Nat.pow_mul];exact congrArg cM N
 have d:(aL (aI (val xs)))[n]?=some [.int .u32 (t:Nat)]:=by simp[aL,q]
 have H:IntKind.i64.wrap (((nl (val xs):Nat):Int)-1)=(n:Int):=by rw[wrap_i64 Om Om]; omega
 have J:IntKind.i64.wrap (32*(n:Int))=((32*n:Nat):Int):=by rw[wrap_i64 Om Om]; omega
 simp only[go_sem,decide_eq_false u,Tq,Tr,a7W,bB,H,J,d];refine wp_loop (α:=Nat × Nat) (fun a=>Th a.1 a.2) (fun _=>.nil) (fun a=>a.1+cM a.2=32*n+cM t∧a.2<4294967296) (fun a=>a.2) (32*n,t) ⟨rfl,e⟩ ?_ a_ ?_
 ·unfold Th;exact Lq
 rintro⟨k,v⟩ ⟨p,hlt⟩;simp only at p hlt;have E:cM t≤32:=(lW t 32).2 e;simp only[go_sem,Ti,Ts,Th];by_cases A:(v:Int)>0
 ·have y:v≠0:=Om;have w:IntKind.u32.wrap (baE (v:Int) 2)=((v/2:Nat):Int):=by rw[show baE (v:Int) 2=((v/2:Nat):Int) from Int.ofNat_tdiv v 2,cL,a9K Om]
  simp only[go_sem,A,Tt,Tu,w,wZz k];refine aD (k+1,v/2) ⟨?_,?_⟩ (Nat.div_lt_self Om (by decide)) ?_ a_
  ·have:=pG y;simp only; omega
  ·simp only; omega
  ·exact Lq
 ·have:v=0:=Om;subst this;simp only[go_sem,A,Ej];refine aQ (.inr rfl) rfl ?_;rw[jM] at p;simp only[bP,PV.int.injEq,true_and];omega
theorem C2 (n:Nat):4294967296 ^ (n/32)*2 ^ (n%32)=2 ^ n:=by
 rw[show (4294967296:Nat)=2 ^ 32 by decide,← Nat.pow_mul,← Nat.pow_add];congr 1;omega
theorem azF (n:Nat):IntKind.i64.wrap (baE (n:Int) 32)=IntKind.i64.wrap ((n/32:Nat):Int):=by
 rw[show baE (n:Int) 32=((n/32:Nat):Int) from Int.ofNat_tdiv n 32]
theorem azS (n:Nat):Int.tmod (n:Int) 32=((n%32:Nat):Int):=Int.ofNat_tmod n 32
def aNO (a:List Nat) (n:Nat) (v:PV) (c i:Nat):PF:=(((((PF.nil.set 0 (aJ a)).set 1 (.int .i64 n)).set 5 (v)).set 6 (.int .u64 c)).set 7 (.int .i64 i))
theorem aCO {C:Ctx} (L:oT C) (a:List Nat) (n:Nat) (ha:Lim a) (h1:a.length≤8388608) (hn:n≤8388608) (h0:a.length=0→val a=0) :
  el.wp C (aV uup.res (oS 1 (aL (aI (val a*2 ^ n))))) (PF.args [aJ a,.int .i64 n]) .nil:=by
 simp only[go_sem,el,aCP,aCQ,uup,a7W,BZ];by_cases B:a.length=0
 ·simp only[go_sem,decide_eq_true B,aCR];rw[h0 B,Nat.zero_mul,fO];exact xk (.inr rfl) rfl
 have ez:IntKind.i64.wrap (baE (n:Int) 32)=((n/32:Nat):Int):=by rw[azF,ep Om]
 have em:=azS n;have eu:IntKind.u64.wrap ((n%32:Nat):Int)=((n%32:Nat):Int):=bE Om;have S:=C2 n;have R:n%32<32:=a9P _ (by decide);have hz:n/32≤8388608:=Om;generalize ε:n/32=z at *
 generalize γ:n%32=s at *
 have O:((z:Nat):Int)*((4:Nat):Int)≤140737488355328:=Om;have Q:((z:Nat):Int)≤9223372036854775807:=Om;have V:a8A z [PV.int .u32 0]=aL (a8A z 0):=by simp[aL]
 have J:2 ^ s≤2147483648:=baW (show 0<2 by decide) (Om:s≤31);have w:0<2 ^ s:=baR (by decide);simp only[go_sem,decide_eq_false B,aCS,ez,O,Q,V];refine aR fun o ho=>?_;simp only[go_sem,aCT,aCU];refine wp_loop (α:=List Nat × Nat × Nat × PV × PH) (fun t=>aNO a n t.2.2.2.1 t.2.1 t.2.2.1) (fun t=>t.2.2.2.2)
  (fun t=>t.2.2.1≤a.length∧t.1.length=z+t.2.2.1∧Lim t.1∧t.2.1<2 ^ s∧val t.1+4294967296 ^ t.1.length*t.2.1=val (a.take t.2.2.1)*2 ^ n∧bQ t.2.2.2.2 1 t.2.2.2.1 (aL t.1)) (fun t=>a.length-t.2.2.1) (a8A z 0,0,0,.osl o 1 0 z,PH.nil.set o (.rows 1 (aL (a8A z 0))))
  ⟨by simp,by simp,vS _,w,by simp[val,sE],.inr ⟨o,aL (a8A z 0),by rw[cB,List.length_replicate],by simp only[go_sem],by rw[cB]; exact a8D _,a8Y⟩⟩ ?_ b_ ?_
 ·unfold aNO;exact Lq
 rintro⟨P,c,i,v,H0⟩ ⟨hi,W,d,X,p,M⟩;simp only at hi W d X p M ⊢;simp only[go_sem,ahD,aCV,aNO];by_cases E:i<a.length
 ·have q:(i:Int)<(a.length:Nat):=Om;have β:=ha _ (a7Z E);have U:=cF a E;have N:=bU a E;generalize Y:a[i]=x at *
  have δ:x*2 ^ s≤4294967295*2147483648:=bbF Om J;have ex:IntKind.u64.wrap ((x:Nat):Int)=((x:Nat):Int):=bE Om;have Z:2 ^ s*x=x*2 ^ s:=a9B _ _;have H:shift .shl .u64 (x:Int) (s:Int)=some (.int .u64 ((2 ^ s*x:Nat):Int)):=LD Om Om;have F:=orI (a:=2 ^ s*x) (b:=c) (n:=c+2 ^ s*x) Om Om (by rw[Nat.or_comm]; exact Rm X Om) Om;have A:(c+2 ^ s*x)/4294967296<2 ^ s:=by rw[bbB (by decide)];have:2 ^ s*(x+1)≤2 ^ s*4294967296:=baJ _ Om;rw[a8L,Nat.mul_one] at this;omega
  have u:(1:Nat)*1≤16777216:=by decide
  simp only[go_sem,q,aCW,N,ex,em,eu,H,F,aCX,cL,u];refine fI (src:=[[.int .u32 (((c+2 ^ s*x)%4294967296:Nat):Int)]]) M rfl (qI Om) fun v' H' l _=>?_;rw[qJ] at l;simp only[go_sem,aCY,xM,ahE,wZz i];refine aD (P++[(c+2 ^ s*x)%4294967296],(c+2 ^ s*x)/4294967296,i+1,v',H') ⟨by simp only; omega,by simp; omega,d.app fun y hy=>by simp at hy; subst hy; exact a9P _ (by decide),A,?_,l⟩ (by simp only; omega) ?_ b_
  ·simp only;have hp:4294967296 ^ P.length*(2 ^ s*x)=4294967296 ^ i*x*2 ^ n:=by rw[W,Nat.pow_add,← S];rw[a8X,Nat.mul_left_comm (4294967296 ^ i),← a8X (4294967296 ^ z),a9B (4294967296 ^ z*2 ^ s),a8X,a9B x]
   rw[jK,a8E,a8I,a9T,a8X,baH,← a8L,Nat.mod_add_div,U,a8L,a9C,← baH,p,hp]
  ·exact Lq
 ·have e:i=a.length:=Om;subst e;have q:¬ (a.length:Int)<(a.length:Nat):=Om;have u:(1:Nat)*1≤16777216:=by decide
  have hV:val (P++[c])=val a*2 ^ n:=by rw[jK,p,a8Y]
  have K:Lim (P++[c]):=d.app fun x Y=>by simp at Y; omega
  have ec:IntKind.u32.wrap ((c:Nat):Int)=((c:Nat):Int):=by rw[cL,a9K Om]
  simp only[go_sem,q,ahF,ec,u];refine fI (src:=[[.int .u32 ((c:Nat):Int)]]) M rfl (qI Om) fun v' H' l _=>?_;rw[qJ] at l;have R:=L.trimM _ K (by simp; omega);rw[hV] at R;refine Hh R l rfl fun F1 H1 _ r H2 hr _=>?_;simp only[go_sem];exact awF (.inr rfl) hr rfl
def TJ (a:List Nat) (n:Nat) (v:PV) (i:Nat):PF:=((((PF.nil.set 0 (aJ a)).set 1 (.int .i64 n)).set 5 (v)).set 6 (.int .i64 i))
theorem T1 {C:Ctx} (L:oT C) (a:List Nat) (n:Nat) (E:Lim a) (h1:a.length≤8388608) (hn:n≤1000000000) :
  LO.wp C (aV Ic.res (bZ (aJ (aI (val a/2 ^ n))))) (PF.args [aJ a,.int .i64 n]) .nil:=by
 have ez:IntKind.i64.wrap (baE (n:Int) 32)=((n/32:Nat):Int):=by rw[azF,ep Om]
 have em:=azS n;have eu:IntKind.u64.wrap ((n%32:Nat):Int)=((n%32:Nat):Int):=bE Om;have J:=C2 n;have O:n%32<32:=a9P _ (by decide);have hz:n/32≤1000000000:=Om;generalize θ:n/32=z at *
 generalize η:n%32=s at *
 simp only[go_sem,LO,T2,T3,Ic,a7W,ez];by_cases c0:a.length≤z
 ·have d:((z:Nat):Int)≥(a.length:Nat):=Om;have hq:val a/2 ^ n=0:=by refine bbM (Nat.lt_of_lt_of_le (fB E) ?_);rw[← J];exact a9J (baW (by decide) c0) (Nat.le_mul_of_pos_right _ (baR (by decide)))
  simp only[go_sem,d,T4];rw[hq,fO];exact bA (vs:=[.aB]) (.inr rfl) .nil rfl a_ ⟨.nil 1,rfl⟩
 have d:¬ ((z:Nat):Int)≥(a.length:Nat):=Om;have hR:val a/2 ^ n=val (a.drop z)/2 ^ s:=by rw[uQ E Om,← J,Nat.div_div_eq_div_mul]
 have A:Lim (a.drop z):=E.drop z;simp only[go_sem,d,T5,T6,ez];refine wp_loop (α:=List Nat × PV × PH) (fun t=>TJ a n t.2.1 (z+t.1.length)) (fun t=>t.2.2)
  (fun t=>z+t.1.length≤a.length∧t.1=dW t.1.length (val (a.drop z)/2 ^ s)∧bQ t.2.2 1 t.2.1 (aL t.1)) (fun t=>a.length-t.1.length) ([],.aB,.nil)
  ⟨by simp; omega,rfl,.nil⟩ ?_ a_ ?_
 ·unfold TJ
  (repeat' (first|exact c_|refine d_ ?_ ?_))<;>first|(simp only[go_sem,baM]<;>rfl)|rfl
 rintro⟨P,v,H0⟩ ⟨hP,hD,Y⟩;simp only at hP hD Y ⊢;simp only[go_sem,Ek,T7,TJ];have w:Lim P:=by rw[hD]; exact mM _ _
 by_cases Q:z+P.length<a.length
 ·have p:((z+P.length:Nat):Int)<(a.length:Nat):=Om;have ζ:=E _ (a7Z Q);have Z:=bU a Q;have γ:P.length≤(a.drop z).length:=by rw[a9Z]; omega
  have M:=uQ A γ;have c:(a.drop z).drop P.length=a[z+P.length]::a.drop (z+P.length+1):=by rw[List.drop_drop,a9X Q]
  generalize hx:a[z+P.length]=x at *
  have ex:IntKind.u64.wrap ((x:Nat):Int)=((x:Nat):Int):=bE Om;have β:(1:Nat)*1≤16777216:=by decide
  have X:IntKind.i64.wrap (((z+P.length:Nat):Int)+1)=((z+P.length+1:Nat):Int):=cZ Om;have fin:∀ (t:Nat) (F:PF),t<18446744073709551616→val (a.drop z)/4294967296 ^ P.length%(4294967296*4294967296)=t→F 0=some (aJ a)→F 1=some (.int .i64 n)→F 5=some v→F 6=some (.int .i64 (z+P.length:Nat))→F 7=some (.int .u64 t) →
    ∀ K:bR,(∀ v' N H2,(TJ a n v' (z+(P.length+1))).le N→bQ H2 1 v' (aL (P++[t/2 ^ s%4294967296]))→(P++[t/2 ^ s%4294967296])=dW (P.length+1) (val (a.drop z)/2 ^ s)→K .normal N H2) →
    aC.wp C (.region d3) (eX 1 (gG C (aC.wp C (.region TK)) K)) F H0:=by
   intro t F ht δ f0 f1 f5 f6 f7 K hK;have u:shift .shr .u64 (t:Int) (s:Int)=some (.int .u64 ((t/2 ^ s:Nat):Int)):=aXM Om;simp only[go_sem,d3,f5,f7,f1,em,eu,u,cL,β];refine fI (src:=[[.int .u32 ((t/2 ^ s%4294967296:Nat):Int)]]) Y rfl (qI Om) fun v' H' B _=>?_;rw[qJ] at B;simp only[go_sem,TK,f6,X];refine hK v' _ H' ?_ B ?_
   ·unfold TJ;exact Lq
   ·rw[vO,← hD];congr 2;have e:val (a.drop z)/4294967296 ^ P.length=t%4294967296+4294967296*(t/4294967296+4294967296*(val (a.drop z)/4294967296 ^ P.length/(4294967296*4294967296))):=by have:=Nat.mod_add_div (val (a.drop z)/4294967296 ^ P.length) (4294967296*4294967296);rw[δ] at this;have h2:=Nat.mod_add_div t 4294967296;rw[a8L,← baH,h2,← a8X];exact this.symm
    have:=YG O e;rw[this];congr 2;have h2:=Nat.mod_add_div t 4294967296;omega
  simp only[aC.wp,go_sem] at fin;simp only[go_sem,p,T8,Z,ex,T9,X];by_cases R:z+P.length+1<a.length
  ·have q:((z+P.length+1:Nat):Int)<(a.length:Nat):=Om;have ε:=E _ (a7Z R);have H:=bU a R;rw[a9X R] at c;generalize hy:a[z+P.length+1]=y at *
   have ey:IntKind.u64.wrap ((y:Nat):Int)=((y:Nat):Int):=bE Om;have u:shift .shl .u64 (y:Int) ((32:Nat):Int)=some (.int .u64 ((2 ^ 32*y:Nat):Int)):=LD (by decide) Om;have W:=orI (a:=x) (b:=2 ^ 32*y) (n:=x+2 ^ 32*y) Om Om (Rm Om Om) Om;simp only[go_sem,q,Ua,X,H,ey,show shift .shl .u64 (y:Int) 32=_ from u,W];refine fin (x+2 ^ 32*y) _ Om ?_ rfl rfl rfl rfl rfl _ ?_
   ·rw[← M,c];simp only[val];omega
   ·intro v' N H2 S U V;refine aD (α:=List Nat × PV × PH) (P++[(x+2 ^ 32*y)/2 ^ s%4294967296],v',H2) ⟨by simp; omega,by simpa using V,U⟩ (by simp; omega) ?_ b_;simp only[a8E,a8I];exact S
  ·have q:¬ ((z+P.length+1:Nat):Int)<(a.length:Nat):=Om;rw[bbQ (l:=a) (i:=z+P.length+1) Om] at c;simp only[go_sem,q];refine fin x _ Om ?_ rfl rfl rfl rfl rfl _ ?_
   ·rw[← M,c];simp only[val];omega
   ·intro v' N H2 S U V;refine aD (α:=List Nat × PV × PH) (P++[x/2 ^ s%4294967296],v',H2) ⟨by simp; omega,by simpa using V,U⟩ (by simp; omega) ?_ b_;simp only[a8E,a8I];exact S
 ·have e:z+P.length=a.length:=Om;have p:¬ ((z+P.length:Nat):Int)<(a.length:Nat):=Om;have hV:val P=val (a.drop z)/2 ^ s:=by rw[hD];refine oP (Nat.lt_of_le_of_lt (baV _ _) ?_);have:=fB A;rw[a9Z] at this;rw[show P.length=a.length-z by omega];exact this
  have O:=L.trim _ w Om;rw[hV,← hR] at O;simp only[go_sem,p,El];refine tQ O Y rfl fun F1 H1 _=>?_;simp only[go_sem];exact bA (.inr rfl) .nil rfl a_ ⟨.refl _,rfl⟩
structure FF (C:Ctx):Prop extends OB C where
 bits:∀ xs,Lim xs→xs.length≤35184372087808→aH C 31 [aJ xs] .nil (aF (.int .i64 (cM (val xs):Nat)))
 upM:∀ (a:List Nat) (n:Nat),Lim a→a.length≤8388608→n≤8388608→(a.length=0→val a=0)→aH C 45 [aJ a,.int .i64 n] .nil (oS 1 (aL (aI (val a*2 ^ n))))
 down:∀ (a:List Nat) (n:Nat),Lim a→a.length≤8388608→n≤1000000000→aH C 40 [aJ a,.int .i64 n] .nil (aF (aJ (aI (val a/2 ^ n))))
def udS:Spec:=fun name vs=>match name,vs with
 | 35,[.int _ v]=>some ([],fun _=>aF (aJ (aI v.toNat)))
 | 44,[x,y]=>some ([],fun _=>aF (aJ (aI (val (jE x)*val (jE y)))))
 | 32,[x,.osl q _ _ _]=>some ([q],fun c r H'=>H'=c∧∀ xs,Lim xs→c q=some (.rows 1 (aL xs))→r=.int .i64 (dQ (val (jE x)) (val xs)))
 | _,_=>none
theorem aND (v:Nat):udS 35 [.int .u64 v]=some ([],fun _=>aF (aJ (aI v))):=rfl
theorem aCH (x y:List Nat):udS 44 [aJ x,aJ y]=some ([],fun _=>aF (aJ (aI (val x*val y)))):=by
 show some ([],fun _=>aF (aJ (aI (val (jE (aJ x))*val (jE (aJ y))))))=_; rw[eG,eG]
theorem aEW (q:Nat) (x L:List Nat):(PH.nil.set q (.rows 1 (aL L)))=(PH.nil.set q (.rows 1 (aL L)))∧∀ xs,Lim xs→(PH.nil.set q (.rows 1 (aL L))) q=some (.rows 1 (aL xs))→(PV.int .i64 (dQ (val x) (val L)))=.int .i64 (dQ (val (jE (aJ x))) (val xs)):=by
 refine⟨rfl,fun xs c e=>?_⟩;rw[cO] at e;have:aL L=aL xs:=(cG.rows.inj (baL.inj e)).2;rw[RG this,eG]
def duF (n o d:Nat) (y:List Nat) (top e c:Nat) (k:Int):PF :=
 ((((((PF.nil.set 10 (.int .i64 n)).set 11 (.osl o 1 0 d)).set 12 (aJ y)).set 13 (.int .u64 top)).set 14 (.osl e 1 0 c)).set 15 (.int .i64 k))
abbrev eA (X:List Nat) (Z:List (List PV)):List (List PV):=aL X++Z
theorem MN {X:List Nat} {Z:List (List PV)} {i:Nat} (h:i<X.length):(eA X Z)[i]?=some [.int .u32 ((X[i]:Nat):Int)]:=by
 rw[eA,baP (by rw[cB]; exact h),bU X h]
theorem Gf {X:List Nat} {Z:List (List PV)} {i:Nat} (h:i<X.length) (v:Nat):(eA X Z).set i [.int .u32 (v:Int)]=eA (X.set i v) Z:=by
 rw[eA,List.set_append_left _ _ (by rw[cB]; exact h),fN]
theorem Ge {X:List Nat} {Z:List (List PV)} {j m:Nat} (h:j+m≤X.length):((eA X Z).drop j).take m=aL ((X.drop j).take m):=by
 rw[eA,List.drop_append_of_le_length (by rw[cB]; omega),List.take_append_of_le_length (by rw[a9Z,cB]; omega)];unfold aL;rw[← List.map_drop,← List.map_take]
theorem aYB {C:Ctx} (L:FF C) (n o p:Nat) (y:List Nat) (top l R j:Nat) (X:List Nat) (Z:List (List PV)) (O:l≠o) (hy:Lim y) (hX:Lim X) (γ:X.length=p) (hl:p≤5000) (hj:j+(y.length+1)≤p) (A:0<val y)
  (V:cG) (g0:Nat) (hg:val ((X.drop j).take (y.length+1))/val y≤g0) (N:g0<4294967296) (K:bR) (F:PF) (H:PH) (hF:((duF n o p y top l R j).set 17 (.int .u64 g0)).le F) (hH:((PH.nil.set o (.rows 1 (eA X Z))).set l V).le H)
  (hK:∀ Y H',((duF n o p y top l R j).set 17 (.int .u64 (val ((X.drop j).take (y.length+1))/val y:Nat))).le Y→((PH.nil.set o (.rows 1 (eA X Z))).set l V).le H'→K .normal Y H') :
  aC.wp C (.block 4 (.loop vE)) K F H:=by
 have d:¬ o=l:=fun h=>O h.symm;have e:((X.drop j).take (y.length+1)).length=y.length+1:=by rw[a8Q,a9Z]; omega
 have q:Lim ((X.drop j).take (y.length+1)):=(hX.drop _).take _;have u:=Ge (X:=X) (Z:=Z) (j:=j) (m:=y.length+1) Om;have w:j+(y.length+1)≤(eA X Z).length:=by rw[eA,a8E,cB]; omega
 have J:aL ((X.drop j).take (y.length+1))≠[]:=fun h=>by have:=congrArg List.length h;rw[cB,e] at this;simp at this
 generalize hW:(X.drop j).take (y.length+1)=W at *
 generalize x:val W/val y=E at *
 simp only[go_sem];refine wp_loop (α:=Nat) (fun g=>(duF n o p y top l R j).set 17 (.int .u64 g)) (fun _=>(PH.nil.set o (.rows 1 (eA X Z))).set l V) (fun g=>E≤g∧g<4294967296) (fun g=>g) g0 ⟨hg,N⟩ hF hH ?_;rintro g ⟨β,hlt⟩;have e1:IntKind.i64.wrap ((j:Int)+(y.length:Int))=((j+y.length:Nat):Int):=gI Om;have e2:IntKind.i64.wrap (((j+y.length:Nat):Int)+1)=((j+y.length+1:Nat):Int):=cZ Om;have b1:(j:Int)≤((j+y.length+1:Nat):Int):=Om;have b2:((j+y.length+1:Nat):Int)≤(p:Nat):=Om;have b3:j+y.length+1-j=y.length+1:=Om;have mk:=L.make g Om;have tm:=L.times y (aI g) hy (aX _) Om (by have B:nl g≤1:=nT (by rw[Nat.pow_one]; exact hlt);rw[bB]; omega)
 rw[aW] at tm;have Q:(aI (val y*g)).length≤35184372087808:=by have B:nl g≤1:=nT (by rw[Nat.pow_one]; exact hlt);have h2:=lJ (a:=val y) (b:=g) (fM hy) B;rw[bB]; omega
 have cm:=L.cmp (aI (val y*g)) W (aX _) q Q Om;rw[aW] at cm;simp only[go_sem,vE];refine bV .nil udS a_ ?_;simp only[go_sem,YQ,duF];refine bO (aND g) mk Sq a_ ?_;simp only[go_sem];have tS:=aCH y (aI g);rw[aW] at tS;refine bO tS tm Sq a_ ?_;simp only[go_sem,a7W,e1,e2,b1,b2,b3];refine tP (src:=aL W) ?_ ?_ (fun h=>absurd h J) fun _ o' i=>?_
 ·simp only[go_sem,d,w,u]
 ·unfold roomFor;rw[cB,e];simp only[maxLen]; omega
 refine⟨a_,?_⟩;rw[cB,e];have n1:¬ o'=l:=(iU.1 i).1;refine aFF (o:=o') (s:=1) (rs:=aL W) (vs:=[aJ (aI (val y*g)),.osl o' 1 0 (y.length+1)]) (v:=.int .i64 (dQ (val y*g) (val W))) rfl (.int _ _) Sq ?_ ?_ ?_ Sq a_ ?_
 ·rw[a9L,a9L,baF,uA (by rw[cB,e]; exact a8D _),a8S (by rw[cB,e]; exact a8D _)];exact cm
 ·have:=aEW o' (aI (val y*g)) W;rw[aW] at this;exact this
 ·rintro r H' ⟨B,h2⟩;have:=h2 W q (by rw[cO]);rw[eG,aW] at this;exact⟨this,B⟩
 simp only[go_sem];by_cases c:val W<val y*g
 ·have M:dQ (val y*g) (val W)=1:=by unfold dQ;rw[if_neg Om,if_pos c]
  have hq:E<g:=by rw[← x]; exact (bbB A).2 (by rw[a9B]; exact c)
  have ew:IntKind.u64.wrap ((g:Int)-1)=((g-1:Nat):Int):=by rw[wrap_u64 Om Om]; omega
  simp only[go_sem,M,show (1:Int)>0 by decide,YR,ew];refine aD (g-1) ⟨by omega,by omega⟩ Om ?_ ?_
  ·exact Lq
  ·refine PH.aK (PH.aK a_ ?_) ?_
   ·have S:¬ o=o':=fun h=>by subst h;rw[aT,if_neg d,cO] at i;cases i
    simp only[go_sem,S,d]
   ·have U:¬ l=o':=fun h=>n1 h.symm;simp only[go_sem,U]
 ·have M:¬ dQ (val y*g) (val W)>0:=by unfold dQ;rw[if_neg c];split<;>decide
  have hq:g=E:=by
   have:g≤E:=by rw[← x]; exact (Nat.le_div_iff_mul_le A).2 (by rw[a9B]; omega)
   omega
  simp only[go_sem,M];refine hK _ _ ?_ ?_
  ·unfold duF
   (repeat' (first|exact c_|refine d_ ?_ ?_))<;>first|(simp only[go_sem,← hq]<;>rfl)|rfl
  ·refine PH.aK (PH.aK a_ ?_) ?_
   ·have S:¬ o=o':=fun h=>by subst h;rw[aT,if_neg d,cO] at i;cases i
    simp only[go_sem,S,d]
   ·have U:¬ l=o':=fun h=>n1 h.symm;simp only[go_sem,U]
theorem aQZ (R k:Nat) (h:k<nl R):∃ i:k<(aI R).length,(aI R)[k]=R/4294967296 ^ k%4294967296:=by
 have c:k<(aI R).length:=by rw[bB]; exact h
 refine⟨c,?_⟩;have d:=uQ (aX R) (Nat.le_of_lt c);rw[aW,a9X c] at d;have e:=aX R _ (a7Z c);simp only[val] at d;rw[← d,Nat.add_mul_mod_self_left,a9K e]
theorem aGU (R k:Nat) (h:nl R≤k):R/4294967296 ^ k%4294967296=0:=by
 rw[bbM ((jB R k).1 h)]
theorem aSZ {A P W Z:List Nat} {i:Nat} (c:P.length=i) (hi:i<W.length) (v:Nat):(A++(P++W.drop i)++Z).set (A.length+i) v=A++((P++[v])++W.drop (i+1))++Z :=
 RG (by rw[← fN]; exact GG c hi v)
theorem a1C {C:Ctx} (n o w:Nat) (y:List Nat) (top q Q j:Nat) (X:List Nat) (Z:List (List PV)) (B:q≠o) (N:X.length=w) (hl:w≤5000) (hj:j+(y.length+1)≤w)
  (S:cG) (g R:Nat) (K:bR) (F:PF) (H:PH) (hF:((((duF n o w y top q Q j).set 17 (.int .u64 g)).set 18 (aJ (aI R))).set 19 (.int .i64 0)).le F) (hH:((PH.nil.set o (.rows 1 (eA X Z))).set q S).le H)
  (hK:∀ U H',((duF n o w y top q Q j).set 17 (.int .u64 g)).le U→((PH.nil.set o (.rows 1 (eA (X.take j++dW (y.length+1) R++X.drop (j+(y.length+1))) Z))).set q S).le H'→K .normal U H') :
  aC.wp C (.block 6 (.loop vF)) K F H:=by
 have l:¬ o=q:=fun h=>B h.symm;have hA:(X.take j).length=j:=by rw[a8Q]; omega
 have ε:((X.drop j).take (y.length+1)).length=y.length+1:=by rw[a8Q,a9Z]; omega
 have θ:(X.drop (j+(y.length+1))).length=w-(j+(y.length+1)):=by rw[a9Z,N]
 have u:X.take j++(X.drop j).take (y.length+1)++X.drop (j+(y.length+1))=X:=by rw[a9G,← List.drop_drop,baU,baU]
 rw[← u] at hH;generalize γ:X.take j=A at *
 generalize δ:(X.drop j).take (y.length+1)=W at *
 generalize η:X.drop (j+(y.length+1))=p at *
 simp only[go_sem];refine wp_loop (α:=List Nat) (fun P=>(((duF n o w y top q Q j).set 17 (.int .u64 g)).set 18 (aJ (aI R))).set 19 (.int .i64 P.length)) (fun P=>(PH.nil.set o (.rows 1 (eA (A++(P++W.drop P.length)++p) Z))).set q S)
  (fun P=>P.length≤y.length+1∧P=dW P.length R) (fun P=>y.length+1-P.length) [] ⟨a8C _,rfl⟩ hF (by simpa using hH) ?_
 rintro P ⟨hP,hD⟩;simp only[go_sem,vF,YS,duF];by_cases c:P.length<y.length+1
 ·have J:(P.length:Int)≤(y.length:Nat):=Om;have V:IntKind.i64.wrap ((j:Int)+(P.length:Int))=((j+P.length:Nat):Int):=gI Om;have β:(A++(P++W.drop P.length)++p).length=w:=by simp only[a8E,a9Z]; omega
  have hi:j+P.length<(A++(P++W.drop P.length)++p).length:=Om;have b1:((j+P.length:Nat):Int)<(w:Nat):=Om;have r1:=MN (Z:=Z) hi;have s1:=Gf (Z:=Z) hi 0;have E:j+P.length<((A++(P++W.drop P.length)++p).set (j+P.length) 0).length:=by rw[baB]; exact hi
  have d:=fun v=>aSZ (A:=A) (P:=P) (W:=W) (Z:=p) (i:=P.length) rfl Om v;rw[hA] at d;generalize ζ:A++(P++W.drop P.length)++p=XX at *
  have r2:(eA (A++((P++[0])++W.drop (P.length+1))++p) Z)[j+P.length]?=some [.int .u32 ((0:Nat):Int)]:=by rw[← d 0,MN E,List.getElem_set_self]
  have s2:∀ v,(eA (A++((P++[0])++W.drop (P.length+1))++p) Z).set (j+P.length) [.int .u32 ((v:Nat):Int)]=eA (A++((P++[v])++W.drop (P.length+1))++p) Z:=by intro v;rw[← d 0,Gf E,List.set_set,d]
  have a7H:=vO P.length R;rw[← hD] at a7H;have Y:IntKind.i64.wrap ((P.length:Int)+1)=((P.length+1:Nat):Int):=cZ Om;simp only[go_sem,J,YT,V,b1,l,r1,show ([PV.int .u32 (0:Int)])=[PV.int .u32 ((0:Nat):Int)] from rfl,s1,YU,bB];by_cases c2:P.length<nl R
  ·have x:(P.length:Int)<(nl R:Nat):=Om;obtain⟨M,O⟩:=aQZ R P.length c2;have hr:=bU (aI R) M;rw[O] at hr;simp only[go_sem,x,YV,hr,V,b1,l,r2,s2,List.set_set,d,EH,Y];refine aD (P++[R/4294967296 ^ P.length%4294967296]) ⟨by simp; omega,by rw[a8E,a8I]; exact a7H.symm⟩ (by simp; omega) ?_ ?_
   ·rw[a8E,a8I];exact Lq
   ·rw[a8E,a8I];refine PH.aK (PH.aK a_ ?_) ?_<;>simp only[go_sem,l,show ¬ q=o from B]
  ·have x:¬ (P.length:Int)<(nl R:Nat):=Om;have O:=aGU R P.length Om;rw[O] at a7H;simp only[go_sem,x,d,EH,Y];refine aD (P++[0]) ⟨by simp; omega,by rw[a8E,a8I]; exact a7H.symm⟩ (by simp; omega) ?_ ?_
   ·rw[a8E,a8I];exact Lq
   ·rw[a8E,a8I];refine PH.aK (PH.aK a_ ?_) ?_<;>simp only[go_sem,l,show ¬ q=o from B]
 ·have J:¬ (P.length:Int)≤(y.length:Nat):=Om;have e:P.length=y.length+1:=Om;simp only[go_sem,J];refine hK _ _ (by unfold duF; exact Lq) ?_;have h2:A++dW (y.length+1) R++p=A++(P++W.drop P.length)++p:=by rw[bbQ Om,a9W,← e,← hD]
  rw[h2];exact b_
theorem aGJ {y W:List Nat} {m:Nat} (A:Lim y) (hW:Lim W) (w:y.length=m+1) (u:W.length=m+2) (x:0<y[m]):val W/val y≤(4294967296*W[m+1]+W[m])/y[m]:=by
 have p:=cF y (Om:m<y.length);rw[a8S Om] at p;have d:=cF W (Om:m+1<W.length);rw[a8S Om,cF W (Om:m<W.length)] at d;have i:=fB (hW.take m);rw[a8Q,baI Om] at i;have l:0<4294967296 ^ m:=baR (by decide);have q:4294967296 ^ m*y[m]≤val y:=Om;have c:0<4294967296 ^ m*y[m]:=Nat.mul_pos l x;have e:val W=val (W.take m)+4294967296 ^ m*(4294967296*W[m+1]+W[m]):=by rw[d,a9T,a8L,a8X]; omega
 refine a9J (Nat.div_le_div_left q c) ?_;rw[← Nat.div_div_eq_div_mul,e,Nat.add_mul_div_left _ _ l,bbM i,a8U];exact a8D _
theorem aCI {C:Ctx} (L:FF C) (U0 n o i d e m:Nat) (y z:List Nat) (M:e≠o) (hy:Lim y) (B:y.length=m+1) (ht:0<y[m]) (b':i=d+(m+1)) (O:i≤5000) (X:List Nat) (A:pA U0 (val y) (m+1) i d d X (a8A d 0)) (K:bR) (F:PF) (H:PH)
  (hF:(duF n o i y (y[m]) e d ((d:Int)-1)).le F) (hH:((PH.nil.set o (.rows 1 (eA X (aL z)))).set e (.rows 1 (aL (a8A d 0)))).le H)
  (hK:∀ X' Q' F' H',pA U0 (val y) (m+1) i d 0 X' Q'→(duF n o i y (y[m]) e d (-1)).le F'→((PH.nil.set o (.rows 1 (eA X' (aL z)))).set e (.rows 1 (aL Q'))).le H'→K .normal F' H') :
  aC.wp C (.block 2 (.loop vG)) K F H:=by
 have l:¬ o=e:=fun h=>M h.symm;have l':¬ e=o:=M;have hV:val y<4294967296 ^ (m+1):=by have:=fB hy; rw[B] at this; exact this
 have ι:0<val y:=by have h1:=cF y (Om:m<y.length);rw[a8S Om] at h1;have:0<4294967296 ^ m*y[m]:=Nat.mul_pos (baR (by decide)) ht;omega
 have r':=hy _ (a7Z (Om:m<y.length));generalize htop:y[m]=top at *
 simp only[go_sem];refine wp_loop (α:=Nat × List Nat × List Nat) (fun t=>duF n o i y top e d ((t.1:Int)-1)) (fun t=>(PH.nil.set o (.rows 1 (eA t.2.1 (aL z)))).set e (.rows 1 (aL t.2.2)))
  (fun t=>t.1≤d∧pA U0 (val y) (m+1) i d t.1 t.2.1 t.2.2) (fun t=>t.1) (d,X,a8A d 0) ⟨a8D _,A⟩ hF hH ?_
 rintro⟨k,X,Q⟩ ⟨hk,A⟩;simp only at hk A;simp only[go_sem,vG,YL,duF];by_cases h0:0<k
 ·obtain⟨j,rfl⟩:∃ j,k=j+1:=⟨k-1,by omega⟩;have hz:((j+1:Nat):Int)-1=(j:Int):=Om;have Ψ:(j:Int)≥0:=Om;have dst:=Kl A hV Om b';rw[show m+1+1=m+2 from rfl] at dst;obtain⟨hlt,ω⟩:=dst;have κ:=A.lu';have m':=A.lq';have J:((X.drop j).take (m+2)).length=m+2:=by rw[a8Q,a9Z]; omega
  have V:Lim ((X.drop j).take (m+2)):=(A.limU.drop _).take _;have p':m+1<((X.drop j).take (m+2)).length:=Om;have n':m<((X.drop j).take (m+2)).length:=Om;have a1:j+(m+1)<X.length:=Om;have a0:j+m<X.length:=Om;have w1:((X.drop j).take (m+2))[m+1]=X[j+(m+1)]:=by simp
  have w0:((X.drop j).take (m+2))[m]=X[j+m]:=by simp
  have ν:=aGJ hy V B J (by rw[htop]; exact ht);rw[w1,w0,htop] at ν;have r1:=MN (Z:=aL z) a1;have r0:=MN (Z:=aL z) a0;have l1:=A.limU _ (a7Z a1);have l0:=A.limU _ (a7Z a0);generalize t':X[j+(m+1)]=u at *
  generalize s':X[j+m]=x at *
  have e1:IntKind.i64.wrap ((j:Int)+(y.length:Int))=((j+(m+1):Nat):Int):=by rw[B]; exact gI Om
  have e0:IntKind.i64.wrap (((j+(m+1):Nat):Int)-1)=((j+m:Nat):Int):=by rw[wrap_i64 Om Om]; omega
  have b1:((j+(m+1):Nat):Int)<(i:Nat):=Om;have b0:((j+m:Nat):Int)<(i:Nat):=Om;have χ:IntKind.u64.wrap ((u:Nat):Int)=((u:Nat):Int):=bE Om;have φ:IntKind.u64.wrap ((x:Nat):Int)=((x:Nat):Int):=bE Om;have δ:shift .shl .u64 (u:Int) 32=some (.int .u64 ((2 ^ 32*u:Nat):Int)):=LD (s:=32) Om Om;have υ:(2:Nat) ^ 32=4294967296:=by decide
  have β:=orI (a:=2 ^ 32*u) (b:=x) (n:=2 ^ 32*u+x) Om Om (Nat.two_pow_add_eq_or_of_lt Om u).symm Om;rw[υ] at δ β;have Θ:¬ ((top:Nat):Int)=0:=Om;have ρ:(4294967296*u+x)/top<18446744073709551616:=Nat.lt_of_le_of_lt (baV _ _) Om;have γ:IntKind.u64.wrap (baE ((4294967296*u+x:Nat):Int) ((top:Nat):Int))=(((4294967296*u+x)/top:Nat):Int):=by rw[show baE ((4294967296*u+x:Nat):Int) ((top:Nat):Int)=(((4294967296*u+x)/top:Nat):Int) from rfl];exact bE ρ
  have σ:val ((X.drop j).take (m+2))/val y<4294967296:=(bbB ι).2 (by rw[a9B]; exact hlt);have μ:=Ge (X:=X) (Z:=aL z) (j:=j) (m:=m+2) Om;have ξ:j+(m+2)≤(eA X (aL z)).length:=by rw[eA,a8E,cB]; omega
  have Y:val ((X.drop j).take (m+2))-val y*(val ((X.drop j).take (m+2))/val y)=val ((X.drop j).take (m+2))%val y:=by have:=bbL (val ((X.drop j).take (m+2))) (val y);omega
  have w:val y*(val ((X.drop j).take (m+2))/val y)≤val ((X.drop j).take (m+2)):=Nat.mul_div_le _ _;clear w1 w0;have gu:=fun g0=>aYB (C:=C) L n o i y top e d j X (aL z) M hy A.limU κ O Om ι (.rows 1 (aL Q)) g0;rw[B,show m+1+1=m+2 from rfl] at gu;generalize hW:(X.drop j).take (m+2)=W at *
  generalize q':val W/val y=E at *
  have Γ:aL W≠[]:=fun h=>by have:=congrArg List.length h;rw[cB,J] at this;simp at this
  have tail:∀ (g0:Nat) (F:PF) (H:PH),E≤g0→g0<4294967296→((duF n o i y top e d j).set 17 (.int .u64 g0)).le F→((PH.nil.set o (.rows 1 (eA X (aL z)))).set e (.rows 1 (aL Q))).le H →
    aC.wp C (.seq (.block 4 (.loop vE)) (.seq (.region EF) (.seq (.seq (.region EG) (.block 6 (.loop vF))) (.region EI)))) (eX 3 (gG C (aC.wp C (.region EJ)) (fJ (fun (t:Nat × List Nat × List Nat)=>duF n o i y top e d ((t.1:Int)-1)) (fun t=>(PH.nil.set o (.rows 1 (eA t.2.1 (aL z)))).set e (.rows 1 (aL t.2.2))) (fun t=>t.1≤d∧pA U0 (val y) (m+1) i d t.1 t.2.1 t.2.2) (fun t=>t.1) (j+1) (eX 2 K)))) F H:=by
   intro g0 F H hg Φ hF hH;have gu:=gu g0 hg Φ;simp only[go_sem] at gu;simp only[go_sem];refine gu _ F H hF hH ?_;intro R H1 p η;have f11:R 11=some (.osl o 1 0 i):=p 11 _ (by unfold duF; simp only[go_sem]);have U:R 12=some (aJ y):=p 12 _ (by unfold duF; simp only[go_sem]);have ε:R 15=some (.int .i64 j):=p 15 _ (by unfold duF; simp only[go_sem]);have ζ:R 17=some (.int .u64 (E:Nat)):=p 17 _ (by unfold duF; simp only[go_sem]);have ψ:R 10=some (.int .i64 n):=p 10 _ (by unfold duF; simp only[go_sem]);have f13:R 13=some (.int .u64 top):=p 13 _ (by unfold duF; simp only[go_sem]);have f14:R 14=some (.osl e 1 0 d):=p 14 _ (by unfold duF; simp only[go_sem]);have ho:H1 o=some (.rows 1 (eA X (aL z))):=η o _ (by simp only[go_sem,l]);have ο:H1 e=some (.rows 1 (aL Q)):=η e _ Sq;have b3:(j:Int)≤((j+(m+1)+1:Nat):Int):=Om;have b4:((j+(m+1)+1:Nat):Int)≤(i:Nat):=Om;have b5:j+(m+1)+1-j=m+2:=Om;have e2:IntKind.i64.wrap (((j+(m+1):Nat):Int)+1)=((j+(m+1)+1:Nat):Int):=cZ Om;simp only[go_sem,EF,f11,ε,U,a7W,e1,e2,b3,b4,b5];refine tP (src:=aL W) ?_ ?_ (fun h=>absurd h Γ) fun _ o' N=>?_
   ·simp only[go_sem,ho,ξ,μ]
   ·unfold roomFor;rw[cB,J];simp only[maxLen]; omega
   rw[cB,J];have n1:¬ e=o':=fun h=>by subst h; rw[ο] at N; cases N
   have n2:¬ o=o':=fun h=>by subst h; rw[ho] at N; cases N
   have nq:nl E≤1:=nT (by rw[Nat.pow_one]; exact σ);have tm:=L.times y (aI E) hy (aX _) Om (by rw[bB]; omega);rw[aW] at tm;have nW:=fM V;have mn:=L.minus W (aI (val y*E)) V (aX _) (by rw[aW]; exact w) (by rw[bB]; exact a9J (fT w) nW) Om;rw[aW,Y] at mn;have Δ:(aL W).take (m+2)=aL W:=a8S (by rw[cB]; omega);simp only[go_sem,ζ];refine aA (L.make E Om) Sq ?_;simp only[go_sem,U];refine aA tm Sq ?_;simp only[go_sem];refine rB (o:=o') (s:=1) (rs:=aL W) mn Sq (by simp only[go_sem,show m+2≤W.length by omega,Δ]) ?_;simp only[go_sem,EG];have Ξ:(eA X (aL z)).map (fun r=>r.map (PV.dE o' 1 (aL W)))=eA X (aL z):=by
    have:eA X (aL z)=aL (X++z):=by simp[eA,aL]
    rw[this]; exact rW _ _ _ _
   have Λ:(aL Q).map (fun r=>r.map (PV.dE o' 1 (aL W)))=aL Q:=rW _ _ _ _;have ur:=a1C (C:=C) n o i y top e d j X (aL z) M κ O Om (.rows 1 (aL Q)) E (val W%val y);rw[B,show m+1+1=m+2 from rfl] at ur;simp only[go_sem] at ur;refine ur _ _ _ ?_ ?_ ?_
   ·unfold duF
    (repeat' (first|exact c_|refine d_ ?_ ?_))<;>first|(simp only[go_sem,ψ,f11,U,f13,f14,ε,ζ,n1,n2]<;>rfl)|rfl
   ·refine PH.aK (PH.aK a_ ?_) ?_
    ·simp only[go_sem,l,n2,ho,cG.frz,Ξ]
    ·simp only[go_sem,n1,ο,cG.frz,Λ]
   intro S H3 q θ;have f':S 10=some (.int .i64 n):=q 10 _ (by unfold duF; simp only[go_sem]);have g':S 11=some (.osl o 1 0 i):=q 11 _ (by unfold duF; simp only[go_sem]);have h':S 12=some (aJ y):=q 12 _ (by unfold duF; simp only[go_sem]);have i':S 13=some (.int .u64 top):=q 13 _ (by unfold duF; simp only[go_sem]);have τ:S 14=some (.osl e 1 0 d):=q 14 _ (by unfold duF; simp only[go_sem]);have j':S 15=some (.int .i64 j):=q 15 _ (by unfold duF; simp only[go_sem]);have k':S 17=some (.int .u64 E):=q 17 _ (by unfold duF; simp only[go_sem]);have d':H3 o=some (.rows 1 (eA (X.take j++dW (m+2) (val W%val y)++X.drop (j+(m+2))) (aL z))):=θ o _ (by simp only[go_sem,l]);have e':H3 e=some (.rows 1 (aL Q)):=θ e _ Sq;have a':j<Q.length:=Om;have rq:=bU Q a';have Ω:(j:Int)<(d:Nat):=Om;have sq:=fN Q j E;have ec:IntKind.u32.wrap ((E:Nat):Int)=((E:Nat):Int):=by rw[cL,a9K σ]
   have ej:IntKind.i64.wrap ((j:Int)-1)=(j:Int)-1:=wrap_i64 Om Om;simp only[go_sem,EI,τ,j',k',Ω,e',rq,ec,sq,EJ,ej];refine aD (α:=Nat × List Nat × List Nat) (j,_,_) ⟨by simp only; omega,ω⟩ (by simp only; omega) ?_ ?_
   ·unfold duF
    (repeat' (first|exact c_|refine d_ ?_ ?_))<;>first|(simp only[go_sem,f',g',h',i',τ]<;>rfl)|rfl
   ·refine PH.aK (PH.aK a_ ?_) ?_
    ·simp only[go_sem,l,d']
    ·simp only[go_sem]
  simp only[aC.wp,go_sem] at tail;simp only[go_sem,hz,Ψ];refine bV .nil eT a_ ?_;simp only[go_sem,YM,e1,e0,b1,b0,l,r1,r0,χ,φ,δ,β,YN,Θ,γ,YO];by_cases c:(4294967296*u+x)/top>4294967295
  ·have c':(((4294967296*u+x)/top:Nat):Int)>4294967295:=Om;simp only[go_sem,c',YP];exact tail 4294967295 _ _ Om (by decide) (by unfold duF; exact Lq) b_
  ·have c':¬ (((4294967296*u+x)/top:Nat):Int)>4294967295:=Om;simp only[go_sem,c'];exact tail _ _ _ ν Om (by unfold duF; exact Lq) b_
 ·have:k=0:=Om;subst this;have hz:¬ ((0:Nat):Int)-1≥0:=by decide
  simp only[go_sem,hz];refine hK X Q _ _ A ?_ b_;unfold duF
  (repeat' (first|exact c_|refine d_ ?_ ?_))<;>first|(simp only[go_sem,show ((0:Nat):Int)-1=-1 from rfl]<;>rfl)|rfl
def aNC (a:List Nat) (d q k r:Nat):PF:=(((((PF.nil.set 0 (aJ a)).set 1 (aJ [d])).set 6 (.osl q 1 0 a.length)).set 7 (.int .u64 r)).set 8 (.int .i64 ((k:Int)-1)))
theorem aqM {C:Ctx} (L:FF C) (a:List Nat) (d:Nat) (ha:Lim a) (i:0<d) (hd:d<4294967296) (h1:a.length≤1000) (F:PF) (f0:F 0=some (aJ a)) (f1:F 1=some (aJ [d])) :
  aC.wp C (.seq (.region LL) (.seq (.region LM) (.seq (.seq (.region LN) (.block 0 (.loop DZ))) (.seq (.region EA) .ret)))) (aV [.tmp 4,.tmp 5] (bZ (pJ (val a) d))) F .nil:=by
 have V:(a.length:Int)*((4:Nat):Int)≤140737488355328:=Om;have W:(a.length:Int)≤9223372036854775807:=Om;have hz:a8A a.length [PV.int .u32 0]=aL (a8A a.length 0++[]):=by simp[aL]
 simp only[go_sem,LL,f0,a7W,V,W,hz];refine aR fun o ho=>?_;simp only[go_sem,LM,LN,f0,a7W];refine wp_loop (α:=Nat × List Nat × Nat) (fun t=>aNC a d o t.1 t.2.2) (fun t=>PH.nil.set o (.rows 1 (aL (a8A t.1 0++t.2.1))))
  (fun t=>t.1+t.2.1.length=a.length∧Lim t.2.1∧t.2.2<d∧val t.2.1*d+t.2.2=val (a.drop t.1)) (fun t=>t.1) (a.length,[],0) ⟨by simp,by simp[Lim],i,by simp[val]⟩ ?_ ?_ ?_
 ·unfold aNC
  (repeat' (first|exact c_|refine d_ ?_ ?_))<;>first|(simp only[go_sem,f0,f1,wrap_i64 (Om:-9223372036854775808≤(a.length:Int)-1) (Om:(a.length:Int)-1≤9223372036854775807)]<;>rfl)|rfl
 ·exact PH.aK a_ Sq
 rintro⟨k,S,r⟩ ⟨hk,e,K,c⟩;simp only at hk e K c;simp only[go_sem,DZ,qe,aNC];by_cases h0:0<k
 ·obtain⟨m,rfl⟩:∃ m,k=m+1:=⟨k-1,by omega⟩;have q:((m+1:Nat):Int)-1=(m:Int):=Om;have R:(m:Int)≥0:=Om;have p:m<a.length:=Om;have hlt:(m:Int)<(a.length:Nat):=Om;have β:=ha _ (a7Z p);have l:val (a.drop m)=a[m]+4294967296*val (a.drop (m+1)):=by rw[a9X p]; rfl
  have O:=bU a p;generalize hx:a[m]=x at *
  have ex:IntKind.u64.wrap ((x:Nat):Int)=((x:Nat):Int):=bE Om;have Z:IntKind.u64.wrap ((d:Nat):Int)=((d:Nat):Int):=bE Om;have B:shift .shl .u64 (r:Int) 32=some (.int .u64 ((2 ^ 32*r:Nat):Int)):=LD (s:=32) Om Om;have M:(2:Nat) ^ 32=4294967296:=by decide
  have u:=orI (a:=2 ^ 32*r) (b:=x) (n:=2 ^ 32*r+x) Om Om (Nat.two_pow_add_eq_or_of_lt Om r).symm Om;rw[M] at B u;have J:(4294967296*r+x)/d<4294967296:=by rw[bbB i];have:4294967296*(r+1)≤4294967296*d:=baJ _ K;omega
  have Q:¬ ((d:Nat):Int)=0:=Om;have w:IntKind.u64.wrap (baE ((4294967296*r+x:Nat):Int) ((d:Nat):Int))=(((4294967296*r+x)/d:Nat):Int):=by rw[show baE ((4294967296*r+x:Nat):Int) ((d:Nat):Int)=(((4294967296*r+x)/d:Nat):Int) from rfl];exact bE Om
  have A:Int.tmod ((4294967296*r+x:Nat):Int) ((d:Nat):Int)=(((4294967296*r+x)%d:Nat):Int):=rfl;have Y:IntKind.u32.wrap (((4294967296*r+x)/d:Nat):Int)=(((4294967296*r+x)/d:Nat):Int):=by rw[cL,a9K J]
  have E:a8A (m+1) 0++S=a8A m 0++(0::S):=by rw[List.replicate_succ',a9G]; rfl
  have U:(aL (a8A m 0++(0::S)))[m]?=some [.int .u32 ((0:Nat):Int)]:=by rw[bU _ (by simp)]; simp
  have H:(aL (a8A m 0++(0::S))).set m [.int .u32 (((4294967296*r+x)/d:Nat):Int)]=aL (a8A m 0++(((4294967296*r+x)/d)::S)):=by rw[fN,baT _ _ (by simp)]; simp
  simp only[go_sem,q,R,qf,B,O,ex,u,qg,Z,Q,w,Y,hlt,E,U,H,YH,A,YI];refine aD (m,((4294967296*r+x)/d)::S,(4294967296*r+x)%d) ⟨by simp only[a9O]; omega,fun y hy=>?_,a9P _ i,?_⟩ (by simp only; omega) ?_ (PH.aK a_ Sq)
  ·rw[a8J] at hy;rcases hy with rfl | hy
   ·exact J
   ·exact e y hy
  ·simp only[val];rw[l,← c,a9C,a8L,a8X];have:=bbL (4294967296*r+x) d;rw[a9B d] at this;omega
  ·(repeat' (first|exact c_|refine d_ ?_ ?_))<;>first|(simp only[go_sem,wrap_i64 (Om:-9223372036854775808≤(m:Int)-1) (Om:(m:Int)-1≤9223372036854775807)]<;>rfl)|rfl
 ·have:k=0:=Om;subst this;have q:¬ ((0:Nat):Int)-1≥0:=by decide
  rw[a9H] at c;have hS:S.length=a.length:=Om;have J:val S=val a/d:=by rw[← c,a9B,Nat.mul_add_div i,bbM K,baC]
  have X:r=val a%d:=by rw[← c,a9B,Nat.mul_add_mod,a9K K]
  have γ:a8A 0 0++S=S:=by simp
  have hl:=L.trim S e Om;have N:(aL S).take a.length=aL S:=a8S (by rw[cB]; omega);simp only[go_sem,q,EA,List.nil_append];refine rB (o:=o) (s:=1) (rs:=aL S) hl Sq (by simp only[go_sem,N,show a.length≤S.length by omega]) ?_;simp only[go_sem];refine aA (L.make r Om) Sq ?_;simp only[go_sem];refine bA (vs:=[aJ (aI (val S)),aJ (aI r)]) (.inr rfl) .nil Ev a_ ⟨?_,rfl⟩;rw[J,X];exact .refl _
theorem aOW {B m:Nat} (h:nl B=m+1):32*m<cM B∧cM B≤32*(m+1):=by
 refine⟨?_,(lY B (m+1)).2 Om⟩;rcases a8T (32*m) (cM B) with h1 | h1
 ·exact h1
 ·have:=(lY B m).1 h1;omega
theorem aOX {B:Nat} (h:B≠0):2 ^ (cM B-1)≤B:=by
 rcases a8T B (2 ^ (cM B-1)) with h1 | h1
 ·have c:=(lW B _).2 h1;have d:cM B≠0:=fun e=>h (jW.1 e);omega
 ·exact h1
theorem p9 {C:Ctx} (L:FF C) (A B:Nat) (hB:B≠0) (hA:nl A≤512) (Λ:nl B≤512) :
  AH.wp C (aV VN.res (bZ (pJ A B))) (PF.args [aJ (aI A),aJ (aI B)]) .nil:=by
 have N:=aX A;have LB:=aX B;have vA:=aW A;have vB:=aW B;have lA:(aI A).length=nl A:=rfl;have lB:(aI B).length=nl B:=rfl;simp only[go_sem,AH,qa,qb,VN];refine aA (L.cmp _ _ N LB Om Om) rfl ?_;rw[vA,vB];by_cases c1:A<B
 ·have hc:dQ A B<0:=by simp[dQ,c1]
  simp only[go_sem,hc,qc];refine aA (L.trim _ N Om) rfl ?_;rw[vA];simp only[go_sem];refine bA (vs:=[.aB,aJ (aI A)]) (.inr rfl) .nil rfl a_ ⟨?_,rfl⟩;rw[pJ,bbM c1,a9K c1,fO];exact CoL.tup (CoL.cons (.nil 1) (CoL.cons (.refl _) .nil))
 have hc:¬ dQ A B<0:=by unfold dQ;rw[if_neg c1];split<;>decide
 have ο:0<B:=baK hB;have b':nl B≠0:=fun h=>hB (iD.1 h);simp only[go_sem,hc,qd,a7W,lB];by_cases c2:nl B=1
 ·have O:B<4294967296:=by have:=(jB B 1).1 Om; simpa using this
  have φ:aI B=[B]:=oL hB O;have sh:=aqM (C:=C) L (aI A) B N ο O Om;rw[vA] at sh;simp only[aC.wp,go_sem] at sh;simp only[go_sem,bL (Om:((nl B:Nat):Int)=1)];exact sh _ rfl (by simp only[go_sem,φ])
 obtain⟨m,hm⟩:∃ m,nl B=m+1:=⟨nl B-1,by omega⟩;have a':1≤m:=Om;obtain⟨Ψ,Z⟩:=aOW hm;obtain⟨n,hn⟩:∃ n,n+cM B=32*(m+1):=⟨32*(m+1)-cM B,by omega⟩;have β:n<32:=Om;have E:0<2 ^ n:=baR (by decide);have S:B<2 ^ cM B:=(lW B _).1 (a8D _);have R:=aOX hB;have V:B*2 ^ n<4294967296 ^ (m+1):=by have:B*2 ^ n<2 ^ cM B*2 ^ n:=Nat.mul_lt_mul_of_pos_right S E;rw[← Nat.pow_add,show cM B+n=32*(m+1) by omega,Nat.pow_mul] at this;exact this
 have Δ:4294967296 ^ m*2147483648≤B*2 ^ n:=by have:2 ^ (cM B-1)*2 ^ n≤B*2 ^ n:=a9D _ R;rw[← Nat.pow_add,show cM B-1+n=32*m+31 by omega,Nat.pow_add,Nat.pow_mul] at this;exact this
 have nV:nl (B*2 ^ n)=m+1:=by
  have w:=(jB (B*2 ^ n) (m+1)).2 V;rcases a8T (nl (B*2 ^ n)) (m+1) with h | h
  ·have:=(jB (B*2 ^ n) m).1 Om;have ψ:0<4294967296 ^ m:=baR (by decide);omega
  ·omega
 have Φ:B*2 ^ n≠0:=Nat.mul_ne_zero hB Om;have d':nl (A*2 ^ n)≤nl A+1:=lJ (a8D _) (nT (by rw[Nat.pow_one]; exact Nat.pow_lt_pow_right (a:=2) (m:=n) (n:=32) (by decide) β));have τ:B*2 ^ n≤A*2 ^ n:=a9D _ Om;have e':m+1≤nl (A*2 ^ n):=by rw[← nV]; exact fT τ
 have Ξ:A*2 ^ n≠0:=Om;have θ:IntKind.i64.wrap (32*((nl B:Nat):Int))=((32*(m+1):Nat):Int):=by rw[wrap_i64 Om Om]; omega
 have en:IntKind.i64.wrap (((32*(m+1):Nat):Int)-((cM B:Nat):Int))=(n:Int):=by rw[wrap_i64 Om Om]; omega
 have bt:=L.bits (aI B) LB Om;rw[vB] at bt;have ua:=L.upM (aI A) n N Om Om (fun h=>by have:=fB N; rw[h] at this; omega);have ub:=(L.upM (aI B) n LB Om Om (fun h=>by have:=fB LB; rw[h] at this; omega)).freeze;rw[vA] at ua;rw[vB] at ub;have tail:∀ (o:Nat) (F:PF) (H:PH),F 0=some (aJ (aI A))→F 1=some (aJ (aI B))→F 10=some (.int .i64 n)→F 11=some (.osl o 1 0 (nl (A*2 ^ n)+2))→F 12=some (aJ (aI (B*2 ^ n)))→H o=some (.rows 1 (aL (aI (A*2 ^ n))++[[.int .u32 0],[.int .u32 0]])) →
   aC.wp C (.seq (.region EB) (.seq (.region EC) (.seq (.region ED) (.seq (.seq (.region EE) (.block 2 (.loop vG))) (.seq (.region EK) .ret))))) (aV [.tmp 4,.tmp 5] (bZ (pJ A B))) F H:=by
  intro o F H f0 f1 ι f11 κ hH;have LU:=aX (A*2 ^ n);have LV:=aX (B*2 ^ n);have vU:=aW (A*2 ^ n);have vV:=aW (B*2 ^ n);have lU:(aI (A*2 ^ n)).length=nl (A*2 ^ n):=rfl;have lV:(aI (B*2 ^ n)).length=m+1:=nV;have eu:IntKind.i64.wrap (((nl (A*2 ^ n):Nat):Int)+1)=((nl (A*2 ^ n)+1:Nat):Int):=cZ Om;have b1:((nl (A*2 ^ n)+1:Nat):Int)≤((nl (A*2 ^ n)+2:Nat):Int):=Om;simp only[go_sem,EB,f11,f0,ι];refine aA ua.freeze rfl ?_;obtain⟨c,Ω⟩:∃ c,nl (A*2 ^ n)+1-(m+1)=c:=⟨_,rfl⟩;have χ:nl (A*2 ^ n)+1=c+(m+1):=Om;have em:IntKind.i64.wrap (((m+1:Nat):Int)-1)=((m:Nat):Int):=by rw[wrap_i64 Om Om]; omega
  have l:m<(aI (B*2 ^ n)).length:=Om;have rm:=bU (aI (B*2 ^ n)) l;have tl:=LV _ (a7Z l);have htop:0<(aI (B*2 ^ n))[m]:=by
   have w:=cF (aI (B*2 ^ n)) l;rw[a8S Om,vV] at w;have h2:=fB (LV.take m);rw[a8Q,baI Om] at h2;have ψ:0<4294967296 ^ m:=baR (by decide);rcases baG (aI (B*2 ^ n))[m] with h | h
   ·rw[h] at w; omega
   ·exact h
  have η:2147483648≤(aI (B*2 ^ n))[m]:=by
   have w:=cF (aI (B*2 ^ n)) l;rw[a8S Om,vV] at w;have h2:=fB (LV.take m);rw[a8Q,baI Om] at h2;rcases a8T (aI (B*2 ^ n))[m] 2147483648 with h | h
   ·exfalso;have h3:4294967296 ^ m*((aI (B*2 ^ n))[m]+1)≤4294967296 ^ m*2147483648:=baJ _ h;rw[a8L,Nat.mul_one] at h3;omega
   ·exact h
  have q:=aCI (C:=C) L (A*2 ^ n) n o (nl (A*2 ^ n)+1) c;have hI:pA (A*2 ^ n) (val (aI (B*2 ^ n))) (m+1) (nl (A*2 ^ n)+1) c c (aI (A*2 ^ n)++[0]) (a8A c 0):=by
   refine⟨by rw[a8E,lU]; rfl,List.length_replicate,LU.app fun x M=>by simp at M; omega,vS _,?_,?_,fun i x _ M=>Vt M⟩
   ·rw[fZ,vU,sE]; simp[val]
   ·have Θ:(aI (A*2 ^ n)++[0]).length=nl (A*2 ^ n)+1:=by rw[a8E,lU]; rfl
    have Γ:val (aI (A*2 ^ n)++[0])=A*2 ^ n:=by rw[fZ,vU]; simp[val]
    rw[uQ (LU.app fun x M=>by simp at M; omega) Om,Γ,vV,bbB (baR (by decide))];have w:A*2 ^ n<4294967296 ^ nl (A*2 ^ n):=(jB _ _).1 (a8D _);have M:nl (A*2 ^ n)=m+c:=Om;rw[M,Nat.pow_add] at w;have h2:4294967296 ^ m*4294967296 ^ c≤(B*2 ^ n)*4294967296 ^ c:=a9D _ Om;omega
  have J:aL (aI (A*2 ^ n))++[[PV.int .u32 0],[PV.int .u32 0]]=eA (aI (A*2 ^ n)++[0]) (aL [0]):=by simp[eA,aL]
  rw[J] at hH;generalize ζ:(aI (B*2 ^ n))[m]=top at *
  have et:IntKind.u64.wrap ((top:Nat):Int)=((top:Nat):Int):=bE Om;have k2:IntKind.i64.wrap (((nl (A*2 ^ n)+1:Nat):Int)-((m+1:Nat):Int))=((c:Nat):Int):=by rw[wrap_i64 Om Om]; omega
  have k3:((c:Nat):Int)*((4:Nat):Int)≤140737488355328:=Om;have k4:((c:Nat):Int)≤9223372036854775807:=Om;have hz:a8A c [PV.int .u32 0]=aL (a8A c 0):=by simp[aL]
  have jq:IntKind.i64.wrap ((c:Int)-1)=(c:Int)-1:=wrap_i64 Om Om;simp only[go_sem,a7W,lU,eu,b1,EC,κ,lV,em,rm,et,ED,k2,k3,k4,hz];refine aR fun u ε=>?_;have γ:u≠o:=by rintro rfl; rw[hH] at ε; cases ε
  have e:¬ o=u:=fun h=>γ h.symm;have p:=q u m (aI (B*2 ^ n)) [0] γ LV lV (by rw[ζ]; exact htop) χ Om _ hI;rw[ζ] at p;simp only[go_sem] at p;simp only[go_sem,EE,jq];refine p _ _ _ ?_ ?_ ?_
  ·unfold duF;exact Lq
  ·refine PH.aK (PH.aK a_ ?_) ?_
   ·simp only[go_sem,e,hH]
   ·simp only[go_sem]
  clear p q;intro X Q F1 H1 d y U;have μ:F1 10=some (.int .i64 n):=y 10 _ (by unfold duF; simp only[go_sem]);have ν:F1 11=some (.osl o 1 0 (nl (A*2 ^ n)+1)):=y 11 _ (by unfold duF; simp only[go_sem]);have ξ:F1 14=some (.osl u 1 0 c):=y 14 _ (by unfold duF; simp only[go_sem]);have δ:H1 o=some (.rows 1 (eA X (aL [0]))):=U o _ (by simp only[go_sem,e]);have ω:H1 u=some (.rows 1 (aL Q)):=U u _ Sq;have hu:val X<val (aI (B*2 ^ n)):=by have:=d.r; rwa [a9H] at this
  have K:=d.v;rw[vV] at hu K;have σ:val Q=A/B:=by
   have:A*2 ^ n/(B*2 ^ n)=val Q:=by rw[← K,Nat.add_mul_div_right _ _ Om,bbM hu,a8U]
   rw[← this,Nat.mul_div_mul_right _ _ E]
  have υ:val X/2 ^ n=A%B:=by
   have:A*2 ^ n%(B*2 ^ n)=val X:=by rw[← K,Nat.add_mul_mod_self_right,a9K hu]
   rw[← this,Nat.mul_mod_mul_right,Nat.mul_div_cancel _ E]
  have lX:=d.lu';have lQ:=d.lq';have ρ:(aL Q).take c=aL Q:=a8S (by rw[cB]; omega);have Y:(eA X (aL [0])).take (nl (A*2 ^ n)+1)=aL X:=by rw[eA,List.take_append_of_le_length (by rw[cB]; omega),a8S (by rw[cB]; omega)]
  have W:nl (A*2 ^ n)+1≤(eA X (aL [0])).length:=by rw[eA,a8E,cB]; omega
  have α:(eA X (aL [0])).map (fun r=>r.map (PV.dE u 1 (aL Q)))=eA X (aL [0]):=by
   have:eA X (aL [0])=aL (X++[0]):=by simp[eA,aL]
   rw[this]; exact rW _ _ _ _
  have nX:=fM d.limU;have t1:=L.trim Q d.limQ Om;have t2:=L.trim X d.limU Om;have dn:=L.down (aI (val X)) n (aX _) (by rw[bB]; omega) Om;rw[aW,υ] at dn;rw[σ] at t1;generalize aL [0]=Z0 at δ Y W α;simp only[go_sem,EK,ξ];refine rB (o:=u) (s:=1) (rs:=aL Q) t1 ω (by simp only[go_sem,ρ,show c≤Q.length by omega]) ?_;simp only[go_sem,ν,e];refine rB (o:=o) (s:=1) (rs:=eA X Z0) t2 (by simp only[go_sem,e,δ,cG.frz,α]) (by simp only[go_sem,Y,W]) ?_;simp only[go_sem,μ];refine aA dn rfl ?_;simp only[go_sem];exact bA (vs:=[aJ (aI (A/B)),aJ (aI (A%B))]) (.inr rfl) .nil rfl a_ ⟨.refl _,rfl⟩
 simp only[aC.wp,go_sem] at tail;simp only[go_sem,bF (Om:¬ ((nl B:Nat):Int)=1),YJ,a7W,lB];refine aA bt rfl ?_;simp only[go_sem,θ,en,YK];refine kU ua rfl a_ fun r H1 hr _=>?_;have Z:(2:Nat)*1≤16777216:=by decide
 rcases hr with ⟨h0,_⟩ | ⟨o,rs,rfl,rfl,hrl,hrt⟩
 ·exfalso;have:=congrArg List.length h0;rw[cB,bB] at this;simp at this;omega
 rw[PH.pO];rw[cB,bB] at hrl hrt;simp only[go_sem,Z,cB,bB];refine Vp (src:=[[.int .u32 0],[.int .u32 0]]) (rs:=rs) rfl ?_ Sq hrl ?_ fun o' c'=>?_
 ·unfold roomFor;simp only[maxLen,a9O,baM]; omega
 ·rw[hrt];simp only[go_sem];refine aA ub rfl ?_;simp only[go_sem];exact tail o _ _ rfl rfl rfl rfl rfl Sq
 ·rw[hrt];simp only[go_sem];refine aA ub rfl ?_;simp only[go_sem];exact tail o' _ _ rfl rfl rfl rfl rfl Sq
def aM (C:Ctx) (k:Nat) (c:aS):Prop:=∀ (args:List PV) (H:PH) (R:PV→PH→Prop),args.length≤c.ntmps→c.body.wp C (aV c.res R) (PF.args args) H→aH C k args H R
theorem aM.go {C:Ctx} {k:Nat} {c:aS} (r:aM C k c) {args:List PV} {H:PH} {R:PV→PH→Prop} (h:c.body.wp C (aV c.res R) (PF.args args) H) (d:Nat.ble args.length c.ntmps=true):aH C k args H R:=r args H R (Nat.le_of_ble_eq_true d) h
structure fW (C:Ctx):Prop where
 r0:aM C 0 kk
 r1:aM C 1 Hz
 r2:aM C 2 amF
 r4:aM C 4 lz
 r5:aM C 5 amT
 r7:aM C 7 ly
 r20:aM C 20 aWG
 r23:aM C 23 aWM
 r27:aM C 27 kg
 r28:aM C 28 amS
 r29:aM C 29 H7
 r30:aM C 30 aqJ
 r31:aM C 31 Ib
 r32:aM C 32 aqK
 r33:aM C 33 udiv
 r34:aM C 34 aqO
 r35:aM C 35 Id
 r36:aM C 36 aqQ
 r37:aM C 37 aqT
 r38:aM C 38 If
 r39:aM C 39 VN
 r40:aM C 40 Ic
 r41:aM C 41 qh
 r42:aM C 42 qi
 r43:aM C 43 Ie
 r44:aM C 44 qq
 r45:aM C 45 uup
 r47:aM C 47 aqY
 r50:aM C 50 ri
 r58:aM C 58 VR
 r59:aM C 59 Iq
 r95:aM C 95 alD
 r96:aM C 96 alJ
 r97:aM C 97 jz
 r98:aM C 98 Hr
 r99:aM C 99 Ht
 r100:aM C 100 Hu
 r101:aM C 101 gone
 r102:aM C 102 Hv
 r103:aM C 103 j2
 r104:aM C 104 gin
 r105:aM C 105 alE
 r106:aM C 106 alF
 r107:aM C 107 Hw
 r108:aM C 108 Hx
 r109:aM C 109 j5
 r110:aM C 110 Hy
 r111:aM C 111 Mu
 r112:aM C 112 alG
 r113:aM C 113 ZT
 r114:aM C 114 akR
 r115:aM C 115 jm
 r116:aM C 116 FP
 r117:aM C 117 ve
 r118:aM C 118 jy
 r119:aM C 119 akQ
 r120:aM C 120 rV
 r121:aM C 121 jx
 r122:aM C 122 Hq
 r123:aM C 123 kd
 r124:aM C 124 QH
 r125:aM C 125 QJ
 r126:aM C 126 FT
 r127:aM C 127 amX
 r128:aM C 128 H8
 r129:aM C 129 amZ
 r130:aM C 130 anB
 r131:aM C 131 anG
 r132:aM C 132 H9
 r133:aM C 133 anM
 r134:aM C 134 anO
 r135:aM C 135 Ia
 r136:aM C 136 VC
 r137:aM C 137 mh
 r138:aM C 138 yM
 r139:aM C 139 JX
 r140:aM C 140 mz
 r141:aM C 141 m6
 r142:aM C 142 BP
 r143:aM C 143 nup
 r147:aM C 147 tat
 r148:aM C 148 aXV
 r149:aM C 149 aUB
 r150:aM C 150 aXW
 r151:aM C 151 aXP
 r152:aM C 152 a0Z
 r153:aM C 153 aUA
 r154:aM C 154 a1A
 r155:aM C 155 aXQ
 r156:aM C 156 a0Y
 r157:aM C 157 aXX
 r158:aM C 158 a1B
 r159:aM C 159 aYA
 r160:aM C 160 aXY
 r161:aM C 161 aXZ
theorem kR {C:Ctx} (c:fW C):pU C :=
 have len:∀ xs,Lim xs→xs.length≤35184372087808→aH C 138 [aJ xs] .nil (aF (.int .i64 (nl (val xs):Nat))):=fun xs h l=>c.r138.go (mi xs h l) rfl
 {length:=len
  large:=fun xs h l=>c.r137.go (Ca xs (len xs h l)) rfl
  sized:=fun xs h l=>(c.r141.go (Cr xs h (len xs h l)) rfl).seen
  trim:=fun xs h l=>(c.r135.go (Rf xs h l (len xs h l)) rfl).seen
  make:=fun v h=>c.r132.go (Qv v h len) rfl
  cmp:=fun xs ys d e i p=>c.r129.go (acN xs ys d e i p (len xs d i) (len ys e p)) rfl }
theorem amW {C:Ctx} (c:fW C):ga C :=
 {subtract:=fun A W Z v f o hW l i e p d=>c.r142.go (RI A W Z v f hW l i e p d o) rfl
  restore:=fun A W Z v o hW l i e=>c.r139.go (XH A W Z v hW l i e o) rfl }
theorem cj {C:Ctx} (c:fW C):ZJ C :=
 {L:=kR c
  D:=amW c
  up:=fun a s i u e=>c.r143.go (avF a s i u e) rfl
  short:=fun a d i l p e=>c.r140.go (Cf (kR c) a d i l p e) rfl
  lengthO:=fun xs o w q=>c.r138.go (WY xs w q o) rfl }
theorem zS {C:Ctx} (c:fW C) (A B:Nat) (hB:B≠0) (e:nl A≤900) (d:nl B≤900):aH C 136 [aJ (aI A),aJ (aI B)] .nil (aF (pJ A B)) :=
 (c.r136.go (l4 (cj c) A B hB e d) rfl).seen
theorem lI {C:Ctx} (c:fW C):qW C :=
 {kR c with
  bits:=fun xs h l=>c.r128.go (Qa xs h l ((kR c).length xs h l)) rfl
  add:=fun xs ys d e i p=>(c.r127.go (acG (kR c) xs ys d e i p) rfl).seen
  sub:=fun xs ys d e i p=>(c.r134.go (adT (kR c) xs ys d e i p) rfl).seen
  mul:=fun xs ys d e i p=>(c.r133.go (adO (kR c) xs ys d e i p) rfl).seen
  gcd:=fun xs ys d e i p=>(c.r131.go (adG (kR c) (zS c) xs ys d e i p) rfl).seen
  div:=fun xs ys d e i p=>(c.r130.go (acY (kR c) (zS c) xs ys d e i p) rfl).seen }
theorem qC {C:Ctx} (c:fW C):AR C :=
 {lI c with
  times:=fun a b d i e l p q=>c.r121.go (Ad (lI c) a b d i e l p q) rfl
  zero:=fun neg a b d e=>c.r122.go (Lu (lI c) neg a b d e) rfl
  valid:=fun neg a b d i e l=>c.r118.go (Ah (lI c) neg a b d i e l) rfl
  abs:=fun v w x=>c.r119.go (Y1 (lI c) v w x) rfl
  lowest:=fun neg a b d i e l p q u=>(c.r120.go (jg (lI c) neg a b d i e l p q u) rfl).seen }
theorem PU {C:Ctx} (c:fW C) (x y:RF) (d:x.Ok) (e:y.Ok):aH C 113 [.agg x.cells,.agg y.cells] .nil (aF (frV (gJ x.v y.v))) :=
 (c.r113.go (Y6 (qC c) x.neg y.neg x.num x.den y.num y.den d.1 d.2.1 e.1 e.2.1 d.2.2.1 d.2.2.2 e.2.2.1 e.2.2.2) rfl).seen
theorem HU {C:Ctx} (c:fW C):fv C :=
 {qC c with
  frac:=fun n d u p=>(c.r115.go (Ll (qC c) n d u.1 u.2 p.1 p.2) rfl).seen
  red:=fun x e=>by rw[← n6];exact (c.r116.go (jp (qC c) x.neg x.num x.den e.1 e.2.1 e.2.2.1 e.2.2.2) rfl).seen
  ord:=fun x y e i=>(c.r114.go (Zg (qC c) x.neg y.neg x.num x.den y.num y.den e.1 e.2.1 i.1 i.2.1 e.2.2.1 e.2.2.2 i.2.2.1 i.2.2.2) rfl).seen
  plus:=PU c
  tot:=fun l q=>(c.r117.go (Zm (qC c) (PU c) l q.all q.fits) rfl).seen }
theorem qB {C:Ctx} (c:fW C):rD C :=
 have inn:∀ n lo hi:Int,aH C 104 [.int .i64 n,.int .i64 lo,.int .i64 hi] .nil (aF (.bool (within n lo hi))):=fun n lo hi=>(c.r104.go (atH n lo hi) rfl).seen;have lK:∀ x:RF,x.Ok→aH C 97 [.agg x.cells] .nil (aF (.bool (bG x))):=fun x i=>(c.r97.go (Ak (lI c) x i) rfl).seen;have lim:∀ x:RF,x.Ok→aH C 105 [.agg x.cells] .nil (aF (.bool (cS x))):=fun x i=>(c.r105.go (aaD (HU c) x i) rfl).seen;have d:∀ n:Nat,aH C 126 [.int .u8 n] .nil (aF (.bool (eO n))):=fun n=>c.r126.go (kc n) rfl;have e:∀ n:Nat,aH C 124 [.int .u8 n] .nil (aF (.bool (kK n))):=fun n=>c.r124.go (A3 n) rfl
 {HU c with
  inn:=inn
  lK:=lK
  lim:=lim
  one:=fun x i=>(c.r101.go (aaK (HU c) x i) rfl).seen
  allf:=fun p fn l q h=>(c.r99.go (Mb p fn l q h) rfl).seen
  alli:=fun p fn l q h=>(c.r100.go (Ml p fn l q h) rfl).seen
  allb:=fun p fn l q h=>(c.r98.go (Lz p fn l q h) rfl).seen
  ends1:=fun b=>(c.r103.go (An b) rfl).seen
  num1:=fun n=>(c.r107.go (M7 inn n) rfl).seen
  rate1:=fun x i=>(c.r109.go (Au lim lK x i) rfl).seen
  name:=fun s=>c.r123.go (Oq d (fun n=>c.r125.go (A5 d e n) rfl) s) rfl }
theorem PR {C:Ctx} (c:fW C):ft C :=
 {qB c with
  num:=fun p d=>(c.r106.go (aaG (qB c) p d) rfl).seen
  rate:=fun p d=>(c.r108.go (Nf (qB c) p d) rfl).seen
  uniq:=fun l e=>(c.r110.go (Nm (qB c) l e) rfl).seen }
theorem PS {C:Ctx} (c:fW C):NW C :=
 {PR c with
  ends:=fun l e d=>(c.r102.go (My (qB c) l e d) rfl).seen }
theorem Lh {C:Ctx} (c:fW C):jV C :=
 {PS c with
  law:=fun l e=>(c.r95.go (Z4 (PS c) l e) rfl).seen
  pol:=fun p n q i=>(c.r112.go (aaO (PR c) p q n i) rfl).seen
  a6U:=fun f d=>(c.r111.go (Zw (qB c) f d) rfl).seen }
theorem vd {C:Ctx} (c:fW C) (f:aE) (d:f.Ok):aH C 96 [.agg f.cells] .nil (aF (.int .i64 (wK f))):=(c.r96.go (aaX (Lh c) f d) rfl).seen
theorem jT {C:Ctx} (c:fW C):oT C:={ trimM:=fun xs h l=>c.r38.go (Un xs h l) rfl }
theorem RY {C:Ctx} (c:fW C):gd C :=
 {jT c with
  make:=fun v h=>(c.r35.go (Ub (jT c) v h) rfl).seen
  large:=fun xs h l=>(c.r41.go (Em (jT c) xs h l) rfl).seen
  cmp:=fun xs ys d e i p=>c.r32.go (afO (jT c) xs ys d e i p) rfl }
theorem SA {C:Ctx} (c:fW C):gf C :=
 {RY c with
  minus:=fun a b e i l q d=>(c.r42.go (Ep (jT c) a b e i l q d) rfl).seen
  times:=fun a b e i d p=>(c.r44.go (E6 (jT c) a b e i d p) rfl).seen }
theorem AA {C:Ctx} (c:fW C):OB C :=
 {SA c with
  plus:=fun a b i l d e=>(c.r43.go (Ug (jT c) a b i l d e) rfl).seen }
theorem Rw {C:Ctx} (c:fW C):FF C :=
 {AA c with
  bits:=fun xs h l=>c.r31.go (Tj (jT c) xs h l) rfl
  upM:=fun a n e d i p=>c.r45.go (aCO (jT c) a n e d i p) rfl
  down:=fun a n e d i=>(c.r40.go (T1 (jT c) a n e d i) rfl).seen }
theorem zZ {C:Ctx} (c:fW C):NZ C :=
 {RY c with
  divide:=fun A B hB e d=>(c.r39.go (p9 (Rw c) A B hB e d) rfl).seen }
theorem RZ {C:Ctx} (c:fW C):ge C :=
 {zZ c with
  gcd:=fun a b d e i l=>(c.r34.go (agH (zZ c) a b d e i l) rfl).seen
  div:=fun a b d e i l=>(c.r33.go (afZ (zZ c) a b d e i l) rfl).seen }
theorem nc {C:Ctx} (c:fW C):Hk C :=
 {RZ c with
  lowest:=fun neg a b i l p q u w e=>(c.r58.go (qy (RZ c) neg a b i l p q u w e) rfl).seen
  size:=fun v d=>c.r59.go (Vj v d.1 d.2) rfl }
theorem tG {C:Ctx} (c:fW C):OA C :=
 {nc c with
  fmk:=fun n d i e=>(c.r50.go (U7 (nc c) n d i e) rfl).seen }
abbrev oQ (C:Ctx):Prop:=∀ n:Nat,n<100→aH C 195 [.int .i64 n] .nil (aF (.str (cA n)))
theorem JJ {C:Ctx} (c:fW C) (hi:oQ C):AV C :=
 {tG c with
  int:=fun n d=>(c.r47.go (VQ (tG c) n d) rfl).seen
  itoa:=hi
  next:=fun l v T o n a d e=>c.r4.go (Py T o n a d e) rfl }
theorem QQ {C:Ctx} (c:fW C) (hi:oQ C):fy C :=
 {JJ c hi with
  frac:=fun l v T o a d=>c.r1.go (Pa (JJ c hi) T o a d) rfl }
theorem QR {C:Ctx} (c:fW C) (hi:oQ C):qV C :=
 {QQ c hi with
  rep:=fun l v T o a m e d=>c.r5.go (abX (QQ c hi) T o a m e d) rfl
  name:=fun s n p i=>c.r29.go (Pv (JJ c hi) s n p i) rfl }
theorem QS {C:Ctx} (c:fW C) (hi:oQ C):mB C :=
 {QR c hi with
  law:=fun l v T o dZ a i d e=>c.r2.go (abL (QR c hi) T o dZ a i d e) rfl }
theorem kA {f:aE} (h:VF f) {i:Nat} (hi:i<f.a6O.length):0≤lvl f i∧lvl f i≤4:=by
 rcases baG i with e | e
 ·rw[e,h.root.2.1]; omega
 ·have:=h.dom i e hi; omega


theorem abK (a b:Nat):mkT (a:Int) (b:Int)=⟨false,aI (a/a7Y a b),aI (b/a7Y a b)⟩:=by
 have c:decide ((a:Int)<0)=false:=decide_eq_false Om;have d:decide ((b:Int)<0)=false:=decide_eq_false Om;unfold mkT mP FV.rf;rw[c,d,Int.natAbs_natCast,Int.natAbs_natCast];rfl
structure SmF (x:RF) (p q:Nat):Prop where
 eq:x=⟨false,aI (p/a7Y p q),aI (q/a7Y p q)⟩
 a:p≤64
 b:q≤64
 pos:0<q
theorem SmF.mk' {a b:Nat} (c:a≤64) (d:b≤64) (h:0<b):SmF (mkT (a:Int) (b:Int)) a b:=⟨abK a b,c,d,h⟩
theorem SmF.num {x:RF} {a b:Nat} (h:SmF x a b):val x.num=a/a7Y a b:=by rw[h.eq,aW]
theorem SmF.den {x:RF} {a b:Nat} (h:SmF x a b):val x.den=b/a7Y a b:=by rw[h.eq,aW]
theorem SmF.v {x:RF} {a b:Nat} (h:SmF x a b):x.v=(false,a/a7Y a b,b/a7Y a b):=by
 unfold RF.v;rw[h.num,h.den,h.eq]
theorem SmF.Rj {x:RF} {a b:Nat} (_:SmF x a b):a/a7Y a b≤a:=baV ..
theorem SmF.Kg {x:RF} {a b:Nat} (_:SmF x a b):b/a7Y a b≤b:=baV ..
theorem SmF.den_pos {x:RF} {a b:Nat} (h:SmF x a b):0<b/a7Y a b:=Nat.div_pos (Nat.le_of_dvd h.pos (Nat.gcd_dvd_right a b)) (Nat.gcd_pos_of_pos_right a h.pos)
theorem xZ {n:Nat} (h:n≤4096):cM n≤32:=(lW n 32).2 Om
theorem V7 {n:Nat} (h:0<n):0<cM n:=by
 rcases baG (cM n) with e | e
 ·rw[jW] at e; omega
 ·exact e
theorem tO {a b:Nat} (d:a≤4096) (e:b≤4096) (h:0<b):cU a b=true:=by
 have i:=xZ d;have l:=xZ e;have c:=V7 h;unfold cU;rw[decide_eq_true c,decide_eq_true (Om:cM b≤4096),decide_eq_true (Om:cM a≤4096)];rfl
theorem abH {n:Bool} {a b:Nat} (c:a≤4096) (d:b≤4096):iH n a b=.ok (n&&decide (a/a7Y a b≠0),a/a7Y a b,b/a7Y a b):=by
 have e:=xZ (a9J (baV a (a7Y a b)) c);have i:=xZ (a9J (baV b (a7Y a b)) d);unfold iH;rw[if_neg Om]
theorem SmF.lim {x:RF} {a b:Nat} (h:SmF x a b):cS x=true:=by
 have l:=h.Rj;have p:=h.Kg;have c:=h.den_pos;have:=h.a;have:=h.b;have d:x.neg=false:=by rw[h.eq]
 unfold cS oR;rw[h.num,h.den,d,tO Om Om c,if_pos rfl,abH Om Om];have e:=baV (a/a7Y a b) (a7Y (a/a7Y a b) (b/a7Y a b));have i:=baV (b/a7Y a b) (a7Y (a/a7Y a b) (b/a7Y a b));simp only[a8F,a8N,a8H,a8O,decide_eq_true_eq];exact⟨xZ Om,xZ Om⟩
theorem SmF.lK {x:RF} {a b:Nat} (h:SmF x a b) (c:0<a):bG x=true:=by
 unfold bG;rw[h.num];exact decide_eq_true (Nat.ne_of_gt (Nat.div_pos (Nat.le_of_dvd c (Nat.gcd_dvd_left a b)) (Nat.gcd_pos_of_pos_right a h.pos)))
theorem SmF.zero {x:RF} {b:Nat} (h:SmF x 0 b):bG x=false:=by
 unfold bG;rw[h.num,Nat.zero_div];rfl
theorem SmF.one {x:RF} {a b:Nat} (h:SmF x a b) (c:a≤b):wH x=true:=by
 have i:=h.Rj;have l:=h.Kg;have d:=h.den_pos;have:=h.a;have:=h.b;have e:x.neg=false:=by rw[h.eq]
 unfold wH;rw[h.num,h.den,e,tO Om Om d];have:a/a7Y a b≤b/a7Y a b:=Nat.div_le_div_right c;show (true&&decide (dQ (a/a7Y a b*1) (1*(b/a7Y a b))≤0))=true;rw[Nat.mul_one,Nat.one_mul,a8H];refine decide_eq_true ?_;unfold dQ;split
 ·decide
 ·split
  ·omega
  ·decide
theorem SmF.ok {x:RF} {a b:Nat} (h:SmF x a b):x.Ok:=by
 have c:=h.Rj;have d:=h.Kg;have:=h.a;have:=h.b;have k1:nl (a/a7Y a b)≤1:=(jB _ _).2 Om;have k2:nl (b/a7Y a b)≤1:=(jB _ _).2 Om;rw[h.eq];refine⟨aX _,aX _,?_,?_⟩
 ·show (aI _).length≤_;rw[bB]; omega
 ·show (aI _).length≤_;rw[bB]; omega
theorem aPP:∀ c:Fin 9,∀ k:Fin 9,c.val+k.val≤8 →
  (c.val/a7Y c.val 8*(8/a7Y k.val 8)+k.val/a7Y k.val 8*(8/a7Y c.val 8))/a7Y (c.val/a7Y c.val 8*(8/a7Y k.val 8)+k.val/a7Y k.val 8*(8/a7Y c.val 8)) (8/a7Y c.val 8*(8/a7Y k.val 8))=(c.val+k.val)/a7Y (c.val+k.val) 8 ∧
  8/a7Y c.val 8*(8/a7Y k.val 8)/a7Y (c.val/a7Y c.val 8*(8/a7Y k.val 8)+k.val/a7Y k.val 8*(8/a7Y c.val 8)) (8/a7Y c.val 8*(8/a7Y k.val 8))=8/a7Y (c.val+k.val) 8:=by decide +kernel
abbrev eV (c:Nat):FV:=(false,c/a7Y c 8,8/a7Y c 8)
theorem WB (c:Nat):0<8/a7Y c 8:=Nat.div_pos (Nat.le_of_dvd (by decide) (Nat.gcd_dvd_right c 8)) (Nat.gcd_pos_of_pos_right c (by decide))
theorem I5 {c k:Nat} (h:c+k≤8):gJ (eV c) (eV k)=.ok (eV (c+k)):=by
 obtain⟨d,e⟩:=aPP ⟨c,by omega⟩ ⟨k,by omega⟩ h;simp only at d e;have a1:=baV c (a7Y c 8);have a2:=baV k (a7Y k 8);have a3:=baV 8 (a7Y c 8);have a4:=baV 8 (a7Y k 8);have i:=WB c;have l:=WB k;simp only[gJ];rw[tO Om Om i,tO Om Om l,bbA,if_pos rfl,if_pos trivial];have b1:c/a7Y c 8*(8/a7Y k 8)≤8*8:=bbF Om a4;have b2:k/a7Y k 8*(8/a7Y c 8)≤8*8:=bbF Om a3;have p:8/a7Y c 8*(8/a7Y k 8)≤8*8:=bbF a3 a4;rw[abH Om Om,d,e];rfl
theorem TF:∀ (l:List Nat) (c:Nat),c+l.sum≤8→(l.map eV).foldlM gJ (eV c)=.ok (eV (c+l.sum))
 | [],c,_=>rfl
 | k::l,c,h=>by rw[List.sum_cons] at h;rw[a9L,List.foldlM_cons,I5 Om,List.sum_cons,← baH];exact TF l (c+k) Om
theorem aPO:eV 0=(false,0,1):=by decide +kernel
theorem aFN:eV 8=(false,1,1):=by decide +kernel
theorem aTZ (l:List Nat) (h:l.sum=8):(match nH (l.map eV) with
  | .ok (n,a,b)=>decide (pM n a b false 1 1=0)
  | .error _=>false)=true:=by
 unfold nH;rw[← aPO,TF l 0 Om,a8U,h,aFN];rfl
def dig (k:Nat):List UInt8:=if k<10 then [UInt8.ofNat (48+k)] else [UInt8.ofNat (48+k/10),UInt8.ofNat (48+k%10)]
def VP:List UInt8→Nat
 | [a]=>a.toNat-48
 | [a,b]=>(a.toNat-48)*10+(b.toNat-48)
 | _=>0
theorem QG {k:Nat} (h:k<100):cA k=dig k:=by
 unfold cA dig;by_cases c:k<10
 ·rw[if_pos c]; exact Lib.decDigits_one c
 ·rw[if_neg c]; exact Lib.decDigits_two c h
theorem Ki:∀ k:Fin 100,VP (dig k.val)=k.val∧(dig k.val).length≤2∧((dig k.val).all fun c=>fL c.toNat)=true:=by decide +kernel
theorem wh {p:List UInt8} {c:UInt8} {t:List UInt8} (e:p=c::t) (i:eO c.toNat=true) (u:(t.all fun c=>fL c.toNat)=true) (w:p.length≤8) {k:Nat} (l:k<100):isName (p++cA k)=true:=by
 obtain⟨-,q,d⟩:=Ki ⟨k,l⟩;simp only at q d;subst e;rw[QG l];show (decide ((c::t++dig k).length≤16)&&eO c.toNat&&(c::t++dig k).all fun c=>fL c.toNat)=true;have hi:fL c.toNat=true:=by unfold fL; rw[i]; rfl
 rw[decide_eq_true (by rw[a8E]; omega),i,List.all_append,d,List.all_cons,u,hi];rfl
theorem WA {l:List (List UInt8)} (c:∀ x∈l,isName x=true) (d:l.Nodup):distinct l=true:=by
 unfold distinct;rw[a8M];intro i hi;rw[a9A] at hi;have e:l.getD i []=l[i]:=by simp[a8P,hi]
 rw[e,c _ (a7Z hi),a8H];have:¬ l[i]∈l.take i:=by intro q;obtain⟨j,p,e⟩:=a9I q;rw[a8Q] at p;rw[List.getElem_take] at e;have:=(List.nodup_iff_pairwise_ne.1 d);rw[List.pairwise_iff_getElem] at this;exact this j i Om hi Om e
 simp[this]
theorem RE {l:List (List UInt8)} {g:List UInt8→Nat} (h:∀ i (hi:i<l.length),g l[i]=i):l.Nodup:=by
 rw[List.nodup_iff_pairwise_ne,List.pairwise_iff_getElem];intro i j hi d hlt e;have c:=h i hi;have p:=h j d;rw[e] at c;omega
theorem sN {l:List (List UInt8)} {p:List UInt8} {c:UInt8} {t:List UInt8} (e:p=c::t) (d:eO c.toNat=true) (u:(t.all fun c=>fL c.toNat)=true) (q:p.length≤8) (y:l.length≤100) (h:∀ i (hi:i<l.length),l[i]=p++cA i):distinct l=true:=by
 refine WA ?_ (RE (g:=fun s=>VP (s.drop p.length)) ?_)
 ·intro x w;obtain⟨i,hi,rfl⟩:=a9I w;rw[h i hi];exact wh e d u q Om
 ·intro i hi;rw[h i hi];simp only[List.drop_left];rw[QG Om];exact (Ki ⟨i,by omega⟩).1
structure sH (x:RF):Prop where
 lim:cS x=true
 ok:x.Ok
theorem SmF.o {x:RF} {a b:Nat} (h:SmF x a b):sH x:=⟨h.lim,h.ok⟩
theorem pT:SmF jP 0 1:=SmF.mk' (a:=0) (b:=1) (by decide) (by decide) (by decide)
theorem rM (l:List Nat) (a:Nat):sH (fH l a).1∧bG (fH l a).1=true:=by
 have c:=cJ l (show 0<6 by decide) a;have d:=cJ l (show 0<8 by decide) (aG l 6 a).2;have:=SmF.mk' (a:=1+(aG l 6 a).1) (b:=1+(aG l 8 (aG l 6 a).2).1) Om Om Om;exact⟨this.o,this.lK Om⟩
theorem aEO (l:List Nat) (i j a:Nat):sH (jA l i j a).1∧(j=i→bG (jA l i j a).1=false)∧(j=i+1→bG (jA l i j a).1=true):=by
 unfold jA;by_cases c:j=i+1
 ·rw[if_pos c];exact⟨(rM l a).1,fun h=>by omega,fun _=>(rM l a).2⟩
 ·rw[if_neg c];by_cases d:j=i
  ·rw[if_pos d];exact⟨pT.o,fun _=>pT.zero,fun h=>absurd h c⟩
  ·rw[if_neg d];simp only;split
   ·exact⟨(rM l _).1,fun h=>absurd h d,fun h=>absurd h c⟩
   ·exact⟨pT.o,fun h=>absurd h d,fun h=>absurd h c⟩
theorem afC (l:List Nat) (i a:Nat):∀ n,(dU l i a n).1.length=n∧∀ j (c:j<(dU l i a n).1.length),sH (dU l i a n).1[j]∧(j=i→bG (dU l i a n).1[j]=false)∧(j=i+1→bG (dU l i a n).1[j]=true)
 | 0=>⟨rfl,fun j c=>absurd c (by simp[dU])⟩
 | n+1=>by
  obtain⟨d,p⟩:=afC l i a n;have e:(dU l i a (n+1)).1=(dU l i a n).1++[(jA l i n (dU l i a n).2).1]:=rfl;rw[e];refine⟨by simp[d],fun j c=>?_⟩;by_cases hlt:j<(dU l i a n).1.length
  ·rw[List.getElem_append_left hlt]; exact p j hlt
  ·rw[a8E,a8I] at c;have:j=n:=Om;subst this;rw[bbU Om];simp only[List.getElem_singleton];exact aEO l i j _
theorem aeU (l:List Nat) (a:Nat):∀ n,(kC l a n).1.length=n∧∀ x∈(kC l a n).1,sH x∧bG x=true
 | 0=>⟨rfl,fun x c=>by cases c⟩
 | n+1=>by
  obtain⟨d,i⟩:=aeU l a n;have e:(kC l a (n+1)).1=(kC l a n).1++[(fH l (kC l a n).2).1]:=rfl;rw[e];refine⟨by simp[d],fun x c=>?_⟩;rw[a9S,baN] at c;rcases c with c | rfl
  ·exact i x c
  ·exact rM l _
theorem aFZ (l:List Nat) (n i a:Nat):sH (eY l n i a).1∧(i+1=n→bG (eY l n i a).1=true):=by
 unfold eY;by_cases h:i+1<n
 ·simp only[if_pos h];refine⟨?_,fun c=>by omega⟩;split
  ·exact pT.o
  ·exact (rM l a).1
 ·simp only[if_neg h];exact⟨(rM l a).1,fun _=>(rM l a).2⟩
def aVF (n:Nat) (a6Q:List (List RF)):Prop:=∀ i (hi:i<a6Q.length),a6Q[i].length=n∧∀ j (c:j<a6Q[i].length),sH a6Q[i][j]∧(j=i→bG a6Q[i][j]=false)∧(j=i+1→bG a6Q[i][j]=true)
def aVD (n:Nat) (exit:List RF):Prop:=∀ i (hi:i<exit.length),sH exit[i]∧(i+1=n→bG exit[i]=true)
structure a3C (n i:Nat) (s:CH) (cs:List Nat):Prop where
 start:s.start=cs.map fun c=>mkT ((c:Nat):Int) ((8:Nat):Int)
 lens:s.exit.length=i∧s.a6Q.length=i∧cs.length=i
 left:cs.sum+s.left=8∧(i=n→0<n→s.left=0)
 exit:aVD n s.exit
 a6Q:aVF n s.a6Q
theorem rQ {α:Type} {P:Nat→α→Prop} {xs:List α} {x:α} (h:∀ i (hi:i<xs.length),P i xs[i]) (c:P xs.length x):∀ i (hi:i<(xs++[x]).length),P i (xs++[x])[i]:=by
 intro i hi;by_cases hlt:i<xs.length
 ·rw[List.getElem_append_left hlt]; exact h i hlt
 ·rw[a8E,a8I] at hi;have:i=xs.length:=Om;subst this;rw[bbU Om];simpa using c
theorem A2 (l:List Nat) (n a:Nat):∀ i,i≤n→∃ cs,a3C n i (fS l n a i) cs
 | 0,_=>⟨[],rfl,⟨rfl,rfl,rfl⟩,⟨rfl,fun h c=>by omega⟩,fun i hi=>absurd hi (by simp[fS]),fun i hi=>absurd hi (by simp[fS])⟩
 | i+1,hi=>by
  obtain⟨cs,p,⟨c,d,q⟩,⟨h5,-⟩,u,h7⟩:=A2 l n a i Om;generalize y:fS l n a i=s at *
  have e:fS l n a (i+1)=⟨s.start++[mkT ((dT l n i s).1:Nat) 8],s.exit++[(eY l n i (dT l n i s).2).1],s.a6Q++[(dU l i (eY l n i (dT l n i s).2).2 n).1],s.left-(dT l n i s).1,(dU l i (eY l n i (dT l n i s).2).2 n).2⟩:=by simp only[fS,y]
  rw[e];have w:(dT l n i s).1≤s.left∧(i+1=n→(dT l n i s).1=s.left):=by
   unfold dT;split
   ·exact⟨by have:=cJ l (Om:0<s.left+1) s.a; omega,fun h=>by omega⟩
   ·exact⟨a8D _,fun _=>rfl⟩
  refine⟨cs++[(dT l n i s).1],?_,⟨by simp[c],by simp[d],by simp[q]⟩,⟨?_,fun h _=>?_⟩,?_,?_⟩
  ·simp only[p,a8W,a9L,baF]; rfl
  ·simp only[List.sum_append,List.sum_cons,List.sum_nil]; omega
  ·have:=w.2 h;simp only; omega
  ·refine rQ (P:=fun i x=>sH x∧(i+1=n→bG x=true)) u ?_;rw[c]; exact aFZ l n i _
  ·refine rQ (P:=fun i (r:List RF)=>r.length=n∧∀ j (A:j<r.length),sH r[j]∧(j=i→bG r[j]=false)∧(j=i+1→bG r[j]=true)) h7 ?_;rw[d]; exact afC l i _ n
theorem aFT {x:cE} {e r:RF} (c:x.exit=[e]) (d:x.a6Q=[[r]]) (i:bG e=true):oU x=true:=by
 unfold oU;rw[c];show ((cW x 2).all id)=true;simp only[cW,cV,kG,cK,c,d,a9O,baM,List.getD_cons_zero,a9L,baF,i];cases bG r<;>rfl
theorem SF {x:cE} {q u d e i l:RF} (w:x.exit=[q,u]) (y:x.a6Q=[[d,e],[i,l]]) (A:bG u=true) (B:bG e=true) (a b:Bool) :
  ∃ c,cV x [a,b] 2=[c,true]∧(b=true→c=true)∧(a=true→c=true):=by
 have E:kG x [a,b] 0=[((a||bG q)||bG d&&(a||bG q))||b,b]:=by unfold kG;rw[w,y];simp only[List.getD_cons_zero,a9L,bbS];generalize (a||bG q)=c;show cK [c,b] 0 [d,e] 2=_;have:cK [c,b] 0 [d,e] 1=[c||bG d&&c,b]:=rfl;show (let p:=cK [c,b] 0 [d,e] 1; p.set 0 (p.getD 0 false||([d,e].map bG).getD 1 false&&p.getD 1 false))=_;rw[this];show [(c||bG d&&c)||(bG e&&b),b]=_;rw[B,a8H]
 have F:∀ c,kG x [c,b] 1=[c,true]:=by intro c;unfold kG;rw[w,y];have:cK [c,true] 1 [i,l] 1=[c,true||bG i&&c]:=rfl;show cK [c,b||bG u] 1 [i,l] 2=_;rw[A,Bool.or_true];show (let p:=cK [c,true] 1 [i,l] 1; p.set 1 (p.getD 1 false||([i,l].map bG).getD 1 false&&p.getD 1 false))=_;rw[this,Bool.true_or];show [c,true||bG l&&true]=_;rw[Bool.true_or]
 refine⟨_,by rw[show cV x [a,b] 2=kG x (kG x [a,b] 0) 1 from rfl,E,F],?_,?_⟩
 ·rintro rfl; rw[Bool.or_true]
 ·rintro rfl; simp
theorem aFU {x:cE} {i A u d w y:RF} (c:x.exit=[i,A]) (l:x.a6Q=[[u,d],[w,y]]) (p:bG A=true) (q:bG d=true):oU x=true:=by
 unfold oU;rw[c];show ((cW x 3).all id)=true;have e:∀ r,cW x (r+1)=cV x (cW x r) 2:=fun r=>by rw[cW,c]; rfl
 have i:cW x 0=[false,false]:=by rw[cW,c]; rfl
 obtain⟨B,k1,-,-⟩:=SF c l p q false false;obtain⟨E,k2,K,-⟩:=SF c l p q B true;obtain⟨J,F,H,-⟩:=SF c l p q E true;rw[e,e,e,i,k1,k2,F,H rfl];rfl
theorem Ol {c:Nat}:∀ {cs:List Nat},c∈cs→c≤cs.sum
 | k::t,h=>by
  rw[List.sum_cons];rcases a8J.1 h with rfl | h
  ·omega
  ·have:=Ol h; omega
theorem UY {α:Type} {l:List α} (h:l.length=2):∃ a b,l=[a,b]:=by
 match l,h with
 | [a,b],_=>exact⟨a,b,rfl⟩
theorem aXO (cs:List Nat) (h:cs.sum=8):(match nH ((cs.map fun c=>mkT ((c:Nat):Int) ((8:Nat):Int)).map RF.v) with
  | .ok (n,a,b)=>decide (pM n a b false 1 1=0)
  | .error _=>false)=true:=by
 have i:∀ c∈cs,c≤8:=fun c d=>by have:=Ol d;omega
 have e:((cs.map fun c=>mkT ((c:Nat):Int) ((8:Nat):Int)).map RF.v)=cs.map eV:=by rw[List.map_map];refine bbR fun c d=>?_;have:=i c d;exact (SmF.mk' (a:=c) (b:=8) Om (by decide) (by decide)).v
 rw[e];exact aTZ cs h
theorem xY {α:Type} {p:α→Bool} {l:List α} (h:∀ i (hi:i<l.length),p l[i]=true):l.all p=true:=by
 rw[a8M];intro x c;obtain⟨i,hi,rfl⟩:=a9I c;exact h i hi
theorem alY (l:List Nat) (a:Nat) (J:List UInt8):jZ { (qS l 2 a).1 with name:=J }=true∧({ (qS l 2 a).1 with name:=J }:cE).Ok:=by
 obtain⟨n,hn⟩:∃ n,n=1+(aG l 2 a).1:=⟨_,rfl⟩;have V:n=1∨n=2:=by have:=cJ l (show 0<2 by decide) a; omega
 obtain⟨cs,N,⟨Y,Z,h4⟩,⟨h5,Q⟩,K,h7⟩:=A2 l n (aG l 2 a).2 n (a8D _);generalize hs:fS l n (aG l 2 a).2 n=s at *
 have e:({ (qS l 2 a).1 with name:=J }:cE)=⟨J,s.start,s.a6Q,s.exit⟩:=by simp only[qS,← hn,hs]
 rw[e];have H:cs.sum=8:=by have:=Q rfl Om; omega
 have U:∀ c∈cs,c≤8:=fun c R=>by have:=Ol R;omega
 have p:∀ x∈s.start,sH x:=by intro x d;rw[N] at d;obtain⟨c,R,rfl⟩:=a8Z.1 d;have:=U c R;exact (SmF.mk' (a:=c) (b:=8) Om (by decide) (by decide)).o
 have β:s.start.length=n:=by rw[N,a7W,h4]
 have u:oU ⟨J,s.start,s.a6Q,s.exit⟩=true:=by
  rcases V with rfl | rfl
  ·obtain⟨e,y⟩:=List.length_eq_one_iff.1 Y;obtain⟨η,q⟩:=List.length_eq_one_iff.1 Z;have W:=(h7 0 Om).1;obtain⟨r,F⟩:=List.length_eq_one_iff.1 W;have d:=(K 0 Om).2 rfl;simp only[q,List.getElem_cons_zero] at F;simp only[y,List.getElem_cons_zero] at d;exact aFT y (by rw[q,F]) d
  ·obtain⟨e0,e1,y⟩:=UY Y;obtain⟨r0,r1,q⟩:=UY Z;have B:=(h7 0 Om).1;have E:=(h7 1 Om).1;have d:=(K 1 Om).2 rfl;have X:=((h7 0 Om).2 1 Om).2.2 rfl;simp only[y,List.getElem_cons_succ,List.getElem_cons_zero] at d;simp only[q,List.getElem_cons_succ,List.getElem_cons_zero] at B E X;obtain⟨γ,δ,w⟩:=UY B;obtain⟨ε,ζ,O⟩:=UY E;simp only[w,List.getElem_cons_succ,List.getElem_cons_zero] at X;exact aFU y (by rw[q,w,O]) d X
 constructor
 ·unfold jZ;simp only[a8O];refine⟨⟨⟨⟨⟨⟨⟨?_,?_⟩,?_⟩,?_⟩,?_⟩,?_⟩,?_⟩,u⟩
  ·rw[within_iff]; omega
  ·exact decide_eq_true Om
  ·exact decide_eq_true Om
  ·exact a8M.2 fun x d=>(p x d).lim
  ·exact xY fun i hi=>(K i hi).1.lim
  ·rw[a8M];intro i hi;rw[a9A] at hi;obtain⟨k1,k2⟩:=h7 i hi;have eg:s.a6Q.getD i []=s.a6Q[i]:=by simp[a8P,hi]
   rw[eg,a8O,a8O];refine⟨⟨decide_eq_true Om,xY fun j S=>(k2 j S).1.lim⟩,?_⟩;have A:i<s.a6Q[i].length:=Om;rw[getD_at A,(k2 i A).2.1 rfl];rfl
  ·rw[N]; exact aXO cs H
 ·have M:∀ m:Nat,m≤2→m≤9223372036854775807:=fun m hm=>by omega
  have α:n≤2:=Om;refine⟨⟨?_,fun x d=>(p x d).ok⟩,⟨?_,fun x d=>?_⟩,?_,fun r q=>⟨?_,fun x d=>?_⟩⟩
  ·exact M s.start.length Om
  ·exact M s.exit.length Om
  ·obtain⟨i,hi,rfl⟩:=a9I d;exact (K i hi).1.ok
  ·exact M s.a6Q.length Om
  ·obtain⟨i,hi,rfl⟩:=a9I q;have:=(h7 i hi).1;exact M (s.a6Q[i]'hi).length Om
  ·obtain⟨i,hi,rfl⟩:=a9I q;obtain⟨j,S,rfl⟩:=a9I d;exact ((h7 i hi).2 j S).1.ok
theorem WH (l:List Nat) (a:Nat):∀ n,(hZ l a n).1.length=n∧∀ i (hi:i<(hZ l a n).1.length),(hZ l a n).1[i].name=[108,97,119]++cA i∧jZ (hZ l a n).1[i]=true∧(hZ l a n).1[i].Ok
 | 0=>⟨rfl,fun i hi=>absurd hi (by simp[hZ])⟩
 | n+1=>by obtain⟨c,d⟩:=WH l a n;have e:(hZ l a (n+1)).1=(hZ l a n).1++[{ (qS l 2 (hZ l a n).2).1 with name:=[108,97,119]++cA n }]:=rfl;rw[e];refine⟨by simp[c],rQ (P:=fun i (x:cE)=>x.name=[108,97,119]++cA i∧jZ x=true∧x.Ok) d ?_⟩;rw[c];exact⟨rfl,alY l _ _⟩
theorem NP (l:List Nat) (a6S:Nat) (d:0<a6S) (a:Nat):∀ n,(eI l a6S a n).1.length=n∧∀ i (hi:i<(eI l a6S a n).1.length),(eI l a6S a n).1[i].name=[109]++cA i∧∃ e p w:Nat,(eI l a6S a n).1[i].a7B=e∧1≤e∧e≤4∧(eI l a6S a n).1[i].port=p∧1≤p∧p≤8∧(eI l a6S a n).1[i].law=w∧w<a6S
 | 0=>⟨rfl,fun i hi=>absurd hi (by simp[eI])⟩
 | n+1=>by
  obtain⟨c,q⟩:=NP l a6S d a n;obtain⟨s,u⟩:∃ s,s=eI l a6S a n:=⟨_,rfl⟩;have e:(eI l a6S a (n+1)).1=(eI l a6S a n).1++[⟨[109]++cA n,(1+(aG l 4 s.2).1:Nat),(1+(aG l 8 (aG l 4 s.2).2).1:Nat),((aG l a6S (aG l 8 (aG l 4 s.2).2).2).1:Nat)⟩]:=by rw[u]; rfl
  rw[e];refine⟨by simp[c],rQ (P:=fun i (x:cT)=>x.name=[109]++cA i∧∃ e p w:Nat,x.a7B=e∧1≤e∧e≤4∧x.port=p∧1≤p∧p≤8∧x.law=w∧w<a6S) q ?_⟩;rw[c];have k1:=cJ l (show 0<4 by decide) s.2;have k2:=cJ l (show 0<8 by decide) (aG l 4 s.2).2;have y:=cJ l d (aG l 8 (aG l 4 s.2).2).2;exact⟨rfl,_,_,_,rfl,by omega,by omega,rfl,by omega,by omega,rfl,y⟩
theorem xN (l:List Nat) (a:Nat):∃ n:Nat,(gQ l a).1=n∧n≤3:=by
 have h:=cJ l (show 0<3 by decide) (aG l 3 a).2;unfold gQ;simp only;split
 ·exact⟨1+(aG l 3 (aG l 3 a).2).1,rfl,by omega⟩
 ·exact⟨0,rfl,by omega⟩
theorem eN {n lo hi:Int} (c:lo≤n) (d:n≤hi):within n lo hi=true:=within_iff.2 ⟨c,d⟩
theorem aWT {w:List UInt8} {k m q s1 s2 s3 s4 g h:Nat} {ms:List Int} {p:List RF} {mc:Nat} (A:1≤k) (B:k≤2) (R:m≤2) (F:k≤q) (H:q≤k+m) (J:s1≤3) (y:s2≤3) (K:s3≤3) (M:s4≤3) (O:g≤8) (Q:h≤4)
  (l:p.length=max m 1) (i:∀ x∈p,sH x∧bG x=true)
  (E:mc≤2) (c:∃ f:Nat,f<mc∧(ms=[(f:Int)]∨mc=2∧ms=[(f:Int),1-(f:Int)])) :
  jI mc ⟨w,(k:Nat),(m:Nat),(q:Nat),0,(s1:Nat),(s2:Nat),(s3:Nat),(s4:Nat),ms,p,mkT (g:Nat) ((8:Nat):Int),mkT (h:Nat) ((1:Nat):Int)⟩=true ∧
  (⟨w,(k:Nat),(m:Nat),(q:Nat),0,(s1:Nat),(s2:Nat),(s3:Nat),(s4:Nat),ms,p,mkT (g:Nat) ((8:Nat):Int),mkT (h:Nat) ((1:Nat):Int)⟩:bS).Ok:=by
 have G:=SmF.mk' (a:=g) (b:=8) Om (by decide) (by decide);have Z:=SmF.mk' (a:=h) (b:=1) Om (by decide) (by decide);obtain⟨f,N,c⟩:=c;constructor
 ·unfold jI JZ BS;simp only[a8O,List.all_cons,List.all_nil,baD];refine⟨⟨⟨⟨⟨⟨⟨⟨eN Om Om,eN Om Om⟩,decide_eq_true Om⟩,eN Om Om⟩,rfl⟩,eN Om Om,eN Om Om,eN Om Om,eN Om Om,eN Om Om⟩,?_⟩,⟨⟨⟨⟨decide_eq_true (by rw[l]; omega),?_⟩,G.lim⟩,G.one Om⟩,Z.lim⟩⟩,?_⟩
  ·rcases c with e | ⟨-,e⟩<;>rw[e]<;>rfl
  ·rw[a8M];intro x d;rw[(i x d).1.lim,(i x d).2];rfl
  ·rw[a8M];rcases c with rfl | ⟨rfl,rfl⟩
   ·intro j u;simp only[a9O,baM,a9A] at u;have:j=0:=Om;subst this;rw[a8O];exact⟨eN (by simp) (by simp; omega),by simp⟩
   ·intro j u;simp only[a9O,baM,a9A] at u;have:j=0∨j=1:=Om;rcases this with rfl | rfl
    ·rw[a8O];exact⟨eN (by simp) (by simp; omega),by simp⟩
    ·rw[a8O];refine⟨eN (by simp; omega) (by simp; omega),?_⟩;have:¬ (1-(f:Int)=f):=Om;simp[this]
 ·refine⟨by unfold dB; constructor<;>simp only<;>omega,by unfold dB; constructor<;>simp only<;>omega,by unfold dB; constructor<;>simp only<;>omega,?_,?_,⟨?_,fun x d=>(i x d).1.ok⟩,G.ok,Z.ok⟩
  ·show ms.length≤_;rcases c with e | ⟨-,e⟩<;>rw[e]<;>simp
  ·show ∀ x∈ms,dB x;unfold dB;rcases c with e | ⟨y,e⟩<;>rw[e]<;>intro x d<;>simp only[a8J,a8R,or_false] at d
   ·subst d; omega
   ·rcases d with rfl | rfl<;>omega
  ·show p.length≤_;rw[l]; omega
theorem Ha (l:List Nat) {mc:Nat} (x:0<mc) (y:mc≤2) (i a:Nat):(lZ l mc i a).1.name=[112]++cA i∧jI mc (lZ l mc i a).1=true∧(lZ l mc i a).1.Ok:=by
 refine⟨rfl,?_⟩;have H:=cJ l (show 0<2 by decide) a;have J:=cJ l (show 0<3 by decide) (aG l 2 a).2;have F:=cJ l (show 0<4 by decide) (aG l 3 (aG l 2 a).2).2;unfold lZ;simp only;generalize aG l 2 a=k at *
 generalize aG l 3 k.2=m at *
 generalize aG l 4 m.2=h at *
 have K:=cJ l (Om:0<m.1+1) h.2;generalize aG l (m.1+1) h.2=q at *
 obtain⟨r1,r2⟩:=aeU l q.2 (max m.1 1);generalize kC l q.2 (max m.1 1)=r at *
 have E:=cJ l (show 0<9 by decide) r.2;generalize aG l 9 r.2=g at *
 obtain⟨M,e,b1⟩:=xN l g.2;generalize gQ l g.2=s1 at *
 obtain⟨N,p,b2⟩:=xN l s1.2;generalize gQ l s1.2=s2 at *
 obtain⟨O,u,c⟩:=xN l s2.2;generalize gQ l s2.2=s3 at *
 obtain⟨Q,w,d⟩:=xN l s3.2;generalize gQ l s3.2=s4 at *
 have A:=cJ l x s4.2;generalize aG l mc s4.2=f at *
 generalize aG l 2 f.2=b at *
 rw[e,p,u,w];refine aWT Om Om Om Om Om b1 b2 c d Om Om r1 r2 y ⟨f.1,A,?_⟩;split
 ·rename_i B;split
  ·exact .inr ⟨by omega,rfl⟩
  ·exact .inl rfl
 ·exact .inl rfl
theorem BR (l:List Nat) {mc:Nat} (c:0<mc) (d:mc≤2) (a:Nat):∀ n,(dO l mc a n).1.length=n∧∀ i (hi:i<(dO l mc a n).1.length),(dO l mc a n).1[i].name=[112]++cA i∧jI mc (dO l mc a n).1[i]=true∧(dO l mc a n).1[i].Ok
 | 0=>⟨rfl,fun i hi=>absurd hi (by simp[dO])⟩
 | n+1=>by obtain⟨k1,k2⟩:=BR l c d a n;have e:(dO l mc a (n+1)).1=(dO l mc a n).1++[(lZ l mc n (dO l mc a n).2).1]:=rfl;rw[e];refine⟨by simp[k1],rQ (P:=fun i (x:bS)=>x.name=[112]++cA i∧jI mc x=true∧x.Ok) k2 ?_⟩;rw[k1];exact Ha l c d n _
theorem GK (l:List Nat) {pc:Nat} (c:0<pc) (a:Nat):∀ n,(eM l pc a n).1.length=n∧∀ i (hi:i<(eM l pc a n).1.length),(eM l pc a n).1[i].name=[118]++cA i∧∃ p:Nat,(eM l pc a n).1[i].a6X=p∧p<pc
 | 0=>⟨rfl,fun i hi=>absurd hi (by simp[eM])⟩
 | n+1=>by obtain⟨k1,k2⟩:=GK l c a n;have e:(eM l pc a (n+1)).1=(eM l pc a n).1++[⟨[118]++cA n,((aG l pc (eM l pc a n).2).1:Nat)⟩]:=rfl;rw[e];refine⟨by simp[k1],rQ (P:=fun i (x:eW)=>x.name=[118]++cA i∧∃ p:Nat,x.a6X=p∧p<pc) k2 ?_⟩;rw[k1];exact⟨rfl,_,rfl,cJ l c _⟩
abbrev lvs (ds:List cD):List Int:=ds.map cD.level
def a3A (ds:List cD) (i:Nat) (d:cD):Prop:=∃ c p u:Nat,d.name=[kY c]++cA (i+1)∧d.level=c∧1≤c∧c≤4∧d.parent=p∧p≤i∧(lvs ds)[p]?=some ((c:Int)-1)∧d.a7F=u∧1≤u∧u≤16∧sH d.a7A
def aVC (ds:List cD) (mc i:Nat) (d:dH):Prop:=∃ m c:Nat,d.name=[100]++cA i∧d.model=m∧m<mc∧d.machine=c∧(lvs ds)[c]?=some 4
structure GV (mc a6L:Nat) (s:GS):Prop where
 len:s.a6U.length≤35
 a7E:s.a7E.length≤a6L
 root:s.a6U[0]?=some mJ
 dom:∀ i (hi:i+1<s.a6U.length),a3A s.a6U i s.a6U[i+1]
 drv:∀ i (hi:i<s.a7E.length),aVC s.a6U mc i s.a7E[i]
theorem GV.a {mc a6L:Nat} {s:GS} (h:GV mc a6L s) (x:Nat):GV mc a6L { s with a:=x }:=⟨h.len,h.a7E,h.root,h.dom,h.drv⟩
theorem Ni (l:List Nat) {mc a6L dom:Nat} (e:0<mc) {s:GS} (h:GV mc a6L s) (q:(lvs s.a6U)[dom]?=some 4):∀ n,GV mc a6L (jO l mc a6L dom s n)∧(jO l mc a6L dom s n).a6U=s.a6U
 | 0=>⟨h,rfl⟩
 | n+1=>by
  obtain⟨c,p⟩:=Ni l e h q n;simp only[jO];generalize jO l mc a6L dom s n=t at *
  split
  ·rename_i hlt;refine⟨⟨c.len,by simp only[a8E,a8I]; omega,c.root,c.dom,?_⟩,p⟩;refine rQ (P:=fun i d=>aVC t.a6U mc i d) c.drv ?_;exact⟨_,dom,rfl,rfl,cJ l e _,rfl,by rw[p]; exact q⟩
  ·exact⟨c,p⟩
theorem yJ {ds:List cD} {p:Nat} {x:Int} {t:List cD} (h:(lvs ds)[p]?=some x):(lvs (ds++t))[p]?=some x:=by
 unfold lvs at *
 rw[a8W,baP]
 ·exact h
 ·exact (a9F.1 h).1
theorem aPN (l:List Nat) {mc a6L dom level:Nat} {s:GS} (h:GV mc a6L s) (x:1≤level) (J:level≤4) (B:(lvs s.a6U)[dom]?=some ((level:Int)-1)) (E:qD a6L s=false) :
  GV mc a6L (nA l level dom s)∧(∃ t,(nA l level dom s).a6U=s.a6U++t)∧(nA l level dom s).a6U.length=s.a6U.length+1∧(lvs (nA l level dom s).a6U)[s.a6U.length]?=some (level:Int):=by
 unfold qD at E;simp only[Bool.or_eq_false_iff,decide_eq_false_iff_not] at E;have H:dom<s.a6U.length:=by
  have:=(a9F.1 B).1
  rwa [a7W] at this
 have M:=cJ l (show 0<16 by decide) s.a;have K:=cJ l (show 0<6 by decide) (aG l 3 (aG l 16 s.a).2).2;unfold nA;simp only;generalize aG l 16 s.a=u at *
 generalize aG l 3 u.2=t at *
 generalize aG l 6 t.2=k at *
 have y:sH (if t.1=0 then (mkT 1 ((2+k.1:Nat):Int),k.2) else (jP,t.2)).1:=by
  split
  ·exact (SmF.mk' (a:=1) (b:=2+k.1) Om Om Om).o
  ·exact pT.o
 generalize (if t.1=0 then (mkT 1 ((2+k.1:Nat):Int),k.2) else (jP,t.2))=sh at *
 refine⟨⟨by simp only[a8E,a8I]; omega,h.a7E,?_,?_,fun i hi=>?_⟩,⟨_,rfl⟩,by simp,?_⟩
 ·rw[baP Om]; exact h.root
 ·intro i hi;simp only[a8E,a8I] at hi;by_cases hlt:i+1<s.a6U.length
  ·rw[List.getElem_append_left hlt];obtain⟨A,p,v,d,e,q,w,h5,F,h7,h8⟩:=h.dom i hlt;exact⟨A,p,v,d,e,q,w,h5,F,yJ h7,h8⟩
  ·have:i+1=s.a6U.length:=Om;rw[bbU Om];simp only[List.getElem_singleton];exact⟨level,dom,1+u.1,by rw[this],rfl,x,J,rfl,by omega,yJ B,rfl,by omega,by omega,y⟩
 ·obtain⟨m,c,d,e,q,w,h5⟩:=h.drv i hi;exact⟨m,c,d,e,q,w,yJ h5⟩
 ·unfold lvs;rw[a8W,baO (by rw[a7W]; exact a8D _),a7W,baX];rfl
theorem Nj (l:List Nat) {mc a6L dom level:Nat} (e:1≤level) (y:level≤4) {rec:Nat→GS→GS}
  (c:∀ d t,GV mc a6L t→(lvs t.a6U)[d]?=some (level:Int)→GV mc a6L (rec d t)∧∃ u,(rec d t).a6U=t.a6U++u) {s:GS} (h:GV mc a6L s) (x:(lvs s.a6U)[dom]?=some ((level:Int)-1)) :
  ∀ n,GV mc a6L (gD l level a6L dom rec s n)∧∃ u,(gD l level a6L dom rec s n).a6U=s.a6U++u
 | 0=>⟨h,[],by simp[gD]⟩
 | n+1=>by
  obtain⟨q,u,i⟩:=Nj l e y c h x n;simp only[gD];generalize gD l level a6L dom rec s n=t at *
  split
  ·exact⟨q,u,i⟩
  ·rename_i A;have p:(lvs t.a6U)[dom]?=some ((level:Int)-1):=by rw[i]; exact yJ x
   obtain⟨k1,⟨v,k2⟩,B,E⟩:=aPN l q e y p (by simpa using A);obtain⟨F,w,H⟩:=c ((nA l level dom t).a6U.length-1) (nA l level dom t) k1 (by rw[B,Nat.add_sub_cancel]; exact E);exact⟨F,u++(v++w),by rw[H,k2,i]; simp⟩
theorem Nk (l:List Nat) {mc a6L:Nat} (c:0<mc):∀ (k:Nat),k≤4→∀ (dom:Nat) {s:GS},GV mc a6L s→(lvs s.a6U)[dom]?=some (4-(k:Int))→GV mc a6L (eR l mc a6L k dom s)∧∃ u,(eR l mc a6L k dom s).a6U=s.a6U++u
 | 0,_,dom,s,h,e=>by simp only[eR];obtain⟨p,q⟩:=Ni l c (h.a (aG l 2 s.a).2) e (1+(aG l 2 s.a).1);exact⟨p,[],by rw[q]; simp⟩
 | k+1,x,dom,s,h,e=>by
  simp only[eR];refine Nj l Om Om (fun d t w i=>Nk l c k Om d w ?_) (h.a (aG l 2 s.a).2) ?_ _
  ·rw[i]; congr 1; omega
  ·rw[e]; congr 1; omega
theorem A4 (c:Nat) (d:1≤c) (e:c≤4):eO (kY c).toNat=true∧kY c≠100:=by
 have:c=1∨c=2∨c=3∨c=4:=Om;rcases this with rfl | rfl | rfl | rfl<;>decide
theorem qn (c:UInt8) {k:Nat} (d:k<100):VP (([c]++cA k).drop 1)=k:=by
 show VP (cA k)=k;rw[QG d];exact (Ki ⟨k,d⟩).1
theorem Wi {mc a6L:Nat} {s:GS} (h:GV mc a6L s) (K:a6L≤60):distinct ((s.a6U.drop 1).map cD.name++s.a7E.map dH.name)=true:=by
 have w:∀ i (hi:i<((s.a6U.drop 1).map cD.name).length),∃ d:Nat,1≤d∧d≤4∧((s.a6U.drop 1).map cD.name)[i]=[kY d]++cA (i+1):=by intro i hi;rw[a7W,a9Z] at hi;obtain⟨d,p,u,l,-,F,q,-⟩:=h.dom i Om;refine⟨d,F,q,?_⟩;rw[a9R,List.getElem_drop];simp only[Nat.add_comm 1 i];exact l
 have hB:∀ i (hi:i<(s.a7E.map dH.name).length),(s.a7E.map dH.name)[i]=[100]++cA i:=by intro i hi;rw[a7W] at hi;obtain⟨m,c,l,-⟩:=h.drv i hi;rw[a9R]; exact l
 have M:((s.a6U.drop 1).map cD.name).length≤40:=by rw[a7W,a9Z]; have:=h.len; omega
 have N:(s.a7E.map dH.name).length≤60:=by rw[a7W]; have:=h.a7E; omega
 generalize (s.a6U.drop 1).map cD.name=A at *
 generalize s.a7E.map dH.name=B at *
 refine WA ?_ ?_
 ·intro x hx;rcases a9S.1 hx with hx | hx
  ·obtain⟨i,hi,rfl⟩:=a9I hx;obtain⟨d,l,q,e⟩:=w i hi;rw[e];exact wh rfl (A4 d l q).1 rfl (by simp) Om
  ·obtain⟨i,hi,rfl⟩:=a9I hx;rw[hB i hi];exact wh rfl (by decide) rfl (by simp) Om
 ·rw[baQ];refine⟨?_,?_,?_⟩
  ·refine RE (g:=fun s=>VP (s.drop 1)-1) fun i hi=>?_;obtain⟨d,-,-,e⟩:=w i hi;rw[e,qn _ Om];omega
  ·refine RE (g:=fun s=>VP (s.drop 1)) fun i hi=>?_;rw[hB i hi];exact qn _ Om
  ·intro x hx y J e;obtain⟨i,hi,rfl⟩:=a9I hx;obtain⟨j,H,rfl⟩:=a9I J;obtain⟨d,l,q,E⟩:=w i hi;rw[E,hB j H] at e;exact (A4 d l q).2 (List.cons.inj e).1
theorem aJA {mc a6L a:Nat}:GV mc a6L ⟨[mJ],[],a⟩ :=
 ⟨by simp,a8C _,rfl,fun i hi=>absurd hi (by simp),fun i hi=>absurd hi (by simp)⟩
theorem aQF {mc a6L:Nat} {s:GS} (h:GV mc a6L s) (f:aE) (x:f.a6O=s.a6U):nN f=true:=by
 have q:=h.root;have l:=h.dom;unfold nN;rw[x];cases c:s.a6U with
 | nil=>rw[c] at q; cases q
 | cons r t =>
  rw[c] at q;have:r=mJ:=by simpa using q
  subst this;show BC f mJ t=true;unfold BC;simp only[a8O];refine⟨⟨⟨⟨⟨⟨rfl,rfl⟩,rfl⟩,rfl⟩,pT.lim⟩,by rw[show mJ.a7A=jP from rfl,pT.zero]; rfl⟩,?_⟩;rw[a8M];intro i hi;rw[a9A] at hi;rw[a8K hi];obtain⟨B,p,u,y,w,E,F,h5,H,h7,h8,J,A,d⟩:=l i (by rw[c]; simp; omega);have e:s.a6U[i+1]'(by rw[c]; simp; omega)=t[i]:=by simp[c]
  rw[e] at y w h5 h8 d;show HK f i t[i]=true;unfold HK;simp only[a8O];refine⟨⟨⟨⟨?_,?_⟩,?_⟩,?_⟩,d.lim⟩
  ·rw[h5]; exact eN Om Om
  ·rw[h5,w,x,a9Q,a8P,h7,sy Om Om];exact decide_eq_true rfl
  ·rw[w]; exact eN Om Om
  ·rw[h8]; exact eN Om Om
theorem Lk (l:List Nat) (a6L a6N a:Nat) (hd:a6L≤24) (hv:a6N≤12) :
  dS (gZ l a6L a6N a).1=true∧(gZ l a6L a6N a).1.Ok:=by
 unfold gZ;simp only;have he:=cJ l (show 0<2 by decide) a;generalize aG l 2 a=e at *
 have γ:=cJ l (show 0<2 by decide) e.2;generalize aG l 2 e.2=E at *
 obtain⟨w1,U⟩:=WH l E.2 (1+E.1);generalize hZ l E.2 (1+E.1)=a6S at *
 have δ:=cJ l (show 0<2 by decide) a6S.2;generalize aG l 2 a6S.2=A at *
 obtain⟨X,Y⟩:=NP l (1+E.1) Om A.2 (1+A.1);generalize eI l (1+E.1) A.2 (1+A.1)=a6M at *
 obtain⟨G,-⟩:=Nk l (mc:=1+A.1) (a6L:=a6L) Om 4 (by decide) 0 (s:=⟨[mJ],[],a6M.2⟩) aJA rfl;generalize eR l (1+A.1) a6L 4 0 ⟨[mJ],[],a6M.2⟩=g at *
 have ε:=cJ l (show 0<2 by decide) g.a;generalize aG l 2 g.a=pl at *
 obtain⟨p1,R⟩:=BR l (mc:=1+A.1) Om Om pl.2 (1+pl.1);generalize dO l (1+A.1) pl.2 (1+pl.1)=pols at *
 have ζ:=cJ l (Om:0<a6N+1) pols.2;generalize aG l (a6N+1) pols.2=J at *
 obtain⟨v1,S⟩:=GK l (pc:=1+pl.1) Om J.2 J.1;generalize eM l (1+pl.1) J.2 J.1=vols at *
 have g1:=G.len;have g2:=G.a7E;have Q:∀ f:aE,f.a6O=g.a6U→nN f=true:=fun f hf=>aQF G f hf;have d:∀ n:Nat,n≤1000→n≤9223372036854775807:=fun n h=>by omega
 have B:∀ x∈g.a7E,∃ m c:Nat,x.model=m∧m<1+A.1∧x.machine=c∧c<g.a6U.length∧(lvs g.a6U)[c]?=some 4:=by
  intro x q;obtain⟨i,hi,rfl⟩:=a9I q;obtain⟨m,c,-,O,V,W,h5⟩:=G.drv i hi;refine⟨m,c,O,V,W,?_,h5⟩;have:=(a9F.1 h5).1
  rwa [a7W] at this
 constructor
 ·unfold dS;rw[Q _ rfl];simp only[a8O,baD];refine⟨⟨?_,⟨⟨⟨⟨?_,?_⟩,?_⟩,?_⟩,?_⟩⟩,⟨⟨⟨?_,?_⟩,Wi G Om⟩,?_⟩,?_⟩
  ·unfold nF;simp only[a8O];exact⟨⟨⟨⟨⟨⟨eN Om Om,decide_eq_true Om⟩,decide_eq_true Om⟩,decide_eq_true Om⟩,decide_eq_true Om⟩,decide_eq_true Om⟩,decide_eq_true Om⟩
  ·exact xY fun i hi=>(U i hi).2.1
  ·refine xY fun i hi=>?_;obtain⟨-,x,y,z,w,F,H,K,M,e6,Z,e8⟩:=Y i hi;unfold kB;simp only[a8O];rw[w,K,Z,w1];exact⟨⟨eN Om Om,eN Om Om⟩,eN Om Om⟩
  ·rw[a8M];intro x q;obtain⟨m,c,w,F,H,K,M⟩:=B x q;unfold iR;simp only[a8O];rw[w,H,X,a9Q,a8P,M];exact⟨⟨eN Om Om,eN Om Om⟩,rfl⟩
  ·refine xY fun i hi=>?_;rw[X]; exact (R i hi).2.1
  ·refine xY fun i hi=>?_;obtain⟨-,p,w,F⟩:=S i hi;unfold oC;rw[w,p1];exact eN Om Om
  ·refine sN (p:=[108,97,119]) rfl (by decide) (by decide) (by decide) (by rw[a7W]; omega) fun i hi=>?_;rw[a9R]; exact (U i (by simpa using hi)).1
  ·refine sN (p:=[109]) rfl (by decide) (by decide) (by decide) (by rw[a7W]; omega) fun i hi=>?_;rw[a9R]; exact (Y i (by simpa using hi)).1
  ·refine sN (p:=[112]) rfl (by decide) (by decide) (by decide) (by rw[a7W]; omega) fun i hi=>?_;rw[a9R]; exact (R i (by simpa using hi)).1
  ·refine sN (p:=[118]) rfl (by decide) (by decide) (by decide) (by rw[a7W]; omega) fun i hi=>?_;rw[a9R]; exact (S i (by simpa using hi)).1
 ·refine⟨d a6S.1.length Om,d a6M.1.length Om,d g.a6U.length Om,d g.a7E.length Om,d pols.1.length Om,d vols.1.length Om,?_,?_,?_,?_,?_⟩
  ·intro x q;obtain⟨i,hi,rfl⟩:=a9I q;exact (U i hi).2.2
  ·intro x q;obtain⟨i,hi,rfl⟩:=a9I q;rcases baG i with rfl | hp
   ·have:g.a6U[0]=mJ:=by have:=G.root; rw[a8K hi] at this; exact baL.inj this
    rw[this];exact⟨pT.ok,by unfold dB; decide,by unfold dB; decide⟩
   ·obtain⟨k,rfl⟩:∃ k,i=k+1:=⟨i-1,by omega⟩;obtain⟨η,p,u,h1,O,V,W,h5,h6,h7,h8,h9,α,N⟩:=G.dom k hi;have β:k+1<g.a6U.length:=hi;rw[O,h5];exact⟨N.ok,by unfold dB; omega,by unfold dB; omega⟩
  ·intro x q;obtain⟨m,c,w,F,H,K,M⟩:=B x q;rw[w,H];unfold dB; omega
  ·intro x q;obtain⟨i,hi,rfl⟩:=a9I q;exact (R i hi).2.2
  ·intro x q;obtain⟨i,hi,rfl⟩:=a9I q;obtain⟨-,p,w,F⟩:=S i hi;rw[w];unfold dB; omega

theorem QT {C:Ctx} (c:fW C) (hi:oQ C):fz C :=
 {QS c hi with
  grow:=fun l v T mc a6L d e i=>ao (QS c hi) T mc a6L d e i (fun args H R p h=>c.r7 args H R (by rw[p]; decide) h) 4 (a8D _) }
theorem auR {C:Ctx} (c:fW C) (hi:oQ C):Iz C :=
 {QT c hi with
  new:=fun l p q=>c.r28.go (abS l p q) rfl
  fleet:=fun l v T o a6L a6N a d e i=>FC.exact (c.r0.go (Bf (QT c hi) T o a6L a6N a d e i) rfl) }


structure ZH (f:aE) (L:List (List Int)):Prop where
 len:L.length=f.a6N.length
 row:∀ v (h:v<L.length),((L[v].length:Nat):Int)=akW f v
 home:∀ r∈L,∀ x∈r,-1≤x∧x<f.a6L.length
theorem ZH.a0M {f:aE} {L:List (List Int)} (h:ZH f L) (hV:VF f):∀ k,k≤L.length→(L.take k).flatten.length≤k*8:=by
 have u:=h.len;intro k
 induction k with
 | zero=>intro _; simp
 | succ k p =>intro d;rw[atC L d,a8E];have q:=p Om;have e:=h.row k d;obtain⟨l,i⟩:=aIP hV (Om:k<f.a6N.length);have c:=hV.a6X _ (a7Z l);rw[i] at c;unfold akW at e;omega
theorem ZH.ok {f:aE} (hV:VF f) {L:List (List Int)} (h:ZH f L):aZH L:=by
 have d:=hV.small.a6N;have c:=h.len;have:=h.a0M hV L.length (a8D _);rw[a8Y] at this;exact⟨by omega,by omega⟩
section
variable {C:Ctx} {F F':PF} {H:PH}
theorem cR (c:F.le F') {x:aP} {v:PV} (h:x.ev F=some v):x.ev F'=some v:=by
 cases x
 ·exact c _ _ h
 all_goals exact h
theorem FK (c:F.le F'):∀ {xs:List aP} {vs:List PV},aP.evs F xs=some vs→aP.evs F' xs=some vs
 | [],_,h=>h
 | x::xs,vs,h=>by
  rw[zG] at h ⊢;cases e:x.ev F with
  | none=>simp[e] at h
  | some v =>
   cases d:aP.evs F xs with
   | none=>simp[d] at h
   | some i =>rw[e,d] at h;rw[cR c e,FK c d];exact h
theorem Lf (c:F.le F'):∀ {ps:List (Nat × Nat × aP)} {cs ds:List PV},qA cs F ps=some ds→qA cs F' ps=some ds
 | [],_,_,h=>h
 | (i,size,x)::ps,cs,ds,h=>by
  simp only[qA] at h ⊢;cases d:x.ev F with
  | none=>simp[d] at h
  | some v =>
   rw[d] at h;rw[cR c d];simp only at h ⊢;split at h
   ·rename_i e; rw[if_pos e]; exact Lf c h
   ·cases h
theorem CP (c:F.le F') {size:Nat}:∀ {ps:List (Nat × aP)} {cs ds:List (List PV)},gT size cs F ps=some ds→gT size cs F' ps=some ds
 | [],_,_,h=>h
 | (i,x)::ps,cs,ds,h=>by
  simp only[gT] at h ⊢;cases d:x.ev F with
  | none=>simp[d] at h
  | some v =>
   rw[d] at h;rw[cR c d];simp only at h ⊢;split at h
   ·rename_i e; rw[if_pos e]; exact CP c h
   ·cases h
theorem OI (c:F.le F') {d n:Int} {x:Option aP} (h:bnd F d x=some n):bnd F' d x=some n:=by
 cases x with
 | none=>exact h
 | some x =>
  simp only[bnd] at h ⊢;cases e:x.ev F with
  | none=>simp[e] at h
  | some v=>rw[cR c e,← e]; exact h
theorem Rr {op:POp} {v:PV} (A:F.le F') (h:aO op F H=some v):aO op F' H=some v:=by
 cases op
 case mv x=>exact cR A h
 case pick c a b =>
  simp only[aO] at h ⊢;cases K:c.ev F with
  | none=>simp[K] at h
  | some t =>
   rw[K] at h;rw[cR A K];cases t<;>simp only at h ⊢<;>try cases h
   rename_i t;cases t
   ·simp only[bbH,if_false] at h ⊢; exact cR A h
   ·simp only[if_true] at h ⊢; exact cR A h
 case same x =>
  simp only[aO] at h ⊢;cases e:x.ev F with
  | none=>simp[e] at h
  | some a=>rw[cR A e,← e]; exact h
 case un o x =>
  simp only[aO] at h ⊢;cases e:x.ev F with
  | none=>simp[e] at h
  | some a=>rw[cR A e,← e]; exact h
 case conv k x =>
  simp only[aO] at h ⊢;cases e:x.ev F with
  | none=>simp[e] at h
  | some a=>rw[cR A e,← e]; exact h
 case a6Y x =>
  simp only[aO] at h ⊢;cases e:x.ev F with
  | none=>simp[e] at h
  | some a=>rw[cR A e,← e]; exact h
 case a7O o x =>
  simp only[aO] at h ⊢;cases e:x.ev F with
  | none=>simp[e] at h
  | some a=>rw[cR A e,← e]; exact h
 case field o n x =>
  simp only[aO] at h ⊢;cases e:x.ev F with
  | none=>simp[e] at h
  | some a=>rw[cR A e,← e]; exact h
 case a7L x =>
  simp only[aO] at h ⊢;cases e:x.ev F with
  | none=>simp[e] at h
  | some a=>rw[cR A e,← e]; exact h
 case isNil n x =>
  simp only[aO] at h ⊢;cases e:x.ev F with
  | none=>simp[e] at h
  | some a=>rw[cR A e,← e]; exact h
 case lenM x =>
  simp only[aO] at h ⊢;cases e:x.ev F with
  | none=>simp[e] at h
  | some a=>rw[cR A e,← e]; exact h
 case a7V x =>
  simp only[aO] at h ⊢;cases e:x.ev F with
  | none=>simp[e] at h
  | some a=>rw[cR A e,← e]; exact h
 case extract x i =>
  simp only[aO] at h ⊢;cases e:x.ev F with
  | none=>simp[e] at h
  | some a=>rw[cR A e,← e]; exact h
 case a6Z x =>
  simp only[aO] at h ⊢;cases e:x.ev F with
  | none=>simp[e] at h
  | some a=>rw[cR A e,← e]; exact h
 case len x =>
  simp only[aO] at h ⊢;cases e:x.ev F with
  | none=>simp[e] at h
  | some a=>rw[cR A e,← e]; exact h
 case box r x =>
  cases r
  ·cases h
  simp only[aO] at h ⊢;cases e:x.ev F with
  | none=>simp[e] at h
  | some a=>rw[cR A e,← e]; exact h
 case load n p =>
  cases n
  all_goals
   simp only[aO] at h ⊢;cases e:p.ev F with
   | none=>simp[e] at h
   | some a=>rw[cR A e,← e]; exact h
 case bin o x y =>
  simp only[aO] at h ⊢;cases e:x.ev F with
  | none=>simp[e] at h
  | some a =>
   cases B:y.ev F with
   | none=>simp[e,B] at h
   | some b=>rw[cR A e,cR A B,← e,← B]; exact h
 case eqb n x y =>
  simp only[aO] at h ⊢;cases e:x.ev F with
  | none=>simp[e] at h
  | some a =>
   cases B:y.ev F with
   | none=>simp[e,B] at h
   | some b=>rw[cR A e,cR A B,← e,← B]; exact h
 case eqs n k x y =>
  simp only[aO] at h ⊢;cases e:x.ev F with
  | none=>simp[e] at h
  | some a =>
   cases B:y.ev F with
   | none=>simp[e,B] at h
   | some b=>rw[cR A e,cR A B,← e,← B]; exact h
 case a7C s x i =>
  simp only[aO] at h ⊢;cases e:x.ev F with
  | none=>simp[e] at h
  | some a =>
   cases B:i.ev F with
   | none=>simp[e,B] at h
   | some b=>rw[cR A e,cR A B,← e,← B]; exact h
 case idxA n s x i =>
  simp only[aO] at h ⊢;cases e:x.ev F with
  | none=>simp[e] at h
  | some a =>
   cases B:i.ev F with
   | none=>simp[e,B] at h
   | some b=>rw[cR A e,cR A B,← e,← B]; exact h
 case idxV n s g x i =>
  simp only[aO] at h ⊢;cases e:x.ev F with
  | none=>simp[e] at h
  | some a =>
   cases B:i.ev F with
   | none=>simp[e,B] at h
   | some b=>rw[cR A e,cR A B,← e,← B]; exact h
 case a7M x i =>
  simp only[aO] at h ⊢;cases e:x.ev F with
  | none=>simp[e] at h
  | some a =>
   cases B:i.ev F with
   | none=>simp[e,B] at h
   | some b=>rw[cR A e,cR A B,← e,← B]; exact h
 case a7G m x y =>
  simp only[aO] at h ⊢;cases e:x.ev F with
  | none=>simp[e] at h
  | some a =>
   cases B:y.ev F with
   | none=>simp[e,B] at h
   | some b=>rw[cR A e,cR A B,← e,← B]; exact h
 case lookup sh z x k ok =>
  simp only[aO] at h ⊢;cases e:x.ev F with
  | none=>simp[e] at h
  | some a =>
   cases B:k.ev F with
   | none=>simp[e,B] at h
   | some b=>rw[cR A e,cR A B,← e,← B]; exact h
 case build z ps =>simp only[aO,a8G] at h ⊢;obtain⟨cs,E,J⟩:=h;exact⟨cs,Lf A E,J⟩
 case a6R r s l z ps =>
  cases r
  ·cases h
  simp only[aO] at h ⊢;split at h
  ·rename_i K;rw[if_pos K];rw[a8G] at h ⊢;obtain⟨cs,E,J⟩:=h;exact⟨cs,CP A E,J⟩
  ·cases h
 case mkfn n cs =>simp only[aO,a8G] at h ⊢;obtain⟨vs,E,J⟩:=h;exact⟨vs,FK A E,J⟩
 case sliceA n s x lo hi mx =>
  cases lo<;>cases hi<;>cases mx<;>simp only[aO] at h ⊢<;>try cases h
  cases e:x.ev F with
  | none=>simp[e] at h
  | some a=>rw[cR A e,← e]; exact h
 case a7I x lo hi =>
  simp only[aO] at h ⊢;cases e:x.ev F with
  | none=>simp[e] at h
  | some a =>
   rw[e] at h;rw[cR A e];cases a<;>simp only at h ⊢<;>try cases h
   cases E:bnd F 0 lo with
   | none=>simp[E] at h
   | some l =>
    rename_i s;cases J:bnd F s.length hi with
    | none=>simp[E,J] at h
    | some u=>rw[OI A E,OI A J,← E,← J]; exact h
 case slice s x lo hi mx =>
  simp only[aO] at h ⊢;cases e:x.ev F with
  | none=>simp[e] at h
  | some a =>
   rw[e] at h;rw[cR A e];have N:∀ (d:Int) (w:PV),(match bnd F 0 lo,bnd F d hi with
     | some a1,some a2=>match (generalizing:=false) mx with
      | none=>PV.slice s w a1 a2 none
      | some m=>(bnd F 0 (some m)).bind fun m=>PV.slice s w a1 a2 (some m)
     | _,_=>none)=some v→(match bnd F' 0 lo,bnd F' d hi with
     | some a1,some a2=>match (generalizing:=false) mx with
      | none=>PV.slice s w a1 a2 none
      | some m=>(bnd F' 0 (some m)).bind fun m=>PV.slice s w a1 a2 (some m)
     | _,_=>none)=some v:=by
    intro d w h;cases E:bnd F 0 lo with
    | none=>simp[E] at h
    | some l =>
     cases J:bnd F d hi with
     | none=>simp[E,J] at h
     | some u =>
      rw[E,J] at h;rw[OI A E,OI A J];cases mx with
      | none=>exact h
      | some m =>
       simp only at h ⊢;cases M:bnd F 0 (some m) with
       | none=>simp[M] at h
       | some q=>rw[OI A M,← M]; exact h
   cases a<;>simp only at h ⊢<;>first | exact N _ _ h | cases h
 all_goals exact h
theorem I8 {op:POp} {r:(Nat→PV) × cG} (d:F.le F') (h:dA op F=some r):dA op F'=some r:=by
 cases op
 case box b x =>
  cases b
  ·simp only[dA] at h ⊢;cases e:x.ev F with
   | none=>simp[e] at h
   | some a=>rw[cR d e,← e]; exact h
  ·cases h
 case a6R b s l z ps =>
  cases b
  ·simp only[dA] at h ⊢;split at h
   ·rename_i u;rw[if_pos u];rw[a8G] at h ⊢;obtain⟨cs,p,q⟩:=h;exact⟨cs,CP d p,q⟩
   ·cases h
  ·cases h
 case a6T s b z l c =>
  simp only[dA] at h ⊢;cases e:l.ev F with
  | none=>simp[e] at h
  | some a =>
   cases i:c.ev F with
   | none=>simp[e,i] at h
   | some b=>rw[cR d e,cR d i,← e,← i]; exact h
 all_goals exact h
theorem Vs {op:POp} {K:PV→PH→Prop} (d:F.le F') (h:cC op F H K):cC op F' H K:=by
 cases op
 case store n x y =>
  simp only[cC] at h ⊢;cases e:x.ev F with
  | none=>simp[e] at h
  | some a =>
   cases i:y.ev F with
   | none=>simp[e,i] at h
   | some b=>rw[cR d e,cR d i]; rw[e,i] at h; exact h
 case append s b x y =>
  simp only[cC] at h ⊢;cases e:x.ev F with
  | none=>simp[e] at h
  | some a =>
   cases i:y.ev F with
   | none=>simp[e,i] at h
   | some b=>rw[cR d e,cR d i]; rw[e,i] at h; exact h
 case a7D sh x y z =>
  simp only[cC] at h ⊢;cases e:x.ev F with
  | none=>simp[e] at h
  | some a =>
   cases i:y.ev F with
   | none=>simp[e,i] at h
   | some b =>
    cases l:z.ev F with
    | none=>simp[e,i,l] at h
    | some c=>rw[cR d e,cR d i,cR d l]; rw[e,i,l] at h; exact h
 case insert sh x y z =>
  simp only[cC] at h ⊢;cases e:x.ev F with
  | none=>simp[e] at h
  | some a =>
   cases i:y.ev F with
   | none=>simp[e,i] at h
   | some b =>
    cases l:z.ev F with
    | none=>simp[e,i,l] at h
    | some c=>rw[cR d e,cR d i,cR d l]; rw[e,i,l] at h; exact h
 all_goals exact h
theorem PF.aXI (c:F.le F') (i:Nat) (v:PV):(F.set i v).le (F'.set i v):=by
 intro j u h;rw[kD] at h ⊢;split at h
 ·rename_i e; rw[if_pos e]; exact h
 ·rename_i e; rw[if_neg e]; exact c j u h
theorem PF.tF (c:F.le F') (d:Option Nat) (v:PV):(F.put d v).le (F'.put d v):=by
 cases d with
 | none=>exact c
 | some d=>exact PF.aXI c d v
theorem PF.aVS (c:F.le F') (o s:Nat) (rs:List (List PV)):(F.frz o s rs).le (F'.frz o s rs):=by
 intro j u h;rw[qY,a8G] at h ⊢;obtain⟨x,d,e⟩:=h;exact⟨x,c j x d,e⟩
theorem PF.le_trans {A B D:PF} (h:A.le B) (k:B.le D):A.le D:=fun i v hi=>k i v (h i v hi)
theorem jD.up {e:PF} {i:PH} (h:jD F H e i):∀ {F':PF},F.le F'→∃ c,jD F' H c i∧e.le c:=by
 induction h with
 | refl F H=>exact fun {F'} d=>⟨F',.refl _ _,d⟩
 | step o q _ u =>intro F' d;obtain⟨c,l,p⟩:=u (PF.aVS d o _ _);exact⟨c,.step o q l,p⟩
theorem gl {name:Nat} {args:Option (List PV)} {d:Option Nat} {K1 K2:PF→PH→Prop} (w:∀ F F' H,F.le F'→K1 F H→K2 F' H) (e:F.le F') {c:Option (List PV)} (x:∀ vs,args=some vs→c=some vs) (h:sG C name args d K1 F H):sG C name c d K2 F' H:=by
 obtain⟨vs,i,R,l,p,q,u⟩:=h;exact⟨vs,i,R,x _ l,p,q,fun r H' a b=>w _ _ _ (PF.tF e d r) (u r H' a b)⟩
theorem O3 {cs:List PV} {args:List aP} (c:F.le F') (vs:List PV) (h:(aP.evs F args).map (·++cs)=some vs):(aP.evs F' args).map (·++cs)=some vs:=by
 rw[a8G] at h ⊢;obtain⟨x,d,e⟩:=h;exact⟨x,FK c d,e⟩
theorem Yq {name:Nat} {args:List aP} {cs:List PV} {d:Option Nat} {K1 K2:PF→PH→Prop} (i:∀ F F' H,F.le F'→K1 F H→K2 F' H) (c:F.le F') (h:iV C name args cs d K1 F H):iV C name args cs d K2 F' H:=by
 rcases h with h | ⟨F1,H1,h1,h2⟩
 ·exact .inl (gl i c (O3 c) h)
 ·obtain⟨e,k1,k2⟩:=h1.up c;exact .inr ⟨e,H1,k1,gl i k2 (O3 k2) h2⟩
theorem RB {op:POp} {d:Option Nat} {K1 K2:PF→PH→Prop} (l:∀ F F' H,F.le F'→K1 F H→K2 F' H) (c:F.le F') (h:mW (dA op F) d K1 F H):mW (dA op F') d K2 F' H:=by
 obtain⟨q,x,e,i⟩:=h;exact⟨q,x,I8 c e,fun o p=>l _ _ _ (PF.tF c d _) (i o p)⟩
theorem uy {op:POp} {d:Option Nat} {K1 K2:PF→PH→Prop} (l:∀ F F' H,F.le F'→K1 F H→K2 F' H) (c:F.le F') (h:bX (aO op F H) d K1 F H):bX (aO op F' H) d K2 F' H:=by
 obtain⟨v,e,i⟩:=h;exact⟨v,Rr c e,l _ _ _ (PF.tF c d v) i⟩
theorem Ir {op:POp} {d:Option Nat} {K1 K2:PF→PH→Prop} (e:∀ F F' H,F.le F'→K1 F H→K2 F' H) (c:F.le F') (h:cC op F H fun r H'=>K1 (F.put d r) H'):cC op F' H fun r H'=>K2 (F'.put d r) H' :=
 Vs c (AO (fun v H' i=>e _ _ _ (PF.tF c d v) i) h)
theorem aOJ {op:POp} {d:Option Nat} {K1 K2:PF→PH→Prop} (i:∀ F F' H,F.le F'→K1 F H→K2 F' H) (e:F.le F') (h:wpOp C op d K1 F H):wpOp C op d K2 F' H:=by
 cases op
 case call n a=>exact Yq i e h
 case a7N x a =>
  have w:uS C (x.ev F) a d K1 F H:=h;show uS C (x.ev F') a d K2 F' H;cases M:x.ev F with
  | none=>rw[M] at w; exact w.elim
  | some u =>
   rw[cR e M];rw[M] at w;cases u<;>first | exact Yq i e w | exact w.elim | skip
   obtain⟨l,O,A⟩:=w;refine⟨l,O,?_⟩;rcases A with ⟨vs,E,R,A,J,K,h5⟩ | ⟨F1,H1,k1,vs,E,R,A,J,K,h5⟩
   ·exact .inl ⟨vs,E,R,FK e A,J,K,fun r H' p q=>i _ _ _ (PF.tF e d r) (h5 r H' p q)⟩
   ·obtain⟨B,k2,N⟩:=k1.up e;exact .inr ⟨B,H1,k2,vs,E,R,FK N A,J,K,fun r H' p q=>i _ _ _ (PF.tF N d r) (h5 r H' p q)⟩
 case box r x=>cases r<;>first | exact RB (op:=.box false x) i e h | exact uy (op:=.box true x) i e h
 case a6R r s l z ps=>cases r<;>first | exact RB (op:=.a6R false s l z ps) i e h | exact uy (op:=.a6R true s l z ps) i e h
 case alloc cs=>exact RB (op:=.alloc cs) i e h
 case a6T s b z l c=>exact RB (op:=.a6T s b z l c) i e h
 case a7R sh=>exact RB (op:=.a7R sh) i e h
 case store n x y=>exact Ir (op:=.store n x y) i e h
 case append s b x y=>exact Ir (op:=.append s b x y) i e h
 case a7D sh x y z=>exact Ir (op:=.a7D sh x y z) i e h
 case insert sh x y z=>exact Ir (op:=.insert sh x y z) i e h
 all_goals exact uy i e h
theorem RW {K1 K2:PF→PH→Prop} (i:∀ F F' H,F.le F'→K1 F H→K2 F' H):∀ {ops:List aU} {F F':PF} {H:PH},F.le F'→wpOps C ops K1 F H→wpOps C ops K2 F' H
 | [],_,_,_,c,h=>i _ _ _ c h
 | ⟨d,op,none⟩::rest,_,_,_,c,h=>aOJ (fun _ _ _ a b=>RW i a b) c h
 | ⟨d,op,some (t,p)⟩::rest,F,F',H,c,h=>by
  rw[X8] at h ⊢;unfold vQ at h;split at h
  ·rename_i b l;rw[c t _ l];unfold vQ;simp only;split at h
   ·rename_i e; rw[if_pos e]; exact aOJ (fun _ _ _ a b=>RW i a b) c h
   ·rename_i e; rw[if_neg e]; exact RW i (PF.tF c d _) h
  ·rename_i l;rw[c t _ l];exact RW i (PF.tF c d _) h
  ·exact h.elim
theorem Rl {Hs:PH} {S:Spec} {st:Bool} {op:POp} {K:PV→PH→Prop} (d:F.le F') (h:(op.kind F).run C Hs S st K H):(op.kind F').run C Hs S st K H:=by
 have new:∀ op:POp,(Kind.new (dA op F)).run C Hs S st K H→(Kind.new (dA op F')).run C Hs S st K H:=fun op h=>by obtain⟨J,x,e,i⟩:=h;exact⟨J,x,I8 d e,i⟩
 have calm:∀ op:POp,(Kind.calm (aO op F)).run C Hs S st K H→(Kind.calm (aO op F')).run C Hs S st K H:=fun op h=>by obtain⟨v,e,i⟩:=h;exact⟨v,Rr d e,i⟩
 have E:∀ op:POp,(Kind.write fun H K=>cC op F H K).run C Hs S st K H→(Kind.write fun H K=>cC op F' H K).run C Hs S st K H:=fun op h=>Vs (op:=op) d (show cC op F H (fun r H'=>Hs.le H'∧K r H') from h);cases op
 case call n a =>obtain⟨vs,D,R,e,i⟩:=h;exact⟨vs,D,R,FK d e,i⟩
 case a7N x a =>
  unfold POp.kind at h ⊢;simp only at h ⊢;cases p:x.ev F with
  | none=>rw[p] at h; exact h.elim
  | some u =>
   rw[p] at h;rw[cR d p];cases u<;>simp only at h ⊢<;>first | exact h | skip
   obtain⟨vs,D,R,e,i⟩:=h;exact⟨vs,D,R,O3 d _ e,i⟩
 case insert sh x k v =>
  obtain⟨o,B,A,u,g,e,i⟩:=h;refine⟨o,B,A,u,g,?_,i⟩;cases p:x.ev F with
  | none=>simp[p] at e
  | some a =>
   cases q:k.ev F with
   | none=>simp[p,q] at e
   | some b =>
    cases w:v.ev F with
    | none=>simp[p,q,w] at e
    | some c=>rw[cR d p,cR d q,cR d w]; rw[p,q,w] at e; exact e
 case box r x=>cases r<;>first | exact new (.box false x) h | exact calm (.box true x) h
 case a6R r s l z ps=>cases r<;>first | exact new (.a6R false s l z ps) h | exact calm (.a6R true s l z ps) h
 case alloc cs=>exact new (.alloc cs) h
 case a6T s b z l c=>exact new (.a6T s b z l c) h
 case a7R sh=>exact new (.a7R sh) h
 case store n x y=>exact E (.store n x y) h
 case append s b x y=>exact E (.append s b x y) h
 case a7D sh x y z=>exact E (.a7D sh x y z) h
 all_goals exact calm _ h
theorem aGP {Hs:PH} {S:Spec} {st:Bool} {i:aU} {K:PV→PH→Prop} (c:F.le F') (h:(i.kind F).run C Hs S st K H):(i.kind F').run C Hs S st K H:=by
 unfold aU.kind at h ⊢;split
 ·rename_i l;rw[l] at h;exact Rl c h
 ·rename_i t p l;rw[l] at h;simp only at h;split at h
  ·rename_i b d;rw[c t _ d];simp only;split at h
   ·rename_i e; rw[if_pos e]; exact Rl c h
   ·rename_i e; rw[if_neg e]; exact h
  ·rename_i d;rw[c t _ d];exact h
  ·exact h.elim
theorem aDG {Hs:PH} {S:Spec} {K1 K2:PF→PH→Prop} (e:∀ F F' H,F.le F'→K1 F H→K2 F' H):∀ {ops:List (aU × Bool)} {F F':PF} {H:PH},Hs.le H→F.le F'→wpD C Hs S ops K1 F H→wpD C Hs S ops K2 F' H
 | [],_,_,_,_,c,h=>e _ _ _ c h
 | i::rest,F,F',H,q,c,h=>by have l:(i.1.kind F).run C Hs S i.2 (fun v H'=>wpD C Hs S rest K1 (F.put i.1.dst v) H') H:=h;exact aGP c (Kind.rP (rN _ _) (fun v H' d p=>aDG e d (PF.tF c _ v) p) q l)
class Up (K:bR):Prop where
 up:∀ {e:kM} {F F':PF} {H:PH},F.le F'→K e F H→K e F' H
theorem xS:∀ (c:aC) {K1 K2:bR} (_:∀ e F F' H,F.le F'→K1 e F H→K2 e F' H) {F F':PF} {H:PH},F.le F'→c.wp C K1 F H→c.wp C K2 F' H
 | .skip,_,_,i,_,_,_,d,h=>i _ _ _ _ d h
 | .region ops,_,_,i,_,_,_,d,h=>RW (i .normal) d h
 | .draw ops,_,_,i,_,_,_,d,⟨Hs,S,q,A⟩=>⟨Hs,S,q,aDG (i .normal) q d A⟩
 | .seq a b,K1,K2,i,_,_,_,d,h=>xS a (K1:=gG C (b.wp C) K1) (K2:=gG C (b.wp C) K2) (fun e F F' H p l=>by
   cases e with
   | normal=>exact xS b i p l
   | exit id=>exact i (.exit id) _ _ _ p l
   | ret=>exact i .ret _ _ _ p l) d h
 | .cond c a b,K1,K2,i,F,F',H,d,h=>by
  rw[aNW] at h ⊢;unfold UP at h;split at h
  ·rename_i t N;rw[cR d N];unfold UP;simp only;split at h
   ·rename_i e; rw[if_pos e]; exact xS a i d h
   ·rename_i e; rw[if_neg e]; exact xS b i d h
  ·exact h.elim
 | .block id c,K1,K2,i,_,_,_,d,h=>xS c (K1:=eX id K1) (K2:=eX id K2) (fun e F F' H p l=>by
   cases e with
   | normal=>exact i .normal _ _ _ p l
   | exit j =>
    rw[CI] at l ⊢;split at l
    ·rename_i e; rw[if_pos e]; exact i .normal _ _ _ p l
    ·rename_i e; rw[if_neg e]; exact i (.exit j) _ _ _ p l
   | ret=>exact i .ret _ _ _ p l) d h
 | .loop c,K1,K2,i,F,F',H,d,⟨α,x,Hs,y,m,E,Y,B,q,A,J,K,h5⟩=>by
  obtain⟨u,k1,k2⟩:=q.up d;refine⟨α,x,Hs,y,m,E,u,B,k1,A,PF.le_trans J k2,K,fun a M=>?_⟩;refine xS c (K1:=fJ x Hs y m (m a) K1) (K2:=fJ x Hs y m (m a) K2) (fun e F F' H p l=>?_) PF.le_refl (h5 a M);cases e with
  | normal =>obtain⟨b,Z,H2,R,U,V,W,X⟩:=l;obtain⟨w,O,Q⟩:=R.up p;exact⟨b,w,H2,O,U,V,PF.le_trans W Q,X⟩
  | exit id=>exact i (.exit id) _ _ _ p l
  | ret=>exact i .ret _ _ _ p l
 | .exit id,_,_,i,_,_,_,d,h=>i (.exit id) _ _ _ d h
 | .ret,_,_,i,_,_,_,d,h=>i .ret _ _ _ d h
instance Up.seq {K:bR} [Up K] (b:aC):Up (gG C (b.wp C) K) where
 up {e} {F} {F'} {H} hl hh:=by
  cases e with
  | normal=>exact xS b (fun e F F' H a h=>Up.up a h) hl hh
  | exit id=>exact Up.up (K:=K) (e:=.exit id) hl hh
  | ret=>exact Up.up (K:=K) (e:=.ret) hl hh
instance Up.block {K:bR} [Up K] (id:Nat):Up (eX id K) where
 up {e} {F} {F'} {H} hl hh:=by
  cases e with
  | normal=>exact Up.up (K:=K) (e:=.normal) hl hh
  | exit j =>
   rw[CI] at hh ⊢;split at hh
   ·rename_i e; rw[if_pos e]; exact Up.up (K:=K) (e:=.normal) hl hh
   ·rename_i e; rw[if_neg e]; exact Up.up (K:=K) (e:=.exit j) hl hh
  | ret=>exact Up.up (K:=K) (e:=.ret) hl hh
instance Up.loop {K:bR} [Up K] {α:Type} (d:α→PF) (Hs:α→PH) (i:α→Prop) (m:α→Nat) (n:Nat):Up (fJ d Hs i m n K) where
 up {e} {F} {F'} {H} hl hh:=by
  cases e with
  | normal =>obtain⟨b,A,H2,q,u,w,x,y⟩:=hh;obtain⟨c,l,p⟩:=q.up hl;exact⟨b,c,H2,l,u,w,PF.le_trans x p,y⟩
  | exit id=>exact Up.up (K:=K) (e:=.exit id) hl hh
  | ret=>exact Up.up (K:=K) (e:=.ret) hl hh
theorem aWW {H:PH} (c:F.le F') {x:dV} {v:PV} (h:x.ev F H=some v):x.ev F' H=some v:=by
 cases x with
 | tmp t=>exact c t v h
 | cell t n =>
  cases n<;>simp only[dV.ev] at h ⊢<;>(cases d:F t with
   | none=>simp[d] at h
   | some a=>rw[c t a d,← d]; exact h)
theorem xm {H:PH} (c:F.le F'):∀ {xs:List dV} {vs:List PV},dV.evs F H xs=some vs→dV.evs F' H xs=some vs
 | [],_,h=>h
 | x::xs,vs,h=>by
  rw[kI] at h ⊢;cases e:x.ev F H with
  | none=>simp[e] at h
  | some v =>
   cases d:dV.evs F H xs with
   | none=>simp[d] at h
   | some i =>rw[e,d] at h;rw[aWW c e,xm c d];exact h
instance Up.ret (res:List dV) (R:PV→PH→Prop):Up (aV res R) where
 up {e} {F} {F'} {H} hl hh:=by
  cases e with
  | exit id=>exact hh
  | normal=>obtain⟨vs,c,d⟩:=hh; exact⟨vs,xm hl c,d⟩
  | ret=>obtain⟨vs,c,d⟩:=hh; exact⟨vs,xm hl c,d⟩
end
section
variable {H:PH} {B:List BX} {L:List LI}
end

section
variable {H:PH} {B:List BX} {L:List LI} {s:Nat} {rows:List (List PV)}
theorem oS.some (s:Nat) (rows:List (List PV)) (G:PH):∃ r H',oS s rows r H'∧mA G .nil H':=by
 obtain⟨o,d⟩:=G.fresh;refine⟨.osl o s 0 rows.length,PH.nil.set o (.rows s rows),.inr ⟨o,rows,rfl,rfl,a8D _,a8Y⟩,fun q x c _=>?_⟩;rw[aT] at c;split at c
 ·rename_i e; rw[e]; exact d
 ·cases c
end

section
variable {C:Ctx} {F:PF} {H Hs:PH} {tn a a2:Nat} {raw:List Int} {R:Nat→PV→PH→Prop} {st:Bool} {args:List aP} {d:Option Nat} {K:PF→PH→Prop}
end
section
variable {C:Ctx} {F:PF} {H:PH} {B:List BX} {L:List LI} {args:List aP} {d:Option Nat} {K:PF→PH→Prop}
end


theorem ZH.move {f:aE} {L:List (List Int)} (h:ZH f L) {x k d:Nat} (p:x<L.length) (q:d<f.a6L.length):ZH f (L.set x (L[x].set k d)):=by
 refine⟨by rw[baB]; exact h.len,fun v l=>?_,fun r c=>?_⟩
 ·rw[baB] at l;have:=h.row v l;rw[List.getElem_set];split
  ·rename_i e;subst e;rw[baB]; exact this
  ·exact this
 ·rcases List.mem_or_eq_of_mem_set c with c | rfl
  ·exact h.home r c
  ·intro y i;rcases List.mem_or_eq_of_mem_set i with i | rfl
   ·exact h.home _ (a7Z p) y i
   ·omega

structure aVB (C:Ctx):Prop extends fW C where
 r3:aM C 3 aRB
 r6:aM C 6 a0R
 r18:aM C 18 aVV
 r82:aM C 82 a0U
structure gg (C:Ctx):Prop extends OA C where
 int:∀ n:Int,dB n→aH C 47 [.int .i64 n] .nil (aF (.agg (mkT n 1).cells))
 mul:∀ a b,Lim a→Lim b→a.length≤35184372087808→b.length≤35184372087808→aH C 36 [aJ a,aJ b] .nil (aF (opV (dY (val a) (val b)) (val a*val b)))
 add:∀ a b,Lim a→Lim b→a.length≤35184372087808→b.length≤35184372087808→aH C 30 [aJ a,aJ b] .nil (aF (opV (dY (val a) (val b)) (val a+val b)))
 sub:∀ a b,Lim a→Lim b→a.length≤35184372087808→b.length≤35184372087808→aH C 37 [aJ a,aJ b] .nil (aF (rR (val a) (val b)))
theorem Ff (a b:Nat):cU a b=(decide (nl b>0)&&(decide (nl b≤128)&&decide (nl a≤128))):=by
 have:=@iD b;refine Bool.eq_iff_iff.2 ?_;rw[fR];simp only[a8O,decide_eq_true_eq];omega
theorem F7 {C:Ctx} (L:gg C) (neg:Bool) (a b:List Nat) (q:Lim a) (l:Lim b) (u:a.length≤35184372087808) (p:b.length≤35184372087808) :
  ER.wp C (aV ry.res (aF (.bool (cU (val a) (val b))))) (PF.args [.agg (eH neg a b)]) .nil:=by
 rw[Ff];simp only[go_sem,ER,F8,F9,ry];refine aA (L.trim b l p) rfl ?_;simp only[go_sem,a7W,bB];by_cases e:nl (val b)>0
 ·have c:((nl (val b):Nat):Int)>0:=Om;simp only[go_sem,c];refine aA (L.trim b l p) rfl ?_;simp only[go_sem,a7W,bB];by_cases i:nl (val b)≤128
  ·have d:((nl (val b):Nat):Int)≤128:=Om;simp only[go_sem,d];refine aA (L.trim a q u) rfl ?_;simp only[go_sem,a7W,bB];refine aQ (.inr rfl) rfl ?_;have:decide (((nl (val a):Nat):Int)≤128)=decide (nl (val a)≤128):=by refine decide_eq_decide.2 ?_;omega
   rw[bP,this,decide_eq_true e,decide_eq_true i];rfl
  ·have d:¬ ((nl (val b):Nat):Int)≤128:=Om;simp only[go_sem,d];refine aQ (.inr rfl) rfl ?_;rw[bP,decide_eq_false i,a8F,a9E]
 ·have c:¬ ((nl (val b):Nat):Int)>0:=Om;simp only[go_sem,c];refine aQ (.inr rfl) rfl ?_;rw[bP,decide_eq_false e,a8F]
theorem br {neg:Bool} {a b:Nat} (h:cU a b=true):iH neg a b=.ok (mP neg a b):=by
 obtain⟨l,c,d⟩:=fR.1 h;have e:=(lY (a/a7Y a b) 128).2 (mg _ d);have i:=(lY (b/a7Y a b) 128).2 (mg _ c);unfold iH mP;rw[if_neg Om]
def ajQ (a b:Nat):Bool:=decide (nl a>128)||decide (nl b>128)
theorem Fh {C:Ctx} (neg:Bool) (a b:List Nat) :
  EO.wp C (aV qx.res (aF (.bool (decide (a.length>128)||decide (b.length>128))))) (PF.args [.agg (eH neg a b)]) .nil:=by
 simp only[go_sem,EO,Fi,Fj,qx,a7W];by_cases c:a.length>128
 ·have d:(a.length:Int)>128:=Om;simp only[go_sem,d];refine aQ (.inr rfl) rfl ?_;rw[bP,decide_eq_true c,Bool.true_or]
 ·have d:¬ (a.length:Int)>128:=Om;simp only[go_sem,d,a7W];refine aQ (.inr rfl) rfl ?_;have:decide ((b.length:Int)>128)=decide (b.length>128):=by refine decide_eq_decide.2 ?_;omega
  rw[bP,this,decide_eq_false c,Bool.false_or]
def Lg (x:FV):FR:=if ajQ x.2.1 x.2.2 then .error 2 else .ok x
theorem aPU (neg:Bool) (a b:Nat):Lg (mP neg a b)=iH neg a b:=by
 have d:=lY (a/a7Y a b) 128;have e:=lY (b/a7Y a b) 128;unfold Lg mP iH ajQ;simp only[Bool.or_eq_true,decide_eq_true_eq];by_cases c:nl (a/a7Y a b)>128∨nl (b/a7Y a b)>128
 ·rw[if_pos c,if_pos Om]
 ·rw[if_neg c,if_neg Om]
structure OC (C:Ctx):Prop extends gg C where
 valid:∀ x:RF,x.Ok→aH C 56 [.agg x.cells] .nil (aF (.bool (cU (val x.num) (val x.den))))
 big:∀ x:FV,aH C 48 [.agg x.rf.cells] .nil (aF (.bool (ajQ x.2.1 x.2.2)))
theorem Ux {C:Ctx} (L:OC C) (x:FV):MD.wp C (aV Il.res (bZ (frV (Lg x)))) (PF.args [.agg x.rf.cells]) .nil:=by
 simp only[go_sem,MD,Uy,Il];refine aR fun o c=>?_;simp only[go_sem,Uz];refine aA (L.big x) rfl ?_;unfold Lg;cases ajQ x.2.1 x.2.2 with
 | true =>simp only[go_sem,U1];refine hM ?_;simp only[go_sem]
 | false =>obtain⟨n,a,b⟩:=x;simp only[go_sem,U2];exact bA (.inr rfl) .nil (vs:=[.agg (FV.rf (n,a,b)).cells,.int .i64 0]) Sq a_ ⟨.refl _,rfl⟩
theorem rk {C:Ctx} (L:OC C) (x:RF) (c:x.Ok):AK.wp C (aV VS.res (bZ (frV (oR x)))) (PF.args [.agg x.cells]) .nil:=by
 simp only[go_sem,AK,rp,VS];refine aR fun o l=>?_;simp only[go_sem,rt];refine aA (L.valid x c) rfl ?_;unfold oR;cases d:cU (val x.num) (val x.den) with
 | false =>simp only[go_sem,a8N,ru];refine hM ?_;simp only[go_sem]
 | true =>obtain⟨i,p,q⟩:=fR.1 d;have e:=br (neg:=x.neg) d;rw[if_pos rfl,e];simp only[go_sem,a8B,rv];refine aA (L.lowest x.neg x.num x.den c.1 c.2.1 c.2.2.1 c.2.2.2 Om Om i) rfl ?_;simp only[go_sem];exact bA (.inr rfl) .nil (vs:=[.agg (mP x.neg (val x.num) (val x.den)).rf.cells,.int .i64 0]) Sq a_ ⟨.refl _,rfl⟩
theorem Fw {C:Ctx} (L:gg C) (a b:List Nat) (c:Lim a) (d:Lim b) (e:a.length≤35184372087808) (i:b.length≤35184372087808) (l:nl (val a)≤256) (p:nl (val b)≤256) :
  EQ.wp C (aV rx.res (aF (aJ (aI (val a*val b))))) (PF.args [aJ a,aJ b]) .nil:=by
 simp only[go_sem,EQ,Fy,F0,rx];refine aA (L.mul a b c d e i) rfl ?_;have:=lJ l p;rw[hL Om Om,opV,AG Om];simp only[go_sem,F6];refine aQ (.inr rfl) rfl ?_;rfl
structure gh (C:Ctx):Prop extends OC C where
 fits:∀ x:FV,aH C 57 [.agg x.rf.cells] .nil (aF (frV (Lg x)))
 red:∀ x:RF,x.Ok→aH C 52 [.agg x.cells] .nil (aF (frV (oR x)))
 prod:∀ a b,Lim a→Lim b→a.length≤35184372087808→b.length≤35184372087808→nl (val a)≤256→nl (val b)≤256→aH C 60 [aJ a,aJ b] .nil (aF (aJ (aI (val a*val b))))
def RF.valid (x:RF):Prop:=cU (val x.num) (val x.den)=true
def pN (x y:RF):Int:=pM x.neg (val x.num) (val x.den) y.neg (val y.num) (val y.den)
def voS:Spec:=fun name vs=>match name,vs with
 | 60,[x,y]=>some ([],fun _=>aF (aJ (aI (val (jE x)*val (jE y)))))
 | _,_=>none
theorem wB (a b:List Nat):voS 60 [aJ a,aJ b]=some ([],fun _=>aF (aJ (aI (val a*val b)))):=by
 show some _=_; rw[eG,eG]
theorem yr (a b:Nat):dQ b a=- dQ a b:=by
 unfold dQ;rcases Nat.lt_trichotomy a b with h | h | h
 ·rw[if_neg Om,if_pos h,if_pos h]; rfl
 ·subst h;rw[if_neg Om,if_neg Om]; rfl
 ·rw[if_pos h,if_neg Om,if_pos h]
set_option maxHeartbeats 1000000 in
theorem Fk {C : Ctx} (L : gh C) (x y : RF) (hx : x.Ok) (hy : y.Ok) (vx : x.valid) (vy : y.valid) : EP.wp C (aV rj.res (aF (.int .i64 (pN x y)))) (PF.args [.agg x.cells, .agg y.cells]) .nil := by
  obtain ⟨n1, a1, b1⟩ := x;obtain ⟨n2, a2, b2⟩ := y;obtain ⟨ha1, hb1, la1, lb1⟩ := hx;obtain ⟨ha2, hb2, la2, lb2⟩ := hy;obtain ⟨v1, v2, v3⟩ := fR.1 vx;obtain ⟨w1, w2, w3⟩ := fR.1 vy;simp only at ha1 hb1 la1 lb1 ha2 hb2 la2 lb2 v1 v2 v3 w1 w2 w3;have m1 := lJ v3 w2;have m2 := lJ w3 v2;have hA : decide (val a1 ≠ 0) = decide (nl (val a1 * val b2) > 0) := by refine decide_eq_decide.2 ?_;have := @iD (val a1 * val b2);rw [Nat.mul_eq_zero] at this;omega
  have hB : decide (val a2 ≠ 0) = decide (nl (val a2 * val b1) > 0) := by refine decide_eq_decide.2 ?_;have := @iD (val a2 * val b1);rw [Nat.mul_eq_zero] at this;omega
  unfold pN pM;simp only [hA, hB];simp only[go_sem,EP,Fl,rj];refine bV .nil voS a_ ?_;simp only[go_sem,Fm];refine bO (wB a1 b2) (L.prod a1 b2 ha1 hb2 la1 lb2 Om Om) rfl a_ ?_;simp only[go_sem];refine bO (wB a2 b1) (L.prod a2 b1 ha2 hb1 la2 lb1 Om Om) rfl a_ ?_;have hc := L.cmp (aI (val a1 * val b2)) (aI (val a2 * val b1)) (aX _) (aX _) (by rw [bB]; omega) (by rw [bB]; omega);have hd := L.cmp (aI (val a2 * val b1)) (aI (val a1 * val b2)) (aX _) (aX _) (by rw [bB]; omega) (by rw [bB]; omega);rw [aW, aW] at hc hd;rw [yr (val a1 * val b2)] at hd;generalize val a1 * val b2 = A at *
  generalize val a2 * val b1 = B at *
  have gA : decide (((nl A : Nat) : Int) > 0) = decide (nl A > 0) := decide_eq_decide.2 Om;have gB : decide (((nl B : Nat) : Int) > 0) = decide (nl B > 0) := decide_eq_decide.2 Om;generalize decide (nl A > 0) = p at *
  generalize decide (nl B > 0) = q at *
  cases n1 <;> cases n2 <;> cases p <;> cases q
  all_goals
    simp only[go_sem,Fn,a7W,bB,gA,gB,Fo,Fp,Fq,Fr,Ft,Fu,Fv]
    first
    | (refine aQ (.inr rfl) rfl ?_; rfl)
    | (refine aA hc rfl ?_
       simp only[go_sem];refine aQ (.inr rfl) rfl ?_;rfl)
    | (refine aA hd rfl ?_
       simp only[go_sem];refine aQ (.inr rfl) rfl ?_;rfl)
structure vK (C:Ctx):Prop extends gh C where
 order:∀ x y:RF,x.Ok→y.Ok→x.valid→y.valid→aH C 51 [.agg x.cells,.agg y.cells] .nil (aF (.int .i64 (pN x y)))
theorem U4 {C:Ctx} (L:vK C) (x y:RF) (c:x.Ok) (d:y.Ok) (e:x.valid) (i:y.valid):MF.wp C (aV Im.res (aF (.bool (decide (pN x y<0))))) (PF.args [.agg x.cells,.agg y.cells]) .nil:=by
 simp only[go_sem,MF,U5,U6,Im];refine aA (L.order x y c d e i) rfl ?_;simp only[go_sem];refine aQ (.inr rfl) rfl ?_;rfl
theorem Vd {C:Ctx} (L:vK C) (x y:RF) (c:x.Ok) (d:y.Ok) (e:x.valid) (i:y.valid):MJ.wp C (aV Io.res (aF (.bool (pN x y==0)))) (PF.args [.agg x.cells,.agg y.cells]) .nil:=by
 simp only[go_sem,MJ,Ve,Vf,Io];refine aA (L.order x y c d e i) rfl ?_;simp only[go_sem];refine aQ (.inr rfl) rfl ?_;rfl
theorem FW (n:Int):mkT n 1=⟨decide (n<0),aI n.natAbs,aI 1⟩:=by
 unfold mkT mP FV.rf;rw[show (1:Int).natAbs=1 from rfl,Nat.gcd_one_right,Nat.div_one,Nat.div_one,show decide ((1:Int)<0)=false from rfl];congr 1;by_cases h:n<0
 ·have:n.natAbs≠0:=Om;simp[h,this]
 ·simp[h]
theorem FU (n:Int) (h:dB n):(mkT n 1).Ok∧(mkT n 1).valid:=by
 have c:nl n.natAbs≤2:=nT (by unfold dB at h; omega);rw[FW];refine⟨⟨aX _,aX _,?_,?_⟩,?_⟩
 ·simp only[bB]; omega
 ·simp only[vT]; decide
 ·unfold RF.valid;simp only[aW];rw[Ff];have:nl 1=1:=by rw[nl,vT]; rfl
  simp[this];omega
def rG (x:RF):Int:=if val x.num=0 then 0 else if x.neg then -1 else 1
theorem aIM (x:RF):pN x (mkT 0 1)=rG x:=by
 rw[FW];unfold pN rG pM;simp only[aW,show (0:Int).natAbs=0 from rfl,Nat.mul_one,Nat.zero_mul];by_cases h:val x.num=0
 ·simp[h,dQ]
 ·cases x.neg<;>simp[h,dQ]
def viS (r:Int):Spec:=fun name _=>if name=47 then some ([],fun _=>aF (.agg (mkT 0 1).cells)) else some ([],fun _=>aF (.int .i64 r))
theorem Vg {C:Ctx} (L:vK C) (x:RF) (e:x.Ok) (i:x.valid):MK.wp C (aV Ip.res (aF (.int .i64 (rG x)))) (PF.args [.agg x.cells]) .nil:=by
 have c:dB 0:=by unfold dB; omega
 have d:=L.order x (mkT 0 1) e (FU 0 c).1 i (FU 0 c).2;rw[aIM] at d;simp only[go_sem,MK,Vh,Ip];refine bV .nil (viS (rG x)) a_ ?_;simp only[go_sem,Vi];refine bO rfl (L.int 0 c) rfl a_ ?_;simp only[go_sem];refine bO rfl d rfl a_ ?_;simp only[go_sem];refine aQ (.inr rfl) rfl ?_;rfl
theorem aCZ {C:Ctx} (L:vK C) (i l:Bool) (a1 b1 a2 b2:List Nat) (N:Lim a1) (E:Lim b1) (O:Lim a2) (J:Lim b2)
  (Q:a1.length≤35184372087808) (K:b1.length≤35184372087808) (R:a2.length≤35184372087808) (M:b2.length≤35184372087808) :
  CD.wp C (aV Ut.res (bZ (frV (gJ (i,val a1,val b1) (l,val a2,val b2))))) (PF.args [.agg (eH i a1 b1),.agg (eH l a2 b2)]) .nil:=by
 have vx:aH C 56 [.agg (eH i a1 b1)] .nil (aF (.bool (cU (val a1) (val b1)))):=L.valid ⟨i,a1,b1⟩ ⟨N,E,Q,K⟩;have vy:aH C 56 [.agg (eH l a2 b2)] .nil (aF (.bool (cU (val a2) (val b2)))):=L.valid ⟨l,a2,b2⟩ ⟨O,J,R,M⟩;simp only[go_sem,CD,ahH,Ut];refine aR fun o ho=>?_;simp only[go_sem,ahI];refine aA vx rfl ?_;simp only[gJ];cases hv:cU (val a1) (val b1) with
 | false =>simp only[go_sem,a8N,x2,a8F];refine hM ?_;simp only[go_sem]
 | true =>
  obtain⟨v1,v2,v3⟩:=fR.1 hv;simp only[go_sem,a8B];refine aA vy rfl ?_;cases hw:cU (val a2) (val b2) with
  | false =>simp only[go_sem,a8N,x2,a9E];refine hM ?_;simp only[go_sem]
  | true =>
   obtain⟨w1,w2,w3⟩:=fR.1 hw;simp only[go_sem,a8B,baD];refine bV .nil voS a_ ?_;simp only[go_sem,ahJ];refine bO (wB a1 b2) (L.prod a1 b2 N J Q M Om Om) rfl a_ ?_;simp only[go_sem];refine bO (wB a2 b1) (L.prod a2 b1 O E R K Om Om) rfl a_ ?_;simp only[go_sem];refine bO (wB b1 b2) (L.prod b1 b2 E J K M Om Om) rfl a_ ?_;simp only[go_sem];have m1:=lJ v3 w2;have m2:=lJ w3 v2;have m3:=lJ v2 w2;have d0:val b1*val b2≠0:=Nat.mul_ne_zero v1 w1;generalize hA:val a1*val b2=A at *
   generalize hB:val a2*val b1=B at *
   generalize hD:val b1*val b2=D at *
   have fin:∀ (F:PF) (H:PH) (r:FR),(∃ d x y e,frV r=.tup [.agg (eH d x y),.int .i64 e]∧F 4=some (.ptr o 3 0 0)∧F 5=some (.int .i64 e)∧H o=some (.rows 3 [eH d x y]))→aV [.cell 4 (some 3),.tmp 5] (bZ (frV r)) .ret F H:=by rintro F H r ⟨d,x,y,e,he,f4,f5,hH⟩;rw[he];exact bA (.inr rfl) .nil (vs:=[.agg (eH d x y),.int .i64 e]) (by simp only[go_sem,f4,f5,hH]) a_ ⟨.refl _,rfl⟩
   have V:(i==l)=decide (i=l):=by cases i<;>cases l<;>rfl
   have low:∀ neg x,nl x≤257→aH C 58 [.bool neg,aJ (aI x),aJ (aI D)] .nil (aF (.agg (mP neg x D).rf.cells)):=by
    intro neg x hx;have W:(aI x).length≤35184372087808:=by rw[bB]; omega
    have Z:(aI D).length≤35184372087808:=by rw[bB]; omega
    have:=L.lowest neg (aI x) (aI D) (aX _) (aX _) W Z;rw[aW,aW] at this;exact this Om Om d0
   have w:∀ neg x,aH C 57 [.agg (mP neg x D).rf.cells] .nil (aF (frV (iH neg x D))):=fun neg x=>by
    have:=L.fits (mP neg x D)
    rwa [aPU] at this
   have lA:(aI A).length≤35184372087808:=by rw[bB]; omega
   have lB:(aI B).length≤35184372087808:=by rw[bB]; omega
   simp only[go_sem,ahK];by_cases c:i=l
   ·rw[if_pos c];have S:(i==l)=true:=by rw[V,decide_eq_true c]
    simp only[go_sem,S,ahL];have q:=L.add (aI A) (aI B) (aX _) (aX _) lA lB;have α:=Qu m1 m2;rw[aW,aW,hL Om Om,opV,AG Om] at q;refine aA q rfl ?_;simp only[go_sem,ahM];refine aA (low i _ Om) rfl ?_;simp only[go_sem];refine aA (w i _) rfl ?_;obtain⟨d,x,y,e,p⟩:=tY (iH i (A+B) D);rw[p];simp only[go_sem];rw[← p];exact fin _ _ _ ⟨d,x,y,e,p,by simp only[go_sem],by simp only[go_sem],by simp only[go_sem]⟩
   ·rw[if_neg c];have S:(i==l)=false:=by rw[V,decide_eq_false c]
    simp only[go_sem,S,ahN];have hc:=L.cmp (aI A) (aI B) (aX _) (aX _) lA lB;rw[aW,aW] at hc;refine aA hc rfl ?_;have u:∀ X Y:Nat,nl X≤256→nl Y≤256→Y≤X→aH C 37 [aJ (aI X),aJ (aI Y)] .nil (aF (.tup [aJ (aI (X-Y)),.int .i64 0])):=by intro X Y W Z h;have:=L.sub (aI X) (aI Y) (aX _) (aX _) (by rw[bB]; omega) (by rw[bB]; omega);have h3:=fT (Om:X-Y≤X);rw[aW,aW,rR,hL Om Om,if_neg (by decide),if_neg Om,AG Om] at this;exact this
    by_cases g:B≤A
    ·have U:dQ A B≥0:=(UO A B).2 g;rw[if_pos g];simp only[go_sem,U,ahO];refine aA (u A B Om Om g) rfl ?_;simp only[go_sem,ahP];have h3:=fT (Om:A-B≤A);refine aA (low i (A-B) Om) rfl ?_;simp only[go_sem];refine aA (w i _) rfl ?_;obtain⟨d,x,y,e,p⟩:=tY (iH i (A-B) D);rw[p];simp only[go_sem];rw[← p];exact fin _ _ _ ⟨d,x,y,e,p,by simp only[go_sem],by simp only[go_sem],by simp only[go_sem]⟩
    ·have U:¬ dQ A B≥0:=fun h=>g ((UO A B).1 h);rw[if_neg g];simp only[go_sem,U,Uu];refine aA (u B A Om Om Om) rfl ?_;simp only[go_sem,Uv];have h3:=fT (Om:B-A≤B);refine aA (low l (B-A) Om) rfl ?_;simp only[go_sem];refine aA (w l _) rfl ?_;obtain⟨d,x,y,e,p⟩:=tY (iH l (B-A) D);rw[p];simp only[go_sem];rw[← p];exact fin _ _ _ ⟨d,x,y,e,p,by simp only[go_sem],by simp only[go_sem],by simp only[go_sem]⟩
theorem ahG {C:Ctx} (L:vK C) (x y:RF) (c:x.Ok) (d:y.Ok):CD.wp C (aV Ut.res (bZ (frV (gJ x.v y.v)))) (PF.args [.agg x.cells,.agg y.cells]) .nil :=
 aCZ L x.neg y.neg x.num x.den y.num y.den c.1 c.2.1 d.1 d.2.1 c.2.2.1 c.2.2.2 d.2.2.1 d.2.2.2
structure Hl (C:Ctx):Prop extends vK C where
 less:∀ x y:RF,x.Ok→y.Ok→x.valid→y.valid→aH C 49 [.agg x.cells,.agg y.cells] .nil (aF (.bool (decide (pN x y<0))))
 same:∀ x y:RF,x.Ok→y.Ok→x.valid→y.valid→aH C 53 [.agg x.cells,.agg y.cells] .nil (aF (.bool (pN x y==0)))
 sign:∀ x:RF,x.Ok→x.valid→aH C 54 [.agg x.cells] .nil (aF (.int .i64 (rG x)))
 plus:∀ x y:RF,x.Ok→y.Ok→aH C 46 [.agg x.cells,.agg y.cells] .nil (aF (frV (gJ x.v y.v)))
def vsF (l:List RF) (o2 o4 k:Nat):PF:=((((PF.nil.set 0 (frs l)).set 2 (.ptr o2 3 0 0)).set 4 (.ptr o4 3 0 0)).set 5 (.int .i64 k))
theorem ahU {C:Ctx} (L:Hl C) (l:List RF) (hl:∀ x∈l,x.Ok) (V:l.length≤9223372036854775807) :
  TX.wp C (aV arB.res (bZ (frV (nH (l.map RF.v))))) (PF.args [frs l]) .nil:=by
 have Y:dB 0:=by unfold dB; omega
 have hi:(mkT 0 1).cells=(FV.rf (false,0,1)).cells:=by rw[FW]; rfl
 have u:=L.int 0 Y;rw[hi] at u;simp only[go_sem,TX,ahV,arB];refine aR fun o2 β=>?_;have Z:aN (PH.nil.set o2 (.rows 3 [[.bool false,.aB,.aB]])) [(o2,.rows 3 [[.bool false,.aB,.aB]])] []:=aN.nil.new (H:=PH.nil) rfl _;generalize (PH.nil.set o2 _)=H1 at *
 simp only[go_sem,ahW];refine aA u rfl ?_;simp only[go_sem];refine aR fun o4 S=>?_;have h2:=Z.new S (.rows 3 [(FV.rf (false,0,1)).cells]);simp only[go_sem,ahX];refine wp_loop (α:=Nat × FV × PH) (fun t=>vsF l o2 o4 t.1) (fun t=>t.2.2) (fun t=>t.1≤l.length∧((l.map RF.v).take t.1).foldlM gJ (false,0,1)=.ok t.2.1∧aN t.2.2 [(o2,.rows 3 [[.bool false,.aB,.aB]]),(o4,.rows 3 [(FV.rf t.2.1).cells])] []∧(FV.rf t.2.1).Ok) (fun t=>l.length-t.1)
  (0,(false,0,1),_) ⟨a8C _,rfl,h2,⟨aX _,aX _,?_,?_⟩⟩ ?_ b_ ?_
 ·show (aI 0).length≤_;rw[fO]; simp
 ·show (aI 1).length≤_;rw[vT]; simp
 ·unfold vsF;exact Lq
 rintro⟨k,d,U⟩ ⟨hk,K,y,p⟩;simp only at hk K y p ⊢;simp only[go_sem,ahT,ahY,vsF,a7W];by_cases hlt:k<l.length
 ·have i:(k:Int)<(l.length:Nat):=Om;have hr:(l.map RF.cells)[k]?=some (l[k]).cells:=by simp[hlt]
  have q:=L.plus (FV.rf d) l[k] p (hl _ (a7Z hlt));rw[FV.aWX] at q;have c:=WF (f:=gJ) (l.map RF.v) (false,0,1) (k:=k) (by simpa using hlt);rw[K] at c;simp only[Except.bind,a9R] at c;have N:=y.at 1 rfl;simp only[go_sem,i];refine bV .nil (fun _ _=>some ([],fun _=>aF (frV (gJ d (l[k]).v)))) a_ ?_;simp only[go_sem,ahZ,N,hr];refine bO rfl q rfl a_ ?_;cases J:gJ d (l[k]).v with
  | error e =>
   have R:e≠0:=by
    revert J;obtain⟨n1,a1,b1⟩:=d;obtain⟨n2,a2,b2⟩:=(l[k]).v;simp only[gJ,iH]
    repeat' split
    all_goals (intro h; first | (injection h with h; subst h; decide) | cases h)
   rw[J] at c;simp only[go_sem,frV];refine aR fun o6 w=>?_;simp only[go_sem];refine⟨a_,?_⟩;have A:=y.new w (.rows 3 [[.bool false,aJ [],aJ []]]);have M:=A.at 0 rfl;simp only[go_sem,x4,dN R,aiA,M];rw[nH,jn _ _ c];refine hM ?_;simp only[go_sem]
  | ok r =>
   rw[J] at c;obtain⟨F,B,E⟩:=r;simp only[go_sem,frV];refine aR fun o6 w=>?_;simp only[go_sem];refine⟨a_,?_⟩;have A:=y.new w (.rows 3 [(FV.rf (F,B,E)).cells]);have X:=A.at 2 rfl;have O:=A.at 1 rfl;generalize hG:U.set o6 (.rows 3 [(FV.rf (F,B,E)).cells])=W at *
   have Q:U.set o6 (.rows 3 [[.bool F,aJ (aI B),aJ (aI E)]])=W:=hG;simp only[go_sem,x4,aiB,Q,X,O,aiC,wZz k];have h7:=(A.set 1 rfl (.rows 3 [(FV.rf (F,B,E)).cells])).sO 2;refine aD (k+1,(F,B,E),_) ⟨hlt,c,h7,uv J⟩ (by simp only; omega) ?_ b_;exact Lq
 ·have i:¬ (k:Int)<(l.length:Nat):=Om;have:k=l.length:=Om;subst this;rw[a8S (by simp)] at K;rw[nH,K];have M:=y.at 0 rfl;have N:=y.at 1 rfl;obtain⟨n,a,b⟩:=d;simp only[go_sem,i,Vo,N,M];exact bA (.inr rfl) .nil (vs:=[.agg (FV.rf (n,a,b)).cells,.int .i64 0]) Sq a_ ⟨.refl _,rfl⟩
theorem dge {n:Nat} (k:Nat):decide ((n:Int)≥(k:Int))=decide (k≤n):=decide_eq_decide.2 Om
theorem dle {n:Nat} (k:Nat):decide ((n:Int)≤(k:Int))=decide (n≤k):=decide_eq_decide.2 Om
theorem su {C:Ctx} (n:Nat):AN.wp C (aV VV.res (aF (.bool (eO n)))) (PF.args [.int .u8 n]) .nil:=by
 have e:=dge (n:=n) 97;have i:=dle (n:=n) 122;have l:=dge (n:=n) 65;have p:=dle (n:=n) 90;simp only[Int.cast_ofNat_Int] at e i l p;unfold eO;generalize decide (97≤n)=a at *
 generalize decide (n≤122)=b at *
 generalize decide (65≤n)=c at *
 generalize decide (n≤90)=d at *
 cases a<;>cases b<;>cases c<;>cases d
 all_goals
  simp only[go_sem,AN,sv,sw,VV,e,i,l,p];refine aQ (.inr rfl) rfl ?_;rfl
theorem Gb {C:Ctx} (n:Nat):ET.wp C (aV r8.res (aF (.bool (kK n)))) (PF.args [.int .u8 n]) .nil:=by
 have c:=dge (n:=n) 48;have d:=dle (n:=n) 57;simp only[Int.cast_ofNat_Int] at c d;unfold kK;generalize decide (48≤n)=a at *
 generalize decide (n≤57)=b at *
 cases a<;>cases b
 all_goals
  simp only[go_sem,ET,Gc,Gd,r8,c,d];refine aQ (.inr rfl) rfl ?_;rfl
theorem r9 {C:Ctx} (c:∀ n:Nat,aH C 65 [.int .u8 n] .nil (aF (.bool (eO n)))) (d:∀ n:Nat,aH C 63 [.int .u8 n] .nil (aF (.bool (kK n)))) (n:Nat) :
  AL.wp C (aV VT.res (aF (.bool (fL n)))) (PF.args [.int .u8 n]) .nil:=by
 have g1:((n:Int)==45)=decide (n=45):=by by_cases h:n=45<;>simp[h]; omega
 have g2:((n:Int)==46)=decide (n=46):=by by_cases h:n=46<;>simp[h]; omega
 have k1:=c n;have k2:=d n;unfold fL;generalize decide (n=45)=a at *
 generalize decide (n=46)=b at *
 simp only[go_sem,AL,sa,sb,VT];refine aA k1 rfl ?_;cases eO n with
 | true =>simp only[go_sem];refine aQ (.inr rfl) rfl ?_;rfl
 | false =>
  simp only[go_sem];refine aA k2 rfl ?_;cases kK n<;>cases a<;>cases b
  all_goals
   simp only[go_sem,g1,g2];refine aQ (.inr rfl) rfl ?_;rfl
theorem se {C:Ctx} (y:∀ n:Nat,aH C 65 [.int .u8 n] .nil (aF (.bool (eO n)))) (A:∀ n:Nat,aH C 64 [.int .u8 n] .nil (aF (.bool (fL n)))) (s:List UInt8) :
  AM.wp C (aV VU.res (aF (.bool (isName s)))) (PF.args [.str s]) .nil:=by
 simp only[go_sem,AM,sf,sg,VU];cases s with
 | nil =>have x:decide (((0:Nat):Int)<1)=true:=rfl;simp only[go_sem,xR,baM,x];refine aQ (.inr rfl) rfl ?_;rfl
 | cons c t =>
  have B:(c::t)[0]?=some c:=rfl;have i:isName (c::t)=(decide ((c::t).length≤16)&&eO c.toNat&&(c::t).all fun c=>fL c.toNat):=rfl;have e:¬ (((c::t).length:Nat):Int)<1:=by simp only[a9O]; omega
  generalize c::t=s at *
  by_cases w:s.length≤16
  ·have l:¬ (s.length:Int)>16:=Om;rw[decide_eq_true w,a8H] at i;have k1:=y c.toNat;simp only[go_sem,e,l,B,a9M];refine aA k1 rfl ?_;cases u:eO c.toNat with
   | false =>simp only[go_sem,a8N,xR];refine aQ (.inr rfl) rfl ?_;rw[bP,i,u,a8F]
   | true =>
    rw[u,a8H] at i;simp only[go_sem,a8B,sj];refine wp_loop (α:=Nat) (fun k=>((PF.nil.set 0 (.str s)).set 3 (.int .i64 k))) (fun _=>.nil) (fun k=>k≤s.length∧(s.take k).all (fun c=>fL c.toNat)=true) (fun k=>s.length-k) 0 ⟨a8C _,rfl⟩ Lq a_ ?_;rintro k ⟨E,p⟩;simp only[go_sem,sd,sk];by_cases hlt:k<s.length
    ·have d:(k:Int)<(s.length:Nat):=Om;have q:s[k]?=some s[k]:=a8K hlt;have k2:=A (s[k]).toNat;simp only[go_sem,d,sm,q,a9M];refine aA k2 rfl ?_;cases hi:fL (s[k]).toNat with
     | false =>simp only[go_sem,a8N,sn];refine aQ (.inr rfl) rfl ?_;rw[bP,i,pF hlt hi]
     | true =>simp only[go_sem,a8B,so,wZz k];exact aD (k+1) ⟨hlt,by simpa using pE hlt p hi⟩ Om Lq b_
    ·have d:¬ (k:Int)<(s.length:Nat):=Om;have:k=s.length:=Om;subst this;rw[a8Y] at p;simp only[go_sem,d,sr];refine aQ (.inr rfl) rfl ?_;rw[bP,i,p]
  ·have l:(s.length:Int)>16:=Om;rw[decide_eq_false w,a8F,a8F] at i;simp only[go_sem,e,l,xR];refine aQ (.inr rfl) rfl ?_;rw[bP,i]
def GX (k m:Int):Bool:=within k 1 6&&(within m 0 4&&decide (k+m≤8))
theorem S0 {C:Ctx} (k m:Int):nY.wp C (aV BU.res (aF (.bool (GX k m)))) (PF.args [.int .i64 k,.int .i64 m]) .nil:=by
 unfold GX within;by_cases c:1≤k
 ·by_cases d:k≤6
  ·by_cases e:0≤m
   ·by_cases i:m≤4
    ·have l:IntKind.i64.wrap (k+m)=k+m:=wrap_i64 Om Om;simp only[go_sem,nY,uN,uO,BU,ge_iff_le,c,d,e,i,l];refine aQ (.inr rfl) rfl ?_;simp[bP,c,d,e,i]
    ·simp only[go_sem,nY,uN,uO,BU,ge_iff_le,c,d,e,i];refine aQ (.inr rfl) rfl ?_;simp[bP,c,d,e,i]
   ·simp only[go_sem,nY,uN,uO,BU,ge_iff_le,c,d,e];refine aQ (.inr rfl) rfl ?_;simp[bP,c,d,e]
  ·simp only[go_sem,nY,uN,uO,BU,ge_iff_le,c,d];refine aQ (.inr rfl) rfl ?_;simp[bP,c,d]
 ·simp only[go_sem,nY,uN,uO,BU,ge_iff_le,c];refine aQ (.inr rfl) rfl ?_;simp[bP,c]
def Gx:Rg:=[iA 1 (.box true (Tm 0)),iT 2 false]
def Gy:Rg:=[iO 6 3 1,iK 7 52 6,iM 5 7,iE 8 5 0,iE 9 5 1,iA 3 (.alloc [zB,.aB,.aB]),iS 3 3 8,iM 4 9]
def CF:Rg:=[iM 10 4,iC 11 .eql 10 0,iM 12 11,gF 13 0 3 12 true,gL 14 13 12 true,iG 15 (.un .not (Tm 14)) 12 true,iP 16 12 15,iM 17 16,gF 18 1 3 17 true,gL 19 18 17 true,gN 20 19 17 true,gC 21 .leq 20 1 17 true,iP 22 17 21,iM 23 22,gF 24 2 3 23 true,gL 25 24 23 true,gN 26 25 23 true,gC 27 .leq 26 1 23 true,iP 28 23 27,iM 2 28]
def EZ:aC:=(sq Gx (sq Gy (sq CF .ret)))
def aDP:List Nat:=[1]
def tc:aS:=⟨1,29,EZ,[.tmp 2]⟩
def tf:Rg:=[iT 4 false]
def tg:Rg:=[iM 6 0,iN 7 6,iM 8 1,iB 9 .neq 7 8]
def th:Rg:=[iT 4 false]
def ti:Rg:=[iI 5 0]
def tj:Rg:=[iM 10 5,iM 11 1,iB 12 .lss 10 11]
def tk:Rg:=[iM 15 0,iM 16 5,iX 17 3 15 16,iO 18 3 17,iK 19 74 18,iA 20 (.un .not (Tm 19))]
def tp:Rg:=[iT 4 false]
def tq:Rg:=[iM 13 5,iC 14 .add 13 1,iM 5 14]
def td:aC:=(.seq (sq tj (.cond (Tm 12) .skip (.exit 0))) (.seq (.block 1 (sq tk (.cond (Tm 20) (sq tp .ret) .skip))) (.region tq)))
def tr:Rg:=[iT 4 true]
def AP:aC:=(sq tf (.seq (sq tg (.cond (Tm 9) (sq th .ret) .skip)) (.seq (sq ti (.block 0 (.loop td))) (sq tr .ret))))
def arP:List Nat:=[]
def VW:aS:=⟨2,21,AP,[.tmp 4]⟩
def aiK:Rg:=[iA 1 (.box true (Tm 0)),iT 2 false]
def aiL:Rg:=[iF 12 1 1,iL 13 12,iN 14 13,iM 3 14]
def aiM:Rg:=[iM 15 3,iC 16 .lss 15 1,iM 17 16,gM 18 3 17 false,gC 19 .gtr 18 4 17 false,iQ 20 17 19,iM 21 20,gF 22 1 1 21 false,gL 23 22 21 false,gM 24 3 21 false,gK2 25 75 23 24 21 false,iG 26 (.un .not (Tm 25)) 21 false,iQ 27 21 26,iM 28 27,gF 29 3 1 28 false,gL 30 29 28 false,gM 31 3 28 false,gK2 32 75 30 31 28 false,iG 33 (.un .not (Tm 32)) 28 false,iQ 34 28 33,iM 35 34,gF 36 2 1 35 false,gL 37 36 35 false,gN 38 37 35 false,gM 39 3 35 false,gB 40 .neq 38 39 35 false,iQ 41 35 40]
def yT:Rg:=[iT 2 false]
def aiN:Rg:=[iI 4 0]
def aiO:Rg:=[iM 42 4,iM 43 3,iB 44 .lss 42 43]
def aiP:Rg:=[iF 47 2 1,iL 48 47,iM 49 4,iX 50 1 48 49,iL 51 50,iM 52 3,iK2 53 75 51 52,iA 54 (.un .not (Tm 53)),iM 55 54,gF 56 2 1 55 false,gL 57 56 55 false,gM 58 4 55 false,iG 59 (.a7C 1 (Tm 57) (Tm 58)) 55 false,gL 60 59 55 false,gM 61 4 55 false,iG 62 (.a7C 3 (Tm 60) (Tm 61)) 55 false,gO 63 3 62 55 false,gK 64 54 63 55 false,gC 65 .neq 64 0 55 false,iQ 66 55 65]
def x7:Rg:=[iT 2 false]
def aiQ:Rg:=[iM 45 4,iC 46 .add 45 1,iM 4 46]
def aiI:aC:=(.seq (sq aiO (.cond (Tm 44) .skip (.exit 0))) (.seq (.block 1 (sq aiP (.cond (Tm 66) (sq x7 .ret) .skip))) (.region aiQ)))
def Vu:Rg:=[iF 68 1 1,iL 69 68,iK 70 55 69,iM 67 70,iE 71 67 0,iE 72 67 1,iA 5 (.alloc [zB,.aB,.aB]),iS 3 5 71,iM 6 72]
def fe:Rd:=[(iM 73 6,false),(iC 74 .neq 73 0,false),(iM 75 74,false),(gO 76 3 5 75 false,true),(iG 77 (.call 47 [(Ci 1)]) 75 false,true),(gK2 78 53 76 77 75 false,true),(iG 79 (.un .not (Tm 78)) 75 false,false),(iQ 80 75 79,false)]
def ff:Rg:=[iT 2 false]
def Vv:Rg:=[iM 81 3,iA 82 (.a6T 1 1 [zB] (Tm 81) (Tm 81)),iM 7 82]
def Vw:Rg:=[iI 8 0]
def Vx:Rg:=[iM 83 8,iM 84 3,iB 85 .lss 83 84]
def Vy:Rg:=[iI 9 0]
def Vz:Rg:=[iM 88 9,iM 89 3,iB 90 .lss 88 89]
def fg:Rg:=[iM 93 7,iM 94 9,iM 95 7,iM 96 9,iX 97 1 95 96,iL 98 97,iM 99 98,gF 100 3 1 99 false,gL 101 100 99 false,gM 102 9 99 false,iG 103 (.a7C 3 (Tm 101) (Tm 102)) 99 false,gO 104 3 103 99 false,gK 105 54 104 99 false,gC 106 .gtr 105 0 99 false,iQ 107 99 106,iX 108 1 93 94,iS 1 108 107]
def fh:Rg:=[iI 10 0]
def V0:Rg:=[iM 109 10,iM 110 3,iB 111 .lss 109 110]
def fi:Rg:=[iM 114 7,iM 115 9,iM 116 7,iM 117 9,iX 118 1 116 117,iL 119 118,iM 120 119,gF 121 2 1 120 false,gL 122 121 120 false,gM 123 9 120 false,iG 124 (.a7C 1 (Tm 122) (Tm 123)) 120 false,gL 125 124 120 false,gM 126 10 120 false,iG 127 (.a7C 3 (Tm 125) (Tm 126)) 120 false,gO 128 3 127 120 false,gK 129 54 128 120 false,gC 130 .gtr 129 0 120 false,gM 131 130 120 false,gM 132 7 131 true,gM 133 10 131 true,iG 134 (.a7C 1 (Tm 132) (Tm 133)) 131 true,gL 135 134 131 true,iG 136 (.pick (Tm 131) (Tm 135) (.const zB)) 120 false,iQ 137 120 136,iX 138 1 114 115,iS 1 138 137]
def MQ:Rg:=[iM 112 10,iC 113 .add 112 1,iM 10 113]
def MP:aC:=(.seq (sq V0 (.cond (Tm 111) .skip (.exit 6))) (.seq (.block 7 (.region fi)) (.region MQ)))
def fj:Rg:=[iM 91 9,iC 92 .add 91 1,iM 9 92]
def e7:aC:=(.seq (sq Vz (.cond (Tm 90) .skip (.exit 4))) (.seq (.block 5 (sq fg (sq fh (.block 6 (.loop MP))))) (.region fj)))
def V1:Rg:=[iM 86 8,iC 87 .add 86 1,iM 8 87]
def fa:aC:=(.seq (sq Vx (.cond (Tm 85) .skip (.exit 2))) (.seq (.block 3 (sq Vy (.block 4 (.loop e7)))) (.region V1)))
def V2:Rg:=[iI 11 0]
def V3:Rg:=[iM 139 11,iM 140 3,iB 141 .lss 139 140]
def fk:Rg:=[iM 144 7,iM 145 11,iX 146 1 144 145,iL 147 146,iA 148 (.un .not (Tm 147))]
def V4:Rg:=[iT 2 false]
def V5:Rg:=[iM 142 11,iC 143 .add 142 1,iM 11 143]
def fc:aC:=(.seq (sq V3 (.cond (Tm 141) .skip (.exit 8))) (.seq (.block 9 (sq fk (.cond (Tm 148) (sq V4 .ret) .skip))) (.region V5)))
def fl:Rg:=[iT 2 true]
def UD:aC:=(sq aiK (sq aiL (.seq (sq aiM (.cond (Tm 41) (sq yT .ret) .skip)) (.seq (sq aiN (.block 0 (.loop aiI))) (.seq (sq Vu (dq fe (.cond (Tm 80) (sq ff .ret) .skip))) (sq Vv (.seq (sq Vw (.block 2 (.loop fa))) (.seq (sq V2 (.block 8 (.loop fc))) (sq fl .ret)))))))))
def aUR:List Nat:=[1]
def arN:aS:=⟨1,149,UD,[.tmp 2]⟩
def aiT:Rg:=[iT 4 false]
def aiU:Rg:=[iM 6 0,iM 7 1,iA 8 (.a7G true (Tm 7) (Ci 1)),iK2 9 75 6 8,iA 10 (.un .not (Tm 9))]
def aiV:Rg:=[iT 4 false]
def aiW:Rg:=[iI 5 0]
def aiX:Rg:=[iM 11 5,iM 12 0,iN 13 12,iB 14 .lss 11 13]
def aiY:Rg:=[iM 17 0,iM 18 5,iX 19 3 17 18,iO 20 3 19,iK 21 54 20,iC 22 .eql 21 0]
def aiZ:Rg:=[iT 4 false]
def ajA:Rg:=[iM 15 5,iC 16 .add 15 1,iM 5 16]
def aiR:aC:=(.seq (sq aiX (.cond (Tm 14) .skip (.exit 0))) (.seq (.block 1 (sq aiY (.cond (Tm 22) (sq aiZ .ret) .skip))) (.region ajA)))
def ajB:Rg:=[iT 4 true]
def UE:aC:=(sq aiT (.seq (sq aiU (.cond (Tm 10) (sq aiV .ret) .skip)) (.seq (sq aiW (.block 0 (.loop aiR))) (sq ajB .ret))))
def aUS:List Nat:=[]
def arO:aS:=⟨2,23,UE,[.tmp 4]⟩
def NK:Rg:=[iT 6 false]
def NL:Rg:=[iM 7 0,iM 8 1,iB 9 .geq 7 8,iM 10 9,gM 11 0 10 true,gM 12 2 10 true,gB 13 .leq 11 12 10 true,iP 14 10 13,iM 6 14]
def tV:aC:=(sq NK (sq NL .ret))
def arQ:List Nat:=[]
def GM:aS:=⟨3,15,tV,[.tmp 6]⟩
def Gu:Rg:=[iT 12 false]
def Gv:Rg:=[iM 13 0,iC 14 .leq 13 4,iM 15 14,gM 16 1 15 true,gC 17 .leq 16 4 15 true,iP 18 15 17,iM 19 18,gM 20 2 19 true,gC 21 .leq 20 40 19 true,iP 22 19 21,iM 23 22,gM 24 3 23 true,gC 25 .leq 24 24 23 true,iP 26 23 25,iM 27 26,gM 28 4 27 true,gC 29 .leq 28 4 27 true,iP 30 27 29,iM 31 30,gM 32 5 31 true,gC 33 .leq 32 12 31 true,iP 34 31 33,iM 12 34]
def EY:aC:=(sq Gu (sq Gv .ret))
def aDO:List Nat:=[]
def ta:aS:=⟨6,35,EY,[.tmp 12]⟩
def ZA:Rg:=[iA 7 (.box true (Tm 3)),iT 8 false]
def ZB:Rg:=[iM 10 0,iM 11 1,iK2 12 61 10 11,iA 13 (.un .not (Tm 12)),iM 14 13,gM 15 2 14 false,gM 16 0 14 false,gM 17 0 14 false,gM 18 1 14 false,gB 19 .add 17 18 14 false,iG 20 (.call 76 [(Tm 15),(Tm 16),(Tm 19)]) 14 false,iG 21 (.un .not (Tm 20)) 14 false,iQ 22 14 21,iM 23 22,iG 24 (.idxA 5 1 (Tm 7) (Ci 0)) 23 false,gL 25 24 23 false,gC 26 .neq 25 0 23 false,iQ 27 23 26]
def vI:Rg:=[iT 8 false]
def ZC:Rg:=[iI 9 1]
def ZD:Rg:=[iM 28 9,iC 29 .lss 28 5]
def EX:Rg:=[iM 32 9,iA 33 (.idxA 5 1 (Tm 7) (Tm 32)),iL 34 33,iA 35 (.call 76 [(Tm 34),(Ci 0),(Ci 8)]),iA 36 (.un .not (Tm 35))]
def ZE:Rg:=[iT 8 false]
def ZF:Rg:=[iM 30 9,iC 31 .add 30 1,iM 9 31]
def YY:aC:=(.seq (sq ZD (.cond (Tm 29) .skip (.exit 0))) (.seq (.block 1 (sq EX (.cond (Tm 36) (sq ZE .ret) .skip))) (.region ZF)))
def ZG:Rg:=[iT 8 true]
def wL:aC:=(sq ZA (.seq (sq ZB (.cond (Tm 27) (sq vI .ret) .skip)) (.seq (sq ZC (.block 0 (.loop YY))) (sq ZG .ret))))
def Yc:List Nat:=[7]
def MR:aS:=⟨4,37,wL,[.tmp 8]⟩
def aiG:Rg:=[iA 6 (.box true (Tm 2)),iA 7 (.box true (Tm 3)),iT 8 false]
def aiH:Rd:=[(iM 9 1,false),(iM 10 0,false),(iK2 11 66 9 10,true),(iM 12 11,false),(gO 13 3 6 12 true,false),(gK 14 74 13 12 true,true),(iP 15 12 14,false),(iM 16 15,false),(iG 17 (.call 47 [(Ci 1)]) 16 true,true),(gO 18 3 6 16 true,true),(gK2 19 49 17 18 16 true,true),(iG 20 (.un .not (Tm 19)) 16 true,false),(iP 21 16 20,false),(iM 22 21,false),(gO 23 3 7 22 true,false),(gK 24 74 23 22 true,true),(iP 25 22 24,false),(iM 8 25,false)]
def UB:aC:=(sq aiG (dq aiH .ret))
def aUQ:List Nat:=[6,7]
def arM:aS:=⟨4,26,UB,[.tmp 8]⟩
def Gm:Rg:=[iI 4 0]
def Gn:Rg:=[iI 5 0]
def Gp:Rg:=[iM 6 5,iM 7 0,iN 8 7,iB 9 .lss 6 8]
def UC:Rg:=[iM 12 0,iM 13 5,iX 14 1 12 13,iL 15 14,iM 16 1,iB 17 .eql 15 16]
def Gq:Rg:=[iM 18 5,iM 4 18]
def Gr:Rg:=[iM 10 5,iC 11 .add 10 1,iM 5 11]
def Gk:aC:=(.seq (sq Gp (.cond (Tm 9) .skip (.exit 0))) (.seq (.block 1 (sq UC (.cond (Tm 17) (sq Gq .ret) .skip))) (.region Gr)))
def Gs:Rg:=[iI 4 (-1)]
def EW:aC:=(sq Gm (.seq (sq Gn (.block 0 (.loop Gk))) (sq Gs .ret)))
def aDM:List Nat:=[]
def s9:aS:=⟨2,19,EW,[.tmp 4]⟩
def Gz:Rg:=[iA 1 (.box true (Tm 0)),iT 2 false]
def G1:Rg:=[iF 22 0 1,iL 23 22,iA 24 (.call 76 [(Tm 23),(Ci 1),(Ci 4)]),iA 25 (.un .not (Tm 24)),iM 26 25,gF 27 1 1 26 false,gL 28 27 26 false,gN 29 28 26 false,gF 30 2 1 26 false,gL 31 30 26 false,gN 32 31 26 false,gF 33 3 1 26 false,gL 34 33 26 false,gN 35 34 26 false,gF 36 4 1 26 false,gL 37 36 26 false,gN 38 37 26 false,gF 39 5 1 26 false,gL 40 39 26 false,gN 41 40 26 false,gF 42 6 1 26 false,gL 43 42 26 false,gN 44 43 26 false,iG 45 (.call 73 [(Tm 29),(Tm 32),(Tm 35),(Tm 38),(Tm 41),(Tm 44)]) 26 false,iG 46 (.un .not (Tm 45)) 26 false,iQ 47 26 46,iM 48 47,gF 49 3 1 48 false,gL 50 49 48 false,gN 51 50 48 false,gC 52 .eql 51 0 48 false,iQ 53 48 52]
def CG:Rg:=[iT 2 false]
def G2:Rg:=[iZ 3,iZ 4,iZ 5,iZ 6,iZ 7]
def G3:Rg:=[iT 8 true]
def G4:Rg:=[iI 9 0]
def G5:Rg:=[iM 54 9,iF 55 1 1,iL 56 55,iN 57 56,iB 58 .lss 54 57,iM 59 58,gM 60 8 59 true,iP 61 59 60]
def G6:Rg:=[iM 65 3,iF 66 1 1,iL 67 66,iM 68 9,iX 69 4 67 68,iF 70 0 69,iL 71 70,iK2 72 70 65 71,iM 64 72,iE 73 64 0,iE 74 64 1,iM 3 73,iM 8 74]
def UF:Rg:=[iM 75 8,iM 76 75,gF 77 1 1 76 true,gL 78 77 76 true,gM 79 9 76 true,iG 80 (.a7C 4 (Tm 78) (Tm 79)) 76 true,gO 81 4 80 76 true,gK 82 68 81 76 true,iP 83 76 82,iM 8 83]
def UG:Rg:=[iM 62 9,iC 63 .add 62 1,iM 9 63]
def MS:aC:=(.seq (sq G5 (.cond (Tm 61) .skip (.exit 0))) (.seq (.block 1 (sq G6 (.region UF))) (.region UG)))
def tu:Rg:=[iI 10 0]
def tv:Rg:=[iM 84 10,iF 85 2 1,iL 86 85,iN 87 86,iB 88 .lss 84 87,iM 89 88,gM 90 8 89 true,iP 91 89 90]
def tw:Rg:=[iF 94 2 1,iL 95 94,iM 96 10,iX 97 4 95 96,iO 98 4 97,iA 11 (.alloc [(.str []),zI,zI,zI]),iS 4 11 98]
def tx:Rg:=[iM 100 4,iF 101 0 11,iL 102 101,iK2 103 70 100 102,iM 99 103,iE 104 99 0,iE 105 99 1,iM 4 104,iM 8 105]
def MV:Rg:=[iM 106 8,iM 107 106,gF 108 1 11 107 true,gL 109 108 107 true,iG 110 (.call 76 [(Tm 109),(Ci 1),(Ci 16)]) 107 true,iP 111 107 110,iM 112 111,gF 113 2 11 112 true,gL 114 113 112 true,iG 115 (.call 76 [(Tm 114),(Ci 1),(Ci 64)]) 112 true,iP 116 112 115,iM 117 116,gF 118 3 11 117 true,gL 119 118 117 true,gF 120 1 1 117 true,gL 121 120 117 true,gN 122 121 117 true,gC 123 .sub 122 1 117 true,iG 124 (.call 76 [(Tm 119),(Ci 0),(Tm 123)]) 117 true,iP 125 117 124,iM 8 125]
def tR:Rg:=[iM 92 10,iC 93 .add 92 1,iM 10 93]
def MT:aC:=(.seq (sq tv (.cond (Tm 91) .skip (.exit 2))) (.seq (.block 3 (sq tw (sq tx (.region MV)))) (.region tR)))
def tz:Rg:=[iF 126 3 1,iL 127 126,iA 128 (.a7C 7 (Tm 127) (Ci 0)),iO 129 7 128,iA 12 (.alloc [(.str []),zI,zI,zI,zB,.aB,.aB]),iS 7 12 129]
def MW:Rg:=[iM 130 8,iM 131 130,gF 132 0 12 131 true,gL 133 132 131 true,iG 134 (.bin .eql (Tm 133) (.const (.str []))) 131 true,iP 135 131 134,iM 136 135,gF 137 1 12 136 true,gL 138 137 136 true,gC 139 .eql 138 0 136 true,iP 140 136 139,iM 141 140,gF 142 2 12 141 true,gL 143 142 141 true,gC 144 .eql 143 (-1) 141 true,iP 145 141 144,iM 146 145,gF 147 3 12 146 true,gL 148 147 146 true,gC 149 .eql 148 0 146 true,iP 150 146 149,iM 151 150,gF 152 4 12 151 true,gO 153 3 152 151 true,gK 154 56 153 151 true,iP 155 151 154,iM 156 155,gF 157 4 12 156 true,gO 158 3 157 156 true,gK 159 54 158 156 true,gC 160 .eql 159 0 156 true,iP 161 156 160,iM 8 161]
def MX:Rg:=[iI 13 1]
def t6:Rg:=[iM 162 13,iF 163 3 1,iL 164 163,iN 165 164,iB 166 .lss 162 165,iM 167 166,gM 168 8 167 true,iP 169 167 168]
def t7:Rg:=[iF 172 3 1,iL 173 172,iM 174 13,iX 175 7 173 174,iO 176 7 175,iA 14 (.alloc [(.str []),zI,zI,zI,zB,.aB,.aB]),iS 7 14 176]
def t8:Rg:=[iM 178 5,iF 179 0 14,iL 180 179,iK2 181 70 178 180,iM 177 181,iE 182 177 0,iE 183 177 1,iM 5 182,iM 8 183]
def MY:Rd:=[(iM 184 8,false),(iM 185 184,false),(gF 186 1 14 185 true,false),(gL 187 186 185 true,false),(iG 188 (.call 76 [(Tm 187),(Ci 1),(Ci 4)]) 185 true,true),(iP 189 185 188,false),(iM 190 189,false),(gF 191 2 14 190 true,false),(gL 192 191 190 true,false),(gM 193 13 190 true,false),(gC 194 .sub 193 1 190 true,false),(iG 195 (.call 76 [(Tm 192),(Ci 0),(Tm 194)]) 190 true,true),(iP 196 190 195,false),(iM 197 196,false),(gF 198 3 1 197 true,false),(gL 199 198 197 true,false),(gF 200 2 14 197 true,false),(gL 201 200 197 true,false),(iG 202 (.a7C 7 (Tm 199) (Tm 201)) 197 true,false),(gF 203 1 202 197 true,false),(gL 204 203 197 true,false),(gF 205 1 14 197 true,false),(gL 206 205 197 true,false),(gC 207 .sub 206 1 197 true,false),(gB 208 .eql 204 207 197 true,false),(iP 209 197 208,false),(iM 210 209,false),(gF 211 3 14 210 true,false),(gL 212 211 210 true,false),(iG 213 (.call 76 [(Tm 212),(Ci 1),(Ci 64)]) 210 true,true),(iP 214 210 213,false),(iM 215 214,false),(gF 216 4 14 215 true,false),(gO 217 3 216 215 true,false),(gK 218 74 217 215 true,true),(iP 219 215 218,false),(iM 8 219,false)]
def oE:Rg:=[iM 170 13,iC 171 .add 170 1,iM 13 171]
def xT:aC:=(.seq (sq t6 (.cond (Tm 169) .skip (.exit 4))) (.seq (.block 5 (sq t7 (sq t8 (.draw MY)))) (.region oE)))
def MZ:Rg:=[iI 15 0]
def uc:Rg:=[iM 220 15,iF 221 4 1,iL 222 221,iN 223 222,iB 224 .lss 220 223,iM 225 224,gM 226 8 225 true,iP 227 225 226]
def ud:Rg:=[iF 230 4 1,iL 231 230,iM 232 15,iX 233 3 231 232,iO 234 3 233,iA 16 (.alloc [(.str []),zI,zI]),iS 3 16 234]
def ue:Rg:=[iM 236 5,iF 237 0 16,iL 238 237,iK2 239 70 236 238,iM 235 239,iE 240 235 0,iE 241 235 1,iM 5 240,iM 8 241]
def NA:Rg:=[iM 242 8,iM 243 242,gF 244 1 16 243 true,gL 245 244 243 true,gF 246 2 1 243 true,gL 247 246 243 true,gN 248 247 243 true,gC 249 .sub 248 1 243 true,iG 250 (.call 76 [(Tm 245),(Ci 0),(Tm 249)]) 243 true,iP 251 243 250,iM 252 251,gF 253 2 16 252 true,gL 254 253 252 true,gF 255 3 1 252 true,gL 256 255 252 true,gN 257 256 252 true,gC 258 .sub 257 1 252 true,iG 259 (.call 76 [(Tm 254),(Ci 0),(Tm 258)]) 252 true,iP 260 252 259,iM 261 260,gF 262 3 1 261 true,gL 263 262 261 true,gF 264 2 16 261 true,gL 265 264 261 true,iG 266 (.a7C 7 (Tm 263) (Tm 265)) 261 true,gF 267 1 266 261 true,gL 268 267 261 true,gC 269 .eql 268 4 261 true,iP 270 261 269,iM 8 270]
def tT:Rg:=[iM 228 15,iC 229 .add 228 1,iM 15 229]
def xU:aC:=(.seq (sq uc (.cond (Tm 227) .skip (.exit 6))) (.seq (.block 7 (sq ud (sq ue (.region NA)))) (.region tT)))
def NB:Rg:=[iI 17 0]
def ug:Rg:=[iM 271 17,iF 272 5 1,iL 273 272,iN 274 273,iB 275 .lss 271 274,iM 276 275,gM 277 8 276 true,iP 278 276 277]
def uh:Rg:=[iF 281 5 1,iL 282 281,iM 283 17,iX 284 17 282 283,iO 285 17 284,iA 18 (.alloc [(.str []),zI,zI,zI,zI,zI,zI,zI,zI,.aB,.aB,zB,.aB,.aB,zB,.aB,.aB]),iS 17 18 285]
def ui:Rg:=[iM 287 6,iF 288 0 18,iL 289 288,iK2 290 70 287 289,iM 286 290,iE 291 286 0,iE 292 286 1,iM 6 291,iM 8 292]
def NC:Rg:=[iM 293 8,iM 294 293,gF 295 1 18 294 true,gL 296 295 294 true,gF 297 2 18 294 true,gL 298 297 294 true,gF 299 3 18 294 true,gL 300 299 294 true,gF 301 4 18 294 true,gO 302 5 301 294 true,iG 303 (.call 72 [(Tm 296),(Tm 298),(Tm 300),(Tm 302)]) 294 true,iP 304 294 303,iM 305 304,gF 306 2 18 305 true,gL 307 306 305 true,gF 308 10 18 305 true,gL 309 308 305 true,gF 310 11 18 305 true,gO 311 3 310 305 true,gF 312 14 18 305 true,gO 313 3 312 305 true,iG 314 (.call 69 [(Tm 307),(Tm 309),(Tm 311),(Tm 313)]) 305 true,iP 315 305 314,iM 316 315,gF 317 9 18 316 true,gL 318 317 316 true,gN 319 318 316 true,gC 320 .gtr 319 0 316 true,iP 321 316 320,iM 8 321]
def tU:Rg:=[iI 19 0]
def uj:Rg:=[iM 322 19,iF 323 9 18,iL 324 323,iN 325 324,iB 326 .lss 322 325,iM 327 326,gM 328 8 327 true,iP 329 327 328]
def uk:Rd:=[(iF 332 9 18,false),(iL 333 332,false),(iM 334 19,false),(iX 335 1 333 334,false),(iL 336 335,false),(iF 337 2 1,false),(iL 338 337,false),(iN 339 338,false),(iC 340 .sub 339 1,false),(iA 341 (.call 76 [(Tm 336),(Ci 0),(Tm 340)]),true),(iM 8 341,false)]
def ul:Rg:=[iI 20 0]
def um:Rg:=[iM 342 20,iM 343 19,iB 344 .lss 342 343]
def ND:Rd:=[(iM 347 8,false),(iM 348 347,false),(gF 349 9 18 348 true,false),(gL 350 349 348 true,false),(gM 351 20 348 true,false),(iG 352 (.a7C 1 (Tm 350) (Tm 351)) 348 true,false),(gL 353 352 348 true,false),(gF 354 9 18 348 true,false),(gL 355 354 348 true,false),(gM 356 19 348 true,false),(iG 357 (.a7C 1 (Tm 355) (Tm 356)) 348 true,false),(gL 358 357 348 true,false),(gB 359 .neq 353 358 348 true,false),(iP 360 348 359,false),(iM 8 360,false)]
def NE:Rg:=[iM 345 20,iC 346 .add 345 1,iM 20 346]
def MU:aC:=(.seq (sq um (.cond (Tm 344) .skip (.exit 12))) (.seq (.block 13 (.draw ND)) (.region NE)))
def uo:Rg:=[iM 330 19,iC 331 .add 330 1,iM 19 331]
def xV:aC:=(.seq (sq uj (.cond (Tm 329) .skip (.exit 10))) (.seq (.block 11 (dq uk (sq ul (.block 12 (.loop MU))))) (.region uo)))
def NF:Rg:=[iM 279 17,iC 280 .add 279 1,iM 17 280]
def xW:aC:=(.seq (sq ug (.cond (Tm 278) .skip (.exit 8))) (.seq (.block 9 (sq uh (sq ui (sq NC (sq tU (.block 10 (.loop xV))))))) (.region NF)))
def NG:Rg:=[iI 21 0]
def uq:Rg:=[iM 361 21,iF 362 6 1,iL 363 362,iN 364 363,iB 365 .lss 361 364,iM 366 365,gM 367 8 366 true,iP 368 366 367]
def ut:Rg:=[iM 372 7,iF 373 6 1,iL 374 373,iM 375 21,iX 376 2 374 375,iF 377 0 376,iL 378 377,iK2 379 70 372 378,iM 371 379,iE 380 371 0,iE 381 371 1,iM 7 380,iM 8 381]
def NH:Rd:=[(iM 382 8,false),(iM 383 382,false),(gF 384 6 1 383 true,false),(gL 385 384 383 true,false),(gM 386 21 383 true,false),(iG 387 (.a7C 2 (Tm 385) (Tm 386)) 383 true,false),(gF 388 1 387 383 true,false),(gL 389 388 383 true,false),(gF 390 5 1 383 true,false),(gL 391 390 383 true,false),(gN 392 391 383 true,false),(gC 393 .sub 392 1 383 true,false),(iG 394 (.call 76 [(Tm 389),(Ci 0),(Tm 393)]) 383 true,true),(iP 395 383 394,false),(iM 8 395,false)]
def NI:Rg:=[iM 369 21,iC 370 .add 369 1,iM 21 370]
def xX:aC:=(.seq (sq uq (.cond (Tm 368) .skip (.exit 14))) (.seq (.block 15 (sq ut (.draw NH))) (.region NI)))
def NJ:Rg:=[iM 396 8,iM 2 396]
def FA:aC:=(sq Gz (.seq (sq G1 (.cond (Tm 53) (sq CG .ret) .skip)) (sq G2 (sq G3 (.seq (sq G4 (.block 0 (.loop MS))) (.seq (sq tu (.block 2 (.loop MT))) (sq tz (sq MW (.seq (sq MX (.block 4 (.loop xT))) (.seq (sq MZ (.block 6 (.loop xU))) (.seq (sq NB (.block 8 (.loop xW))) (.seq (sq NG (.block 14 (.loop xX))) (sq NJ .ret)))))))))))))
def aDT:List Nat:=[1]
def tt:aS:=⟨1,397,FA,[.tmp 2]⟩
def Gi:Rg:=[iZ 4,iT 5 false]
def Gj:Rg:=[iM 6 0,iM 7 1,iA 8 (.a6R true 1 1 [(.str [])] [(0,(Tm 7))]),iA 9 (.append 1 16 (Tm 6) (Tm 8)),iM 10 1,iK 11 62 10,iM 12 11,gM 13 0 12 true,gM 14 1 12 true,gK2 15 71 13 14 12 true,gC 16 .lss 15 0 12 true,iP 17 12 16,iM 4 9,iM 5 17]
def EV:aC:=(sq Gi (sq Gj .ret))
def aDL:List Nat:=[8]
def s8:aS:=⟨2,18,EV,[.tmp 4,.tmp 5]⟩
theorem uu {C:Ctx} (n lo hi:Int):tV.wp C (aV GM.res (aF (.bool (within n lo hi)))) (PF.args [.int .i64 n,.int .i64 lo,.int .i64 hi]) .nil:=by
 unfold within;by_cases h:lo≤n
 ·simp only[go_sem,tV,NK,NL,GM,ge_iff_le,h];refine aQ (.inr rfl) rfl ?_;simp[bP,h]
 ·simp only[go_sem,tV,NK,NL,GM,ge_iff_le,h];refine aQ (.inr rfl) rfl ?_;simp[bP,h]
def pR (a b c d e f:Nat):Bool:=decide (a≤4)&&(decide (b≤4)&&(decide (c≤40)&&(decide (d≤24)&&(decide (e≤4)&&decide (f≤12)))))
theorem Gt {C:Ctx} (a b c d e f:Nat):EY.wp C (aV ta.res (aF (.bool (pR a b c d e f)))) (PF.args [.int .i64 a,.int .i64 b,.int .i64 c,.int .i64 d,.int .i64 e,.int .i64 f]) .nil:=by
 have g:∀ x k:Nat,decide ((x:Int)≤(k:Int))=decide (x≤k):=fun x k=>decide_eq_decide.2 Om;have i:=g a 4;have l:=g b 4;have p:=g c 40;have q:=g d 24;have h5:=g e 4;have u:=g f 12;simp only[Int.cast_ofNat_Int] at i l p q h5 u;unfold pR;simp only[go_sem,EY,Gu,Gv,ta,i];cases decide (a≤4) with
 | false =>simp only[go_sem];refine aQ (.inr rfl) rfl ?_;rfl
 | true =>
  simp only[go_sem,l];cases decide (b≤4) with
  | false =>simp only[go_sem];refine aQ (.inr rfl) rfl ?_;rfl
  | true =>
   simp only[go_sem,p];cases decide (c≤40) with
   | false =>simp only[go_sem];refine aQ (.inr rfl) rfl ?_;rfl
   | true =>
    simp only[go_sem,q];cases decide (d≤24) with
    | false =>simp only[go_sem];refine aQ (.inr rfl) rfl ?_;rfl
    | true =>
     simp only[go_sem,h5];cases decide (e≤4) with
     | false =>simp only[go_sem];refine aQ (.inr rfl) rfl ?_;rfl
     | true =>simp only[go_sem,u];refine aQ (.inr rfl) rfl ?_;rfl
structure NY (C:Ctx):Prop extends Hl C where
 sum:∀ l:List RF,(∀ x∈l,x.Ok)→l.length≤9223372036854775807→aH C 55 [frs l] .nil (aF (frV (nH (l.map RF.v))))
 inn:∀ n lo hi:Int,aH C 76 [.int .i64 n,.int .i64 lo,.int .i64 hi] .nil (aF (.bool (within n lo hi)))
 code:∀ k m:Int,aH C 61 [.int .i64 k,.int .i64 m] .nil (aF (.bool (GX k m)))
def KB (k m q s0 s1 s2 s3 s4:Int):Bool:=GX k m&&(within q k (k+m)&&(decide (s0=0)&&(within s1 0 8&&(within s2 0 8&&(within s3 0 8&&within s4 0 8)))))
theorem aRN (p:bS):JZ p=KB p.k p.m p.a7J p.s0 p.s1 p.s2 p.s3 p.s4:=by
 unfold JZ KB GX;have:within p.s0 0 8=true∨p.s0≠0:=by
  by_cases h:p.s0=0
  ·rw[h]; exact .inl rfl
  ·exact .inr h
 simp only[List.all_cons,List.all_nil,baD];rcases this with h | h
 ·rw[h];simp only[a8H,baZ]
 ·simp only[h,decide_false,a8F,a9E]
def spR (s1 s2 s3 s4:Int) (k:Nat):Int:=match k with
 | 1=>s1
 | 2=>s2
 | 3=>s3
 | _=>s4
theorem YZ {C:Ctx} (L:NY C) (k m q s0 s1 s2 s3 s4:Int) :
  wL.wp C (aV MR.res (aF (.bool (KB k m q s0 s1 s2 s3 s4)))) (PF.args [.int .i64 k,.int .i64 m,.int .i64 q,.agg [.int .i64 s0,.int .i64 s1,.int .i64 s2,.int .i64 s3,.int .i64 s4]]) .nil:=by
 obtain⟨X,p⟩:∃ X,KB k m q s0 s1 s2 s3 s4=X:=⟨_,rfl⟩;rw[p];unfold KB at p;simp only[go_sem,wL,ZA,ZB,MR];refine aA (L.code k m) rfl ?_;cases E:GX k m with
 | false =>rw[E,a8F] at p;simp only[go_sem,a8N,vI];refine aQ (.inr rfl) rfl ?_;rw[bP,p]
 | true =>
  rw[E,a8H] at p;have R:1≤k∧k≤6∧0≤m∧m≤4:=by simp only[GX,a8O,within_iff] at E;omega
  have Q:IntKind.i64.wrap (k+m)=k+m:=wrap_i64 Om Om;simp only[go_sem,a8B,Q];refine aA (L.inn q k (k+m)) rfl ?_;cases J:within q k (k+m) with
  | false =>rw[J,a8F] at p;simp only[go_sem,a8N,vI];refine aQ (.inr rfl) rfl ?_;rw[bP,p]
  | true =>
   rw[J,a8H] at p;have B:(0:Int)<((5:Nat):Int):=by decide
   by_cases F:s0=0
   ·rw[decide_eq_true F,a8H] at p;simp only[go_sem,a8B,B,bY F,ZC];refine wp_loop (α:=Nat) (fun j=>((PF.nil.set 7 (.bH [.int .i64 s0,.int .i64 s1,.int .i64 s2,.int .i64 s3,.int .i64 s4])).set 9 (.int .i64 j))) (fun _=>.nil) (fun j=>1≤j∧j≤5∧∀ i,1≤i→i<j→within (spR s1 s2 s3 s4 i) 0 8=true) (fun j=>5-j) 1 ⟨by decide,by decide,fun i E J=>by omega⟩ Lq a_ ?_;rintro j ⟨M,N,d⟩;simp only[go_sem,YY,ZD];by_cases hlt:j<5
    ·have l:(j:Int)<5:=Om;have x:((j:Nat):Int)<((5:Nat):Int):=Om;have w:=L.inn (spR s1 s2 s3 s4 j) 0 8;obtain⟨c,u⟩:∃ c,within (spR s1 s2 s3 s4 j) 0 8=c:=⟨_,rfl⟩;rw[u] at w;have y:c=true→∀ i,1≤i→i<j+1→within (spR s1 s2 s3 s4 i) 0 8=true:=fun A i a b=>by
      by_cases e:i=j
      ·rw[e,u,A]
      ·exact d i a Om
     have H:c=false→X=false:=by intro h;rw[h] at u;have A:j=1∨j=2∨j=3∨j=4:=Om;rw[← p];rcases A with rfl | rfl | rfl | rfl<;>(simp only[spR] at u; rw[u]; simp)
     have A:j=1∨j=2∨j=3∨j=4:=Om;cases c with
     | false =>
      have K:=H rfl;rcases A with rfl | rfl | rfl | rfl
      all_goals
       simp only[spR] at w;simp only[go_sem,l,EX,x];refine aA w rfl ?_;simp only[go_sem,a8N,ZE];refine aQ (.inr rfl) rfl ?_;rw[bP,K]
     | true =>
      have O:=y rfl;rcases A with rfl | rfl | rfl | rfl
      all_goals
       simp only[spR] at w;simp only[go_sem,l,EX,x];refine aA w rfl ?_;simp only[go_sem,a8B,ZF];refine aD (_+1) ⟨by omega,hlt,O⟩ Om Lq b_
    ·have l:¬ (j:Int)<5:=Om;have:j=5:=Om;subst this;simp only[go_sem,l,ZG];refine aQ (.inr rfl) rfl ?_;have a1:=d 1 (by decide) (by decide);have a2:=d 2 (by decide) (by decide);have a3:=d 3 (by decide) (by decide);have a4:=d 4 (by decide) (by decide);simp only[spR] at a1 a2 a3 a4;rw[bP,← p,a1,a2,a3,a4];rfl
   ·rw[decide_eq_false F,a8F] at p;simp only[go_sem,a8B,B,dN F,vI];refine aQ (.inr rfl) rfl ?_;rw[bP,p]
theorem qF {x:RF} (h:cS x=true):x.valid:=by
 unfold cS oR at h;unfold RF.valid;cases c:cU (val x.num) (val x.den) with
 | true=>rfl
 | false =>rw[c] at h;simp at h
theorem Gw {C:Ctx} (L:NY C) (x:RF) (u:x.Ok):EZ.wp C (aV tc.res (aF (.bool (cS x)))) (PF.args [.agg x.cells]) .nil:=by
 have q:=L.red x u;unfold cS;simp only[go_sem,EZ,Gx,Gy,tc];refine aA q rfl ?_;cases l:oR x with
 | error e =>have i:=R8 l;simp only[go_sem,frV];refine aR fun o p=>?_;simp only[go_sem,CF,bF i];refine aQ (.inr rfl) rfl ?_;rfl
 | ok r =>
  obtain⟨n,a,b⟩:=r;have w:=lY a 1;have y:=lY b 1;have c:decide (((nl a:Nat):Int)≤1)=decide (cM a≤32):=decide_eq_decide.2 Om;have d:decide (((nl b:Nat):Int)≤1)=decide (cM b≤32):=decide_eq_decide.2 Om;simp only[go_sem,frV];refine aR fun o p=>?_;cases n with
  | true =>simp only[go_sem,CF,a8B];refine aQ (.inr rfl) rfl ?_;rfl
  | false =>
   simp only[go_sem,CF,a8N,a7W,bB,c];cases decide (cM a≤32) with
   | false =>simp only[go_sem];refine aQ (.inr rfl) rfl ?_;rfl
   | true =>simp only[go_sem,a7W,bB,d];refine aQ (.inr rfl) rfl ?_;rfl
structure UI (C:Ctx):Prop extends NY C where
 small:∀ x:RF,x.Ok→aH C 74 [.agg x.cells] .nil (aF (.bool (cS x)))
 nums:∀ k m q s0 s1 s2 s3 s4:Int,aH C 72 [.int .i64 k,.int .i64 m,.int .i64 q,.agg [.int .i64 s0,.int .i64 s1,.int .i64 s2,.int .i64 s3,.int .i64 s4]] .nil (aF (.bool (KB k m q s0 s1 s2 s3 s4)))
 sizes:∀ a b c d e f:Nat,aH C 73 [.int .i64 a,.int .i64 b,.int .i64 c,.int .i64 d,.int .i64 e,.int .i64 f] .nil (aF (.bool (pR a b c d e f)))
theorem jo {l:List RF} {k:Nat} (h:k<l.length):(l.map RF.cells)[k]?=some (l[k]).cells:=by simp[h]
theorem te {C:Ctx} (L:UI C) (l:List RF) (i:jR l) (n:Int):AP.wp C (aV VW.res (aF (.bool (decide ((l.length:Int)=n)&&l.all cS)))) (PF.args [frs l,.int .i64 n]) .nil:=by
 have p:=i.fits;unfold Fits at p;simp only[go_sem,AP,tf,tg,VW,a7W];by_cases h:(l.length:Int)=n
 ·rw[decide_eq_true h,a8H];subst h;simp only[go_sem,bY (show (l.length:Int)=(l.length:Nat) from rfl),ti];refine wp_loop (α:=Nat) (fun k=>(((PF.nil.set 0 (frs l)).set 1 (.int .i64 (l.length:Nat))).set 5 (.int .i64 k))) (fun _=>.nil) (fun k=>k≤l.length∧(l.take k).all cS=true) (fun k=>l.length-k) 0 ⟨a8C _,rfl⟩ Lq a_ ?_;rintro k ⟨u,d⟩;simp only[go_sem,td,tj];by_cases hlt:k<l.length
  ·have c:(k:Int)<(l.length:Nat):=Om;have q:=L.small l[k] (i.all _ (a7Z hlt));simp only[go_sem,c,tk,jo hlt];refine aA q rfl ?_;cases hi:cS l[k] with
   | false =>simp only[go_sem,a8N,tp];refine aQ (.inr rfl) rfl ?_;rw[bP,pF hlt hi]
   | true =>have e:=a8M.1 (pE hlt d hi);simp only[go_sem,a8B,tq,wZz k];exact aD (k+1) ⟨hlt,e⟩ Om Lq b_
  ·have c:¬ (k:Int)<(l.length:Nat):=Om;have:k=l.length:=Om;subst this;rw[a8Y] at d;simp only[go_sem,c,tr];refine aQ (.inr rfl) rfl ?_;rw[bP,d]
 ·rw[decide_eq_false h,a8F];simp only[go_sem,dN h,th];refine aQ (.inr rfl) rfl ?_;rfl
structure UJ (C:Ctx):Prop extends UI C where
 smalls:∀ l:List RF,jR l→∀ n:Int,aH C 75 [frs l,.int .i64 n] .nil (aF (.bool (decide ((l.length:Int)=n)&&l.all cS)))
theorem LE (x:RF):(rG x==0)=!bG x:=by
 unfold rG bG;by_cases h:val x.num=0
 ·simp[h]
 ·cases x.neg<;>simp[h]
def dl (l:List RF) (m:Int):Bool:=decide ((l.length:Int)=max m 1)&&l.all cS&&l.all bG
theorem aiS {C:Ctx} (L:UJ C) (l:List RF) (q:jR l) (m:Int):UE.wp C (aV arO.res (aF (.bool (dl l m)))) (PF.args [frs l,.int .i64 m]) .nil:=by
 have w:=q.fits;unfold Fits at w;have y:=L.smalls l q (max m 1);unfold dl;simp only[go_sem,UE,aiT,aiU,arO,max_eq];refine aA y rfl ?_;cases h:(decide ((l.length:Int)=max m 1)&&l.all cS) with
 | false =>simp only[go_sem,a8N,aiV];refine aQ (.inr rfl) rfl ?_;rfl
 | true =>
  rw[a8O] at h;have d:=a8M.1 h.2;simp only[go_sem,a8B,aiW];refine wp_loop (α:=Nat) (fun k=>((PF.nil.set 0 (frs l)).set 5 (.int .i64 k))) (fun _=>.nil) (fun k=>k≤l.length∧(l.take k).all bG=true) (fun k=>l.length-k) 0 ⟨a8C _,rfl⟩ Lq a_ ?_;rintro k ⟨A,i⟩;simp only[go_sem,aiR,aiX,a7W];by_cases hlt:k<l.length
  ·have c:(k:Int)<(l.length:Nat):=Om;have u:=a7Z hlt;have x:=L.sign l[k] (q.all _ u) (qF (d _ u));have e:=LE l[k];simp only[go_sem,c,aiY,jo hlt];refine aA x rfl ?_;cases hi:bG l[k] with
   | false =>rw[hi] at e;simp only[go_sem,e,a8N,aiZ];refine aQ (.inr rfl) rfl ?_;rw[bP,pF hlt hi]
   | true =>rw[hi] at e;have p:=a8M.1 (pE hlt i hi);simp only[go_sem,e,a8B,ajA,wZz k];exact aD (k+1) ⟨hlt,p⟩ Om Lq b_
  ·have c:¬ (k:Int)<(l.length:Nat):=Om;have:k=l.length:=Om;subst this;rw[a8Y] at i;simp only[go_sem,c,ajB];refine aQ (.inr rfl) rfl ?_;rw[bP,i]
structure UK (C:Ctx):Prop extends UJ C where
 reps:∀ l:List RF,jR l→∀ m:Int,aH C 66 [frs l,.int .i64 m] .nil (aF (.bool (dl l m)))
def frD:List PV→RF
 | [.bool n,a,b]=>⟨n,jE a,jE b⟩
 | _=>⟨false,[],[]⟩
theorem Ab (x:RF):frD x.cells=x:=by
 show (⟨x.neg,jE (aJ x.num),jE (aJ x.den)⟩:RF)=x;rw[eG,eG]
def zdS (r s:Bool):Spec:=fun name vs=>match name,vs with
 | 66,_=>some ([],fun _=>aF (.bool r))
 | 74,[.agg cs]=>some ([],fun _=>aF (.bool (cS (frD cs))))
 | 47,_=>some ([],fun _=>aF (.agg (mkT 1 1).cells))
 | 49,_=>some ([],fun _=>aF (.bool s))
 | _,_=>none
theorem Gg (r s:Bool) (x:RF):zdS r s 74 [.agg x.cells]=some ([],fun _=>aF (.bool (cS x))):=by
 show some ([],fun _=>aF (.bool (cS (frD x.cells))))=_;rw[Ab]
theorem avV (x y:RF):pN y x=- pN x y:=by
 unfold pN pM;have e:=yr (val x.num*val y.den) (val y.num*val x.den);cases x.neg&&decide (val x.num≠0)<;>cases y.neg&&decide (val y.num≠0)<;>simp only[e,Int.neg_neg]<;>rfl
theorem aIK {x:RF} (c:x.valid):decide (pN (mkT 1 1) x<0)=!wH x:=by
 rw[avV x];unfold wH;rw[show cU (val x.num) (val x.den)=true from c,a8H,FW];unfold pN;simp only[aW,show (1:Int).natAbs=1 from rfl,show decide ((1:Int)<0)=false from rfl];by_cases h:pM x.neg (val x.num) (val x.den) false 1 1≤0
 ·rw[decide_eq_true h,decide_eq_false Om]; rfl
 ·rw[decide_eq_false h,decide_eq_true Om]; rfl
def PK (m:Int) (rep:List RF) (t h:RF):Bool:=dl rep m&&(cS t&&(wH t&&cS h))
theorem aiF {C:Ctx} (L:UK C) (m:Int) (rep:List RF) (p:jR rep) (t h:RF) (i:t.Ok) (l:h.Ok) :
  UB.wp C (aV arM.res (aF (.bool (PK m rep t h)))) (PF.args [.int .i64 m,frs rep,.agg t.cells,.agg h.cells]) .nil:=by
 have d:dB 1:=by unfold dB; omega
 unfold PK;simp only[go_sem,UB,aiG,arM];refine bV .nil (zdS (dl rep m) (!wH t)) a_ ?_;simp only[go_sem,aiH];refine bO rfl (L.reps rep p m) rfl a_ ?_;cases dl rep m with
 | false =>simp only[go_sem];refine aQ (.inr rfl) rfl ?_;rfl
 | true =>
  simp only[go_sem];refine bO (Gg _ _ t) (L.small t i) rfl a_ ?_;cases e:cS t with
  | false =>simp only[go_sem];refine aQ (.inr rfl) rfl ?_;rfl
  | true =>
   have c:=L.less (mkT 1 1) t (FU 1 d).1 i (FU 1 d).2 (qF e);rw[aIK (qF e)] at c;simp only[go_sem];refine bO rfl (L.int 1 d) rfl a_ ?_;simp only[go_sem];refine bO rfl c rfl a_ ?_;cases wH t with
   | false =>simp only[go_sem,a8N,a8B];refine aQ (.inr rfl) rfl ?_;rfl
   | true =>simp only[go_sem,a8B,a8N];refine bO (Gg _ _ h) (L.small h l) rfl a_ ?_;simp only[go_sem];refine aQ (.inr rfl) rfl ?_;rfl
theorem aVQ (p:bS):BS p=PK p.m p.repair p.target p.a6V:=by
 unfold BS PK dl;have:(p.repair.all fun x=>cS x&&bG x)=(p.repair.all cS&&p.repair.all bG):=by
  induction p.repair with
  | nil=>rfl
  | cons a t c =>simp only[List.all_cons,c];cases cS a<;>cases bG a<;>simp
 rw[this];simp only[baZ]
section
variable {H:PH} {B:List BX} {L:List LI}
theorem aN.ajK (h:aN H B L) (i:Nat) {s b:Nat} {v y:PV} {rows src:List (List PV)} {K:PV→PH→Prop} (hi:L[i]?=some (v,s,rows)) (A:dX H s y=some src) (x:roomFor rows.length src.length b)
  (l:∀ v' H',bQ H' s v rows→aN H' B (L.set i (v',s,rows++src))→K v' H'):mR H s b v y K:=by
 rcases h.own i hi with ⟨rfl,rfl⟩ | ⟨q,rs,rfl,h1,h2,h3⟩
 ·exact h.append i hi A x fun v' H' E _=>l v' H' (.inl ⟨rfl,rfl⟩) E
 ·have c:(rows++src).length=rows.length+src.length:=a8E;refine⟨src,A,rfl,rfl,x,rs,h1,h2,?_,fun o e=>?_⟩
  ·rw[h3];refine l _ _ (.inr ⟨q,rows++src,rfl,by rw[cO],by rw[c]; omega,List.take_left' rfl⟩) (h.LJ i hi (.inr ⟨q,rows++src,by rw[c],by simp only[aT,if_true],a8D _,a8Y⟩) (fun p d=>by cases d; exact .inl rfl) fun p _ d=>?_);rw[aT,if_neg (d q rfl)]
  ·rw[h3];have w:q≠o:=by rintro rfl; rw[h1] at e; cases e
   refine l _ _ (.inr ⟨q,rs,rfl,by rw[aT,if_neg w]; exact h1,h2,h3⟩) (h.LJ i hi (.inr ⟨o,rows++src,by rw[c],by simp only[aT,if_true],a8D _,a8Y⟩) (fun p d=>by cases d; exact .inr e) fun p u d=>?_);obtain⟨f1,f2⟩:=h.fresh e;have F:p≠o:=by rintro rfl; exact u.elim f1 f2
   rw[aT,if_neg F]
end
abbrev mK (l:List (List UInt8)):List (List PV):=l.map fun s=>[PV.str s]
def zP:List (List UInt8)→List UInt8→Nat→Int
 | [],_,_=>-1
 | x::t,s,i=>if x==s then (i:Int) else zP t s (i+1)
theorem Oc (s:List UInt8):∀ (l:List (List UInt8)) (i:Nat),decide (zP l s i<0)=!l.contains s
 | [],i=>rfl
 | x::t,i=>by
  rw[zP,List.contains_cons,BEq.comm (a:=s)];by_cases h:(x==s)=true
  ·rw[if_pos h,h,Bool.true_or,decide_eq_false Om]; rfl
  ·rw[if_neg h,Oc s t (i+1)];simp only[Bool.not_eq_true] at h;rw[h,Bool.false_or]
theorem Gl {C:Ctx} (l:List (List UInt8)) (q:l.length≤1000000) (s:List UInt8):EW.wp C (aV s9.res (aF (.int .i64 (zP l s 0)))) (PF.args [.sl 1 (mK l),.str s]) .nil:=by
 simp only[go_sem,EW,Gm,Gn,s9];refine wp_loop (α:=Nat) (fun k=>(((PF.nil.set 0 (.sl 1 (mK l))).set 1 (.str s)).set 5 (.int .i64 k))) (fun _=>.nil) (fun k=>k≤l.length∧zP l s 0=zP (l.drop k) s k) (fun k=>l.length-k) 0 ⟨a8C _,rfl⟩ Lq a_ ?_;rintro k ⟨p,d⟩;simp only[go_sem,Gk,Gp,a7W];by_cases hlt:k<l.length
 ·have c:(k:Int)<(l.length:Nat):=Om;have e:(mK l)[k]?=some [.str l[k]]:=by simp[hlt]
  rw[a9X hlt,zP] at d;cases i:l[k]==s with
  | true =>rw[i,if_pos rfl] at d;simp only[go_sem,c,UC,e,i,Gq];refine aQ (.inr rfl) rfl ?_;rw[bP,d]
  | false =>rw[i,if_neg (by decide)] at d;simp only[go_sem,c,UC,e,i,Gr,wZz k];exact aD (k+1) ⟨hlt,d⟩ Om Lq b_
 ·have c:¬ (k:Int)<(l.length:Nat):=Om;have:k=l.length:=Om;subst this;rw[List.drop_length,zP] at d;simp only[go_sem,c,Gs];refine aQ (.inr rfl) rfl ?_;rw[bP,d]
structure UL (C:Ctx):Prop extends UK C where
 name:∀ s:List UInt8,aH C 62 [.str s] .nil (aF (.bool (isName s)))
 index:∀ (l:List (List UInt8)),l.length≤1000000→∀ s:List UInt8,aH C 71 [.sl 1 (mK l),.str s] .nil (aF (.int .i64 (zP l s 0)))
def jG (l:List (List UInt8)) (s:List UInt8):Bool:=isName s&&!l.contains s
def fw (l:List (List UInt8)) (s:List UInt8) (r:PV) (B:List BX) (L:List LI):Prop:=∃ c,r=.tup [c,.bool (jG l s)]∧B=[]∧L=[(c,1,mK (l++[s]))]
theorem Gh {C:Ctx} (L:UL C) (l:List (List UInt8)) (Q:l.length≤1000000) (s:List UInt8) (w:PV) (H:PH) (N:aN H [] [(w,1,mK l)]) :
  EV.wp C (aV s8.res (fun r H'=>∃ B' L',fw l s r B' L'∧aN H' B' L')) (PF.args [w,.str s]) H:=by
 have p:=L.index l Q s;have E:=L.name s;have d:=Oc s l 0;have A:(1:Nat)*1≤16777216:=by decide
 have fin:∀ (F:PF) (H':PH) (c:PV) (b:Bool),F 4=some c→F 5=some (.bool b)→b=jG l s→aN H' [] [(c,1,mK (l++[s]))]→aV [.tmp 4,.tmp 5] (fun r H'=>∃ B' L',fw l s r B' L'∧aN H' B' L') .ret F H':=fun F H' c b K M e y =>
  bA (vs:=[c,.bool b]) (.inr rfl) H' (by simp only[go_sem,K,M]) b_ ⟨[],_,⟨c,by rw[e]; rfl,rfl,rfl⟩,y⟩
 simp only[go_sem,EV,Gi,Gj,s8,A];refine N.ajK 0 (src:=[[.str s]]) rfl rfl (by unfold roomFor; rw[a7W]; simp only[a8I,maxLen]; omega) fun c H' O y=>?_;have i:aN H' [] [(c,1,mK (l++[s]))]:=by
  have e:mK (l++[s])=mK l++[[.str s]]:=by simp[mK]
  rw[e]; exact y
 refine aA E rfl ?_;cases J:isName s with
 | false =>simp only[go_sem];exact fin _ _ c false rfl rfl (by unfold jG; rw[J,a8F]) i
 | true =>
  have u:jG l s=!l.contains s:=by unfold jG; rw[J,a8H]
  rcases O with ⟨R,rfl⟩ | ⟨q,rs,rfl,q1,q2,q3⟩
  ·simp only[go_sem];rw[R] at p;have x:aH C 71 [.aB,.str s] .nil (aF (.int .i64 (zP l s 0))):=p.args (.cons (.nil 1) (.cons (.refl _) .nil));refine aA x rfl ?_;simp only[go_sem,d];exact fin _ _ c _ rfl rfl u.symm i
  ·simp only[go_sem];refine X6 (vs:=[.osl q 1 0 (mK l).length,.str s]) (.int .i64 (zP l s 0)) ?_ q1 Sq ?_
   ·rw[a9L,a9L,baF,uA q2,q3];exact p
   simp only[go_sem,d];exact fin _ _ c _ rfl rfl u.symm i
theorem axK {x:RF} (h:cS x=true):decide (rG x>0)=bG x:=by
 have d:=qF h;unfold cS oR at h;rw[show cU (val x.num) (val x.den)=true from d,if_pos rfl,br d] at h;unfold rG bG;by_cases c:val x.num=0
 ·simp[c]
 ·have i:val x.num/a7Y (val x.num) (val x.den)≠0:=by have:=Nat.div_pos (Nat.gcd_le_left (val x.den) (baK c)) (Nat.gcd_pos_of_pos_left _ (baK c));omega
  have e:x.neg=false:=by unfold mP at h;simp only[i,ne_eq,not_false_eq_true,decide_true,baD,a8O] at h;simpa using h.1
  rw[if_neg c,e];simp[c]
structure Iy (l:cE):Prop where
 exit:∀ x∈l.exit,cS x=true
 row:∀ r∈l.a6Q,∀ x∈r,cS x=true
structure oJ (C:Ctx):Prop extends UL C where
 fresh:∀ (l:List (List UInt8)),l.length≤1000000→∀ (s:List UInt8) (w:PV) (H:PH),aN H [] [(w,1,mK l)]→aH C 70 [w,.str s] H (fun r H'=>∃ B' L',fw l s r B' L'∧aN H' B' L')
theorem oJ.pos {C:Ctx} (L:oJ C) {x:RF} (c:x.Ok) (h:cS x=true):∃ n:Int,aH C 54 [.agg x.cells] .nil (aF (.int .i64 n))∧decide (n>0)=bG x:=⟨_,L.sign x c (qF h),axK h⟩
def zlF (l:cE) (o r i:Nat):PF:=(((((PF.nil.set 1 (.bH l.cells)).set 3 (.int .i64 (l.exit.length:Nat))).set 7 (.osl o 1 0 l.exit.length)).set 8 (.int .i64 r)).set 9 (.int .i64 i))
theorem aNX {C:Ctx} (L:oJ C) (l:cE) (o r i:Nat) (row:List RF) (Q:(l.a6Q.map fun r=>[frs r])[i]?=some [frs row]) (J:jR row) (E:∀ x∈row,cS x=true) (X:row.length=l.exit.length) (hi:i<l.exit.length) (hn:l.exit.length≤4) (e:List Bool) (Z:e.length=l.exit.length) (K:bR) [Up K] (F:PF) (H:PH)
  (N:((zlF l o r i).set 10 (.int .i64 0)).le F) (M:(gY o e).le H)
  (W:K (.exit 6) (zlF l o r i) (gY o (cK e i row row.length))):aC.wp C (.loop MP) K F H:=by
 refine wp_loop (α:=Nat) (fun k=>(zlF l o r i).set 10 (.int .i64 k)) (fun k=>gY o (cK e i row k)) (fun k=>k≤row.length) (fun k=>row.length-k) 0 (a8C _) N M ?_;intro k hk;have V:=tI e i row k;have w:∀ h:k<row.length,cK e i row (k+1)=(cK e i row k).set i ((cK e i row k).getD i false||bG row[k]&&(cK e i row k).getD k false):=fun h=>by simp only[cK,a8P,a8V,a8K h,a9M,baY]
 have fin:∀ (b:Bool) (F:PF) (H:PH),k<row.length→dJ (cK e i row (k+1))=(dJ (cK e i row k)).set i [.bool b]→((zlF l o r i).set 10 (.int .i64 (k+1:Nat))).le F→H o=some (.rows 1 ((dJ (cK e i row k)).set i [.bool b])) →
   fJ (fun k:Nat=>(zlF l o r i).set 10 (.int .i64 k)) (fun k=>gY o (cK e i row k)) (fun k=>k≤row.length) (fun k=>row.length-k) (row.length-k) K .normal F H:=by
  intro b F H hlt U N M;refine aD (k+1) hlt Om N ?_;rw[← U] at M;exact PH.aK a_ M
 unfold zlF gY at fin;simp only[go_sem,MP,V0,zlF,gY];by_cases hlt:k<row.length
 ·have d:(k:Int)<(l.exit.length:Nat):=Om;have u:(i:Int)<(l.exit.length:Nat):=Om;have q:=rJ (R:=cK e i row k) (i:=i) Om;have y:=rJ (R:=cK e i row k) (i:=k) Om;have p:=w hlt;obtain⟨n,S,B⟩:=L.pos (J.all _ (a7Z hlt)) (E _ (a7Z hlt));have O:=jo hlt;generalize U:(cK e i row k).getD i false=b at *
  generalize hc:(cK e i row k).getD k false=c at *
  generalize Y:bG row[k]=A at *
  cases b with
  | true =>simp only[go_sem,d,fi,u,a8U,q,MQ,wZz k];exact fin true _ _ hlt (by rw[p,jX,Bool.true_or]) Lq Sq
  | false =>
   simp only[go_sem,d,fi,u,a8U,q,Q,O];refine aA S rfl ?_;cases A with
   | false =>simp only[go_sem,B,u,d,a8U,q,y,MQ,wZz k];exact fin false _ _ hlt (by rw[p,jX,Bool.false_or,a8F]) Lq Sq
   | true =>simp only[go_sem,B,u,d,a8U,q,y,MQ,wZz k];exact fin c _ _ hlt (by rw[p,jX,Bool.false_or,a8H]) Lq Sq
 ·have d:¬ (k:Int)<(l.exit.length:Nat):=Om;have:k=row.length:=Om;subst this;simp only[go_sem,d];refine Up.up ?_ W
  (repeat' (first|exact c_|refine d_ ?_ ?_))<;>first|(simp only[go_sem,zlF]<;>rfl)|rfl
theorem aNZ {C:Ctx} (L:oJ C) (l:cE) (O:l.Ok) (J:AQ l) (S:Iy l) (o r:Nat) (R:List Bool) (Z:R.length=l.exit.length) (K:bR) [Up K] (F:PF) (H:PH)
  (B:(zlF l o r 0).le F) (E:(gY o R).le H)
  (W:K (.exit 4) (zlF l o r l.exit.length) (gY o (cV l R l.exit.length))):aC.wp C (.loop e7) K F H:=by
 refine wp_loop (α:=Nat) (fun i=>zlF l o r i) (fun i=>gY o (cV l R i)) (fun i=>i≤l.exit.length) (fun i=>l.exit.length-i) 0 (a8C _) B E ?_;intro i hi;have Q:=qM l R i;have X:=J.n;simp only[go_sem,e7,Vz,zlF,gY];by_cases hlt:i<l.exit.length
 ·have c:(i:Int)<(l.exit.length:Nat):=Om;have e:i<l.a6Q.length:=by rw[J.a6Q]; exact hlt
  have q:=rJ (R:=cV l R i) (i:=i) Om;have Y:=jo hlt;have y:(l.a6Q.map fun r=>[frs r])[i]?=some [frs l.a6Q[i]]:=by simp[e]
  have M:(l.a6Q[i]).length=l.exit.length:=J.row _ (a7Z e);generalize p:(cV l R i).set i ((cV l R i).getD i false||bG l.exit[i])=A;have w:A.length=l.exit.length:=by rw[← p,baB]; omega
  have u:cV l R (i+1)=cK A i l.a6Q[i] (l.a6Q[i]).length:=by
   simp only[cV,kG];have U:(l.exit.map bG).getD i false=bG l.exit[i]:=by simp[a8P,hlt]
   have V:l.a6Q.getD i []=l.a6Q[i]:=by simp[a8P,e]
   rw[U,V,p]
  obtain⟨n,N,x⟩:=L.pos (O.exit.all _ (a7Z hlt)) (S.exit _ (a7Z hlt));have rest:∀ (F:PF) (H:PH),(zlF l o r i).le F→H o=some (.rows 1 (dJ A)) →
    aC.wp C (.seq (.region fh) (.block 6 (.loop MP))) (eX 5 (gG C (aC.wp C (.region fj)) (fJ (fun i:Nat=>zlF l o r i) (fun i=>gY o (cV l R i)) (fun i=>i≤l.exit.length) (fun i=>l.exit.length-i) (l.exit.length-i) K))) F H:=by
   intro F H B E;refine xS _ (fun _ _ _ _ a b=>Up.up a b) B ?_;simp only[go_sem,fh];refine aNX L l o r i l.a6Q[i] y (O.row _ (a7Z e)) (S.row _ (a7Z e)) M hlt X A w _ _ _ (by (repeat' (first|exact c_|refine d_ ?_ ?_))<;>first|(simp only[go_sem,zlF]<;>rfl)|rfl) (PH.aK a_ E) ?_;simp only[go_sem,zlF,fj,wZz i];exact aD (i+1) hlt Om Lq (by rw[u]; exact b_)
  simp only[zlF,gY] at rest;have d:=rest;simp only[aC.wp,go_sem] at d;generalize hb:(cV l R i).getD i false=b at *
  cases b with
  | true =>simp only[go_sem,c,fg,c,a8U,q];refine d _ _ Lq ?_;rw[← p];simp only[go_sem,jX,Bool.true_or]
  | false =>simp only[go_sem,c,fg,c,a8U,q,Y];refine aA N rfl ?_;simp only[go_sem,c,a8U,q,x];refine d _ _ Lq ?_;rw[← p];simp only[go_sem,jX,Bool.false_or]
 ·have c:¬ (i:Int)<(l.exit.length:Nat):=Om;have:i=l.exit.length:=Om;subst this;simp only[go_sem,c];exact Up.up (by (repeat' (first|exact c_|refine d_ ?_ ?_))<;>first|(simp only[go_sem,zlF]<;>rfl)|rfl) W
theorem aNY {C:Ctx} (L:oJ C) (l:cE) (u:l.Ok) (e:AQ l) (w:Iy l) (o:Nat) (K:bR) [Up K] (F:PF) (H:PH)
  (i:(((((PF.nil.set 1 (.bH l.cells)).set 3 (.int .i64 (l.exit.length:Nat))).set 7 (.osl o 1 0 l.exit.length)).set 8 (.int .i64 0)):PF).le F) (p:(gY o (cW l 0)).le H)
  (q:K (.exit 2) (((PF.nil.set 3 (.int .i64 (l.exit.length:Nat))).set 7 (.osl o 1 0 l.exit.length))) (gY o (cW l l.exit.length))):aC.wp C (.loop fa) K F H:=by
 have x:=e.n;refine wp_loop (α:=Nat) (fun r=>((((PF.nil.set 1 (.bH l.cells)).set 3 (.int .i64 (l.exit.length:Nat))).set 7 (.osl o 1 0 l.exit.length)).set 8 (.int .i64 r))) (fun r=>gY o (cW l r)) (fun r=>r≤l.exit.length) (fun r=>l.exit.length-r) 0 (a8C _) i p ?_;intro r y;have d:=qL l r;simp only[go_sem,fa,Vx];by_cases hlt:r<l.exit.length
 ·have c:(r:Int)<(l.exit.length:Nat):=Om;simp only[go_sem,c,Vy];refine aNZ L l u e w o r (cW l r) d _ _ _ (by (repeat' (first|exact c_|refine d_ ?_ ?_))<;>first|(simp only[go_sem,zlF]<;>rfl)|rfl) b_ ?_;simp only[go_sem,zlF,V1,wZz r];exact aD (r+1) hlt Om Lq b_
 ·have c:¬ (r:Int)<(l.exit.length:Nat):=Om;have:r=l.exit.length:=Om;subst this;simp only[go_sem,c];exact Up.up Lq q
theorem aYK {C:Ctx} (R:List Bool) (B:R.length≤4) (o:Nat) (X:Bool) (y:X=R.all id) (Q:PV→PH→Prop) (x:Q=aF (.bool X)) (F:PF) (H:PH)
  (u:((((PF.nil.set 3 (.int .i64 (R.length:Nat))).set 7 (.osl o 1 0 R.length)).set 11 (.int .i64 0)):PF).le F) (w:(gY o R).le H):aC.wp C (.loop fc) (eX 8 (gG C (aC.wp C (.seq (.region fl) .ret)) (aV [.tmp 2] Q))) F H:=by
 subst y x;refine wp_loop (α:=Nat) (fun k=>(((PF.nil.set 3 (.int .i64 (R.length:Nat))).set 7 (.osl o 1 0 R.length)).set 11 (.int .i64 k))) (fun _=>gY o R) (fun k=>k≤R.length∧(R.take k).all id=true) (fun k=>R.length-k) 0 ⟨a8C _,rfl⟩ u w ?_;rintro k ⟨E,l⟩;simp only[go_sem,fc,V3,gY];by_cases hlt:k<R.length
 ·have c:(k:Int)<(R.length:Nat):=Om;have d:=rJ (R:=R) (i:=k) hlt;have A:R.getD k false=R[k]:=by simp[a8P,hlt]
  rw[A] at d;cases e:R[k] with
  | false =>rw[e] at d;simp only[go_sem,c,fk,a8U,d,a8N,V4];refine aQ (.inr rfl) rfl ?_;rw[bP,pF hlt (p:=id) e]
  | true =>rw[e] at d;have q:=pE hlt l (p:=id) e;simp only[go_sem,c,fk,a8U,d,a8B,V5,wZz k];exact aD (k+1) ⟨hlt,by simpa using a8M.1 q⟩ Om Lq b_
 ·have c:¬ (k:Int)<(R.length:Nat):=Om;have:k=R.length:=Om;subst this;rw[a8Y] at l;simp only[go_sem,c,fl];refine aQ (.inr rfl) rfl ?_;rw[bP,l]
def Marks (R S:List Bool):Prop:=R.length=S.length∧∀ j:Nat,R[j]?=some true→S[j]?=some true
theorem Marks.aWY (R:List Bool):Marks R R:=⟨rfl,fun _ h=>h⟩
theorem Marks.trans {R S T:List Bool} (h:Marks R S) (k:Marks S T):Marks R T:=⟨h.1.trans k.1,fun j a=>k.2 j (h.2 j a)⟩
theorem O5 (R:List Bool) (i:Nat) (b:Bool):Marks R (R.set i (R.getD i false||b)):=by
 refine⟨by rw[baB],fun j h=>?_⟩;rw[List.getElem?_set];obtain⟨c,d⟩:=a9F.1 h;split
 ·rename_i e;subst e;rw[if_pos c,a8P,h];rfl
 ·exact h
theorem Be (R:List Bool) (i:Nat) (row:List RF):∀ k,Marks R (cK R i row k)
 | 0=>Marks.aWY R
 | k+1=>(Be R i row k).trans (O5 _ _ _)
theorem CY (l:cE) (R:List Bool):∀ i,Marks R (cV l R i)
 | 0=>Marks.aWY R
 | i+1=>(CY l R i).trans ((O5 _ _ _).trans (Be _ _ _ _))
theorem O6:∀ {R S:List Bool},Marks R S→R≠S→R.count true<S.count true
 | [],[],_,h=>absurd rfl h
 | [],_::_,h,_=>by have:=h.1; simp at this
 | _::_,[],h,_=>by have:=h.1; simp at this
 | a::R,b::S,h,c=>by
  have d:a=true→b=true:=fun e=>by have:=h.2 0 (by rw[e]; rfl);simpa using this
  have l:Marks R S:=⟨by have:=h.1; simpa using this,fun j i=>by have:=h.2 (j+1) (by simpa using i); simpa using this⟩;by_cases e:R=S
  ·subst e;have:a≠b:=fun e=>c (by rw[e]);cases a<;>cases b<;>simp at this d ⊢
  ·have:=O6 l e;cases a<;>cases b<;>simp at d ⊢<;>omega
theorem ik:∀ {R:List Bool},R.length≤R.count true→R.all id=true
 | [],_=>rfl
 | a::R,h=>by
  have c:=List.count_le_length (a:=true) (l:=R);cases a with
  | true =>simp only[List.count_cons_self,a9O] at h;simp only[List.all_cons,id,a8H];exact ik Om
  | false =>simp at h;omega
theorem KN (l:cE) {s:Nat} (h:cW l (s+1)=cW l s):∀ d,cW l (s+d)=cW l s
 | 0=>rfl
 | d+1=>by show cV l (cW l (s+d)) l.exit.length=_;rw[KN l h d];exact h
theorem n0 (l:cE):∀ r,(∃ s,s<r∧cW l (s+1)=cW l s)∨r≤(cW l r).count true
 | 0=>.inr (a8C _)
 | r+1=>by
  rcases n0 l r with ⟨s,d,c⟩ | h
  ·exact .inl ⟨s,by omega,c⟩
  ·by_cases e:cW l (r+1)=cW l r
   ·exact .inl ⟨r,by omega,e⟩
   ·have:=O6 (CY l (cW l r) l.exit.length) (fun h=>e h.symm);exact .inr (by show r+1≤(cV l (cW l r) l.exit.length).count true; omega)
theorem aPQ (l:cE):oU l=(cW l l.exit.length).all id:=by
 unfold oU;rcases n0 l l.exit.length with ⟨s,y,e⟩ | h
 ·obtain⟨d,u⟩:∃ d,l.exit.length=s+d:=⟨l.exit.length-s,by omega⟩;rw[show l.exit.length+1=s+(d+1) by omega,u,KN l e,KN l e]
 ·have i:(cW l l.exit.length).all id=true:=ik (by rw[qL]; exact h);have q:Marks (cW l l.exit.length) (cW l (l.exit.length+1)):=CY l (cW l l.exit.length) l.exit.length;rw[i,a8M];intro x w;obtain⟨j,p,rfl⟩:=a9I w;have c:j<(cW l l.exit.length).length:=by rw[q.1]; exact p
  have:=q.2 j (by rw[a8K c];have:=a8M.1 i _ (a7Z c);simpa using this);rw[a8K p] at this;simpa using this
def zsS (s:Bool):Spec:=fun name vs=>match name,vs with
 | 47,_=>some ([],fun _=>aF (.agg (mkT 1 1).cells))
 | 53,_=>some ([],fun _=>aF (.bool s))
 | _,_=>none
theorem aGR (l:cE):jZ l=(within l.start.length 1 4&&((decide ((l.start.length:Int)=l.start.length)&&l.start.all cS)&&((decide ((l.exit.length:Int)=l.start.length)&&l.exit.all cS)&&(decide (l.a6Q.length=l.start.length)&&((a7X l.a6Q.length).all (rO l)&&(uP l&&oU l)))))):=by
 rw[abF,decide_eq_true (rfl:(l.start.length:Int)=l.start.length),a8H];have:decide (l.exit.length=l.start.length)=decide ((l.exit.length:Int)=l.start.length):=decide_eq_decide.2 Om;rw[this];cases within l.start.length 1 4<;>cases decide ((l.exit.length:Int)=l.start.length)<;>cases decide (l.a6Q.length=l.start.length)<;>cases l.start.all cS<;>cases l.exit.all cS<;>simp[baZ]
theorem Sk (l:cE) {i:Nat} (h:i<l.a6Q.length):rO l i=((decide (((l.a6Q[i]).length:Int)=l.start.length)&&(l.a6Q[i]).all cS)&&!((l.a6Q[i]).map bG).getD i false):=by
 unfold rO;have:l.a6Q.getD i []=l.a6Q[i]:=by simp[a8P,h]
 rw[this];have:decide ((l.a6Q[i]).length=l.start.length)=decide (((l.a6Q[i]).length:Int)=l.start.length):=decide_eq_decide.2 Om;rw[this]
theorem aiJ {C:Ctx} (L:oJ C) (l:cE) (N:l.Ok):UD.wp C (aV arN.res (aF (.bool (jZ l)))) (PF.args [.agg l.cells]) .nil:=by
 have c:=aGR l;have fail:∀ (F:PF) (H:PH),jZ l=false→F 2=some (.bool false)→aV [.tmp 2] (aF (.bool (jZ l))) .ret F H:=fun F H e h=>by rw[e];exact bA (vs:=[.bool false]) (.inr rfl) .nil (by simp only[go_sem,h]) a_ ⟨rfl,rfl⟩
 have e1:=L.smalls l.start N.start l.start.length;have e2:=L.smalls l.exit N.exit l.start.length;simp only[go_sem,UD,aiK,aiL,arN,a7W,aiM];by_cases c1:(l.start.length:Int)<1
 ·simp only[go_sem,c1,yT];exact fail _ _ (by rw[c,show within l.start.length 1 4=false from by unfold within; rw[decide_eq_false Om,a8F],a8F]) rfl
 by_cases c2:(l.start.length:Int)>4
 ·simp only[go_sem,c1,c2,yT];exact fail _ _ (by rw[c,show within l.start.length 1 4=false from by unfold within; rw[decide_eq_false (Om:¬ (l.start.length:Int)≤4),a9E],a8F]) rfl
 rw[show within l.start.length 1 4=true from by unfold within; rw[decide_eq_true (Om:(1:Int)≤(l.start.length:Nat)),decide_eq_true (Om:(l.start.length:Int)≤4)]; rfl,a8H] at c;simp only[go_sem,c1,c2];refine aA e1 rfl ?_;cases k1:(decide ((l.start.length:Int)=l.start.length)&&l.start.all cS) with
 | false =>rw[k1,a8F] at c;simp only[go_sem,a8N,yT];exact fail _ _ c rfl
 | true =>
 rw[k1,a8H] at c;simp only[go_sem,a8B];refine aA e2 rfl ?_;cases k2:(decide ((l.exit.length:Int)=l.start.length)&&l.exit.all cS) with
 | false =>rw[k2,a8F] at c;simp only[go_sem,a8N,yT];exact fail _ _ c rfl
 | true =>
 rw[k2,a8H] at c;rw[a8O,decide_eq_true_eq] at k2;have y:l.exit.length=l.start.length:=Om;have M:=a8M.1 k2.2;by_cases c3:l.a6Q.length=l.start.length
 case neg =>rw[decide_eq_false c3,a8F] at c;simp only[go_sem,a8B,a7W,dN (Om:(l.a6Q.length:Int)≠(l.start.length:Nat)),yT];exact fail _ _ c rfl
 rw[decide_eq_true c3,a8H] at c;simp only[go_sem,a8B,a7W,bY (Om:(l.a6Q.length:Int)=(l.start.length:Nat)),aiN];refine wp_loop (α:=Nat) (fun i=>(((PF.nil.set 1 (.bH l.cells)).set 3 (.int .i64 (l.start.length:Nat))).set 4 (.int .i64 i))) (fun _=>.nil) (fun i=>i≤l.start.length∧∀ j,j<i→rO l j=true) (fun i=>l.start.length-i) 0 ⟨a8C _,fun j h=>by omega⟩ Lq a_ ?_;rintro i ⟨hi,p⟩;simp only[go_sem,aiI,aiO];by_cases hlt:i<l.start.length
 ·have u:(i:Int)<(l.start.length:Nat):=Om;have w:i<l.a6Q.length:=Om;have B:(l.a6Q.map fun r=>[frs r])[i]?=some [frs l.a6Q[i]]:=by simp[w]
  have V:=N.row _ (a7Z w);have e3:=L.smalls l.a6Q[i] V l.start.length;have d:=Sk l w;have O:rO l i=false→jZ l=false:=fun h=>by rw[c,show (a7X l.a6Q.length).all (rO l)=false from List.all_eq_false.2 ⟨i,a9A.2 w,by simp[h]⟩,a8F]
  simp only[go_sem,u,aiP,B];refine aA e3 rfl ?_;cases k3:(decide (((l.a6Q[i]).length:Int)=l.start.length)&&(l.a6Q[i]).all cS) with
  | false =>rw[k3,a8F] at d;simp only[go_sem,a8N,x7];exact fail _ _ (O d) rfl
  | true =>
   rw[k3,a8H] at d;rw[a8O,decide_eq_true_eq] at k3;have θ:(l.a6Q[i]).length=l.start.length:=Om;have E:i<(l.a6Q[i]).length:=Om;have hm:=a7Z E;have hs:=L.sign _ (V.all _ hm) (qF (a8M.1 k3.2 _ hm));have hz:=LE (l.a6Q[i])[i];have hg:((l.a6Q[i]).map bG).getD i false=bG (l.a6Q[i])[i]:=by simp[a8P,E]
   rw[hg] at d;have A:(rG (l.a6Q[i])[i] != 0)=bG (l.a6Q[i])[i]:=by rw[bne,hz,Bool.not_not]
   simp only[go_sem,a8B,B,jo E];refine aA hs rfl ?_;cases k4:bG (l.a6Q[i])[i] with
   | true =>rw[k4] at d A;simp only[go_sem,A,x7];exact fail _ _ (O d) rfl
   | false =>
    rw[k4] at d A;simp only[go_sem,A,aiQ,wZz i];exact aD (i+1) ⟨hlt,fun j Z=>by
     by_cases e:j=i
     ·rw[e]; exact d
     ·exact p j Om⟩ Om Lq b_
 ·have u:¬ (i:Int)<(l.start.length:Nat):=Om;have:i=l.start.length:=Om;subst this;have J:(a7X l.a6Q.length).all (rO l)=true:=a8M.2 fun j Z=>p j (by rw[← c3]; exact a9A.1 Z);rw[J,a8H] at c;have X:∀ r∈l.a6Q,r.length=l.start.length∧∀ x∈r,cS x=true:=fun r U=>by obtain⟨j,Z,rfl⟩:=a9I U;have h:=p j Om;rw[Sk l Z,a8O,a8O,decide_eq_true_eq] at h;exact⟨by omega,a8M.1 h.1.2⟩
  have S:Iy l:=⟨M,fun r U=>(X r U).2⟩;have R:AQ l:=⟨by omega,by omega,fun r U=>by rw[(X r U).1,y]⟩;have Y:=L.sum l.start N.start.all N.start.fits;simp only[go_sem,u,Vu];refine aA Y rfl ?_;cases Q:nH (l.start.map RF.v) with
  | error e =>
   have δ:=Ta Q;have:uP l=false:=by unfold uP; rw[Q]
   rw[this,a8F] at c;simp only[go_sem,frV];refine aR fun o ho=>?_;simp only[go_sem];refine bV .nil eT a_ ?_;simp only[go_sem,fe,dN δ,ff];exact fail _ _ c rfl
  | ok r =>
   have W:=afF Q;have ζ:=p6 Q;obtain⟨n,a,b⟩:=r;have h1:dB 1:=by unfold dB; omega
   have K:=L.same (FV.rf (n,a,b)) (mkT 1 1) W (FU 1 h1).1 (by unfold RF.valid FV.rf; simp only[aW]; exact ζ) (FU 1 h1).2;have hP:uP l=(pN (FV.rf (n,a,b)) (mkT 1 1)==0):=by unfold uP;rw[Q,FW];unfold pN FV.rf;simp only[aW,show (1:Int).natAbs=1 from rfl,show decide ((1:Int)<0)=false from rfl];by_cases h:pM n a b false 1 1=0<;>simp[h]
   simp only[go_sem,frV];refine aR fun o ho=>?_;have hH:aN (PH.nil.set o (.rows 3 [(FV.rf (n,a,b)).cells])) [(o,.rows 3 [(FV.rf (n,a,b)).cells])] []:=aN.nil.new (H:=PH.nil) rfl _;simp only[go_sem];refine bV (PH.nil.set o (.rows 3 [(FV.rf (n,a,b)).cells])) (zsS (pN (FV.rf (n,a,b)) (mkT 1 1)==0)) b_ ?_;simp only[go_sem,fe,bY (show (0:Int)=0 from rfl)];refine bO rfl (L.int 1 h1) rfl b_ ?_;simp only[go_sem];refine bO rfl K rfl b_ ?_;rw[← hP];cases hp:uP l with
   | false =>rw[hp,a8F] at c;simp only[go_sem,a8N,ff];exact fail _ _ c rfl
   | true =>
    rw[hp,a8H,aPQ] at c;have β:(l.start.length:Int)*((1:Nat):Int)≤140737488355328:=Om;have γ:(l.start.length:Int)≤9223372036854775807:=Om;simp only[go_sem,a8B,Vv,β,γ];refine aR fun q hq=>?_;simp only[go_sem,Vw];have η:a8A l.start.length [PV.bool false]=dJ (cW l 0):=by rw[← y];simp[cW,dJ]
    rw[← y];refine aNY L l N R S q _ _ _ Lq ?_ ?_
    ·refine PH.aK a_ ?_;rw[cO,y,η]
    simp only[go_sem,V2];have ε:(cW l l.exit.length).length≤4:=by rw[qL]; omega
    refine aYK (cW l l.exit.length) ε q (jZ l) c _ rfl _ _ ?_ b_;rw[qL];exact Lq
structure pW (C:Ctx):Prop extends oJ C where
 law:∀ l:cE,l.Ok→aH C 68 [.agg l.cells] .nil (aF (.bool (jZ l)))
def okL (base ns:List (List UInt8)) (P:Nat→Bool) (i:Nat):Bool:=jG (base++ns.take i) (ns.getD i [])&&P i
theorem rI {p:Nat→Bool} (k:Nat) (b:Bool):(b&&(a7X (k+1)).all p)=((b&&(a7X k).all p)&&p k):=by
 rw[bbI,List.all_append];cases (a7X k).all p<;>cases b<;>simp
theorem rH {p:Nat→Bool} {b:Bool} {i n:Nat} (hi:i≤n) (h:(b&&(a7X i).all p)=false):(b&&(a7X n).all p)=false:=by
 cases b with
 | false=>rfl
 | true =>rw[a8H] at h ⊢;obtain⟨x,e,c⟩:=List.all_eq_false.1 h;exact List.all_eq_false.2 ⟨x,a9A.2 (by have:=a9A.1 e; omega),c⟩
structure gX (H:PH) (w:PV) (base ns:List (List UInt8)) (c:Bool) (i:Nat):Prop where
 ex:∃ names,aN H [] [(w,1,mK names)]∧(c=true→names=base++ns.take i)
section
variable {C:Ctx} {F:PF} {H:PH} {d:Option Nat} {K:PF→PH→Prop}
theorem gX.call (L:oJ C) {w:PV} {base ns:List (List UInt8)} {i:Nat} {B:List BX} {c:List (List UInt8)} (h:aN H B [(w,1,mK c)]) (J:base.length≤1000) (hi:i≤1000) (u:c=base++ns.take i) (l:i<ns.length) {a b:Nat} (e:aP.evs F [.tmp a,.tmp b]=some [w,.str ns[i]])
  (y:∀ p H',aN H' B [(p,1,mK (c++[ns[i]]))]→gX H' p base ns true (i+1)→K (F.put d (.tup [p,.bool (jG (base++ns.take i) (ns.getD i []))])) H'):iV C 70 [.tmp a,.tmp b] [] d K F H:=by
 refine EU (B1:=[]) (B2:=B) (L1:=[(w,1,mK c)]) (L2:=[]) (Q:=fw c ns[i]) h (fun A E=>L.fresh c (by rw[u,a8E,a8Q]; omega) ns[i] w A E) e ?_;rintro r B' L' H' ⟨p,rfl,rfl,rfl⟩ x;have q:ns.getD i []=ns[i]:=by simp[a8P,l]
 rw[q,← u] at y;refine y p H' x ⟨c++[ns[i]],x.sub (List.nil_sublist _) (baA.refl _),fun _=>?_⟩;rw[a9U l,← a9G,u]
end
theorem gX.x5 {H:PH} {w:PV} {base ns:List (List UInt8)} {c:Bool} {i:Nat} (h:gX H w base ns true i):gX H w base ns c i:=by
 obtain⟨e,l,p⟩:=h.ex;exact⟨e,l,fun _=>p rfl⟩
def IQ (f:aE):Bool:=(a7X f.a6S.length).all (okL [] (f.a6S.map cE.name) fun i=>(f.a6S.map jZ).getD i false)
theorem aUU {C:Ctx} (L:pW C) (f:aE) (hf:f.Ok) (hs:f.a6S.length≤4) (K:bR) [Up K] (F:PF) (H:PH)
  (X:(((((((((PF.nil.set 1 (.bH f.cells)).set 3 (.aB)).set 4 (.aB)).set 5 (.aB)).set 6 (.aB)).set 7 (.aB)).set 8 (.bool true)).set 9 (.int .i64 0)):PF).le F)
  (Q:∀ H',K (.exit 0) (((((((PF.nil.set 1 (.bH f.cells)).set 4 (.aB)).set 5 (.aB)).set 6 (.aB)).set 7 (.aB)).set 8 (.bool (IQ f)))) H'):aC.wp C (.loop MS) K F H:=by
 obtain⟨ok,E⟩:∃ ok,okL [] (f.a6S.map cE.name) (fun i=>(f.a6S.map jZ).getD i false)=ok:=⟨_,rfl⟩;unfold IQ at Q;rw[E] at Q;refine wp_loop (α:=Nat × PV × PH) (fun s=>((((((((PF.nil.set 1 (.bH f.cells)).set 3 (s.2.1)).set 4 (.aB)).set 5 (.aB)).set 6 (.aB)).set 7 (.aB)).set 8 (.bool (true&&(a7X s.1).all ok))).set 9 (.int .i64 s.1))) (fun s=>s.2.2) (fun s=>s.1≤f.a6S.length∧gX s.2.2 s.2.1 [] (f.a6S.map cE.name) (true&&(a7X s.1).all ok) s.1) (fun s=>f.a6S.length-s.1)
  (0,.aB,H) ⟨a8C _,⟨[],aN.nil.nC 1,fun _=>rfl⟩⟩ X b_ ?_
 rintro⟨i,w,U⟩ ⟨hi,V⟩;simp only at hi V ⊢;have fin:∀ (b:Bool) (x:PV) (M:PF) (H':PH),i<f.a6S.length→(true&&(a7X (i+1)).all ok)=b→gX H' x [] (f.a6S.map cE.name) true (i+1) →
   (((((((((PF.nil.set 1 (.bH f.cells)).set 3 (x)).set 4 (.aB)).set 5 (.aB)).set 6 (.aB)).set 7 (.aB)).set 8 (.bool b)).set 9 (.int .i64 (i+1:Nat))):PF).le M →
   fJ (fun s:Nat × PV × PH=>((((((((PF.nil.set 1 (.bH f.cells)).set 3 (s.2.1)).set 4 (.aB)).set 5 (.aB)).set 6 (.aB)).set 7 (.aB)).set 8 (.bool (true&&(a7X s.1).all ok))).set 9 (.int .i64 s.1))) (fun s=>s.2.2) (fun s=>s.1≤f.a6S.length∧gX s.2.2 s.2.1 [] (f.a6S.map cE.name) (true&&(a7X s.1).all ok) s.1) (fun s=>f.a6S.length-s.1) (f.a6S.length-i) K .normal M H' :=
  fun b x M H' hlt Y O N=>aD (i+1,x,H') ⟨hlt,O.x5⟩ (by simp only; omega) (by simp only; rw[Y]; exact N) b_
 have l:=rI (p:=ok) i true;have u:(true&&(a7X i).all ok)=(true&&(a7X f.a6S.length).all ok)→K (.exit 0) (((((((PF.nil.set 1 (.bH f.cells)).set 4 (.aB)).set 5 (.aB)).set 6 (.aB)).set 7 (.aB)).set 8 (.bool (true&&(a7X i).all ok)))) U:=fun e=>by rw[e,a8H]; exact Q U
 have A:=fun h=>rH (p:=ok) (b:=true) hi h;generalize Z:(true&&(a7X i).all ok)=c at *
 simp only[go_sem,MS,G5,a7W];by_cases hlt:i<f.a6S.length
 ·have q:(i:Int)<(f.a6S.length:Nat):=Om;cases c with
  | false =>simp only[go_sem,q];exact Up.up Lq (u (A rfl).symm)
  | true =>
   obtain⟨S,g1,g3⟩:=V.ex;have B:(f.a6S.map cE.cells)[i]?=some (f.a6S[i]).cells:=by simp[hlt]
   have R:i<(f.a6S.map cE.name).length:=by rw[a7W]; exact hlt
   have J:ok i=(jG ([]++(f.a6S.map cE.name).take i) ((f.a6S.map cE.name).getD i [])&&jZ f.a6S[i]):=by rw[← E];unfold okL;simp[a8P,hlt]
   have hl:=L.law _ (hf.law _ (a7Z hlt));rw[J] at l;simp only[go_sem,q,G6,B];refine gX.call L.tooJ (ns:=f.a6S.map cE.name) g1 (a8C _) Om (g3 rfl) R (by simp only[go_sem,a9R]) fun x H1 h1 y=>?_;generalize jG ([]++(f.a6S.map cE.name).take i) ((f.a6S.map cE.name).getD i [])=W at *
   cases W with
   | false =>simp only[go_sem,UF,UG,wZz i];exact fin false x _ _ hlt (l.trans rfl) y Lq
   | true =>simp only[go_sem,UF,B];refine aA hl rfl ?_;simp only[go_sem,UG,wZz i];exact fin _ x _ _ hlt (l.trans rfl) y Lq
 ·have q:¬ (i:Int)<(f.a6S.length:Nat):=Om;have:i=f.a6S.length:=Om;subst this;simp only[go_sem,q];exact Up.up Lq (u Z.symm)
theorem TB {a b c d e f:Nat} (h:pR a b c d e f=true):a≤4∧b≤4∧c≤40∧d≤24∧e≤4∧f≤12:=by
 simp only[pR,a8O,decide_eq_true_eq] at h;omega
theorem sx {n:Nat} (h:n≤1000):IntKind.i64.wrap ((n:Int)-1)=(n:Int)-1:=wrap_i64 Om Om
def inS:Spec:=fun name vs=>match name,vs with
 | 76,[.int _ n,.int _ lo,.int _ hi]=>some ([],fun _=>aF (.bool (within n lo hi)))
 | _,_=>none
def wb (a6S:Nat) (m:cT):Bool:=within m.a7B 1 16&&(within m.port 1 64&&within m.law 0 ((a6S:Int)-1))
def Vc (pols:Nat) (v:eW):Bool:=within v.a6X 0 ((pols:Int)-1)
def yK (f:aE):Bool:=(a7X f.a6M.length).all (okL [] (f.a6M.map cT.name) fun i=>(f.a6M.map (wb f.a6S.length)).getD i false)
theorem aDR {C:Ctx} (L:pW C) (f:aE) (hf:f.Ok) (hz:pR f.a6S.length f.a6M.length f.a6O.length f.a6L.length f.a6P.length f.a6N.length=true) (b:Bool) (K:bR) [Up K] (F:PF) (H:PH)
  (hF:((((((((PF.nil.set 1 (.bH f.cells)).set 4 (.aB)).set 5 (.aB)).set 6 (.aB)).set 7 (.aB)).set 8 (.bool b)).set 10 (.int .i64 0)):PF).le F)
  (R:∀ H',K (.exit 2) ((((((PF.nil.set 1 (.bH f.cells)).set 5 (.aB)).set 6 (.aB)).set 7 (.aB)).set 8 (.bool (b&&yK f)))) H'):aC.wp C (.loop MT) K F H:=by
 obtain⟨β,γ,δ,ε,ζ,η⟩:=TB hz;obtain⟨ok,B⟩:∃ ok,okL [] (f.a6M.map cT.name) (fun i=>(f.a6M.map (wb f.a6S.length)).getD i false)=ok:=⟨_,rfl⟩;unfold yK at R;rw[B] at R;refine wp_loop (α:=Nat × PV × PH) (fun s=>(((((((PF.nil.set 1 (.bH f.cells)).set 4 (s.2.1)).set 5 (.aB)).set 6 (.aB)).set 7 (.aB)).set 8 (.bool (b&&(a7X s.1).all ok))).set 10 (.int .i64 s.1))) (fun s=>s.2.2) (fun s=>s.1≤f.a6M.length∧gX s.2.2 s.2.1 [] (f.a6M.map cT.name) (b&&(a7X s.1).all ok) s.1) (fun s=>f.a6M.length-s.1)
  (0,.aB,H) ⟨a8C _,⟨[],aN.nil.nC 1,fun _=>rfl⟩⟩ (by
   have e:(b&&(a7X 0).all ok)=b:=by cases b<;>rfl
   simp only[e];exact hF) b_ ?_
 rintro⟨i,w,M⟩ ⟨hi,X⟩;simp only at hi X ⊢;have fin:∀ (c:Bool) (u:PV) (J:PF) (H':PH),i<f.a6M.length→(b&&(a7X (i+1)).all ok)=c→gX H' u [] (f.a6M.map cT.name) true (i+1) →
   ((((((((PF.nil.set 1 (.bH f.cells)).set 4 (u)).set 5 (.aB)).set 6 (.aB)).set 7 (.aB)).set 8 (.bool c)).set 10 (.int .i64 (i+1:Nat))):PF).le J →
   fJ (fun s:Nat × PV × PH=>(((((((PF.nil.set 1 (.bH f.cells)).set 4 (s.2.1)).set 5 (.aB)).set 6 (.aB)).set 7 (.aB)).set 8 (.bool (b&&(a7X s.1).all ok))).set 10 (.int .i64 s.1))) (fun s=>s.2.2) (fun s=>s.1≤f.a6M.length∧gX s.2.2 s.2.1 [] (f.a6M.map cT.name) (b&&(a7X s.1).all ok) s.1) (fun s=>f.a6M.length-s.1) (f.a6M.length-i) K .normal J H' :=
  fun c u J H' hlt hb Q O=>aD (i+1,u,H') ⟨hlt,Q.x5⟩ (by simp only; omega) (by simp only; rw[hb]; exact O) b_
 have d:=rI (p:=ok) i b;have x:(b&&(a7X i).all ok)=(b&&(a7X f.a6M.length).all ok)→K (.exit 2) ((((((PF.nil.set 1 (.bH f.cells)).set 5 (.aB)).set 6 (.aB)).set 7 (.aB)).set 8 (.bool (b&&(a7X i).all ok)))) M:=fun e=>by rw[e]; exact R M
 have A:=fun h=>rH (p:=ok) (b:=b) hi h;generalize hc:(b&&(a7X i).all ok)=c at *
 simp only[go_sem,MT,tv,a7W];by_cases hlt:i<f.a6M.length
 ·have l:(i:Int)<(f.a6M.length:Nat):=Om;cases c with
  | false =>simp only[go_sem,l];exact Up.up Lq (x (A rfl).symm)
  | true =>
   obtain⟨W,g1,g3⟩:=X.ex;have S:(f.a6M.map cT.cells)[i]?=some (f.a6M[i]).cells:=by simp[hlt]
   have U:i<(f.a6M.map cT.name).length:=by rw[a7W]; exact hlt
   have E:ok i=(jG ([]++(f.a6M.map cT.name).take i) ((f.a6M.map cT.name).getD i [])&&(wb f.a6S.length) f.a6M[i]):=by rw[← B];unfold okL;simp[a8P,hlt]
   rw[E] at d;have y:wb f.a6S.length f.a6M[i]=(within (f.a6M[i]).a7B 1 16&&(within (f.a6M[i]).port 1 64&&within (f.a6M[i]).law 0 ((f.a6S.length:Int)-1))):=rfl;rw[y] at d;simp only[go_sem,l,tw,S];refine aR fun o ho=>?_;have g4:=g1.new ho (.rows 4 [(f.a6M[i]).cells]);have Z:=g4.at 0 rfl;simp only[go_sem];generalize M.set o (.rows 4 [(f.a6M[i]).cells])=H2 at *
   simp only[go_sem,tx,Z];refine gX.call L.tooJ (ns:=(f.a6M.map cT.name)) g4 (a8C _) Om (g3 rfl) U (by simp only[go_sem,a9R]) fun u H1 h1 q=>?_;have N:=h1.at 0 rfl;generalize jG ([]++(f.a6M.map cT.name).take i) ((f.a6M.map cT.name).getD i [])=Y at *
   cases Y with
   | false =>simp only[go_sem,MV,tR,wZz i];exact fin false u _ _ hlt (d.trans rfl) q Lq
   | true =>
    simp only[go_sem,MV,N];refine aA (L.inn (f.a6M[i]).a7B 1 16) rfl ?_;cases V:within (f.a6M[i]).a7B 1 16 with
    | false =>simp only[go_sem,tR,wZz i];exact fin false u _ _ hlt (by rw[d,V]<;>simp) q Lq
    | true =>
     simp only[go_sem,N];refine aA (L.inn (f.a6M[i]).port 1 64) rfl ?_;cases k1:within (f.a6M[i]).port 1 64 with
     | false =>simp only[go_sem,tR,wZz i];exact fin false u _ _ hlt (by rw[d,V,k1]<;>simp) q Lq
     | true =>simp only[go_sem,N,a7W,sx (Om:f.a6S.length≤1000)];refine aA (L.inn (f.a6M[i]).law 0 ((f.a6S.length:Int)-1)) rfl ?_;simp only[go_sem,tR,wZz i];exact fin _ u _ _ hlt (by rw[d,V,k1]<;>simp) q Lq
 ·have l:¬ (i:Int)<(f.a6M.length:Nat):=Om;have:i=f.a6M.length:=Om;subst this;simp only[go_sem,l];exact Up.up Lq (x hc.symm)
def In (f:aE):Bool:=(a7X f.a6N.length).all (okL [] (f.a6N.map eW.name) fun i=>(f.a6N.map (Vc f.a6P.length)).getD i false)
theorem aUW {C:Ctx} (L:pW C) (f:aE) (hf:f.Ok) (hz:pR f.a6S.length f.a6M.length f.a6O.length f.a6L.length f.a6P.length f.a6N.length=true) (b:Bool) (K:bR) [Up K] (F:PF) (H:PH)
  (X:(((((PF.nil.set 1 (.bH f.cells)).set 7 (.aB)).set 8 (.bool b)).set 21 (.int .i64 0)):PF).le F)
  (Q:∀ H',K (.exit 14) (((PF.nil.set 1 (.bH f.cells)).set 8 (.bool (b&&In f)))) H'):aC.wp C (.loop xX) K F H:=by
 obtain⟨β,γ,δ,ε,ζ,η⟩:=TB hz;obtain⟨ok,E⟩:∃ ok,okL [] (f.a6N.map eW.name) (fun i=>(f.a6N.map (Vc f.a6P.length)).getD i false)=ok:=⟨_,rfl⟩;unfold In at Q;rw[E] at Q;refine wp_loop (α:=Nat × PV × PH) (fun s=>((((PF.nil.set 1 (.bH f.cells)).set 7 (s.2.1)).set 8 (.bool (b&&(a7X s.1).all ok))).set 21 (.int .i64 s.1))) (fun s=>s.2.2) (fun s=>s.1≤f.a6N.length∧gX s.2.2 s.2.1 [] (f.a6N.map eW.name) (b&&(a7X s.1).all ok) s.1) (fun s=>f.a6N.length-s.1)
  (0,.aB,H) ⟨a8C _,⟨[],aN.nil.nC 1,fun _=>rfl⟩⟩ (by
   have e:(b&&(a7X 0).all ok)=b:=by cases b<;>rfl
   simp only[e];exact X) b_ ?_
 rintro⟨i,w,U⟩ ⟨hi,V⟩;simp only at hi V ⊢;have fin:∀ (c:Bool) (x:PV) (M:PF) (H':PH),i<f.a6N.length→(b&&(a7X (i+1)).all ok)=c→gX H' x [] (f.a6N.map eW.name) true (i+1) →
   (((((PF.nil.set 1 (.bH f.cells)).set 7 (x)).set 8 (.bool c)).set 21 (.int .i64 (i+1:Nat))):PF).le M →
   fJ (fun s:Nat × PV × PH=>((((PF.nil.set 1 (.bH f.cells)).set 7 (s.2.1)).set 8 (.bool (b&&(a7X s.1).all ok))).set 21 (.int .i64 s.1))) (fun s=>s.2.2) (fun s=>s.1≤f.a6N.length∧gX s.2.2 s.2.1 [] (f.a6N.map eW.name) (b&&(a7X s.1).all ok) s.1) (fun s=>f.a6N.length-s.1) (f.a6N.length-i) K .normal M H' :=
  fun c x M H' hlt Y O N=>aD (i+1,x,H') ⟨hlt,O.x5⟩ (by simp only; omega) (by simp only; rw[Y]; exact N) b_
 have d:=rI (p:=ok) i b;have q:(b&&(a7X i).all ok)=(b&&(a7X f.a6N.length).all ok)→K (.exit 14) (((PF.nil.set 1 (.bH f.cells)).set 8 (.bool (b&&(a7X i).all ok)))) U:=fun e=>by rw[e]; exact Q U
 have A:=fun h=>rH (p:=ok) (b:=b) hi h;generalize Z:(b&&(a7X i).all ok)=c at *
 simp only[go_sem,xX,uq,a7W];by_cases hlt:i<f.a6N.length
 ·have l:(i:Int)<(f.a6N.length:Nat):=Om;cases c with
  | false =>simp only[go_sem,l];exact Up.up Lq (q (A rfl).symm)
  | true =>
   obtain⟨S,g1,g3⟩:=V.ex;have B:(f.a6N.map eW.cells)[i]?=some (f.a6N[i]).cells:=by simp[hlt]
   have R:i<(f.a6N.map eW.name).length:=by rw[a7W]; exact hlt
   have J:ok i=(jG ([]++(f.a6N.map eW.name).take i) ((f.a6N.map eW.name).getD i [])&&(Vc f.a6P.length) f.a6N[i]):=by rw[← E];unfold okL;simp[a8P,hlt]
   rw[J] at d;have u:Vc f.a6P.length f.a6N[i]=within (f.a6N[i]).a6X 0 ((f.a6P.length:Int)-1):=rfl;rw[u] at d;simp only[go_sem,l,ut,B];refine gX.call L.tooJ (ns:=(f.a6N.map eW.name)) g1 (a8C _) Om (g3 rfl) R (by simp only[go_sem,a9R]) fun x H1 h1 y=>?_;generalize jG ([]++(f.a6N.map eW.name).take i) ((f.a6N.map eW.name).getD i [])=W at *
   cases W with
   | false =>simp only[go_sem];refine bV .nil (inS) a_ ?_;simp only[go_sem,NH,NI,wZz i];exact fin false x _ _ hlt (d.trans rfl) y Lq
   | true =>simp only[go_sem];refine bV .nil (inS) a_ ?_;simp only[go_sem,NH,B,a7W,sx (Om:f.a6P.length≤1000)];refine bO rfl (L.inn (f.a6N[i]).a6X 0 ((f.a6P.length:Int)-1)) rfl a_ ?_;simp only[go_sem,NI,wZz i];exact fin _ x _ _ hlt (d.trans rfl) y Lq
 ·have l:¬ (i:Int)<(f.a6N.length:Nat):=Om;have:i=f.a6N.length:=Om;subst this;simp only[go_sem,l];exact Up.up Lq (q Z.symm)
def alS:Spec:=fun name vs=>match name,vs with
 | 76,[.int _ n,.int _ lo,.int _ hi]=>some ([],fun _=>aF (.bool (within n lo hi)))
 | 74,[.agg cs]=>some ([],fun _=>aF (.bool (cS (frD cs))))
 | _,_=>none
theorem alT (x:RF):alS 74 [.agg x.cells]=some ([],fun _=>aF (.bool (cS x))):=by
 show some ([],fun _=>aF (.bool (cS (frD x.cells))))=_;rw[Ab]
def Kp (f:aE) (i:Nat) (d:cD):Bool :=
 within d.level 1 4&&(within d.parent 0 i&&(((f.a6O.map cD.level).getD d.parent.toNat 0==IntKind.i64.wrap (d.level-1))&&(within d.a7F 1 64&&cS d.a7A)))
theorem aPM (f:aE) (i:Nat) (d:cD):HK f i d=Kp f i d:=by
 unfold HK Kp;have:decide ((f.a6O.map cD.level).getD d.parent.toNat 0=IntKind.i64.wrap (d.level-1))=((f.a6O.map cD.level).getD d.parent.toNat 0==IntKind.i64.wrap (d.level-1)):=by generalize (f.a6O.map cD.level).getD d.parent.toNat 0=u;by_cases h:u=IntKind.i64.wrap (d.level-1)<;>simp[h]
 rw[this];cases within d.parent 0 i<;>cases within d.level 1 4<;>cases within d.a7F 1 64<;>simp
def gS (f:aE):List (List UInt8):=(f.a6O.drop 1).map cD.name
def wU (f:aE) (i:Nat):Bool:=match f.a6O[i+1]? with
 | some d=>Kp f i d
 | none=>false
def wV (f:aE):Bool:=(a7X (f.a6O.length-1)).all (okL [] (gS f) (wU f))
theorem Ko (f:aE):(gS f).length=f.a6O.length-1:=by simp[gS]
theorem aUT {C:Ctx} (L:pW C) (f:aE) (hf:f.Ok) (μ:f.a6O.length≤40) (h0:0<f.a6O.length) (b:Bool) (K:bR) [Up K] (F:PF) (H:PH)
  (hF:(((((((PF.nil.set 1 (.bH f.cells)).set 5 (.aB)).set 6 (.aB)).set 7 (.aB)).set 8 (.bool b)).set 13 (.int .i64 1)):PF).le F)
  (V:∀ w H',gX H' w [] (gS f) (b&&wV f) (f.a6O.length-1)→K (.exit 4) ((((((PF.nil.set 1 (.bH f.cells)).set 5 (w)).set 6 (.aB)).set 7 (.aB)).set 8 (.bool (b&&wV f)))) H'):aC.wp C (.loop xT) K F H:=by
 obtain⟨ok,O⟩:∃ ok,okL [] (gS f) (wU f)=ok:=⟨_,rfl⟩;unfold wV at V;rw[O] at V;obtain⟨n,hn⟩:∃ n,f.a6O.length=n+1:=⟨f.a6O.length-1,by omega⟩;have η:=Ko f;have ζ:f.a6O.length-1=n:=Om;rw[ζ] at V η;refine wp_loop (α:=Nat × PV × PH) (fun s=>((((((PF.nil.set 1 (.bH f.cells)).set 5 (s.2.1)).set 6 (.aB)).set 7 (.aB)).set 8 (.bool (b&&(a7X s.1).all ok))).set 13 (.int .i64 (s.1+1:Nat)))) (fun s=>s.2.2) (fun s=>s.1≤n∧gX s.2.2 s.2.1 [] (gS f) (b&&(a7X s.1).all ok) s.1) (fun s=>n-s.1)
  (0,.aB,H) ⟨a8C _,⟨[],aN.nil.nC 1,fun _=>rfl⟩⟩ (by
   have e:(b&&(a7X 0).all ok)=b:=by cases b<;>rfl
   simp only[e];exact hF) b_ ?_
 rintro⟨i,w,X⟩ ⟨hi,Z⟩;simp only at hi Z ⊢;have fin:∀ (c:Bool) (y:PV) (W:PF) (H':PH),i<n→(b&&(a7X (i+1)).all ok)=c→gX H' y [] (gS f) true (i+1) →
   (((((((PF.nil.set 1 (.bH f.cells)).set 5 (y)).set 6 (.aB)).set 7 (.aB)).set 8 (.bool c)).set 13 (.int .i64 (i+1+1:Nat))):PF).le W →
   fJ (fun s:Nat × PV × PH=>((((((PF.nil.set 1 (.bH f.cells)).set 5 (s.2.1)).set 6 (.aB)).set 7 (.aB)).set 8 (.bool (b&&(a7X s.1).all ok))).set 13 (.int .i64 (s.1+1:Nat)))) (fun s=>s.2.2) (fun s=>s.1≤n∧gX s.2.2 s.2.1 [] (gS f) (b&&(a7X s.1).all ok) s.1) (fun s=>n-s.1) (n-i) K .normal W H' :=
  fun c y W H' hlt hb β Y=>aD (i+1,y,H') ⟨hlt,β.x5⟩ (by simp only; omega) (by simp only; rw[hb]; exact Y) b_
 have d:=rI (p:=ok) i b;have M:=fun h=>rH (p:=ok) (b:=b) hi h;have B:(b&&(a7X i).all ok)=(b&&(a7X n).all ok)→((b&&(a7X i).all ok)=true→i=n)→K (.exit 4) ((((((PF.nil.set 1 (.bH f.cells)).set 5 (w)).set 6 (.aB)).set 7 (.aB)).set 8 (.bool (b&&(a7X i).all ok)))) X:=fun e e2=>by
  obtain⟨x,g1,g3⟩:=Z.ex;have:=V w X ⟨x,g1,fun h=>by have h':=e.trans h;rw[g3 h',e2 h']⟩
  rwa [← e] at this
 generalize hc:(b&&(a7X i).all ok)=c at *
 simp only[go_sem,xT,t6,a7W];by_cases hlt:i<n
 ·have q:((i+1:Nat):Int)<(f.a6O.length:Nat):=Om;cases c with
  | false =>simp only[go_sem,q];exact Up.up Lq (B (M rfl).symm (fun h=>by cases h))
  | true =>
   obtain⟨x,g1,g3⟩:=Z.ex;have E:i+1<f.a6O.length:=Om;have γ:=fG E;have ε:i<(gS f).length:=Om;have θ:(gS f)[i]=(f.a6O[i+1]).name:=by simp[gS,Nat.add_comm]
   have Q:ok i=(jG ([]++(gS f).take i) ((gS f).getD i [])&&Kp f i f.a6O[i+1]):=by rw[← O];unfold okL wU;rw[a8K E]
   have δ:=hf.dom _ (a7Z E);rw[Q] at d;unfold Kp at d;have e1:IntKind.i64.wrap (((i+1:Nat):Int)-1)=(i:Nat):=by rw[wrap_i64 Om Om]; omega
   have l:IntKind.i64.wrap (((i+1:Nat):Int)+1)=((i+1+1:Nat):Int):=cZ Om;have κ:=L.small _ δ.1;simp only[go_sem,q,t7,γ];refine aR fun o ho=>?_;have g4:=g1.new ho (.rows 7 [(f.a6O[i+1]).cells]);have g5:=g4.at 0 rfl;simp only[go_sem];generalize X.set o (.rows 7 [(f.a6O[i+1]).cells])=H2 at *
   simp only[go_sem,t8,g5];refine gX.call L.tooJ (ns:=gS f) g4 (a8C _) Om (g3 rfl) ε (by simp only[go_sem,θ]) fun y H1 h1 u=>?_;have J:=h1.at 0 rfl;generalize jG ([]++(gS f).take i) ((gS f).getD i [])=fb at *
   generalize hd:f.a6O[i+1]=A at *
   cases fb with
   | false =>simp only[go_sem];refine bV .nil alS a_ ?_;simp only[go_sem,MY,oE,l];exact fin false y _ _ hlt (d.trans rfl) u Lq
   | true =>
    simp only[go_sem];refine bV .nil alS a_ ?_;simp only[go_sem,MY,J];refine bO rfl (L.inn A.level 1 4) rfl a_ ?_;cases U:within A.level 1 4 with
    | false =>simp only[go_sem,oE,l];exact fin false y _ _ hlt (by rw[d,U]<;>simp) u Lq
    | true =>
     simp only[go_sem,J,e1];refine bO rfl (L.inn A.parent 0 (i:Nat)) rfl a_ ?_;cases k1:within A.parent 0 (i:Nat) with
     | false =>simp only[go_sem,oE,l];exact fin false y _ _ hlt (by rw[d,U,k1]<;>simp) u Lq
     | true =>
      obtain⟨p0,p1⟩:=within_iff.1 k1;obtain⟨p,hp⟩:∃ p:Nat,A.parent=p:=⟨A.parent.toNat,by omega⟩;have S:p<f.a6O.length:=Om;obtain⟨lv,N⟩:∃ lv,(f.a6O.map cD.level).getD A.parent.toNat 0=lv:=⟨_,rfl⟩;have ι:(f.a6O[p]).level=lv:=by rw[← N,hp,a9Q,getD_at S]
      rw[N] at d;have R:=fG S;simp only[go_sem,J,hp,R,ι];cases k2:lv==IntKind.i64.wrap (A.level-1) with
      | false =>simp only[go_sem,oE,l];exact fin false y _ _ hlt (by rw[d,U,k1,k2]<;>simp) u Lq
      | true =>
       simp only[go_sem,J];refine bO rfl (L.inn A.a7F 1 64) rfl a_ ?_;cases k3:within A.a7F 1 64 with
       | false =>simp only[go_sem,oE,l];exact fin false y _ _ hlt (by rw[d,U,k1,k2,k3]<;>simp) u Lq
       | true =>simp only[go_sem,J];refine bO (alT _) κ rfl a_ ?_;simp only[go_sem,oE,l];exact fin _ y _ _ hlt (by rw[d,U,k1,k2,k3]<;>simp) u Lq
 ·have q:¬ ((i+1:Nat):Int)<(f.a6O.length:Nat):=Om;have:i=n:=Om;subst this;simp only[go_sem,q];exact Up.up Lq (B hc.symm (fun _=>rfl))
def Ks (f:aE) (d:dH):Bool:=within d.model 0 ((f.a6M.length:Int)-1)&&(within d.machine 0 ((f.a6O.length:Int)-1)&&((f.a6O.map cD.level).getD d.machine.toNat 0==4))
def lS (f:aE):List (List UInt8):=f.a6L.map dH.name
def uU (f:aE) (i:Nat):Bool:=match f.a6L[i]? with
 | some d=>Ks f d
 | none=>false
def yB (f:aE):Bool:=(a7X f.a6L.length).all (okL (gS f) (lS f) (uU f))
theorem aDQ {C:Ctx} (L:pW C) (f:aE) (hf:f.Ok) (ι:f.a6O.length≤40) (h0:0<f.a6O.length) (κ:f.a6L.length≤24) (θ:f.a6M.length≤4) (b:Bool) (w0:PV) (K:bR) [Up K] (F:PF) (H:PH)
  (Z:gX H w0 [] (gS f) b (f.a6O.length-1)) (hF:(((((((PF.nil.set 1 (.bH f.cells)).set 5 (w0)).set 6 (.aB)).set 7 (.aB)).set 8 (.bool b)).set 15 (.int .i64 0)):PF).le F)
  (S:∀ H',K (.exit 6) (((((PF.nil.set 1 (.bH f.cells)).set 6 (.aB)).set 7 (.aB)).set 8 (.bool (b&&yB f)))) H'):aC.wp C (.loop xU) K F H:=by
 obtain⟨ok,N⟩:∃ ok,okL (gS f) (lS f) (uU f)=ok:=⟨_,rfl⟩;unfold yB at S;rw[N] at S;obtain⟨n,hn⟩:∃ n,f.a6L.length=n:=⟨_,rfl⟩;have ζ:=Ko f;have η:(lS f).length=n:=by simp[lS,hn]
 rw[hn] at S;refine wp_loop (α:=Nat × PV × PH) (fun s=>((((((PF.nil.set 1 (.bH f.cells)).set 5 (s.2.1)).set 6 (.aB)).set 7 (.aB)).set 8 (.bool (b&&(a7X s.1).all ok))).set 15 (.int .i64 s.1))) (fun s=>s.2.2) (fun s=>s.1≤n∧gX s.2.2 s.2.1 (gS f) (lS f) (b&&(a7X s.1).all ok) s.1) (fun s=>n-s.1)
  (0,w0,H) ⟨a8C _,by
   obtain⟨u,q1,q2⟩:=Z.ex;have e:(b&&(a7X 0).all ok)=b:=by cases b<;>rfl
   refine⟨u,q1,fun h=>?_⟩;simp only[e] at h;rw[q2 h,List.nil_append,a8S Om];simp⟩ (by
   have e:(b&&(a7X 0).all ok)=b:=by cases b<;>rfl
   simp only[e];exact hF) b_ ?_
 rintro⟨i,w,V⟩ ⟨hi,hG⟩;simp only at hi hG ⊢;have fin:∀ (c:Bool) (y:PV) (U:PF) (H':PH),i<n→(b&&(a7X (i+1)).all ok)=c→gX H' y (gS f) (lS f) true (i+1) →
   (((((((PF.nil.set 1 (.bH f.cells)).set 5 (y)).set 6 (.aB)).set 7 (.aB)).set 8 (.bool c)).set 15 (.int .i64 (i+1:Nat))):PF).le U →
   fJ (fun s:Nat × PV × PH=>((((((PF.nil.set 1 (.bH f.cells)).set 5 (s.2.1)).set 6 (.aB)).set 7 (.aB)).set 8 (.bool (b&&(a7X s.1).all ok))).set 15 (.int .i64 s.1))) (fun s=>s.2.2) (fun s=>s.1≤n∧gX s.2.2 s.2.1 (gS f) (lS f) (b&&(a7X s.1).all ok) s.1) (fun s=>n-s.1) (n-i) K .normal U H' :=
  fun c y U H' hlt hb Y X=>aD (i+1,y,H') ⟨hlt,Y.x5⟩ (by simp only; omega) (by simp only; rw[hb]; exact X) b_
 have d:=rI (p:=ok) i b;have E:=fun h=>rH (p:=ok) (b:=b) hi h;have A:(b&&(a7X i).all ok)=(b&&(a7X n).all ok)→K (.exit 6) (((((PF.nil.set 1 (.bH f.cells)).set 6 (.aB)).set 7 (.aB)).set 8 (.bool (b&&(a7X i).all ok)))) V:=fun e=>by rw[e]; exact S V
 generalize hc:(b&&(a7X i).all ok)=c at *
 simp only[go_sem,xU,uc,a7W];by_cases hlt:i<n
 ·have l:((i:Nat):Int)<(f.a6L.length:Nat):=Om;cases c with
  | false =>simp only[go_sem,l];exact Up.up Lq (A (E rfl).symm)
  | true =>
   obtain⟨u,g1,g3⟩:=hG.ex;have J:i<f.a6L.length:=Om;have β:=pK J;have γ:i<(lS f).length:=Om;have δ:(lS f)[i]=(f.a6L[i]).name:=by simp[lS]
   have O:ok i=(jG (gS f++(lS f).take i) ((lS f).getD i [])&&Ks f f.a6L[i]):=by rw[← N];unfold okL uU;rw[a8K J]
   rw[O] at d;unfold Ks at d;have q:IntKind.i64.wrap ((i:Int)+1)=((i+1:Nat):Int):=cZ Om;have e1:=sx (Om:f.a6M.length≤1000);have e2:=sx (Om:f.a6O.length≤1000);simp only[go_sem,l,ud,β];refine aR fun o ho=>?_;have g4:=g1.new ho (.rows 3 [(f.a6L[i]).cells]);have g5:=g4.at 0 rfl;simp only[go_sem];generalize V.set o (.rows 3 [(f.a6L[i]).cells])=H2 at *
   simp only[go_sem,ue,g5];refine gX.call L.tooJ (base:=gS f) (ns:=lS f) g4 Om Om (g3 rfl) γ (by simp only[go_sem,δ]) fun y H1 h1 x=>?_;have W:=h1.at 0 rfl;generalize jG (gS f++(lS f).take i) ((lS f).getD i [])=fb at *
   generalize hd:f.a6L[i]=B at *
   cases fb with
   | false =>simp only[go_sem,NA,tT,q];exact fin false y _ _ hlt (d.trans rfl) x Lq
   | true =>
    simp only[go_sem,NA,W,a7W,e1];refine aA (L.inn B.model 0 ((f.a6M.length:Int)-1)) rfl ?_;cases k0:within B.model 0 ((f.a6M.length:Int)-1) with
    | false =>simp only[go_sem,tT,q];exact fin false y _ _ hlt (by rw[d,k0]<;>simp) x Lq
    | true =>
     simp only[go_sem,W,a7W,e2];refine aA (L.inn B.machine 0 ((f.a6O.length:Int)-1)) rfl ?_;cases k1:within B.machine 0 ((f.a6O.length:Int)-1) with
     | false =>simp only[go_sem,tT,q];exact fin false y _ _ hlt (by rw[d,k0,k1]<;>simp) x Lq
     | true =>
      obtain⟨p0,p1⟩:=within_iff.1 k1;obtain⟨p,hp⟩:∃ p:Nat,B.machine=p:=⟨B.machine.toNat,by omega⟩;have R:p<f.a6O.length:=Om;obtain⟨lv,M⟩:∃ lv,(f.a6O.map cD.level).getD B.machine.toNat 0=lv:=⟨_,rfl⟩;have ε:(f.a6O[p]).level=lv:=by rw[← M,hp,a9Q,getD_at R]
      rw[M] at d;have Q:=fG R;simp only[go_sem,W,hp,Q,ε,tT,q];exact fin _ y _ _ hlt (by rw[d,k0,k1]<;>simp) x Lq
 ·have l:¬ ((i:Nat):Int)<(f.a6L.length:Nat):=Om;have:i=n:=Om;subst this;simp only[go_sem,l];exact Up.up Lq (A hc.symm)
theorem bj {xs:List Int} {k:Nat} (h:k<xs.length):(xs.map fun x=>[PV.int .i64 x])[k]?=some [.int .i64 xs[k]]:=by simp[h]
def zpF (f:aE) (w:PV) (o i:Nat) (c:Bool) (j:Nat):PF:=(((((((PF.nil.set 1 (.bH f.cells)).set 6 (w)).set 7 (.aB)).set 8 (.bool c)).set 17 (.int .i64 i)).set 18 (.ptr o 17 0 0)).set 19 (.int .i64 j))
theorem aOA {C:Ctx} (f:aE) (w:PV) (o i:Nat) (p:bS) (M:p.a6M.length≤9223372036854775807) (j:Nat) (B:j<p.a6M.length) (b:Bool) (K:bR) [Up K] (F:PF) (H:PH) (E:H o=some (.rows 17 [p.cells])) (y:((zpF f w o i b j).set 20 (.int .i64 0)).le F)
  (A:K (.exit 12) (zpF f w o i (b&&(p.a6M.take j).all fun x=>x != p.a6M[j]) j) H):aC.wp C (.loop MU) K F H:=by
 refine wp_loop (α:=Nat) (fun k=>(zpF f w o i (b&&(p.a6M.take k).all fun x=>x != p.a6M[j]) j).set 20 (.int .i64 k)) (fun _=>H) (fun k=>k≤j) (fun k=>j-k) 0 (a8C _) (by
   have e:(b&&(p.a6M.take 0).all fun x=>x != p.a6M[j])=b:=by cases b<;>rfl
   simp only[e];exact y) b_ ?_
 intro k J;have q:∀ h:k<p.a6M.length,(b&&(p.a6M.take (k+1)).all fun x=>x != p.a6M[j])=((b&&(p.a6M.take k).all fun x=>x != p.a6M[j])&&(p.a6M[k] != p.a6M[j])):=fun h=>by rw[a9U h,List.all_append];simp[baZ]
 have fin:∀ (c:Bool) (u:PF),k<j→(b&&(p.a6M.take (k+1)).all fun x=>x != p.a6M[j])=c→((zpF f w o i c j).set 20 (.int .i64 (k+1:Nat))).le u→fJ (fun k:Nat=>(zpF f w o i (b&&(p.a6M.take k).all fun x=>x != p.a6M[j]) j).set 20 (.int .i64 k)) (fun _=>H) (fun k=>k≤j) (fun k=>j-k) (j-k) K .normal u H :=
  fun c u hlt e h=>aD (k+1) hlt Om (by rw[e]; exact h) b_
 unfold zpF at fin;simp only[go_sem,MU,um,zpF];by_cases hlt:k<j
 ·have d:(k:Int)<(j:Nat):=Om;have l:k<p.a6M.length:=Om;have q:=q l;generalize (b&&(p.a6M.take k).all fun x=>x != p.a6M[j])=c at *
  simp only[go_sem,d];refine bV .nil eT a_ ?_;cases c with
  | false =>simp only[go_sem,ND,NE,wZz k];exact fin false _ hlt (q.trans rfl) Lq
  | true =>simp only[go_sem,ND,E,bj l,bj B,NE,wZz k];exact fin _ _ hlt (q.trans rfl) Lq
 ·have d:¬ (k:Int)<(j:Nat):=Om;have:k=j:=Om;subst this;simp only[go_sem,d];exact Up.up (by (repeat' (first|exact c_|refine d_ ?_ ?_))<;>first|(simp only[go_sem,zpF]<;>rfl)|rfl) A
def KI (a6M:Nat) (ms:List Int) (j:Nat):Bool:=within (ms.getD j 0) 0 ((a6M:Int)-1)&&(ms.take j).all fun x=>x != ms.getD j 0
theorem aDN {C:Ctx} (L:pW C) (f:aE) (U:f.a6M.length≤4) (w:PV) (o i:Nat) (p:bS) (S:p.a6M.length≤9223372036854775807) (b:Bool) (K:bR) [Up K] (F:PF) (H:PH) (B:H o=some (.rows 17 [p.cells])) (N:(zpF f w o i b 0).le F)
  (J:K (.exit 10) ((((((PF.nil.set 1 (.bH f.cells)).set 6 (w)).set 7 (.aB)).set 8 (.bool (b&&(a7X p.a6M.length).all (KI f.a6M.length p.a6M)))).set 17 (.int .i64 i))) H):aC.wp C (.loop xV) K F H:=by
 obtain⟨ok,y⟩:∃ ok,KI f.a6M.length p.a6M=ok:=⟨_,rfl⟩;rw[y] at J;refine wp_loop (α:=Nat) (fun j=>zpF f w o i (b&&(a7X j).all ok) j) (fun _=>H) (fun j=>j≤p.a6M.length) (fun j=>p.a6M.length-j) 0 (a8C _) (by
   have e:(b&&(a7X 0).all ok)=b:=by cases b<;>rfl
   simp only[e];exact N) b_ ?_
 intro j R;have l:=rI (p:=ok) j b;have u:=fun h=>rH (p:=ok) (b:=b) R h;have fin:∀ (c:Bool) (A:PF),j<p.a6M.length→(b&&(a7X (j+1)).all ok)=c→(zpF f w o i c (j+1)).le A→fJ (fun j:Nat=>zpF f w o i (b&&(a7X j).all ok) j) (fun _=>H) (fun j=>j≤p.a6M.length) (fun j=>p.a6M.length-j) (p.a6M.length-j) K .normal A H :=
  fun c A hlt e h=>aD (j+1) hlt Om (by rw[e]; exact h) b_
 unfold zpF at fin;have q:(b&&(a7X j).all ok)=(b&&(a7X p.a6M.length).all ok)→K (.exit 10) ((((((PF.nil.set 1 (.bH f.cells)).set 6 (w)).set 7 (.aB)).set 8 (.bool (b&&(a7X j).all ok))).set 17 (.int .i64 i))) H:=fun e=>by rw[e]; exact J
 generalize O:(b&&(a7X j).all ok)=c at *
 simp only[go_sem,xV,uj,zpF,B,a7W];by_cases hlt:j<p.a6M.length
 ·have d:(j:Int)<(p.a6M.length:Nat):=Om;cases c with
  | false =>simp only[go_sem,d];exact Up.up Lq (q (u rfl).symm)
  | true =>
   have M:=sx (Om:f.a6M.length≤1000);have Q:p.a6M.getD j 0=p.a6M[j]:=by simp[a8P,hlt]
   have E:ok j=(within p.a6M[j] 0 ((f.a6M.length:Int)-1)&&(p.a6M.take j).all fun x=>x != p.a6M[j]):=by rw[← y];unfold KI;rw[Q]
   rw[E] at l;simp only[go_sem,d];refine bV .nil alS a_ ?_;simp only[go_sem,uk,B,bj hlt,a7W,M];refine bO rfl (L.inn p.a6M[j] 0 ((f.a6M.length:Int)-1)) Sq a_ ?_;simp only[go_sem,ul];refine aOA f w o i p S j hlt (within p.a6M[j] 0 ((f.a6M.length:Int)-1)) _ _ _ B (by (repeat' (first|exact c_|refine d_ ?_ ?_))<;>first|(simp only[go_sem,zpF]<;>rfl)|rfl) ?_;simp only[go_sem,zpF,uo,wZz j];exact fin _ _ hlt (l.trans rfl) Lq
 ·have d:¬ (j:Int)<(p.a6M.length:Nat):=Om;have:j=p.a6M.length:=Om;subst this;simp only[go_sem,d];exact Up.up Lq (q O.symm)
def Ru (a6M:Nat) (p:bS):Bool:=KB p.k p.m p.a7J p.s0 p.s1 p.s2 p.s3 p.s4&&(PK p.m p.repair p.target p.a6V&&(decide (p.a6M.length>0)&&(a7X p.a6M.length).all (KI a6M p.a6M)))
theorem aRV (a6M:Nat) (p:bS):jI a6M p=Ru a6M p:=by
 unfold jI Ru;rw[aRN,aVQ];have c:decide (p.a6M.length≠0)=decide (p.a6M.length>0):=decide_eq_decide.2 Om;have d:(a7X p.a6M.length).all (fun j=>within (p.a6M.getD j 0) 0 ((a6M:Int)-1)&&!(p.a6M.take j).contains (p.a6M.getD j 0))=(a7X p.a6M.length).all (KI a6M p.a6M):=by
  congr 1;funext j;unfold KI;congr 1;generalize p.a6M.getD j 0=x
  induction p.a6M.take j with
  | nil=>rfl
  | cons a t e =>rw[List.contains_cons,List.all_cons,← e,Bool.not_or,bne,BEq.comm]
 rw[c,d];cases KB p.k p.m p.a7J p.s0 p.s1 p.s2 p.s3 p.s4<;>cases PK p.m p.repair p.target p.a6V<;>cases decide (p.a6M.length>0)<;>simp
structure UM (C:Ctx):Prop extends pW C where
 dur:∀ (m:Int) (rep:List RF),jR rep→∀ t h:RF,t.Ok→h.Ok→aH C 69 [.int .i64 m,frs rep,.agg t.cells,.agg h.cells] .nil (aF (.bool (PK m rep t h)))
def kT (f:aE):List (List UInt8):=f.a6P.map bS.name
def KG (f:aE) (i:Nat):Bool:=match f.a6P[i]? with
 | some p=>Ru f.a6M.length p
 | none=>false
def nb (f:aE):Bool:=(a7X f.a6P.length).all (okL [] (kT f) (KG f))
theorem aUV {C:Ctx} (L:UM C) (f:aE) (hf:f.Ok) (δ:f.a6P.length≤4) (Z:f.a6M.length≤4) (b:Bool) (K:bR) [Up K] (F:PF) (H:PH)
  (hF:((((((PF.nil.set 1 (.bH f.cells)).set 6 (.aB)).set 7 (.aB)).set 8 (.bool b)).set 17 (.int .i64 0)):PF).le F)
  (S:∀ H',K (.exit 8) ((((PF.nil.set 1 (.bH f.cells)).set 7 (.aB)).set 8 (.bool (b&&nb f)))) H'):aC.wp C (.loop xW) K F H:=by
 obtain⟨ok,E⟩:∃ ok,okL [] (kT f) (KG f)=ok:=⟨_,rfl⟩;unfold nb at S;rw[E] at S;have γ:(kT f).length=f.a6P.length:=by simp[kT]
 refine wp_loop (α:=Nat × PV × PH) (fun s=>(((((PF.nil.set 1 (.bH f.cells)).set 6 (s.2.1)).set 7 (.aB)).set 8 (.bool (b&&(a7X s.1).all ok))).set 17 (.int .i64 s.1))) (fun s=>s.2.2) (fun s=>s.1≤f.a6P.length∧gX s.2.2 s.2.1 [] (kT f) (b&&(a7X s.1).all ok) s.1) (fun s=>f.a6P.length-s.1)
  (0,.aB,H) ⟨a8C _,⟨[],aN.nil.nC 1,fun _=>rfl⟩⟩ (by
   have e:(b&&(a7X 0).all ok)=b:=by cases b<;>rfl
   simp only[e];exact hF) b_ ?_
 rintro⟨i,w,O⟩ ⟨hi,hG⟩;simp only at hi hG ⊢;have fin:∀ (c:Bool) (x:PV) (y:PF) (H':PH),i<f.a6P.length→(b&&(a7X (i+1)).all ok)=c→gX H' x [] (kT f) true (i+1) →
   ((((((PF.nil.set 1 (.bH f.cells)).set 6 (x)).set 7 (.aB)).set 8 (.bool c)).set 17 (.int .i64 (i+1:Nat))):PF).le y →
   fJ (fun s:Nat × PV × PH=>(((((PF.nil.set 1 (.bH f.cells)).set 6 (s.2.1)).set 7 (.aB)).set 8 (.bool (b&&(a7X s.1).all ok))).set 17 (.int .i64 s.1))) (fun s=>s.2.2) (fun s=>s.1≤f.a6P.length∧gX s.2.2 s.2.1 [] (kT f) (b&&(a7X s.1).all ok) s.1) (fun s=>f.a6P.length-s.1) (f.a6P.length-i) K .normal y H' :=
  fun c x y H' hlt hb Q A=>aD (i+1,x,H') ⟨hlt,Q.x5⟩ (by simp only; omega) (by simp only; rw[hb]; exact A) b_
 have d:=rI (p:=ok) i b;have B:=fun h=>rH (p:=ok) (b:=b) hi h;have u:(b&&(a7X i).all ok)=(b&&(a7X f.a6P.length).all ok)→K (.exit 8) ((((PF.nil.set 1 (.bH f.cells)).set 7 (.aB)).set 8 (.bool (b&&(a7X i).all ok)))) O:=fun e=>by rw[e]; exact S O
 generalize hc:(b&&(a7X i).all ok)=c at *
 simp only[go_sem,xW,ug,a7W];by_cases hlt:i<f.a6P.length
 ·have l:(i:Int)<(f.a6P.length:Nat):=Om;cases c with
  | false =>simp only[go_sem,l];exact Up.up Lq (u (B rfl).symm)
  | true =>
   obtain⟨β,g1,g3⟩:=hG.ex;have U:=Xc hlt;have X:i<(kT f).length:=Om;have Y:(kT f)[i]=(f.a6P[i]).name:=by simp[kT]
   have J:ok i=(jG ([]++(kT f).take i) ((kT f).getD i [])&&Ru f.a6M.length f.a6P[i]):=by rw[← E];unfold okL KG;rw[a8K hlt]
   have q:=hf.a6X _ (a7Z hlt);rw[J] at d;unfold Ru at d;have M:IntKind.i64.wrap ((i:Int)+1)=((i+1:Nat):Int):=cZ Om;simp only[go_sem,l,uh,U];refine aR fun o ho=>?_;have g4:=g1.new ho (.rows 17 [(f.a6P[i]).cells]);have g5:=g4.at 0 rfl;simp only[go_sem];generalize O.set o (.rows 17 [(f.a6P[i]).cells])=H2 at *
   simp only[go_sem,ui,g5];refine gX.call L.tooJ (ns:=kT f) g4 (a8C _) Om (g3 rfl) X (by simp only[go_sem,Y]) fun x H1 h1 R=>?_;have N:=h1.at 0 rfl;generalize jG ([]++(kT f).take i) ((kT f).getD i [])=fb at *
   generalize hd:f.a6P[i]=p at *
   have rest:∀ (c:Bool) (y:PF),(zpF f x o i c 0).le y→(c&&(a7X p.a6M.length).all (KI f.a6M.length p.a6M))=(b&&(a7X (i+1)).all ok) →
     aC.wp C (.loop xV) (eX 10 (eX 9 (gG C (aC.wp C (.region NF)) (fJ (fun s:Nat × PV × PH=>(((((PF.nil.set 1 (.bH f.cells)).set 6 (s.2.1)).set 7 (.aB)).set 8 (.bool (b&&(a7X s.1).all ok))).set 17 (.int .i64 s.1))) (fun s=>s.2.2) (fun s=>s.1≤f.a6P.length∧gX s.2.2 s.2.1 [] (kT f) (b&&(a7X s.1).all ok) s.1) (fun s=>f.a6P.length-s.1) (f.a6P.length-i) K)))) y H1:=by
    intro c y A V;refine aDN L.topW f Z x o i p q.a6M c _ _ _ N A ?_;rw[V];simp only[go_sem,NF,M];exact fin _ x _ _ hlt rfl R Lq
   cases fb with
   | false =>simp only[go_sem,NC,tU];exact rest false _ (by (repeat' (first|exact c_|refine d_ ?_ ?_))<;>first|(simp only[go_sem,zpF]<;>rfl)|rfl) (by rw[d]; rfl)
   | true =>
    simp only[go_sem,NC,N];refine aA (L.nums p.k p.m p.a7J p.s0 p.s1 p.s2 p.s3 p.s4) Sq ?_;cases k0:KB p.k p.m p.a7J p.s0 p.s1 p.s2 p.s3 p.s4 with
    | false =>simp only[go_sem,tU];exact rest false _ (by (repeat' (first|exact c_|refine d_ ?_ ?_))<;>first|(simp only[go_sem,zpF]<;>rfl)|rfl) (by rw[d,k0]; rfl)
    | true =>
     simp only[go_sem,N];refine aA (L.dur p.m p.repair q.repair p.target p.a6V q.target q.a6V) Sq ?_;cases k1:PK p.m p.repair p.target p.a6V with
     | false =>simp only[go_sem,tU];exact rest false _ (by (repeat' (first|exact c_|refine d_ ?_ ?_))<;>first|(simp only[go_sem,zpF]<;>rfl)|rfl) (by rw[d,k0,k1]; rfl)
     | true =>have W:decide ((p.a6M.length:Int)>0)=decide (p.a6M.length>0):=decide_eq_decide.2 Om;simp only[go_sem,N,a7W,W,tU];exact rest _ _ (by (repeat' (first|exact c_|refine d_ ?_ ?_))<;>first|(simp only[go_sem,zpF]<;>rfl)|rfl) (by rw[d,k0,k1]; rfl)
 ·have l:¬ (i:Int)<(f.a6P.length:Nat):=Om;have:i=f.a6P.length:=Om;subst this;simp only[go_sem,l];exact Up.up Lq (u hc.symm)
end Go.PM
