/-
  Texts of ours, joined: MkW15 MkW16 L11W1 R2Code R2W1 R2W2 R2W3 R2W4 R2W5 R2W6 R2W7 R2W8 Jn1 Jn2 Pm37 Pm40 Pm41 Pm42 Jy0. No condition.
-/
import Derived.Test.YtnagfjehjbbckaaGreatDoorLe1
import Derived.Test.YtnagfjehjbbckaaGreatDoorLe2
import Derived.Test.YtnagfjehjbbckaaGreatDoorLe3
import Derived.RangeFuncRecord
set_option linter.unusedSimpArgs false
set_option linter.unusedVariables false
open Nat renaming reduceEqDiff → γ, reduceAdd → δ, reduceSub → ε, reduceMul → ζ, reduceLT → η, reduceLeDiff → θ, reduceBEq → τ
open Int renaming reduceLT → ι, reduceLE → κ, reduceEq → μ, reduceToNat → ν, reduceAdd → ξ, reduceNeg → ο, reduceBEq → ρ, reduceBNe → σ
open List renaming reduceReplicate → υ
open List renaming length_map → a1K, replicate → a1M, getElem_mem → a1N, length_append → a1P, mem_cons → a1R, range → a1S, length_singleton → a1T, getElem?_eq_getElem → a1V, length_take → a2A, not_mem_nil → a2B, take_of_length_le → a2C, all_eq_true → a2F, mem_map → a2G, getElem?_map → a2K, getD_eq_getElem?_getD → a2L, map_append → a2N, take_length → a2O, getElem?_eq_some_iff → a2P, drop_zero → a2S, append_assoc → a2T, map_cons → a2Y, getElem?_eq_none → a2Z, mem_append → a3A, mem_range → a3B, getElem_of_mem → a3D, length_cons → a3E, range' → a3H, take_succ_eq_append_getElem → a3I, append_nil → a3J, drop_eq_getElem_cons → a3K, getElem_map → a3L, length_drop → a3M, Sublist → a3N, mem_singleton → a3O, map_nil → a3Q, mem_of_getElem? → a3R, length_set → a3U, getElem?_append_left → a3Y, length_nil → a3Z, nodup_append → a4C, getElem?_append_right → a4E, take_append_drop → a4H, ext_getElem → a4O, set_append_right → a4P, set_cons_zero → a4R, getElem?_take → a4U, map_congr_left → a4V, drop_of_length_le → a5C, getElem_append_right → a5D
open Nat renaming gcd → a1L, le_refl → a1O, mul_add → a1U, zero_le → a1X, lt_or_ge → a2D, mul_assoc → a2E, zero_add → a2H, mul_comm → a2M, mul_le_mul_right → a2Q, add_mul → a2R, mod_eq_of_lt → a2U, le_trans → a2X, mod_lt → a3C, pow_succ → a3F, add_zero → a3S, add_assoc → a3V, min_eq_left → a3W, mul_le_mul_left → a3X, pos_of_ne_zero → a4A, eq_zero_or_pos → a4D, pow_pos → a4F, div_le_self → a4I, succ_mul → a4J, div_lt_iff_lt_mul → a4L, mul_le_mul → a4S, div_add_mod → a4W, div_eq_of_lt → a4X, pow_le_pow_right → a4Y
open Option renaming map_eq_some_iff → a1Q, map_some → a2V, some → a3T, getD_some → a4G, bind_eq_some_iff → a4Z, bind_some → a5A
open Bool renaming not_true → a1W, false_and → a1Y, and_eq_true → a1Z, not_false → a2I, true_and → a2J, and_false → a2W, and_true → a4B, false_eq_true → a4K, and_self → a4N
open Array renaming replicate → a3G, length_toList → a4M, getElem?_eq_some_iff → a4Q, getElem?_eq_getElem → a4T, getD_eq_getD_getElem? → a5B
open Int renaming toNat_natCast → a3P
namespace Go.PM
open Go Go.Na
theorem Ng {C:Ctx} (S:lK C) {l:List Nat} {v:PV} (T:Tp l v) (E:FE) (pc n a:Nat) (hn:n≤60) (β:pc≤50) (ha:a≤l.length) (ext y A B J c:PV) (x:List cB) (Q:x.length=pc) (L:List LI) (K:bV) (F:PF) (H:PH)
  (Y:(((fJ E).set 18 (.int .i64 n)).set 19 (.int .i64 0)).le F) (u:aP H (E.boxes v ext y A B J c .aB a) ((c,17,lD x)::L))
  (Z:∀ p R H',(fJ E).le R→aP H' (E.boxes v ext y A B J c p (eJ l pc a n).2) ((c,17,lD x)::L++[(p,2,nF (eJ l pc a n).1)])→K (.exit 8) R H') :
  aC.wp C (.loop GO) K F H:=by
 refine wp_loop (α:=Nat × PV × PH) (fun t=>((fJ E).set 18 (.int .i64 n)).set 19 (.int .i64 t.1)) (fun t=>t.2.2) (fun t=>t.1≤n∧aP t.2.2 (E.boxes v ext y A B J c t.2.1 (eJ l pc a t.1).2) ((c,17,lD x)::L++[(t.2.1,2,nF (eJ l pc a t.1).1)])) (fun t=>n-t.1) (0,.aB,H) ⟨a1X _,u.sC 2⟩ Y b_ ?_;rintro⟨i,p,W⟩ ⟨hi,u⟩;simp only at hi u ⊢;obtain⟨k1,k2⟩:=TR l pc ha i;have w:eJ l pc a (i+1)=((eJ l pc a i).1++[⟨[118]++bT i,((aD l pc (eJ l pc a i).2).1:Nat)⟩],(aD l pc (eJ l pc a i).2).2):=rfl;simp only[go_sem,GO,d8,fJ];by_cases hlt:i<n
 ·have d:(i:Int)<(n:Nat):=Om;generalize hg:eJ l pc a i=g at *
  have U:=u.set 0 rfl (bJ v (aD l pc g.2).2);generalize N:aD l pc g.2=z at *
  have b1:=u.at 1 rfl;have V:=(u.own 0 rfl).rX;rw[a1K,Q] at V;have M:(PH.nil.set E.o7 (flB ext y A B J c p)).le W:=PH.aL a_ b1;simp only[go_sem,d];refine bX (PH.nil.set E.o7 (flB ext y A B J c p)) (mkS l v) M ?_;simp only[go_sem,d9];refine ET S.topT (s:=[118]) (n:=i) (by decide) Om rfl M ?_;simp only[go_sem,V];refine qI S.toyP T (o:=E.o) (n:=pc) (a:=g.2) Om k1 rfl (u.at 0 rfl) ?_ ?_
  ·rw[N]; exact PH.aL a_ (U.at 1 rfl)
  rw[N];have O:(1:Nat)*2≤16777216:=by decide
  simp only[go_sem,O,a1R,a2B,or_false,forall_eq,forall_eq_or_imp];refine U.append (v:=p) (s:=2) (rows:=nF g.1) (L.length+1) (src:=[(⟨[118]++bT i,(z.1:Nat)⟩:iU).cells]) (by simp) rfl (by unfold roomFor; rw[a1K]; simp only[a1T,maxLen]; omega) fun w' H2 h5 hw=>?_;obtain⟨q,rfl⟩:=hw (by simp);rw[show ((c,17,lD x)::L++[(p,2,nF g.1)])=((c,17,lD x)::L)++[(p,2,nF g.1)] from rfl,a4P _ _ (by simp),show L.length+1-((c,17,lD x)::L).length=0 by simp] at h5;have b2:=h5.at 1 rfl;refine⟨PH.aL a_ b2,?_⟩;refine bX .nil eH a_ ?_;simp only[go_sem,ef,b2,a1R,a2B,or_false,forall_eq];have X:=h5.set 1 rfl (flB ext y A B J c (.osl q 2 0 (nF g.1++[(⟨[118]++bT i,(z.1:Nat)⟩:iU).cells]).length));refine⟨a_,?_⟩;simp only[go_sem,el,wZz i];refine aK (i+1,.osl q 2 0 (nF g.1++[(⟨[118]++bT i,(z.1:Nat)⟩:iU).cells]).length,_) ⟨hlt,?_⟩ (by simp only; omega) ?_ b_
  ·rw[w];have e:nF (g.1++[⟨[118]++bT i,(z.1:Nat)⟩])=nF g.1++[(⟨[118]++bT i,(z.1:Nat)⟩:iU).cells]:=by simp[nF]
   simp only;rw[e];exact X
  ·exact Lq
 ·have d:¬ (i:Int)<(n:Nat):=Om;have:i=n:=Om;subst this;simp only[go_sem,d];exact Z p _ _ (QR rfl rfl rfl rfl rfl) u
def CK (l:List Nat) (v:PV) (o aZZ a0B a:Nat) (r:PV) (H:PH):Prop:=Co r (.agg (fL l aZZ a0B a).1.cells)∧H=PH.nil.set o (bJ v (fL l aZZ a0B a).2)
structure YA (C:Ctx):Prop extends lK C where
 grow:∀ (l:List Nat) (v:PV),Tp l v→∀ (mc aZZ:Nat),0<mc→mc≤1000→aZZ≤60→XY C l v mc aZZ 4
theorem th {C:Ctx} (N:YA C) {l:List Nat} {v:PV} (T:Tp l v) (o aZZ a0B a:Nat) (ω:aZZ≤60) (Ξ:a0B≤50) (ha:a≤l.length) :
  AS.wp C (aX de.res (CK l v o aZZ a0B a)) (PF.args [.ptr o 2 0 0,.int .i64 aZZ,.int .i64 a0B]) (PH.nil.set o (bJ v a)):=by
 have hT:fL l aZZ a0B a=fL l aZZ a0B a:=rfl
 conv at hT=>rhs; unfold fL
 dsimp only at hT;have hR:∀ r H,CK l v o aZZ a0B a r H↔Co r (.agg (fL l aZZ a0B a).1.cells)∧H=PH.nil.set o (bJ v (fL l aZZ a0B a).2):=fun _ _=>Iff.rfl;have ne:=cE l (show 0<2 by decide) a;have ae:=bK l 2 ha;generalize he:aD l 2 a=e at *
 have Φ:=cE l (show 0<2 by decide) e.2;have δ:=bK l 2 ae;generalize Γ:aD l 2 e.2=M at *
 obtain⟨O,β⟩:=GD l δ (1+M.1);generalize Y:fZ l M.2 (1+M.1)=a0G at *
 have Ψ:=cE l (show 0<2 by decide) a0G.2;have ε:=bK l 2 O;generalize Δ:aD l 2 a0G.2=d at *
 obtain⟨Q,V⟩:=wB l (1+M.1) ε (1+d.1);generalize S:eG l (1+M.1) d.2 (1+d.1)=a0A at *
 have θ:GOk l aZZ ⟨[jU],[],a0A.2⟩:=⟨by simp,a1X _,Q⟩;obtain⟨hG,-⟩:=FQ (mc:=1+d.1) 4 0 θ;generalize hg:eF l (1+d.1) aZZ 4 0 ⟨[jU],[],a0A.2⟩=g at *
 have Ω:=cE l (show 0<2 by decide) g.a;have ζ:=bK l 2 hG.a;generalize Λ:aD l 2 g.a=pl at *
 obtain⟨R,γ⟩:=xW l (1+d.1) ζ (1+pl.1);generalize Z:dB l (1+d.1) pl.2 (1+pl.1)=pols at *
 have a':=cE l (Om:0<a0B+1) pols.2;have ο:=bK l (a0B+1) R;generalize ν:aD l (a0B+1) pols.2=vo at *
 generalize α:eJ l (1+pl.1) vo.2 vo.1=vols at *
 have ee:IntKind.i64.wrap (1+(e.1:Int))=((1+e.1:Nat):Int):=by rw[wrap_i64 Om Om]; omega
 have ρ:IntKind.i64.wrap (1+(M.1:Int))=((1+M.1:Nat):Int):=by rw[wrap_i64 Om Om]; omega
 have σ:IntKind.i64.wrap (1+(d.1:Int))=((1+d.1:Nat):Int):=by rw[wrap_i64 Om Om]; omega
 have τ:IntKind.i64.wrap (1+(pl.1:Int))=((1+pl.1:Nat):Int):=by rw[wrap_i64 Om Om]; omega
 have υ:IntKind.i64.wrap ((a0B:Int)+1)=((a0B+1:Nat):Int):=dC Om;have h0:aP (PH.nil.set o (bJ v a)) [(o,bJ v a)] []:=aP.nil.new (H:=PH.nil) rfl (bJ v a);simp only[go_sem,AS,ti,de];refine aQ fun o6 ι=>?_;have i:=h0.new ι flZ;simp only[go_sem,tj];refine cY N.toyP T (o:=o) (n:=2) (a:=a) (by decide) ha rfl (i.at 0 rfl) ?_;have u:=i.set 0 rfl (bJ v e.2);rw[he];simp only[go_sem,ee];refine aQ fun o7 κ=>?_;have B:=u.new κ (flB (.int .i64 (1+e.1:Nat)) .aB .aB .aB .aB .aB .aB);simp only[go_sem,tk,a1R,a2B,or_false,forall_eq,forall_eq_or_imp];refine cY N.toyP T (o:=o) (n:=2) (a:=e.2) (by decide) ae rfl (B.at 0 rfl) ?_;have h4:=B.set 0 rfl (bJ v M.2);rw[Γ];have h5:=h4.perm (B':=FE.boxes ⟨o,o6,o7,aZZ,a0B⟩ v (.int .i64 (1+e.1:Nat)) .aB .aB .aB .aB .aB .aB M.2) (L':=[]) (List.Perm.cons _ (List.Perm.swap _ _ _)) (List.Perm.refl _);obtain⟨E,c⟩:∃ E:FE,E=⟨o,o6,o7,aZZ,a0B⟩:=⟨_,rfl⟩;rw[← c] at h5;simp only[go_sem,ρ,tp];refine ayF (C:=C) N.tolK T E (1+M.1) M.2 Om δ _ _ _ _ ?_ h5 ?_
 ·rw[c];unfold fJ;exact Lq
 clear h5 h4 B u i h0 ι κ;intro p F1 H1 F i;rw[Y] at i;have f0:F1 0=some (.ptr o 2 0 0):=F 0 _ (by rw[c]; unfold fJ; simp only[go_sem]);have f1:F1 1=some (.int .i64 aZZ):=F 1 _ (by rw[c]; unfold fJ; simp only[go_sem]);have f2:F1 2=some (.int .i64 a0B):=F 2 _ (by rw[c]; unfold fJ; simp only[go_sem]);have f6:F1 6=some (.ptr o6 7 0 0):=F 6 _ (by rw[c]; unfold fJ; simp only[go_sem]);have f7:F1 7=some (.ptr o7 7 0 0):=F 7 _ (by rw[c]; unfold fJ; simp only[go_sem]);have W:=i.at 0 rfl;rw[c] at W;simp only[go_sem,df,f0];refine cY N.toyP T (o:=o) (n:=2) (a:=a0G.2) (by decide) O rfl W ?_;have u:=i.set 0 rfl (bJ v d.2);rw[Δ];simp only[go_sem,σ,dg];refine Zn (C:=C) N.tolK T E (1+d.1) d.2 (1+M.1) Om Om ε (.int .i64 (1+e.1:Nat)) p a0G.1 β _ _ _ ?_ (by rw[c] at u ⊢; exact u) ?_
 ·rw[c];unfold fJ;exact Lq
 clear W u i f0 f1 f2 f6 f7 F;intro w2 F2 H2 J f11 u;rw[S] at u;have f0:F2 0=some (.ptr o 2 0 0):=J 0 _ (by rw[c]; unfold fJ; simp only[go_sem]);have f1:F2 1=some (.int .i64 aZZ):=J 1 _ (by rw[c]; unfold fJ; simp only[go_sem]);have f2:F2 2=some (.int .i64 a0B):=J 2 _ (by rw[c]; unfold fJ; simp only[go_sem]);have f6:F2 6=some (.ptr o6 7 0 0):=J 6 _ (by rw[c]; unfold fJ; simp only[go_sem]);have f7:F2 7=some (.ptr o7 7 0 0):=J 7 _ (by rw[c]; unfold fJ; simp only[go_sem]);obtain⟨qm,μ⟩:=(u.own 1 rfl).one (by rw[a1K]; omega);rw[a1K,V] at μ;subst μ;have χ:(1:Nat)*7≤16777216:=by decide
 simp only[go_sem,dl];refine aA (N.int 0 (by unfold cL; omega)) rfl ?_;simp only[go_sem,a1R,a2B,or_false,forall_eq,forall_eq_or_imp,χ];refine aQ fun od Θ=>?_;have B:=u.azA (s:=7) (rows:=jO [jU]) Θ;have b7:=u.at 1 rfl;rw[c] at b7;have n7:¬ o7=od:=by have:=B.neL 1 2 rfl rfl rfl;rw[c] at this; exact this
 simp only[go_sem,f7,b7,n7,a1R,a2B,or_false,forall_eq];have h4:=(B.set 1 rfl (flB (.int .i64 (1+e.1:Nat)) p (.osl qm 4 0 (1+d.1)) (.osl od 7 0 1) .aB .aB .aB)).sC 3;rw[c] at h4;have h5:=h4.perm (B':=(GE.mk o o7 qm (.int .i64 (1+e.1:Nat)) p .aB .aB).boxes v (1+d.1) (.osl od 7 0 1) .aB a0A.2++[(o6,flZ)]) (L':=lC ⟨[jU],[],a0A.2⟩ (.osl od 7 0 1) .aB++[(p,4,gU a0G.1),(.osl qm 4 0 (1+d.1),4,jK a0A.1)]) (List.Perm.refl _)
  (List.perm_append_comm (l₁:=[(p,4,gU a0G.1),(.osl qm 4 0 (1+d.1),4,jK a0A.1)]) (l₂:=lC ⟨[jU],[],a0A.2⟩ (.osl od 7 0 1) .aB))
 simp only[go_sem,dp,f0,f1,f7];refine CJ h5 (fun H0 ψ=>N.grow l v T (1+d.1) aZZ Om Om ω (GE.mk o o7 qm (.int .i64 (1+e.1:Nat)) p .aB .aB) (.osl od 7 0 1) .aB ⟨[jU],[],a0A.2⟩ 0 jU θ rfl rfl H0 ψ) (by simp only[go_sem,f0,f1,f7]; rfl) ?_;rintro r B' L' H3 ⟨rfl,y,A,rfl,rfl⟩ h6;rw[hg] at h6;have h7:=h6.perm (B':=E.boxes v (.int .i64 (1+e.1:Nat)) p (.osl qm 4 0 (1+d.1)) y A .aB .aB g.a) (L':=[(p,4,gU a0G.1),(.osl qm 4 0 (1+d.1),4,jK a0A.1),(y,7,jO g.a0I),(A,3,lN g.a0S)]) (by rw[c]; exact List.Perm.refl _)
  (List.perm_append_comm (l₁:=lC g y A) (l₂:=[(p,4,gU a0G.1),(.osl qm 4 0 (1+d.1),4,jK a0A.1)]))
 have W:=h7.at 0 rfl;rw[c] at W;simp only[go_sem,dt,f0];refine cY N.toyP T (o:=o) (n:=2) (a:=g.a) (by decide) hG.a rfl W ?_;have h8:=h7.set 0 rfl (bJ v pl.2);rw[Λ];simp only[go_sem,τ,du];refine Gr (C:=C) N.tolK T E (1+d.1) (1+pl.1) pl.2 Om Om Om ζ ((1+e.1:Nat):Int) p (.osl qm 4 0 (1+d.1)) y A a0G.1 a0A.1 g.a0I g.a0S _ _ _ (by rw[c]; exact⟨by simp only[go_sem,f0],by simp only[go_sem,f1],by simp only[go_sem,f2],by simp only[go_sem,f6],by simp only[go_sem,f7],by simp only[go_sem,f11],by simp only[go_sem],by simp only[go_sem]; rfl⟩) (by rw[c] at h8 ⊢; exact h8) ?_;clear h8 h7 h6 h5 h4 B u W b7 f0 f1 f2 f6 f7 J;intro X F4 H4 K i;rw[Z] at i;have f0:F4 0=some (.ptr o 2 0 0):=K 0 _ (by rw[c]; unfold fJ; simp only[go_sem]);have f1:F4 1=some (.int .i64 aZZ):=K 1 _ (by rw[c]; unfold fJ; simp only[go_sem]);have f2:F4 2=some (.int .i64 a0B):=K 2 _ (by rw[c]; unfold fJ; simp only[go_sem]);have f6:F4 6=some (.ptr o6 7 0 0):=K 6 _ (by rw[c]; unfold fJ; simp only[go_sem]);have f7:F4 7=some (.ptr o7 7 0 0):=K 7 _ (by rw[c]; unfold fJ; simp only[go_sem]);have W:=i.at 0 rfl;rw[c] at W;simp only[go_sem,d6,f0,f2,υ];refine cY N.toyP T (o:=o) (n:=a0B+1) (a:=pols.2) Om R rfl W ?_;have u:=i.set 0 rfl (bJ v vo.2);rw[ν];have B:=u.perm (B':=E.boxes v (.int .i64 (1+e.1:Nat)) p (.osl qm 4 0 (1+d.1)) y A X .aB vo.2) (L':=(X,17,lD pols.1)::[(p,4,gU a0G.1),(.osl qm 4 0 (1+d.1),4,jK a0A.1),(y,7,jO g.a0I),(A,3,lN g.a0S)]) (List.Perm.refl _)
  (List.perm_append_comm (l₁:=[(p,4,gU a0G.1),(.osl qm 4 0 (1+d.1),4,jK a0A.1),(y,7,jO g.a0I),(A,3,lN g.a0S)]) (l₂:=[(X,17,lD pols.1)]))
 simp only[go_sem,d7];refine Ng (C:=C) N.tolK T E (1+pl.1) vo.1 vo.2 Om Om ο _ _ _ _ _ X pols.1 γ _ _ _ _ ?_ (by rw[c] at B ⊢; exact B) ?_
 ·rw[c];unfold fJ;exact Lq
 clear B u i W f0 f1 f2 f6 f7 K;intro w6 F5 H5 η i;rw[α] at i;have f6:F5 6=some (.ptr o6 7 0 0):=η 6 _ (by rw[c]; unfold fJ; simp only[go_sem]);have f7:F5 7=some (.ptr o7 7 0 0):=η 7 _ (by rw[c]; unfold fJ; simp only[go_sem]);rw[c] at i;have b7:=i.at 1 rfl;have b6:=i.at 2 rfl;have one:∀ (x:PV),x∈[p,y,A,X,w6]→(∃ q s n,x=.osl q s 0 n)∨x=.aB:=by
  intro x hx;have U:∀ {s:Nat} {rows:List (List PV)},bP H5 s x rows→(∃ q s n,x=.osl q s 0 n)∨x=.aB:=by
   rintro s rows (⟨_,h⟩ | ⟨q,rs,h,_⟩)
   ·exact .inr h
   ·exact .inl ⟨q,s,_,h⟩
  simp only[a1R,a2B,or_false] at hx;rcases hx with rfl | rfl | rfl | rfl | rfl
  ·exact U (i.own 1 rfl)
  ·exact U (i.own 3 rfl)
  ·exact U (i.own 4 rfl)
  ·exact U (i.own 0 rfl)
  ·exact U (i.own 5 rfl)
 have w:∀ (x:PV),x∈[p,y,A,X,w6]→PV.one x=true:=fun x hx=>by rcases one x hx with ⟨q,s,n,rfl⟩ | rfl<;>rfl
 have o1:=w p (by simp);have o3:=w y (by simp);have o4:=w A (by simp);have o5:=w X (by simp);have ξ:=w w6 (by simp);simp only[PV.one] at o1 o3 o4 o5 ξ;simp only[go_sem,ep,f6,f7,b7,b6,a1R,a2B,or_false,forall_eq,forall_eq_or_imp,o1,o3,o4,o5,ξ];have u:=i.set 2 rfl (flB (.int .i64 (1+e.1:Nat)) p (.osl qm 4 0 (1+d.1)) y A X w6);have B:=u.sub (B':=[(o,bJ v vols.2)]) (a3N.cons_cons _ (List.nil_sublist _)) (a3N.refl _);obtain⟨φ,H6,k1,k2,k3,k4⟩:=aP.giveUp _ B (fun x hx=>by
  simp only[List.cons_append,List.nil_append,a1R,a2B,or_false] at hx;rcases hx with rfl | rfl | rfl | rfl | rfl | rfl
  ·exact U9 _
  ·exact Sx _
  ·exact Sz _
  ·exact Qf _
  ·exact Qh _
  ·exact aLY _) (fun b hb q s rs=>by
  simp only[a1R,a2B,or_false] at hb;subst hb;simp only[bY.frz,a2Y,a3Q,T.frz];rfl)
 refine DD (vs:=[.agg [.int .i64 (1+e.1:Nat),p,.osl qm 4 0 (1+d.1),y,A,X,w6]]) (.inr rfl) (by simp only[go_sem,f6]) (k4 _ _ (.done (H2:=PH.nil.set o (bJ v vols.2)) ?_ (PH.aL a_ (k3.at 0 rfl))));rw[hR,hT];refine⟨CoL.agg ?_,rfl⟩;have s5:=k1 (X,17,lD pols.1) (by simp);have s1:=k1 (p,4,gU a0G.1) (by simp);have s2:=k1 (.osl qm 4 0 (1+d.1),4,jK a0A.1) (by simp);have s3:=k1 (y,7,jO g.a0I) (by simp);have s4:=k1 (A,3,lN g.a0S) (by simp);have s6:=k1 (w6,2,nF vols.1) (by simp);have s0:φ (.int .i64 (1+e.1:Nat))=.int .i64 (1+e.1:Nat):=k2 _ rfl;show CoL [φ (.int .i64 (1+e.1:Nat)),φ p,φ (.osl qm 4 0 (1+d.1)),φ y,φ A,φ X,φ w6] _;rw[s0];exact CoL.cons (.refl _) (CoL.cons s1.co (CoL.cons s2.co (CoL.cons s3.co (CoL.cons s4.co (CoL.cons s5.co (CoL.cons s6.co .nil))))))
structure Al (C:Ctx):Prop extends YA C where
 new:∀ (l:List Nat),(∀ x∈l,x<256)→l.length≤9223372036854775807→aF C 28 [.sl 1 (jW l)] .nil (Xl l)
 fleet:∀ (l:List Nat) (v:PV),Tp l v→∀ (o aZZ a0B a:Nat),aZZ≤60→a0B≤50→a≤l.length →
  aF C 0 [.ptr o 2 0 0,.int .i64 aZZ,.int .i64 a0B] (PH.nil.set o (bJ v a)) (fun r H=>r=.agg (fL l aZZ a0B a).1.cells∧H=PH.nil.set o (bJ v (fL l aZZ a0B a).2))
theorem CK.exact {C:Ctx} {name:Nat} {args:List PV} {H:PH} {l:List Nat} {v:PV} {o aZZ a0B a:Nat} (h:aF C name args H (CK l v o aZZ a0B a)):aF C name args H (fun r H=>r=.agg (fL l aZZ a0B a).1.cells∧H=PH.nil.set o (bJ v (fL l aZZ a0B a).2)) :=
 h.post fun r H' c=>⟨_,c.1,rfl,c.2⟩
theorem akM {C:Ctx} (p:Al C) (l:List Nat) (w:∀ x∈l,x<256) (y:l.length≤9223372036854775807) (aZZ a0B:Nat) (c:aZZ≤60) (i:a0B≤50) :
  AR.wp C (aX db.res (cD (.agg (fL (l.take 400) aZZ a0B 0).1.cells))) (PF.args [.sl 1 (jW l),.int .i64 aZZ,.int .i64 a0B]) .nil:=by
 simp only[go_sem,AR,td,db];refine aQ fun o6 A=>?_;simp only[go_sem,te];refine lY (p.new l w y) rfl a_ ?_;rintro r H' ⟨o,v,rfl,T,rfl⟩ u;have d:¬ o6=o:=by intro e;subst e;have:=u o6 (bJ v 0) (by rw[aV,if_pos rfl]) rfl;rw[aV,if_pos rfl] at this;cases this
 rw[PH.oM];simp only[go_sem];refine mC (p.fleet _ v T o aZZ a0B 0 c i (a1X _)) (by rw[aV,if_pos rfl]) rfl ?_;simp only[go_sem,d];exact aZ (vs:=[.agg (fL (l.take 400) aZZ a0B 0).1.cells]) (.inr rfl) .nil Sq a_ ⟨.refl _,rfl⟩
theorem CoL.aXE:CoL [] []:=⟨rfl,fun j p q h=>by simp at h⟩
theorem CoL.Ya {p q:PV} {ps d:List PV} (h:Co p q) (c:CoL ps d):CoL (p::ps) (q::d):=by
 refine⟨by simp[c.len],fun j x y a b=>?_⟩;cases j with
 | zero =>simp only[List.getElem?_cons_zero,a3T.injEq] at a b;subst a; subst b; exact h
 | succ j=>exact c.at_ j x y (by simpa using a) (by simpa using b)
theorem aF.seen {C:Ctx} {name:Nat} {args:List PV} {H:PH} {v:PV} (h:aF C name args H (cD v)):aF C name args H (aH v) :=
 h.post fun r H' c=>⟨v,c.1,rfl,c.2⟩
def RA (x:RF):Bool:=(x.num.all (fun n=>decide (n<4294967296))&&x.den.all fun n=>decide (n<4294967296))&&(decide (x.num.length≤9)&&decide (x.den.length≤9))
theorem ID {x:RF} (h:RA x=true):x.Ok:=by
 simp only[RA,a1Z,a2F,decide_eq_true_eq] at h;exact⟨h.1.1,h.1.2,by omega,by omega⟩
def DE (l:List RF):Bool:=decide (l.length≤9)&&l.all RA
theorem zP {l:List RF} (h:DE l=true):nG l:=by
 simp only[DE,a1Z,a2F,decide_eq_true_eq] at h;exact⟨by unfold Fits; omega,fun x c=>ID (h.2 x c)⟩
def F0 (x:cS):Bool:=(DE x.start&&DE x.exit)&&(decide (x.a0E.length≤9)&&x.a0E.all DE)
theorem ajO {x:cS} (h:F0 x=true):x.Ok:=by
 simp only[F0,a1Z,a2F,decide_eq_true_eq] at h;exact⟨zP h.1.1,zP h.1.2,by unfold Fits; omega,fun r c=>zP (h.2.2 r c)⟩
def Jh (x:cB):Bool:=(decide (cL x.k∧cL x.m∧cL x.a0X)&&(decide (x.a0A.length≤9)&&x.a0A.all fun m=>decide (cL m)))&&(DE x.repair&&(RA x.target&&RA x.a0J))
theorem alY {x:cB} (h:Jh x=true):x.Ok:=by
 simp only[Jh,a1Z,a2F,decide_eq_true_eq] at h;exact⟨h.1.1.1,h.1.1.2.1,h.1.1.2.2,by unfold Fits; omega,h.1.2.2,zP h.2.1,ID h.2.2.1,ID h.2.2.2⟩
def okB (f:aJ):Bool:=(decide (f.a0G.length≤99∧f.a0A.length≤99∧f.a0C.length≤99∧f.aZZ.length≤99∧f.a0D.length≤99∧f.a0B.length≤99)&&(f.a0G.all F0&&f.a0D.all Jh)) &&
 (f.a0C.all (fun x=>RA x.a0O&&decide (cL x.level∧cL x.parent))&&(f.aZZ.all (fun x=>decide (cL x.model∧cL x.machine))&&f.a0B.all fun x=>decide (cL x.a0L)))
theorem aPQ {f:aJ} (h:okB f=true):f.Ok:=by
 simp only[okB,a1Z,a2F,decide_eq_true_eq] at h;obtain⟨⟨⟨p,u,w,y,A,B⟩,e,i⟩,d,l,h5⟩:=h;exact⟨by unfold Fits; omega,by unfold Fits; omega,by unfold Fits; omega,by unfold Fits; omega,by unfold Fits; omega,by unfold Fits; omega,fun x c=>ajO (e x c),fun x c=>⟨ID (d x c).1,(d x c).2⟩,l,fun x c=>alY (i x c),h5⟩
def wx:Rg:=[iZ 4]
def wy:Rg:=[iZ 5]
def wz:Rg:=[iA 6 (.mv (.const (.int .u64 0)))]
def w8:Rg:=[iI 7 0]
def w9:Rg:=[iM 10 7,iM 11 0,iN 12 11,iB 13 .lss 10 12]
def xa:Rg:=[iM 16 6,iM 8 16]
def xb:Rg:=[iM 17 7,iM 18 1,iN 19 18,iB 20 .lss 17 19]
def xc:Rg:=[iM 21 8,iM 22 1,iM 23 7,iX 24 1 22 23,iL 25 24,iA 26 (.conv .u64 (Tm 25)),iB 27 .add 21 26,iM 8 27]
def PE:Rg:=[iM 28 0,iM 29 7,iX 30 1 28 29,iL 31 30,iA 32 (.conv .u64 (Tm 31)),iM 9 32]
def PG:Rg:=[iA 6 (.mv (.const (.int .u64 0)))]
def IT:Rg:=[iM 33 9,iM 34 8,iB 35 .lss 33 34]
def IU:Rg:=[iM 36 9,iA 37 (.bin .add (Tm 36) (.const (.int .u64 4294967296))),iM 9 37]
def IV:Rg:=[iA 6 (.mv (.const (.int .u64 1)))]
def wJ:Rg:=[iM 38 5,iM 39 9,iM 40 8,iB 41 .sub 39 40,iA 42 (.conv .u32 (Tm 41)),iA 43 (.a0F true 1 1 [(.int .u32 0)] [(0,(Tm 42))]),iA 44 (.append 1 4 (Tm 38) (Tm 43)),iM 5 44]
def wK:Rg:=[iM 14 7,iC 15 .add 14 1,iM 7 15]
def ja:aC:=(.seq (sq w9 (.cond (Tm 13) .skip (.exit 0))) (.seq (.block 1 (sq xa (.seq (sq xb (.cond (Tm 20) (.region xc) .skip)) (sq PE (sq PG (.seq (sq IT (.cond (Tm 35) (sq IU (.region IV)) .skip)) (.region wJ))))))) (.region wK)))
def jb:Rg:=[iM 45 5,iK 46 38 45,iM 4 46]
def CC:aC:=(sq wx (sq wy (sq wz (.seq (sq w8 (.block 0 (.loop ja))) (sq jb .ret)))))
def asP:List Nat:=[43]
def i9:aR:=⟨2,47,CC,[.tmp 4]⟩
def La:Rg:=[iZ 4]
def Lc:Rg:=[iZ 5]
def Ld:Rg:=[iA 6 (.mv (.const (.int .u64 0)))]
def Le:Rg:=[iI 7 0]
def Lf:Rg:=[iM 9 7,iM 10 0,iN 11 10,iB 12 .lss 9 11,iM 13 12,gM 14 7 13 false,gM 15 1 13 false,gN 16 15 13 false,gB 17 .lss 14 16 13 false,iQ 18 13 17,iM 19 18,gM 20 6 19 false,iG 21 (.bin .gtr (Tm 20) (.const (.int .u64 0))) 19 false,iQ 22 19 21]
def XO:Rg:=[iM 25 6,iM 8 25]
def XP:Rg:=[iM 26 7,iM 27 0,iN 28 27,iB 29 .lss 26 28]
def XQ:Rg:=[iM 30 8,iM 31 0,iM 32 7,iX 33 1 31 32,iL 34 33,iA 35 (.conv .u64 (Tm 34)),iB 36 .add 30 35,iM 8 36]
def IX:Rg:=[iM 37 7,iM 38 1,iN 39 38,iB 40 .lss 37 39]
def IY:Rg:=[iM 41 8,iM 42 1,iM 43 7,iX 44 1 42 43,iL 45 44,iA 46 (.conv .u64 (Tm 45)),iB 47 .add 41 46,iM 8 47]
def zU:Rg:=[iM 48 5,iM 49 8,iA 50 (.conv .u32 (Tm 49)),iA 51 (.a0F true 1 1 [(.int .u32 0)] [(0,(Tm 50))]),iA 52 (.append 1 4 (Tm 48) (Tm 51)),iM 5 52]
def zV:Rg:=[iM 53 8,iA 54 (.bin .shr (Tm 53) (.const (.int .u64 32))),iM 6 54]
def zW:Rg:=[iM 23 7,iC 24 .add 23 1,iM 7 24]
def xe:aC:=(.seq (sq Lf (.cond (Tm 22) .skip (.exit 0))) (.seq (.block 1 (sq XO (.seq (sq XP (.cond (Tm 29) (.region XQ) .skip)) (.seq (sq IX (.cond (Tm 40) (.region IY) .skip)) (sq zU (.region zV)))))) (.region zW)))
def PL:Rg:=[iM 55 5,iK 56 38 55,iM 4 56]
def IW:aC:=(sq La (sq Lc (sq Ld (.seq (sq Le (.block 0 (.loop xe))) (sq PL .ret)))))
def aDX:List Nat:=[51]
def zp:aR:=⟨2,57,IW,[.tmp 4]⟩
def xg:Rg:=[iZ 4]
def xh:Rg:=[iM 10 0,iN 11 10,iM 12 1,iN 13 12,iB 14 .add 11 13,iA 15 (.a0H 1 4 [(.int .u32 0)] (Tm 14) (Tm 14)),iM 5 15]
def xi:Rg:=[iI 6 0]
def xj:Rg:=[iM 16 6,iM 17 0,iN 18 17,iB 19 .lss 16 18]
def PP:Rg:=[iA 7 (.mv (.const (.int .u64 0)))]
def PQ:Rg:=[iI 8 0]
def xk:Rg:=[iM 22 8,iM 23 1,iN 24 23,iB 25 .lss 22 24]
def xl:Rd:=[(iM 28 0,false),(iM 29 6,false),(iX 30 1 28 29,false),(iL 31 30,false),(iA 32 (.conv .u64 (Tm 31)),false),(iM 33 1,false),(iM 34 8,false),(iX 35 1 33 34,false),(iL 36 35,false),(iA 37 (.conv .u64 (Tm 36)),false),(iB 38 .mul 32 37,false),(iM 39 5,false),(iM 40 6,false),(iM 41 8,false),(iB 42 .add 40 41,false),(iX 43 1 39 42,false),(iL 44 43,false),(iA 45 (.conv .u64 (Tm 44)),false),(iB 46 .add 38 45,false),(iM 47 7,false),(iB 48 .add 46 47,false),(iM 9 48,false)]
def xm:Rg:=[iM 49 5,iM 50 6,iM 51 8,iB 52 .add 50 51,iM 53 9,iA 54 (.conv .u32 (Tm 53)),iX 55 1 49 52,iS 1 55 54]
def xn:Rg:=[iM 56 9,iA 57 (.bin .shr (Tm 56) (.const (.int .u64 32))),iM 7 57]
def jg:Rg:=[iM 26 8,iC 27 .add 26 1,iM 8 27]
def IZ:aC:=(.seq (sq xk (.cond (Tm 25) .skip (.exit 2))) (.seq (.block 3 (dq xl (sq xm (.region xn)))) (.region jg)))
def JA:Rg:=[iM 58 5,iM 59 6,iM 60 1,iN 61 60,iB 62 .add 59 61,iM 63 7,iA 64 (.conv .u32 (Tm 63)),iX 65 1 58 62,iS 1 65 64]
def jh:Rg:=[iM 20 6,iC 21 .add 20 1,iM 6 21]
def jf:aC:=(.seq (sq xj (.cond (Tm 19) .skip (.exit 0))) (.seq (.block 1 (sq PP (.seq (sq PQ (.block 2 (.loop IZ))) (.region JA)))) (.region jh)))
def ji:Rg:=[iM 66 5,iK 67 38 66,iM 4 67]
def CD:aC:=(sq xg (sq xh (.seq (sq xi (.block 0 (.loop jf))) (sq ji .ret))))
def asT:List Nat:=[]
def je:aR:=⟨2,68,CD,[.tmp 4]⟩
def Vh:Rg:=[iZ 4,iI 5 0]
def Vi:Rg:=[iM 7 0,iK 8 41 7,iM 9 8,gM 10 1 9 false,gK 11 41 10 9 false,iQ 12 9 11]
def m7:Rg:=[iZ 4,iI 5 2]
def Vj:Rg:=[iM 13 0,iK 14 38 13,iM 15 1,iK 16 38 15,iK2 17 43 14 16,iM 6 17]
def Vk:Rg:=[iM 18 6,iK 19 41 18]
def Vl:Rg:=[iZ 4,iI 5 2]
def Vm:Rg:=[iM 20 6,iM 4 20,iI 5 0]
def OY:aC:=(sq Vh (.seq (sq Vi (.cond (Tm 12) (sq m7 .ret) .skip)) (sq Vj (.seq (sq Vk (.cond (Tm 19) (sq Vl .ret) .skip)) (sq Vm .ret)))))
def aLO:List Nat:=[]
def adU:aR:=⟨2,21,OY,[.tmp 4,.tmp 5]⟩
def Wo:Rg:=[iZ 4,iI 5 0]
def Wp:Rg:=[iM 6 0,iK 7 41 6,iM 8 7,gM 9 1 8 false,gK 10 41 9 8 false,iQ 11 8 10]
def nb:Rg:=[iZ 4,iI 5 2]
def Wq:Rg:=[iM 12 0,iM 13 1,iK2 14 32 12 13,iC 15 .lss 14 0]
def Ws:Rg:=[iZ 4,iI 5 4]
def Wt:Rg:=[iM 16 0,iK 17 38 16,iM 18 1,iK 19 38 18,iK2 20 42 17 19,iM 4 20,iI 5 0]
def PO:aC:=(sq Wo (.seq (sq Wp (.cond (Tm 11) (sq nb .ret) .skip)) (.seq (sq Wq (.cond (Tm 15) (sq Ws .ret) .skip)) (sq Wt .ret))))
def aLV:List Nat:=[]
def aeE:aR:=⟨2,21,PO,[.tmp 4,.tmp 5]⟩
def Wg:Rg:=[iZ 4,iI 5 0]
def Wh:Rg:=[iM 7 0,iK 8 41 7,iM 9 8,gM 10 1 9 false,gK 11 41 10 9 false,iQ 12 9 11]
def na:Rg:=[iZ 4,iI 5 2]
def Wi:Rg:=[iM 13 0,iK 14 38 13,iM 15 1,iK 16 38 15,iK2 17 44 14 16,iM 6 17]
def Wj:Rg:=[iM 18 6,iK 19 41 18]
def Wk:Rg:=[iZ 4,iI 5 2]
def Wl:Rg:=[iM 20 6,iM 4 20,iI 5 0]
def PI:aC:=(sq Wg (.seq (sq Wh (.cond (Tm 12) (sq na .ret) .skip)) (sq Wi (.seq (sq Wj (.cond (Tm 19) (sq Wk .ret) .skip)) (sq Wl .ret)))))
def aLS:List Nat:=[]
def aeB:aR:=⟨2,21,PI,[.tmp 4,.tmp 5]⟩
def Kb:Rg:=[iI 2 0]
def Kc:Rg:=[iM 5 0,iK 6 38 5,iM 0 6]
def Kd:Rg:=[iM 7 0,iN 8 7,iC 9 .eql 8 0]
def Ke:Rg:=[iI 2 0]
def Kf:Rg:=[iM 10 0,iN 11 10,iC 12 .sub 11 1,iA 13 (.bin .mul (Ci 32) (Tm 12)),iM 3 13]
def Kg:Rg:=[iM 14 0,iM 15 0,iN 16 15,iC 17 .sub 16 1,iX 18 1 14 17,iL 19 18,iM 4 19]
def Kh:Rg:=[iM 20 4,iA 21 (.bin .gtr (Tm 20) (.const (.int .u32 0)))]
def Ki:Rg:=[iM 24 3,iC 25 .add 24 1,iM 3 25]
def Kj:Rg:=[iM 22 4,iA 23 (.bin .quo (Tm 22) (.const (.int .u32 2))),iM 4 23]
def J9:aC:=(.seq (sq Kh (.cond (Tm 21) .skip (.exit 0))) (.seq (.block 1 (.region Ki)) (.region Kj)))
def wm:Rg:=[iM 26 3,iM 2 26]
def IM:aC:=(sq Kb (sq Kc (.seq (sq Kd (.cond (Tm 9) (sq Ke .ret) .skip)) (sq Kf (.seq (sq Kg (.block 0 (.loop J9))) (sq wm .ret))))))
def aDN:List Nat:=[]
def zm:aR:=⟨1,27,IM,[.tmp 2]⟩
def asV:Rg:=[iZ 4]
def asW:Rg:=[iM 9 0,iN 10 9,iC 11 .eql 10 0]
def asX:Rg:=[iZ 4]
def asY:Rg:=[iM 12 1,iC 13 .quo 12 32,iA 14 (.a0H 1 4 [(.int .u32 0)] (Tm 13) (Tm 13)),iM 5 14]
def asZ:Rg:=[iA 6 (.mv (.const (.int .u64 0)))]
def atA:Rg:=[iI 7 0]
def atB:Rg:=[iM 15 7,iM 16 0,iN 17 16,iB 18 .lss 15 17]
def atC:Rg:=[iM 21 0,iM 22 7,iX 23 1 21 22,iL 24 23,iA 25 (.conv .u64 (Tm 24)),iM 26 1,iC 27 .rem 26 32,iA 28 (.conv .u64 (Tm 27)),iB 29 .shl 25 28,iM 30 6,iB 31 .or 29 30,iM 8 31]
def atD:Rg:=[iM 32 5,iM 33 8,iA 34 (.conv .u32 (Tm 33)),iA 35 (.a0F true 1 1 [(.int .u32 0)] [(0,(Tm 34))]),iA 36 (.append 1 4 (Tm 32) (Tm 35)),iM 5 36]
def atE:Rg:=[iM 37 8,iA 38 (.bin .shr (Tm 37) (.const (.int .u64 32))),iM 6 38]
def Wv:Rg:=[iM 19 7,iC 20 .add 19 1,iM 7 20]
def Wu:aC:=(.seq (sq atB (.cond (Tm 18) .skip (.exit 0))) (.seq (.block 1 (sq atC (sq atD (.region atE)))) (.region Wv)))
def Ww:Rg:=[iM 39 5,iM 40 6,iA 41 (.conv .u32 (Tm 40)),iA 42 (.a0F true 1 1 [(.int .u32 0)] [(0,(Tm 41))]),iA 43 (.append 1 4 (Tm 39) (Tm 42)),iK 44 38 43,iM 4 44]
def XS:aC:=(sq asV (.seq (sq asW (.cond (Tm 11) (sq asX .ret) .skip)) (sq asY (sq asZ (.seq (sq atA (.block 0 (.loop Wu))) (sq Ww .ret))))))
def aRD:List Nat:=[35,42]
def uup:aR:=⟨2,45,XS,[.tmp 4]⟩
def Ks:Rg:=[iZ 4]
def Kt:Rg:=[iM 8 1,iC 9 .quo 8 32,iM 10 0,iN 11 10,iB 12 .geq 9 11]
def Ku:Rg:=[iZ 4]
def Kv:Rg:=[iZ 5]
def Kw:Rg:=[iM 13 1,iC 14 .quo 13 32,iM 6 14]
def Kx:Rg:=[iM 15 6,iM 16 0,iN 17 16,iB 18 .lss 15 17]
def Ky:Rg:=[iM 21 0,iM 22 6,iX 23 1 21 22,iL 24 23,iA 25 (.conv .u64 (Tm 24)),iM 7 25]
def Kz:Rg:=[iM 26 6,iC 27 .add 26 1,iM 28 0,iN 29 28,iB 30 .lss 27 29]
def K0:Rg:=[iM 31 7,iM 32 0,iM 33 6,iC 34 .add 33 1,iX 35 1 32 34,iL 36 35,iA 37 (.conv .u64 (Tm 36)),iA 38 (.bin .shl (Tm 37) (.const (.int .u64 32))),iB 39 .or 31 38,iM 7 39]
def XN:Rg:=[iM 40 5,iM 41 7,iM 42 1,iC 43 .rem 42 32,iA 44 (.conv .u64 (Tm 43)),iB 45 .shr 41 44,iA 46 (.conv .u32 (Tm 45)),iA 47 (.a0F true 1 1 [(.int .u32 0)] [(0,(Tm 46))]),iA 48 (.append 1 4 (Tm 40) (Tm 47)),iM 5 48]
def PC:Rg:=[iM 19 6,iC 20 .add 19 1,iM 6 20]
def wn:aC:=(.seq (sq Kx (.cond (Tm 18) .skip (.exit 0))) (.seq (.block 1 (sq Ky (.seq (sq Kz (.cond (Tm 30) (.region K0) .skip)) (.region XN)))) (.region PC)))
def wq:Rg:=[iM 49 5,iK 50 38 49,iM 4 50]
def IR:aC:=(sq Ks (.seq (sq Kt (.cond (Tm 12) (sq Ku .ret) .skip)) (sq Kv (.seq (sq Kw (.block 0 (.loop wn))) (sq wq .ret)))))
def aDQ:List Nat:=[47]
def zn:aR:=⟨2,51,IR,[.tmp 4]⟩
def yb:Rg:=[iA 1 (.box true (Tm 0)),iT 2 false]
def yc:Rg:=[iF 3 2 1,iL 4 3,iK 5 38 4,iN 6 5,iC 7 .gtr 6 0,iM 8 7,gF 9 2 1 8 true,gL 10 9 8 true,gK 11 38 10 8 true,gN 12 11 8 true,gC 13 .leq 12 128 8 true,iP 14 8 13,iM 15 14,gF 16 1 1 15 true,gL 17 16 15 true,gK 18 38 17 15 true,gN 19 18 15 true,gC 20 .leq 19 128 15 true,iP 21 15 20,iM 2 21]
def CH:aC:=(sq yb (sq yc .ret))
def atL:List Nat:=[1]
def j4:aR:=⟨1,22,CH,[.tmp 2]⟩
def xr:Rg:=[iA 1 (.box true (Tm 0)),iT 2 false]
def xt:Rg:=[iF 3 1 1,iL 4 3,iN 5 4,iC 6 .gtr 5 128,iM 7 6,gF 8 2 1 7 false,gL 9 8 7 false,gN 10 9 7 false,gC 11 .gtr 10 128 7 false,iQ 12 7 11,iM 2 12]
def CE:aC:=(sq xr (sq xt .ret))
def atH:List Nat:=[1]
def jk:aR:=⟨1,13,CE,[.tmp 2]⟩
def Ls:Rg:=[iA 1 (.box true (Tm 0)),iA 2 (.alloc [zB,.aB,.aB]),iI 3 0]
def Lt:Rg:=[iO 4 3 1,iK 5 48 4]
def Lu:Rg:=[iA 6 (.build [zB,.aB,.aB] []),iS 3 2 6,iI 3 2]
def Lw:Rg:=[iO 7 3 1,iS 3 2 7,iI 3 0]
def JD:aC:=(sq Ls (.seq (sq Lt (.cond (Tm 5) (sq Lu .ret) .skip)) (sq Lw .ret)))
def aEB:List Nat:=[1]
def zy:aR:=⟨1,8,JD,[.cell 2 (some 3),.tmp 3]⟩
def jw:Rg:=[iA 1 (.box true (Tm 0)),iA 2 (.alloc [zB,.aB,.aB]),iI 3 0]
def jx:Rg:=[iO 4 3 1,iK 5 56 4,iA 6 (.un .not (Tm 5))]
def jy:Rg:=[iA 7 (.build [zB,.aB,.aB] []),iS 3 2 7,iI 3 1]
def jz:Rg:=[iF 8 0 1,iL 9 8,iF 10 1 1,iL 11 10,iF 12 2 1,iL 13 12,iA 14 (.call 58 [(Tm 9),(Tm 11),(Tm 13)]),iS 3 2 14,iI 3 0]
def yK:aC:=(sq jw (.seq (sq jx (.cond (Tm 6) (sq jy .ret) .skip)) (sq jz .ret)))
def aeL:List Nat:=[1]
def RI:aR:=⟨1,15,yK,[.cell 2 (some 3),.tmp 3]⟩
def x8:Rg:=[iZ 4]
def x9:Rg:=[iM 8 0,iM 9 1,iK2 10 36 8 9,iM 7 10,iE 11 7 0,iE 12 7 1,iM 5 11,iM 6 12]
def ya:Rg:=[iM 13 5,iM 4 13]
def CG:aC:=(sq x8 (sq x9 (sq ya .ret)))
def atK:List Nat:=[]
def j3:aR:=⟨2,14,CG,[.tmp 4]⟩
def xv:Rg:=[iA 2 (.box true (Tm 0)),iA 3 (.box true (Tm 1)),iI 4 0]
def xw:Rd:=[(iF 9 1 2,false),(iL 10 9,false),(iF 11 2 3,false),(iL 12 11,false),(iK2 13 60 10 12,true),(iF 14 1 3,true),(iL 15 14,true),(iF 16 2 2,true),(iL 17 16,true),(iK2 18 60 15 17,true),(iM 5 13,false),(iM 6 18,false)]
def xx:Rg:=[iF 19 0 2,iL 20 19,iM 21 20,gM 22 5 21 true,gN 23 22 21 true,gC 24 .gtr 23 0 21 true,iP 25 21 24,iF 26 0 3,iL 27 26,iM 28 27,gM 29 6 28 true,gN 30 29 28 true,gC 31 .gtr 30 0 28 true,iP 32 28 31,iM 7 25,iM 8 32]
def xy:Rg:=[iM 34 7,iM 35 34,gM 36 8 35 true,iG 37 (.un .not (Tm 36)) 35 true,iP 38 35 37,iM 33 38]
def xz:Rg:=[iI 4 (-1)]
def x2:Rg:=[iM 40 8,iM 41 40,gM 42 7 41 true,iG 43 (.un .not (Tm 42)) 41 true,iP 44 41 43,iM 39 44]
def x3:Rg:=[iI 4 1]
def x4:Rg:=[iM 46 7,iM 45 46]
def x5:Rg:=[iM 47 6,iM 48 5,iK2 49 32 47 48,iM 4 49]
def x6:Rg:=[iM 50 5,iM 51 6,iK2 52 32 50 51,iM 4 52]
def CF:aC:=(sq xv (dq xw (sq xx (.seq (.block 0 (sq xy (.cond (Tm 33) (sq xz .ret) (sq x2 (.cond (Tm 39) (sq x3 .ret) (sq x4 (.cond (Tm 45) (sq x5 .ret) .skip))))))) (sq x6 .ret)))))
def atI:List Nat:=[2,3]
def ju:aR:=⟨2,53,CF,[.tmp 4]⟩
def Lz:Rg:=[iA 2 (.box true (Tm 0)),iA 3 (.box true (Tm 1)),iT 4 false]
def L0:Rg:=[iO 5 3 2,iO 6 3 3,iK2 7 51 5 6,iC 8 .lss 7 0,iM 4 8]
def JE:aC:=(sq Lz (sq L0 .ret))
def aED:List Nat:=[2,3]
def zz:aR:=⟨2,9,JE,[.tmp 4]⟩
def L9:Rg:=[iA 2 (.box true (Tm 0)),iA 3 (.box true (Tm 1)),iT 4 false]
def Ma:Rg:=[iO 5 3 2,iO 6 3 3,iK2 7 51 5 6,iC 8 .eql 7 0,iM 4 8]
def JI:aC:=(sq L9 (sq Ma .ret))
def aEG:List Nat:=[2,3]
def z8:aR:=⟨2,9,JI,[.tmp 4]⟩
def Mc:Rg:=[iA 1 (.box true (Tm 0)),iI 2 0]
def Md:Rd:=[(iO 3 3 1,true),(iA 4 (.call 47 [(Ci 0)]),true),(iK2 5 51 3 4,true),(iM 2 5,false)]
def JJ:aC:=(sq Mc (dq Md .ret))
def aEH:List Nat:=[1]
def Aa:aR:=⟨1,6,JJ,[.tmp 2]⟩
def Wy:Rg:=[iA 2 (.box true (Tm 0)),iA 3 (.box true (Tm 1)),iA 4 (.alloc [zB,.aB,.aB]),iI 5 0]
def Wz:Rg:=[iO 15 3 2,iK 16 56 15,iA 17 (.un .not (Tm 16)),iM 18 17,gO 19 3 3 18 false,gK 20 56 19 18 false,iG 21 (.un .not (Tm 20)) 18 false,iQ 22 18 21]
def nc:Rg:=[iA 23 (.build [zB,.aB,.aB] []),iS 3 4 23,iI 5 1]
def W0:Rd:=[(iF 24 1 2,false),(iL 25 24,false),(iF 26 2 3,false),(iL 27 26,false),(iK2 28 60 25 27,true),(iF 29 1 3,true),(iL 30 29,true),(iF 31 2 2,true),(iL 32 31,true),(iK2 33 60 30 32,true),(iF 34 2 2,true),(iL 35 34,true),(iF 36 2 3,true),(iL 37 36,true),(iK2 38 60 35 37,true),(iM 6 28,false),(iM 7 33,false),(iM 8 38,false)]
def W1:Rg:=[iF 39 0 2,iL 40 39,iF 41 0 3,iL 42 41,iA 43 (.eqb false (Tm 40) (Tm 42))]
def W2:Rg:=[iM 45 6,iM 46 7,iK2 47 30 45 46,iM 44 47,iE 48 44 0,iE 49 44 1,iM 9 48,iM 10 49]
def W3:Rg:=[iF 50 0 2,iL 51 50,iM 52 9,iM 53 8,iA 54 (.call 58 [(Tm 51),(Tm 52),(Tm 53)]),iK 55 57 54,iE 56 55 0,iE 57 55 1,iS 3 4 56,iM 5 57]
def W4:Rg:=[iM 58 6,iM 59 7,iK2 60 32 58 59,iC 61 .geq 60 0]
def W5:Rg:=[iM 63 6,iM 64 7,iK2 65 37 63 64,iM 62 65,iE 66 62 0,iE 67 62 1,iM 11 66,iM 12 67]
def W6:Rg:=[iF 68 0 2,iL 69 68,iM 70 11,iM 71 8,iA 72 (.call 58 [(Tm 69),(Tm 70),(Tm 71)]),iK 73 57 72,iE 74 73 0,iE 75 73 1,iS 3 4 74,iM 5 75]
def Ln:Rg:=[iM 77 7,iM 78 6,iK2 79 37 77 78,iM 76 79,iE 80 76 0,iE 81 76 1,iM 13 80,iM 14 81]
def Lo:Rg:=[iF 82 0 3,iL 83 82,iM 84 13,iM 85 8,iA 86 (.call 58 [(Tm 83),(Tm 84),(Tm 85)]),iK 87 57 86,iE 88 87 0,iE 89 87 1,iS 3 4 88,iM 5 89]
def zX:aC:=(sq Wy (.seq (sq Wz (.cond (Tm 22) (sq nc .ret) .skip)) (dq W0 (.seq (sq W1 (.cond (Tm 43) (sq W2 (sq W3 .ret)) .skip)) (.seq (sq W4 (.cond (Tm 61) (sq W5 (sq W6 .ret)) .skip)) (sq Ln (sq Lo .ret)))))))
def aLW:List Nat:=[2,3]
def Lm:aR:=⟨2,90,zX,[.cell 4 (some 3),.tmp 5]⟩
def aME:Rg:=[iA 2 (.alloc [zB,.aB,.aB]),iI 3 0]
def aMF:Rg:=[iA 8 (.call 47 [(Ci 0)]),iA 4 (.alloc [zB,.aB,.aB]),iS 3 4 8]
def aMG:Rg:=[iI 5 0]
def aMH:Rg:=[iM 9 5,iM 10 0,iN 11 10,iB 12 .lss 9 11]
def aMI:Rd:=[(iO 16 3 4,false),(iM 17 0,false),(iM 18 5,false),(iX 19 3 17 18,false),(iO 20 3 19,false),(iK2 21 46 16 20,true),(iM 15 21,false),(iE 22 15 0,false),(iE 23 15 1,true),(iA 6 (.alloc [zB,.aB,.aB]),true),(iS 3 6 22,true),(iM 7 23,false)]
def aMJ:Rg:=[iM 24 7,iC 25 .neq 24 0]
def aMK:Rg:=[iA 26 (.build [zB,.aB,.aB] []),iM 27 7,iS 3 2 26,iM 3 27]
def aML:Rg:=[iO 28 3 6,iS 3 4 28]
def aMM:Rg:=[iM 13 5,iC 14 .add 13 1,iM 5 14]
def aMD:aC:=(.seq (sq aMH (.cond (Tm 12) .skip (.exit 0))) (.seq (.block 1 (dq aMI (.seq (sq aMJ (.cond (Tm 25) (sq aMK .ret) .skip)) (.region aML)))) (.region aMM)))
def aEJ:Rg:=[iO 29 3 4,iS 3 2 29,iI 3 0]
def atJ:aC:=(sq aME (sq aMF (.seq (sq aMG (.block 0 (.loop aMD))) (sq aEJ .ret))))
def aMN:List Nat:=[]
def aRE:aR:=⟨1,30,atJ,[.cell 2 (some 3),.tmp 3]⟩
def azT:Rg:=[iT 4 false]
def azU:Rg:=[iM 5 0,iC 6 .geq 5 1,iM 7 6,gM 8 0 7 true,gC 9 .leq 8 6 7 true,iP 10 7 9,iM 11 10,gM 12 1 11 true,gC 13 .geq 12 0 11 true,iP 14 11 13,iM 15 14,gM 16 1 15 true,gC 17 .leq 16 4 15 true,iP 18 15 17,iM 19 18,gM 20 0 19 true,gM 21 1 19 true,gB 22 .add 20 21 19 true,gC 23 .leq 22 8 19 true,iP 24 19 23,iM 4 24]
def abE:aC:=(sq azT (sq azU .ret))
def aUC:aR:=⟨2,25,abE,[.tmp 4]⟩
def aeY:Rg:=[iT 2 false]
def aeZ:Rg:=[iM 3 0,iA 4 (.bin .geq (Tm 3) (.const (.int .u8 97))),iM 5 4,gM 6 0 5 true,iG 7 (.bin .leq (Tm 6) (.const (.int .u8 122))) 5 true,iP 8 5 7,iM 9 8,gM 10 0 9 false,iG 11 (.bin .geq (Tm 10) (.const (.int .u8 65))) 9 false,gM 12 11 9 false,gM 13 0 12 true,iG 14 (.bin .leq (Tm 13) (.const (.int .u8 90))) 12 true,iG 15 (.pick (Tm 12) (Tm 14) (.const zB)) 9 false,iQ 16 9 15,iM 2 16]
def Ml:aC:=(sq aeY (sq aeZ .ret))
def aMQ:aR:=⟨1,17,Ml,[.tmp 2]⟩
def atM:Rg:=[iT 2 false]
def atN:Rg:=[iM 3 0,iA 4 (.bin .geq (Tm 3) (.const (.int .u8 48))),iM 5 4,gM 6 0 5 true,iG 7 (.bin .leq (Tm 6) (.const (.int .u8 57))) 5 true,iP 8 5 7,iM 2 8]
def O8:aC:=(sq atM (sq atN .ret))
def aRF:aR:=⟨1,9,O8,[.tmp 2]⟩
def aeM:Rg:=[iT 2 false]
def aeN:Rg:=[iM 3 0,iK 4 65 3,iM 5 4,gM 6 0 5 false,gK 7 63 6 5 false,iQ 8 5 7,iM 9 8,gM 10 0 9 false,iG 11 (.bin .eql (Tm 10) (.const (.int .u8 45))) 9 false,iQ 12 9 11,iM 13 12,gM 14 0 13 false,iG 15 (.bin .eql (Tm 14) (.const (.int .u8 46))) 13 false,iQ 16 13 15,iM 2 16]
def Mj:aC:=(sq aeM (sq aeN .ret))
def aMO:aR:=⟨1,17,Mj,[.tmp 2]⟩
def aeP:Rg:=[iT 2 false]
def aeQ:Rg:=[iM 4 0,iA 5 (.a0Z (Tm 4)),iC 6 .lss 5 1,iM 7 6,gM 8 0 7 false,iG 9 (.a0Z (Tm 8)) 7 false,gC 10 .gtr 9 16 7 false,iQ 11 7 10,iM 12 11,gM 13 0 12 false,iG 14 (.a1A (Tm 13) (Ci 0)) 12 false,gK 15 65 14 12 false,iG 16 (.un .not (Tm 15)) 12 false,iQ 17 12 16]
def aeR:Rg:=[iT 2 false]
def aeS:Rg:=[iI 3 0]
def aeT:Rg:=[iM 18 3,iM 19 0,iA 20 (.a0Z (Tm 19)),iB 21 .lss 18 20]
def aeU:Rg:=[iM 24 0,iM 25 3,iA 26 (.a1A (Tm 24) (Tm 25)),iK 27 64 26,iA 28 (.un .not (Tm 27))]
def aeV:Rg:=[iT 2 false]
def aeW:Rg:=[iM 22 3,iC 23 .add 22 1,iM 3 23]
def aeO:aC:=(.seq (sq aeT (.cond (Tm 21) .skip (.exit 0))) (.seq (.block 1 (sq aeU (.cond (Tm 28) (sq aeV .ret) .skip))) (.region aeW)))
def aeX:Rg:=[iT 2 true]
def Mk:aC:=(sq aeP (.seq (sq aeQ (.cond (Tm 17) (sq aeR .ret) .skip)) (.seq (sq aeS (.block 0 (.loop aeO))) (sq aeX .ret))))
def aMP:aR:=⟨1,29,Mk,[.tmp 2]⟩
theorem pH (P:List Nat) (v:Nat):aI P++[[.int .u32 (v:Int)]]=aI (P++[v]):=by simp[aI]
theorem pG {P:List Nat} (h:P.length≤35184372087808):roomFor (aI P).length 1 4:=by
 unfold roomFor;rw[bU];simp only[maxLen]; omega
def RE (a b:List Nat) (v:PV) (c i:Nat):PF:=(((((PF.nil.set 0 (aG a)).set 1 (aG b)).set 5 (v)).set 6 (.int .u64 c)).set 7 (.int .i64 i))
theorem ww {C:Ctx} (L:mS C) (a b:List Nat) (ha:Lim a) (hb:Lim b) (η:val b≤val a) (hl:b.length≤a.length) (h1:a.length≤35184372087808) :
  CC.wp C (aX i9.res (cD (aG (aE (val a-val b))))) (PF.args [aG a,aG b]) .nil:=by
 simp only[go_sem,CC,wx,wy,wz,w8,i9];refine wp_loop (α:=List Nat × Nat × PV × PH) (fun s=>RE a b s.2.2.1 s.2.1 s.1.length) (fun s=>s.2.2.2)
  (fun s=>s.1.length≤a.length∧Lim s.1∧s.2.1≤1∧val (a.take s.1.length)+4294967296 ^ s.1.length*s.2.1=val s.1+val (b.take s.1.length)∧bP s.2.2.2 1 s.2.2.1 (aI s.1)) (fun s=>a.length-s.1.length) ([],0,.aB,.nil) ⟨by simp,by simp[Lim],by simp,by simp[val],.nil⟩ ?_ a_ ?_
 ·unfold RE;exact Lq
 rintro⟨P,c,v,H0⟩ ⟨hP,i,hc,A,U⟩;simp only at hP i hc A U ⊢;simp only[go_sem,ja,w9,RE];by_cases V:P.length<a.length
 ·have E:(P.length:Int)<(a.length:Nat):=Om;have ε:=ha _ (a1N V);have δ:=cA a V;have β:(aI a)[P.length]?=some [.int .u32 ((a[P.length]:Nat):Int)]:=bL a V;generalize hx:a[P.length]=x at *
  have ex:IntKind.u64.wrap ((x:Nat):Int)=((x:Nat):Int):=bD Om;have fin:∀ (t:Nat) (B:PF),t<4294967296→val (b.take (P.length+1))=val (b.take P.length)+4294967296 ^ P.length*t →
    B 0=some (aG a)→B 1=some (aG b)→B 5=some v→B 8=some (.int .u64 (c+t:Nat))→B 7=some (.int .i64 P.length) →
    ∀ K:bV,(∀ w l v' S H2,w.length=P.length+1→Lim w→l≤1→val (a.take (P.length+1))+4294967296 ^ w.length*l=val w+val (b.take (P.length+1))→(RE a b v' l w.length).le S→bP H2 1 v' (aI w)→K .normal S H2) →
    aC.wp C (.seq (.region PE) (.seq (.region PG) (.seq (.seq (.region IT) (.cond (.tmp 35) (.seq (.region IU) (.region IV)) .skip)) (.region wJ)))) (fQ 1 (gX C (aC.wp C (.region wK)) K)) B H0:=by
   intro t B ht u g0 g1 g5 g8 Z K hK;have step:∀ (d l:Nat),d<4294967296→l≤1→x+4294967296*l=d+(c+t)→val (a.take (P.length+1))+4294967296 ^ (P.length+1)*l=val (P++[d])+val (b.take (P.length+1)):=by
    intro d l hd ζ he;have h2:4294967296 ^ P.length*(x+4294967296*l)=4294967296 ^ P.length*(d+(c+t)):=by rw[he]
    rw[a1U,a1U,a1U] at h2;rw[jD,a3F,a2E,δ,u];omega
   simp only[go_sem,PE,g0,Z,β,ex,PG,IT,g8];by_cases c2:x<c+t
   ·have F:((x:Nat):Int)<((c+t:Nat):Int):=Om;have O:IntKind.u64.wrap ((x:Int)+4294967296)=((x+4294967296:Nat):Int):=by rw[show (x:Int)+4294967296=((x+4294967296:Nat):Int) by omega];exact bD Om
    have J:IntKind.u64.wrap (((x+4294967296:Nat):Int)-((c+t:Nat):Int))=((x+4294967296-(c+t):Nat):Int):=by rw[show ((x+4294967296:Nat):Int)-((c+t:Nat):Int)=((x+4294967296-(c+t):Nat):Int) by omega];exact bD Om
    have M:IntKind.u32.wrap ((x+4294967296-(c+t):Nat):Int)=((x+4294967296-(c+t):Nat):Int):=by rw[cF,a2U Om]
    have N:(1:Nat)*1≤16777216:=by decide
    simp only[go_sem,F,IU,O,IV,wJ,g5,g8,J,M,N];refine gT (src:=[[.int .u32 ((x+4294967296-(c+t):Nat):Int)]]) U rfl (pG Om) fun v' H' p _=>?_;rw[pH] at p;simp only[go_sem,wK,Z,dC (Om:P.length<9223372036854775807)];refine hK _ 1 v' _ H' (by simp) (i.app fun y R=>by simp at R; subst R; omega) (a1O _) ?_ ?_ p
    ·rw[a1P,a1T];exact step _ 1 Om (a1O _) Om
    ·unfold RE;rw[a1P,a1T];exact Lq
   ·have F:¬ ((x:Nat):Int)<((c+t:Nat):Int):=Om;have J:IntKind.u64.wrap (((x:Nat):Int)-((c+t:Nat):Int))=((x-(c+t):Nat):Int):=by rw[show ((x:Nat):Int)-((c+t:Nat):Int)=((x-(c+t):Nat):Int) by omega];exact bD Om
    have M:IntKind.u32.wrap ((x-(c+t):Nat):Int)=((x-(c+t):Nat):Int):=by rw[cF,a2U Om]
    have N:(1:Nat)*1≤16777216:=by decide
    simp only[go_sem,F,wJ,g5,g8,J,M,N];refine gT (src:=[[.int .u32 ((x-(c+t):Nat):Int)]]) U rfl (pG Om) fun v' H' p _=>?_;rw[pH] at p;simp only[go_sem,wK,Z,dC (Om:P.length<9223372036854775807)];refine hK _ 0 v' _ H' (by simp) (i.app fun y R=>by simp at R; subst R; omega) (by decide) ?_ ?_ p
    ·rw[a1P,a1T];exact step _ 0 Om (by decide) Om
    ·unfold RE;rw[a1P,a1T];exact Lq
  simp only[aC.wp,go_sem] at fin;simp only[go_sem,E,xa,xb];by_cases W:P.length<b.length
  ·have H:(P.length:Int)<(b.length:Nat):=Om;have γ:=hb _ (a1N W);have u:=cA b W;have eb:IntKind.u64.wrap ((b[P.length]:Nat):Int)=((b[P.length]:Nat):Int):=bD Om;have es:IntKind.u64.wrap ((c:Int)+(b[P.length]:Int))=((c+b[P.length]:Nat):Int):=eZ Om;simp only[go_sem,H,xc,bL b W,eb,es];refine fin b[P.length] _ γ u rfl rfl rfl rfl rfl _ ?_;intro w l v' S H2 O J M Q X Y;rw[← O] at Q;exact aK (α:=List Nat × Nat × PV × PH) (w,l,v',H2) ⟨by simp only; omega,J,M,Q,Y⟩ (by simp only; omega) X b_
  ·have H:¬ (P.length:Int)<(b.length:Nat):=Om;have u:val (b.take (P.length+1))=val (b.take P.length)+4294967296 ^ P.length*0:=by rw[a2C Om,a2C Om]; simp
   simp only[go_sem,H];refine fin 0 _ (by decide) u rfl rfl rfl rfl rfl _ ?_;intro w l v' S H2 O J M Q X Y;rw[← O] at Q;exact aK (α:=List Nat × Nat × PV × PH) (w,l,v',H2) ⟨by simp only; omega,J,M,Q,Y⟩ (by simp only; omega) X b_
 ·have e:P.length=a.length:=Om;have E:¬ (P.length:Int)<(a.length:Nat):=Om;have hV:val P=val a-val b:=by
   rw[e,a2O,a2C hl] at A;have hlt:=eY i;rw[e] at hlt;rcases a4D c with h | h
   ·subst h; omega
   ·have:c=1:=Om;subst this; omega
  simp only[go_sem,E,jb];have hs:=L.trim _ i Om;rw[hV] at hs;refine sQ hs U rfl fun F1 H1 _=>?_;simp only[go_sem];exact aZ (.inr rfl) .nil rfl a_ ⟨.refl _,rfl⟩
def qS (a b:List Nat) (o i:Nat):PF:=((((PF.nil.set 0 (aG a)).set 1 (aG b)).set 5 (.osl o 1 0 (a.length+b.length))).set 6 (.int .i64 i))
def utG (a b:List Nat) (o i c j:Nat):PF:=((((((PF.nil.set 0 (aG a)).set 1 (aG b)).set 5 (.osl o 1 0 (a.length+b.length))).set 6 (.int .i64 i)).set 7 (.int .u64 c)).set 8 (.int .i64 j))
theorem aeF {C:Ctx} (a b:List Nat) (ha:Lim a) (hb:Lim b) (h1:a.length≤35184372087808) (h2:b.length≤35184372087808) (L:List Nat) (i:Nat) (hi:i<a.length) (N:CL a b L i) (q:Nat) (K:bV) (F:PF) (H:PH) (J:(qS a b q i).le F) (hH:H q=some (.rows 1 (aI L)))
  (hK:∀ L' F' H',CL a b L' (i+1)→(qS a b q i).le F'→H' q=some (.rows 1 (aI L'))→K .normal F' H') :
  aC.wp C (.block 1 (.seq (.region PP) (.seq (.seq (.region PQ) (.block 2 (.loop IZ))) (.region JA)))) K F H:=by
 have f0:=J 0 _ (by unfold qS; simp only[go_sem]; rfl);have f1:=J 1 _ (by unfold qS; simp only[go_sem]; rfl);have f5:=J 5 _ (by unfold qS; simp only[go_sem]; rfl);have f6:=J 6 _ (by unfold qS; simp only[go_sem]; rfl);have hx:=ha _ (a1N hi);have Y:=cA a hi;generalize β:a[i]=x at *
 have V:(aI a)[i]?=some [.int .u32 ((x:Nat):Int)]:=by rw[bL a hi,β]
 simp only[go_sem,PP,PQ];refine wp_loop (α:=List Nat × Nat × Nat) (fun t=>utG a b q i t.2.1 t.2.2) (fun t=>PH.nil.set q (.rows 1 (aI t.1)))
  (fun t=>t.2.2≤b.length∧t.1.length=a.length+b.length∧Lim t.1∧t.2.1<4294967296∧val t.1+4294967296 ^ (i+t.2.2)*t.2.1=val (a.take i)*val b+4294967296 ^ i*(x*val (b.take t.2.2))∧∀ j y,i+b.length≤j→t.1[j]?=some y→y=0) (fun t=>b.length-t.2.2) (L,0,0)
  ⟨by simp,N.len,N.lim,by simp,by simp[val,N.v],N.z⟩ ?_ (PH.aL a_ hH) ?_
 ·unfold utG;exact Lq
 rintro⟨M,c,j⟩ ⟨hj,U,e,X,u,Q⟩;simp only at hj U e X u Q;simp only[go_sem,IZ,xk,utG];by_cases R:j<b.length
 ·have w:(j:Int)<(b.length:Nat):=Om;have O:=hb _ (a1N R);have Z:=cA b R;generalize γ:b[j]=y at *
  have W:(aI b)[j]?=some [.int .u32 ((y:Nat):Int)]:=by rw[bL b R,γ]
  have d:i+j<M.length:=Om;have E:=e _ (a1N d);have p:=DI d;generalize δ:M[i+j]=z at *
  have B:(aI M)[i+j]?=some [.int .u32 ((z:Nat):Int)]:=by rw[bL M d,δ]
  have ex:IntKind.u64.wrap ((x:Nat):Int)=((x:Nat):Int):=bD Om;have ey:IntKind.u64.wrap ((y:Nat):Int)=((y:Nat):Int):=bD Om;have ez:IntKind.u64.wrap ((z:Nat):Int)=((z:Nat):Int):=bD Om;have em:=To hx O;have ζ:x*y≤4294967295*4294967295:=a4S Om Om;have e1:IntKind.u64.wrap (((x*y:Nat):Int)+(z:Int))=((x*y+z:Nat):Int):=eZ Om;have e2:IntKind.u64.wrap (((x*y+z:Nat):Int)+(c:Int))=((x*y+z+c:Nat):Int):=eZ Om;have A:IntKind.i64.wrap ((i:Int)+(j:Int))=((i+j:Nat):Int):=fX Om;have hlt:((i+j:Nat):Int)<((a.length+b.length:Nat):Int):=Om;generalize ht:x*y+z+c=t at *
  have ε:t<4294967296*4294967296:=Om;have l:(aI M).set (i+j) [.int .u32 ((t%4294967296:Nat):Int)]=aI (M.set (i+j) (t%4294967296)):=fH M (i+j) _;simp only[go_sem,w];refine bX .nil eH a_ ?_;simp only[go_sem,xl,V,W,ex,ey,em,A,hlt,B,ez,e1,e2,xm,cF,l,xn,wH,jg,wZz j];refine aK (M.set (i+j) (t%4294967296),t/4294967296,j+1) ⟨by simp only; omega,by simp only[a3U]; exact U,e.set _ (a3C _ (by decide)),by simp only; omega,?_,j7 Q _ _ Om⟩ (by simp only; omega) ?_ (PH.aL a_ Sq)
  ·simp only;have S:=p (t%4294967296);have h4:4294967296 ^ (i+(j+1))*(t/4294967296)+4294967296 ^ (i+j)*(t%4294967296)=4294967296 ^ (i+j)*t:=by rw[← a3V,a3F,a2E,← a1U,a4W]
   have h5:4294967296 ^ (i+j)*t=4294967296 ^ (i+j)*(x*y)+4294967296 ^ (i+j)*z+4294967296 ^ (i+j)*c:=by rw[← ht,a1U,a1U]
   have h6:4294967296 ^ i*(x*val (b.take (j+1)))=4294967296 ^ i*(x*val (b.take j))+4294967296 ^ (i+j)*(x*y):=by rw[Z,a1U,a1U,Nat.pow_add];congr 1;rw[Nat.mul_left_comm x,a2E]
   omega
  ·exact Lq
 ·have he:j=b.length:=Om;have w:¬ (j:Int)<(b.length:Nat):=Om;subst he;have d:i+b.length<M.length:=Om;have E:M[i+b.length]=0:=Q _ _ (a1O _) (a1V d);have p:=DI d;have B:(aI M)[i+b.length]?=some [.int .u32 ((0:Nat):Int)]:=by rw[bL M d,E]
  have A:IntKind.i64.wrap ((i:Int)+(b.length:Int))=((i+b.length:Nat):Int):=fX Om;have hlt:((i+b.length:Nat):Int)<((a.length+b.length:Nat):Int):=Om;have l:(aI M).set (i+b.length) [.int .u32 ((c%4294967296:Nat):Int)]=aI (M.set (i+b.length) c):=by rw[a2U X]; exact fH M _ _
  simp only[go_sem,w,JA,A,cF,hlt,B,l];refine hK (M.set (i+b.length) c) _ _ ⟨by rw[a3U]; exact U,e.set _ X,?_,fun j y hj O=>?_⟩ (by unfold qS; exact Lq) Sq
  ·have S:=p c;rw[E,Nat.mul_zero,a3S] at S;rw[S,u,a2O,Y,a2R,a2E]
  ·rw[List.getElem?_set_ne Om] at O;exact Q j y Om O
theorem xf {C:Ctx} (L:mS C) (a b:List Nat) (J:Lim a) (K:Lim b) (S:a.length≤8388608) (U:b.length≤8388608) :
  CD.wp C (aX je.res (cD (aG (aE (val a*val b))))) (PF.args [aG a,aG b]) .nil:=by
 have l:IntKind.i64.wrap ((a.length:Int)+(b.length:Int))=((a.length+b.length:Nat):Int):=fX Om;have y:((a.length+b.length:Nat):Int)*((4:Nat):Int)≤140737488355328:=Om;have A:((a.length+b.length:Nat):Int)≤9223372036854775807:=Om;have O:a1M (a.length+b.length) [PV.int .u32 0]=aI (a1M (a.length+b.length) 0):=by simp[aI]
 simp only[go_sem,CD,xg,xh,je,a1K,l,y,A,O];refine aQ fun o V=>?_;simp only[go_sem,xi];refine wp_loop (α:=List Nat × Nat) (fun t=>qS a b o t.2) (fun t=>PH.nil.set o (.rows 1 (aI t.1))) (fun t=>t.2≤a.length∧CL a b t.1 t.2) (fun t=>a.length-t.2) (a1M (a.length+b.length) 0,0)
  ⟨by simp,by simp,uM _,by simp[val,rH],fun j x _ E=>by rw[List.getElem?_replicate] at E; split at E<;>simp_all⟩ ?_ (PH.aL a_ Sq) ?_
 ·unfold qS;exact Lq
 rintro⟨M,i⟩ ⟨hi,d⟩;simp only at hi d;simp only[go_sem,jf,xj,qS];by_cases F:i<a.length
 ·have e:(i:Int)<(a.length:Nat):=Om;have p:=aeF (C:=C) a b J K Om Om M i F d o;simp only[go_sem] at p;simp only[go_sem,e];refine p _ _ _ (by unfold qS; exact Lq) Sq ?_;intro L' Q H' w c u;have H:=c 6 _ (by unfold qS; simp only[go_sem]; rfl);have g0:=c 0 _ (by unfold qS; simp only[go_sem]; rfl);have g1:=c 1 _ (by unfold qS; simp only[go_sem]; rfl);have R:=c 5 _ (by unfold qS; simp only[go_sem]; rfl);simp only[go_sem,jh,H,wZz i];refine aK (L',i+1) ⟨by simp only; omega,w⟩ (by simp only; omega) ?_ (PH.aL a_ u);exact Lq
 ·have N:i=a.length:=Om;subst N;have e:¬ (a.length:Int)<(a.length:Nat):=Om;have hV:val M=val a*val b:=by rw[d.v,a2O]
  simp only[go_sem,ji];have B:=L.trim _ d.lim (by rw[d.len]; omega);rw[hV] at B;refine pK (o:=o) (s:=1) (k:=a.length+b.length) (rs:=aI M) (v:=aG (aE (val a*val b))) ?_ rfl Sq (by rw[bU,d.len]; exact a1O _) ?_
  ·rw[a2C (by rw[bU,d.len]; exact a1O _)]; exact B
  ·simp only[go_sem];exact aZ (.inr rfl) .nil rfl a_ ⟨.refl _,rfl⟩
structure YF (C:Ctx):Prop extends YD C where
 minus:∀ a b,Lim a→Lim b→val b≤val a→b.length≤a.length→a.length≤35184372087808→aF C 42 [aG a,aG b] .nil (aH (aG (aE (val a-val b))))
 times:∀ a b,Lim a→Lim b→a.length≤8388608→b.length≤8388608→aF C 44 [aG a,aG b] .nil (aH (aG (aE (val a*val b))))
theorem Wf {C:Ctx} (L:YF C) (a b:List Nat) (i:Lim a) (l:Lim b) (w:a.length≤35184372087808) (x:b.length≤35184372087808) :
  PI.wp C (aX aeB.res (cD (opV (dT (val a) (val b)) (val a*val b)))) (PF.args [aG a,aG b]) .nil:=by
 unfold opV;simp only[go_sem,PI,Wg,Wh,aeB];refine aA (L.large a i w) rfl ?_;by_cases d:nl (val a)>512
 ·simp only[go_sem,d,na];rw[if_pos (by simp[dT,d])];exact eO rfl
 simp only[go_sem,d];refine aA (L.large b l x) rfl ?_;by_cases e:nl (val b)>512
 ·simp only[go_sem,e,na];rw[if_pos (by simp[dT,e])];exact eO rfl
 rw[if_neg (by simp[dT,d,e])];simp only[go_sem,e,Wi];refine aA (L.trim a i w) rfl ?_;simp only[go_sem];refine aA (L.trim b l x) rfl ?_;simp only[go_sem];have u:=L.times (aE (val a)) (aE (val b)) (aU _) (aU _) (by rw[aW]; omega) (by rw[aW]; omega);rw[aT,aT] at u;refine aA u rfl ?_;have y:=jL (a:=val a) (b:=val b) (m:=512) (n:=512) Om Om;have p:=L.large (aE (val a*val b)) (aU _) (by rw[aW]; omega);rw[aT] at p;simp only[go_sem,Wj];refine aA p rfl ?_;unfold szV szL szE;by_cases c:nl (val a*val b)>512
 ·rw[if_pos c,if_pos c];simp only[go_sem,c,Wk];exact eO rfl
 ·rw[if_neg c,if_neg c];simp only[go_sem,c,Wl];exact aZ (.inr rfl) .nil rfl a_ ⟨.refl _,rfl⟩
def vK (a:List Nat) (i:Nat):Nat:=a.getD i 0
theorem B9 {a:List Nat} (h:Lim a) (i:Nat):vK a i<4294967296:=by
 unfold vK;rw[a2L];rcases a2D i a.length with h1 | h1
 ·rw[a1V h1]; exact h _ (a1N h1)
 ·rw[a2Z h1]; decide
theorem UF {a:List Nat} {i:Nat} (h:i<a.length):vK a i=a[i]:=by simp[vK,a2L,h]
theorem LQ {a:List Nat} {i:Nat} (h:¬ i<a.length):vK a i=0:=by simp[vK,a2L,h]
theorem PR (a:List Nat) (i:Nat):val (a.take (i+1))=val (a.take i)+4294967296 ^ i*vK a i:=by
 rcases a2D i a.length with h | h
 ·rw[UF h]; exact cA a h
 ·rw[LQ Om,a2C Om,a2C Om]; simp
def sN (a b:List Nat) (v:PV) (c i:Nat):PF:=(((((PF.nil.set 0 (aG a)).set 1 (aG b)).set 5 (v)).set 6 (.int .u64 c)).set 7 (.int .i64 i))
theorem K9 {C:Ctx} (L:mS C) (a b:List Nat) (ha:Lim a) (hb:Lim b) (h1:a.length≤8388608) (h2:b.length≤8388608) :
  IW.wp C (aX zp.res (cD (aG (aE (val a+val b))))) (PF.args [aG a,aG b]) .nil:=by
 simp only[go_sem,IW,La,Lc,Ld,Le,zp];refine wp_loop (α:=List Nat × Nat × PV × PH) (fun s=>sN a b s.2.2.1 s.2.1 s.1.length) (fun s=>s.2.2.2)
  (fun s=>s.1.length≤max a.length b.length+1∧(s.1.length≤max a.length b.length∨s.2.1=0)∧Lim s.1∧s.2.1≤1∧val s.1+4294967296 ^ s.1.length*s.2.1=val (a.take s.1.length)+val (b.take s.1.length)∧bP s.2.2.2 1 s.2.2.1 (aI s.1)) (fun s=>max a.length b.length+1-s.1.length) ([],0,.aB,.nil)
  ⟨by simp,by simp,by simp[Lim],by simp,by simp[val],.nil⟩ ?_ a_ ?_
 ·unfold sN;exact Lq
 rintro⟨P,c,v,H0⟩ ⟨hP,δ,l,hc,E,hO⟩;simp only at hP δ l hc E hO ⊢;have ι:=B9 ha P.length;have κ:=B9 hb P.length;have η:=PR a P.length;have θ:=PR b P.length;generalize hx:vK a P.length=x at *
 generalize hy:vK b P.length=y at *
 have ex:IntKind.u64.wrap ((x:Nat):Int)=((x:Nat):Int):=bD Om;have ey:IntKind.u64.wrap ((y:Nat):Int)=((y:Nat):Int):=bD Om;have N:IntKind.u64.wrap ((c:Int)+(x:Int))=((c+x:Nat):Int):=eZ Om;have O:IntKind.u64.wrap (((c+x:Nat):Int)+(y:Int))=((c+x+y:Nat):Int):=eZ Om;have ζ:P.length<a.length→(aI a)[P.length]?=some [.int .u32 ((x:Nat):Int)]:=fun h=>by rw[bL a h,← hx,UF h]
 have Y:P.length<b.length→(aI b)[P.length]?=some [.int .u32 ((y:Nat):Int)]:=fun h=>by rw[bL b h,← hy,UF h]
 have Z:¬ P.length<a.length→x=0:=fun h=>by rw[← hx,LQ h]
 have Q:¬ P.length<b.length→y=0:=fun h=>by rw[← hy,LQ h]
 have body:(P.length≤max a.length b.length)→∀ K:bV,(∀ i u v' R H2,i.length=P.length+1→Lim i→u≤1→(P.length+1≤max a.length b.length∨u=0)→val i+4294967296 ^ i.length*u=val (a.take (P.length+1))+val (b.take (P.length+1))→(sN a b v' u i.length).le R→bP H2 1 v' (aI i)→K .normal R H2) →
   ∀ F:PF,(sN a b v c P.length).le F→aC.wp C (.seq (.block 1 (.seq (.region XO) (.seq (.seq (.region XP) (.cond (.tmp 29) (.region XQ) .skip)) (.seq (.seq (.region IX) (.cond (.tmp 40) (.region IY) .skip)) (.seq (.region zU) (.region zV)))))) (.region zW)) K F H0:=by
  intro μ K hK F W;have g0:F 0=some (aG a):=W 0 _ (by unfold sN; simp only[go_sem]);have g1:F 1=some (aG b):=W 1 _ (by unfold sN; simp only[go_sem]);have g5:F 5=some v:=W 5 _ (by unfold sN; simp only[go_sem]);have g6:F 6=some (.int .u64 c):=W 6 _ (by unfold sN; simp only[go_sem]);have w:F 7=some (.int .i64 P.length):=W 7 _ (by unfold sN; simp only[go_sem]);have fin:∀ H:PF,H 0=some (aG a)→H 1=some (aG b)→H 5=some v→H 7=some (.int .i64 P.length)→H 8=some (.int .u64 (c+x+y:Nat)) →
    aC.wp C (.seq (.region zU) (.region zV)) (fQ 1 (gX C (aC.wp C (.region zW)) K)) H H0:=by
   intro H q0 q1 q5 q7 q8;have ε:(1:Nat)*1≤16777216:=by decide
   generalize ht:c+x+y=t at *
   have ν:t<2*4294967296:=Om;simp only[go_sem,zU,q5,q8,ε,cF];refine gT (src:=[[.int .u32 ((t%4294967296:Nat):Int)]]) hO rfl (pG Om) fun v' H' X _=>?_;rw[pH] at X;simp only[go_sem,zV,q8,wH,zW,q7,dC (Om:P.length<9223372036854775807)];refine hK (P++[t%4294967296]) (t/4294967296) v' _ H' (by simp) (l.app fun y hy=>by simp at hy; subst hy; omega) Om ?_ ?_ ?_ X
   ·rcases a2D P.length (max a.length b.length) with h | h
    ·exact .inl h
    ·right;have h1:=Z Om;have h2:=Q Om;omega
   ·rw[jD,a1P,a1T,η,θ,a3F,a2E,a3V,← a1U];rw[show t%4294967296+4294967296*(t/4294967296)=t from Nat.mod_add_div t 4294967296];have h3:4294967296 ^ P.length*t=4294967296 ^ P.length*c+4294967296 ^ P.length*x+4294967296 ^ P.length*y:=by rw[← ht,a1U,a1U]
    omega
   ·unfold sN;rw[a1P,a1T];exact Lq
  simp only[aC.wp,go_sem] at fin;simp only[go_sem,XO,g6,XP,w,g0];by_cases c1:P.length<a.length
  ·have e:(P.length:Int)<(a.length:Nat):=Om;simp only[go_sem,e,XQ,g0,w,ζ c1,ex,N,IX,g1];by_cases J:P.length<b.length
   ·have d:(P.length:Int)<(b.length:Nat):=Om;simp only[go_sem,d,IY,g1,w,Y J,ey,O];exact fin _ (by simp only[go_sem,g0]) (by simp only[go_sem,g1]) (by simp only[go_sem,g5]) (by simp only[go_sem,w]) rfl
   ·have d:¬ (P.length:Int)<(b.length:Nat):=Om;have h0:=Q J;simp only[go_sem,d];exact fin _ (by simp only[go_sem,g0]) (by simp only[go_sem,g1]) (by simp only[go_sem,g5]) (by simp only[go_sem,w]) (by simp only[go_sem,h0])
  ·have e:¬ (P.length:Int)<(a.length:Nat):=Om;have h0:=Z c1;simp only[go_sem,e,IX,g1,w];by_cases J:P.length<b.length
   ·have d:(P.length:Int)<(b.length:Nat):=Om;have β:IntKind.u64.wrap ((c:Int)+(y:Int))=((c+x+y:Nat):Int):=by rw[h0]; exact eZ Om
    simp only[go_sem,d,IY,g1,w,Y J,ey,β];exact fin _ (by simp only[go_sem,g0]) (by simp only[go_sem,g1]) (by simp only[go_sem,g5]) (by simp only[go_sem,w]) rfl
   ·have d:¬ (P.length:Int)<(b.length:Nat):=Om;have γ:=Q J;simp only[go_sem,d];exact fin _ (by simp only[go_sem,g0]) (by simp only[go_sem,g1]) (by simp only[go_sem,g5]) (by simp only[go_sem,w]) (by simp only[go_sem,h0,γ])
 simp only[aC.wp,go_sem] at body;have p:¬ P.length<a.length→¬ P.length<b.length→c=0→∀ F:PF,F 5=some v→aC.wp C (.seq (.region PL) .ret) (aX [.tmp 4] (cD (aG (aE (val a+val b))))) F H0:=by
  intro n1 n2 n3 F f5;have hV:val P=val a+val b:=by rw[n3,a2C Om,a2C Om] at E;omega
  have hs:=L.trim _ l Om;rw[hV] at hs;simp only[go_sem,PL,f5];refine sQ hs hO rfl fun F1 H1 _=>?_;simp only[go_sem];exact aZ (.inr rfl) .nil rfl a_ ⟨.refl _,rfl⟩
 simp only[aC.wp,go_sem] at p;simp only[go_sem,xe,Lf,sN];by_cases c1:P.length<a.length
 ·have e:(P.length:Int)<(a.length:Nat):=Om;simp only[go_sem,e];refine body Om _ ?_ _ (by unfold sN; exact Lq);intro i u v' R H2 N O S A B U V;rw[← N] at B A;exact aK (α:=List Nat × Nat × PV × PH) (i,u,v',H2) ⟨by simp only; omega,A,O,S,B,V⟩ (by simp only; omega) U b_
 ·have e:¬ (P.length:Int)<(a.length:Nat):=Om;simp only[go_sem,e];by_cases J:P.length<b.length
  ·have d:(P.length:Int)<(b.length:Nat):=Om;simp only[go_sem,d];refine body Om _ ?_ _ (by unfold sN; exact Lq);intro i u v' R H2 N O S A B U V;rw[← N] at B A;exact aK (α:=List Nat × Nat × PV × PH) (i,u,v',H2) ⟨by simp only; omega,A,O,S,B,V⟩ (by simp only; omega) U b_
  ·have d:¬ (P.length:Int)<(b.length:Nat):=Om;simp only[go_sem,d];by_cases c3:c=0
   ·have M:¬ (c:Int)>0:=Om;simp only[go_sem,M];exact p c1 J c3 _ rfl
   ·have M:(c:Int)>0:=Om;simp only[go_sem,M];refine body Om _ ?_ _ (by unfold sN; exact Lq);intro i u v' R H2 N O S A B U V;rw[← N] at B A;exact aK (α:=List Nat × Nat × PV × PH) (i,u,v',H2) ⟨by simp only; omega,A,O,S,B,V⟩ (by simp only; omega) U b_
structure KE (C:Ctx):Prop extends YF C where
 plus:∀ a b,Lim a→Lim b→a.length≤8388608→b.length≤8388608→aF C 43 [aG a,aG b] .nil (aH (aG (aE (val a+val b))))
theorem Vg {C:Ctx} (L:KE C) (a b:List Nat) (i:Lim a) (l:Lim b) (w:a.length≤35184372087808) (x:b.length≤35184372087808) :
  OY.wp C (aX adU.res (cD (opV (dT (val a) (val b)) (val a+val b)))) (PF.args [aG a,aG b]) .nil:=by
 unfold opV;simp only[go_sem,OY,Vh,Vi,adU];refine aA (L.large a i w) rfl ?_;by_cases d:nl (val a)>512
 ·simp only[go_sem,d,m7];rw[if_pos (by simp[dT,d])];exact eO rfl
 simp only[go_sem,d];refine aA (L.large b l x) rfl ?_;by_cases e:nl (val b)>512
 ·simp only[go_sem,e,m7];rw[if_pos (by simp[dT,e])];exact eO rfl
 rw[if_neg (by simp[dT,d,e])];simp only[go_sem,e,Vj];refine aA (L.trim a i w) rfl ?_;simp only[go_sem];refine aA (L.trim b l x) rfl ?_;simp only[go_sem];have u:=L.plus (aE (val a)) (aE (val b)) (aU _) (aU _) (by rw[aW]; omega) (by rw[aW]; omega);rw[aT,aT] at u;refine aA u rfl ?_;have y:=fv (a:=val a) (b:=val b) (m:=512) Om Om;have p:=L.large (aE (val a+val b)) (aU _) (by rw[aW]; omega);rw[aT] at p;simp only[go_sem,Vk];refine aA p rfl ?_;unfold szV szL szE;by_cases c:nl (val a+val b)>512
 ·rw[if_pos c,if_pos c];simp only[go_sem,c,Vl];exact eO rfl
 ·rw[if_neg c,if_neg c];simp only[go_sem,c,Vm];exact aZ (.inr rfl) .nil rfl a_ ⟨.refl _,rfl⟩
theorem Wn {C:Ctx} (L:KE C) (a b:List Nat) (i:Lim a) (l:Lim b) (p:a.length≤35184372087808) (u:b.length≤35184372087808) :
  PO.wp C (aX aeE.res (cD (qQ (val a) (val b)))) (PF.args [aG a,aG b]) .nil:=by
 unfold qQ;simp only[go_sem,PO,Wo,Wp,aeE];refine aA (L.large a i p) rfl ?_;by_cases c:nl (val a)>512
 ·simp only[go_sem,c,nb];rw[if_pos (by simp[dT,c])];exact eO rfl
 simp only[go_sem,c];refine aA (L.large b l u) rfl ?_;by_cases d:nl (val b)>512
 ·simp only[go_sem,d,nb];rw[if_pos (by simp[dT,d])];exact eO rfl
 rw[if_neg (by simp[dT,c,d])];simp only[go_sem,d,Wq];refine aA (L.cmp a b i l p u) rfl ?_;by_cases e:val a<val b
 ·have:cU (val a) (val b)=-1:=by simp[cU,e]
  rw[if_pos e];simp only[go_sem,this,show ((-1:Int)<0) by decide,Ws];exact eO rfl
 ·have:¬ cU (val a) (val b)<0:=by unfold cU;rw[if_neg e];split<;>decide
  rw[if_neg e];have y:=fE (Nat.sub_le (val a) (val b));have x:=fE (Om:val b≤val a);simp only[go_sem,this,Wt];refine aA (L.trim a i p) rfl ?_;simp only[go_sem];refine aA (L.trim b l u) rfl ?_;simp only[go_sem];have w:=L.minus (aE (val a)) (aE (val b)) (aU _) (aU _) (by rw[aT,aT]; omega) (by rw[aW,aW]; exact x) (by rw[aW]; omega);rw[aT,aT] at w;refine aA w rfl ?_;rw[yG Om];simp only[go_sem];exact aZ (.inr rfl) .nil rfl a_ ⟨.refl _,rfl⟩
def J8 (k:Nat) (v:Nat):PF:=((PF.nil.set 3 (.int .i64 k)).set 4 (.int .u32 v))
theorem Ka {C:Ctx} (L:mS C) (xs:List Nat) (H:Lim xs) (Q:xs.length≤35184372087808) :
  IM.wp C (aX zm.res (aH (.int .i64 (cJ (val xs):Nat)))) (PF.args [aG xs]) .nil:=by
 simp only[go_sem,IM,Kb,Kc,zm];refine aA (L.trim xs H Q) rfl ?_;have R:=fG H;simp only[go_sem,Kd,a1K,aW,zT];by_cases w:nl (val xs)=0
 ·simp only[go_sem,decide_eq_true w,Ke];refine bE (.inr rfl) rfl ?_;have:val xs=0:=gE.1 w;simp[cO,this,kK]
 obtain⟨n,N⟩:∃ n,nl (val xs)=n+1:=⟨nl (val xs)-1,by omega⟩;obtain⟨t,u,y⟩:=J6 (xs:=aE (val xs)) (aU _) (by rw[aT]; exact N);have e:t<4294967296:=aU _ t (a3R u);have O:val xs=val ((aE (val xs)).take n)+4294967296 ^ n*t:=by
  have:=aT (val xs);have c:n<(aE (val xs)).length:=by rw[aW]; omega
  have M:(aE (val xs))[n]=t:=by rw[a1V c] at u; exact a3T.inj u
  conv=>lhs; rw[← this,← a2C (l:=aE (val xs)) (i:=n+1) (by rw[aW]; omega)]
  rw[cA _ c,M]
 have S:cJ (val xs)=32*n+cJ t:=by have E:=eY ((aU (val xs)).take n);rw[a2A,aW,a3W Om] at E;have p:=Aw (lo:=val ((aE (val xs)).take n)) (k:=32*n) (hi:=t) (by rw[Nat.pow_mul]; exact E) y;rw[← p,Nat.pow_mul];exact congrArg cJ O
 have d:(aI (aE (val xs)))[n]?=some [.int .u32 (t:Nat)]:=by simp[aI,u]
 have J:IntKind.i64.wrap (((nl (val xs):Nat):Int)-1)=(n:Int):=by rw[wrap_i64 Om Om]; omega
 have K:IntKind.i64.wrap (32*(n:Int))=((32*n:Nat):Int):=by rw[wrap_i64 Om Om]; omega
 simp only[go_sem,decide_eq_false w,Kf,Kg,a1K,aW,J,K,d];refine wp_loop (α:=Nat × Nat) (fun a=>J8 a.1 a.2) (fun _=>.nil) (fun a=>a.1+cJ a.2=32*n+cJ t∧a.2<4294967296) (fun a=>a.2) (32*n,t) ⟨rfl,e⟩ ?_ a_ ?_
 ·unfold J8;exact Lq
 rintro⟨k,v⟩ ⟨p,hlt⟩;simp only at p hlt;have F:cJ t≤32:=(lH t 32).2 e;simp only[go_sem,J9,Kh,J8];by_cases B:(v:Int)>0
 ·have A:v≠0:=Om;have x:IntKind.u32.wrap (Int.tdiv (v:Int) 2)=((v/2:Nat):Int):=by rw[show Int.tdiv (v:Int) 2=((v/2:Nat):Int) from Int.ofNat_tdiv v 2,cF,a2U Om]
  simp only[go_sem,B,Ki,Kj,x,wZz k];refine aK (k+1,v/2) ⟨?_,?_⟩ (Nat.div_lt_self Om (by decide)) ?_ a_
  ·have:=qH A;simp only; omega
  ·simp only; omega
  ·exact Lq
 ·have:v=0:=Om;subst this;simp only[go_sem,B,wm];refine bE (.inr rfl) rfl ?_;rw[kK] at p;simp only[cO,PV.int.injEq,true_and];omega
theorem wc (n:Nat):4294967296 ^ (n/32)*2 ^ (n%32)=2 ^ n:=by
 rw[show (4294967296:Nat)=2 ^ 32 by decide,← Nat.pow_mul,← Nat.pow_add];congr 1;omega
theorem apK (n:Nat):IntKind.i64.wrap (Int.tdiv (n:Int) 32)=IntKind.i64.wrap ((n/32:Nat):Int):=by
 rw[show Int.tdiv (n:Int) 32=((n/32:Nat):Int) from Int.ofNat_tdiv n 32]
theorem apX (n:Nat):Int.tmod (n:Int) 32=((n%32:Nat):Int):=Int.ofNat_tmod n 32
def aEA (a:List Nat) (n:Nat) (v:PV) (c i:Nat):PF:=(((((PF.nil.set 0 (aG a)).set 1 (.int .i64 n)).set 5 (v)).set 6 (.int .u64 c)).set 7 (.int .i64 i))
theorem asU {C:Ctx} (L:mS C) (a:List Nat) (n:Nat) (ha:Lim a) (h1:a.length≤8388608) (hn:n≤8388608) (h0:a.length=0→val a=0) :
  XS.wp C (aX uup.res (nO 1 (aI (aE (val a*2 ^ n))))) (PF.args [aG a,.int .i64 n]) .nil:=by
 simp only[go_sem,XS,asV,asW,uup,a1K,zT];by_cases E:a.length=0
 ·simp only[go_sem,decide_eq_true E,asX];rw[h0 E,Nat.zero_mul,dO];exact mu (.inr rfl) rfl
 have ez:IntKind.i64.wrap (Int.tdiv (n:Int) 32)=((n/32:Nat):Int):=by rw[apK,XT Om]
 have em:=apX n;have eu:IntKind.u64.wrap ((n%32:Nat):Int)=((n%32:Nat):Int):=bD Om;have U:=wc n;have S:n%32<32:=a3C _ (by decide);have hz:n/32≤8388608:=Om;generalize ζ:n/32=z at *
 generalize δ:n%32=s at *
 have Q:((z:Nat):Int)*((4:Nat):Int)≤140737488355328:=Om;have R:((z:Nat):Int)≤9223372036854775807:=Om;have W:a1M z [PV.int .u32 0]=aI (a1M z 0):=by simp[aI]
 have K:2 ^ s≤2147483648:=a4Y (show 0<2 by decide) (Om:s≤31);have A:0<2 ^ s:=a4F (by decide);simp only[go_sem,decide_eq_false E,asY,ez,Q,R,W];refine aQ fun o ho=>?_;simp only[go_sem,asZ,atA];refine wp_loop (α:=List Nat × Nat × Nat × PV × PH) (fun t=>aEA a n t.2.2.2.1 t.2.1 t.2.2.1) (fun t=>t.2.2.2.2)
  (fun t=>t.2.2.1≤a.length∧t.1.length=z+t.2.2.1∧Lim t.1∧t.2.1<2 ^ s∧val t.1+4294967296 ^ t.1.length*t.2.1=val (a.take t.2.2.1)*2 ^ n∧bP t.2.2.2.2 1 t.2.2.2.1 (aI t.1)) (fun t=>a.length-t.2.2.1) (a1M z 0,0,0,.osl o 1 0 z,PH.nil.set o (.rows 1 (aI (a1M z 0))))
  ⟨by simp,by simp,uM _,A,by simp[val,rH],.inr ⟨o,aI (a1M z 0),by rw[bU,List.length_replicate],by simp only[go_sem],by rw[bU]; exact a1O _,a2O⟩⟩ ?_ b_ ?_
 ·unfold aEA;exact Lq
 rintro⟨P,c,i,v,H0⟩ ⟨hi,X,d,Y,p,N⟩;simp only at hi X d Y p N ⊢;simp only[go_sem,Wu,atB,aEA];by_cases F:i<a.length
 ·have u:(i:Int)<(a.length:Nat):=Om;have γ:=ha _ (a1N F);have V:=cA a F;have O:=bL a F;generalize Z:a[i]=x at *
  have ε:x*2 ^ s≤4294967295*2147483648:=a4S Om K;have ex:IntKind.u64.wrap ((x:Nat):Int)=((x:Nat):Int):=bD Om;have β:2 ^ s*x=x*2 ^ s:=a2M _ _;have J:shift .shl .u64 (x:Int) (s:Int)=some (.int .u64 ((2 ^ s*x:Nat):Int)):=IH Om Om;have H:=orI (a:=2 ^ s*x) (b:=c) (n:=c+2 ^ s*x) Om Om (by rw[Nat.or_comm]; exact I9 Y Om) Om;have B:(c+2 ^ s*x)/4294967296<2 ^ s:=by rw[a4L (by decide)];have:2 ^ s*(x+1)≤2 ^ s*4294967296:=a3X _ Om;rw[a1U,Nat.mul_one] at this;omega
  have w:(1:Nat)*1≤16777216:=by decide
  simp only[go_sem,u,atC,O,ex,em,eu,J,H,atD,cF,w];refine gT (src:=[[.int .u32 (((c+2 ^ s*x)%4294967296:Nat):Int)]]) N rfl (pG Om) fun v' H' l _=>?_;rw[pH] at l;simp only[go_sem,atE,wH,Wv,wZz i];refine aK (P++[(c+2 ^ s*x)%4294967296],(c+2 ^ s*x)/4294967296,i+1,v',H') ⟨by simp only; omega,by simp; omega,d.app fun y hy=>by simp at hy; subst hy; exact a3C _ (by decide),B,?_,l⟩ (by simp only; omega) ?_ b_
  ·simp only;have hp:4294967296 ^ P.length*(2 ^ s*x)=4294967296 ^ i*x*2 ^ n:=by rw[X,Nat.pow_add,← U];rw[a2E,Nat.mul_left_comm (4294967296 ^ i),← a2E (4294967296 ^ z),a2M (4294967296 ^ z*2 ^ s),a2E,a2M x]
   rw[jD,a1P,a1T,a3F,a2E,a3V,← a1U,Nat.mod_add_div,V,a1U,a2R,← a3V,p,hp]
  ·exact Lq
 ·have e:i=a.length:=Om;subst e;have u:¬ (a.length:Int)<(a.length:Nat):=Om;have w:(1:Nat)*1≤16777216:=by decide
  have hV:val (P++[c])=val a*2 ^ n:=by rw[jD,p,a2O]
  have M:Lim (P++[c]):=d.app fun x Z=>by simp at Z; omega
  have ec:IntKind.u32.wrap ((c:Nat):Int)=((c:Nat):Int):=by rw[cF,a2U Om]
  simp only[go_sem,u,Ww,ec,w];refine gT (src:=[[.int .u32 ((c:Nat):Int)]]) N rfl (pG Om) fun v' H' l _=>?_;rw[pH] at l;have S:=L.trimM _ M (by simp; omega);rw[hV] at S;refine yv S l rfl fun F1 H1 _ r H2 hr _=>?_;simp only[go_sem];exact amC (.inr rfl) hr rfl
def PB (a:List Nat) (n:Nat) (v:PV) (i:Nat):PF:=((((PF.nil.set 0 (aG a)).set 1 (.int .i64 n)).set 5 (v)).set 6 (.int .i64 i))
theorem Kr {C:Ctx} (L:mS C) (a:List Nat) (n:Nat) (H:Lim a) (h1:a.length≤8388608) (hn:n≤1000000000) :
  IR.wp C (aX zn.res (cD (aG (aE (val a/2 ^ n))))) (PF.args [aG a,.int .i64 n]) .nil:=by
 have ez:IntKind.i64.wrap (Int.tdiv (n:Int) 32)=((n/32:Nat):Int):=by rw[apK,XT Om]
 have em:=apX n;have eu:IntKind.u64.wrap ((n%32:Nat):Int)=((n%32:Nat):Int):=bD Om;have M:=wc n;have Q:n%32<32:=a3C _ (by decide);have hz:n/32≤1000000000:=Om;generalize ι:n/32=z at *
 generalize θ:n%32=s at *
 simp only[go_sem,IR,Ks,Kt,zn,a1K,ez];by_cases c0:a.length≤z
 ·have d:((z:Nat):Int)≥(a.length:Nat):=Om;have hq:val a/2 ^ n=0:=by refine a4X (Nat.lt_of_lt_of_le (eY H) ?_);rw[← M];exact a2X (a4Y (by decide) c0) (Nat.le_mul_of_pos_right _ (a4F (by decide)))
  simp only[go_sem,d,Ku];rw[hq,dO];exact aZ (vs:=[.aB]) (.inr rfl) .nil rfl a_ ⟨.nil 1,rfl⟩
 have d:¬ ((z:Nat):Int)≥(a.length:Nat):=Om;have hR:val a/2 ^ n=val (a.drop z)/2 ^ s:=by rw[tM H Om,← M,Nat.div_div_eq_div_mul]
 have B:Lim (a.drop z):=H.drop z;simp only[go_sem,d,Kv,Kw,ez];refine wp_loop (α:=List Nat × PV × PH) (fun t=>PB a n t.2.1 (z+t.1.length)) (fun t=>t.2.2)
  (fun t=>z+t.1.length≤a.length∧t.1=dQ t.1.length (val (a.drop z)/2 ^ s)∧bP t.2.2 1 t.2.1 (aI t.1)) (fun t=>a.length-t.1.length) ([],.aB,.nil)
  ⟨by simp; omega,rfl,.nil⟩ ?_ a_ ?_
 ·unfold PB
  (repeat' (first|exact d_|refine c_ ?_ ?_))<;>first|(simp only[go_sem,a3Z]<;>rfl)|rfl
 rintro⟨P,v,H0⟩ ⟨hP,hD,Z⟩;simp only at hP hD Z ⊢;simp only[go_sem,wn,Kx,PB];have A:Lim P:=by rw[hD]; exact lZ _ _
 by_cases R:z+P.length<a.length
 ·have p:((z+P.length:Nat):Int)<(a.length:Nat):=Om;have η:=H _ (a1N R);have β:=bL a R;have δ:P.length≤(a.drop z).length:=by rw[a3M]; omega
  have N:=tM B δ;have c:(a.drop z).drop P.length=a[z+P.length]::a.drop (z+P.length+1):=by rw[List.drop_drop,a3K R]
  generalize hx:a[z+P.length]=x at *
  have ex:IntKind.u64.wrap ((x:Nat):Int)=((x:Nat):Int):=bD Om;have γ:(1:Nat)*1≤16777216:=by decide
  have Y:IntKind.i64.wrap (((z+P.length:Nat):Int)+1)=((z+P.length+1:Nat):Int):=dC Om;have fin:∀ (t:Nat) (F:PF),t<18446744073709551616→val (a.drop z)/4294967296 ^ P.length%(4294967296*4294967296)=t→F 0=some (aG a)→F 1=some (.int .i64 n)→F 5=some v→F 6=some (.int .i64 (z+P.length:Nat))→F 7=some (.int .u64 t) →
    ∀ K:bV,(∀ v' O H2,(PB a n v' (z+(P.length+1))).le O→bP H2 1 v' (aI (P++[t/2 ^ s%4294967296]))→(P++[t/2 ^ s%4294967296])=dQ (P.length+1) (val (a.drop z)/2 ^ s)→K .normal O H2) →
    aC.wp C (.region XN) (fQ 1 (gX C (aC.wp C (.region PC)) K)) F H0:=by
   intro t F ht ε f0 f1 f5 f6 f7 K hK;have w:shift .shr .u64 (t:Int) (s:Int)=some (.int .u64 ((t/2 ^ s:Nat):Int)):=aQM Om;simp only[go_sem,XN,f5,f7,f1,em,eu,w,cF,γ];refine gT (src:=[[.int .u32 ((t/2 ^ s%4294967296:Nat):Int)]]) Z rfl (pG Om) fun v' H' E _=>?_;rw[pH] at E;simp only[go_sem,PC,f6,Y];refine hK v' _ H' ?_ E ?_
   ·unfold PB;exact Lq
   ·rw[uH,← hD];congr 2;have e:val (a.drop z)/4294967296 ^ P.length=t%4294967296+4294967296*(t/4294967296+4294967296*(val (a.drop z)/4294967296 ^ P.length/(4294967296*4294967296))):=by have:=Nat.mod_add_div (val (a.drop z)/4294967296 ^ P.length) (4294967296*4294967296);rw[ε] at this;have h2:=Nat.mod_add_div t 4294967296;rw[a1U,← a3V,h2,← a2E];exact this.symm
    have:=TB Q e;rw[this];congr 2;have h2:=Nat.mod_add_div t 4294967296;omega
  simp only[aC.wp,go_sem] at fin;simp only[go_sem,p,Ky,β,ex,Kz,Y];by_cases S:z+P.length+1<a.length
  ·have u:((z+P.length+1:Nat):Int)<(a.length:Nat):=Om;have ζ:=H _ (a1N S);have J:=bL a S;rw[a3K S] at c;generalize hy:a[z+P.length+1]=y at *
   have ey:IntKind.u64.wrap ((y:Nat):Int)=((y:Nat):Int):=bD Om;have w:shift .shl .u64 (y:Int) ((32:Nat):Int)=some (.int .u64 ((2 ^ 32*y:Nat):Int)):=IH (by decide) Om;have X:=orI (a:=x) (b:=2 ^ 32*y) (n:=x+2 ^ 32*y) Om Om (I9 Om Om) Om;simp only[go_sem,u,K0,Y,J,ey,show shift .shl .u64 (y:Int) 32=_ from w,X];refine fin (x+2 ^ 32*y) _ Om ?_ rfl rfl rfl rfl rfl _ ?_
   ·rw[← N,c];simp only[val];omega
   ·intro v' O H2 U V W;refine aK (α:=List Nat × PV × PH) (P++[(x+2 ^ 32*y)/2 ^ s%4294967296],v',H2) ⟨by simp; omega,by simpa using W,V⟩ (by simp; omega) ?_ b_;simp only[a1P,a1T];exact U
  ·have u:¬ ((z+P.length+1:Nat):Int)<(a.length:Nat):=Om;rw[a5C (l:=a) (i:=z+P.length+1) Om] at c;simp only[go_sem,u];refine fin x _ Om ?_ rfl rfl rfl rfl rfl _ ?_
   ·rw[← N,c];simp only[val];omega
   ·intro v' O H2 U V W;refine aK (α:=List Nat × PV × PH) (P++[x/2 ^ s%4294967296],v',H2) ⟨by simp; omega,by simpa using W,V⟩ (by simp; omega) ?_ b_;simp only[a1P,a1T];exact U
 ·have e:z+P.length=a.length:=Om;have p:¬ ((z+P.length:Nat):Int)<(a.length:Nat):=Om;have hV:val P=val (a.drop z)/2 ^ s:=by rw[hD];refine nM (Nat.lt_of_le_of_lt (a4I _ _) ?_);have:=eY B;rw[a3M] at this;rw[show P.length=a.length-z by omega];exact this
  have Q:=L.trim _ A Om;rw[hV,← hR] at Q;simp only[go_sem,p,wq];refine sQ Q Z rfl fun F1 H1 _=>?_;simp only[go_sem];exact aZ (.inr rfl) .nil rfl a_ ⟨.refl _,rfl⟩
structure CM (C:Ctx):Prop extends KE C where
 bits:∀ xs,Lim xs→xs.length≤35184372087808→aF C 31 [aG xs] .nil (aH (.int .i64 (cJ (val xs):Nat)))
 upM:∀ (a:List Nat) (n:Nat),Lim a→a.length≤8388608→n≤8388608→(a.length=0→val a=0)→aF C 45 [aG a,.int .i64 n] .nil (nO 1 (aI (aE (val a*2 ^ n))))
 down:∀ (a:List Nat) (n:Nat),Lim a→a.length≤8388608→n≤1000000000→aF C 40 [aG a,.int .i64 n] .nil (aH (aG (aE (val a/2 ^ n))))
def udS:Spec:=fun name vs=>match name,vs with
 | 35,[.int _ v]=>some ([],fun _=>aH (aG (aE v.toNat)))
 | 44,[x,y]=>some ([],fun _=>aH (aG (aE (val (jX x)*val (jX y)))))
 | 32,[x,.osl q _ _ _]=>some ([q],fun c r H'=>H'=c∧∀ xs,Lim xs→c q=some (.rows 1 (aI xs))→r=.int .i64 (cU (val (jX x)) (val xs)))
 | _,_=>none
theorem aDP (v:Nat):udS 35 [.int .u64 v]=some ([],fun _=>aH (aG (aE v))):=rfl
theorem asM (x y:List Nat):udS 44 [aG x,aG y]=some ([],fun _=>aH (aG (aE (val x*val y)))):=by
 show some ([],fun _=>aH (aG (aE (val (jX (aG x))*val (jX (aG y))))))=_; rw[eN,eN]
theorem avX (q:Nat) (x L:List Nat):(PH.nil.set q (.rows 1 (aI L)))=(PH.nil.set q (.rows 1 (aI L)))∧∀ xs,Lim xs→(PH.nil.set q (.rows 1 (aI L))) q=some (.rows 1 (aI xs))→(PV.int .i64 (cU (val x) (val L)))=.int .i64 (cU (val (jX (aG x))) (val xs)):=by
 refine⟨rfl,fun xs c e=>?_⟩;rw[cP] at e;have:aI L=aI xs:=(bY.rows.inj (a3T.inj e)).2;rw[NR this,eN]
def duF (n o d:Nat) (y:List Nat) (top e c:Nat) (k:Int):PF :=
 ((((((PF.nil.set 10 (.int .i64 n)).set 11 (.osl o 1 0 d)).set 12 (aG y)).set 13 (.int .u64 top)).set 14 (.osl e 1 0 c)).set 15 (.int .i64 k))
abbrev dV (X:List Nat) (Z:List (List PV)):List (List PV):=aI X++Z
theorem JM {X:List Nat} {Z:List (List PV)} {i:Nat} (h:i<X.length):(dV X Z)[i]?=some [.int .u32 ((X[i]:Nat):Int)]:=by
 rw[dV,a3Y (by rw[bU]; exact h),bL X h]
theorem yf {X:List Nat} {Z:List (List PV)} {i:Nat} (h:i<X.length) (v:Nat):(dV X Z).set i [.int .u32 (v:Int)]=dV (X.set i v) Z:=by
 rw[dV,List.set_append_left _ _ (by rw[bU]; exact h),fH]
theorem ye {X:List Nat} {Z:List (List PV)} {j m:Nat} (h:j+m≤X.length):((dV X Z).drop j).take m=aI ((X.drop j).take m):=by
 rw[dV,List.drop_append_of_le_length (by rw[bU]; omega),List.take_append_of_le_length (by rw[a3M,bU]; omega)];unfold aI;rw[← List.map_drop,← List.map_take]
theorem aRC {C:Ctx} (L:CM C) (n o p:Nat) (y:List Nat) (top l S j:Nat) (X:List Nat) (Z:List (List PV)) (Q:l≠o) (hy:Lim y) (hX:Lim X) (γ:X.length=p) (hl:p≤5000) (hj:j+(y.length+1)≤p) (B:0<val y)
  (Y:bY) (g0:Nat) (hg:val ((X.drop j).take (y.length+1))/val y≤g0) (O:g0<4294967296) (K:bV) (F:PF) (H:PH) (hF:((duF n o p y top l S j).set 17 (.int .u64 g0)).le F) (hH:((PH.nil.set o (.rows 1 (dV X Z))).set l Y).le H)
  (hK:∀ F' H',((duF n o p y top l S j).set 17 (.int .u64 (val ((X.drop j).take (y.length+1))/val y:Nat))).le F'→((PH.nil.set o (.rows 1 (dV X Z))).set l Y).le H'→K .normal F' H') :
  aC.wp C (.block 4 (.loop tY)) K F H:=by
 have d:¬ o=l:=fun h=>Q h.symm;have e:((X.drop j).take (y.length+1)).length=y.length+1:=by rw[a2A,a3M]; omega
 have u:Lim ((X.drop j).take (y.length+1)):=(hX.drop _).take _;have w:=ye (X:=X) (Z:=Z) (j:=j) (m:=y.length+1) Om;have x:j+(y.length+1)≤(dV X Z).length:=by rw[dV,a1P,bU]; omega
 have M:aI ((X.drop j).take (y.length+1))≠[]:=fun h=>by have:=congrArg List.length h;rw[bU,e] at this;simp at this
 generalize hW:(X.drop j).take (y.length+1)=W at *
 generalize A:val W/val y=J at *
 simp only[go_sem];refine wp_loop (α:=Nat) (fun g=>(duF n o p y top l S j).set 17 (.int .u64 g)) (fun _=>(PH.nil.set o (.rows 1 (dV X Z))).set l Y) (fun g=>J≤g∧g<4294967296) (fun g=>g) g0 ⟨hg,O⟩ hF hH ?_;rintro g ⟨β,hlt⟩;have e1:IntKind.i64.wrap ((j:Int)+(y.length:Int))=((j+y.length:Nat):Int):=fX Om;have e2:IntKind.i64.wrap (((j+y.length:Nat):Int)+1)=((j+y.length+1:Nat):Int):=dC Om;have b1:(j:Int)≤((j+y.length+1:Nat):Int):=Om;have b2:((j+y.length+1:Nat):Int)≤(p:Nat):=Om;have b3:j+y.length+1-j=y.length+1:=Om;have mk:=L.make g Om;have tm:=L.times y (aE g) hy (aU _) Om (by have E:nl g≤1:=jB (by rw[Nat.pow_one]; exact hlt);rw[aW]; omega)
 rw[aT] at tm;have R:(aE (val y*g)).length≤35184372087808:=by have E:nl g≤1:=jB (by rw[Nat.pow_one]; exact hlt);have h2:=jL (a:=val y) (b:=g) (fG hy) E;rw[aW]; omega
 have cm:=L.cmp (aE (val y*g)) W (aU _) u R Om;rw[aT] at cm;simp only[go_sem,tY];refine bX .nil udS a_ ?_;simp only[go_sem,TL,duF];refine cK (aDP g) mk Sq a_ ?_;simp only[go_sem];have tS:=asM y (aE g);rw[aT] at tS;refine cK tS tm Sq a_ ?_;simp only[go_sem,a1K,e1,e2,b1,b2,b3];refine sP (src:=aI W) ?_ ?_ (fun h=>absurd h M) fun _ o' i=>?_
 ·simp only[go_sem,d,x,w]
 ·unfold roomFor;rw[bU,e];simp only[maxLen]; omega
 refine⟨a_,?_⟩;rw[bU,e];have n1:¬ o'=l:=(gZ.1 i).1;refine awG (o:=o') (s:=1) (rs:=aI W) (vs:=[aG (aE (val y*g)),.osl o' 1 0 (y.length+1)]) (v:=.int .i64 (cU (val y*g) (val W))) rfl (.int _ _) Sq ?_ ?_ ?_ Sq a_ ?_
 ·rw[a2Y,a2Y,a3Q,qY (by rw[bU,e]; exact a1O _),a2C (by rw[bU,e]; exact a1O _)];exact cm
 ·have:=avX o' (aE (val y*g)) W;rw[aT] at this;exact this
 ·rintro r H' ⟨E,h2⟩;have:=h2 W u (by rw[cP]);rw[eN,aT] at this;exact⟨this,E⟩
 simp only[go_sem];by_cases c:val W<val y*g
 ·have N:cU (val y*g) (val W)=1:=by unfold cU;rw[if_neg Om,if_pos c]
  have hq:J<g:=by rw[← A]; exact (a4L B).2 (by rw[a2M]; exact c)
  have ew:IntKind.u64.wrap ((g:Int)-1)=((g-1:Nat):Int):=by rw[wrap_u64 Om Om]; omega
  simp only[go_sem,N,show (1:Int)>0 by decide,TM,ew];refine aK (g-1) ⟨by omega,by omega⟩ Om ?_ ?_
  ·exact Lq
  ·refine PH.aL (PH.aL a_ ?_) ?_
   ·have U:¬ o=o':=fun h=>by subst h;rw[aV,if_neg d,cP] at i;cases i
    simp only[go_sem,U,d]
   ·have V:¬ l=o':=fun h=>n1 h.symm;simp only[go_sem,V]
 ·have N:¬ cU (val y*g) (val W)>0:=by unfold cU;rw[if_neg c];split<;>decide
  have hq:g=J:=by
   have:g≤J:=by rw[← A]; exact (Nat.le_div_iff_mul_le B).2 (by rw[a2M]; omega)
   omega
  simp only[go_sem,N];refine hK _ _ ?_ ?_
  ·unfold duF
   (repeat' (first|exact d_|refine c_ ?_ ?_))<;>first|(simp only[go_sem,← hq]<;>rfl)|rfl
  ·refine PH.aL (PH.aL a_ ?_) ?_
   ·have U:¬ o=o':=fun h=>by subst h;rw[aV,if_neg d,cP] at i;cases i
    simp only[go_sem,U,d]
   ·have V:¬ l=o':=fun h=>n1 h.symm;simp only[go_sem,V]
theorem aIQ (R k:Nat) (h:k<nl R):∃ i:k<(aE R).length,(aE R)[k]=R/4294967296 ^ k%4294967296:=by
 have c:k<(aE R).length:=by rw[aW]; exact h
 refine⟨c,?_⟩;have d:=tM (aU R) (Nat.le_of_lt c);rw[aT,a3K c] at d;have e:=aU R _ (a1N c);simp only[val] at d;rw[← d,Nat.add_mul_mod_self_left,a2U e]
theorem axP (R k:Nat) (h:nl R≤k):R/4294967296 ^ k%4294967296=0:=by
 rw[a4X ((iJ R k).1 h)]
theorem aKI {A P W Z:List Nat} {i:Nat} (c:P.length=i) (hi:i<W.length) (v:Nat):(A++(P++W.drop i)++Z).set (A.length+i) v=A++((P++[v])++W.drop (i+1))++Z :=
 NR (by rw[← fH]; exact DF c hi v)
theorem aUL {C:Ctx} (n o x:Nat) (y:List Nat) (top u S j:Nat) (X:List Nat) (Z:List (List PV)) (E:u≠o) (O:X.length=x) (hl:x≤5000) (hj:j+(y.length+1)≤x)
  (U:bY) (g R:Nat) (K:bV) (F:PF) (H:PH) (hF:((((duF n o x y top u S j).set 17 (.int .u64 g)).set 18 (aG (aE R))).set 19 (.int .i64 0)).le F) (hH:((PH.nil.set o (.rows 1 (dV X Z))).set u U).le H)
  (hK:∀ V H',((duF n o x y top u S j).set 17 (.int .u64 g)).le V→((PH.nil.set o (.rows 1 (dV (X.take j++dQ (y.length+1) R++X.drop (j+(y.length+1))) Z))).set u U).le H'→K .normal V H') :
  aC.wp C (.block 6 (.loop tZ)) K F H:=by
 have l:¬ o=u:=fun h=>E h.symm;have hA:(X.take j).length=j:=by rw[a2A]; omega
 have ε:((X.drop j).take (y.length+1)).length=y.length+1:=by rw[a2A,a3M]; omega
 have θ:(X.drop (j+(y.length+1))).length=x-(j+(y.length+1)):=by rw[a3M,O]
 have w:X.take j++(X.drop j).take (y.length+1)++X.drop (j+(y.length+1))=X:=by rw[a2T,← List.drop_drop,a4H,a4H]
 rw[← w] at hH;generalize γ:X.take j=A at *
 generalize δ:(X.drop j).take (y.length+1)=W at *
 generalize η:X.drop (j+(y.length+1))=p at *
 simp only[go_sem];refine wp_loop (α:=List Nat) (fun P=>(((duF n o x y top u S j).set 17 (.int .u64 g)).set 18 (aG (aE R))).set 19 (.int .i64 P.length)) (fun P=>(PH.nil.set o (.rows 1 (dV (A++(P++W.drop P.length)++p) Z))).set u U)
  (fun P=>P.length≤y.length+1∧P=dQ P.length R) (fun P=>y.length+1-P.length) [] ⟨a1X _,rfl⟩ hF (by simpa using hH) ?_
 rintro P ⟨hP,hD⟩;simp only[go_sem,tZ,TN,duF];by_cases c:P.length<y.length+1
 ·have M:(P.length:Int)≤(y.length:Nat):=Om;have Y:IntKind.i64.wrap ((j:Int)+(P.length:Int))=((j+P.length:Nat):Int):=fX Om;have β:(A++(P++W.drop P.length)++p).length=x:=by simp only[a1P,a3M]; omega
  have hi:j+P.length<(A++(P++W.drop P.length)++p).length:=Om;have b1:((j+P.length:Nat):Int)<(x:Nat):=Om;have r1:=JM (Z:=Z) hi;have s1:=yf (Z:=Z) hi 0;have J:j+P.length<((A++(P++W.drop P.length)++p).set (j+P.length) 0).length:=by rw[a3U]; exact hi
  have d:=fun v=>aKI (A:=A) (P:=P) (W:=W) (Z:=p) (i:=P.length) rfl Om v;rw[hA] at d;generalize ζ:A++(P++W.drop P.length)++p=XX at *
  have r2:(dV (A++((P++[0])++W.drop (P.length+1))++p) Z)[j+P.length]?=some [.int .u32 ((0:Nat):Int)]:=by rw[← d 0,JM J,List.getElem_set_self]
  have s2:∀ v,(dV (A++((P++[0])++W.drop (P.length+1))++p) Z).set (j+P.length) [.int .u32 ((v:Nat):Int)]=dV (A++((P++[v])++W.drop (P.length+1))++p) Z:=by intro v;rw[← d 0,yf J,List.set_set,d]
  have a0V:=uH P.length R;rw[← hD] at a0V;have ew:IntKind.i64.wrap ((P.length:Int)+1)=((P.length+1:Nat):Int):=dC Om;simp only[go_sem,M,TO,Y,b1,l,r1,show ([PV.int .u32 (0:Int)])=[PV.int .u32 ((0:Nat):Int)] from rfl,s1,TP,aW];by_cases c2:P.length<nl R
  ·have B:(P.length:Int)<(nl R:Nat):=Om;obtain⟨N,Q⟩:=aIQ R P.length c2;have hr:=bL (aE R) N;rw[Q] at hr;simp only[go_sem,B,TQ,hr,Y,b1,l,r2,s2,List.set_set,d,BW,ew];refine aK (P++[R/4294967296 ^ P.length%4294967296]) ⟨by simp; omega,by rw[a1P,a1T]; exact a0V.symm⟩ (by simp; omega) ?_ ?_
   ·rw[a1P,a1T];exact Lq
   ·rw[a1P,a1T];refine PH.aL (PH.aL a_ ?_) ?_<;>simp only[go_sem,l,show ¬ u=o from E]
  ·have B:¬ (P.length:Int)<(nl R:Nat):=Om;have Q:=axP R P.length Om;rw[Q] at a0V;simp only[go_sem,B,d,BW,ew];refine aK (P++[0]) ⟨by simp; omega,by rw[a1P,a1T]; exact a0V.symm⟩ (by simp; omega) ?_ ?_
   ·rw[a1P,a1T];exact Lq
   ·rw[a1P,a1T];refine PH.aL (PH.aL a_ ?_) ?_<;>simp only[go_sem,l,show ¬ u=o from E]
 ·have M:¬ (P.length:Int)≤(y.length:Nat):=Om;have e:P.length=y.length+1:=Om;simp only[go_sem,M];refine hK _ _ (by unfold duF; exact Lq) ?_;have h2:A++dQ (y.length+1) R++p=A++(P++W.drop P.length)++p:=by rw[a5C Om,a3J,← e,← hD]
  rw[h2];exact b_
theorem axH {y W:List Nat} {m:Nat} (B:Lim y) (hW:Lim W) (x:y.length=m+1) (w:W.length=m+2) (A:0<y[m]):val W/val y≤(4294967296*W[m+1]+W[m])/y[m]:=by
 have p:=cA y (Om:m<y.length);rw[a2C Om] at p;have d:=cA W (Om:m+1<W.length);rw[a2C Om,cA W (Om:m<W.length)] at d;have i:=eY (hW.take m);rw[a2A,a3W Om] at i;have l:0<4294967296 ^ m:=a4F (by decide);have u:4294967296 ^ m*y[m]≤val y:=Om;have c:0<4294967296 ^ m*y[m]:=Nat.mul_pos l A;have e:val W=val (W.take m)+4294967296 ^ m*(4294967296*W[m+1]+W[m]):=by rw[d,a3F,a1U,a2E]; omega
 refine a2X (Nat.div_le_div_left u c) ?_;rw[← Nat.div_div_eq_div_mul,e,Nat.add_mul_div_left _ _ l,a4X i,a2H];exact a1O _
theorem asN {C:Ctx} (L:CM C) (U0 n o i d e m:Nat) (y z:List Nat) (N:e≠o) (hy:Lim y) (E:y.length=m+1) (ht:0<y[m]) (d':i=d+(m+1)) (R:i≤5000) (X:List Nat) (B:oF U0 (val y) (m+1) i d d X (a1M d 0)) (K:bV) (F:PF) (H:PH)
  (hF:(duF n o i y (y[m]) e d ((d:Int)-1)).le F) (hH:((PH.nil.set o (.rows 1 (dV X (aI z)))).set e (.rows 1 (aI (a1M d 0)))).le H)
  (hK:∀ X' Q' F' H',oF U0 (val y) (m+1) i d 0 X' Q'→(duF n o i y (y[m]) e d (-1)).le F'→((PH.nil.set o (.rows 1 (dV X' (aI z)))).set e (.rows 1 (aI Q'))).le H'→K .normal F' H') :
  aC.wp C (.block 2 (.loop uA)) K F H:=by
 have l:¬ o=e:=fun h=>N h.symm;have m':¬ e=o:=N;have hV:val y<4294967296 ^ (m+1):=by have:=eY hy; rw[E] at this; exact this
 have κ:0<val y:=by have h1:=cA y (Om:m<y.length);rw[a2C Om] at h1;have:0<4294967296 ^ m*y[m]:=Nat.mul_pos (a4F (by decide)) ht;omega
 have s':=hy _ (a1N (Om:m<y.length));generalize htop:y[m]=top at *
 simp only[go_sem];refine wp_loop (α:=Nat × List Nat × List Nat) (fun t=>duF n o i y top e d ((t.1:Int)-1)) (fun t=>(PH.nil.set o (.rows 1 (dV t.2.1 (aI z)))).set e (.rows 1 (aI t.2.2)))
  (fun t=>t.1≤d∧oF U0 (val y) (m+1) i d t.1 t.2.1 t.2.2) (fun t=>t.1) (d,X,a1M d 0) ⟨a1O _,B⟩ hF hH ?_
 rintro⟨k,X,Q⟩ ⟨hk,B⟩;simp only at hk B;simp only[go_sem,uA,TG,duF];by_cases h0:0<k
 ·obtain⟨j,rfl⟩:∃ j,k=j+1:=⟨k-1,by omega⟩;have hz:((j+1:Nat):Int)-1=(j:Int):=Om;have Ω:(j:Int)≥0:=Om;have dst:=Cc B hV Om d';rw[show m+1+1=m+2 from rfl] at dst;obtain⟨hlt,Γ⟩:=dst;have μ:=B.lu';have n':=B.lq';have M:((X.drop j).take (m+2)).length=m+2:=by rw[a2A,a3M]; omega
  have Y:Lim ((X.drop j).take (m+2)):=(B.limU.drop _).take _;have q':m+1<((X.drop j).take (m+2)).length:=Om;have p':m<((X.drop j).take (m+2)).length:=Om;have a1:j+(m+1)<X.length:=Om;have a0:j+m<X.length:=Om;have w1:((X.drop j).take (m+2))[m+1]=X[j+(m+1)]:=by simp
  have w0:((X.drop j).take (m+2))[m]=X[j+m]:=by simp
  have ξ:=axH hy Y E M (by rw[htop]; exact ht);rw[w1,w0,htop] at ξ;have r1:=JM (Z:=aI z) a1;have r0:=JM (Z:=aI z) a0;have l1:=B.limU _ (a1N a1);have l0:=B.limU _ (a1N a0);generalize u':X[j+(m+1)]=w at *
  generalize t':X[j+m]=A at *
  have e1:IntKind.i64.wrap ((j:Int)+(y.length:Int))=((j+(m+1):Nat):Int):=by rw[E]; exact fX Om
  have e0:IntKind.i64.wrap (((j+(m+1):Nat):Int)-1)=((j+m:Nat):Int):=by rw[wrap_i64 Om Om]; omega
  have b1:((j+(m+1):Nat):Int)<(i:Nat):=Om;have b0:((j+m:Nat):Int)<(i:Nat):=Om;have ψ:IntKind.u64.wrap ((w:Nat):Int)=((w:Nat):Int):=bD Om;have χ:IntKind.u64.wrap ((A:Nat):Int)=((A:Nat):Int):=bD Om;have ε:shift .shl .u64 (w:Int) 32=some (.int .u64 ((2 ^ 32*w:Nat):Int)):=IH (s:=32) Om Om;have φ:(2:Nat) ^ 32=4294967296:=by decide
  have γ:=orI (a:=2 ^ 32*w) (b:=A) (n:=2 ^ 32*w+A) Om Om (Nat.two_pow_add_eq_or_of_lt Om w).symm Om;rw[φ] at ε γ;have Λ:¬ ((top:Nat):Int)=0:=Om;have σ:(4294967296*w+A)/top<18446744073709551616:=Nat.lt_of_le_of_lt (a4I _ _) Om;have δ:IntKind.u64.wrap (Int.tdiv ((4294967296*w+A:Nat):Int) ((top:Nat):Int))=(((4294967296*w+A)/top:Nat):Int):=by rw[show Int.tdiv ((4294967296*w+A:Nat):Int) ((top:Nat):Int)=(((4294967296*w+A)/top:Nat):Int) from rfl];exact bD σ
  have τ:val ((X.drop j).take (m+2))/val y<4294967296:=(a4L κ).2 (by rw[a2M]; exact hlt);have ν:=ye (X:=X) (Z:=aI z) (j:=j) (m:=m+2) Om;have ο:j+(m+2)≤(dV X (aI z)).length:=by rw[dV,a1P,bU]; omega
  have β:val ((X.drop j).take (m+2))-val y*(val ((X.drop j).take (m+2))/val y)=val ((X.drop j).take (m+2))%val y:=by have:=a4W (val ((X.drop j).take (m+2))) (val y);omega
  have x:val y*(val ((X.drop j).take (m+2))/val y)≤val ((X.drop j).take (m+2)):=Nat.mul_div_le _ _;clear w1 w0;have gu:=fun g0=>aRC (C:=C) L n o i y top e d j X (aI z) N hy B.limU μ R Om κ (.rows 1 (aI Q)) g0;rw[E,show m+1+1=m+2 from rfl] at gu;generalize hW:(X.drop j).take (m+2)=W at *
  generalize r':val W/val y=J at *
  have Δ:aI W≠[]:=fun h=>by have:=congrArg List.length h;rw[bU,M] at this;simp at this
  have tail:∀ (g0:Nat) (F:PF) (H:PH),J≤g0→g0<4294967296→((duF n o i y top e d j).set 17 (.int .u64 g0)).le F→((PH.nil.set o (.rows 1 (dV X (aI z)))).set e (.rows 1 (aI Q))).le H →
    aC.wp C (.seq (.block 4 (.loop tY)) (.seq (.region BU) (.seq (.seq (.region BV) (.block 6 (.loop tZ))) (.region BY)))) (fQ 3 (gX C (aC.wp C (.region BZ)) (jS (fun (t:Nat × List Nat × List Nat)=>duF n o i y top e d ((t.1:Int)-1)) (fun t=>(PH.nil.set o (.rows 1 (dV t.2.1 (aI z)))).set e (.rows 1 (aI t.2.2))) (fun t=>t.1≤d∧oF U0 (val y) (m+1) i d t.1 t.2.1 t.2.2) (fun t=>t.1) (j+1) (fQ 2 K)))) F H:=by
   intro g0 F H hg Ψ hF hH;have gu:=gu g0 hg Ψ;simp only[go_sem] at gu;simp only[go_sem];refine gu _ F H hF hH ?_;intro S H1 p θ;have f11:S 11=some (.osl o 1 0 i):=p 11 _ (by unfold duF; simp only[go_sem]);have V:S 12=some (aG y):=p 12 _ (by unfold duF; simp only[go_sem]);have ζ:S 15=some (.int .i64 j):=p 15 _ (by unfold duF; simp only[go_sem]);have η:S 17=some (.int .u64 (J:Nat)):=p 17 _ (by unfold duF; simp only[go_sem]);have ω:S 10=some (.int .i64 n):=p 10 _ (by unfold duF; simp only[go_sem]);have f13:S 13=some (.int .u64 top):=p 13 _ (by unfold duF; simp only[go_sem]);have f14:S 14=some (.osl e 1 0 d):=p 14 _ (by unfold duF; simp only[go_sem]);have ho:H1 o=some (.rows 1 (dV X (aI z))):=θ o _ (by simp only[go_sem,l]);have ρ:H1 e=some (.rows 1 (aI Q)):=θ e _ Sq;have b3:(j:Int)≤((j+(m+1)+1:Nat):Int):=Om;have b4:((j+(m+1)+1:Nat):Int)≤(i:Nat):=Om;have b5:j+(m+1)+1-j=m+2:=Om;have e2:IntKind.i64.wrap (((j+(m+1):Nat):Int)+1)=((j+(m+1)+1:Nat):Int):=dC Om;simp only[go_sem,BU,f11,ζ,V,a1K,e1,e2,b3,b4,b5];refine sP (src:=aI W) ?_ ?_ (fun h=>absurd h Δ) fun _ o' O=>?_
   ·simp only[go_sem,ho,ο,ν]
   ·unfold roomFor;rw[bU,M];simp only[maxLen]; omega
   rw[bU,M];have n1:¬ e=o':=fun h=>by subst h; rw[ρ] at O; cases O
   have n2:¬ o=o':=fun h=>by subst h; rw[ho] at O; cases O
   have nq:nl J≤1:=jB (by rw[Nat.pow_one]; exact τ);have tm:=L.times y (aE J) hy (aU _) Om (by rw[aW]; omega);rw[aT] at tm;have nW:=fG Y;have mn:=L.minus W (aE (val y*J)) Y (aU _) (by rw[aT]; exact x) (by rw[aW]; exact a2X (fE x) nW) Om;rw[aT,β] at mn;have Θ:(aI W).take (m+2)=aI W:=a2C (by rw[bU]; omega);simp only[go_sem,η];refine aA (L.make J Om) Sq ?_;simp only[go_sem,V];refine aA tm Sq ?_;simp only[go_sem];refine qC (o:=o') (s:=1) (rs:=aI W) mn Sq (by simp only[go_sem,show m+2≤W.length by omega,Θ]) ?_;simp only[go_sem,BV];have Φ:(dV X (aI z)).map (fun r=>r.map (PV.cV o' 1 (aI W)))=dV X (aI z):=by
    have:dV X (aI z)=aI (X++z):=by simp[dV,aI]
    rw[this]; exact qX _ _ _ _
   have Ξ:(aI Q).map (fun r=>r.map (PV.cV o' 1 (aI W)))=aI Q:=qX _ _ _ _;have ur:=aUL (C:=C) n o i y top e d j X (aI z) N μ R Om (.rows 1 (aI Q)) J (val W%val y);rw[E,show m+1+1=m+2 from rfl] at ur;simp only[go_sem] at ur;refine ur _ _ _ ?_ ?_ ?_
   ·unfold duF
    (repeat' (first|exact d_|refine c_ ?_ ?_))<;>first|(simp only[go_sem,ω,f11,V,f13,f14,ζ,η,n1,n2]<;>rfl)|rfl
   ·refine PH.aL (PH.aL a_ ?_) ?_
    ·simp only[go_sem,l,n2,ho,bY.frz,Φ]
    ·simp only[go_sem,n1,ρ,bY.frz,Ξ]
   intro U H3 u ι;have g':U 10=some (.int .i64 n):=u 10 _ (by unfold duF; simp only[go_sem]);have h':U 11=some (.osl o 1 0 i):=u 11 _ (by unfold duF; simp only[go_sem]);have i':U 12=some (aG y):=u 12 _ (by unfold duF; simp only[go_sem]);have j':U 13=some (.int .u64 top):=u 13 _ (by unfold duF; simp only[go_sem]);have υ:U 14=some (.osl e 1 0 d):=u 14 _ (by unfold duF; simp only[go_sem]);have k':U 15=some (.int .i64 j):=u 15 _ (by unfold duF; simp only[go_sem]);have l':U 17=some (.int .u64 J):=u 17 _ (by unfold duF; simp only[go_sem]);have e':H3 o=some (.rows 1 (dV (X.take j++dQ (m+2) (val W%val y)++X.drop (j+(m+2))) (aI z))):=ι o _ (by simp only[go_sem,l]);have f':H3 e=some (.rows 1 (aI Q)):=ι e _ Sq;have b':j<Q.length:=Om;have rq:=bL Q b';have a':(j:Int)<(d:Nat):=Om;have sq:=fH Q j J;have ec:IntKind.u32.wrap ((J:Nat):Int)=((J:Nat):Int):=by rw[cF,a2U τ]
   have ej:IntKind.i64.wrap ((j:Int)-1)=(j:Int)-1:=wrap_i64 Om Om;simp only[go_sem,BY,υ,k',l',a',f',rq,ec,sq,BZ,ej];refine aK (α:=Nat × List Nat × List Nat) (j,_,_) ⟨by simp only; omega,Γ⟩ (by simp only; omega) ?_ ?_
   ·unfold duF
    (repeat' (first|exact d_|refine c_ ?_ ?_))<;>first|(simp only[go_sem,g',h',i',j',υ]<;>rfl)|rfl
   ·refine PH.aL (PH.aL a_ ?_) ?_
    ·simp only[go_sem,l,e']
    ·simp only[go_sem]
  simp only[aC.wp,go_sem] at tail;simp only[go_sem,hz,Ω];refine bX .nil eH a_ ?_;simp only[go_sem,TH,e1,e0,b1,b0,l,r1,r0,ψ,χ,ε,γ,TI,Λ,δ,TJ];by_cases c:(4294967296*w+A)/top>4294967295
  ·have c':(((4294967296*w+A)/top:Nat):Int)>4294967295:=Om;simp only[go_sem,c',TK];exact tail 4294967295 _ _ Om (by decide) (by unfold duF; exact Lq) b_
  ·have c':¬ (((4294967296*w+A)/top:Nat):Int)>4294967295:=Om;simp only[go_sem,c'];exact tail _ _ _ ξ Om (by unfold duF; exact Lq) b_
 ·have:k=0:=Om;subst this;have hz:¬ ((0:Nat):Int)-1≥0:=by decide
  simp only[go_sem,hz];refine hK X Q _ _ B ?_ b_;unfold duF
  (repeat' (first|exact d_|refine c_ ?_ ?_))<;>first|(simp only[go_sem,show ((0:Nat):Int)-1=-1 from rfl]<;>rfl)|rfl
def aDO (a:List Nat) (d q k r:Nat):PF:=(((((PF.nil.set 0 (aG a)).set 1 (aG [d])).set 6 (.osl q 1 0 a.length)).set 7 (.int .u64 r)).set 8 (.int .i64 ((k:Int)-1)))
theorem adX {C:Ctx} (L:CM C) (a:List Nat) (d:Nat) (ha:Lim a) (i:0<d) (hd:d<4294967296) (h1:a.length≤1000) (F:PF) (f0:F 0=some (aG a)) (f1:F 1=some (aG [d])) :
  aC.wp C (.seq (.region IN) (.seq (.region IP) (.seq (.seq (.region IQ) (.block 0 (.loop BO))) (.seq (.region BP) .ret)))) (aX [.tmp 4,.tmp 5] (cD (oJ (val a) d))) F .nil:=by
 have W:(a.length:Int)*((4:Nat):Int)≤140737488355328:=Om;have X:(a.length:Int)≤9223372036854775807:=Om;have hz:a1M a.length [PV.int .u32 0]=aI (a1M a.length 0++[]):=by simp[aI]
 simp only[go_sem,IN,f0,a1K,W,X,hz];refine aQ fun o ho=>?_;simp only[go_sem,IP,IQ,f0,a1K];refine wp_loop (α:=Nat × List Nat × Nat) (fun t=>aDO a d o t.1 t.2.2) (fun t=>PH.nil.set o (.rows 1 (aI (a1M t.1 0++t.2.1))))
  (fun t=>t.1+t.2.1.length=a.length∧Lim t.2.1∧t.2.2<d∧val t.2.1*d+t.2.2=val (a.drop t.1)) (fun t=>t.1) (a.length,[],0) ⟨by simp,by simp[Lim],i,by simp[val]⟩ ?_ ?_ ?_
 ·unfold aDO
  (repeat' (first|exact d_|refine c_ ?_ ?_))<;>first|(simp only[go_sem,f0,f1,wrap_i64 (Om:-9223372036854775808≤(a.length:Int)-1) (Om:(a.length:Int)-1≤9223372036854775807)]<;>rfl)|rfl
 ·exact PH.aL a_ Sq
 rintro⟨k,S,r⟩ ⟨hk,e,M,c⟩;simp only at hk e M c;simp only[go_sem,BO,i4,aDO];by_cases h0:0<k
 ·obtain⟨m,rfl⟩:∃ m,k=m+1:=⟨k-1,by omega⟩;have u:((m+1:Nat):Int)-1=(m:Int):=Om;have U:(m:Int)≥0:=Om;have p:m<a.length:=Om;have hlt:(m:Int)<(a.length:Nat):=Om;have β:=ha _ (a1N p);have l:val (a.drop m)=a[m]+4294967296*val (a.drop (m+1)):=by rw[a3K p]; rfl
  have Q:=bL a p;generalize hx:a[m]=x at *
  have ex:IntKind.u64.wrap ((x:Nat):Int)=((x:Nat):Int):=bD Om;have ed:IntKind.u64.wrap ((d:Nat):Int)=((d:Nat):Int):=bD Om;have E:shift .shl .u64 (r:Int) 32=some (.int .u64 ((2 ^ 32*r:Nat):Int)):=IH (s:=32) Om Om;have N:(2:Nat) ^ 32=4294967296:=by decide
  have w:=orI (a:=2 ^ 32*r) (b:=x) (n:=2 ^ 32*r+x) Om Om (Nat.two_pow_add_eq_or_of_lt Om r).symm Om;rw[N] at E w;have K:(4294967296*r+x)/d<4294967296:=by rw[a4L i];have:4294967296*(r+1)≤4294967296*d:=a3X _ M;omega
  have R:¬ ((d:Nat):Int)=0:=Om;have A:IntKind.u64.wrap (Int.tdiv ((4294967296*r+x:Nat):Int) ((d:Nat):Int))=(((4294967296*r+x)/d:Nat):Int):=by rw[show Int.tdiv ((4294967296*r+x:Nat):Int) ((d:Nat):Int)=(((4294967296*r+x)/d:Nat):Int) from rfl];exact bD Om
  have B:Int.tmod ((4294967296*r+x:Nat):Int) ((d:Nat):Int)=(((4294967296*r+x)%d:Nat):Int):=rfl;have Z:IntKind.u32.wrap (((4294967296*r+x)/d:Nat):Int)=(((4294967296*r+x)/d:Nat):Int):=by rw[cF,a2U K]
  have H:a1M (m+1) 0++S=a1M m 0++(0::S):=by rw[List.replicate_succ',a2T]; rfl
  have V:(aI (a1M m 0++(0::S)))[m]?=some [.int .u32 ((0:Nat):Int)]:=by rw[bL _ (by simp)]; simp
  have J:(aI (a1M m 0++(0::S))).set m [.int .u32 (((4294967296*r+x)/d:Nat):Int)]=aI (a1M m 0++(((4294967296*r+x)/d)::S)):=by rw[fH,a4P _ _ (by simp)]; simp
  simp only[go_sem,u,U,i5,E,Q,ex,w,i6,ed,R,A,Z,hlt,H,V,J,TC,B,TD];refine aK (m,((4294967296*r+x)/d)::S,(4294967296*r+x)%d) ⟨by simp only[a3E]; omega,fun y hy=>?_,a3C _ i,?_⟩ (by simp only; omega) ?_ (PH.aL a_ Sq)
  ·rw[a1R] at hy;rcases hy with rfl | hy
   ·exact K
   ·exact e y hy
  ·simp only[val];rw[l,← c,a2R,a1U,a2E];have:=a4W (4294967296*r+x) d;rw[a2M d] at this;omega
  ·(repeat' (first|exact d_|refine c_ ?_ ?_))<;>first|(simp only[go_sem,wrap_i64 (Om:-9223372036854775808≤(m:Int)-1) (Om:(m:Int)-1≤9223372036854775807)]<;>rfl)|rfl
 ·have:k=0:=Om;subst this;have u:¬ ((0:Nat):Int)-1≥0:=by decide
  rw[a2S] at c;have hS:S.length=a.length:=Om;have K:val S=val a/d:=by rw[← c,a2M,Nat.mul_add_div i,a4X M,a3S]
  have Y:r=val a%d:=by rw[← c,a2M,Nat.mul_add_mod,a2U M]
  have γ:a1M 0 0++S=S:=by simp
  have hl:=L.trim S e Om;have O:(aI S).take a.length=aI S:=a2C (by rw[bU]; omega);simp only[go_sem,u,BP,List.nil_append];refine qC (o:=o) (s:=1) (rs:=aI S) hl Sq (by simp only[go_sem,O,show a.length≤S.length by omega]) ?_;simp only[go_sem];refine aA (L.make r Om) Sq ?_;simp only[go_sem];refine aZ (vs:=[aG (aE (val S)),aG (aE r)]) (.inr rfl) .nil Ev a_ ⟨?_,rfl⟩;rw[K,Y];exact .refl _
theorem aGL {B m:Nat} (h:nl B=m+1):32*m<cJ B∧cJ B≤32*(m+1):=by
 refine⟨?_,(jE B (m+1)).2 Om⟩;rcases a2D (32*m) (cJ B) with h1 | h1
 ·exact h1
 ·have:=(jE B m).1 h1;omega
theorem aGM {B:Nat} (h:B≠0):2 ^ (cJ B-1)≤B:=by
 rcases a2D B (2 ^ (cJ B-1)) with h1 | h1
 ·have c:=(lH B _).2 h1;have d:cJ B≠0:=fun e=>h (jN.1 e);omega
 ·exact h1
theorem iv {C:Ctx} (L:CM C) (A B:Nat) (hB:B≠0) (hA:nl A≤512) (Ξ:nl B≤512) :
  yH.wp C (aX RD.res (cD (oJ A B))) (PF.args [aG (aE A),aG (aE B)]) .nil:=by
 have O:=aU A;have LB:=aU B;have vA:=aT A;have vB:=aT B;have lA:(aE A).length=nl A:=rfl;have lB:(aE B).length=nl B:=rfl;simp only[go_sem,yH,iw,ix,RD];refine aA (L.cmp _ _ O LB Om Om) rfl ?_;rw[vA,vB];by_cases c1:A<B
 ·have hc:cU A B<0:=by simp[cU,c1]
  simp only[go_sem,hc,iy];refine aA (L.trim _ O Om) rfl ?_;rw[vA];simp only[go_sem];refine aZ (vs:=[.aB,aG (aE A)]) (.inr rfl) .nil rfl a_ ⟨?_,rfl⟩;rw[oJ,a4X c1,a2U c1,dO];exact CoL.tup (CoL.cons (.nil 1) (CoL.cons (.refl _) .nil))
 have hc:¬ cU A B<0:=by unfold cU;rw[if_neg c1];split<;>decide
 have ρ:0<B:=a4A hB;have c':nl B≠0:=fun h=>hB (gE.1 h);simp only[go_sem,hc,iz,a1K,lB];by_cases c2:nl B=1
 ·have R:B<4294967296:=by have:=(iJ B 1).1 Om; simpa using this
  have χ:aE B=[B]:=nI hB R;have sh:=adX (C:=C) L (aE A) B O ρ R Om;rw[vA] at sh;simp only[aC.wp,go_sem] at sh;simp only[go_sem,bN (Om:((nl B:Nat):Int)=1)];exact sh _ rfl (by simp only[go_sem,χ])
 obtain⟨m,hm⟩:∃ m,nl B=m+1:=⟨nl B-1,by omega⟩;have b':1≤m:=Om;obtain⟨Ω,α⟩:=aGL hm;obtain⟨n,hn⟩:∃ n,n+cJ B=32*(m+1):=⟨32*(m+1)-cJ B,by omega⟩;have γ:n<32:=Om;have J:0<2 ^ n:=a4F (by decide);have U:B<2 ^ cJ B:=(lH B _).1 (a1O _);have S:=aGM hB;have W:B*2 ^ n<4294967296 ^ (m+1):=by have:B*2 ^ n<2 ^ cJ B*2 ^ n:=Nat.mul_lt_mul_of_pos_right U J;rw[← Nat.pow_add,show cJ B+n=32*(m+1) by omega,Nat.pow_mul] at this;exact this
 have Θ:4294967296 ^ m*2147483648≤B*2 ^ n:=by have:2 ^ (cJ B-1)*2 ^ n≤B*2 ^ n:=a2Q _ S;rw[← Nat.pow_add,show cJ B-1+n=32*m+31 by omega,Nat.pow_add,Nat.pow_mul] at this;exact this
 have nV:nl (B*2 ^ n)=m+1:=by
  have y:=(iJ (B*2 ^ n) (m+1)).2 W;rcases a2D (nl (B*2 ^ n)) (m+1) with h | h
  ·have:=(iJ (B*2 ^ n) m).1 Om;have ω:0<4294967296 ^ m:=a4F (by decide);omega
  ·omega
 have Ψ:B*2 ^ n≠0:=Nat.mul_ne_zero hB Om;have e':nl (A*2 ^ n)≤nl A+1:=jL (a1O _) (jB (by rw[Nat.pow_one]; exact Nat.pow_lt_pow_right (a:=2) (m:=n) (n:=32) (by decide) γ));have υ:B*2 ^ n≤A*2 ^ n:=a2Q _ Om;have f':m+1≤nl (A*2 ^ n):=by rw[← nV]; exact fE υ
 have Φ:A*2 ^ n≠0:=Om;have ι:IntKind.i64.wrap (32*((nl B:Nat):Int))=((32*(m+1):Nat):Int):=by rw[wrap_i64 Om Om]; omega
 have en:IntKind.i64.wrap (((32*(m+1):Nat):Int)-((cJ B:Nat):Int))=(n:Int):=by rw[wrap_i64 Om Om]; omega
 have bt:=L.bits (aE B) LB Om;rw[vB] at bt;have ua:=L.upM (aE A) n O Om Om (fun h=>by have:=eY O; rw[h] at this; omega);have ub:=(L.upM (aE B) n LB Om Om (fun h=>by have:=eY LB; rw[h] at this; omega)).freeze;rw[vA] at ua;rw[vB] at ub;have tail:∀ (o:Nat) (F:PF) (H:PH),F 0=some (aG (aE A))→F 1=some (aG (aE B))→F 10=some (.int .i64 n)→F 11=some (.osl o 1 0 (nl (A*2 ^ n)+2))→F 12=some (aG (aE (B*2 ^ n)))→H o=some (.rows 1 (aI (aE (A*2 ^ n))++[[.int .u32 0],[.int .u32 0]])) →
   aC.wp C (.seq (.region BQ) (.seq (.region BR) (.seq (.region BS) (.seq (.seq (.region BT) (.block 2 (.loop uA))) (.seq (.region CA) .ret))))) (aX [.tmp 4,.tmp 5] (cD (oJ A B))) F H:=by
  intro o F H f0 f1 κ f11 μ hH;have LU:=aU (A*2 ^ n);have LV:=aU (B*2 ^ n);have vU:=aT (A*2 ^ n);have vV:=aT (B*2 ^ n);have lU:(aE (A*2 ^ n)).length=nl (A*2 ^ n):=rfl;have lV:(aE (B*2 ^ n)).length=m+1:=nV;have eu:IntKind.i64.wrap (((nl (A*2 ^ n):Nat):Int)+1)=((nl (A*2 ^ n)+1:Nat):Int):=dC Om;have b1:((nl (A*2 ^ n)+1:Nat):Int)≤((nl (A*2 ^ n)+2:Nat):Int):=Om;simp only[go_sem,BQ,f11,f0,κ];refine aA ua.freeze rfl ?_;obtain⟨c,a'⟩:∃ c,nl (A*2 ^ n)+1-(m+1)=c:=⟨_,rfl⟩;have ψ:nl (A*2 ^ n)+1=c+(m+1):=Om;have em:IntKind.i64.wrap (((m+1:Nat):Int)-1)=((m:Nat):Int):=by rw[wrap_i64 Om Om]; omega
  have l:m<(aE (B*2 ^ n)).length:=Om;have rm:=bL (aE (B*2 ^ n)) l;have tl:=LV _ (a1N l);have htop:0<(aE (B*2 ^ n))[m]:=by
   have y:=cA (aE (B*2 ^ n)) l;rw[a2C Om,vV] at y;have h2:=eY (LV.take m);rw[a2A,a3W Om] at h2;have ω:0<4294967296 ^ m:=a4F (by decide);rcases a4D (aE (B*2 ^ n))[m] with h | h
   ·rw[h] at y; omega
   ·exact h
  have θ:2147483648≤(aE (B*2 ^ n))[m]:=by
   have y:=cA (aE (B*2 ^ n)) l;rw[a2C Om,vV] at y;have h2:=eY (LV.take m);rw[a2A,a3W Om] at h2;rcases a2D (aE (B*2 ^ n))[m] 2147483648 with h | h
   ·exfalso;have h3:4294967296 ^ m*((aE (B*2 ^ n))[m]+1)≤4294967296 ^ m*2147483648:=a3X _ h;rw[a1U,Nat.mul_one] at h3;omega
   ·exact h
  have u:=asN (C:=C) L (A*2 ^ n) n o (nl (A*2 ^ n)+1) c;have hI:oF (A*2 ^ n) (val (aE (B*2 ^ n))) (m+1) (nl (A*2 ^ n)+1) c c (aE (A*2 ^ n)++[0]) (a1M c 0):=by
   refine⟨by rw[a1P,lU]; rfl,List.length_replicate,LU.app fun x N=>by simp at N; omega,uM _,?_,?_,fun i x _ N=>Mq N⟩
   ·rw[fS,vU,rH]; simp[val]
   ·have Λ:(aE (A*2 ^ n)++[0]).length=nl (A*2 ^ n)+1:=by rw[a1P,lU]; rfl
    have Δ:val (aE (A*2 ^ n)++[0])=A*2 ^ n:=by rw[fS,vU]; simp[val]
    rw[tM (LU.app fun x N=>by simp at N; omega) Om,Δ,vV,a4L (a4F (by decide))];have y:A*2 ^ n<4294967296 ^ nl (A*2 ^ n):=(iJ _ _).1 (a1O _);have N:nl (A*2 ^ n)=m+c:=Om;rw[N,Nat.pow_add] at y;have h2:4294967296 ^ m*4294967296 ^ c≤(B*2 ^ n)*4294967296 ^ c:=a2Q _ Om;omega
  have K:aI (aE (A*2 ^ n))++[[PV.int .u32 0],[PV.int .u32 0]]=dV (aE (A*2 ^ n)++[0]) (aI [0]):=by simp[dV,aI]
  rw[K] at hH;generalize η:(aE (B*2 ^ n))[m]=top at *
  have et:IntKind.u64.wrap ((top:Nat):Int)=((top:Nat):Int):=bD Om;have k2:IntKind.i64.wrap (((nl (A*2 ^ n)+1:Nat):Int)-((m+1:Nat):Int))=((c:Nat):Int):=by rw[wrap_i64 Om Om]; omega
  have k3:((c:Nat):Int)*((4:Nat):Int)≤140737488355328:=Om;have k4:((c:Nat):Int)≤9223372036854775807:=Om;have hz:a1M c [PV.int .u32 0]=aI (a1M c 0):=by simp[aI]
  have jq:IntKind.i64.wrap ((c:Int)-1)=(c:Int)-1:=wrap_i64 Om Om;simp only[go_sem,a1K,lU,eu,b1,BR,μ,lV,em,rm,et,BS,k2,k3,k4,hz];refine aQ fun w ζ=>?_;have δ:w≠o:=by rintro rfl; rw[hH] at ζ; cases ζ
  have e:¬ o=w:=fun h=>δ h.symm;have p:=u w m (aE (B*2 ^ n)) [0] δ LV lV (by rw[η]; exact htop) ψ Om _ hI;rw[η] at p;simp only[go_sem] at p;simp only[go_sem,BT,jq];refine p _ _ _ ?_ ?_ ?_
  ·unfold duF;exact Lq
  ·refine PH.aL (PH.aL a_ ?_) ?_
   ·simp only[go_sem,e,hH]
   ·simp only[go_sem]
  clear p u;intro X Q F1 H1 d E V;have ν:F1 10=some (.int .i64 n):=E 10 _ (by unfold duF; simp only[go_sem]);have ξ:F1 11=some (.osl o 1 0 (nl (A*2 ^ n)+1)):=E 11 _ (by unfold duF; simp only[go_sem]);have ο:F1 14=some (.osl w 1 0 c):=E 14 _ (by unfold duF; simp only[go_sem]);have ε:H1 o=some (.rows 1 (dV X (aI [0]))):=V o _ (by simp only[go_sem,e]);have Γ:H1 w=some (.rows 1 (aI Q)):=V w _ Sq;have hu:val X<val (aE (B*2 ^ n)):=by have:=d.r; rwa [a2S] at this
  have M:=d.v;rw[vV] at hu M;have τ:val Q=A/B:=by
   have:A*2 ^ n/(B*2 ^ n)=val Q:=by rw[← M,Nat.add_mul_div_right _ _ Om,a4X hu,a2H]
   rw[← this,Nat.mul_div_mul_right _ _ J]
  have φ:val X/2 ^ n=A%B:=by
   have:A*2 ^ n%(B*2 ^ n)=val X:=by rw[← M,Nat.add_mul_mod_self_right,a2U hu]
   rw[← this,Nat.mul_mod_mul_right,Nat.mul_div_cancel _ J]
  have lX:=d.lu';have lQ:=d.lq';have σ:(aI Q).take c=aI Q:=a2C (by rw[bU]; omega);have Z:(dV X (aI [0])).take (nl (A*2 ^ n)+1)=aI X:=by rw[dV,List.take_append_of_le_length (by rw[bU]; omega),a2C (by rw[bU]; omega)]
  have Y:nl (A*2 ^ n)+1≤(dV X (aI [0])).length:=by rw[dV,a1P,bU]; omega
  have β:(dV X (aI [0])).map (fun r=>r.map (PV.cV w 1 (aI Q)))=dV X (aI [0]):=by
   have:dV X (aI [0])=aI (X++[0]):=by simp[dV,aI]
   rw[this]; exact qX _ _ _ _
  have nX:=fG d.limU;have t1:=L.trim Q d.limQ Om;have t2:=L.trim X d.limU Om;have dn:=L.down (aE (val X)) n (aU _) (by rw[aW]; omega) Om;rw[aT,φ] at dn;rw[τ] at t1;generalize aI [0]=Z0 at ε Z Y β;simp only[go_sem,CA,ο];refine qC (o:=w) (s:=1) (rs:=aI Q) t1 Γ (by simp only[go_sem,σ,show c≤Q.length by omega]) ?_;simp only[go_sem,ξ,e];refine qC (o:=o) (s:=1) (rs:=dV X Z0) t2 (by simp only[go_sem,e,ε,bY.frz,β]) (by simp only[go_sem,Z,Y]) ?_;simp only[go_sem,ν];refine aA dn rfl ?_;simp only[go_sem];exact aZ (vs:=[aG (aE (A/B)),aG (aE (A%B))]) (.inr rfl) .nil rfl a_ ⟨.refl _,rfl⟩
 simp only[aC.wp,go_sem] at tail;simp only[go_sem,bF (Om:¬ ((nl B:Nat):Int)=1),TE,a1K,lB];refine aA bt rfl ?_;simp only[go_sem,ι,en,TF];refine lY ua rfl a_ fun r H1 hr _=>?_;have α:(2:Nat)*1≤16777216:=by decide
 rcases hr with ⟨h0,_⟩ | ⟨o,rs,rfl,rfl,hrl,hrt⟩
 ·exfalso;have:=congrArg List.length h0;rw[bU,aW] at this;simp at this;omega
 rw[PH.oM];rw[bU,aW] at hrl hrt;simp only[go_sem,α,bU,aW];refine Mm (src:=[[.int .u32 0],[.int .u32 0]]) (rs:=rs) rfl ?_ Sq hrl ?_ fun o' d'=>?_
 ·unfold roomFor;simp only[maxLen,a3E,a3Z]; omega
 ·rw[hrt];simp only[go_sem];refine aA ub rfl ?_;simp only[go_sem];exact tail o _ _ rfl rfl rfl rfl rfl Sq
 ·rw[hrt];simp only[go_sem];refine aA ub rfl ?_;simp only[go_sem];exact tail o' _ _ rfl rfl rfl rfl rfl Sq
def aO (C:Ctx) (k:Nat) (c:aR):Prop:=∀ (args:List PV) (H:PH) (R:PV→PH→Prop),args.length≤c.ntmps→c.body.wp C (aX c.res R) (PF.args args) H→aF C k args H R
theorem aO.go {C:Ctx} {k:Nat} {c:aR} (r:aO C k c) {args:List PV} {H:PH} {R:PV→PH→Prop} (h:c.body.wp C (aX c.res R) (PF.args args) H) (d:Nat.ble args.length c.ntmps=true):aF C k args H R:=r args H R (Nat.le_of_ble_eq_true d) h
structure fP (C:Ctx):Prop where
 r0:aO C 0 de
 r1:aO C 1 zg
 r2:aO C 2 Zp
 r4:aO C 4 fb
 r5:aO C 5 Z4
 r7:aO C 7 fa
 r20:aO C 20 aPC
 r23:aO C 23 aPJ
 r27:aO C 27 db
 r28:aO C 28 Z3
 r29:aO C 29 zh
 r30:aO C 30 adU
 r31:aO C 31 zm
 r32:aO C 32 adV
 r33:aO C 33 udiv
 r34:aO C 34 adZ
 r35:aO C 35 zo
 r36:aO C 36 aeB
 r37:aO C 37 aeE
 r38:aO C 38 zq
 r39:aO C 39 RD
 r40:aO C 40 zn
 r41:aO C 41 i7
 r42:aO C 42 i9
 r43:aO C 43 zp
 r44:aO C 44 je
 r45:aO C 45 uup
 r47:aO C 47 aeJ
 r50:aO C 50 jt
 r58:aO C 58 RH
 r59:aO C 59 Ab
 r95:aO C 95 Y0
 r96:aO C 96 Y6
 r97:aO C 97 cj
 r98:aO C 98 y9
 r99:aO C 99 za
 r100:aO C 100 zb
 r101:aO C 101 gone
 r102:aO C 102 zc
 r103:aO C 103 ck
 r104:aO C 104 gin
 r105:aO C 105 Y1
 r106:aO C 106 Y2
 r107:aO C 107 zd
 r108:aO C 108 ze
 r109:aO C 109 cp
 r110:aO C 110 zf
 r111:aO C 111 D6
 r112:aO C 112 Y3
 r113:aO C 113 UP
 r114:aO C 114 Yo
 r115:aO C 115 b9
 r116:aO C 116 CY
 r117:aO C 117 kw
 r118:aO C 118 ci
 r119:aO C 119 Yn
 r120:aO C 120 qW
 r121:aO C 121 ch
 r122:aO C 122 y8
 r123:aO C 123 c8
 r124:aO C 124 MS
 r125:aO C 125 MU
 r126:aO C 126 DB
 r127:aO C 127 Z8
 r128:aO C 128 zi
 r129:aO C 129 aaA
 r130:aO C 130 aaC
 r131:aO C 131 aaG
 r132:aO C 132 zj
 r133:aO C 133 aaN
 r134:aO C 134 aaP
 r135:aO C 135 zk
 r136:aO C 136 QV
 r137:aO C 137 fw
 r138:aO C 138 wX
 r139:aO C 139 HV
 r140:aO C 140 gs
 r141:aO C 141 gv
 r142:aO C 142 zJ
 r143:aO C 143 nup
 r147:aO C 147 tat
 r148:aO C 148 aQW
 r149:aO C 149 aLN
 r150:aO C 150 aQX
 r151:aO C 151 aQQ
 r152:aO C 152 aUI
 r153:aO C 153 aLM
 r154:aO C 154 aUJ
 r155:aO C 155 aQR
 r156:aO C 156 aUH
 r157:aO C 157 aQY
 r158:aO C 158 aUK
 r159:aO C 159 aRB
 r160:aO C 160 aQZ
 r161:aO C 161 aRA
theorem kI {C:Ctx} (c:fP C):oS C :=
 have len:∀ xs,Lim xs→xs.length≤35184372087808→aF C 138 [aG xs] .nil (aH (.int .i64 (nl (val xs):Nat))):=fun xs h l=>c.r138.go (gr xs h l) rfl
 {length:=len
  large:=fun xs h l=>c.r137.go (uq xs (len xs h l)) rfl
  sized:=fun xs h l=>(c.r141.go (vp xs h (len xs h l)) rfl).seen
  trim:=fun xs h l=>(c.r135.go (I3 xs h l (len xs h l)) rfl).seen
  make:=fun v h=>c.r132.go (Il v h len) rfl
  cmp:=fun xs ys d e i p=>c.r129.go (Tx xs ys d e i p (len xs d i) (len ys e p)) rfl }
theorem Z7 {C:Ctx} (c:fP C):YB C :=
 {subtract:=fun A W Z v f o hW l i e p d=>c.r142.go (NT A W Z v f hW l i e p d o) rfl
  restore:=fun A W Z v o hW l i e=>c.r139.go (SQ A W Z v hW l i e o) rfl }
theorem WJ {C:Ctx} (c:fP C):TV C :=
 {L:=kI c
  D:=Z7 c
  up:=fun a s i w e=>c.r143.go (alH a s i w e) rfl
  short:=fun a d i l p e=>c.r140.go (vb (kI c) a d i l p e) rfl
  lengthO:=fun xs o x u=>c.r138.go (SO xs x u o) rfl }
theorem xU {C:Ctx} (c:fP C) (A B:Nat) (hB:B≠0) (e:nl A≤900) (d:nl B≤900):aF C 136 [aG (aE A),aG (aE B)] .nil (aH (oJ A B)) :=
 (c.r136.go (fg (WJ c) A B hB e d) rfl).seen
theorem kW {C:Ctx} (c:fP C):pU C :=
 {kI c with
  bits:=fun xs h l=>c.r128.go (Hr xs h l ((kI c).length xs h l)) rfl
  add:=fun xs ys d e i p=>(c.r127.go (Tq (kI c) xs ys d e i p) rfl).seen
  sub:=fun xs ys d e i p=>(c.r134.go (Uv (kI c) xs ys d e i p) rfl).seen
  mul:=fun xs ys d e i p=>(c.r133.go (Uq (kI c) xs ys d e i p) rfl).seen
  gcd:=fun xs ys d e i p=>(c.r131.go (Uh (kI c) (xU c) xs ys d e i p) rfl).seen
  div:=fun xs ys d e i p=>(c.r130.go (T9 (kI c) (xU c) xs ys d e i p) rfl).seen }
theorem pB {C:Ctx} (c:fP C):yN C :=
 {kW c with
  times:=fun a b d i e l p u=>c.r121.go (ri (kW c) a b d i e l p u) rfl
  zero:=fun neg a b d e=>c.r122.go (C9 (kW c) neg a b d e) rfl
  valid:=fun neg a b d i e l=>c.r118.go (rt (kW c) neg a b d i e l) rfl
  abs:=fun v x y=>c.r119.go (Qj (kW c) v x y) rfl
  lowest:=fun neg a b d i e l p u w=>(c.r120.go (bu (kW c) neg a b d i e l p u w) rfl).seen }
theorem MD {C:Ctx} (c:fP C) (x y:RF) (d:x.Ok) (e:y.Ok):aF C 113 [.agg x.cells,.agg y.cells] .nil (aH (frV (fU x.v y.v))) :=
 (c.r113.go (Qo (pB c) x.neg y.neg x.num x.den y.num y.den d.1 d.2.1 e.1 e.2.1 d.2.2.1 d.2.2.2 e.2.2.1 e.2.2.2) rfl).seen
theorem tQ {C:Ctx} (c:fP C):yM C :=
 {pB c with
  frac:=fun n d w p=>(c.r115.go (C1 (pB c) n d w.1 w.2 p.1 p.2) rfl).seen
  red:=fun x e=>by rw[← ic];exact (c.r116.go (ca (pB c) x.neg x.num x.den e.1 e.2.1 e.2.2.1 e.2.2.2) rfl).seen
  ord:=fun x y e i=>(c.r114.go (Qy (pB c) x.neg y.neg x.num x.den y.num y.den e.1 e.2.1 i.1 i.2.1 e.2.2.1 e.2.2.2 i.2.2.1 i.2.2.2) rfl).seen
  plus:=MD c
  tot:=fun l u=>(c.r117.go (Q9 (pB c) (MD c) l u.all u.fits) rfl).seen }
theorem pA {C:Ctx} (c:fP C):qE C :=
 have inn:∀ n lo hi:Int,aF C 104 [.int .i64 n,.int .i64 lo,.int .i64 hi] .nil (aH (.bool (within n lo hi))):=fun n lo hi=>(c.r104.go (ajH n lo hi) rfl).seen;have nP:∀ x:RF,x.Ok→aF C 97 [.agg x.cells] .nil (aH (.bool (bS x))):=fun x i=>(c.r97.go (rx (kW c) x i) rfl).seen;have lim:∀ x:RF,x.Ok→aF C 105 [.agg x.cells] .nil (aH (.bool (eT x))):=fun x i=>(c.r105.go (R1 (tQ c) x i) rfl).seen;have d:∀ n:Nat,aF C 126 [.int .u8 n] .nil (aH (.bool (gR n))):=fun n=>c.r126.go (c7 n) rfl;have e:∀ n:Nat,aF C 124 [.int .u8 n] .nil (aH (.bool (pX n))):=fun n=>c.r124.go (sw n) rfl
 {tQ c with
  inn:=inn
  nP:=nP
  lim:=lim
  one:=fun x i=>(c.r101.go (R8 (tQ c) x i) rfl).seen
  allf:=fun p fn l u h=>(c.r99.go (Dn p fn l u h) rfl).seen
  alli:=fun p fn l u h=>(c.r100.go (Dx p fn l u h) rfl).seen
  allb:=fun p fn l u h=>(c.r98.go (Dd p fn l u h) rfl).seen
  ends1:=fun b=>(c.r103.go (r8 b) rfl).seen
  num1:=fun n=>(c.r107.go (Ej inn n) rfl).seen
  rate1:=fun x i=>(c.r109.go (sg lim nP x i) rfl).seen
  name:=fun s=>c.r123.go (Ga d (fun n=>c.r125.go (s7 d e n) rfl) s) rfl }
theorem MA {C:Ctx} (c:fP C):XW C :=
 {pA c with
  num:=fun p d=>(c.r106.go (R4 (pA c) p d) rfl).seen
  rate:=fun p d=>(c.r108.go (Ep (pA c) p d) rfl).seen
  uniq:=fun l e=>(c.r110.go (Ez (pA c) l e) rfl).seen }
theorem MB {C:Ctx} (c:fP C):JZ C :=
 {MA c with
  ends:=fun l e d=>(c.r102.go (Ea (pA c) l e d) rfl).seen }
theorem Cx {C:Ctx} (c:fP C):jM C :=
 {MB c with
  law:=fun l e=>(c.r95.go (Rs (MB c) l e) rfl).seen
  pol:=fun p n u i=>(c.r112.go (Sd (MA c) p u n i) rfl).seen
  a0I:=fun f d=>(c.r111.go (Rl (pA c) f d) rfl).seen }
theorem kr {C:Ctx} (c:fP C) (f:aJ) (d:f.Ok):aF C 96 [.agg f.cells] .nil (aH (.int .i64 (vD f))):=(c.r96.go (Sm (Cx c) f d) rfl).seen
theorem jI {C:Ctx} (c:fP C):mS C:={ trimM:=fun xs h l=>c.r38.go (Lh xs h l) rfl }
theorem OJ {C:Ctx} (c:fP C):YD C :=
 {jI c with
  make:=fun v h=>(c.r35.go (K3 (jI c) v h) rfl).seen
  large:=fun xs h l=>(c.r41.go (wr (jI c) xs h l) rfl).seen
  cmp:=fun xs ys d e i p=>c.r32.go (Vn (jI c) xs ys d e i p) rfl }
theorem OL {C:Ctx} (c:fP C):YF C :=
 {OJ c with
  minus:=fun a b e i l u d=>(c.r42.go (ww (jI c) a b e i l u d) rfl).seen
  times:=fun a b e i d p=>(c.r44.go (xf (jI c) a b e i d p) rfl).seen }
theorem xY {C:Ctx} (c:fP C):KE C :=
 {OL c with
  plus:=fun a b i l d e=>(c.r43.go (K9 (jI c) a b i l d e) rfl).seen }
theorem Jj {C:Ctx} (c:fP C):CM C :=
 {xY c with
  bits:=fun xs h l=>c.r31.go (Ka (jI c) xs h l) rfl
  upM:=fun a n e d i p=>c.r45.go (asU (jI c) a n e d i p) rfl
  down:=fun a n e d i=>(c.r40.go (Kr (jI c) a n e d i) rfl).seen }
theorem xX {C:Ctx} (c:fP C):KC C :=
 {OJ c with
  divide:=fun A B hB e d=>(c.r39.go (iv (Jj c) A B hB e d) rfl).seen }
theorem OK {C:Ctx} (c:fP C):YE C :=
 {xX c with
  gcd:=fun a b d e i l=>(c.r34.go (V7 (xX c) a b d e i l) rfl).seen
  div:=fun a b d e i l=>(c.r33.go (Vz (xX c) a b d e i l) rfl).seen }
theorem gz {C:Ctx} (c:fP C):yy C :=
 {OK c with
  lowest:=fun neg a b i l p u w x e=>(c.r58.go (jl (OK c) neg a b i l p u w x e) rfl).seen
  size:=fun v d=>c.r59.go (Me v d.1 d.2) rfl }
theorem qA {C:Ctx} (c:fP C):KD C :=
 {gz c with
  fmk:=fun n d i e=>(c.r50.go (L3 (gz c) n d i e) rfl).seen }
abbrev nN (C:Ctx):Prop:=∀ n:Nat,n<100→aF C 195 [.int .i64 n] .nil (aH (.str (bT n)))
theorem HA {C:Ctx} (c:fP C) (hi:nN C):yP C :=
 {qA c with
  int:=fun n d=>(c.r47.go (DK (qA c) n d) rfl).seen
  itoa:=hi
  next:=fun l v T o n a d e=>c.r4.go (Hh T o n a d e) rfl }
theorem NB {C:Ctx} (c:fP C) (hi:nN C):XZ C :=
 {HA c hi with
  frac:=fun l v T o a d=>c.r1.go (Gs (HA c hi) T o a d) rfl }
theorem NC {C:Ctx} (c:fP C) (hi:nN C):pT C :=
 {NB c hi with
  rep:=fun l v T o a m e d=>c.r5.go (Tf (NB c hi) T o a m e d) rfl
  name:=fun s n p i=>c.r29.go (He (HA c hi) s n p i) rfl }
theorem ND {C:Ctx} (c:fP C) (hi:nN C):lK C :=
 {NC c hi with
  law:=fun l v T o dY a i d e=>c.r2.go (S3 (NC c hi) T o dY a i d e) rfl }
section
variable {C:Ctx} {F F':PF} {H:PH}
theorem cM (c:F.le F') {x:aN} {v:PV} (h:x.ev F=some v):x.ev F'=some v:=by
 cases x
 ·exact c _ _ h
 all_goals exact h
theorem CU (c:F.le F'):∀ {xs:List aN} {vs:List PV},aN.evs F xs=some vs→aN.evs F' xs=some vs
 | [],_,h=>h
 | x::xs,vs,h=>by
  rw[qJ] at h ⊢;cases e:x.ev F with
  | none=>simp[e] at h
  | some v =>
   cases d:aN.evs F xs with
   | none=>simp[d] at h
   | some i =>rw[e,d] at h;rw[cM c e,CU c d];exact h
theorem Cv (c:F.le F'):∀ {ps:List (Nat × Nat × aN)} {cs ds:List PV},oZ cs F ps=some ds→oZ cs F' ps=some ds
 | [],_,_,h=>h
 | (i,size,x)::ps,cs,ds,h=>by
  simp only[oZ] at h ⊢;cases d:x.ev F with
  | none=>simp[d] at h
  | some v =>
   rw[d] at h;rw[cM c d];simp only at h ⊢;split at h
   ·rename_i e; rw[if_pos e]; exact Cv c h
   ·cases h
theorem AJ (c:F.le F') {size:Nat}:∀ {ps:List (Nat × aN)} {cs ds:List (List PV)},gJ size cs F ps=some ds→gJ size cs F' ps=some ds
 | [],_,_,h=>h
 | (i,x)::ps,cs,ds,h=>by
  simp only[gJ] at h ⊢;cases d:x.ev F with
  | none=>simp[d] at h
  | some v =>
   rw[d] at h;rw[cM c d];simp only at h ⊢;split at h
   ·rename_i e; rw[if_pos e]; exact AJ c h
   ·cases h
theorem KM (c:F.le F') {d n:Int} {x:Option aN} (h:bnd F d x=some n):bnd F' d x=some n:=by
 cases x with
 | none=>exact h
 | some x =>
  simp only[bnd] at h ⊢;cases e:x.ev F with
  | none=>simp[e] at h
  | some v=>rw[cM c e,← e]; exact h
theorem Jf {op:POp} {v:PV} (A:F.le F') (h:aM op F H=some v):aM op F' H=some v:=by
 cases op
 case mv x=>exact cM A h
 case pick c a b =>
  simp only[aM] at h ⊢;cases K:c.ev F with
  | none=>simp[K] at h
  | some t =>
   rw[K] at h;rw[cM A K];cases t<;>simp only at h ⊢<;>try cases h
   rename_i t;cases t
   ·simp only[a4K,if_false] at h ⊢; exact cM A h
   ·simp only[if_true] at h ⊢; exact cM A h
 case same x =>
  simp only[aM] at h ⊢;cases e:x.ev F with
  | none=>simp[e] at h
  | some a=>rw[cM A e,← e]; exact h
 case un o x =>
  simp only[aM] at h ⊢;cases e:x.ev F with
  | none=>simp[e] at h
  | some a=>rw[cM A e,← e]; exact h
 case conv k x =>
  simp only[aM] at h ⊢;cases e:x.ev F with
  | none=>simp[e] at h
  | some a=>rw[cM A e,← e]; exact h
 case a0M x =>
  simp only[aM] at h ⊢;cases e:x.ev F with
  | none=>simp[e] at h
  | some a=>rw[cM A e,← e]; exact h
 case a1C o x =>
  simp only[aM] at h ⊢;cases e:x.ev F with
  | none=>simp[e] at h
  | some a=>rw[cM A e,← e]; exact h
 case field o n x =>
  simp only[aM] at h ⊢;cases e:x.ev F with
  | none=>simp[e] at h
  | some a=>rw[cM A e,← e]; exact h
 case a0Z x =>
  simp only[aM] at h ⊢;cases e:x.ev F with
  | none=>simp[e] at h
  | some a=>rw[cM A e,← e]; exact h
 case isNil n x =>
  simp only[aM] at h ⊢;cases e:x.ev F with
  | none=>simp[e] at h
  | some a=>rw[cM A e,← e]; exact h
 case lenM x =>
  simp only[aM] at h ⊢;cases e:x.ev F with
  | none=>simp[e] at h
  | some a=>rw[cM A e,← e]; exact h
 case a1J x =>
  simp only[aM] at h ⊢;cases e:x.ev F with
  | none=>simp[e] at h
  | some a=>rw[cM A e,← e]; exact h
 case extract x i =>
  simp only[aM] at h ⊢;cases e:x.ev F with
  | none=>simp[e] at h
  | some a=>rw[cM A e,← e]; exact h
 case a0N x =>
  simp only[aM] at h ⊢;cases e:x.ev F with
  | none=>simp[e] at h
  | some a=>rw[cM A e,← e]; exact h
 case len x =>
  simp only[aM] at h ⊢;cases e:x.ev F with
  | none=>simp[e] at h
  | some a=>rw[cM A e,← e]; exact h
 case box r x =>
  cases r
  ·cases h
  simp only[aM] at h ⊢;cases e:x.ev F with
  | none=>simp[e] at h
  | some a=>rw[cM A e,← e]; exact h
 case load n p =>
  cases n
  all_goals
   simp only[aM] at h ⊢;cases e:p.ev F with
   | none=>simp[e] at h
   | some a=>rw[cM A e,← e]; exact h
 case bin o x y =>
  simp only[aM] at h ⊢;cases e:x.ev F with
  | none=>simp[e] at h
  | some a =>
   cases B:y.ev F with
   | none=>simp[e,B] at h
   | some b=>rw[cM A e,cM A B,← e,← B]; exact h
 case eqb n x y =>
  simp only[aM] at h ⊢;cases e:x.ev F with
  | none=>simp[e] at h
  | some a =>
   cases B:y.ev F with
   | none=>simp[e,B] at h
   | some b=>rw[cM A e,cM A B,← e,← B]; exact h
 case eqs n k x y =>
  simp only[aM] at h ⊢;cases e:x.ev F with
  | none=>simp[e] at h
  | some a =>
   cases B:y.ev F with
   | none=>simp[e,B] at h
   | some b=>rw[cM A e,cM A B,← e,← B]; exact h
 case a0Q s x i =>
  simp only[aM] at h ⊢;cases e:x.ev F with
  | none=>simp[e] at h
  | some a =>
   cases B:i.ev F with
   | none=>simp[e,B] at h
   | some b=>rw[cM A e,cM A B,← e,← B]; exact h
 case idxA n s x i =>
  simp only[aM] at h ⊢;cases e:x.ev F with
  | none=>simp[e] at h
  | some a =>
   cases B:i.ev F with
   | none=>simp[e,B] at h
   | some b=>rw[cM A e,cM A B,← e,← B]; exact h
 case idxV n s g x i =>
  simp only[aM] at h ⊢;cases e:x.ev F with
  | none=>simp[e] at h
  | some a =>
   cases B:i.ev F with
   | none=>simp[e,B] at h
   | some b=>rw[cM A e,cM A B,← e,← B]; exact h
 case a1A x i =>
  simp only[aM] at h ⊢;cases e:x.ev F with
  | none=>simp[e] at h
  | some a =>
   cases B:i.ev F with
   | none=>simp[e,B] at h
   | some b=>rw[cM A e,cM A B,← e,← B]; exact h
 case a0U m x y =>
  simp only[aM] at h ⊢;cases e:x.ev F with
  | none=>simp[e] at h
  | some a =>
   cases B:y.ev F with
   | none=>simp[e,B] at h
   | some b=>rw[cM A e,cM A B,← e,← B]; exact h
 case lookup sh z x k ok =>
  simp only[aM] at h ⊢;cases e:x.ev F with
  | none=>simp[e] at h
  | some a =>
   cases B:k.ev F with
   | none=>simp[e,B] at h
   | some b=>rw[cM A e,cM A B,← e,← B]; exact h
 case build z ps =>simp only[aM,a1Q] at h ⊢;obtain⟨cs,E,J⟩:=h;exact⟨cs,Cv A E,J⟩
 case a0F r s l z ps =>
  cases r
  ·cases h
  simp only[aM] at h ⊢;split at h
  ·rename_i K;rw[if_pos K];rw[a1Q] at h ⊢;obtain⟨cs,E,J⟩:=h;exact⟨cs,AJ A E,J⟩
  ·cases h
 case mkfn n cs =>simp only[aM,a1Q] at h ⊢;obtain⟨vs,E,J⟩:=h;exact⟨vs,CU A E,J⟩
 case sliceA n s x lo hi mx =>
  cases lo<;>cases hi<;>cases mx<;>simp only[aM] at h ⊢<;>try cases h
  cases e:x.ev F with
  | none=>simp[e] at h
  | some a=>rw[cM A e,← e]; exact h
 case a0W x lo hi =>
  simp only[aM] at h ⊢;cases e:x.ev F with
  | none=>simp[e] at h
  | some a =>
   rw[e] at h;rw[cM A e];cases a<;>simp only at h ⊢<;>try cases h
   cases E:bnd F 0 lo with
   | none=>simp[E] at h
   | some l =>
    rename_i s;cases J:bnd F s.length hi with
    | none=>simp[E,J] at h
    | some u=>rw[KM A E,KM A J,← E,← J]; exact h
 case slice s x lo hi mx =>
  simp only[aM] at h ⊢;cases e:x.ev F with
  | none=>simp[e] at h
  | some a =>
   rw[e] at h;rw[cM A e];have N:∀ (d:Int) (w:PV),(match bnd F 0 lo,bnd F d hi with
     | some a1,some a2=>match (generalizing:=false) mx with
      | none=>PV.slice s w a1 a2 none
      | some m=>(bnd F 0 (some m)).bind fun m=>PV.slice s w a1 a2 (some m)
     | _,_=>none)=some v→(match bnd F' 0 lo,bnd F' d hi with
     | some a1,some a2=>match (generalizing:=false) mx with
      | none=>PV.slice s w a1 a2 none
      | some m=>(bnd F' 0 (some m)).bind fun m=>PV.slice s w a1 a2 (some m)
     | _,_=>none)=some v:=by
    intro d w h;cases E:bnd F 0 lo with
    | none=>simp[E] at h
    | some l =>
     cases J:bnd F d hi with
     | none=>simp[E,J] at h
     | some u =>
      rw[E,J] at h;rw[KM A E,KM A J];cases mx with
      | none=>exact h
      | some m =>
       simp only at h ⊢;cases M:bnd F 0 (some m) with
       | none=>simp[M] at h
       | some q=>rw[KM A M,← M]; exact h
   cases a<;>simp only at h ⊢<;>first | exact N _ _ h | cases h
 all_goals exact h
theorem At {op:POp} {r:(Nat→PV) × bY} (d:F.le F') (h:cR op F=some r):cR op F'=some r:=by
 cases op
 case box b x =>
  cases b
  ·simp only[cR] at h ⊢;cases e:x.ev F with
   | none=>simp[e] at h
   | some a=>rw[cM d e,← e]; exact h
  ·cases h
 case a0F b s l z ps =>
  cases b
  ·simp only[cR] at h ⊢;split at h
   ·rename_i w;rw[if_pos w];rw[a1Q] at h ⊢;obtain⟨cs,p,u⟩:=h;exact⟨cs,AJ d p,u⟩
   ·cases h
  ·cases h
 case a0H s b z l c =>
  simp only[cR] at h ⊢;cases e:l.ev F with
  | none=>simp[e] at h
  | some a =>
   cases i:c.ev F with
   | none=>simp[e,i] at h
   | some b=>rw[cM d e,cM d i,← e,← i]; exact h
 all_goals exact h
theorem Mp {op:POp} {K:PV→PH→Prop} (d:F.le F') (h:bW op F H K):bW op F' H K:=by
 cases op
 case store n x y =>
  simp only[bW] at h ⊢;cases e:x.ev F with
  | none=>simp[e] at h
  | some a =>
   cases i:y.ev F with
   | none=>simp[e,i] at h
   | some b=>rw[cM d e,cM d i]; rw[e,i] at h; exact h
 case append s b x y =>
  simp only[bW] at h ⊢;cases e:x.ev F with
  | none=>simp[e] at h
  | some a =>
   cases i:y.ev F with
   | none=>simp[e,i] at h
   | some b=>rw[cM d e,cM d i]; rw[e,i] at h; exact h
 case a0R sh x y z =>
  simp only[bW] at h ⊢;cases e:x.ev F with
  | none=>simp[e] at h
  | some a =>
   cases i:y.ev F with
   | none=>simp[e,i] at h
   | some b =>
    cases l:z.ev F with
    | none=>simp[e,i,l] at h
    | some c=>rw[cM d e,cM d i,cM d l]; rw[e,i,l] at h; exact h
 case insert sh x y z =>
  simp only[bW] at h ⊢;cases e:x.ev F with
  | none=>simp[e] at h
  | some a =>
   cases i:y.ev F with
   | none=>simp[e,i] at h
   | some b =>
    cases l:z.ev F with
    | none=>simp[e,i,l] at h
    | some c=>rw[cM d e,cM d i,cM d l]; rw[e,i,l] at h; exact h
 all_goals exact h
theorem PF.aQI (c:F.le F') (i:Nat) (v:PV):(F.set i v).le (F'.set i v):=by
 intro j u h;rw[kC] at h ⊢;split at h
 ·rename_i e; rw[if_pos e]; exact h
 ·rename_i e; rw[if_neg e]; exact c j u h
theorem PF.sI (c:F.le F') (d:Option Nat) (v:PV):(F.put d v).le (F'.put d v):=by
 cases d with
 | none=>exact c
 | some d=>exact PF.aQI c d v
theorem PF.aOM (c:F.le F') (o s:Nat) (rs:List (List PV)):(F.frz o s rs).le (F'.frz o s rs):=by
 intro j u h;rw[mK,a1Q] at h ⊢;obtain⟨x,d,e⟩:=h;exact⟨x,c j x d,e⟩
theorem PF.le_trans {A B D:PF} (h:A.le B) (k:B.le D):A.le D:=fun i v hi=>k i v (h i v hi)
theorem iW.up {e:PF} {i:PH} (h:iW F H e i):∀ {F':PF},F.le F'→∃ c,iW F' H c i∧e.le c:=by
 induction h with
 | refl F H=>exact fun {F'} d=>⟨F',.refl _ _,d⟩
 | step o u _ w =>intro F' d;obtain⟨c,l,p⟩:=w (PF.aOM d o _ _);exact⟨c,.step o u l,p⟩
theorem YN {name:Nat} {args:Option (List PV)} {d:Option Nat} {K1 K2:PF→PH→Prop} (x:∀ F F' H,F.le F'→K1 F H→K2 F' H) (e:F.le F') {c:Option (List PV)} (y:∀ vs,args=some vs→c=some vs) (h:rJ C name args d K1 F H):rJ C name c d K2 F' H:=by
 obtain⟨vs,i,R,l,p,u,w⟩:=h;exact⟨vs,i,R,y _ l,p,u,fun r H' a b=>x _ _ _ (PF.sI e d r) (w r H' a b)⟩
theorem Gm {cs:List PV} {args:List aN} (c:F.le F') (vs:List PV) (h:(aN.evs F args).map (·++cs)=some vs):(aN.evs F' args).map (·++cs)=some vs:=by
 rw[a1Q] at h ⊢;obtain⟨x,d,e⟩:=h;exact⟨x,CU c d,e⟩
theorem P7 {name:Nat} {args:List aN} {cs:List PV} {d:Option Nat} {K1 K2:PF→PH→Prop} (i:∀ F F' H,F.le F'→K1 F H→K2 F' H) (c:F.le F') (h:hL C name args cs d K1 F H):hL C name args cs d K2 F' H:=by
 rcases h with h | ⟨F1,H1,h1,h2⟩
 ·exact .inl (YN i c (Gm c) h)
 ·obtain⟨e,k1,k2⟩:=h1.up c;exact .inr ⟨e,H1,k1,YN i k2 (Gm k2) h2⟩
theorem NN {op:POp} {d:Option Nat} {K1 K2:PF→PH→Prop} (l:∀ F F' H,F.le F'→K1 F H→K2 F' H) (c:F.le F') (h:mG (cR op F) d K1 F H):mG (cR op F') d K2 F' H:=by
 obtain⟨u,x,e,i⟩:=h;exact⟨u,x,At c e,fun o p=>l _ _ _ (PF.sI c d _) (i o p)⟩
theorem kc {op:POp} {d:Option Nat} {K1 K2:PF→PH→Prop} (l:∀ F F' H,F.le F'→K1 F H→K2 F' H) (c:F.le F') (h:bQ (aM op F H) d K1 F H):bQ (aM op F' H) d K2 F' H:=by
 obtain⟨v,e,i⟩:=h;exact⟨v,Jf c e,l _ _ _ (PF.sI c d v) i⟩
theorem Ac {op:POp} {d:Option Nat} {K1 K2:PF→PH→Prop} (e:∀ F F' H,F.le F'→K1 F H→K2 F' H) (c:F.le F') (h:bW op F H fun r H'=>K1 (F.put d r) H'):bW op F' H fun r H'=>K2 (F'.put d r) H' :=
 Mp c (yL (fun v H' i=>e _ _ _ (PF.sI c d v) i) h)
theorem aFV {op:POp} {d:Option Nat} {K1 K2:PF→PH→Prop} (i:∀ F F' H,F.le F'→K1 F H→K2 F' H) (e:F.le F') (h:wpOp C op d K1 F H):wpOp C op d K2 F' H:=by
 cases op
 case call n a=>exact P7 i e h
 case a1B x a =>
  have w:tN C (x.ev F) a d K1 F H:=h;show tN C (x.ev F') a d K2 F' H;cases M:x.ev F with
  | none=>rw[M] at w; exact w.elim
  | some u =>
   rw[cM e M];rw[M] at w;cases u<;>first | exact P7 i e w | exact w.elim | skip
   obtain⟨l,O,A⟩:=w;refine⟨l,O,?_⟩;rcases A with ⟨vs,E,R,A,J,K,h5⟩ | ⟨F1,H1,k1,vs,E,R,A,J,K,h5⟩
   ·exact .inl ⟨vs,E,R,CU e A,J,K,fun r H' p q=>i _ _ _ (PF.sI e d r) (h5 r H' p q)⟩
   ·obtain⟨B,k2,N⟩:=k1.up e;exact .inr ⟨B,H1,k2,vs,E,R,CU N A,J,K,fun r H' p q=>i _ _ _ (PF.sI N d r) (h5 r H' p q)⟩
 case box r x=>cases r<;>first | exact NN (op:=.box false x) i e h | exact kc (op:=.box true x) i e h
 case a0F r s l z ps=>cases r<;>first | exact NN (op:=.a0F false s l z ps) i e h | exact kc (op:=.a0F true s l z ps) i e h
 case alloc cs=>exact NN (op:=.alloc cs) i e h
 case a0H s b z l c=>exact NN (op:=.a0H s b z l c) i e h
 case a1F sh=>exact NN (op:=.a1F sh) i e h
 case store n x y=>exact Ac (op:=.store n x y) i e h
 case append s b x y=>exact Ac (op:=.append s b x y) i e h
 case a0R sh x y z=>exact Ac (op:=.a0R sh x y z) i e h
 case insert sh x y z=>exact Ac (op:=.insert sh x y z) i e h
 all_goals exact kc i e h
theorem OG {K1 K2:PF→PH→Prop} (i:∀ F F' H,F.le F'→K1 F H→K2 F' H):∀ {ops:List aS} {F F':PF} {H:PH},F.le F'→wpOps C ops K1 F H→wpOps C ops K2 F' H
 | [],_,_,_,c,h=>i _ _ _ c h
 | ⟨d,op,none⟩::rest,_,_,_,c,h=>aFV (fun _ _ _ a b=>OG i a b) c h
 | ⟨d,op,some (t,p)⟩::rest,F,F',H,c,h=>by
  rw[Pa] at h ⊢;unfold uJ at h;split at h
  ·rename_i b l;rw[c t _ l];unfold uJ;simp only;split at h
   ·rename_i e; rw[if_pos e]; exact aFV (fun _ _ _ a b=>OG i a b) c h
   ·rename_i e; rw[if_neg e]; exact OG i (PF.sI c d _) h
  ·rename_i l;rw[c t _ l];exact OG i (PF.sI c d _) h
  ·exact h.elim
theorem I8 {Hs:PH} {S:Spec} {st:Bool} {op:POp} {K:PV→PH→Prop} (d:F.le F') (h:(op.kind F).run C Hs S st K H):(op.kind F').run C Hs S st K H:=by
 have new:∀ op:POp,(Kind.new (cR op F)).run C Hs S st K H→(Kind.new (cR op F')).run C Hs S st K H:=fun op h=>by obtain⟨M,x,e,i⟩:=h;exact⟨M,x,At d e,i⟩
 have calm:∀ op:POp,(Kind.calm (aM op F)).run C Hs S st K H→(Kind.calm (aM op F')).run C Hs S st K H:=fun op h=>by obtain⟨v,e,i⟩:=h;exact⟨v,Jf d e,i⟩
 have J:∀ op:POp,(Kind.write fun H K=>bW op F H K).run C Hs S st K H→(Kind.write fun H K=>bW op F' H K).run C Hs S st K H:=fun op h=>Mp (op:=op) d (show bW op F H (fun r H'=>Hs.le H'∧K r H') from h);cases op
 case call n a =>obtain⟨vs,D,R,e,i⟩:=h;exact⟨vs,D,R,CU d e,i⟩
 case a1B x a =>
  unfold POp.kind at h ⊢;simp only at h ⊢;cases p:x.ev F with
  | none=>rw[p] at h; exact h.elim
  | some u =>
   rw[p] at h;rw[cM d p];cases u<;>simp only at h ⊢<;>first | exact h | skip
   obtain⟨vs,D,R,e,i⟩:=h;exact⟨vs,D,R,Gm d _ e,i⟩
 case insert sh x k v =>
  obtain⟨o,E,B,u,g,e,i⟩:=h;refine⟨o,E,B,u,g,?_,i⟩;cases p:x.ev F with
  | none=>simp[p] at e
  | some a =>
   cases w:k.ev F with
   | none=>simp[p,w] at e
   | some b =>
    cases A:v.ev F with
    | none=>simp[p,w,A] at e
    | some c=>rw[cM d p,cM d w,cM d A]; rw[p,w,A] at e; exact e
 case box r x=>cases r<;>first | exact new (.box false x) h | exact calm (.box true x) h
 case a0F r s l z ps=>cases r<;>first | exact new (.a0F false s l z ps) h | exact calm (.a0F true s l z ps) h
 case alloc cs=>exact new (.alloc cs) h
 case a0H s b z l c=>exact new (.a0H s b z l c) h
 case a1F sh=>exact new (.a1F sh) h
 case store n x y=>exact J (.store n x y) h
 case append s b x y=>exact J (.append s b x y) h
 case a0R sh x y z=>exact J (.a0R sh x y z) h
 all_goals exact calm _ h
theorem axM {Hs:PH} {S:Spec} {st:Bool} {i:aS} {K:PV→PH→Prop} (c:F.le F') (h:(i.kind F).run C Hs S st K H):(i.kind F').run C Hs S st K H:=by
 unfold aS.kind at h ⊢;split
 ·rename_i l;rw[l] at h;exact I8 c h
 ·rename_i t p l;rw[l] at h;simp only at h;split at h
  ·rename_i b d;rw[c t _ d];simp only;split at h
   ·rename_i e; rw[if_pos e]; exact I8 c h
   ·rename_i e; rw[if_neg e]; exact h
  ·rename_i d;rw[c t _ d];exact h
  ·exact h.elim
theorem atO {Hs:PH} {S:Spec} {K1 K2:PF→PH→Prop} (e:∀ F F' H,F.le F'→K1 F H→K2 F' H):∀ {ops:List (aS × Bool)} {F F':PF} {H:PH},Hs.le H→F.le F'→wpD C Hs S ops K1 F H→wpD C Hs S ops K2 F' H
 | [],_,_,_,_,c,h=>e _ _ _ c h
 | i::rest,F,F',H,u,c,h=>by have l:(i.1.kind F).run C Hs S i.2 (fun v H'=>wpD C Hs S rest K1 (F.put i.1.dst v) H') H:=h;exact axM c (Kind.qO (qM _ _) (fun v H' d p=>atO e d (PF.sI c _ v) p) u l)
class Up (K:bV):Prop where
 up:∀ {e:kY} {F F':PF} {H:PH},F.le F'→K e F H→K e F' H
theorem sR:∀ (c:aC) {K1 K2:bV} (_:∀ e F F' H,F.le F'→K1 e F H→K2 e F' H) {F F':PF} {H:PH},F.le F'→c.wp C K1 F H→c.wp C K2 F' H
 | .skip,_,_,i,_,_,_,d,h=>i _ _ _ _ d h
 | .region ops,_,_,i,_,_,_,d,h=>OG (i .normal) d h
 | .draw ops,_,_,i,_,_,_,d,⟨Hs,S,u,B⟩=>⟨Hs,S,u,atO (i .normal) u d B⟩
 | .seq a b,K1,K2,i,_,_,_,d,h=>sR a (K1:=gX C (b.wp C) K1) (K2:=gX C (b.wp C) K2) (fun e F F' H p l=>by
   cases e with
   | normal=>exact sR b i p l
   | exit id=>exact i (.exit id) _ _ _ p l
   | ret=>exact i .ret _ _ _ p l) d h
 | .cond c a b,K1,K2,i,F,F',H,d,h=>by
  rw[aEK] at h ⊢;unfold QD at h;split at h
  ·rename_i t O;rw[cM d O];unfold QD;simp only;split at h
   ·rename_i e; rw[if_pos e]; exact sR a i d h
   ·rename_i e; rw[if_neg e]; exact sR b i d h
  ·exact h.elim
 | .block id c,K1,K2,i,_,_,_,d,h=>sR c (K1:=fQ id K1) (K2:=fQ id K2) (fun e F F' H p l=>by
   cases e with
   | normal=>exact i .normal _ _ _ p l
   | exit j =>
    rw[AB] at l ⊢;split at l
    ·rename_i e; rw[if_pos e]; exact i .normal _ _ _ p l
    ·rename_i e; rw[if_neg e]; exact i (.exit j) _ _ _ p l
   | ret=>exact i .ret _ _ _ p l) d h
 | .loop c,K1,K2,i,F,F',H,d,⟨α,y,Hs,A,m,J,Z,E,u,B,K,M,h5⟩=>by
  obtain⟨w,k1,k2⟩:=u.up d;refine⟨α,y,Hs,A,m,J,w,E,k1,B,PF.le_trans K k2,M,fun a N=>?_⟩;refine sR c (K1:=jS y Hs A m (m a) K1) (K2:=jS y Hs A m (m a) K2) (fun e F F' H p l=>?_) PF.le_refl (h5 a N);cases e with
  | normal =>obtain⟨b,F2,H2,U,V,W,X,Y⟩:=l;obtain⟨x,Q,R⟩:=U.up p;exact⟨b,x,H2,Q,V,W,PF.le_trans X R,Y⟩
  | exit id=>exact i (.exit id) _ _ _ p l
  | ret=>exact i .ret _ _ _ p l
 | .exit id,_,_,i,_,_,_,d,h=>i (.exit id) _ _ _ d h
 | .ret,_,_,i,_,_,_,d,h=>i .ret _ _ _ d h
instance Up.seq {K:bV} [Up K] (b:aC):Up (gX C (b.wp C) K) where
 up {e} {F} {F'} {H} hl hh:=by
  cases e with
  | normal=>exact sR b (fun e F F' H a h=>Up.up a h) hl hh
  | exit id=>exact Up.up (K:=K) (e:=.exit id) hl hh
  | ret=>exact Up.up (K:=K) (e:=.ret) hl hh
instance Up.block {K:bV} [Up K] (id:Nat):Up (fQ id K) where
 up {e} {F} {F'} {H} hl hh:=by
  cases e with
  | normal=>exact Up.up (K:=K) (e:=.normal) hl hh
  | exit j =>
   rw[AB] at hh ⊢;split at hh
   ·rename_i e; rw[if_pos e]; exact Up.up (K:=K) (e:=.normal) hl hh
   ·rename_i e; rw[if_neg e]; exact Up.up (K:=K) (e:=.exit j) hl hh
  | ret=>exact Up.up (K:=K) (e:=.ret) hl hh
instance Up.loop {K:bV} [Up K] {α:Type} (d:α→PF) (Hs:α→PH) (i:α→Prop) (m:α→Nat) (n:Nat):Up (jS d Hs i m n K) where
 up {e} {F} {F'} {H} hl hh:=by
  cases e with
  | normal =>obtain⟨b,B,H2,u,w,x,y,A⟩:=hh;obtain⟨c,l,p⟩:=u.up hl;exact⟨b,c,H2,l,w,x,PF.le_trans y p,A⟩
  | exit id=>exact Up.up (K:=K) (e:=.exit id) hl hh
  | ret=>exact Up.up (K:=K) (e:=.ret) hl hh
theorem aPW {H:PH} (c:F.le F') {x:dH} {v:PV} (h:x.ev F H=some v):x.ev F' H=some v:=by
 cases x with
 | tmp t=>exact c t v h
 | cell t n =>
  cases n<;>simp only[dH.ev] at h ⊢<;>(cases d:F t with
   | none=>simp[d] at h
   | some a=>rw[c t a d,← d]; exact h)
theorem mw {H:PH} (c:F.le F'):∀ {xs:List dH} {vs:List PV},dH.evs F H xs=some vs→dH.evs F' H xs=some vs
 | [],_,h=>h
 | x::xs,vs,h=>by
  rw[jZ] at h ⊢;cases e:x.ev F H with
  | none=>simp[e] at h
  | some v =>
   cases d:dH.evs F H xs with
   | none=>simp[d] at h
   | some i =>rw[e,d] at h;rw[aPW c e,mw c d];exact h
instance Up.ret (res:List dH) (R:PV→PH→Prop):Up (aX res R) where
 up {e} {F} {F'} {H} hl hh:=by
  cases e with
  | exit id=>exact hh
  | normal=>obtain⟨vs,c,d⟩:=hh; exact⟨vs,mw hl c,d⟩
  | ret=>obtain⟨vs,c,d⟩:=hh; exact⟨vs,mw hl c,d⟩
end
open Go Go.RowKit
def yX (R:PH→Prop):bV
 | .normal,_,H=>R H
 | _,_,_=>False
theorem bH.putObj {E:Env} {H:PH} {w:World} {l:Nat} {o o':Obj} (hW:bH E H w) (u:w.heap[l]?=some o) (y:∀ c t b,o≠.cells c t b) (A:H l=none):bH E H (w.putObj l o'):=by
 refine⟨fun b cs h=>?_,fun q x h=>?_,fun q n h=>?_⟩
 ·obtain⟨d,ty,fr,i⟩:=hW.g b cs h;have:b≠l:=fun e=>by rw[e,u] at i; exact y _ _ _ (by injection i)
  exact⟨d,ty,fr,(World.putObj_heap_other this).trans i⟩
 ·obtain⟨d,i⟩:=hW.h q x h;have:q≠l:=fun e=>by rw[e,A] at h; cases h
  exact⟨by rw[World.putObj_size]; exact d,i.mono (.refl E) (World.putObj_heap_other this)⟩
 ·obtain⟨p,ty,fr,d,i⟩:=hW.s q n h;have:q≠l:=fun e=>by rw[e,u] at d; exact y _ _ _ (by injection d)
  exact⟨p,ty,fr,(World.putObj_heap_other this).trans d,i⟩
theorem bH.setObj {E:Env} {H:PH} {w:World} {l:Nat} {o:Obj} {x:bY} (hW:bH E H w) (i:w.heap[l]?=some o) (u:∀ c t b,o≠.cells c t b) (A:KB E w l x):bH E (H.set l x) w:=by
 refine⟨fun b cs h=>?_,fun q y h=>?_,hW.s⟩
 ·obtain⟨p,ty,fr,d⟩:=hW.g b cs h;have:¬ b=l:=fun e=>by rw[e,i] at d; exact u _ _ _ (by injection d)
  refine⟨fun y B=>p y ?_,ty,fr,d⟩
  rwa [aV,if_neg this] at B
 ·rw[aV] at h;split at h
  ·rename_i e;cases h;subst e;exact⟨(a4Q.1 i).1,A⟩
  ·exact hW.h q y h
theorem atP {c:Code} {l m:Nat} {P:Program} {Q:Exit→Act→World→Prop} {d tm':Array Value} {ds:List Deferred} {w:World} (e:d=tm') (h:c.wpIn (Fz (some l)) m P Q { tmps:=tm',defers:=ds } w):c.wpIn (Fence.wide.inRound l) m P Q { tmps:=d,defers:=ds } w:=by
 subst e; exact h
section
variable {C:Ctx} {T:Tbl}
theorem Pd (V:C.P=T.P) (N:C.num=T.num) {n t l:Nat} {J K:Code} {ζ Q:aC} (h1:T.code n J=some ζ) (h2:T.code n K=some Q) (ht:t<n) {F:PF} {x:PV} {H:PH} {R:PH→Prop} (hl:H l=none)
  (Φ:ζ.wp C (gX C (Q.wp C) (yX R)) (F.set t x) H) :
  CN C l [x] (H.set l (.loop F n t J K)) (fun r H'=>r=.bool true∧∃ H2,R H2∧H2 l=none∧H'=H2.set l (.loop F n t J K)):=by
 intro E w vs hN hW Ξ;obtain⟨vl⟩:=vs;cases Ξ with
 | cons e1 e2 =>
 cases e2;rename_i v;obtain⟨hlt,rec,U,O,ε,δ,ι,κ,σ,hF⟩:=hW.h l (.loop F n t J K) (by rw[cP]);have Δ:bH E H w:=hW.weaken fun o y ho=>by
  have:¬ o=l:=fun e=>by rw[e,hl] at ho; cases ho
  rw[aV,if_neg this]; exact ho
 refine⟨rec.fn,_,rec.assign,rec.body,run_yield U (by rw[δ]; rfl),?_⟩;rw[ι,κ,δ];refine roundIn_of_wpIn (F:=Fence.wide) trivial ?_;have hA:cX [] n E (F.set t x) { tmps:=rec.tmps.setIfInBounds t v,defers:=[] }:=by
  refine⟨by simp[σ],rfl,fun i pv hi=>?_⟩;rw[kC] at hi;split at hi
  ·rename_i e;cases hi;subst e;simp only[a5B];rw[Array.getElem?_setIfInBounds_self_of_lt Om];exact e1
  ·rename_i e;simp only[a5B];rw[Array.getElem?_setIfInBounds_ne (fun h=>e h.symm),← a5B];exact hF i pv hi
 rw[V];refine atP (tm':=rec.tmps.setIfInBounds t v) (by simp) ?_;refine oV (ro:=some l) (fu:=0) V N J ζ (gX C (Q.wp C) (yX R)) _ E (F.set t x) H _ w h1 Φ hA Δ (hN.trans N) fun e E1 F1 H1 a1 B φ χ p X=>?_;cases e with
 | exit id=>exact X.elim
 | ret=>exact X.elim
 | normal =>
  have α:B.heap[l]?=some (.loop rec):=(p.block l hlt hl).trans U;have W:H1 l=none:=by
   cases hh:H1 l with
   | none=>rfl
   | some y =>
    rcases p.new l y hh with ⟨z,A⟩ | hge
    ·rw[hl] at A; cases A
    ·omega
  refine⟨_,run_beginRound α O,?_⟩;have ψ:=χ.putObj (o':=.loop { rec with state:=.busy }) α (fun _ _ _ h=>by cases h) W;have S:l<B.heap.size:=(a4Q.1 α).1;have Λ:(B.putObj l (.loop { rec with state:=.busy })).heap[l]?=some (.loop { rec with state:=.busy }):=World.putObj_heap_same S;have τ:(B.putObj l (.loop { rec with state:=.busy })).heap.size=B.heap.size:=World.putObj_size;have γ:∀ b,b≠l→(B.putObj l (.loop { rec with state:=.busy })).heap[b]?=B.heap[b]?:=fun b hb=>World.putObj_heap_other hb;have ρ:(B.putObj l (.loop { rec with state:=.busy })).os=B.os:=rfl;have υ:(B.putObj l (.loop { rec with state:=.busy })).tape=B.tape:=rfl;have ο:(B.putObj l (.loop { rec with state:=.busy })).output=B.output:=rfl;generalize B.putObj l (.loop { rec with state:=.busy })=w2 at *
  refine oV (ro:=some l) (fu:=0) V N K Q (yX R) _ E1 F1 H1 a1 w2 h2 X φ ψ (p.env.num.trans (hN.trans N)) fun e2 E2 F2 H2 a2 w3 Ψ ω u Y=>?_;cases e2 with
  | exit id=>exact Y.elim
  | ret=>exact Y.elim
  | normal =>
   have β:w3.heap[l]?=some (.loop { rec with state:=.busy }):=(u.block l (by rw[τ]; exact S) W).trans Λ;have ξ:l<w3.heap.size:=(a4Q.1 β).1;have θ:H2 l=none:=by
    cases hh:H2 l with
    | none=>rfl
    | some y =>
     rcases u.new l y hh with ⟨z,A⟩ | hge
     ·rw[W] at A; cases A
     ·omega
   have η:({ { rec with state:=.busy } with state:=if (none:Option Code).isNone then .ready else .done,pending:=none }:Loop)=rec:=by obtain⟨a,b,c,d,e,f,g,h⟩:=rec;simp only at O ε;subst O ε;rfl
   refine⟨_,_,run_endRound none β,?_⟩;rw[η];have Γ:=(ω.putObj (o':=.loop rec) β (fun _ _ _ h=>by cases h) θ);have ν:(w3.putObj l (.loop rec)).heap[l]?=some (.loop rec):=World.putObj_heap_same ξ;have μ:E.le E2:=p.env.trans u.env;refine⟨.bool true,.bool true,E2,H2.set l (.loop F n t J K),rfl,Γ.setObj ν (fun _ _ _ h=>by cases h) ⟨rec,ν,O,ε,δ,ι,κ,σ,fun i pv hi=>(hF i pv hi).mono μ⟩,.bool true,?_,rfl,H2,Y,θ,rfl⟩;refine⟨μ,?_,?_,?_,?_,fun b hb hn=>?_,fun o y ho=>?_,fun b cs hb=>?_⟩
   ·exact u.os.trans (ρ.trans p.os)
   ·exact u.tape.trans (υ.trans p.tape)
   ·exact u.output.trans (ο.trans p.output)
   ·have:=p.size;have:=u.size;rw[World.putObj_size];omega
   ·have Z:b≠l:=fun e=>by rw[e,cP] at hn; cases hn
    rw[aV,if_neg Z] at hn;have Θ:H1 b=none:=by
     cases hh:H1 b with
     | none=>rfl
     | some y =>
      rcases p.new b y hh with ⟨z,A⟩ | hge
      ·rw[hn] at A; cases A
      ·omega
    rw[World.putObj_heap_other Z,u.block b (by have:=p.size; omega) Θ,γ b Z,p.block b hb hn]
   ·rw[aV] at ho;split at ho
    ·rename_i e;exact .inl ⟨_,by rw[e,cP]⟩
    ·rename_i e;rcases u.new o y ho with ⟨z,A⟩ | hge
     ·rcases p.new o z A with ⟨z2,M⟩ | hge
      ·exact .inl ⟨z2,by rw[aV,if_neg e]; exact M⟩
      ·exact .inr hge
     ·have:=p.size;exact .inr Om
   ·rcases u.newG b cs hb with hg | ⟨z,A⟩ | hge
    ·rcases p.newG b cs hg with hg | ⟨z,A⟩ | hge
     ·exact .inl hg
     ·have e:¬ b=l:=fun e=>by rw[e,hl] at A; cases A
      exact .inr (.inl ⟨z,by rw[aV,if_neg e]; exact A⟩)
     ·exact .inr (.inr hge)
    ·rcases p.new b z A with ⟨z2,M⟩ | hge
     ·have e:¬ b=l:=fun e=>by rw[e,hl] at M; cases M
      exact .inr (.inl ⟨z2,by rw[aV,if_neg e]; exact M⟩)
     ·exact .inr (.inr hge)
    ·have:=p.size;exact .inr (.inr Om)
end
open Go Go.RowKit
abbrev tU (D:Nat):Deferred:={ target:=.collected D,args:=#[] }
theorem bH.alloc {E:Env} {H:PH} {w:World} (hW:bH E H w) (o:Obj):bH E H (w.alloc o):=by
 have e:(w.alloc o).heap.size=w.heap.size+1:=World.size_alloc w o;have c:∀ b,b<w.heap.size→(w.alloc o).heap[b]?=w.heap[b]?:=fun b hlt=>Below.heap_alloc w o b hlt;exact hW.same Om (fun b hlt _=>c b hlt) (fun q x d=>c q (hW.h q x d).1)
section
variable {C:Ctx} {T:Tbl} {ds:List Deferred} {fu:Nat}
theorem aOL {f:FuncId} {args:Array Value} {w:World} {P:Program} {fn:Func} (e:P.funcs[f]?=some fn) (i:fn.body.isSome=true) (d:(fn.name=="runtime.NumGoroutine")=false):(callFunc f args).run P w=.ok (.enter f args) w:=by
 have c:fn.body.isNone=false:=by cases h:fn.body<;>simp_all
 simp only[callFunc,Sem.run_bind,Sem.run_pure,Result.andThen_ok,run_program,e,d,c,a4K,if_false]
def Ak (C:Ctx) (name:Nat) (cs:List PV) (F:PF) (H:PH) (n t:Nat) (c d:Code) (e:PH→Prop):Prop :=
 ∀ l,H l=none→aF C name (uW l::cs) (H.set l (.loop F n t c d)) (fun _ H'=>∃ H2,e H2∧H2.le H'∧H2 l=none∧H' l=some (.loop F n t c d))
theorem N2 (β:C.P=T.P) (α:C.num=T.num) {n t name:Nat} {g:Operand} {pg:aN} {A B:Code} {cs:List PV} {E:Env} {F:PF} {H:PH} {a:Act} {w:World} {KH:PH→Prop} {Q:Exit→Act→World→Prop} (hg:T.opd g=some pg) (Γ:pg.ev F=some (.fn name cs))
  (Δ:Ak C name cs F H n t A B KH) (Z:cX ds n E F a) (hW:bH E H w) (hN:E.num=T.num)
  (hT:∀ D X H2 w',cX (tU D::ds) n X F { a with defers:=tU D::a.defers }→bH X H2 w'→Ext E H w X H2 w'→w'.heap[D]?=some (.deferred (some []))→H2 D=none→w.heap.size≤D→KH H2→Q .normal { a with defers:=tU D::a.defers } w') :
  (Code.rangeFunc g #[t] A B).wpIn (Fz none) fu T.P Q a w:=by
 have r:=bA hg Γ Z hN;generalize Ψ:a.eval g=vg at r;cases r with
 | fn vc ψ ω =>
 have K:∀ o x,H o=some x→o<w.heap.size:=fun o x ho=>(hW.h o x ho).1;have nD:H w.heap.size=none:=by
  cases h:H w.heap.size with
  | none=>rfl
  | some x=>have:=K _ x h; omega
 have nl:H (w.heap.size+1)=none:=by
  cases h:H (w.heap.size+1) with
  | none=>rfl
  | some x=>have:=K _ x h; omega
 obtain⟨⟨fn,hf,S,Θ⟩,U⟩:=Δ (w.heap.size+1) nl;rw[β] at hf;refine wpIn_rangeFunc fun ξ _=>?_;obtain⟨rec,N⟩:∃ rec:Loop,rec={ state:=.ready,pending:=none,fn:=ξ,tmps:=a.tmps,params:=#[t],assign:=A,body:=B,defers:=w.heap.size }:=⟨_,rfl⟩;obtain⟨d,c⟩:∃ d,(w.alloc (.deferred (some []))).alloc (.loop rec)=d:=⟨_,rfl⟩;have κ:(w.alloc (.deferred (some []))).heap.size=w.heap.size+1:=World.size_alloc _ _;have a':d.heap.size=w.heap.size+2:=by rw[← c,World.size_alloc,κ]
 have θ:∀ b,b<w.heap.size→d.heap[b]?=w.heap[b]?:=fun b S=>by rw[← c];exact (Below.heap_alloc _ _ b Om).trans (Below.heap_alloc _ _ b S)
 have ρ:d.heap[w.heap.size]?=some (.deferred (some [])):=by rw[← c];exact (Below.heap_alloc _ _ _ Om).trans (World.alloc_heap_new w _)
 have ζ:d.heap[w.heap.size+1]?=some (.loop rec):=by
  rw[← c];have:=World.alloc_heap_new (w.alloc (.deferred (some []))) (.loop rec)
  rwa [κ] at this
 have φ:bH E H d:=by rw[← c]; exact (hW.alloc _).alloc _
 have χ:bH E (H.set (w.heap.size+1) (.loop F n t A B)) d:=φ.setObj ζ (fun _ _ _ h=>by cases h) (by subst N;exact⟨_,ζ,rfl,rfl,rfl,rfl,rfl,Z.size,Z.t⟩);have Ξ:d.os=w.os:=by rw[← c]; rfl
 have Φ:d.tape=w.tape:=by rw[← c]; rfl
 have Λ:d.output=w.output:=by rw[← c]; rfl
 have M:C.num name=E.num name:=by rw[α,hN]
 refine⟨w.heap.size+1,[tU w.heap.size],d,{ target:=.fn (.func (E.num name)) vc,args:=#[.func (.yield (w.heap.size+1)) #[] #[]] },d,E.num name,#[Value.func (.yield (w.heap.size+1)) #[] #[]]++vc,d,?_,?_,?_,?_,?_,?_⟩
 ·rw[← c,N];exact run_enterLoop_outer _ _ _ _ _
 ·simp only[resolve,Ψ];simp[go_sem]
 ·exact fun _ _=>trivial
 ·simp only[invoke];exact aOL (by rw[← M]; exact hf) S Θ
 ·intro h; cases h
 ·have R:eI E (uW (w.heap.size+1)::cs) (#[Value.func (.yield (w.heap.size+1)) #[] #[]]++vc).toList:=by rw[Array.toList_append];exact .cons (.lit _) (eI.aFU (by simpa using ψ) fun j p u hp hu=>ω j p u hp (by simpa using hu))
  have hc:=U E d _ (hN.trans α.symm) χ R;rw[β,M] at hc;refine Fz.calls (hc.mono fun e w3 he=>?_);obtain⟨v,pv,X,H',rfl,ε,hr,l,H2,υ,V,J,τ⟩:=he;obtain⟨Ω,ν,η,μ,ι,-⟩:=ε.h _ _ τ;have W:w.heap.size≠w.heap.size+1:=Om;have σ:w3.heap[w.heap.size]?=some (.deferred (some [])):=(l.block _ Om (by rw[aV,if_neg W]; exact nD)).trans ρ;have δ:H' w.heap.size=none:=by
   cases hh:H' w.heap.size with
   | none=>rfl
   | some y =>
    rcases l.new _ y hh with ⟨z,O⟩ | hge
    ·rw[aV,if_neg W,nD] at O; cases O
    ·omega
  have γ:H2 w.heap.size=none:=by
   cases hh:H2 w.heap.size with
   | none=>rfl
   | some y=>rw[V _ y hh] at δ; cases δ
  refine⟨ν.pending,_,run_endLoop η (by rw[μ]; exact fun h=>by cases h),?_⟩;rw[ι];simp only;have ο:cX (tU w.heap.size::ds) n X F { a with defers:=tU w.heap.size::a.defers }:=⟨Z.size,by simp only; rw[Z.defers],fun i pv hi=>(Z.t i pv hi).mono l.env⟩;refine hT w.heap.size X H2 _ ο ((ε.weaken V).putObj η (fun _ _ _ h=>by cases h) J) ?_ ((World.putObj_heap_other W).trans σ) γ (a1O _) υ;refine⟨l.env,l.os.trans Ξ,l.tape.trans Φ,l.output.trans Λ,?_,fun b S hn=>?_,fun o y ho=>?_,fun b cs S=>?_⟩
  ·have:=l.size;rw[World.putObj_size]; omega
  ·have Y:b≠w.heap.size+1:=Om;rw[World.putObj_heap_other Y,l.block b Om (by rw[aV,if_neg Y]; exact hn),θ b S]
  ·have Y:o≠w.heap.size+1:=fun e=>by rw[e,J] at ho; cases ho
   rcases l.new o y (V o y ho) with ⟨z,O⟩ | hge
   ·rw[aV,if_neg Y] at O;exact .inl ⟨z,O⟩
   ·exact .inr Om
  ·rcases l.newG b cs S with h | ⟨z,O⟩ | hge
   ·exact .inl h
   ·by_cases Y:b=w.heap.size+1
    ·exact .inr (.inr Om)
    ·rw[aV,if_neg Y] at O;exact .inr (.inl ⟨z,O⟩)
   ·exact .inr (.inr Om)
end
open Go Go.RowKit
inductive oT where
 | seq (a:aC) (t:oT)
 | range (g:aN) (n t:Nat) (asg bdy:Code) (pas pbd rest:aC)
def oT.wp (C : Ctx) : oT → bV → PF → PH → Prop
  | .seq a t, K, F, H => a.wp C (gX C (t.wp C) K) F H
  | .range g n t asg bdy pas pbd rest, K, F, H => ∃ name cs KH, g.ev F = some (.fn name cs) ∧
      ((∀ (l : Nat) (x : PV) (J : PH) (J' : PH → Prop), J l = none → pas.wp C (gX C (pbd.wp C) (yX J')) (F.set t x) J →
        CN C l [x] (J.set l (.loop F n t asg bdy)) (fun r H' => r = .bool true ∧ ∃ H2, J' H2 ∧ H2 l = none ∧ H' = H2.set l (.loop F n t asg bdy))) → Ak C name cs F H n t asg bdy KH) ∧
      ∀ H2, KH H2 → rest.wp C K F H2
namespace Tbl
variable (T:Tbl)
def tail (n:Nat):Code→Option oT
 | .seq (.rangeFunc g ps c d) rest=>match T.opd g,T.code n c,T.code n d,T.code n rest with
  | some p,some e,some i,some u=>match ps.toList with
   | [t]=>if t<n then some (.range p n t c d e i u) else none
   | _=>none
  | _,_,_,_=>none
 | .seq (.seq a (.block _ (.rangeFunc g ps c d))) rest=>match T.code n a,T.opd g,T.code n c,T.code n d,T.code n rest with
  | some l,some p,some e,some i,some u=>match ps.toList with
   | [t]=>if t<n then some (.seq l (.range p n t c d e i u)) else none
   | _=>none
  | _,_,_,_,_=>none
 | .seq a b=>match T.code n a,tail n b with
  | some l,some w=>some (.seq l w)
  | _,_=>none
 | _=>none
end Tbl
section
variable {C:Ctx} {T:Tbl} {fu:Nat}
def xC (n:Nat) (E:Env) (H:PH) (w:World) (K:bV) (Q:Exit→Act→World→Prop):Prop :=
 ∀ ds,(ds=[]∨∃ D,ds=[tU D])→∀ e d i H' l c,cX ds n d i l→bH d H' c→Ext E H w d H' c→(∀ D,ds=[tU D]→c.heap[D]?=some (.deferred (some []))∧H' D=none∧w.heap.size≤D)→K e i H'→Q e.out l c
theorem xC.after {n:Nat} {E i:Env} {H H':PH} {w p:World} {K:bV} {Q:Exit→Act→World→Prop} (h:xC n E H w K Q) (l:Ext E H w i H' p):xC n i H' p K Q :=
 fun ds c e u x H2 a2 F y hW B d A=>h ds c e u x H2 a2 F y hW (l.trans B) (fun D hD=>⟨(d D hD).1,(d D hD).2.1,a2X l.size (d D hD).2.2⟩) A
theorem xC.plain {n:Nat} {E:Env} {H:PH} {w:World} {K:bV} {Q:Exit→Act→World→Prop} (h:xC n E H w K Q):KG [] n E H w K Q :=
 fun e c d H' i x l hW u p=>h [] (.inl rfl) e c d H' i x l hW u (fun D hD=>by cases hD) p
theorem ia (u:C.P=T.P) (p:C.num=T.num) {n t:Nat} {g:Operand} {pg:aN} {ps:Array Tmp} {d i rest:Code} {N O pr:aC} {K:bV} {Q Q0:Exit→Act→World→Prop} {E:Env} {F:PF} {H:PH} {a:Act} {w:World} (hQ:∀ a w,rest.wpIn (Fz none) fu T.P Q a w→Q0 .normal a w)
  (h1:T.opd g=some pg) (h2:T.code n d=some N) (h3:T.code n i=some O) (h4:T.code n rest=some pr) (h5:ps.toList=[t]) (ht:t<n)
  (α:(oT.range pg n t d i N O pr).wp C K F H) (hA:cX [] n E F a) (hW:bH E H w) (hN:E.num=T.num) (hT:xC n E H w K Q) :
  (Code.rangeFunc g ps d i).wpIn (Fz none) fu T.P Q0 a w:=by
 obtain⟨name,cs,KH,k1,k2,k3⟩:=α;have Z:ps=#[t]:=by obtain⟨l⟩:=ps;simp only at h5;subst h5;rfl
 subst Z;refine N2 (ds:=[]) u p h1 k1 (k2 fun l x J J' hJ hw=>Pd u p h2 h3 ht hJ hw) hA hW hN fun D E' H2 w' R X B hD M U W=>?_;refine hQ _ w' ?_;refine oV (ro:=none) (fu:=fu) (ds:=[tU D]) u p rest pr K Q E' F H2 _ w' h4 (k3 H2 W) R X (B.env.num.trans hN) fun e E3 F3 H3 a3 w3 S Y A V=>?_;refine hT [tU D] (.inr ⟨D,rfl⟩) e E3 F3 H3 a3 w3 S Y (B.trans A) (fun D' c=>?_) V;injection c with c _
 injection c with c _
 injection c with c
 subst c;have hlt:D<w'.heap.size:=(a4Q.1 hD).1;refine⟨(A.block D hlt M).trans hD,?_,U⟩;cases hh:H3 D with
 | none=>rfl
 | some y =>
  rcases A.new D y hh with ⟨z,hz⟩ | hge
  ·rw[M] at hz; cases hz
  ·omega
theorem acX (p:C.P=T.P) (l:C.num=T.num) {n:Nat}:∀ (c:Code) (t:oT) (K:bV) (Q:Exit→Act→World→Prop) (E:Env) (F:PF) (H:PH) (a:Act) (w:World),
  T.tail n c=some t→t.wp C K F H→cX [] n E F a→bH E H w→E.num=T.num→xC n E H w K Q→c.wpIn (Fz none) fu T.P Q a w:=by
 intro c
 induction c with
 | seq x y γ α =>
  intro t K Q E F H a w d J hA hW X B;unfold Tbl.tail at d;split at d
  ·rename_i g ps u A rest e;cases e;split at d
   ·rename_i pg M N pr V W Z e4;split at d
    ·rename_i t0 e5;split at d
     ·rename_i e6;cases d;exact wpIn_seq (ia p l (fun _ _ h=>h) V W Z e4 e5 e6 J hA hW X B)
     ·cases d
    ·cases d
   ·cases d
  ·rename_i a0 β g ps u A rest e;cases e;split at d
   ·rename_i Y pg M N pr e0 V W Z e4;split at d
    ·rename_i t0 e5;split at d
     ·rename_i e6;cases d;have i:Y.wp C (gX C ((oT.range pg n t0 u A M N pr).wp C) K) F H:=J;refine wpIn_seq (wpIn_seq (oV (ro:=none) (fu:=fu) (ds:=[]) p l a0 Y (gX C ((oT.range pg n t0 u A M N pr).wp C) K) _ E F H a w e0 i hA hW X fun e O R H' S U g1 g2 g3 g4=>?_));cases e with
      | normal=>exact wpIn_block (ia p l (fun _ _ h=>h) V W Z e4 e5 e6 g4 g1 g2 (g3.env.num.trans X) (B.after g3))
      | exit id=>exact B.plain (.exit id) O R H' S U g1 g2 g3 g4
      | ret=>exact B.plain .ret O R H' S U g1 g2 g3 g4
     ·cases d
    ·cases d
   ·cases d
  ·rename_i a0 b0 _ _ e;cases e;split at d
   ·rename_i Y tb V W;cases d;have i:Y.wp C (gX C (tb.wp C) K) F H:=J;refine wpIn_seq (oV (ro:=none) (fu:=fu) (ds:=[]) p l x Y (gX C (tb.wp C) K) _ E F H a w V i hA hW X fun e O R H' S U g1 g2 g3 g4=>?_);cases e with
    | normal=>exact α tb K Q O R H' S U W g4 g1 g2 (g3.env.num.trans X) (B.after g3)
    | exit id=>exact B.plain (.exit id) O R H' S U g1 g2 g3 g4
    | ret=>exact B.plain .ret O R H' S U g1 g2 g3 g4
   ·cases d
  ·cases d
 | _=>intro t K Q E F H a w d; simp[Tbl.tail] at d
end
structure xB where
 nparams:Nat
 ntmps:Nat
 body:oT
 res:List dH
namespace Tbl
variable (T:Tbl)
def Yw (fn:Func):Option xB :=
 match fn.body with
 | some c=>match T.tail fn.ntmps c,T.mr fn.results.toList with
  | some b,some rs=>some ⟨fn.params.size,fn.ntmps,b,rs⟩
  | _,_=>none
 | none=>none
end Tbl
theorem Yj {C:Ctx} {T:Tbl} {H:PH} (J:C.P=T.P) (F:C.num=T.num) {name:Nat} {args:List PV} {R:PV→PH→Prop} {fn:Func} {Y:xB} (hf:C.P.funcs[C.num name]?=some fn) (δ:(fn.name=="runtime.NumGoroutine")=false)
  (d:T.Yw fn=some Y) (O:args.length≤Y.ntmps) (h:Y.body.wp C (aX Y.res R) (PF.args args) H):aF C name args H R:=by
 unfold Tbl.Yw at d;split at d
 ·rename_i c X;split at d
  ·rename_i b rs x A;cases d;refine⟨⟨fn,hf,by simp[X],δ⟩,fun E w vs hN hW U=>?_⟩;have η:vs.size=args.length:=by simpa using U.len
   refine (callsIn_wide (n:=0)).1 (callsIn_of_wp_marks hf X trivial ?_ rfl);rw[J];have hA:cX [] fn.ntmps E (PF.args args) { tmps:=vs++a3G (fn.ntmps-vs.size) undef,defers:=[] }:=by
    refine⟨by simp only at O; simp; omega,rfl,fun i pv hi=>?_⟩;have y:i<vs.size:=by
     rw[η];rcases a2D i args.length with h' | h'
     ·exact h'
     ·simp[PF.args,a2Z h'] at hi
    simp only[a5B];rw[Array.getElem?_append_left y,a4T y];exact U.at_ i pv _ hi (by simp[y])
   refine acX (fu:=0) J F c b (aX rs R) _ E (PF.args args) H _ w x h hA hW (hN.trans F) fun ds β e l F' H' W u B K p hm hK=>?_;have fin:∀ Z,bH l H' Z→Ext E H w l H' Z→aX rs R .ret F' H'→LeavesIn Fence.wide 0 T.P fn W.tmps (fun e u=>∃ v pv l H',e=.returned v∧bH l H' u∧aY l pv v∧Ext E H w l H' u∧R pv H') [] .returning Z:=by
    rintro Z M α ⟨θ,Q,F1,H1,H2,γ,N,v0,ζ,hR⟩;obtain⟨us,g1,g2⟩:=IC B M fn.results.toList rs θ A Q;have ε:=gx g2;obtain⟨E2,k1,k2,k3⟩:=γ.sound M;have S:=k3 (fun _=>if h:us.toArray.size=1 then us.toArray[0] else .tuple us.toArray) (fun i pv hi=>by
     simp only[PF.set,upd] at hi;split at hi
     ·cases hi; exact ε
     ·cases hi) 0 v0 ζ
    refine⟨_,?_,_,v0,E2,H2,rfl,k1.weaken N,S,(α.trans k2).drop N,hR⟩;rw[ie,Array.mapM_eq_mapM_toList];simp[g1]
   have V:aX rs R .ret F' H'→bodyPostM Fence.wide 0 T.P fn (fun e u=>∃ v pv l H',e=.returned v∧bH l H' u∧aY l pv v∧Ext E H w l H' u∧R pv H') .ret W u:=by
    intro hr;show LeavesInM Fence.wide 0 T.P fn W.tmps _ W.defers .returning u;rw[B.defers];rcases β with rfl | ⟨D,rfl⟩
    ·exact fin u K p hr
    ·obtain⟨m1,m2,m3⟩:=hm D rfl;refine⟨(fun h=>by cases h),.inl ⟨D,_,rfl,run_takeDeferred m1,?_⟩⟩;refine fin _ (K.putObj m1 (fun _ _ _ h=>by cases h) m2) ⟨p.env,p.os,p.tape,p.output,?_,fun b X hn=>?_,p.new,p.newG⟩ hr
     ·rw[World.putObj_size]; exact p.size
     ·rw[World.putObj_heap_other Om]; exact p.block b X hn
   cases e with
   | normal=>exact V hK
   | exit id=>exact hK.elim
   | ret=>exact V hK
  ·cases d
 ·cases d
end Go.PM
namespace Go.PM
open Go
def YI (C:Ctx) (k:Nat) (c:xB):Prop:=∀ (args:List PV) (H:PH) (R:PV→PH→Prop),args.length≤c.ntmps→c.body.wp C (aX c.res R) (PF.args args) H→aF C k args H R
theorem YI.go {C:Ctx} {k:Nat} {c:xB} (r:YI C k c) {args:List PV} {H:PH} {R:PV→PH→Prop} (h:c.body.wp C (aX c.res R) (PF.args args) H) (d:Nat.ble args.length c.ntmps=true):aF C k args H R:=r args H R (Nat.le_of_ble_eq_true d) h
end Go.PM
