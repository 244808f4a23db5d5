/-
  Texts of ours, joined. No condition.
-/
import Derived.Test.YtkknafmijabgaaaGreatDoorFS1
import Derived.Test.YtkknafmijabgaaaGreatDoorFS2
import Derived.Test.YtkknafmijabgaaaGreatDoorFS3
import Derived.RangeFuncRecord
set_option linter.unusedSimpArgs false
set_option linter.unusedVariables false
open Nat renaming reduceEqDiff → γ, reduceAdd → δ, reduceSub → ε, reduceMul → ζ, reduceLT → η, reduceLeDiff → θ, reduceBEq → τ
open Int renaming reduceLT → ι, reduceLE → κ, reduceEq → μ, reduceToNat → ν, reduceAdd → ξ, reduceNeg → ο, reduceBEq → ρ, reduceBNe → σ
open List renaming reduceReplicate → υ
open List renaming length_map → aGK, replicate → aGM, length_append → aGO, getElem_mem → aGP, length_singleton → aGR, getElem?_eq_getElem → aGS, getD_eq_getElem?_getD → aGU, mem_cons → aGV, length_take → aGY, take_of_length_le → aGZ, not_mem_nil → aHH, mem_map → aHJ, append_assoc → aHN, getElem?_eq_some_iff → aHP, map_cons → aHR, take_length → aHV, drop_zero → aHW, map_append → aHX, append_nil → aHY, getElem?_eq_none → aHZ, all_eq_true → aIA, length_drop → aIE, length_cons → aIF, mem_of_getElem? → aII, getElem?_append_left → aIK, length_set → aIO, Sublist → aIQ, length_nil → aIV, map_nil → aIW, drop_eq_getElem_cons → aIZ, Perm → aJG, take_append_drop → aJH, nil_append → aJX, set_append_right → aKB, drop_of_length_le → aKG, sublist_append_left → aKI, length_replicate → aKK
open Nat renaming le_refl → aGQ, zero_le → aGW, mul_add → aGX, lt_or_ge → aHD, zero_add → aHE, mul_assoc → aHI, mul_comm → aHL, mul_le_mul_right → aHO, add_mul → aHT, mod_eq_of_lt → aIB, add_zero → aIC, mod_lt → aIG, pow_succ → aIL, eq_zero_or_pos → aIS, min_eq_left → aIT, add_assoc → aJB, le_trans → aJC, mul_le_mul_left → aJD, pos_of_ne_zero → aJE, pow_pos → aJL, div_eq_of_lt → aJR, div_le_self → aJS, div_lt_iff_lt_mul → aJT, mul_le_mul → aJU, div_add_mod → aKC
open Option renaming map_eq_some_iff → aGT, some → aIU
open Bool renaming and_eq_true → aHC, false_eq_true → aJP
open Array renaming getElem?_eq_some_iff → aKJ
namespace Go.PM
open Go Go.Na
def Wb (G:GE) (v:PV) (mc:Nat) (s':GS) (r:PV) (B':List BX) (L':List LI):Prop:=r=.tup []∧∃ e j,B'=G.boxes v mc e j s'.a∧L'=mT s' e j
def ap (C:Ctx) (l:List Nat) (v:PV) (mc aEW k:Nat):Prop :=
 ∀ (G:GE) (j u:PV) (s:GS) (dom:Nat) (x:cU),GOk l aEW s→s.aFG[dom]?=some x→x.level=4-(k:Int)→∀ e,aL e (G.boxes v mc j u s.a) (mT s j u) →
  aG C 7 [.ptr G.o 2 0 0,.ptr G.fo 7 0 0,.int .i64 dom,.int .i64 aEW] e (fun r H'=>∃ B' L',Wb G v mc (fA l mc aEW k dom s) r B' L'∧aL H' B' L')
theorem acN {e:Nat} (h:e≤4):([45,115,114,107,109]:List UInt8)[e]?=some (mD e):=by
 match e,h with
 | 0,_=>rfl
 | 1,_=>rfl
 | 2,_=>rfl
 | 3,_=>rfl
 | 4,_=>rfl
theorem TT {C:Ctx} {l:List Nat} {v:PV} (G:GE) (mc aEW dom A n i k p:Nat) (γ:A=4-k) (hk:k<4) (y:ap C l v mc aEW k) (g:GS) (x:cU) (a:Nat) (W:GOk l aEW { g with aFG:=g.aFG++[x],a:=a }) (hx:x.level=(A:Nat)) (X w:PV) (β:aEW≤60) (K:cG) (F:PF) (H:PH)
  (j:(fH G dom aEW A n i).le F) (f11:F 11=some (.ptr p 7 0 0)) (J:aL H (G.boxes v mc X w a++[(p,.rows 7 [x.cells])]) (mT g X w))
  (hK:∀ u B U H',(fH G dom aEW A n i).le U→aL H' (G.boxes v mc u B (fA l mc aEW k g.aFG.length { g with aFG:=g.aFG++[x],a:=a }).a) (mT (fA l mc aEW k g.aFG.length { g with aFG:=g.aFG++[x],a:=a }) u B)→K .normal U H') :
  aE.wp C (.draw OO) (kL C (aE.wp C (.region OP)) K) F H:=by
 have f0:F 0=some (.ptr G.o 2 0 0):=j 0 _ (by unfold fH; simp only[go_sem]);have f1:F 1=some (.ptr G.fo 7 0 0):=j 1 _ (by unfold fH; simp only[go_sem]);have f2:F 2=some (.int .i64 dom):=j 2 _ (by unfold fH; simp only[go_sem]);have f3:F 3=some (.int .i64 aEW):=j 3 _ (by unfold fH; simp only[go_sem]);have f8:F 8=some (.int .i64 A):=j 8 _ (by unfold fH; simp only[go_sem]);have f9:F 9=some (.int .i64 n):=j 9 _ (by unfold fH; simp only[go_sem]);have α:F 10=some (.int .i64 i):=j 10 _ (by unfold fH; simp only[go_sem]);have O:=W.aFG;simp only[aGO,aGR] at O;have Z:=J.at 1 rfl;have b2:=J.at 2 rfl;have E:(1:Nat)*7≤16777216:=by decide
 refine bP .nil dD a_ ?_;simp only[go_sem,OO,f1,f11,Z,b2,E,aGV,aHH,or_false,forall_eq,forall_eq_or_imp];refine J.append 0 (src:=[x.cells]) rfl rfl (by unfold roomFor; rw[aGK]; simp only[aGR,maxLen]; omega) fun u H2 I hw=>?_;obtain⟨q,rfl⟩:=hw (by simp);have hl:(kI g.aFG++[x.cells]).length=g.aFG.length+1:=by simp
 rw[hl] at I ⊢;have c1:=I.at 1 rfl;refine⟨a_,?_⟩;simp only[go_sem,c1,aGV,aHH,or_false,forall_eq];have V:=I.set 1 rfl (flB G.ext G.wl (.osl G.qm 4 0 mc) (.osl q 7 0 (g.aFG.length+1)) w G.wp G.wv);have c2:=V.at 1 rfl;refine⟨a_,?_⟩;have e:kI (g.aFG++[x])=kI g.aFG++[x.cells]:=by simp[kI]
 have ew:IntKind.i64.wrap (((g.aFG.length+1:Nat):Int)-1)=(g.aFG.length:Int):=by rw[wrap_i64 Om Om]; omega
 simp only[go_sem,OP,f0,f1,f3,ew];have h4:aL (H2.set G.fo (flB G.ext G.wl (.osl G.qm 4 0 mc) (.osl q 7 0 (g.aFG.length+1)) w G.wp G.wv)) (G.boxes v mc (.osl q 7 0 (g.aFG.length+1)) w a++[(p,.rows 7 [x.cells])]) (mT { g with aFG:=g.aFG++[x],a:=a } (.osl q 7 0 (g.aFG.length+1)) w++[]):=by unfold mT;simp only;rw[e];exact V
 refine FP h4 (fun Y N=>y G _ w { g with aFG:=g.aFG++[x],a:=a } g.aFG.length x W (by simp) (by rw[hx]; omega) Y N) rfl ?_;rintro r B' L' H' ⟨rfl,R,S,rfl,rfl⟩ M;refine hK R S _ _ ?_ (M.sub (aKI ..) (by rw[aHY]; exact aIQ.refl _));unfold fH;exact Lq
theorem MJ {C:Ctx} (V:nU C) {l:List Nat} {v:PV} (T:Tp l v) (G:GE) (mc aEW dom n k:Nat) (hk:k<4) (X:aEW≤60) (hn:n≤10) (R:ap C l v mc aEW k) (s:GS) (hs:GOk l aEW s) (ζ:0<s.aFG.length) (N O:PV) (K:cG) (F:PF) (H:PH)
  (hF:(fH G dom aEW (4-k) n 0).le F) (E:aL H (G.boxes v mc N O s.a) (mT s N O))
  (hK:∀ e A B y H',(e=.exit 0∨e=.ret)→aL H' (G.boxes v mc A B (gZ l (4-k) aEW dom (fA l mc aEW k) s n).a) (mT (gZ l (4-k) aEW dom (fA l mc aEW k) s n) A B)→K e y H') :
  aE.wp C (.loop xG) K F H:=by
 obtain⟨j,U⟩:∃ j,j=4-k:=⟨_,rfl⟩;rw[← U] at hF hK;refine wp_loop (α:=Nat × PV × PV × PH) (fun t=>fH G dom aEW j n t.1) (fun t=>t.2.2.2) (fun t=>t.1≤n∧aL t.2.2.2 (G.boxes v mc t.2.1 t.2.2.1 (gZ l j aEW dom (fA l mc aEW k) s t.1).a) (mT (gZ l j aEW dom (fA l mc aEW k) s t.1) t.2.1 t.2.2.1)) (fun t=>n-t.1) (0,N,O,H) ⟨aGW _,E⟩ hF b_ ?_;rintro⟨i,N,O,H0⟩ ⟨hi,E⟩;simp only at hi E ⊢;obtain⟨Z,u,gu⟩:=WV (level:=j) (dom:=dom) (fun d t ht=>IC (mc:=mc) k d ht) hs i;have J:=fun h=>Xm (l:=l) (level:=j) (aEW:=aEW) (dom:=dom) (rec:=fA l mc aEW k) (s:=s) (i:=i) h n hi;have x:gZ l j aEW dom (fA l mc aEW k) s (i+1)=(if qP aEW (gZ l j aEW dom (fA l mc aEW k) s i) then gZ l j aEW dom (fA l mc aEW k) s i else fA l mc aEW k ((oC l j dom (gZ l j aEW dom (fA l mc aEW k) s i)).aFG.length-1) (oC l j dom (gZ l j aEW dom (fA l mc aEW k) s i))):=rfl;simp only[go_sem,xG,XT,fH];by_cases hlt:i<n
 ·have M:(i:Int)<(n:Nat):=Om;generalize hg:gZ l j aEW dom (fA l mc aEW k) s i=g at *
  have ε:0<g.aFG.length:=by rw[gu,aGO]; omega
  have b1:=E.at 1 rfl;have lr:=(E.own 1 rfl).uD;have ld:=(E.own 0 rfl).uD;rw[aGK] at lr ld;have ei:=wZz i;simp only[go_sem,M,XU,bB (Om:((j:Nat):Int)≠5),re,b1,lr];by_cases c1:aEW≤g.aFQ.length
  ·have W:qP aEW g=true:=by unfold qP; simp[c1]
   simp only[go_sem,show (g.aFQ.length:Int)≥(aEW:Nat) by omega];exact hK _ N O _ _ (.inr rfl) (by rw[J W]; exact E)
  simp only[go_sem,show ¬ (g.aFQ.length:Int)≥(aEW:Nat) by omega,b1,ld];by_cases c2:35≤g.aFG.length
  ·have W:qP aEW g=true:=by unfold qP; simp[c2]
   simp only[go_sem,show (g.aFG.length:Int)≥35 by omega];exact hK _ N O _ _ (.inr rfl) (by rw[J W]; exact E)
  have W:qP aEW g=false:=by unfold qP; simp[c1,c2]
  rw[if_neg (by rw[W]; decide)] at x;simp only[go_sem,show ¬ (g.aFG.length:Int)≥35 by omega];have ls:=acN (Om:j≤4);refine bP .nil (mkS l v) a_ ?_;have γ:pW [[PV.int IntKind.u8 (((mD j).toNat:Nat):Int)]]=some [mD j]:=by simp[pW]
  obtain⟨Y,x0,β,-⟩:=O7 (level:=j) (dom:=dom) Z W;have δ:(oC l j dom g).aFG.length-1=g.aFG.length:=by rw[β]; simp
  rw[δ] at x;have h1:=E.set 0 rfl (aR v (aD l 16 g.a).2);have a1:=bD l 16 Z.a;have n1:=bU l (show 0<16 by decide) g.a;have e1:IntKind.i64.wrap (1+((aD l 16 g.a).1:Int))=((1+(aD l 16 g.a).1:Nat):Int):=by rw[wrap_i64 Om Om]; omega
  simp only[go_sem,rg,ls,γ,b1,ld];refine HD V.totP (s:=[mD j]) (n:=g.aFG.length) (by simp) (by have:=Z.aFG; omega) rfl a_ ?_;simp only[go_sem];refine sC V.totO T (o:=G.o) (n:=16) (a:=g.a) Om Z.a rfl (E.at 0 rfl) a_ ?_;simp only[go_sem,e1];refine apW V.totO (n:=0) (by unfold dV; omega) rfl a_ ?_;simp only[go_sem,aGV,aHH,or_false,forall_eq,forall_eq_or_imp];refine aQ fun p hp=>?_;have h2:=h1.new hp (.rows 7 [(⟨[mD j]++bW g.aFG.length,(j:Nat),(dom:Nat),(1+(aD l 16 g.a).1:Nat),kC⟩:cU).cells]);simp only[go_sem,aGV,aHH,or_false,forall_eq,forall_eq_or_imp];refine⟨a_,?_⟩;simp only[go_sem,rh];refine cR V.totO T (o:=G.o) (n:=3) (a:=(aD l 16 g.a).2) (by decide) a1 rfl (h2.at 0 rfl) ?_;have h3:=h2.set 0 rfl (aR v (aD l 3 (aD l 16 g.a).2).2);have a2:=bD l 3 a1;by_cases c3:(aD l 3 (aD l 16 g.a).2).1=0
  ·have hd:oC l j dom g={ g with aFG:=g.aFG++[⟨[mD j]++bW g.aFG.length,(j:Nat),(dom:Nat),(1+(aD l 16 g.a).1:Nat),mkT 1 ((2+(aD l 6 (aD l 3 (aD l 16 g.a).2).2).1:Nat):Int)⟩],a:=(aD l 6 (aD l 3 (aD l 16 g.a).2).2).2 }:=by unfold oC; simp only[c3,if_true]
   rw[hd] at x Y;have n2:=bU l (show 0<6 by decide) (aD l 3 (aD l 16 g.a).2).2;have e2:IntKind.i64.wrap (2+((aD l 6 (aD l 3 (aD l 16 g.a).2).2).1:Int))=((2+(aD l 6 (aD l 3 (aD l 16 g.a).2).2).1:Nat):Int):=by rw[wrap_i64 Om Om]; omega
   simp only[go_sem,bM (show (((aD l 3 (aD l 16 g.a).2).1:Nat):Int)=0 by omega),ri];refine cR V.totO T (o:=G.o) (n:=6) (a:=(aD l 3 (aD l 16 g.a).2).2) (by decide) a2 rfl (h3.at 0 rfl) ?_;have h4:=h3.set 0 rfl (aR v (aD l 6 (aD l 3 (aD l 16 g.a).2).2).2);rw[PH.set_set] at h4;simp only[go_sem,e2];refine aB (V.fmk 1 ((2+(aD l 6 (aD l 3 (aD l 16 g.a).2).2).1:Nat):Int) (by unfold dV; omega) (by unfold dV; omega)) rfl ?_;unfold xN;rw[if_neg Om];simp only[go_sem,show ¬ p=G.o from h4.ne 2 0 rfl rfl (by decide)];have h5:=h4.set 2 rfl (.rows 7 [(⟨[mD j]++bW g.aFG.length,(j:Nat),(dom:Nat),(1+(aD l 16 g.a).1:Nat),mkT 1 ((2+(aD l 6 (aD l 3 (aD l 16 g.a).2).2).1:Nat):Int)⟩:cU).cells])
   try simp only[nv]
   refine TT G mc aEW dom j n i k p U hk R g _ _ Y rfl N O X _ _ _ (by unfold fH; exact Lq) rfl h5 ?_;intro A B y H' w I;rw[← x] at I;have S:y 10=some (.int .i64 i):=w 10 _ (by unfold fH; simp only[go_sem]);have g0:y 0=some (.ptr G.o 2 0 0):=w 0 _ (by unfold fH; simp only[go_sem]);have g1:y 1=some (.ptr G.fo 7 0 0):=w 1 _ (by unfold fH; simp only[go_sem]);have g2:y 2=some (.int .i64 dom):=w 2 _ (by unfold fH; simp only[go_sem]);have g3:y 3=some (.int .i64 aEW):=w 3 _ (by unfold fH; simp only[go_sem]);have g8:y 8=some (.int .i64 j):=w 8 _ (by unfold fH; simp only[go_sem]);have g9:y 9=some (.int .i64 n):=w 9 _ (by unfold fH; simp only[go_sem]);simp only[go_sem,xH,S,ei];refine aH (i+1,A,B,H') ⟨hlt,I⟩ (by simp only; omega) ?_ b_;exact Lq
  ·have hd:oC l j dom g={ g with aFG:=g.aFG++[⟨[mD j]++bW g.aFG.length,(j:Nat),(dom:Nat),(1+(aD l 16 g.a).1:Nat),kC⟩],a:=(aD l 3 (aD l 16 g.a).2).2 }:=by unfold oC; simp only[c3,if_false]
   rw[hd] at x Y;simp only[go_sem,bB (show ¬ (((aD l 3 (aD l 16 g.a).2).1:Nat):Int)=0 by omega)]
   try simp only[nv]
   refine TT G mc aEW dom j n i k p U hk R g _ _ Y rfl N O X _ _ _ (by unfold fH; exact Lq) rfl h3 ?_;intro A B y H' w I;rw[← x] at I;have S:y 10=some (.int .i64 i):=w 10 _ (by unfold fH; simp only[go_sem]);have g0:y 0=some (.ptr G.o 2 0 0):=w 0 _ (by unfold fH; simp only[go_sem]);have g1:y 1=some (.ptr G.fo 7 0 0):=w 1 _ (by unfold fH; simp only[go_sem]);have g2:y 2=some (.int .i64 dom):=w 2 _ (by unfold fH; simp only[go_sem]);have g3:y 3=some (.int .i64 aEW):=w 3 _ (by unfold fH; simp only[go_sem]);have g8:y 8=some (.int .i64 j):=w 8 _ (by unfold fH; simp only[go_sem]);have g9:y 9=some (.int .i64 n):=w 9 _ (by unfold fH; simp only[go_sem]);simp only[go_sem,xH,S,ei];refine aH (i+1,A,B,H') ⟨hlt,I⟩ (by simp only; omega) ?_ b_;exact Lq
 ·have M:¬ (i:Int)<(n:Nat):=Om;have:i=n:=Om;subst this;simp only[go_sem,M];exact hK _ N O _ _ (.inl rfl) E
theorem Gr {C:Ctx} (O:nU C) {l:List Nat} {v:PV} (T:Tp l v) (mc aEW k:Nat) (V:0<mc) (J:mc≤1000) (E:aEW≤60) (hk:k≤4) (M:∀ k',k=k'+1→ap C l v mc aEW k') (G:GE) (X N:PV) (s:GS) (dom:Nat) (x:cU)
  (R:GOk l aEW s) (Z:s.aFG[dom]?=some x) (hl:x.level=4-(k:Int)) (S:PH) (I:aL S (G.boxes v mc X N s.a) (mT s X N)) :
  yO.wp C (aT y6.res (fun r H'=>∃ B' L',Wb G v mc (fA l mc aEW k dom s) r B' L'∧aL H' B' L')) (PF.args [.ptr G.o 2 0 0,.ptr G.fo 7 0 0,.int .i64 dom,.int .i64 aEW]) S:=by
 have B:dom<s.aFG.length:=(aHP.1 Z).1;have b1:=I.at 1 rfl;have fin:∀ (e:kE) (j u:PV) (y:PF) (H':PH),(e=.exit 0∨e=.ret)→aL H' (G.boxes v mc j u (fA l mc aEW k dom s).a) (mT (fA l mc aEW k dom s) j u) →
   fF 0 (aT y6.res (fun r H'=>∃ B' L',Wb G v mc (fA l mc aEW k dom s) r B' L'∧aL H' B' L')) e y H':=by
  intro e j u y H' he w;rcases he with rfl | rfl
  ·rw[CZ,if_pos rfl];exact aU (vs:=[]) (.inl rfl) H' rfl b_ ⟨_,_,⟨rfl,j,u,rfl,rfl⟩,w⟩
  ·exact aU (vs:=[]) (.inr rfl) H' rfl b_ ⟨_,_,⟨rfl,j,u,rfl,rfl⟩,w⟩
 obtain⟨q,rs,e1,e2,e3,e4⟩:∃ q rs,X=.osl q 7 0 s.aFG.length∧S q=some (.rows 7 rs)∧s.aFG.length≤rs.length∧rs.take s.aFG.length=kI s.aFG:=by
  rcases I.own 0 rfl with ⟨A,_⟩ | ⟨q,rs,A,h2,h3,h4⟩
  ·have:=congrArg List.length A;rw[aGK] at this;simp at this; rw[this] at B; simp at B
  ·rw[aGK] at A h3 h4;exact⟨q,rs,A,h2,h3,h4⟩
 have W:rs[dom]?=some x.cells:=by
  have:(kI s.aFG)[dom]?=some x.cells:=by simp[kI,Z]
  rw[← e4,List.getElem?_take_of_lt B] at this;exact this
 subst e1;have c1:(dom:Int)<(s.aFG.length:Nat):=Om;have ew:IntKind.i64.wrap (x.level+1)=((5-k:Nat):Int):=by rw[hl,wrap_i64 Om Om]; omega
 have β:=bU l (show 0<2 by decide) s.a;have en:IntKind.i64.wrap (1+((aD l 2 s.a).1:Int))=((1+(aD l 2 s.a).1:Nat):Int):=by rw[wrap_i64 Om Om]; omega
 have A:=I.set 0 rfl (aR v (aD l 2 s.a).2);have F:GOk l aEW { s with a:=(aD l 2 s.a).2 }:=⟨R.aFG,R.aFQ,bD l 2 R.a⟩;have α:¬ q=G.o:=fun h=>I.neL 0 0 rfl rfl rfl h.symm;simp only[go_sem,yO,Gs,b1,c1,e2,W,ew,Gt];refine cR O.totO T (o:=G.o) (n:=2) (a:=s.a) (by decide) R.a (by simp only[go_sem]; rfl) (I.at 0 rfl) ?_;simp only[go_sem,en,Gu];cases k with
 | zero =>
  simp only[go_sem,bB (Om:¬ ((5-0:Nat):Int)=2),JH];refine Gq (C:=C) O T G mc aEW dom (1+(aD l 2 s.a).1) V J E Om { s with a:=(aD l 2 s.a).2 } F _ N _ _ _ ?_ A ?_
  ·unfold fH;exact Lq
  ·intro j u y H' w;exact fin _ j u y H' (.inl rfl) w
 | succ k =>
  have K:=M k rfl;by_cases Y:4-k=2
  ·have U:fA l mc aEW (k+1) dom s=gZ l (4-k) aEW dom (fA l mc aEW k) { s with a:=(aD l 2 s.a).2 } 1:=by simp only[fA,if_pos Y]
   simp only[go_sem,bM (show ((5-(k+1):Nat):Int)=2 by omega),Gv,JH];refine MJ (C:=C) O T G mc aEW dom 1 k Om E (by decide) K { s with a:=(aD l 2 s.a).2 } F (by simp only; omega) _ N _ _ _ ?_ A ?_
   ·unfold fH
    (repeat' (first|exact d_|refine c_ ?_ ?_))<;>first|(simp only[go_sem,show 4-k=5-(k+1) by omega]<;>rfl)|rfl
   ·intro e j u y H' he w;rw[← U] at w;exact fin e j u y H' he w
  ·have U:fA l mc aEW (k+1) dom s=gZ l (4-k) aEW dom (fA l mc aEW k) { s with a:=(aD l 2 s.a).2 } (1+(aD l 2 s.a).1):=by simp only[fA,if_neg Y]
   simp only[go_sem,bB (show ¬ ((5-(k+1):Nat):Int)=2 by omega),JH];refine MJ (C:=C) O T G mc aEW dom (1+(aD l 2 s.a).1) k Om E Om K { s with a:=(aD l 2 s.a).2 } F (by simp only; omega) _ N _ _ _ ?_ A ?_
   ·unfold fH
    (repeat' (first|exact d_|refine c_ ?_ ?_))<;>first|(simp only[go_sem,show 4-k=5-(k+1) by omega]<;>rfl)|rfl
   ·intro e j u y H' he w;rw[← U] at w;exact fin e j u y H' he w
theorem Ec {C:Ctx} (A:nU C) {l:List Nat} {v:PV} (T:Tp l v) (mc aEW:Nat) (w:0<mc) (j:mc≤1000) (u:aEW≤60)
  (B:∀ (args:List PV) (H:PH) (R:PV→PH→Prop),args.length=4→yO.wp C (aT y6.res R) (PF.args args) H→aG C 7 args H R):∀ k,k≤4→ap C l v mc aEW k
 | 0,h=>fun G K M s dom x I J F y E=>B _ _ _ rfl (Gr A T mc aEW 0 w j u h (fun _ e=>by omega) G K M s dom x I J F y E)
 | k+1,h=>fun G K M s dom x I J F y E=>B _ _ _ rfl (Gr A T mc aEW (k+1) w j u h (fun N e=>by have:N=k:=Om;subst this;exact Ec A T mc aEW w j u B N Om) G K M s dom x I J F y E)
theorem arV (l:List Nat) (eN:Nat) {a:Nat} (h:a≤l.length):(rF l eN a).2≤l.length:=(kx l (1+(aD l eN a).1) (bD l eN h) (1+(aD l eN a).1)).1
theorem IM (l:List Nat) {a:Nat} (h:a≤l.length):∀ k,(iJ l a k).2≤l.length∧(iJ l a k).1.length=k
 | 0=>⟨h,rfl⟩
 | k+1=>by obtain⟨e,j⟩:=IM l h k;exact⟨arV l 2 e,by simp only[iJ,aGO,aGR,j]⟩
theorem yQ (l:List Nat) (aFE:Nat) {a:Nat} (h:a≤l.length):∀ k,(eQ l aFE a k).2≤l.length∧(eQ l aFE a k).1.length=k
 | 0=>⟨h,rfl⟩
 | k+1=>by obtain⟨e,j⟩:=yQ l aFE h k;exact⟨bD l aFE (bD l 8 (bD l 4 e)),by simp only[eQ,aGO,aGR,j]⟩
structure FE where
 o:Nat
 o6:Nat
 o7:Nat
 aEW:Nat
 aEY:Nat
abbrev flZ:bG:=flB (.int .i64 0) .aA .aA .aA .aA .aA .aA
abbrev FE.boxes (E:FE) (v ext e j l u w x:PV) (a:Nat):List BX:=[(E.o,aR v a),(E.o7,flB ext e j l u w x),(E.o6,flZ)]
def gD (E:FE):PF:=(((((PF.nil.set 0 (.ptr E.o 2 0 0)).set 1 (.int .i64 E.aEW)).set 2 (.int .i64 E.aEY)).set 6 (.ptr E.o6 7 0 0)).set 7 (.ptr E.o7 7 0 0))
abbrev jG (l:List dA):List (List PV):=l.map dA.cells
abbrev kD (l:List dX):List (List PV):=l.map dX.cells
theorem SP {E:FE} {F:PF} (e:F 0=some (.ptr E.o 2 0 0)) (j:F 1=some (.int .i64 E.aEW)) (l:F 2=some (.int .i64 E.aEY)) (u:F 6=some (.ptr E.o6 7 0 0)) (h7:F 7=some (.ptr E.o7 7 0 0)):(gD E).le F :=
 c_ (c_ (c_ (c_ (c_ d_ e) j) l) u) h7
theorem akB {C:Ctx} (N:nU C) {l:List Nat} {v:PV} (T:Tp l v) (E:FE) (n a:Nat) (hn:n≤10) (Y:a≤l.length) (ext:PV) (K:cG) (F:PF) (H:PH)
  (W:(((gD E).set 8 (.int .i64 n)).set 9 (.int .i64 0)).le F) (x:aL H (E.boxes v ext .aA .aA .aA .aA .aA .aA a) [])
  (X:∀ I M H',(gD E).le M→aL H' (E.boxes v ext I .aA .aA .aA .aA .aA (iJ l a n).2) [(I,4,jG (iJ l a n).1)]→K (.exit 0) M H') :
  aE.wp C (.loop ON) K F H:=by
 refine wp_loop (α:=Nat × PV × PH) (fun t=>((gD E).set 8 (.int .i64 n)).set 9 (.int .i64 t.1)) (fun t=>t.2.2) (fun t=>t.1≤n∧aL t.2.2 (E.boxes v ext t.2.1 .aA .aA .aA .aA .aA (iJ l a t.1).2) [(t.2.1,4,jG (iJ l a t.1).1)]) (fun t=>n-t.1) (0,.aA,H) ⟨aGW _,x.mO 4⟩ W b_ ?_;rintro⟨i,I,H0⟩ ⟨hi,x⟩;simp only at hi x ⊢;obtain⟨k1,k2⟩:=IM l Y i;have w:iJ l a (i+1)=((iJ l a i).1++[{ (rF l 2 (iJ l a i).2).1 with name:=[108,97,119]++bW i }],(rF l 2 (iJ l a i).2).2):=rfl;simp only[go_sem,ON,qx,gD];by_cases hlt:i<n
 ·have j:(i:Int)<(n:Nat):=Om;generalize hg:iJ l a i=g at *
  simp only[go_sem,j,qy];refine mC (N.law l v T E.o 2 g.2 (by decide) (by decide) k1) (x.at 0 rfl) rfl ?_;have U:=x.set 0 rfl (aR v (rF l 2 g.2).2);generalize hz:rF l 2 g.2=z at *
  simp only[go_sem];refine aQ fun p Z=>?_;have V:=U.new Z (.rows 4 [z.1.cells]);simp only[go_sem,qz,aGV,aHH,or_false,forall_eq,forall_eq_or_imp];refine aB (N.name [108,97,119] i (by decide) Om) rfl ?_;have y:=V.set 3 rfl (.rows 4 [({ z.1 with name:=[108,97,119]++bW i }:dA).cells]);rw[PH.set_set] at y;have O:=y.at 1 rfl;have A:¬ E.o7=p:=y.ne 1 3 rfl rfl (by decide);have u:¬ E.o7=E.o:=y.ne 1 0 rfl rfl (by decide);simp only[aP,if_neg A,if_neg u] at O;have J:(1:Nat)*4≤16777216:=by decide
  simp only[go_sem,q9,A,u,O,J,aGV,aHH,or_false,forall_eq,forall_eq_or_imp];refine y.append 0 (src:=[({ z.1 with name:=[108,97,119]++bW i }:dA).cells]) rfl rfl (by unfold roomFor; rw[aGK]; simp only[aGR,maxLen]; omega) fun w' H2 R hw=>?_;obtain⟨q,rfl⟩:=hw (by simp);have S:=R.at 1 rfl;simp only[go_sem,S,aGV,aHH,or_false,forall_eq];have h5:=R.set 1 rfl (flB ext (.osl q 4 0 (jG g.1++[({ z.1 with name:=[108,97,119]++bW i }:dA).cells]).length) .aA .aA .aA .aA .aA);simp only[go_sem,rc,wZz i];refine aH (i+1,.osl q 4 0 (jG g.1++[({ z.1 with name:=[108,97,119]++bW i }:dA).cells]).length,_) ⟨hlt,?_⟩ (by simp only; omega) ?_ b_
  ·rw[w];have e:jG (g.1++[{ z.1 with name:=[108,97,119]++bW i }])=jG g.1++[({ z.1 with name:=[108,97,119]++bW i }:dA).cells]:=by simp[jG]
   simp only;rw[e];exact h5.dropLast (B:=E.boxes v ext _ .aA .aA .aA .aA .aA z.2)
  ·exact Lq
 ·have j:¬ (i:Int)<(n:Nat):=Om;have:i=n:=Om;subst this;simp only[go_sem,j];exact X I _ _ (SP rfl rfl rfl rfl rfl) x
theorem X4 {C:Ctx} (R:nU C) {l:List Nat} {v:PV} (T:Tp l v) (E:FE) (n a nl:Nat) (hn:n≤10) (β:nl≤1000) (ha:a≤l.length) (ext u:PV) (aFE:List dA) (W:aFE.length=nl) (K:cG) (F:PF) (H:PH)
  (hF:(((gD E).set 11 (.int .i64 n)).set 12 (.int .i64 0)).le F) (w:aL H (E.boxes v ext u .aA .aA .aA .aA .aA a) [(u,4,jG aFE)])
  (hK:∀ I S H',(gD E).le S→S 11=some (.int .i64 n)→aL H' (E.boxes v ext u I .aA .aA .aA .aA (eQ l nl a n).2) [(u,4,jG aFE),(I,4,kD (eQ l nl a n).1)]→K (.exit 2) S H') :
  aE.wp C (.loop IW) K F H:=by
 refine wp_loop (α:=Nat × PV × PH) (fun t=>((gD E).set 11 (.int .i64 n)).set 12 (.int .i64 t.1)) (fun t=>t.2.2) (fun t=>t.1≤n∧aL t.2.2 (E.boxes v ext u t.2.1 .aA .aA .aA .aA (eQ l nl a t.1).2) [(u,4,jG aFE),(t.2.1,4,kD (eQ l nl a t.1).1)]) (fun t=>n-t.1) (0,.aA,H) ⟨aGW _,w.mO 4⟩ hF b_ ?_;rintro⟨i,I,H0⟩ ⟨hi,w⟩;simp only at hi w ⊢;obtain⟨k1,k2⟩:=yQ l nl ha i;have A:eQ l nl a (i+1)=((eQ l nl a i).1++[⟨[109]++bW i,(1+(aD l 4 (eQ l nl a i).2).1:Nat),(1+(aD l 8 (aD l 4 (eQ l nl a i).2).2).1:Nat),((aD l nl (aD l 8 (aD l 4 (eQ l nl a i).2).2).2).1:Nat)⟩],(aD l nl (aD l 8 (aD l 4 (eQ l nl a i).2).2).2).2):=rfl;simp only[go_sem,IW,dr,gD];by_cases hlt:i<n
 ·have j:(i:Int)<(n:Nat):=Om;generalize hg:eQ l nl a i=g at *
  have hx:=bU l (show 0<4 by decide) g.2;have X:=bD l 4 k1;have hy:=bU l (show 0<8 by decide) (aD l 4 g.2).2;have Y:=bD l 8 X;have az:=bD l nl Y;have U:=w.set 0 rfl (aR v (aD l 4 g.2).2);have B:=U.set 0 rfl (aR v (aD l 8 (aD l 4 g.2).2).2);have h3:=B.set 0 rfl (aR v (aD l nl (aD l 8 (aD l 4 g.2).2).2).2);generalize M:aD l 4 g.2=x at *
  generalize N:aD l 8 x.2=y at *
  generalize O:aD l nl y.2=z at *
  have b1:=w.at 1 rfl;have lw:=(w.own 0 rfl).uD;rw[aGK,W] at lw;have J:(PH.nil.set E.o7 (flB ext u I .aA .aA .aA .aA)).le H0:=e_ a_ b1;have ex:IntKind.i64.wrap (1+(x.1:Int))=((1+x.1:Nat):Int):=by rw[wrap_i64 Om Om]; omega
  have ey:IntKind.i64.wrap (1+(y.1:Int))=((1+y.1:Nat):Int):=by rw[wrap_i64 Om Om]; omega
  simp only[go_sem,j];refine bP (PH.nil.set E.o7 (flB ext u I .aA .aA .aA .aA)) (mkS l v) J ?_;simp only[go_sem,dt];refine HD R.totP (s:=[109]) (n:=i) (by decide) Om rfl J ?_;simp only[go_sem];refine sC R.totO T (o:=E.o) (n:=4) (a:=g.2) (by decide) k1 rfl (w.at 0 rfl) ?_ ?_
  ·rw[M]; exact e_ a_ (U.at 1 rfl)
  rw[M];simp only[go_sem,ex];refine sC R.totO T (o:=E.o) (n:=8) (a:=x.2) (by decide) X rfl (U.at 0 rfl) ?_ ?_
  ·rw[N]; exact e_ a_ (B.at 1 rfl)
  rw[N];simp only[go_sem,ey,lw];rw[PH.set_set] at B;refine sC R.totO T (o:=E.o) (n:=nl) (a:=y.2) Om Y rfl (B.at 0 rfl) ?_ ?_
  ·rw[O]; exact e_ a_ ((B.set 0 rfl (aR v z.2)).at 1 rfl)
  rw[O];have h4:=B.set 0 rfl (aR v z.2);have V:(1:Nat)*4≤16777216:=by decide
  simp only[go_sem,V,aGV,aHH,or_false,forall_eq,forall_eq_or_imp];rw[PH.set_set] at h4;refine h4.append 1 (src:=[(⟨[109]++bW i,(1+x.1:Nat),(1+y.1:Nat),(z.1:Nat)⟩:dX).cells]) rfl rfl (by unfold roomFor; rw[aGK]; simp only[aGR,maxLen]; omega) fun w' H2 h5 hw=>?_;obtain⟨q,rfl⟩:=hw (by simp);have Z:=h5.at 1 rfl;refine⟨e_ a_ Z,?_⟩;refine bP .nil dD a_ ?_;simp only[go_sem,du,Z,aGV,aHH,or_false,forall_eq];have h6:=h5.set 1 rfl (flB ext u (.osl q 4 0 (kD g.1++[(⟨[109]++bW i,(1+x.1:Nat),(1+y.1:Nat),(z.1:Nat)⟩:dX).cells]).length) .aA .aA .aA .aA);refine⟨a_,?_⟩;simp only[go_sem,dw,wZz i];refine aH (i+1,.osl q 4 0 (kD g.1++[(⟨[109]++bW i,(1+x.1:Nat),(1+y.1:Nat),(z.1:Nat)⟩:dX).cells]).length,_) ⟨hlt,?_⟩ (by simp only; omega) ?_ b_
  ·rw[A];have e:kD (g.1++[⟨[109]++bW i,(1+x.1:Nat),(1+y.1:Nat),(z.1:Nat)⟩])=kD g.1++[(⟨[109]++bW i,(1+x.1:Nat),(1+y.1:Nat),(z.1:Nat)⟩:dX).cells]:=by simp[kD]
   simp only;rw[e];exact h6
  ·exact Lq
 ·have j:¬ (i:Int)<(n:Nat):=Om;have:i=n:=Om;subst this;simp only[go_sem,j];exact hK I _ _ (SP rfl rfl rfl rfl rfl) rfl w
abbrev xW (x:cW) (w:PV):List PV:=[.str x.name,.int .i64 x.k,.int .i64 x.m,.int .i64 x.aFV,.int .i64 x.s0,.int .i64 x.s1,.int .i64 x.s2,.int .i64 x.s3,.int .i64 x.s4,w,frs x.repair,
 .bool x.target.neg,aJ x.target.num,aJ x.target.den,.bool x.aFH.neg,aJ x.aFH.num,aJ x.aFH.den]
def lf (E:FE) (mc n i:Nat):PF:=(((gD E).set 11 (.int .i64 mc)).set 13 (.int .i64 n)).set 14 (.int .i64 i)
structure PAt (E:FE) (mc n i:Nat) (F:PF):Prop where
 f0:F 0=some (.ptr E.o 2 0 0)
 f1:F 1=some (.int .i64 E.aEW)
 f2:F 2=some (.int .i64 E.aEY)
 f6:F 6=some (.ptr E.o6 7 0 0)
 f7:F 7=some (.ptr E.o7 7 0 0)
 f11:F 11=some (.int .i64 mc)
 f13:F 13=some (.int .i64 n)
 f14:F 14=some (.int .i64 i)
def rH (l:List Nat) (a:Nat):Nat→List Int × Nat
 | 0=>([],a)
 | j+1=>let s:=rH l a j
  let t:=iR l s.2
  (s.1++[t.1],t.2)
theorem uS (l:List Nat) {a:Nat} (h:a≤l.length):(iR l a).2≤l.length:=by
 unfold iR;simp only;split
 ·exact bD l 3 (bD l 3 h)
 ·exact bD l 3 h
theorem na (l:List Nat) {a:Nat} (h:a≤l.length):∀ j,(rH l a j).2≤l.length∧(rH l a j).1.length=j
 | 0=>⟨h,rfl⟩
 | j+1=>by obtain⟨e,u⟩:=na l h j;exact⟨uS l e,by simp only[rH,aGO,aGR,u]⟩
abbrev rG (pre post:List PV) (s:List Int):List PV:=pre++(s.map fun x=>PV.int .i64 x)++aGM (4-s.length) (.int .i64 0)++post
theorem auA {pre post:List PV} {s:List Int} (e:pre.length=5) (l:s.length<4) (x:Int):(rG pre post s).set (5+s.length) (.int .i64 x)=rG pre post (s++[x]):=by
 obtain⟨k,j⟩:∃ k,4-s.length=k+1:=⟨3-s.length,by omega⟩;unfold rG;rw[aGO,aGR,show 4-(s.length+1)=k by omega,j,List.replicate_succ,aHX,aHR,aIW];rw[List.set_append_left _ _ (by simp[e]),aKB _ _ (by simp[e])];have:5+s.length-(pre++s.map fun x=>PV.int .i64 x).length=0:=by simp[e]
 rw[this,List.set_cons_zero];simp
theorem amO {pre post:List PV} {s:List Int} (j:pre.length=5) (l:s.length<4):rG pre post s=rG pre post (s++[0]):=by
 obtain⟨k,e⟩:∃ k,4-s.length=k+1:=⟨3-s.length,by omega⟩;unfold rG;rw[aGO,aGR,show 4-(s.length+1)=k by omega,e,List.replicate_succ,aHX,aHR,aIW];simp
theorem X5 {C:Ctx} (Lb:nU C) {l:List Nat} {v:PV} (T:Tp l v) (E:FE) (mc n i a p:Nat) (ha:a≤l.length) (B:List BX) (L:List LI) (pre post:List PV) (e:pre.length=5) (A:post.length=8) (K:cG) (F:PF) (H:PH)
  (w:PAt E mc n i F) (U:F 15=some (.ptr p 17 0 0)) (V:F 16=some (.int .i64 1)) (I:aL H ((E.o,aR v a)::B++[(p,.rows 17 [rG pre post []])]) L)
  (hK:∀ R H',PAt E mc n i R→R 15=some (.ptr p 17 0 0)→aL H' ((E.o,aR v (rH l a 4).2)::B++[(p,.rows 17 [rG pre post (rH l a 4).1])]) L→K (.exit 6) R H') :
  aE.wp C (.loop yI) K F H:=by
 refine wp_loop (α:=Nat × PH) (fun t=>((lf E mc n i).set 15 (.ptr p 17 0 0)).set 16 (.int .i64 (t.1+1:Nat))) (fun t=>t.2) (fun t=>t.1≤4∧aL t.2 ((E.o,aR v (rH l a t.1).2)::B++[(p,.rows 17 [rG pre post (rH l a t.1).1])]) L) (fun t=>4-t.1) (0,H) ⟨aGW _,I⟩ ?_ b_ ?_
 ·unfold lf gD
  (repeat' (first|exact d_|refine c_ ?_ ?_))<;>first|(simp only[go_sem,w.f0,w.f1,w.f2,w.f6,w.f7,w.f11,w.f13,w.f14,U,V]<;>rfl)|rfl
 rintro⟨j,H0⟩ ⟨hj,I⟩;simp only at hj I ⊢;obtain⟨k1,k2⟩:=na l ha j;have u:rH l a (j+1)=((rH l a j).1++[(iR l (rH l a j).2).1],(iR l (rH l a j).2).2):=rfl;simp only[go_sem,yI,d8,lf,gD];by_cases hlt:j<4
 ·generalize hg:rH l a j=g at *
  have ei:=dJ (Om:j+1<9223372036854775807);simp only[go_sem,show ((j+1:Nat):Int)<5 by omega,d9];refine cR Lb.totO T (o:=E.o) (n:=3) (a:=g.2) (by decide) k1 (by simp only[go_sem]; rfl) (I.at 0 rfl) ?_;have N:aL _ ((E.o,aR v (aD l 3 g.2).2)::B++[(p,.rows 17 [rG pre post g.1])]) L:=I.set 0 rfl (aR v (aD l 3 g.2).2);by_cases c:(aD l 3 g.2).1=0
  ·have Z:iR l g.2=(((1+(aD l 3 (aD l 3 g.2).2).1:Nat):Int),(aD l 3 (aD l 3 g.2).2).2):=by unfold iR; simp only[c,if_true]
   have n2:=bU l (show 0<3 by decide) (aD l 3 g.2).2;have e2:IntKind.i64.wrap (1+((aD l 3 (aD l 3 g.2).2).1:Int))=((1+(aD l 3 (aD l 3 g.2).2).1:Nat):Int):=by rw[wrap_i64 Om Om]; omega
   simp only[go_sem,bM (show (((aD l 3 g.2).1:Nat):Int)=0 by omega),ef];refine cR Lb.totO T (o:=E.o) (n:=3) (a:=(aD l 3 g.2).2) (by decide) (bD l 3 k1) (by simp only[go_sem]; rfl) (N.at 0 rfl) ?_;have O:aL _ ((E.o,aR v (aD l 3 (aD l 3 g.2).2).2)::B++[(p,.rows 17 [rG pre post g.1])]) L:=N.set 0 rfl (aR v (aD l 3 (aD l 3 g.2).2).2);have S:=O.nB;rw[PH.set_set] at S O;have M:¬ p=E.o:=fun h=>by have Y:=O.ndB;simp[eC,h] at Y
   simp only[aP,if_neg M] at S;have X:((j+1:Nat):Int)<((5:Nat):Int):=Om;have W:(0:Int)≤((j+1:Nat):Int):=Om;have β:(rG pre post g.1).length=17:=by simp[rG,e,A,k2]; omega
   have x:=auA (pre:=pre) (post:=post) (s:=g.1) e Om ((1+(aD l 3 (aD l 3 g.2).2).1:Nat):Int);rw[k2] at x;have J:4+(j+1)*1=5+j:=Om;have y:5+j+1≤17:=Om;simp only[go_sem,e2,X,W,J,M,S,y,aGV,aHH,or_false,forall_eq,x,JB,ei];refine aH (j+1,_) ⟨hlt,?_⟩ (by simp only; omega) ?_ b_
   ·rw[u,Z];exact O.tA _
   ·exact Lq
  ·have Z:iR l g.2=(0,(aD l 3 g.2).2):=by unfold iR; simp only[c,if_false]
   simp only[go_sem,bB (show ¬ (((aD l 3 g.2).1:Nat):Int)=0 by omega),JB,ei];refine aH (j+1,_) ⟨hlt,?_⟩ (by simp only; omega) ?_ b_
   ·rw[amO (pre:=pre) (post:=post) (s:=g.1) e Om] at N;rw[u,Z];exact N
   ·exact Lq
 ·have:j=4:=Om;subst this;simp only[go_sem,show ¬ ((4+1:Nat):Int)<5 by decide];exact hK _ _ ⟨by simp only[go_sem],by simp only[go_sem],by simp only[go_sem],by simp only[go_sem],by simp only[go_sem],by simp only[go_sem],by simp only[go_sem],by simp only[go_sem]⟩ Sq I
theorem aL.pU {E:FE} {v ext e j l u w x:PV} {a:Nat} {H:PH} {B:List BX} {L:List LI} (h:aL H (E.boxes v ext e j l u w x a++B) L) (b:Nat):aL (H.set E.o (aR v b)) (E.boxes v ext e j l u w x b++B) L:=h.set 0 rfl _
abbrev ZK (s:List UInt8) (k m q:Int) (w r e j l:PV) (h:RF):List PV:=[.str s,.int .i64 k,.int .i64 m,.int .i64 q,.int .i64 0,.int .i64 0,.int .i64 0,.int .i64 0,.int .i64 0,w,r,e,j,l,.bool h.neg,aJ h.num,aJ h.den]
theorem akC {C : Ctx} (Lb : nU C) {l : List Nat} {v : PV} (T : Tp l v) (E : FE) (mc n i a : Nat) (ha : a ≤ l.length) (hi : i < 50) (ext w1 w2 w3 w4 w5 w6 : PV) (L : List LI) (rest : aE) (K : cG) (F : PF) (H : PH)
    (hF : PAt E mc n i F) (hH : aL H (E.boxes v ext w1 w2 w3 w4 w5 w6 a) L)
    (hK : ∀ p F' H', PAt E mc n i F' → F' 15 = some (.ptr p 17 0 0) →
      (let k := aD l 2 a; let m := aD l 3 k.2; let h := aD l 4 m.2; let q := aD l (m.1 + 1) h.2; let r := kK l q.2 (max m.1 1); let g := aD l 9 r.2
       aL H' (E.boxes v ext w1 w2 w3 w4 w5 w6 g.2 ++ [(p, .rows 17 [rG [.str ([112] ++ bW i), .int .i64 (1 + k.1 : Nat), .int .i64 (m.1 : Nat), .int .i64 (1 + k.1 + q.1 : Nat), .int .i64 0]
        ([.aA, frs r.1] ++ (mkT (g.1 : Nat) 8).cells ++ (mkT ((1 + h.1 : Nat) : Int) 1).cells) []])]) L) → aE.wp C rest K F' H') :
    aE.wp C (.seq (.region IZ) (.seq (.seq (.draw yJ) (.draw yK)) (.seq (.region yL) (.seq (.region yM) rest)))) K F H := by
  obtain ⟨f0, f1, f2, f6, f7, f11, f13, f14⟩ := hF;have nk := bU l (show 0 < 2 by decide) a;have ak := bD l 2 ha;have nm := bU l (show 0 < 3 by decide) (aD l 2 a).2;have am := bD l 3 ak;simp only at hK;generalize hk : aD l 2 a = k at *
  generalize hm : aD l 3 k.2 = m at *
  have nh := bU l (show 0 < 4 by decide) m.2;have ah := bD l 4 am;generalize hh : aD l 4 m.2 = h at *
  have nq := bU l (Om : 0 < m.1 + 1) h.2;have aq := bD l (m.1 + 1) ah;generalize hq : aD l (m.1 + 1) h.2 = q at *
  have ar := GK l aq (max m.1 1);generalize hr : kK l q.2 (max m.1 1) = r at *
  have ng := bU l (show 0 < 9 by decide) r.2;have ag := bD l 9 ar;generalize hg : aD l 9 r.2 = g at *
  have ek : IntKind.i64.wrap (1 + (k.1 : Int)) = ((1 + k.1 : Nat) : Int) := by rw [wrap_i64 Om Om]; omega
  have eh : IntKind.i64.wrap (1 + (h.1 : Int)) = ((1 + h.1 : Nat) : Int) := by rw [wrap_i64 Om Om]; omega
  have em : IntKind.i64.wrap ((m.1 : Int) + 1) = ((m.1 + 1 : Nat) : Int) := dJ Om;have eq' : IntKind.i64.wrap (((1 + k.1 : Nat) : Int) + (q.1 : Int)) = ((1 + k.1 + q.1 : Nat) : Int) := by rw [wrap_i64 Om Om]; omega
  have h0 : aL H (E.boxes v ext w1 w2 w3 w4 w5 w6 a ++ []) L := by rw [aHY]; exact hH
  simp only[go_sem,IZ,f14];refine aB (Lb.name [112] i (by decide) Om) rfl ?_;simp only[go_sem,f0];refine cR Lb.totO T (o := E.o) (n := 2) (a := a) (by decide) ha rfl (h0.at 0 rfl) ?_;have g1 := h0.pU k.2;rw [hk];simp only[go_sem,ek,f0];refine cR Lb.totO T (o := E.o) (n := 3) (a := k.2) (by decide) ak rfl (g1.at 0 rfl) ?_;have g2 := g1.pU m.2;rw [hm];rw [PH.set_set] at g2;simp only[go_sem,f0];refine cR Lb.totO T (o := E.o) (n := 4) (a := m.2) (by decide) am rfl (g2.at 0 rfl) ?_;have g3 := g2.pU h.2;rw [hh];rw [PH.set_set] at g3;simp only[go_sem,eh];refine aB (Lb.int ((1 + h.1 : Nat) : Int) (by unfold dV; omega)) rfl ?_;simp only[go_sem,aGV,aHH,or_false,forall_eq,forall_eq_or_imp];refine aQ fun p hp => ?_;have g4 := g3.new hp (.rows 17 [ZK ([112] ++ bW i) (1 + k.1 : Nat) (m.1 : Nat) 0 .aA .aA (.bool false) .aA .aA (mkT ((1 + h.1 : Nat) : Int) 1)]);have hpo : ¬ p = E.o := g4.ne 3 0 rfl rfl (by decide);have hop : ¬ E.o = p := fun e => hpo e.symm;have q2 : ∀ (F2 : PF) (H2 : PH), PAt E mc n i F2 → F2 15 = some (.ptr p 17 0 0) → aL H2 (E.boxes v ext w1 w2 w3 w4 w5 w6 h.2 ++ [(p, .rows 17 [ZK ([112] ++ bW i) (1 + k.1 : Nat) (m.1 : Nat) 0 .aA .aA (.bool false) .aA .aA (mkT ((1 + h.1 : Nat) : Int) 1)])]) L →
      aE.wp C (.seq (.seq (.draw yJ) (.draw yK)) (.seq (.region yL) (.seq (.region yM) rest))) K F2 H2 := by
    intro F2 H2 hF2 f15 hH2;obtain ⟨f0, f1, f2, f6, f7, f11, f13, f14⟩ := hF2;have bp := hH2.at 3 rfl;have hHs : (PH.nil.set p (.rows 17 [ZK ([112] ++ bW i) (1 + k.1 : Nat) (m.1 : Nat) 0 .aA .aA (.bool false) .aA .aA (mkT ((1 + h.1 : Nat) : Int) 1)])).le H2 := e_ a_ bp;simp only[go_sem];refine bP _ (mkS l v) hHs ?_;simp only[go_sem,yJ,f15,bp,em,f0];refine sC Lb.totO T (o := E.o) (n := m.1 + 1) (a := h.2) Om ah rfl (hH2.at 0 rfl) ?_ ?_
    · rw [hq]; exact e_ a_ ((hH2.pU q.2).at 3 rfl)
    rw [hq];have g5 := hH2.pU q.2;simp only[go_sem,eq',f15];refine bP .nil dD a_ ?_;simp only[go_sem,yK,hpo,bp];refine ⟨a_, ?_⟩;have g6 : aL _ (E.boxes v ext w1 w2 w3 w4 w5 w6 q.2 ++ [(p, .rows 17 [ZK ([112] ++ bW i) (1 + k.1 : Nat) (m.1 : Nat) (1 + k.1 + q.1 : Nat) .aA .aA (.bool false) .aA .aA (mkT ((1 + h.1 : Nat) : Int) 1)])]) L := g5.set 3 rfl (.rows 17 [ZK ([112] ++ bW i) (1 + k.1 : Nat) (m.1 : Nat) (1 + k.1 + q.1 : Nat) .aA .aA (.bool false) .aA .aA (mkT ((1 + h.1 : Nat) : Int) 1)]);have bq := g6.at 3 rfl;simp only[go_sem,yL,f0,f15];refine mC (Lb.rep l v T E.o q.2 m.1 Om aq) (g6.at 0 rfl) rfl ?_;have g7 := g6.pU r.2;rw [hr];simp only[go_sem,hpo,f15];have g8 : aL _ (E.boxes v ext w1 w2 w3 w4 w5 w6 r.2 ++ [(p, .rows 17 [ZK ([112] ++ bW i) (1 + k.1 : Nat) (m.1 : Nat) (1 + k.1 + q.1 : Nat) .aA (frs r.1) (.bool false) .aA .aA (mkT ((1 + h.1 : Nat) : Int) 1)])]) L := g7.set 3 rfl (.rows 17 [ZK ([112] ++ bW i) (1 + k.1 : Nat) (m.1 : Nat) (1 + k.1 + q.1 : Nat) .aA (frs r.1) (.bool false) .aA .aA (mkT ((1 + h.1 : Nat) : Int) 1)]);simp only[go_sem,yM,f0];refine cR Lb.totO T (o := E.o) (n := 9) (a := r.2) (by decide) ar rfl (g8.at 0 rfl) ?_;have g9 := g8.pU g.2;rw [hg];simp only[go_sem];refine aB (Lb.fmk (g.1 : Int) 8 (by unfold dV; omega) (by unfold dV; omega)) rfl ?_;unfold xN;rw [if_neg (by decide)];simp only[go_sem,f15,hpo];have g10 := g9.set 3 rfl (.rows 17 [rG [.str ([112] ++ bW i), .int .i64 (1 + k.1 : Nat), .int .i64 (m.1 : Nat), .int .i64 (1 + k.1 + q.1 : Nat), .int .i64 0]
        ([.aA, frs r.1] ++ (mkT (g.1 : Nat) 8).cells ++ (mkT ((1 + h.1 : Nat) : Int) 1).cells) []])
    refine hK p _ _ ⟨by simp only[go_sem,f0], by simp only[go_sem,f1], by simp only[go_sem,f2], by simp only[go_sem,f6], by simp only[go_sem,f7], by simp only[go_sem,f11], by simp only[go_sem,f13], by simp only[go_sem,f14]⟩ (by simp only[go_sem,f15]) g10
  simp only [aE.wp, go_sem] at q2;simp only[go_sem,aGV,aHH,or_false,forall_eq,forall_eq_or_imp];exact q2 _ _ ⟨by simp only[go_sem,f0], by simp only[go_sem,f1], by simp only[go_sem,f2], by simp only[go_sem,f6], by simp only[go_sem,f7], by simp only[go_sem,f11], by simp only[go_sem,f13], by simp only[go_sem,f14]⟩ rfl g4
abbrev FE.lists (x y A B E:PV) (l:List dA) (u:List dX) (e:List cU) (j:List dQ) (w:List (List PV)):List LI:=[(x,4,jG l),(y,4,kD u),(A,7,kI e),(B,3,nC j),(E,17,w)]
theorem akD {C:Ctx} (Lb:nU C) {l:List Nat} {v:PV} (T:Tp l v) (E:FE) (mc n i a:Nat) (ha:a≤l.length) (η:0<mc) (μ:mc≤50) (ext y A B I w5:PV) (lw:List dA) (md:List dX) (dm:List cU) (dv:List dQ) (pr:List (List PV)) (ρ:pr.length≤50)
  (s:List UInt8) (k m q:Int) (r t h:RF) (M:List RF) (p:Nat) (K:cG) (F:PF) (H:PH)
  (hF:PAt E mc n i F) (u:F 15=some (.ptr p 17 0 0))
  (hH:aL H (E.boxes v ext y A B I w5 .aA a++[(p,.rows 17 [rG [.str s,.int .i64 k,.int .i64 m,.int .i64 q,.int .i64 0] ([.aA,frs M]++t.cells++h.cells) []])]) (FE.lists y A B I w5 lw md dm dv pr))
  (V:(let J:=rH l a 4; let f:=aD l mc J.2; let b:=aD l 2 f.2
   let ms:List Int × Nat:=if 1<mc then (if b.1=0 then ([(f.1:Int),1-(f.1:Int)],b.2) else ([(f.1:Int)],b.2)) else ([(f.1:Int)],f.2)
   ∀ (w j:PV) (W:PF) (H':PH) (B':List BX),PAt E mc n i W→(∃ o,w=.osl o 1 0 ms.1.length)→aL H' (E.boxes v ext y A B I j .aA ms.2++B')
    (FE.lists y A B I j lw md dm dv (pr++[xW ⟨s,k,m,q,0,(J.1.getD 0 0),(J.1.getD 1 0),(J.1.getD 2 0),(J.1.getD 3 0),ms.1,M,t,h⟩ w])++[(w,1,bY ms.1)])→K .normal W H')) :
  aE.wp C (.seq (.seq (.region JA) (.block 6 (.loop yI))) (.seq (.region JC) (.seq (.region JD) (.seq (.seq (.region JE) (.cond (.tmp 143) (.region JF) .skip)) (.region yN))))) K F H:=by
 obtain⟨f0,f1,f2,f6,f7,f11,f13,f14⟩:=hF;simp only[go_sem,JA];refine X5 (C:=C) Lb T E mc n i a p ha [(E.o7,flB ext y A B I w5 .aA),(E.o6,flZ)] _ _ _ rfl rfl _ _ H ⟨by simp only[go_sem,f0],by simp only[go_sem,f1],by simp only[go_sem,f2],by simp only[go_sem,f6],by simp only[go_sem,f7],by simp only[go_sem,f11],by simp only[go_sem,f13],by simp only[go_sem,f14]⟩ (by simp only[go_sem,u]) rfl hH ?_;clear f0 f1 f2 f6 f7 f11 f13 f14 u hH;intro F1 H1 ε u x;obtain⟨f0,f1,f2,f6,f7,f11,f13,f14⟩:=ε;obtain⟨α,ls⟩:=na l ha 4;have ι:∃ N O R S,(rH l a 4).1=[N,O,R,S]:=⟨_,_,_,_,rfl⟩;simp only at V;generalize ν:rH l a 4=J at *
 obtain⟨N,O,R,S,hx⟩:=ι;rw[hx] at V x;replace x:aL H1 (E.boxes v ext y A B I w5 .aA J.2++[(p,.rows 17 [xW ⟨s,k,m,q,0,N,O,R,S,[],M,t,h⟩ .aA])]) (FE.lists y A B I w5 lw md dm dv pr):=x;have nf:=bU l η J.2;have af:=bD l mc α;generalize hf:aD l mc J.2=f at *
 have ab:=bD l 2 af;generalize hb:aD l 2 f.2=b at *
 have Z:¬ p=E.o:=x.ne 3 0 rfl rfl (by decide);have θ:¬ p=E.o7:=x.ne 3 1 rfl rfl (by decide);have ο:¬ E.o7=p:=fun e=>θ e.symm;have ξ:¬ E.o7=E.o:=x.ne 1 0 rfl rfl (by decide);simp only[go_sem,JC,f0,f11];refine cR Lb.totO T (o:=E.o) (n:=mc) (a:=J.2) Om α rfl (x.at 0 rfl) ?_;have h2:=x.set 0 rfl (aR v f.2);rw[hf];simp only[go_sem,JD];refine aQ fun o ho=>?_;have h3:=h2.me (s:=1) (rows:=bY [(f.1:Int)]) ho;have b3:=h3.at 3 rfl;have ob:¬ p=o:=h3.neL 3 5 rfl rfl rfl;have σ:¬ E.o7=o:=h3.neL 1 5 rfl rfl rfl;have τ:¬ E.o=o:=h3.neL 0 5 rfl rfl rfl;simp only[aP,if_neg ob,if_neg Z] at b3;simp only[go_sem,u,ob,Z,b3,aGV,aHH,or_false,forall_eq];have h4:=h3.set 3 rfl (.rows 17 [xW ⟨s,k,m,q,0,N,O,R,S,[],M,t,h⟩ (.osl o 1 0 1)]);have fin:∀ (w:PV) (ms:List Int) (a':Nat) (W:PF) (H':PH),PAt E mc n i W→W 15=some (.ptr p 17 0 0)→(∃ o,w=.osl o 1 0 ms.length) →
   aL H' (E.boxes v ext y A B I w5 .aA a'++[(p,.rows 17 [xW ⟨s,k,m,q,0,N,O,R,S,ms,M,t,h⟩ w])]) (FE.lists y A B I w5 lw md dm dv pr++[(w,1,bY ms)]) →
   (∀ (j:PV) (U:PF) (H2:PH),PAt E mc n i U→aL H2 (E.boxes v ext y A B I j .aA a'++[(p,.rows 17 [xW ⟨s,k,m,q,0,N,O,R,S,ms,M,t,h⟩ w])]) (FE.lists y A B I j lw md dm dv (pr++[xW ⟨s,k,m,q,0,N,O,R,S,ms,M,t,h⟩ w])++[(w,1,bY ms)])→K .normal U H2) →
   wpOps C yN (K .normal) W H':=by
  intro w ms a' W H' δ u hw Y ζ;obtain⟨wo,rfl⟩:=hw;obtain⟨f0,f1,f2,f6,f7,f11,f13,f14⟩:=δ;have c1:=Y.at 1 rfl;have c3:=Y.at 3 rfl;have γ:(1:Nat)*17≤16777216:=by decide
  simp only[go_sem,yN,f7,u,c1,c3,γ,aGV,aHH,or_false,forall_eq,forall_eq_or_imp];refine Y.append 4 (src:=[xW ⟨s,k,m,q,0,N,O,R,S,ms,M,t,h⟩ (.osl wo 1 0 ms.length)]) rfl rfl (by unfold roomFor; simp only[aGR,maxLen]; omega) fun j H2 h5 κ=>?_;obtain⟨q5,rfl⟩:=κ (by simp);have c2:=h5.at 1 rfl;simp only[go_sem,c2,aGV,aHH,or_false,forall_eq];exact ζ _ _ _ ⟨by simp only[go_sem,f0],by simp only[go_sem,f1],by simp only[go_sem,f2],by simp only[go_sem,f6],by simp only[go_sem,f7],by simp only[go_sem,f11],by simp only[go_sem,f13],by simp only[go_sem,f14]⟩ (h5.set 1 rfl (flB ext y A B I _ .aA))
 simp only[go_sem,JE,f11];by_cases c:1<mc
 ·have c':(mc:Int)>1:=Om;simp only[go_sem,c',f0];refine cR Lb.totO T (o:=E.o) (n:=2) (a:=f.2) (by decide) af rfl (h4.at 0 rfl) ?_;have h5:=h4.set 0 rfl (aR v b.2);rw[hb];by_cases c2:b.1=0
  ·have X:(b.1:Int)=0:=Om;rw[if_pos c,if_pos c2] at V;have e1:IntKind.i64.wrap (1-(f.1:Int))=1-(f.1:Int):=wrap_i64 Om Om;have c3:=h5.at 3 rfl;have β:(1:Nat)*1≤16777216:=by decide
   simp only[go_sem,bM X,JF,u,Z,e1,β];refine h5.append 5 (src:=[[.int .i64 (1-(f.1:Int))]]) rfl rfl (by unfold roomFor; simp only[bY,aGK,aGR,maxLen]; omega) fun w' H2 h6 hw=>?_;obtain⟨q2,rfl⟩:=hw (by simp);have c4:=h6.at 3 rfl;simp only[go_sem,c4,u,aGV,aHH,or_false,forall_eq];have h7:=h6.set 3 rfl (.rows 17 [xW ⟨s,k,m,q,0,N,O,R,S,[(f.1:Int),1-(f.1:Int)],M,t,h⟩ (.osl q2 1 0 2)]);exact fin (.osl q2 1 0 2) [(f.1:Int),1-(f.1:Int)] b.2 _ _ ⟨by simp only[go_sem,f0],by simp only[go_sem,f1],by simp only[go_sem,f2],by simp only[go_sem,f6],by simp only[go_sem,f7],by simp only[go_sem,f11],by simp only[go_sem,f13],by simp only[go_sem,f14]⟩ (by simp only[go_sem,u]) ⟨q2,rfl⟩ h7 (fun j U H2 g1 g2=>V _ j U H2 _ g1 ⟨q2,rfl⟩ g2)
  ·have X:¬ (b.1:Int)=0:=Om;rw[if_pos c,if_neg c2] at V;simp only[go_sem,bB X];exact fin (.osl o 1 0 1) [(f.1:Int)] b.2 _ _ ⟨by simp only[go_sem,f0],by simp only[go_sem,f1],by simp only[go_sem,f2],by simp only[go_sem,f6],by simp only[go_sem,f7],by simp only[go_sem,f11],by simp only[go_sem,f13],by simp only[go_sem,f14]⟩ (by simp only[go_sem,u]) ⟨o,rfl⟩ h5 (fun j U H2 g1 g2=>V _ j U H2 _ g1 ⟨o,rfl⟩ g2)
 ·have c':¬ (mc:Int)>1:=Om;rw[if_neg c] at V;simp only[go_sem,c'];exact fin (.osl o 1 0 1) [(f.1:Int)] f.2 _ _ ⟨by simp only[go_sem,f0],by simp only[go_sem,f1],by simp only[go_sem,f2],by simp only[go_sem,f6],by simp only[go_sem,f7],by simp only[go_sem,f11],by simp only[go_sem,f13],by simp only[go_sem,f14]⟩ (by simp only[go_sem,u]) ⟨o,rfl⟩ h4 (fun j U H2 g1 g2=>V _ j U H2 _ g1 ⟨o,rfl⟩ g2)
abbrev mU (l:List cW):List (List PV):=l.map cW.cells
abbrev pA (l:List iY):List (List PV):=l.map iY.cells
theorem oV {rows:List (List PV)} (h:∀ r∈rows,∀ c∈r,c.oid=none):Flat rows:=Flat.of fun r j c e q s rs=>HS (h r j c e) q s rs
theorem R9 (l:List dA):Flat (jG l):=oV fun r j c e=>by
 obtain⟨x,_,rfl⟩:=aHJ.1 j;simp only[dA.cells,aGV,aHH,or_false] at e;rcases e with rfl | rfl | rfl | rfl<;>rfl
theorem Ss (l:List dX):Flat (kD l):=oV fun r j c e=>by
 obtain⟨x,_,rfl⟩:=aHJ.1 j;simp only[dX.cells,aGV,aHH,or_false] at e;rcases e with rfl | rfl | rfl | rfl<;>rfl
theorem O6 (l:List cU):Flat (kI l):=oV fun r j c e=>by
 obtain⟨x,_,rfl⟩:=aHJ.1 j;simp only[cU.cells,aGV,aHH,or_false] at e;rcases e with rfl | rfl | rfl | rfl | rfl | rfl | rfl<;>rfl
theorem O8 (l:List dQ):Flat (nC l):=oV fun r j c e=>by
 obtain⟨x,_,rfl⟩:=aHJ.1 j;simp only[dQ.cells,aGV,aHH,or_false] at e;rcases e with rfl | rfl | rfl<;>rfl
theorem auP (l:List iY):Flat (pA l):=oV fun r j c e=>by
 obtain⟨x,_,rfl⟩:=aHJ.1 j;simp only[iY.cells,aGV,aHH,or_false] at e;rcases e with rfl | rfl<;>rfl
theorem U4 (l:List cW):Flat (mU l):=oV fun r j c e=>by
 obtain⟨x,_,rfl⟩:=aHJ.1 j;simp only[cW.cells,aGV,aHH,or_false] at e;rcases e with rfl | rfl | rfl | rfl | rfl | rfl | rfl | rfl | rfl | rfl | rfl | rfl | rfl | rfl | rfl | rfl | rfl<;>rfl
theorem Y3 (l:List Nat) (mc i:Nat) {a:Nat} (h:a≤l.length):(mY l mc i a).2≤l.length:=by
 have j:=bD l 9 (GK l (bD l ((aD l 3 (aD l 2 a).2).1+1) (bD l 4 (bD l 3 (bD l 2 h)))) (max (aD l 3 (aD l 2 a).2).1 1));have e:=bD l mc (uS l (uS l (uS l (uS l j))));unfold mY;simp only;split
 ·split
  ·exact bD l 2 e
  ·exact bD l 2 e
 ·exact e
theorem uM (l:List Nat) (mc:Nat) {a:Nat} (h:a≤l.length):∀ k,(dY l mc a k).2≤l.length∧(dY l mc a k).1.length=k
 | 0=>⟨h,rfl⟩
 | k+1=>by obtain⟨e,j⟩:=uM l mc h k;exact⟨Y3 l mc k e,by simp only[dY,aGO,aGR,j]⟩
theorem FN (l:List Nat) (pc:Nat) {a:Nat} (h:a≤l.length):∀ k,(eT l pc a k).2≤l.length∧(eT l pc a k).1.length=k
 | 0=>⟨h,rfl⟩
 | k+1=>by obtain⟨e,j⟩:=FN l pc h k;exact⟨bD l pc e,by simp only[eT,aGO,aGR,j]⟩
theorem Gk {C:Ctx} (Lb:nU C) {l:List Nat} {v:PV} (T:Tp l v) (E:FE) (mc n a:Nat) (hn:n≤10) (θ:0<mc) (Z:mc≤50) (ha:a≤l.length) (N:Int) (j u y A:PV) (S:List dA) (U:List dX) (O:List cU) (R:List dQ) (K:cG) (F:PF) (H:PH)
  (J:PAt E mc n 0 F) (W:aL H (E.boxes v (.int .i64 N) j u y A .aA .aA a) [(j,4,jG S),(u,4,kD U),(y,7,kI O),(A,3,nC R)])
  (hK:∀ V F' H',(gD E).le F'→aL H' (E.boxes v (.int .i64 N) j u y A V .aA (dY l mc a n).2) (FE.lists j u y A V S U O R (mU (dY l mc a n).1))→K (.exit 4) F' H') :
  aE.wp C (.loop IX) K F H:=by
 refine wp_loop (α:=Nat × PV × PH) (fun t=>lf E mc n t.1) (fun t=>t.2.2) (fun t=>t.1≤n∧aL t.2.2 (E.boxes v (.int .i64 N) j u y A t.2.1 .aA (dY l mc a t.1).2) (FE.lists j u y A t.2.1 S U O R (mU (dY l mc a t.1).1))) (fun t=>n-t.1) (0,.aA,H) ⟨aGW _,W.mO 17⟩ ?_ b_ ?_
 ·unfold lf gD
  (repeat' (first|exact d_|refine c_ ?_ ?_))<;>first|(simp only[go_sem,J.f0,J.f1,J.f2,J.f6,J.f7,J.f11,J.f13,J.f14]<;>rfl)|rfl
 rintro⟨i,V,H0⟩ ⟨hi,W⟩;simp only at hi W ⊢;obtain⟨k1,k2⟩:=uM l mc ha i;have I:dY l mc a (i+1)=((dY l mc a i).1++[(mY l mc i (dY l mc a i).2).1],(mY l mc i (dY l mc a i).2).2):=rfl;simp only[go_sem,IX,d7,lf,gD];by_cases hlt:i<n
 ·have B:(i:Int)<(n:Nat):=Om;generalize hg:dY l mc a i=g at *
  simp only[go_sem,B];refine akC (C:=C) Lb T E mc n i g.2 k1 Om (.int .i64 N) j u y A V .aA _ _ _ _ H0 ⟨by simp only[go_sem],by simp only[go_sem],by simp only[go_sem],by simp only[go_sem],by simp only[go_sem],by simp only[go_sem],by simp only[go_sem],by simp only[go_sem]⟩ W ?_;intro p F1 H1 γ β X;simp only at X;have ι:mY l mc i g.2=_:=rfl;have Y:=bD l 9 (GK l (bD l ((aD l 3 (aD l 2 g.2).2).1+1) (bD l 4 (bD l 3 (bD l 2 k1)))) (max (aD l 3 (aD l 2 g.2).2).1 1));refine akD (C:=C) Lb T E mc n i _ Y θ Z (.int .i64 N) j u y A V S U O R _ (by rw[aGK,k2]; omega) _ _ _ _ (mkT 0 1) _ _ _ p _ F1 H1 γ β X ?_;intro M f b ms w e F2 H2 B' δ hw ε;obtain⟨o,rfl⟩:=hw;have hP:mY l mc i g.2=(⟨[112]++bW i,(1+(aD l 2 g.2).1:Nat),((aD l 3 (aD l 2 g.2).2).1:Nat),(1+(aD l 2 g.2).1+(aD l ((aD l 3 (aD l 2 g.2).2).1+1) (aD l 4 (aD l 3 (aD l 2 g.2).2).2).2).1:Nat),0,M.1.getD 0 0,M.1.getD 1 0,M.1.getD 2 0,M.1.getD 3 0,ms.1,(kK l (aD l ((aD l 3 (aD l 2 g.2).2).1+1) (aD l 4 (aD l 3 (aD l 2 g.2).2).2).2).2 (max (aD l 3 (aD l 2 g.2).2).1 1)).1,mkT ((aD l 9 (kK l (aD l ((aD l 3 (aD l 2 g.2).2).1+1) (aD l 4 (aD l 3 (aD l 2 g.2).2).2).2).2 (max (aD l 3 (aD l 2 g.2).2).1 1)).2).1:Nat) 8,mkT ((1+(aD l 4 (aD l 3 (aD l 2 g.2).2).2).1:Nat):Int) 1⟩,ms.2):=rfl;rw[hP] at I;generalize ζ:(⟨[112]++bW i,(1+(aD l 2 g.2).1:Nat),((aD l 3 (aD l 2 g.2).2).1:Nat),(1+(aD l 2 g.2).1+(aD l ((aD l 3 (aD l 2 g.2).2).1+1) (aD l 4 (aD l 3 (aD l 2 g.2).2).2).2).1:Nat),0,M.1.getD 0 0,M.1.getD 1 0,M.1.getD 2 0,M.1.getD 3 0,ms.1,(kK l (aD l ((aD l 3 (aD l 2 g.2).2).1+1) (aD l 4 (aD l 3 (aD l 2 g.2).2).2).2).2 (max (aD l 3 (aD l 2 g.2).2).1 1)).1,mkT ((aD l 9 (kK l (aD l ((aD l 3 (aD l 2 g.2).2).1+1) (aD l 4 (aD l 3 (aD l 2 g.2).2).2).2).2 (max (aD l 3 (aD l 2 g.2).2).1 1)).2).1:Nat) 8,mkT ((1+(aD l 4 (aD l 3 (aD l 2 g.2).2).2).1:Nat):Int) 1⟩:cW)=P at *
  have η:P.aEX=ms.1:=by rw[← ζ]
  obtain⟨rs,z1,z2,z3,z4,z5⟩:=ε.frz 5 rfl;have y1:=z4 0 _ (by decide) rfl;have y2:=z4 1 _ (by decide) rfl;have y3:=z4 2 _ (by decide) rfl;have y4:=z4 3 _ (by decide) rfl;have y5:=z4 4 _ (by decide) rfl;simp only at y1 y2 y3 y4 y5;have y0:=T.frz o 1 rs;obtain⟨f0,f1,f2,f6,f7,f11,f13,f14⟩:=δ;simp only[go_sem,el,f14,wZz i];refine BT (i+1,e,H2.frz o 1 rs) z1 ⟨hlt,?_⟩ (by simp only; omega) ?_ b_
  ·rw[I];have eB:(E.boxes v (.int .i64 N) j u y A e .aA ms.2).map (fun b=>(b.1,b.2.frz o 1 rs))=E.boxes v (.int .i64 N) j u y A e .aA ms.2:=by show [(E.o,bG.rows 2 [[PV.bV o 1 rs v,.int .i64 ms.2]]),(E.o7,bG.rows 7 [[.int .i64 N,PV.bV o 1 rs j,PV.bV o 1 rs u,PV.bV o 1 rs y,PV.bV o 1 rs A,PV.bV o 1 rs e,.aA]]),(E.o6,flZ)]=_;rw[y0,y1,y2,y3,y4,y5]
   have e5:(mU g.1++[xW P (.osl o 1 0 ms.1.length)]).map (fun r=>r.map (PV.bV o 1 rs))=mU (g.1++[P]):=by
    rw[aHX,U4];have:([xW P (.osl o 1 0 ms.1.length)]:List (List PV)).map (fun r=>r.map (PV.bV o 1 rs))=[P.cells]:=by show [[PV.str P.name,.int .i64 P.k,.int .i64 P.m,.int .i64 P.aFV,.int .i64 P.s0,.int .i64 P.s1,.int .i64 P.s2,.int .i64 P.s3,.int .i64 P.s4,PV.bV o 1 rs (.osl o 1 0 ms.1.length),frs P.repair,.bool P.target.neg,aJ P.target.num,aJ P.target.den,.bool P.aFH.neg,aJ P.aFH.num,aJ P.aFH.den]]=_;rw[z2,← η];rfl
    rw[this];simp[mU]
   have eL:(FE.lists j u y A e S U O R (mU g.1++[xW P (.osl o 1 0 ms.1.length)])).map (fun x=>(x.1,x.2.1,x.2.2.map fun r=>r.map (PV.bV o 1 rs)))=FE.lists j u y A e S U O R (mU (g.1++[P])):=by show [(j,4,(jG S).map _),(u,4,(kD U).map _),(y,7,(kI O).map _),(A,3,(nC R).map _),(e,17,(mU g.1++[xW P (.osl o 1 0 ms.1.length)]).map _)]=_;rw[R9,Ss,O6,O8,e5]
   rw[← eB,← eL];exact z5.sub (by rw[aHX]; exact aKI ..) (aIQ.refl _)
  ·(repeat' (first|exact d_|refine c_ ?_ ?_))<;>first|(simp only[go_sem,f0,f1,f2,f6,f7,f11,f13]<;>rfl)|rfl
 ·have B:¬ (i:Int)<(n:Nat):=Om;have:i=n:=Om;subst this;simp only[go_sem,B];exact hK V _ _ (SP Sq Sq Sq Sq Sq) W
theorem Oa {C:Ctx} (V:nU C) {l:List Nat} {v:PV} (T:Tp l v) (E:FE) (pc n a:Nat) (hn:n≤60) (β:pc≤50) (ha:a≤l.length) (ext B I J M j:PV) (A:List cW) (S:A.length=pc) (L:List LI) (K:cG) (F:PF) (H:PH)
  (hF:(((gD E).set 18 (.int .i64 n)).set 19 (.int .i64 0)).le F) (x:aL H (E.boxes v ext B I J M j .aA a) ((j,17,mU A)::L))
  (hK:∀ w U H',(gD E).le U→aL H' (E.boxes v ext B I J M j w (eT l pc a n).2) ((j,17,mU A)::L++[(w,2,pA (eT l pc a n).1)])→K (.exit 8) U H') :
  aE.wp C (.loop IY) K F H:=by
 refine wp_loop (α:=Nat × PV × PH) (fun t=>((gD E).set 18 (.int .i64 n)).set 19 (.int .i64 t.1)) (fun t=>t.2.2) (fun t=>t.1≤n∧aL t.2.2 (E.boxes v ext B I J M j t.2.1 (eT l pc a t.1).2) ((j,17,mU A)::L++[(t.2.1,2,pA (eT l pc a t.1).1)])) (fun t=>n-t.1) (0,.aA,H) ⟨aGW _,x.mO 2⟩ hF b_ ?_;rintro⟨i,w,Z⟩ ⟨hi,x⟩;simp only at hi x ⊢;obtain⟨k1,k2⟩:=FN l pc ha i;have y:eT l pc a (i+1)=((eT l pc a i).1++[⟨[118]++bW i,((aD l pc (eT l pc a i).2).1:Nat)⟩],(aD l pc (eT l pc a i).2).2):=rfl;simp only[go_sem,IY,fb,gD];by_cases hlt:i<n
 ·have u:(i:Int)<(n:Nat):=Om;generalize hg:eT l pc a i=g at *
  have X:=x.set 0 rfl (aR v (aD l pc g.2).2);generalize O:aD l pc g.2=z at *
  have b1:=x.at 1 rfl;have Y:=(x.own 0 rfl).uD;rw[aGK,S] at Y;have N:(PH.nil.set E.o7 (flB ext B I J M j w)).le Z:=e_ a_ b1;simp only[go_sem,u];refine bP (PH.nil.set E.o7 (flB ext B I J M j w)) (mkS l v) N ?_;simp only[go_sem,fc];refine HD V.totP (s:=[118]) (n:=i) (by decide) Om rfl N ?_;simp only[go_sem,Y];refine sC V.totO T (o:=E.o) (n:=pc) (a:=g.2) Om k1 rfl (x.at 0 rfl) ?_ ?_
  ·rw[O]; exact e_ a_ (X.at 1 rfl)
  rw[O];have R:(1:Nat)*2≤16777216:=by decide
  simp only[go_sem,R,aGV,aHH,or_false,forall_eq,forall_eq_or_imp];refine X.append (v:=w) (s:=2) (rows:=pA g.1) (L.length+1) (src:=[(⟨[118]++bW i,(z.1:Nat)⟩:iY).cells]) (by simp) rfl (by unfold roomFor; rw[aGK]; simp only[aGR,maxLen]; omega) fun w' H2 h5 hw=>?_;obtain⟨q,rfl⟩:=hw (by simp);rw[show ((j,17,mU A)::L++[(w,2,pA g.1)])=((j,17,mU A)::L)++[(w,2,pA g.1)] from rfl,aKB _ _ (by simp),show L.length+1-((j,17,mU A)::L).length=0 by simp] at h5;have W:=h5.at 1 rfl;refine⟨e_ a_ W,?_⟩;refine bP .nil dD a_ ?_;simp only[go_sem,fe,W,aGV,aHH,or_false,forall_eq];have h6:=h5.set 1 rfl (flB ext B I J M j (.osl q 2 0 (pA g.1++[(⟨[118]++bW i,(z.1:Nat)⟩:iY).cells]).length));refine⟨a_,?_⟩;simp only[go_sem,ff,wZz i];refine aH (i+1,.osl q 2 0 (pA g.1++[(⟨[118]++bW i,(z.1:Nat)⟩:iY).cells]).length,_) ⟨hlt,?_⟩ (by simp only; omega) ?_ b_
  ·rw[y];have e:pA (g.1++[⟨[118]++bW i,(z.1:Nat)⟩])=pA g.1++[(⟨[118]++bW i,(z.1:Nat)⟩:iY).cells]:=by simp[pA]
   simp only;rw[e];exact h6
  ·exact Lq
 ·have u:¬ (i:Int)<(n:Nat):=Om;have:i=n:=Om;subst this;simp only[go_sem,u];exact hK w _ _ (SP rfl rfl rfl rfl rfl) x
def MQ (l:List Nat) (v:PV) (o aEW aEY a:Nat) (r:PV) (H:PH):Prop:=Co r (.agg (hC l aEW aEY a).1.cells)∧H=PH.nil.set o (aR v (hC l aEW aEY a).2)
structure zl (C:Ctx):Prop extends nU C where
 grow:∀ (l:List Nat) (v:PV),Tp l v→∀ (mc aEW:Nat),0<mc→mc≤1000→aEW≤60→ap C l v mc aEW 4
theorem acU {C:Ctx} (R:zl C) {l:List Nat} {v:PV} (T:Tp l v) (o aEW aEY a:Nat) (Δ:aEW≤60) (Ψ:aEY≤50) (ha:a≤l.length) :
  DL.wp C (aT Gl.res (MQ l v o aEW aEY a)) (PF.args [.ptr o 2 0 0,.int .i64 aEW,.int .i64 aEY]) (PH.nil.set o (aR v a)):=by
 have hT:hC l aEW aEY a=hC l aEW aEY a:=rfl
 conv at hT=>rhs; unfold hC
 dsimp only at hT;have hR:∀ r H,MQ l v o aEW aEY a r H↔Co r (.agg (hC l aEW aEY a).1.cells)∧H=PH.nil.set o (aR v (hC l aEW aEY a).2):=fun _ _=>Iff.rfl;have ne:=bU l (show 0<2 by decide) a;have ae:=bD l 2 ha;generalize he:aD l 2 a=e at *
 have Ω:=bU l (show 0<2 by decide) e.2;have ζ:=bD l 2 ae;generalize Θ:aD l 2 e.2=O at *
 obtain⟨S,δ⟩:=IM l ζ (1+O.1);generalize α:iJ l O.2 (1+O.1)=aFE at *
 have a':=bU l (show 0<2 by decide) aFE.2;have η:=bD l 2 S;generalize Λ:aD l 2 aFE.2=u at *
 obtain⟨U,Y⟩:=yQ l (1+O.1) η (1+u.1);generalize W:eQ l (1+O.1) u.2 (1+u.1)=aEX at *
 have κ:GOk l aEW ⟨[mV],[],aEX.2⟩:=⟨by simp,aGW _,U⟩;obtain⟨hG,-⟩:=IC (mc:=1+u.1) 4 0 κ;generalize hg:fA l (1+u.1) aEW 4 0 ⟨[mV],[],aEX.2⟩=g at *
 have b':=bU l (show 0<2 by decide) g.a;have θ:=bD l 2 hG.a;generalize Φ:aD l 2 g.a=pl at *
 obtain⟨V,ε⟩:=uM l (1+u.1) θ (1+pl.1);generalize β:dY l (1+u.1) pl.2 (1+pl.1)=pols at *
 have c':=bU l (Om:0<aEY+1) pols.2;have σ:=bD l (aEY+1) V;generalize ο:aD l (aEY+1) pols.2=vo at *
 generalize γ:eT l (1+pl.1) vo.2 vo.1=vols at *
 have ee:IntKind.i64.wrap (1+(e.1:Int))=((1+e.1:Nat):Int):=by rw[wrap_i64 Om Om]; omega
 have τ:IntKind.i64.wrap (1+(O.1:Int))=((1+O.1:Nat):Int):=by rw[wrap_i64 Om Om]; omega
 have υ:IntKind.i64.wrap (1+(u.1:Int))=((1+u.1:Nat):Int):=by rw[wrap_i64 Om Om]; omega
 have χ:IntKind.i64.wrap (1+(pl.1:Int))=((1+pl.1:Nat):Int):=by rw[wrap_i64 Om Om]; omega
 have ψ:IntKind.i64.wrap ((aEY:Int)+1)=((aEY+1:Nat):Int):=dJ Om;have h0:aL (PH.nil.set o (aR v a)) [(o,aR v a)] []:=aL.nil.new (H:=PH.nil) rfl (aR v a);simp only[go_sem,DL,qq,Gl];refine aQ fun o6 μ=>?_;have w:=h0.new μ flZ;simp only[go_sem,qt];refine cR R.totO T (o:=o) (n:=2) (a:=a) (by decide) ha rfl (w.at 0 rfl) ?_;have A:=w.set 0 rfl (aR v e.2);rw[he];simp only[go_sem,ee];refine aQ fun o7 ν=>?_;have J:=A.new ν (flB (.int .i64 (1+e.1:Nat)) .aA .aA .aA .aA .aA .aA);simp only[go_sem,qu,aGV,aHH,or_false,forall_eq,forall_eq_or_imp];refine cR R.totO T (o:=o) (n:=2) (a:=e.2) (by decide) ae rfl (J.at 0 rfl) ?_;have h4:=J.set 0 rfl (aR v O.2);rw[Θ];have h5:=h4.perm (B':=FE.boxes ⟨o,o6,o7,aEW,aEY⟩ v (.int .i64 (1+e.1:Nat)) .aA .aA .aA .aA .aA .aA O.2) (L':=[]) (aJG.cons _ (aJG.swap _ _ _)) (aJG.refl _);obtain⟨E,j⟩:∃ E:FE,E=⟨o,o6,o7,aEW,aEY⟩:=⟨_,rfl⟩;rw[← j] at h5;simp only[go_sem,τ,qw];refine akB (C:=C) R.tonU T E (1+O.1) O.2 Om ζ _ _ _ _ ?_ h5 ?_
 ·rw[j];unfold gD;exact Lq
 clear h5 h4 J A w h0 μ ν;intro y F1 H1 K w;rw[α] at w;have f0:F1 0=some (.ptr o 2 0 0):=K 0 _ (by rw[j]; unfold gD; simp only[go_sem]);have f1:F1 1=some (.int .i64 aEW):=K 1 _ (by rw[j]; unfold gD; simp only[go_sem]);have f2:F1 2=some (.int .i64 aEY):=K 2 _ (by rw[j]; unfold gD; simp only[go_sem]);have f6:F1 6=some (.ptr o6 7 0 0):=K 6 _ (by rw[j]; unfold gD; simp only[go_sem]);have f7:F1 7=some (.ptr o7 7 0 0):=K 7 _ (by rw[j]; unfold gD; simp only[go_sem]);have Z:=w.at 0 rfl;rw[j] at Z;simp only[go_sem,dl,f0];refine cR R.totO T (o:=o) (n:=2) (a:=aFE.2) (by decide) S rfl Z ?_;have A:=w.set 0 rfl (aR v u.2);rw[Λ];simp only[go_sem,υ,dp];refine X4 (C:=C) R.tonU T E (1+u.1) u.2 (1+O.1) Om Om η (.int .i64 (1+e.1:Nat)) y aFE.1 δ _ _ _ ?_ (by rw[j] at A ⊢; exact A) ?_
 ·rw[j];unfold gD;exact Lq
 clear Z A w f0 f1 f2 f6 f7 K;intro w2 F2 H2 M f11 A;rw[W] at A;have f0:F2 0=some (.ptr o 2 0 0):=M 0 _ (by rw[j]; unfold gD; simp only[go_sem]);have f1:F2 1=some (.int .i64 aEW):=M 1 _ (by rw[j]; unfold gD; simp only[go_sem]);have f2:F2 2=some (.int .i64 aEY):=M 2 _ (by rw[j]; unfold gD; simp only[go_sem]);have f6:F2 6=some (.ptr o6 7 0 0):=M 6 _ (by rw[j]; unfold gD; simp only[go_sem]);have f7:F2 7=some (.ptr o7 7 0 0):=M 7 _ (by rw[j]; unfold gD; simp only[go_sem]);obtain⟨qm,ξ⟩:=(A.own 1 rfl).one (by rw[aGK]; omega);rw[aGK,Y] at ξ;subst ξ;have ω:(1:Nat)*7≤16777216:=by decide
 simp only[go_sem,dx];refine aB (R.int 0 (by unfold dV; omega)) rfl ?_;simp only[go_sem,aGV,aHH,or_false,forall_eq,forall_eq_or_imp,ω];refine aQ fun od Ξ=>?_;have J:=A.me (s:=7) (rows:=kI [mV]) Ξ;have b7:=A.at 1 rfl;rw[j] at b7;have n7:¬ o7=od:=by have:=J.neL 1 2 rfl rfl rfl;rw[j] at this; exact this
 simp only[go_sem,f7,b7,n7,aGV,aHH,or_false,forall_eq];have h4:=(J.set 1 rfl (flB (.int .i64 (1+e.1:Nat)) y (.osl qm 4 0 (1+u.1)) (.osl od 7 0 1) .aA .aA .aA)).mO 3;rw[j] at h4;have h5:=h4.perm (B':=(GE.mk o o7 qm (.int .i64 (1+e.1:Nat)) y .aA .aA).boxes v (1+u.1) (.osl od 7 0 1) .aA aEX.2++[(o6,flZ)]) (L':=mT ⟨[mV],[],aEX.2⟩ (.osl od 7 0 1) .aA++[(y,4,jG aFE.1),(.osl qm 4 0 (1+u.1),4,kD aEX.1)]) (aJG.refl _)
  (List.perm_append_comm (l₁:=[(y,4,jG aFE.1),(.osl qm 4 0 (1+u.1),4,kD aEX.1)]) (l₂:=mT ⟨[mV],[],aEX.2⟩ (.osl od 7 0 1) .aA))
 simp only[go_sem,dy,f0,f1,f7];refine FP h5 (fun H0 Γ=>R.grow l v T (1+u.1) aEW Om Om Δ (GE.mk o o7 qm (.int .i64 (1+e.1:Nat)) y .aA .aA) (.osl od 7 0 1) .aA ⟨[mV],[],aEX.2⟩ 0 mV κ rfl rfl H0 Γ) (by simp only[go_sem,f0,f1,f7]; rfl) ?_;rintro r B' L' H3 ⟨rfl,F,I,rfl,rfl⟩ h6;rw[hg] at h6;have h7:=h6.perm (B':=E.boxes v (.int .i64 (1+e.1:Nat)) y (.osl qm 4 0 (1+u.1)) F I .aA .aA g.a) (L':=[(y,4,jG aFE.1),(.osl qm 4 0 (1+u.1),4,kD aEX.1),(F,7,kI g.aFG),(I,3,nC g.aFQ)]) (by rw[j]; exact aJG.refl _)
  (List.perm_append_comm (l₁:=mT g F I) (l₂:=[(y,4,jG aFE.1),(.osl qm 4 0 (1+u.1),4,kD aEX.1)]))
 have Z:=h7.at 0 rfl;rw[j] at Z;simp only[go_sem,dz,f0];refine cR R.totO T (o:=o) (n:=2) (a:=g.a) (by decide) hG.a rfl Z ?_;have h8:=h7.set 0 rfl (aR v pl.2);rw[Φ];simp only[go_sem,χ,d6];refine Gk (C:=C) R.tonU T E (1+u.1) (1+pl.1) pl.2 Om Om Om θ ((1+e.1:Nat):Int) y (.osl qm 4 0 (1+u.1)) F I aFE.1 aEX.1 g.aFG g.aFQ _ _ _ (by rw[j]; exact⟨by simp only[go_sem,f0],by simp only[go_sem,f1],by simp only[go_sem,f2],by simp only[go_sem,f6],by simp only[go_sem,f7],by simp only[go_sem,f11],by simp only[go_sem],by simp only[go_sem]; rfl⟩) (by rw[j] at h8 ⊢; exact h8) ?_;clear h8 h7 h6 h5 h4 J A Z b7 f0 f1 f2 f6 f7 M;intro w5 F4 H4 N w;rw[β] at w;have f0:F4 0=some (.ptr o 2 0 0):=N 0 _ (by rw[j]; unfold gD; simp only[go_sem]);have f1:F4 1=some (.int .i64 aEW):=N 1 _ (by rw[j]; unfold gD; simp only[go_sem]);have f2:F4 2=some (.int .i64 aEY):=N 2 _ (by rw[j]; unfold gD; simp only[go_sem]);have f6:F4 6=some (.ptr o6 7 0 0):=N 6 _ (by rw[j]; unfold gD; simp only[go_sem]);have f7:F4 7=some (.ptr o7 7 0 0):=N 7 _ (by rw[j]; unfold gD; simp only[go_sem]);have Z:=w.at 0 rfl;rw[j] at Z;simp only[go_sem,ep,f0,f2,ψ];refine cR R.totO T (o:=o) (n:=aEY+1) (a:=pols.2) Om V rfl Z ?_;have A:=w.set 0 rfl (aR v vo.2);rw[ο];have J:=A.perm (B':=E.boxes v (.int .i64 (1+e.1:Nat)) y (.osl qm 4 0 (1+u.1)) F I w5 .aA vo.2) (L':=(w5,17,mU pols.1)::[(y,4,jG aFE.1),(.osl qm 4 0 (1+u.1),4,kD aEX.1),(F,7,kI g.aFG),(I,3,nC g.aFQ)]) (aJG.refl _)
  (List.perm_append_comm (l₁:=[(y,4,jG aFE.1),(.osl qm 4 0 (1+u.1),4,kD aEX.1),(F,7,kI g.aFG),(I,3,nC g.aFQ)]) (l₂:=[(w5,17,mU pols.1)]))
 simp only[go_sem,fa];refine Oa (C:=C) R.tonU T E (1+pl.1) vo.1 vo.2 Om Om σ _ _ _ _ _ w5 pols.1 ε _ _ _ _ ?_ (by rw[j] at J ⊢; exact J) ?_
 ·rw[j];unfold gD;exact Lq
 clear J A w Z f0 f1 f2 f6 f7 N;intro w6 F5 H5 ι w;rw[γ] at w;have f6:F5 6=some (.ptr o6 7 0 0):=ι 6 _ (by rw[j]; unfold gD; simp only[go_sem]);have f7:F5 7=some (.ptr o7 7 0 0):=ι 7 _ (by rw[j]; unfold gD; simp only[go_sem]);rw[j] at w;have b7:=w.at 1 rfl;have b6:=w.at 2 rfl;have one:∀ (x:PV),x∈[y,F,I,w5,w6]→(∃ q s n,x=.osl q s 0 n)∨x=.aA:=by
  intro x hx;have X:∀ {s:Nat} {rows:List (List PV)},bA H5 s x rows→(∃ q s n,x=.osl q s 0 n)∨x=.aA:=by
   rintro s rows (⟨_,h⟩ | ⟨q,rs,h,_⟩)
   ·exact .inr h
   ·exact .inl ⟨q,s,_,h⟩
  simp only[aGV,aHH,or_false] at hx;rcases hx with rfl | rfl | rfl | rfl | rfl
  ·exact X (w.own 1 rfl)
  ·exact X (w.own 3 rfl)
  ·exact X (w.own 4 rfl)
  ·exact X (w.own 0 rfl)
  ·exact X (w.own 5 rfl)
 have B:∀ (x:PV),x∈[y,F,I,w5,w6]→PV.one x=true:=fun x hx=>by rcases one x hx with ⟨q,s,n,rfl⟩ | rfl<;>rfl
 have o1:=B y (by simp);have o3:=B F (by simp);have o4:=B I (by simp);have o5:=B w5 (by simp);have ρ:=B w6 (by simp);simp only[PV.one] at o1 o3 o4 o5 ρ;simp only[go_sem,fg,f6,f7,b7,b6,aGV,aHH,or_false,forall_eq,forall_eq_or_imp,o1,o3,o4,o5,ρ];have A:=w.set 2 rfl (flB (.int .i64 (1+e.1:Nat)) y (.osl qm 4 0 (1+u.1)) F I w5 w6);have J:=A.sub (B':=[(o,aR v vols.2)]) (aIQ.cons_cons _ (List.nil_sublist _)) (aIQ.refl _);obtain⟨φ,H6,k1,k2,k3,k4⟩:=aL.giveUp _ J (fun x hx=>by
  simp only[List.cons_append,aJX,aGV,aHH,or_false] at hx;rcases hx with rfl | rfl | rfl | rfl | rfl | rfl
  ·exact U4 _
  ·exact R9 _
  ·exact Ss _
  ·exact O6 _
  ·exact O8 _
  ·exact auP _) (fun b hb q s rs=>by
  simp only[aGV,aHH,or_false] at hb;subst hb;simp only[bG.frz,aHR,aIW,T.frz];rfl)
 refine oI (vs:=[.agg [.int .i64 (1+e.1:Nat),y,.osl qm 4 0 (1+u.1),F,I,w5,w6]]) (.inr rfl) (by simp only[go_sem,f6]) (k4 _ _ (.done (H2:=PH.nil.set o (aR v vols.2)) ?_ (e_ a_ (k3.at 0 rfl))));rw[hR,hT];refine⟨CoL.agg ?_,rfl⟩;have s5:=k1 (w5,17,mU pols.1) (by simp);have s1:=k1 (y,4,jG aFE.1) (by simp);have s2:=k1 (.osl qm 4 0 (1+u.1),4,kD aEX.1) (by simp);have s3:=k1 (F,7,kI g.aFG) (by simp);have s4:=k1 (I,3,nC g.aFQ) (by simp);have s6:=k1 (w6,2,pA vols.1) (by simp);have s0:φ (.int .i64 (1+e.1:Nat))=.int .i64 (1+e.1:Nat):=k2 _ rfl;show CoL [φ (.int .i64 (1+e.1:Nat)),φ y,φ (.osl qm 4 0 (1+u.1)),φ F,φ I,φ w5,φ w6] _;rw[s0];exact CoL.cons (.refl _) (CoL.cons s1.co (CoL.cons s2.co (CoL.cons s3.co (CoL.cons s4.co (CoL.cons s5.co (CoL.cons s6.co .nil))))))
structure aaH (C:Ctx):Prop extends zl C where
 new:∀ (l:List Nat),(∀ x∈l,x<256)→l.length≤9223372036854775807→aG C 28 [.sl 1 (kB l)] .nil (jv l)
 fleet:∀ (l:List Nat) (v:PV),Tp l v→∀ (o aEW aEY a:Nat),aEW≤60→aEY≤50→a≤l.length →
  aG C 0 [.ptr o 2 0 0,.int .i64 aEW,.int .i64 aEY] (PH.nil.set o (aR v a)) (fun r H=>r=.agg (hC l aEW aEY a).1.cells∧H=PH.nil.set o (aR v (hC l aEW aEY a).2))
theorem MQ.exact {C:Ctx} {name:Nat} {args:List PV} {H:PH} {l:List Nat} {v:PV} {o aEW aEY a:Nat} (h:aG C name args H (MQ l v o aEW aEY a)):aG C name args H (fun r H=>r=.agg (hC l aEW aEY a).1.cells∧H=PH.nil.set o (aR v (hC l aEW aEY a).2)) :=
 h.post fun r H' e=>⟨_,e.1,rfl,e.2⟩
theorem acS {C:Ctx} (y:aaH C) (l:List Nat) (hb:∀ x∈l,x<256) (B:l.length≤9223372036854775807) (aEW aEY:Nat) (j:aEW≤60) (w:aEY≤50) :
  DK.wp C (aT Fv.res (cD (.agg (hC (l.take 400) aEW aEY 0).1.cells))) (PF.args [.sl 1 (kB l),.int .i64 aEW,.int .i64 aEY]) .nil:=by
 simp only[go_sem,DK,qk,Fv];refine aQ fun o6 E=>?_;simp only[go_sem,ql];refine dU (y.new l hb B) rfl a_ ?_;rintro r H' ⟨o,v,rfl,T,rfl⟩ A;have u:¬ o6=o:=by intro e;subst e;have:=A o6 (aR v 0) (by rw[aP,if_pos rfl]) rfl;rw[aP,if_pos rfl] at this;cases this
 rw[PH.oH];simp only[go_sem];refine mC (y.fleet _ v T o aEW aEY 0 j w (aGW _)) (by rw[aP,if_pos rfl]) rfl ?_;simp only[go_sem,u];exact aU (vs:=[.agg (hC (l.take 400) aEW aEY 0).1.cells]) (.inr rfl) .nil Sq a_ ⟨.refl _,rfl⟩
theorem CoL.alJ:CoL [] []:=⟨rfl,fun j p q h=>by simp at h⟩
theorem CoL.BH {p q:PV} {ps l:List PV} (h:Co p q) (e:CoL ps l):CoL (p::ps) (q::l):=by
 refine⟨by simp[e.len],fun j x y a b=>?_⟩;cases j with
 | zero =>simp only[List.getElem?_cons_zero,aIU.injEq] at a b;subst a; subst b; exact h
 | succ j=>exact e.at_ j x y (by simpa using a) (by simpa using b)
theorem aG.seen {C:Ctx} {name:Nat} {args:List PV} {H:PH} {v:PV} (h:aG C name args H (cD v)):aG C name args H (aM v) :=
 h.post fun r H' e=>⟨v,e.1,rfl,e.2⟩
def SZ (x:RF):Bool:=(x.num.all (fun n=>decide (n<4294967296))&&x.den.all fun n=>decide (n<4294967296))&&(decide (x.num.length≤9)&&decide (x.den.length≤9))
theorem KI {x:RF} (h:SZ x=true):x.Ok:=by
 simp only[SZ,aHC,aIA,decide_eq_true_eq] at h;exact⟨h.1.1,h.1.2,by omega,by omega⟩
def GM (l:List RF):Bool:=decide (l.length≤9)&&l.all SZ
theorem CA {l:List RF} (h:GM l=true):pB l:=by
 simp only[GM,aHC,aIA,decide_eq_true_eq] at h;exact⟨by unfold Fits; omega,fun x e=>KI (h.2 x e)⟩
def Fb (x:dA):Bool:=(GM x.start&&GM x.exit)&&(decide (x.aFB.length≤9)&&x.aFB.all GM)
theorem acG {x:dA} (h:Fb x=true):x.Ok:=by
 simp only[Fb,aHC,aIA,decide_eq_true_eq] at h;exact⟨CA h.1.1,CA h.1.2,by unfold Fits; omega,fun r e=>CA (h.2.2 r e)⟩
def Ju (x:cW):Bool:=(decide (dV x.k∧dV x.m∧dV x.aFV)&&(decide (x.aEX.length≤9)&&x.aEX.all fun m=>decide (dV m)))&&(GM x.repair&&(SZ x.target&&SZ x.aFH))
theorem aeJ {x:cW} (h:Ju x=true):x.Ok:=by
 simp only[Ju,aHC,aIA,decide_eq_true_eq] at h;exact⟨h.1.1.1,h.1.1.2.1,h.1.1.2.2,by unfold Fits; omega,h.1.2.2,CA h.2.1,KI h.2.2.1,KI h.2.2.2⟩
def okB (f:aC):Bool:=(decide (f.aFE.length≤99∧f.aEX.length≤99∧f.aEZ.length≤99∧f.aEW.length≤99∧f.aFA.length≤99∧f.aEY.length≤99)&&(f.aFE.all Fb&&f.aFA.all Ju)) &&
 (f.aEZ.all (fun x=>SZ x.aFM&&decide (dV x.level∧dV x.parent))&&(f.aEW.all (fun x=>decide (dV x.model∧dV x.machine))&&f.aEY.all fun x=>decide (dV x.aFJ)))
theorem awG {f:aC} (h:okB f=true):f.Ok:=by
 simp only[okB,aHC,aIA,decide_eq_true_eq] at h;obtain⟨⟨⟨y,A,B,E,F,I⟩,l,u⟩,j,w,h5⟩:=h;exact⟨by unfold Fits; omega,by unfold Fits; omega,by unfold Fits; omega,by unfold Fits; omega,by unfold Fits; omega,by unfold Fits; omega,fun x e=>acG (l x e),fun x e=>⟨KI (j x e).1,(j x e).2⟩,w,fun x e=>aeJ (u x e),h5⟩
noncomputable def eU:aC:={ (hC [] 1 0 0).1 with aEY:=[⟨[118,48],0⟩] }
theorem jT:dE eU=true:=by decide +kernel
theorem tB:eU.Ok:=awG (by decide +kernel)
theorem Oi:oX eU [[0]] []=true:=by
 unfold oX zE;rw[jT,if_pos rfl,if_pos (by decide +kernel)];decide +kernel
def w9:Rg:=[iZ 4]
def xa:Rg:=[iZ 5]
def xb:Rg:=[iA 6 (.mv (.const (.int .u64 0)))]
def xc:Rg:=[iI 7 0]
def xd:Rg:=[iM 10 7,iM 11 0,iN 12 11,iB 13 .lss 10 12]
def xe:Rg:=[iM 16 6,iM 8 16]
def xf:Rg:=[iM 17 7,iM 18 1,iN 19 18,iB 20 .lss 17 19]
def xg:Rg:=[iM 21 8,iM 22 1,iM 23 7,iX 24 1 22 23,iL 25 24,iA 26 (.conv .u64 (Tm 25)),iB 27 .add 21 26,iM 8 27]
def RJ:Rg:=[iM 28 0,iM 29 7,iX 30 1 28 29,iL 31 30,iA 32 (.conv .u64 (Tm 31)),iM 9 32]
def RK:Rg:=[iA 6 (.mv (.const (.int .u64 0)))]
def LL:Rg:=[iM 33 9,iM 34 8,iB 35 .lss 33 34]
def LM:Rg:=[iM 36 9,iA 37 (.bin .add (Tm 36) (.const (.int .u64 4294967296))),iM 9 37]
def LN:Rg:=[iA 6 (.mv (.const (.int .u64 1)))]
def zC:Rg:=[iM 38 5,iM 39 9,iM 40 8,iB 41 .sub 39 40,iA 42 (.conv .u32 (Tm 41)),iA 43 (.aFC true 1 1 [(.int .u32 0)] [(0,(Tm 42))]),iA 44 (.append 1 4 (Tm 38) (Tm 43)),iM 5 44]
def zD:Rg:=[iM 14 7,iC 15 .add 14 1,iM 7 15]
def ja:aE:=(.seq (sq xd (.cond (Tm 13) .skip (.exit 0))) (.seq (.block 1 (sq xe (.seq (sq xf (.cond (Tm 20) (.region xg) .skip)) (sq RJ (sq RK (.seq (sq LL (.cond (Tm 35) (sq LM (.region LN)) .skip)) (.region zC))))))) (.region zD)))
def jb:Rg:=[iM 45 5,iK 46 38 45,iM 4 46]
def FJ:aE:=(sq w9 (sq xa (sq xb (.seq (sq xc (.block 0 (.loop ja))) (sq jb .ret)))))
def afV:List Nat:=[43]
def Mx:bC:=⟨2,47,FJ,[.tmp 4]⟩
def Mz:Rg:=[iZ 4]
def M0:Rg:=[iZ 5]
def M1:Rg:=[iA 6 (.mv (.const (.int .u64 0)))]
def M2:Rg:=[iI 7 0]
def M3:Rg:=[iM 9 7,iM 10 0,iN 11 10,iB 12 .lss 9 11,iM 13 12,gM 14 7 13 false,gM 15 1 13 false,gN 16 15 13 false,gB 17 .lss 14 16 13 false,iQ 18 13 17,iM 19 18,gM 20 6 19 false,iG 21 (.bin .gtr (Tm 20) (.const (.int .u64 0))) 19 false,iQ 22 19 21]
def ZZ:Rg:=[iM 25 6,iM 8 25]
def aa:Rg:=[iM 26 7,iM 27 0,iN 28 27,iB 29 .lss 26 28]
def ac:Rg:=[iM 30 8,iM 31 0,iM 32 7,iX 33 1 31 32,iL 34 33,iA 35 (.conv .u64 (Tm 34)),iB 36 .add 30 35,iM 8 36]
def LP:Rg:=[iM 37 7,iM 38 1,iN 39 38,iB 40 .lss 37 39]
def LQ:Rg:=[iM 41 8,iM 42 1,iM 43 7,iX 44 1 42 43,iL 45 44,iA 46 (.conv .u64 (Tm 45)),iB 47 .add 41 46,iM 8 47]
def CS:Rg:=[iM 48 5,iM 49 8,iA 50 (.conv .u32 (Tm 49)),iA 51 (.aFC true 1 1 [(.int .u32 0)] [(0,(Tm 50))]),iA 52 (.append 1 4 (Tm 48) (Tm 51)),iM 5 52]
def CU:Rg:=[iM 53 8,iA 54 (.bin .shr (Tm 53) (.const (.int .u64 32))),iM 6 54]
def CV:Rg:=[iM 23 7,iC 24 .add 23 1,iM 7 24]
def xh:aE:=(.seq (sq M3 (.cond (Tm 22) .skip (.exit 0))) (.seq (.block 1 (sq ZZ (.seq (sq aa (.cond (Tm 29) (.region ac) .skip)) (.seq (sq LP (.cond (Tm 40) (.region LQ) .skip)) (sq CS (.region CU)))))) (.region CV)))
def RM:Rg:=[iM 55 5,iK 56 38 55,iM 4 56]
def LO:aE:=(sq Mz (sq M0 (sq M1 (.seq (sq M2 (.block 0 (.loop xh))) (sq RM .ret)))))
def anU:List Nat:=[51]
def Zy:bC:=⟨2,57,LO,[.tmp 4]⟩
def xi:Rg:=[iZ 4]
def xj:Rg:=[iM 10 0,iN 11 10,iM 12 1,iN 13 12,iB 14 .add 11 13,iA 15 (.aFF 1 4 [(.int .u32 0)] (Tm 14) (Tm 14)),iM 5 15]
def xk:Rg:=[iI 6 0]
def xl:Rg:=[iM 16 6,iM 17 0,iN 18 17,iB 19 .lss 16 18]
def RO:Rg:=[iA 7 (.mv (.const (.int .u64 0)))]
def RP:Rg:=[iI 8 0]
def xm:Rg:=[iM 22 8,iM 23 1,iN 24 23,iB 25 .lss 22 24]
def xn:Rd:=[(iM 28 0,false),(iM 29 6,false),(iX 30 1 28 29,false),(iL 31 30,false),(iA 32 (.conv .u64 (Tm 31)),false),(iM 33 1,false),(iM 34 8,false),(iX 35 1 33 34,false),(iL 36 35,false),(iA 37 (.conv .u64 (Tm 36)),false),(iB 38 .mul 32 37,false),(iM 39 5,false),(iM 40 6,false),(iM 41 8,false),(iB 42 .add 40 41,false),(iX 43 1 39 42,false),(iL 44 43,false),(iA 45 (.conv .u64 (Tm 44)),false),(iB 46 .add 38 45,false),(iM 47 7,false),(iB 48 .add 46 47,false),(iM 9 48,false)]
def xo:Rg:=[iM 49 5,iM 50 6,iM 51 8,iB 52 .add 50 51,iM 53 9,iA 54 (.conv .u32 (Tm 53)),iX 55 1 49 52,iS 1 55 54]
def xp:Rg:=[iM 56 9,iA 57 (.bin .shr (Tm 56) (.const (.int .u64 32))),iM 7 57]
def je:Rg:=[iM 26 8,iC 27 .add 26 1,iM 8 27]
def LS:aE:=(.seq (sq xm (.cond (Tm 25) .skip (.exit 2))) (.seq (.block 3 (dq xn (sq xo (.region xp)))) (.region je)))
def LT:Rg:=[iM 58 5,iM 59 6,iM 60 1,iN 61 60,iB 62 .add 59 61,iM 63 7,iA 64 (.conv .u32 (Tm 63)),iX 65 1 58 62,iS 1 65 64]
def jf:Rg:=[iM 20 6,iC 21 .add 20 1,iM 6 21]
def jd:aE:=(.seq (sq xl (.cond (Tm 19) .skip (.exit 0))) (.seq (.block 1 (sq RO (.seq (sq RP (.block 2 (.loop LS))) (.region LT)))) (.region jf)))
def jg:Rg:=[iM 66 5,iK 67 38 66,iM 4 67]
def FK:aE:=(sq xi (sq xj (.seq (sq xk (.block 0 (.loop jd))) (sq jg .ret))))
def afX:List Nat:=[]
def M4:bC:=⟨2,68,FK,[.tmp 4]⟩
def L7:Rg:=[iI 2 0]
def L8:Rg:=[iM 5 0,iK 6 38 5,iM 0 6]
def L9:Rg:=[iM 7 0,iN 8 7,iC 9 .eql 8 0]
def Ma:Rg:=[iI 2 0]
def Mb:Rg:=[iM 10 0,iN 11 10,iC 12 .sub 11 1,iA 13 (.bin .mul (Ci 32) (Tm 12)),iM 3 13]
def Mc:Rg:=[iM 14 0,iM 15 0,iN 16 15,iC 17 .sub 16 1,iX 18 1 14 17,iL 19 18,iM 4 19]
def Md:Rg:=[iM 20 4,iA 21 (.bin .gtr (Tm 20) (.const (.int .u32 0)))]
def Me:Rg:=[iM 24 3,iC 25 .add 24 1,iM 3 25]
def Mf:Rg:=[iM 22 4,iA 23 (.bin .quo (Tm 22) (.const (.int .u32 2))),iM 4 23]
def L6:aE:=(.seq (sq Md (.cond (Tm 21) .skip (.exit 0))) (.seq (.block 1 (.region Me)) (.region Mf)))
def ww:Rg:=[iM 26 3,iM 2 26]
def LE:aE:=(sq L7 (sq L8 (.seq (sq L9 (.cond (Tm 9) (sq Ma .ret) .skip)) (sq Mb (.seq (sq Mc (.block 0 (.loop L6))) (sq ww .ret))))))
def anG:List Nat:=[]
def Zp:bC:=⟨1,27,LE,[.tmp 2]⟩
def afY:Rg:=[iZ 4]
def afZ:Rg:=[iM 9 0,iN 10 9,iC 11 .eql 10 0]
def agA:Rg:=[iZ 4]
def agB:Rg:=[iM 12 1,iC 13 .quo 12 32,iA 14 (.aFF 1 4 [(.int .u32 0)] (Tm 13) (Tm 13)),iM 5 14]
def agC:Rg:=[iA 6 (.mv (.const (.int .u64 0)))]
def agD:Rg:=[iI 7 0]
def agE:Rg:=[iM 15 7,iM 16 0,iN 17 16,iB 18 .lss 15 17]
def agF:Rg:=[iM 21 0,iM 22 7,iX 23 1 21 22,iL 24 23,iA 25 (.conv .u64 (Tm 24)),iM 26 1,iC 27 .rem 26 32,iA 28 (.conv .u64 (Tm 27)),iB 29 .shl 25 28,iM 30 6,iB 31 .or 29 30,iM 8 31]
def agG:Rg:=[iM 32 5,iM 33 8,iA 34 (.conv .u32 (Tm 33)),iA 35 (.aFC true 1 1 [(.int .u32 0)] [(0,(Tm 34))]),iA 36 (.append 1 4 (Tm 32) (Tm 35)),iM 5 36]
def agH:Rg:=[iM 37 8,iA 38 (.bin .shr (Tm 37) (.const (.int .u64 32))),iM 6 38]
def V4:Rg:=[iM 19 7,iC 20 .add 19 1,iM 7 20]
def V3:aE:=(.seq (sq agE (.cond (Tm 18) .skip (.exit 0))) (.seq (.block 1 (sq agF (sq agG (.region agH)))) (.region V4)))
def V5:Rg:=[iM 39 5,iM 40 6,iA 41 (.conv .u32 (Tm 40)),iA 42 (.aFC true 1 1 [(.int .u32 0)] [(0,(Tm 41))]),iA 43 (.append 1 4 (Tm 39) (Tm 42)),iK 44 38 43,iM 4 44]
def aj:aE:=(sq afY (.seq (sq afZ (.cond (Tm 11) (sq agA .ret) .skip)) (sq agB (sq agC (.seq (sq agD (.block 0 (.loop V3))) (sq V5 .ret))))))
def awV:List Nat:=[35,42]
def uup:bC:=⟨2,45,aj,[.tmp 4]⟩
def Ml:Rg:=[iZ 4]
def Mm:Rg:=[iM 8 1,iC 9 .quo 8 32,iM 10 0,iN 11 10,iB 12 .geq 9 11]
def Mn:Rg:=[iZ 4]
def Mo:Rg:=[iZ 5]
def Mp:Rg:=[iM 13 1,iC 14 .quo 13 32,iM 6 14]
def Mq:Rg:=[iM 15 6,iM 16 0,iN 17 16,iB 18 .lss 15 17]
def Mr:Rg:=[iM 21 0,iM 22 6,iX 23 1 21 22,iL 24 23,iA 25 (.conv .u64 (Tm 24)),iM 7 25]
def Ms:Rg:=[iM 26 6,iC 27 .add 26 1,iM 28 0,iN 29 28,iB 30 .lss 27 29]
def Mt:Rg:=[iM 31 7,iM 32 0,iM 33 6,iC 34 .add 33 1,iX 35 1 32 34,iL 36 35,iA 37 (.conv .u64 (Tm 36)),iA 38 (.bin .shl (Tm 37) (.const (.int .u64 32))),iB 39 .or 31 38,iM 7 39]
def ZY:Rg:=[iM 40 5,iM 41 7,iM 42 1,iC 43 .rem 42 32,iA 44 (.conv .u64 (Tm 43)),iB 45 .shr 41 44,iA 46 (.conv .u32 (Tm 45)),iA 47 (.aFC true 1 1 [(.int .u32 0)] [(0,(Tm 46))]),iA 48 (.append 1 4 (Tm 40) (Tm 47)),iM 5 48]
def RH:Rg:=[iM 19 6,iC 20 .add 19 1,iM 6 20]
def wx:aE:=(.seq (sq Mq (.cond (Tm 18) .skip (.exit 0))) (.seq (.block 1 (sq Mr (.seq (sq Ms (.cond (Tm 30) (.region Mt) .skip)) (.region ZY)))) (.region RH)))
def wy:Rg:=[iM 49 5,iK 50 38 49,iM 4 50]
def LJ:aE:=(sq Ml (.seq (sq Mm (.cond (Tm 12) (sq Mn .ret) .skip)) (sq Mo (.seq (sq Mp (.block 0 (.loop wx))) (sq wy .ret)))))
def anL:List Nat:=[47]
def Zu:bC:=⟨2,51,LJ,[.tmp 4]⟩
theorem qW (P:List Nat) (v:Nat):aI P++[[.int .u32 (v:Int)]]=aI (P++[v]):=by simp[aI]
theorem qV {P:List Nat} (h:P.length≤35184372087808):roomFor (aI P).length 1 4:=by
 unfold roomFor;rw[bX];simp only[maxLen]; omega
def TD (a b:List Nat) (v:PV) (c i:Nat):PF:=(((((PF.nil.set 0 (aJ a)).set 1 (aJ b)).set 5 (v)).set 6 (.int .u64 c)).set 7 (.int .i64 i))
theorem afU {C:Ctx} (L:qM C) (a b:List Nat) (ha:Lim a) (hb:Lim b) (η:val b≤val a) (hl:b.length≤a.length) (h1:a.length≤35184372087808) :
  FJ.wp C (aT Mx.res (cD (aJ (aK (val a-val b))))) (PF.args [aJ a,aJ b]) .nil:=by
 simp only[go_sem,FJ,w9,xa,xb,xc,Mx];refine wp_loop (α:=List Nat × Nat × PV × PH) (fun s=>TD a b s.2.2.1 s.2.1 s.1.length) (fun s=>s.2.2.2)
  (fun s=>s.1.length≤a.length∧Lim s.1∧s.2.1≤1∧val (a.take s.1.length)+4294967296 ^ s.1.length*s.2.1=val s.1+val (b.take s.1.length)∧bA s.2.2.2 1 s.2.2.1 (aI s.1)) (fun s=>a.length-s.1.length) ([],0,.aA,.nil) ⟨by simp,by simp[Lim],by simp,by simp[val],.nil⟩ ?_ a_ ?_
 ·unfold TD;exact Lq
 rintro⟨P,c,v,H0⟩ ⟨hP,j,hc,B,W⟩;simp only at hP j hc B W ⊢;simp only[go_sem,ja,xd,TD];by_cases X:P.length<a.length
 ·have F:(P.length:Int)<(a.length:Nat):=Om;have ε:=ha _ (aGP X);have δ:=cA a X;have β:(aI a)[P.length]?=some [.int .u32 ((a[P.length]:Nat):Int)]:=bN a X;generalize hx:a[P.length]=x at *
  have ex:IntKind.u64.wrap ((x:Nat):Int)=((x:Nat):Int):=aZ Om;have fin:∀ (t:Nat) (E:PF),t<4294967296→val (b.take (P.length+1))=val (b.take P.length)+4294967296 ^ P.length*t →
    E 0=some (aJ a)→E 1=some (aJ b)→E 5=some v→E 8=some (.int .u64 (c+t:Nat))→E 7=some (.int .i64 P.length) →
    ∀ K:cG,(∀ A l v' V H2,A.length=P.length+1→Lim A→l≤1→val (a.take (P.length+1))+4294967296 ^ A.length*l=val A+val (b.take (P.length+1))→(TD a b v' l A.length).le V→bA H2 1 v' (aI A)→K .normal V H2) →
    aE.wp C (.seq (.region RJ) (.seq (.region RK) (.seq (.seq (.region LL) (.cond (.tmp 35) (.seq (.region LM) (.region LN)) .skip)) (.region zC)))) (fF 1 (kL C (aE.wp C (.region zD)) K)) E H0:=by
   intro t E ht w g0 g1 g5 g8 g7 K hK;have step:∀ (d l:Nat),d<4294967296→l≤1→x+4294967296*l=d+(c+t)→val (a.take (P.length+1))+4294967296 ^ (P.length+1)*l=val (P++[d])+val (b.take (P.length+1)):=by
    intro d l hd ζ he;have h2:4294967296 ^ P.length*(x+4294967296*l)=4294967296 ^ P.length*(d+(c+t)):=by rw[he]
    rw[aGX,aGX,aGX] at h2;rw[jU,aIL,aHI,δ,w];omega
   simp only[go_sem,RJ,g0,g7,β,ex,RK,LL,g8];by_cases c2:x<c+t
   ·have I:((x:Nat):Int)<((c+t:Nat):Int):=Om;have R:IntKind.u64.wrap ((x:Int)+4294967296)=((x+4294967296:Nat):Int):=by rw[show (x:Int)+4294967296=((x+4294967296:Nat):Int) by omega];exact aZ Om
    have M:IntKind.u64.wrap (((x+4294967296:Nat):Int)-((c+t:Nat):Int))=((x+4294967296-(c+t):Nat):Int):=by rw[show ((x+4294967296:Nat):Int)-((c+t:Nat):Int)=((x+4294967296-(c+t):Nat):Int) by omega];exact aZ Om
    have N:IntKind.u32.wrap ((x+4294967296-(c+t):Nat):Int)=((x+4294967296-(c+t):Nat):Int):=by rw[cI,aIB Om]
    have O:(1:Nat)*1≤16777216:=by decide
    simp only[go_sem,I,LM,R,LN,zC,g5,g8,M,N,O];refine jP (src:=[[.int .u32 ((x+4294967296-(c+t):Nat):Int)]]) W rfl (qV Om) fun v' H' u _=>?_;rw[qW] at u;simp only[go_sem,zD,g7,dJ (Om:P.length<9223372036854775807)];refine hK _ 1 v' _ H' (by simp) (j.app fun y U=>by simp at U; subst U; omega) (aGQ _) ?_ ?_ u
    ·rw[aGO,aGR];exact step _ 1 Om (aGQ _) Om
    ·unfold TD;rw[aGO,aGR];exact Lq
   ·have I:¬ ((x:Nat):Int)<((c+t:Nat):Int):=Om;have M:IntKind.u64.wrap (((x:Nat):Int)-((c+t:Nat):Int))=((x-(c+t):Nat):Int):=by rw[show ((x:Nat):Int)-((c+t:Nat):Int)=((x-(c+t):Nat):Int) by omega];exact aZ Om
    have N:IntKind.u32.wrap ((x-(c+t):Nat):Int)=((x-(c+t):Nat):Int):=by rw[cI,aIB Om]
    have O:(1:Nat)*1≤16777216:=by decide
    simp only[go_sem,I,zC,g5,g8,M,N,O];refine jP (src:=[[.int .u32 ((x-(c+t):Nat):Int)]]) W rfl (qV Om) fun v' H' u _=>?_;rw[qW] at u;simp only[go_sem,zD,g7,dJ (Om:P.length<9223372036854775807)];refine hK _ 0 v' _ H' (by simp) (j.app fun y U=>by simp at U; subst U; omega) (by decide) ?_ ?_ u
    ·rw[aGO,aGR];exact step _ 0 Om (by decide) Om
    ·unfold TD;rw[aGO,aGR];exact Lq
  simp only[aE.wp,go_sem] at fin;simp only[go_sem,F,xe,xf];by_cases Y:P.length<b.length
  ·have J:(P.length:Int)<(b.length:Nat):=Om;have γ:=hb _ (aGP Y);have w:=cA b Y;have eb:IntKind.u64.wrap ((b[P.length]:Nat):Int)=((b[P.length]:Nat):Int):=aZ Om;have es:IntKind.u64.wrap ((c:Int)+(b[P.length]:Int))=((c+b[P.length]:Nat):Int):=fM Om;simp only[go_sem,J,xg,bN b Y,eb,es];refine fin b[P.length] _ γ w rfl rfl rfl rfl rfl _ ?_;intro A l v' V H2 R M N S Z e6;rw[← R] at S;exact aH (α:=List Nat × Nat × PV × PH) (A,l,v',H2) ⟨by simp only; omega,M,N,S,e6⟩ (by simp only; omega) Z b_
  ·have J:¬ (P.length:Int)<(b.length:Nat):=Om;have w:val (b.take (P.length+1))=val (b.take P.length)+4294967296 ^ P.length*0:=by rw[aGZ Om,aGZ Om]; simp
   simp only[go_sem,J];refine fin 0 _ (by decide) w rfl rfl rfl rfl rfl _ ?_;intro A l v' V H2 R M N S Z e6;rw[← R] at S;exact aH (α:=List Nat × Nat × PV × PH) (A,l,v',H2) ⟨by simp only; omega,M,N,S,e6⟩ (by simp only; omega) Z b_
 ·have e:P.length=a.length:=Om;have F:¬ (P.length:Int)<(a.length:Nat):=Om;have hV:val P=val a-val b:=by
   rw[e,aHV,aGZ hl] at B;have hlt:=fL j;rw[e] at hlt;rcases aIS c with h | h
   ·subst h; omega
   ·have:c=1:=Om;subst this; omega
  simp only[go_sem,F,jb];have hs:=L.trim _ j Om;rw[hV] at hs;refine uX hs W rfl fun F1 H1 _=>?_;simp only[go_sem];exact aU (.inr rfl) .nil rfl a_ ⟨.refl _,rfl⟩
def sP (a b:List Nat) (o i:Nat):PF:=((((PF.nil.set 0 (aJ a)).set 1 (aJ b)).set 5 (.osl o 1 0 (a.length+b.length))).set 6 (.int .i64 i))
def utG (a b:List Nat) (o i c j:Nat):PF:=((((((PF.nil.set 0 (aJ a)).set 1 (aJ b)).set 5 (.osl o 1 0 (a.length+b.length))).set 6 (.int .i64 i)).set 7 (.int .u64 c)).set 8 (.int .i64 j))
theorem Zz {C:Ctx} (a b:List Nat) (ha:Lim a) (hb:Lim b) (h1:a.length≤35184372087808) (h2:b.length≤35184372087808) (L:List Nat) (i:Nat) (hi:i<a.length) (O:FT a b L i) (q:Nat) (K:cG) (F:PF) (H:PH) (N:(sP a b q i).le F) (hH:H q=some (.rows 1 (aI L)))
  (hK:∀ L' F' H',FT a b L' (i+1)→(sP a b q i).le F'→H' q=some (.rows 1 (aI L'))→K .normal F' H') :
  aE.wp C (.block 1 (.seq (.region RO) (.seq (.seq (.region RP) (.block 2 (.loop LS))) (.region LT)))) K F H:=by
 have f0:=N 0 _ (by unfold sP; simp only[go_sem]; rfl);have f1:=N 1 _ (by unfold sP; simp only[go_sem]; rfl);have f5:=N 5 _ (by unfold sP; simp only[go_sem]; rfl);have f6:=N 6 _ (by unfold sP; simp only[go_sem]; rfl);have hx:=ha _ (aGP hi);have β:=cA a hi;generalize δ:a[i]=x at *
 have X:(aI a)[i]?=some [.int .u32 ((x:Nat):Int)]:=by rw[bN a hi,δ]
 simp only[go_sem,RO,RP];refine wp_loop (α:=List Nat × Nat × Nat) (fun t=>utG a b q i t.2.1 t.2.2) (fun t=>PH.nil.set q (.rows 1 (aI t.1)))
  (fun t=>t.2.2≤b.length∧t.1.length=a.length+b.length∧Lim t.1∧t.2.1<4294967296∧val t.1+4294967296 ^ (i+t.2.2)*t.2.1=val (a.take i)*val b+4294967296 ^ i*(x*val (b.take t.2.2))∧∀ j y,i+b.length≤j→t.1[j]?=some y→y=0) (fun t=>b.length-t.2.2) (L,0,0)
  ⟨by simp,O.len,O.lim,by simp,by simp[val,O.v],O.z⟩ ?_ (e_ a_ hH) ?_
 ·unfold utG;exact Lq
 rintro⟨M,c,j⟩ ⟨hj,W,l,Z,A,S⟩;simp only at hj W l Z A S;simp only[go_sem,LS,xm,utG];by_cases U:j<b.length
 ·have B:(j:Int)<(b.length:Nat):=Om;have R:=hb _ (aGP U);have γ:=cA b U;generalize ε:b[j]=y at *
  have Y:(aI b)[j]?=some [.int .u32 ((y:Nat):Int)]:=by rw[bN b U,ε]
  have e:i+j<M.length:=Om;have J:=l _ (aGP e);have w:=GQ e;generalize ζ:M[i+j]=z at *
  have I:(aI M)[i+j]?=some [.int .u32 ((z:Nat):Int)]:=by rw[bN M e,ζ]
  have ex:IntKind.u64.wrap ((x:Nat):Int)=((x:Nat):Int):=aZ Om;have ey:IntKind.u64.wrap ((y:Nat):Int)=((y:Nat):Int):=aZ Om;have ez:IntKind.u64.wrap ((z:Nat):Int)=((z:Nat):Int):=aZ Om;have em:=Tc hx R;have θ:x*y≤4294967295*4294967295:=aJU Om Om;have e1:IntKind.u64.wrap (((x*y:Nat):Int)+(z:Int))=((x*y+z:Nat):Int):=fM Om;have e2:IntKind.u64.wrap (((x*y+z:Nat):Int)+(c:Int))=((x*y+z+c:Nat):Int):=fM Om;have E:IntKind.i64.wrap ((i:Int)+(j:Int))=((i+j:Nat):Int):=hY Om;have hlt:((i+j:Nat):Int)<((a.length+b.length:Nat):Int):=Om;generalize ht:x*y+z+c=t at *
  have η:t<4294967296*4294967296:=Om;have u:(aI M).set (i+j) [.int .u32 ((t%4294967296:Nat):Int)]=aI (M.set (i+j) (t%4294967296)):=fZ M (i+j) _;simp only[go_sem,B];refine bP .nil dD a_ ?_;simp only[go_sem,xn,X,Y,ex,ey,em,E,hlt,I,ez,e1,e2,xo,cI,u,xp,yX,je,wZz j];refine aH (M.set (i+j) (t%4294967296),t/4294967296,j+1) ⟨by simp only; omega,by simp only[aIO]; exact W,l.set _ (aIG _ (by decide)),by simp only; omega,?_,js S _ _ Om⟩ (by simp only; omega) ?_ (e_ a_ Sq)
  ·simp only;have V:=w (t%4294967296);have h4:4294967296 ^ (i+(j+1))*(t/4294967296)+4294967296 ^ (i+j)*(t%4294967296)=4294967296 ^ (i+j)*t:=by rw[← aJB,aIL,aHI,← aGX,aKC]
   have h5:4294967296 ^ (i+j)*t=4294967296 ^ (i+j)*(x*y)+4294967296 ^ (i+j)*z+4294967296 ^ (i+j)*c:=by rw[← ht,aGX,aGX]
   have h6:4294967296 ^ i*(x*val (b.take (j+1)))=4294967296 ^ i*(x*val (b.take j))+4294967296 ^ (i+j)*(x*y):=by rw[γ,aGX,aGX,Nat.pow_add];congr 1;rw[Nat.mul_left_comm x,aHI]
   omega
  ·exact Lq
 ·have he:j=b.length:=Om;have B:¬ (j:Int)<(b.length:Nat):=Om;subst he;have e:i+b.length<M.length:=Om;have J:M[i+b.length]=0:=S _ _ (aGQ _) (aGS e);have w:=GQ e;have I:(aI M)[i+b.length]?=some [.int .u32 ((0:Nat):Int)]:=by rw[bN M e,J]
  have E:IntKind.i64.wrap ((i:Int)+(b.length:Int))=((i+b.length:Nat):Int):=hY Om;have hlt:((i+b.length:Nat):Int)<((a.length+b.length:Nat):Int):=Om;have u:(aI M).set (i+b.length) [.int .u32 ((c%4294967296:Nat):Int)]=aI (M.set (i+b.length) c):=by rw[aIB Z]; exact fZ M _ _
  simp only[go_sem,B,LT,E,cI,hlt,I,u];refine hK (M.set (i+b.length) c) _ _ ⟨by rw[aIO]; exact W,l.set _ Z,?_,fun j y hj R=>?_⟩ (by unfold sP; exact Lq) Sq
  ·have V:=w c;rw[J,Nat.mul_zero,aIC] at V;rw[V,A,aHV,β,aHT,aHI]
  ·rw[List.getElem?_set_ne Om] at R;exact S j y Om R
theorem afW {C:Ctx} (L:qM C) (a b:List Nat) (O:Lim a) (hb:Lim b) (V:a.length≤8388608) (W:b.length≤8388608) :
  FK.wp C (aT M4.res (cD (aJ (aK (val a*val b))))) (PF.args [aJ a,aJ b]) .nil:=by
 have w:IntKind.i64.wrap ((a.length:Int)+(b.length:Int))=((a.length+b.length:Nat):Int):=hY Om;have E:((a.length+b.length:Nat):Int)*((4:Nat):Int)≤140737488355328:=Om;have F:((a.length+b.length:Nat):Int)≤9223372036854775807:=Om;have R:aGM (a.length+b.length) [PV.int .u32 0]=aI (aGM (a.length+b.length) 0):=by simp[aI]
 simp only[go_sem,FK,xi,xj,M4,aGK,w,E,F,R];refine aQ fun o X=>?_;simp only[go_sem,xk];refine wp_loop (α:=List Nat × Nat) (fun t=>sP a b o t.2) (fun t=>PH.nil.set o (.rows 1 (aI t.1))) (fun t=>t.2≤a.length∧FT a b t.1 t.2) (fun t=>a.length-t.2) (aGM (a.length+b.length) 0,0)
  ⟨by simp,by simp,xF _,by simp[val,tF],fun j x _ J=>by rw[List.getElem?_replicate] at J; split at J<;>simp_all⟩ ?_ (e_ a_ Sq) ?_
 ·unfold sP;exact Lq
 rintro⟨M,i⟩ ⟨hi,l⟩;simp only at hi l;simp only[go_sem,jd,xl,sP];by_cases K:i<a.length
 ·have u:(i:Int)<(a.length:Nat):=Om;have y:=Zz (C:=C) a b O hb Om Om M i K l o;simp only[go_sem] at y;simp only[go_sem,u];refine y _ _ _ (by unfold sP; exact Lq) Sq ?_;intro L' S H' B e A;have N:=e 6 _ (by unfold sP; simp only[go_sem]; rfl);have g0:=e 0 _ (by unfold sP; simp only[go_sem]; rfl);have g1:=e 1 _ (by unfold sP; simp only[go_sem]; rfl);have U:=e 5 _ (by unfold sP; simp only[go_sem]; rfl);simp only[go_sem,jf,N,wZz i];refine aH (L',i+1) ⟨by simp only; omega,B⟩ (by simp only; omega) ?_ (e_ a_ A);exact Lq
 ·have he:i=a.length:=Om;subst he;have u:¬ (a.length:Int)<(a.length:Nat):=Om;have hV:val M=val a*val b:=by rw[l.v,aHV]
  simp only[go_sem,jg];have I:=L.trim _ l.lim (by rw[l.len]; omega);rw[hV] at I;refine rB (o:=o) (s:=1) (k:=a.length+b.length) (rs:=aI M) (v:=aJ (aK (val a*val b))) ?_ rfl Sq (by rw[bX,l.len]; exact aGQ _) ?_
  ·rw[aGZ (by rw[bX,l.len]; exact aGQ _)]; exact I
  ·simp only[go_sem];exact aU (.inr rfl) .nil rfl a_ ⟨.refl _,rfl⟩
structure aaJ (C:Ctx):Prop extends zp C where
 minus:∀ a b,Lim a→Lim b→val b≤val a→b.length≤a.length→a.length≤35184372087808→aG C 42 [aJ a,aJ b] .nil (aM (aJ (aK (val a-val b))))
 times:∀ a b,Lim a→Lim b→a.length≤8388608→b.length≤8388608→aG C 44 [aJ a,aJ b] .nil (aM (aJ (aK (val a*val b))))
def yA (a:List Nat) (i:Nat):Nat:=a.getD i 0
theorem Am {a:List Nat} (h:Lim a) (i:Nat):yA a i<4294967296:=by
 unfold yA;rw[aGU];rcases aHD i a.length with h1 | h1
 ·rw[aGS h1]; exact h _ (aGP h1)
 ·rw[aHZ h1]; decide
theorem VU {a:List Nat} {i:Nat} (h:i<a.length):yA a i=a[i]:=by simp[yA,aGU,h]
theorem NF {a:List Nat} {i:Nat} (h:¬ i<a.length):yA a i=0:=by simp[yA,aGU,h]
theorem RQ (a:List Nat) (i:Nat):val (a.take (i+1))=val (a.take i)+4294967296 ^ i*yA a i:=by
 rcases aHD i a.length with h | h
 ·rw[VU h]; exact cA a h
 ·rw[NF Om,aGZ Om,aGZ Om]; simp
def uT (a b:List Nat) (v:PV) (c i:Nat):PF:=(((((PF.nil.set 0 (aJ a)).set 1 (aJ b)).set 5 (v)).set 6 (.int .u64 c)).set 7 (.int .i64 i))
theorem anT {C:Ctx} (L:qM C) (a b:List Nat) (ha:Lim a) (hb:Lim b) (h1:a.length≤8388608) (h2:b.length≤8388608) :
  LO.wp C (aT Zy.res (cD (aJ (aK (val a+val b))))) (PF.args [aJ a,aJ b]) .nil:=by
 simp only[go_sem,LO,Mz,M0,M1,M2,Zy];refine wp_loop (α:=List Nat × Nat × PV × PH) (fun s=>uT a b s.2.2.1 s.2.1 s.1.length) (fun s=>s.2.2.2)
  (fun s=>s.1.length≤max a.length b.length+1∧(s.1.length≤max a.length b.length∨s.2.1=0)∧Lim s.1∧s.2.1≤1∧val s.1+4294967296 ^ s.1.length*s.2.1=val (a.take s.1.length)+val (b.take s.1.length)∧bA s.2.2.2 1 s.2.2.1 (aI s.1)) (fun s=>max a.length b.length+1-s.1.length) ([],0,.aA,.nil)
  ⟨by simp,by simp,by simp[Lim],by simp,by simp[val],.nil⟩ ?_ a_ ?_
 ·unfold uT;exact Lq
 rintro⟨P,c,v,H0⟩ ⟨hP,η,u,hc,J,hO⟩;simp only at hP η u hc J hO ⊢;have ν:=Am ha P.length;have ξ:=Am hb P.length;have κ:=RQ a P.length;have μ:=RQ b P.length;generalize hx:yA a P.length=x at *
 generalize hy:yA b P.length=y at *
 have ex:IntKind.u64.wrap ((x:Nat):Int)=((x:Nat):Int):=aZ Om;have ey:IntKind.u64.wrap ((y:Nat):Int)=((y:Nat):Int):=aZ Om;have R:IntKind.u64.wrap ((c:Int)+(x:Int))=((c+x:Nat):Int):=fM Om;have S:IntKind.u64.wrap (((c+x:Nat):Int)+(y:Int))=((c+x+y:Nat):Int):=fM Om;have ι:P.length<a.length→(aI a)[P.length]?=some [.int .u32 ((x:Nat):Int)]:=fun h=>by rw[bN a h,← hx,VU h]
 have γ:P.length<b.length→(aI b)[P.length]?=some [.int .u32 ((y:Nat):Int)]:=fun h=>by rw[bN b h,← hy,VU h]
 have δ:¬ P.length<a.length→x=0:=fun h=>by rw[← hx,NF h]
 have U:¬ P.length<b.length→y=0:=fun h=>by rw[← hy,NF h]
 have body:(P.length≤max a.length b.length)→∀ K:cG,(∀ l A v' V H2,l.length=P.length+1→Lim l→A≤1→(P.length+1≤max a.length b.length∨A=0)→val l+4294967296 ^ l.length*A=val (a.take (P.length+1))+val (b.take (P.length+1))→(uT a b v' A l.length).le V→bA H2 1 v' (aI l)→K .normal V H2) →
   ∀ F:PF,(uT a b v c P.length).le F→aE.wp C (.seq (.block 1 (.seq (.region ZZ) (.seq (.seq (.region aa) (.cond (.tmp 29) (.region ac) .skip)) (.seq (.seq (.region LP) (.cond (.tmp 40) (.region LQ) .skip)) (.seq (.region CS) (.region CU)))))) (.region CV)) K F H0:=by
  intro ο K hK F Z;have g0:F 0=some (aJ a):=Z 0 _ (by unfold uT; simp only[go_sem]);have g1:F 1=some (aJ b):=Z 1 _ (by unfold uT; simp only[go_sem]);have g5:F 5=some v:=Z 5 _ (by unfold uT; simp only[go_sem]);have g6:F 6=some (.int .u64 c):=Z 6 _ (by unfold uT; simp only[go_sem]);have B:F 7=some (.int .i64 P.length):=Z 7 _ (by unfold uT; simp only[go_sem]);have fin:∀ M:PF,M 0=some (aJ a)→M 1=some (aJ b)→M 5=some v→M 7=some (.int .i64 P.length)→M 8=some (.int .u64 (c+x+y:Nat)) →
    aE.wp C (.seq (.region CS) (.region CU)) (fF 1 (kL C (aE.wp C (.region CV)) K)) M H0:=by
   intro M q0 q1 q5 q7 q8;have θ:(1:Nat)*1≤16777216:=by decide
   generalize ht:c+x+y=t at *
   have ρ:t<2*4294967296:=Om;simp only[go_sem,CS,q5,q8,θ,cI];refine jP (src:=[[.int .u32 ((t%4294967296:Nat):Int)]]) hO rfl (qV Om) fun v' H' β _=>?_;rw[qW] at β;simp only[go_sem,CU,q8,yX,CV,q7,dJ (Om:P.length<9223372036854775807)];refine hK (P++[t%4294967296]) (t/4294967296) v' _ H' (by simp) (u.app fun y hy=>by simp at hy; subst hy; omega) Om ?_ ?_ ?_ β
   ·rcases aHD P.length (max a.length b.length) with h | h
    ·exact .inl h
    ·right;have h1:=δ Om;have h2:=U Om;omega
   ·rw[jU,aGO,aGR,κ,μ,aIL,aHI,aJB,← aGX];rw[show t%4294967296+4294967296*(t/4294967296)=t from Nat.mod_add_div t 4294967296];have h3:4294967296 ^ P.length*t=4294967296 ^ P.length*c+4294967296 ^ P.length*x+4294967296 ^ P.length*y:=by rw[← ht,aGX,aGX]
    omega
   ·unfold uT;rw[aGO,aGR];exact Lq
  simp only[aE.wp,go_sem] at fin;simp only[go_sem,ZZ,g6,aa,B,g0];by_cases c1:P.length<a.length
  ·have j:(P.length:Int)<(a.length:Nat):=Om;simp only[go_sem,j,ac,g0,B,ι c1,ex,R,LP,g1];by_cases N:P.length<b.length
   ·have e:(P.length:Int)<(b.length:Nat):=Om;simp only[go_sem,e,LQ,g1,B,γ N,ey,S];exact fin _ (by simp only[go_sem,g0]) (by simp only[go_sem,g1]) (by simp only[go_sem,g5]) (by simp only[go_sem,B]) rfl
   ·have e:¬ (P.length:Int)<(b.length:Nat):=Om;have h0:=U N;simp only[go_sem,e];exact fin _ (by simp only[go_sem,g0]) (by simp only[go_sem,g1]) (by simp only[go_sem,g5]) (by simp only[go_sem,B]) (by simp only[go_sem,h0])
  ·have j:¬ (P.length:Int)<(a.length:Nat):=Om;have h0:=δ c1;simp only[go_sem,j,LP,g1,B];by_cases N:P.length<b.length
   ·have e:(P.length:Int)<(b.length:Nat):=Om;have ε:IntKind.u64.wrap ((c:Int)+(y:Int))=((c+x+y:Nat):Int):=by rw[h0]; exact fM Om
    simp only[go_sem,e,LQ,g1,B,γ N,ey,ε];exact fin _ (by simp only[go_sem,g0]) (by simp only[go_sem,g1]) (by simp only[go_sem,g5]) (by simp only[go_sem,B]) rfl
   ·have e:¬ (P.length:Int)<(b.length:Nat):=Om;have ζ:=U N;simp only[go_sem,e];exact fin _ (by simp only[go_sem,g0]) (by simp only[go_sem,g1]) (by simp only[go_sem,g5]) (by simp only[go_sem,B]) (by simp only[go_sem,h0,ζ])
 simp only[aE.wp,go_sem] at body;have w:¬ P.length<a.length→¬ P.length<b.length→c=0→∀ F:PF,F 5=some v→aE.wp C (.seq (.region RM) .ret) (aT [.tmp 4] (cD (aJ (aK (val a+val b))))) F H0:=by
  intro n1 n2 n3 F f5;have hV:val P=val a+val b:=by rw[n3,aGZ Om,aGZ Om] at J;omega
  have hs:=L.trim _ u Om;rw[hV] at hs;simp only[go_sem,RM,f5];refine uX hs hO rfl fun F1 H1 _=>?_;simp only[go_sem];exact aU (.inr rfl) .nil rfl a_ ⟨.refl _,rfl⟩
 simp only[aE.wp,go_sem] at w;simp only[go_sem,xh,M3,uT];by_cases c1:P.length<a.length
 ·have j:(P.length:Int)<(a.length:Nat):=Om;simp only[go_sem,j];refine body Om _ ?_ _ (by unfold uT; exact Lq);intro l A v' V H2 R S W E I X Y;rw[← R] at I E;exact aH (α:=List Nat × Nat × PV × PH) (l,A,v',H2) ⟨by simp only; omega,E,S,W,I,Y⟩ (by simp only; omega) X b_
 ·have j:¬ (P.length:Int)<(a.length:Nat):=Om;simp only[go_sem,j];by_cases N:P.length<b.length
  ·have e:(P.length:Int)<(b.length:Nat):=Om;simp only[go_sem,e];refine body Om _ ?_ _ (by unfold uT; exact Lq);intro l A v' V H2 R S W E I X Y;rw[← R] at I E;exact aH (α:=List Nat × Nat × PV × PH) (l,A,v',H2) ⟨by simp only; omega,E,S,W,I,Y⟩ (by simp only; omega) X b_
  ·have e:¬ (P.length:Int)<(b.length:Nat):=Om;simp only[go_sem,e];by_cases c3:c=0
   ·have O:¬ (c:Int)>0:=Om;simp only[go_sem,O];exact w c1 N c3 _ rfl
   ·have O:(c:Int)>0:=Om;simp only[go_sem,O];refine body Om _ ?_ _ (by unfold uT; exact Lq);intro l A v' V H2 R S W E I X Y;rw[← R] at I E;exact aH (α:=List Nat × Nat × PV × PH) (l,A,v',H2) ⟨by simp only; omega,E,S,W,I,Y⟩ (by simp only; omega) X b_
structure aaK (C:Ctx):Prop extends aaJ C where
 plus:∀ a b,Lim a→Lim b→a.length≤8388608→b.length≤8388608→aG C 43 [aJ a,aJ b] .nil (aM (aJ (aK (val a+val b))))
def L5 (k:Nat) (v:Nat):PF:=((PF.nil.set 3 (.int .i64 k)).set 4 (.int .u32 v))
theorem anF {C:Ctx} (L:qM C) (xs:List Nat) (K:Lim xs) (U:xs.length≤35184372087808) :
  LE.wp C (aT Zp.res (aM (.int .i64 (cN (val xs):Nat)))) (PF.args [aJ xs]) .nil:=by
 simp only[go_sem,LE,L7,L8,Zp];refine aB (L.trim xs K U) rfl ?_;have V:=fY K;simp only[go_sem,L9,aGK,bJ,CR];by_cases y:nl (val xs)=0
 ·simp only[go_sem,decide_eq_true y,Ma];refine cE (.inr rfl) rfl ?_;have:val xs=0:=lM.1 y;simp[cZ,this,lS]
 obtain⟨n,R⟩:∃ n,nl (val xs)=n+1:=⟨nl (val xs)-1,by omega⟩;obtain⟨t,x,B⟩:=K0 (xs:=aK (val xs)) (bE _) (by rw[aY]; exact R);have u:t<4294967296:=bE _ t (aII x);have S:val xs=val ((aK (val xs)).take n)+4294967296 ^ n*t:=by
  have:=aY (val xs);have e:n<(aK (val xs)).length:=by rw[bJ]; omega
  have O:(aK (val xs))[n]=t:=by rw[aGS e] at x; exact aIU.inj x
  conv=>lhs; rw[← this,← aGZ (l:=aK (val xs)) (i:=n+1) (by rw[bJ]; omega)]
  rw[cA _ e,O]
 have hb:cN (val xs)=32*n+cN t:=by have I:=fL ((bE (val xs)).take n);rw[aGY,bJ,aIT Om] at I;have w:=Af (lo:=val ((aK (val xs)).take n)) (k:=32*n) (hi:=t) (by rw[Nat.pow_mul]; exact I) B;rw[← w,Nat.pow_mul];exact congrArg cN S
 have j:(aI (aK (val xs)))[n]?=some [.int .u32 (t:Nat)]:=by simp[aI,x]
 have M:IntKind.i64.wrap (((nl (val xs):Nat):Int)-1)=(n:Int):=by rw[wrap_i64 Om Om]; omega
 have N:IntKind.i64.wrap (32*(n:Int))=((32*n:Nat):Int):=by rw[wrap_i64 Om Om]; omega
 simp only[go_sem,decide_eq_false y,Mb,Mc,aGK,bJ,M,N,j];refine wp_loop (α:=Nat × Nat) (fun a=>L5 a.1 a.2) (fun _=>.nil) (fun a=>a.1+cN a.2=32*n+cN t∧a.2<4294967296) (fun a=>a.2) (32*n,t) ⟨rfl,u⟩ ?_ a_ ?_
 ·unfold L5;exact Lq
 rintro⟨k,v⟩ ⟨w,hlt⟩;simp only at w hlt;have J:cN t≤32:=(mX t 32).2 u;simp only[go_sem,L6,Md,L5];by_cases F:(v:Int)>0
 ·have E:v≠0:=Om;have A:IntKind.u32.wrap (Int.tdiv (v:Int) 2)=((v/2:Nat):Int):=by rw[show Int.tdiv (v:Int) 2=((v/2:Nat):Int) from Int.ofNat_tdiv v 2,cI,aIB Om]
  simp only[go_sem,F,Me,Mf,A,wZz k];refine aH (k+1,v/2) ⟨?_,?_⟩ (Nat.div_lt_self Om (by decide)) ?_ a_
  ·have:=sB E;simp only; omega
  ·simp only; omega
  ·exact Lq
 ·have:v=0:=Om;subst this;simp only[go_sem,F,ww];refine cE (.inr rfl) rfl ?_;rw[lS] at w;simp only[cZ,PV.int.injEq,true_and];omega
theorem uc (n:Nat):4294967296 ^ (n/32)*2 ^ (n%32)=2 ^ n:=by
 rw[show (4294967296:Nat)=2 ^ 32 by decide,← Nat.pow_mul,← Nat.pow_add];congr 1;omega
theorem afE (n:Nat):IntKind.i64.wrap (Int.tdiv (n:Int) 32)=IntKind.i64.wrap ((n/32:Nat):Int):=by
 rw[show Int.tdiv (n:Int) 32=((n/32:Nat):Int) from Int.ofNat_tdiv n 32]
theorem afJ (n:Nat):Int.tmod (n:Int) 32=((n%32:Nat):Int):=Int.ofNat_tmod n 32
def anY (a:List Nat) (n:Nat) (v:PV) (c i:Nat):PF:=(((((PF.nil.set 0 (aJ a)).set 1 (.int .i64 n)).set 5 (v)).set 6 (.int .u64 c)).set 7 (.int .i64 i))
theorem awU {C:Ctx} (L:qM C) (a:List Nat) (n:Nat) (ha:Lim a) (h1:a.length≤8388608) (hn:n≤8388608) (h0:a.length=0→val a=0) :
  aj.wp C (aT uup.res (nP 1 (aI (aK (val a*2 ^ n))))) (PF.args [aJ a,.int .i64 n]) .nil:=by
 simp only[go_sem,aj,afY,afZ,uup,aGK,CR];by_cases F:a.length=0
 ·simp only[go_sem,decide_eq_true F,agA];rw[h0 F,Nat.zero_mul,gV];exact GL (.inr rfl) rfl
 have ez:IntKind.i64.wrap (Int.tdiv (n:Int) 32)=((n/32:Nat):Int):=by rw[afE,al Om]
 have em:=afJ n;have eu:IntKind.u64.wrap ((n%32:Nat):Int)=((n%32:Nat):Int):=aZ Om;have W:=uc n;have V:n%32<32:=aIG _ (by decide);have hz:n/32≤8388608:=Om;generalize ζ:n/32=z at *
 generalize δ:n%32=s at *
 have S:((z:Nat):Int)*((4:Nat):Int)≤140737488355328:=Om;have U:((z:Nat):Int)≤9223372036854775807:=Om;have Y:aGM z [PV.int .u32 0]=aI (aGM z 0):=by simp[aI]
 have M:2 ^ s≤2147483648:=Nat.pow_le_pow_right (show 0<2 by decide) (Om:s≤31);have B:0<2 ^ s:=aJL (by decide);simp only[go_sem,decide_eq_false F,agB,ez,S,U,Y];refine aQ fun o ho=>?_;simp only[go_sem,agC,agD];refine wp_loop (α:=List Nat × Nat × Nat × PV × PH) (fun t=>anY a n t.2.2.2.1 t.2.1 t.2.2.1) (fun t=>t.2.2.2.2)
  (fun t=>t.2.2.1≤a.length∧t.1.length=z+t.2.2.1∧Lim t.1∧t.2.1<2 ^ s∧val t.1+4294967296 ^ t.1.length*t.2.1=val (a.take t.2.2.1)*2 ^ n∧bA t.2.2.2.2 1 t.2.2.2.1 (aI t.1)) (fun t=>a.length-t.2.2.1) (aGM z 0,0,0,.osl o 1 0 z,PH.nil.set o (.rows 1 (aI (aGM z 0))))
  ⟨by simp,by simp,xF _,B,by simp[val,tF],.inr ⟨o,aI (aGM z 0),by rw[bX,aKK],by simp only[go_sem],by rw[bX]; exact aGQ _,aHV⟩⟩ ?_ b_ ?_
 ·unfold anY;exact Lq
 rintro⟨P,c,i,v,H0⟩ ⟨hi,Z,j,hc,u,O⟩;simp only at hi Z j hc u O ⊢;simp only[go_sem,V3,agE,anY];by_cases I:i<a.length
 ·have w:(i:Int)<(a.length:Nat):=Om;have γ:=ha _ (aGP I);have X:=cA a I;have R:=bN a I;generalize hx:a[i]=x at *
  have ε:x*2 ^ s≤4294967295*2147483648:=aJU Om M;have ex:IntKind.u64.wrap ((x:Nat):Int)=((x:Nat):Int):=aZ Om;have β:2 ^ s*x=x*2 ^ s:=aHL _ _;have K:shift .shl .u64 (x:Int) (s:Int)=some (.int .u64 ((2 ^ s*x:Nat):Int)):=KP Om Om;have J:=orI (a:=2 ^ s*x) (b:=c) (n:=c+2 ^ s*x) Om Om (by rw[Nat.or_comm]; exact Jn hc Om) Om;have E:(c+2 ^ s*x)/4294967296<2 ^ s:=by rw[aJT (by decide)];have:2 ^ s*(x+1)≤2 ^ s*4294967296:=aJD _ Om;rw[aGX,Nat.mul_one] at this;omega
  have A:(1:Nat)*1≤16777216:=by decide
  simp only[go_sem,w,agF,R,ex,em,eu,K,J,agG,cI,A];refine jP (src:=[[.int .u32 (((c+2 ^ s*x)%4294967296:Nat):Int)]]) O rfl (qV Om) fun v' H' l _=>?_;rw[qW] at l;simp only[go_sem,agH,yX,V4,wZz i];refine aH (P++[(c+2 ^ s*x)%4294967296],(c+2 ^ s*x)/4294967296,i+1,v',H') ⟨by simp only; omega,by simp; omega,j.app fun y hy=>by simp at hy; subst hy; exact aIG _ (by decide),E,?_,l⟩ (by simp only; omega) ?_ b_
  ·simp only;have hp:4294967296 ^ P.length*(2 ^ s*x)=4294967296 ^ i*x*2 ^ n:=by rw[Z,Nat.pow_add,← W];rw[aHI,Nat.mul_left_comm (4294967296 ^ i),← aHI (4294967296 ^ z),aHL (4294967296 ^ z*2 ^ s),aHI,aHL x]
   rw[jU,aGO,aGR,aIL,aHI,aJB,← aGX,Nat.mod_add_div,X,aGX,aHT,← aJB,u,hp]
  ·exact Lq
 ·have e:i=a.length:=Om;subst e;have w:¬ (a.length:Int)<(a.length:Nat):=Om;have A:(1:Nat)*1≤16777216:=by decide
  have hV:val (P++[c])=val a*2 ^ n:=by rw[jU,u,aHV]
  have N:Lim (P++[c]):=j.app fun x hx=>by simp at hx; omega
  have ec:IntKind.u32.wrap ((c:Nat):Int)=((c:Nat):Int):=by rw[cI,aIB Om]
  simp only[go_sem,w,V5,ec,A];refine jP (src:=[[.int .u32 ((c:Nat):Int)]]) O rfl (qV Om) fun v' H' l _=>?_;rw[qW] at l;have V:=L.trimM _ N (by simp; omega);rw[hV] at V;refine ym V l rfl fun F1 H1 _ r H2 hr _=>?_;simp only[go_sem];exact aeO (.inr rfl) hr rfl
def RG (a:List Nat) (n:Nat) (v:PV) (i:Nat):PF:=((((PF.nil.set 0 (aJ a)).set 1 (.int .i64 n)).set 5 (v)).set 6 (.int .i64 i))
theorem anK {C:Ctx} (L:qM C) (a:List Nat) (n:Nat) (M:Lim a) (h1:a.length≤8388608) (hn:n≤1000000000) :
  LJ.wp C (aT Zu.res (cD (aJ (aK (val a/2 ^ n))))) (PF.args [aJ a,.int .i64 n]) .nil:=by
 have ez:IntKind.i64.wrap (Int.tdiv (n:Int) 32)=((n/32:Nat):Int):=by rw[afE,al Om]
 have em:=afJ n;have eu:IntKind.u64.wrap ((n%32:Nat):Int)=((n%32:Nat):Int):=aZ Om;have O:=uc n;have U:n%32<32:=aIG _ (by decide);have hz:n/32≤1000000000:=Om;generalize κ:n/32=z at *
 generalize ι:n%32=s at *
 simp only[go_sem,LJ,Ml,Mm,Zu,aGK,ez];by_cases c0:a.length≤z
 ·have u:((z:Nat):Int)≥(a.length:Nat):=Om;have hq:val a/2 ^ n=0:=by refine aJR (Nat.lt_of_lt_of_le (fL M) ?_);rw[← O];exact aJC (Nat.pow_le_pow_right (by decide) c0) (Nat.le_mul_of_pos_right _ (aJL (by decide)))
  simp only[go_sem,u,Mn];rw[hq,gV];exact aU (vs:=[.aA]) (.inr rfl) .nil rfl a_ ⟨.nil 1,rfl⟩
 have u:¬ ((z:Nat):Int)≥(a.length:Nat):=Om;have hR:val a/2 ^ n=val (a.drop z)/2 ^ s:=by rw[vZ M Om,← O,Nat.div_div_eq_div_mul]
 have I:Lim (a.drop z):=M.drop z;simp only[go_sem,u,Mo,Mp,ez];refine wp_loop (α:=List Nat × PV × PH) (fun t=>RG a n t.2.1 (z+t.1.length)) (fun t=>t.2.2)
  (fun t=>z+t.1.length≤a.length∧t.1=eE t.1.length (val (a.drop z)/2 ^ s)∧bA t.2.2 1 t.2.1 (aI t.1)) (fun t=>a.length-t.1.length) ([],.aA,.nil)
  ⟨by simp; omega,rfl,.nil⟩ ?_ a_ ?_
 ·unfold RG
  (repeat' (first|exact d_|refine c_ ?_ ?_))<;>first|(simp only[go_sem,aIV]<;>rfl)|rfl
 rintro⟨P,v,H0⟩ ⟨hP,hD,hO⟩;simp only at hP hD hO ⊢;simp only[go_sem,wx,Mq,RG];have E:Lim P:=by rw[hD]; exact nN _ _
 by_cases V:z+P.length<a.length
 ·have w:((z+P.length:Nat):Int)<(a.length:Nat):=Om;have θ:=M _ (aGP V);have γ:=bN a V;have ε:P.length≤(a.drop z).length:=by rw[aIE]; omega
  have R:=vZ I ε;have j:(a.drop z).drop P.length=a[z+P.length]::a.drop (z+P.length+1):=by rw[List.drop_drop,aIZ V]
  generalize hx:a[z+P.length]=x at *
  have ex:IntKind.u64.wrap ((x:Nat):Int)=((x:Nat):Int):=aZ Om;have δ:(1:Nat)*1≤16777216:=by decide
  have ew:IntKind.i64.wrap (((z+P.length:Nat):Int)+1)=((z+P.length+1:Nat):Int):=dJ Om;have fin:∀ (t:Nat) (F:PF),t<18446744073709551616→val (a.drop z)/4294967296 ^ P.length%(4294967296*4294967296)=t→F 0=some (aJ a)→F 1=some (.int .i64 n)→F 5=some v→F 6=some (.int .i64 (z+P.length:Nat))→F 7=some (.int .u64 t) →
    ∀ K:cG,(∀ v' S H2,(RG a n v' (z+(P.length+1))).le S→bA H2 1 v' (aI (P++[t/2 ^ s%4294967296]))→(P++[t/2 ^ s%4294967296])=eE (P.length+1) (val (a.drop z)/2 ^ s)→K .normal S H2) →
    aE.wp C (.region ZY) (fF 1 (kL C (aE.wp C (.region RH)) K)) F H0:=by
   intro t F ht ζ f0 f1 f5 f6 f7 K hK;have B:shift .shr .u64 (t:Int) (s:Int)=some (.int .u64 ((t/2 ^ s:Nat):Int)):=awQ Om;simp only[go_sem,ZY,f5,f7,f1,em,eu,B,cI,δ];refine jP (src:=[[.int .u32 ((t/2 ^ s%4294967296:Nat):Int)]]) hO rfl (qV Om) fun v' H' J _=>?_;rw[qW] at J;simp only[go_sem,RH,f6,ew];refine hK v' _ H' ?_ J ?_
   ·unfold RG;exact Lq
   ·rw[wZ,← hD];congr 2;have e:val (a.drop z)/4294967296 ^ P.length=t%4294967296+4294967296*(t/4294967296+4294967296*(val (a.drop z)/4294967296 ^ P.length/(4294967296*4294967296))):=by have:=Nat.mod_add_div (val (a.drop z)/4294967296 ^ P.length) (4294967296*4294967296);rw[ζ] at this;have h2:=Nat.mod_add_div t 4294967296;rw[aGX,← aJB,h2,← aHI];exact this.symm
    have:=UW U e;rw[this];congr 2;have h2:=Nat.mod_add_div t 4294967296;omega
  simp only[aE.wp,go_sem] at fin;simp only[go_sem,w,Mr,γ,ex,Ms,ew];by_cases W:z+P.length+1<a.length
  ·have A:((z+P.length+1:Nat):Int)<(a.length:Nat):=Om;have η:=M _ (aGP W);have N:=bN a W;rw[aIZ W] at j;generalize hy:a[z+P.length+1]=y at *
   have ey:IntKind.u64.wrap ((y:Nat):Int)=((y:Nat):Int):=aZ Om;have B:shift .shl .u64 (y:Int) ((32:Nat):Int)=some (.int .u64 ((2 ^ 32*y:Nat):Int)):=KP (by decide) Om;have β:=orI (a:=x) (b:=2 ^ 32*y) (n:=x+2 ^ 32*y) Om Om (Jn Om Om) Om;simp only[go_sem,A,Mt,ew,N,ey,show shift .shl .u64 (y:Int) 32=_ from B,β];refine fin (x+2 ^ 32*y) _ Om ?_ rfl rfl rfl rfl rfl _ ?_
   ·rw[← R,j];simp only[val];omega
   ·intro v' S H2 X Y Z;refine aH (α:=List Nat × PV × PH) (P++[(x+2 ^ 32*y)/2 ^ s%4294967296],v',H2) ⟨by simp; omega,by simpa using Z,Y⟩ (by simp; omega) ?_ b_;simp only[aGO,aGR];exact X
  ·have A:¬ ((z+P.length+1:Nat):Int)<(a.length:Nat):=Om;rw[aKG (l:=a) (i:=z+P.length+1) Om] at j;simp only[go_sem,A];refine fin x _ Om ?_ rfl rfl rfl rfl rfl _ ?_
   ·rw[← R,j];simp only[val];omega
   ·intro v' S H2 X Y Z;refine aH (α:=List Nat × PV × PH) (P++[x/2 ^ s%4294967296],v',H2) ⟨by simp; omega,by simpa using Z,Y⟩ (by simp; omega) ?_ b_;simp only[aGO,aGR];exact X
 ·have e:z+P.length=a.length:=Om;have w:¬ ((z+P.length:Nat):Int)<(a.length:Nat):=Om;have hV:val P=val (a.drop z)/2 ^ s:=by rw[hD];refine pJ (Nat.lt_of_le_of_lt (aJS _ _) ?_);have:=fL I;rw[aIE] at this;rw[show P.length=a.length-z by omega];exact this
  have U:=L.trim _ E Om;rw[hV,← hR] at U;simp only[go_sem,w,wy];refine uX U hO rfl fun F1 H1 _=>?_;simp only[go_sem];exact aU (.inr rfl) .nil rfl a_ ⟨.refl _,rfl⟩
structure MT (C:Ctx):Prop extends aaK C where
 bits:∀ xs,Lim xs→xs.length≤35184372087808→aG C 31 [aJ xs] .nil (aM (.int .i64 (cN (val xs):Nat)))
 upM:∀ (a:List Nat) (n:Nat),Lim a→a.length≤8388608→n≤8388608→(a.length=0→val a=0)→aG C 45 [aJ a,.int .i64 n] .nil (nP 1 (aI (aK (val a*2 ^ n))))
 down:∀ (a:List Nat) (n:Nat),Lim a→a.length≤8388608→n≤1000000000→aG C 40 [aJ a,.int .i64 n] .nil (aM (aJ (aK (val a/2 ^ n))))
def udS:Spec:=fun name vs=>match name,vs with
 | 35,[.int _ v]=>some ([],fun _=>aM (aJ (aK v.toNat)))
 | 44,[x,y]=>some ([],fun _=>aM (aJ (aK (val (mI x)*val (mI y)))))
 | 32,[x,.osl q _ _ _]=>some ([q],fun e r H'=>H'=e∧∀ xs,Lim xs→e q=some (.rows 1 (aI xs))→r=.int .i64 (eP (val (mI x)) (val xs)))
 | _,_=>none
theorem anJ (v:Nat):udS 35 [.int .u64 v]=some ([],fun _=>aM (aJ (aK v))):=rfl
theorem afQ (x y:List Nat):udS 44 [aJ x,aJ y]=some ([],fun _=>aM (aJ (aK (val x*val y)))):=by
 show some ([],fun _=>aM (aJ (aK (val (mI (aJ x))*val (mI (aJ y))))))=_; rw[fS,fS]
theorem ahF (q:Nat) (x L:List Nat):(PH.nil.set q (.rows 1 (aI L)))=(PH.nil.set q (.rows 1 (aI L)))∧∀ xs,Lim xs→(PH.nil.set q (.rows 1 (aI L))) q=some (.rows 1 (aI xs))→(PV.int .i64 (eP (val x) (val L)))=.int .i64 (eP (val (mI (aJ x))) (val xs)):=by
 refine⟨rfl,fun xs j e=>?_⟩;rw[cM] at e;have:aI L=aI xs:=(bG.rows.inj (aIU.inj e)).2;rw[PE this,fS]
def duF (n o l:Nat) (y:List Nat) (e u j:Nat) (k:Int):PF :=
 ((((((PF.nil.set 10 (.int .i64 n)).set 11 (.osl o 1 0 l)).set 12 (aJ y)).set 13 (.int .u64 e)).set 14 (.osl u 1 0 j)).set 15 (.int .i64 k))
abbrev eK (X:List Nat) (Z:List (List PV)):List (List PV):=aI X++Z
theorem MD {X:List Nat} {Z:List (List PV)} {i:Nat} (h:i<X.length):(eK X Z)[i]?=some [.int .u32 ((X[i]:Nat):Int)]:=by
 rw[eK,aIK (by rw[bX]; exact h),bN X h]
theorem xt {X:List Nat} {Z:List (List PV)} {i:Nat} (h:i<X.length) (v:Nat):(eK X Z).set i [.int .u32 (v:Int)]=eK (X.set i v) Z:=by
 rw[eK,List.set_append_left _ _ (by rw[bX]; exact h),fZ]
theorem xr {X:List Nat} {Z:List (List PV)} {j m:Nat} (h:j+m≤X.length):((eK X Z).drop j).take m=aI ((X.drop j).take m):=by
 rw[eK,List.drop_append_of_le_length (by rw[bX]; omega),List.take_append_of_le_length (by rw[aIE,bX]; omega)];unfold aI;rw[← List.map_drop,← List.map_take]
theorem awT {C:Ctx} (L:MT C) (n o A:Nat) (y:List Nat) (B w lq j:Nat) (X:List Nat) (Z:List (List PV)) (Y:w≠o) (hy:Lim y) (hX:Lim X) (δ:X.length=A) (hl:A≤5000) (hj:j+(y.length+1)≤A) (N:0<val y)
  (qv:bG) (g0:Nat) (hg:val ((X.drop j).take (y.length+1))/val y≤g0) (V:g0<4294967296) (K:cG) (F:PF) (H:PH) (hF:((duF n o A y B w lq j).set 17 (.int .u64 g0)).le F) (hH:((PH.nil.set o (.rows 1 (eK X Z))).set w qv).le H)
  (hK:∀ F' H',((duF n o A y B w lq j).set 17 (.int .u64 (val ((X.drop j).take (y.length+1))/val y:Nat))).le F'→((PH.nil.set o (.rows 1 (eK X Z))).set w qv).le H'→K .normal F' H') :
  aE.wp C (.block 4 (.loop wR)) K F H:=by
 have e:¬ o=w:=fun h=>Y h.symm;have l:((X.drop j).take (y.length+1)).length=y.length+1:=by rw[aGY,aIE]; omega
 have E:Lim ((X.drop j).take (y.length+1)):=(hX.drop _).take _;have I:=xr (X:=X) (Z:=Z) (j:=j) (m:=y.length+1) Om;have J:j+(y.length+1)≤(eK X Z).length:=by rw[eK,aGO,bX]; omega
 have S:aI ((X.drop j).take (y.length+1))≠[]:=fun h=>by have:=congrArg List.length h;rw[bX,l] at this;simp at this
 generalize hW:(X.drop j).take (y.length+1)=W at *
 generalize M:val W/val y=R at *
 simp only[go_sem];refine wp_loop (α:=Nat) (fun g=>(duF n o A y B w lq j).set 17 (.int .u64 g)) (fun _=>(PH.nil.set o (.rows 1 (eK X Z))).set w qv) (fun g=>R≤g∧g<4294967296) (fun g=>g) g0 ⟨hg,V⟩ hF hH ?_;rintro g ⟨γ,hlt⟩;have e1:IntKind.i64.wrap ((j:Int)+(y.length:Int))=((j+y.length:Nat):Int):=hY Om;have e2:IntKind.i64.wrap (((j+y.length:Nat):Int)+1)=((j+y.length+1:Nat):Int):=dJ Om;have b1:(j:Int)≤((j+y.length+1:Nat):Int):=Om;have b2:((j+y.length+1:Nat):Int)≤(A:Nat):=Om;have b3:j+y.length+1-j=y.length+1:=Om;have mk:=L.make g Om;have tm:=L.times y (aK g) hy (bE _) Om (by have O:nl g≤1:=qC (by rw[Nat.pow_one]; exact hlt);rw[bJ]; omega)
 rw[aY] at tm;have β:(aK (val y*g)).length≤35184372087808:=by have O:nl g≤1:=qC (by rw[Nat.pow_one]; exact hlt);have h2:=xI (a:=val y) (b:=g) (fY hy) O;rw[bJ]; omega
 have cm:=L.cmp (aK (val y*g)) W (bE _) E β Om;rw[aY] at cm;simp only[go_sem,wR];refine bP .nil udS a_ ?_;simp only[go_sem,VH,duF];refine dP (anJ g) mk Sq a_ ?_;simp only[go_sem];have tS:=afQ y (aK g);rw[aY] at tS;refine dP tS tm Sq a_ ?_;simp only[go_sem,aGK,e1,e2,b1,b2,b3];refine BF (src:=aI W) ?_ ?_ (fun h=>absurd h S) fun _ x u=>?_
 ·simp only[go_sem,e,J,I]
 ·unfold roomFor;rw[bX,l];simp only[maxLen]; omega
 refine⟨a_,?_⟩;rw[bX,l];have n1:¬ x=w:=(jH.1 u).1;refine ahJ (o:=x) (s:=1) (rs:=aI W) (vs:=[aJ (aK (val y*g)),.osl x 1 0 (y.length+1)]) (v:=.int .i64 (eP (val y*g) (val W))) rfl (.int _ _) Sq ?_ ?_ ?_ Sq a_ ?_
 ·rw[aHR,aHR,aIW,zQ (by rw[bX,l]; exact aGQ _),aGZ (by rw[bX,l]; exact aGQ _)];exact cm
 ·have:=ahF x (aK (val y*g)) W;rw[aY] at this;exact this
 ·rintro r H' ⟨O,h2⟩;have:=h2 W E (by rw[cM]);rw[fS,aY] at this;exact⟨this,O⟩
 simp only[go_sem];by_cases c:val W<val y*g
 ·have U:eP (val y*g) (val W)=1:=by unfold eP;rw[if_neg Om,if_pos c]
  have hq:R<g:=by rw[← M]; exact (aJT N).2 (by rw[aHL]; exact c)
  have ew:IntKind.u64.wrap ((g:Int)-1)=((g-1:Nat):Int):=by rw[wrap_u64 Om Om]; omega
  simp only[go_sem,U,show (1:Int)>0 by decide,VI,ew];refine aH (g-1) ⟨by omega,by omega⟩ Om ?_ ?_
  ·exact Lq
  ·refine e_ (e_ a_ ?_) ?_
   ·have n2:¬ o=x:=fun h=>by subst h;rw[aP,if_neg e,cM] at u;cases u
    simp only[go_sem,n2,e]
   ·have n3:¬ w=x:=fun h=>n1 h.symm;simp only[go_sem,n3]
 ·have U:¬ eP (val y*g) (val W)>0:=by unfold eP;rw[if_neg c];split<;>decide
  have hq:g=R:=by
   have:g≤R:=by rw[← M]; exact (Nat.le_div_iff_mul_le N).2 (by rw[aHL]; omega)
   omega
  simp only[go_sem,U];refine hK _ _ ?_ ?_
  ·unfold duF
   (repeat' (first|exact d_|refine c_ ?_ ?_))<;>first|(simp only[go_sem,← hq]<;>rfl)|rfl
  ·refine e_ (e_ a_ ?_) ?_
   ·have n2:¬ o=x:=fun h=>by subst h;rw[aP,if_neg e,cM] at u;cases u
    simp only[go_sem,n2,e]
   ·have n3:¬ w=x:=fun h=>n1 h.symm;simp only[go_sem,n3]
theorem arZ (R k:Nat) (h:k<nl R):∃ u:k<(aK R).length,(aK R)[k]=R/4294967296 ^ k%4294967296:=by
 have e:k<(aK R).length:=by rw[bJ]; exact h
 refine⟨e,?_⟩;have j:=vZ (bE R) (Nat.le_of_lt e);rw[aY,aIZ e] at j;have l:=bE R _ (aGP e);simp only[val] at j;rw[← j,Nat.add_mul_mod_self_left,aIB l]
theorem ajO (R k:Nat) (h:nl R≤k):R/4294967296 ^ k%4294967296=0:=by
 rw[aJR ((jM R k).1 h)]
theorem atW {A P W Z:List Nat} {i:Nat} (e:P.length=i) (hi:i<W.length) (v:Nat):(A++(P++W.drop i)++Z).set (A.length+i) v=A++((P++[v])++W.drop (i+1))++Z :=
 PE (by rw[← fZ]; exact GN e hi v)
theorem azM {C:Ctx} (n o E:Nat) (y:List Nat) (M x Y j:Nat) (X:List Nat) (Z:List (List PV)) (J:x≠o) (U:X.length=E) (hl:E≤5000) (hj:j+(y.length+1)≤E)
  (qv:bG) (g R:Nat) (K:cG) (F:PF) (H:PH) (hF:((((duF n o E y M x Y j).set 17 (.int .u64 g)).set 18 (aJ (aK R))).set 19 (.int .i64 0)).le F) (hH:((PH.nil.set o (.rows 1 (eK X Z))).set x qv).le H)
  (hK:∀ F' H',((duF n o E y M x Y j).set 17 (.int .u64 g)).le F'→((PH.nil.set o (.rows 1 (eK (X.take j++eE (y.length+1) R++X.drop (j+(y.length+1))) Z))).set x qv).le H'→K .normal F' H') :
  aE.wp C (.block 6 (.loop wS)) K F H:=by
 have u:¬ o=x:=fun h=>J h.symm;have hA:(X.take j).length=j:=by rw[aGY]; omega
 have ε:((X.drop j).take (y.length+1)).length=y.length+1:=by rw[aGY,aIE]; omega
 have θ:(X.drop (j+(y.length+1))).length=E-(j+(y.length+1)):=by rw[aIE,U]
 have B:X.take j++(X.drop j).take (y.length+1)++X.drop (j+(y.length+1))=X:=by rw[aHN,← List.drop_drop,aJH,aJH]
 rw[← B] at hH;generalize γ:X.take j=A at *
 generalize δ:(X.drop j).take (y.length+1)=W at *
 generalize η:X.drop (j+(y.length+1))=w at *
 simp only[go_sem];refine wp_loop (α:=List Nat) (fun P=>(((duF n o E y M x Y j).set 17 (.int .u64 g)).set 18 (aJ (aK R))).set 19 (.int .i64 P.length)) (fun P=>(PH.nil.set o (.rows 1 (eK (A++(P++W.drop P.length)++w) Z))).set x qv)
  (fun P=>P.length≤y.length+1∧P=eE P.length R) (fun P=>y.length+1-P.length) [] ⟨aGW _,rfl⟩ hF (by simpa using hH) ?_
 rintro P ⟨hP,hD⟩;simp only[go_sem,wS,VJ,duF];by_cases c:P.length<y.length+1
 ·have O:(P.length:Int)≤(y.length:Nat):=Om;have ei:IntKind.i64.wrap ((j:Int)+(P.length:Int))=((j+P.length:Nat):Int):=hY Om;have β:(A++(P++W.drop P.length)++w).length=E:=by simp only[aGO,aIE]; omega
  have hi:j+P.length<(A++(P++W.drop P.length)++w).length:=Om;have b1:((j+P.length:Nat):Int)<(E:Nat):=Om;have r1:=MD (Z:=Z) hi;have s1:=xt (Z:=Z) hi 0;have N:j+P.length<((A++(P++W.drop P.length)++w).set (j+P.length) 0).length:=by rw[aIO]; exact hi
  have l:=fun v=>atW (A:=A) (P:=P) (W:=W) (Z:=w) (i:=P.length) rfl Om v;rw[hA] at l;generalize ζ:A++(P++W.drop P.length)++w=XX at *
  have r2:(eK (A++((P++[0])++W.drop (P.length+1))++w) Z)[j+P.length]?=some [.int .u32 ((0:Nat):Int)]:=by rw[← l 0,MD N,List.getElem_set_self]
  have s2:∀ v,(eK (A++((P++[0])++W.drop (P.length+1))++w) Z).set (j+P.length) [.int .u32 ((v:Nat):Int)]=eK (A++((P++[v])++W.drop (P.length+1))++w) Z:=by intro v;rw[← l 0,xt N,List.set_set,l]
  have aFT:=wZ P.length R;rw[← hD] at aFT;have ew:IntKind.i64.wrap ((P.length:Int)+1)=((P.length+1:Nat):Int):=dJ Om;simp only[go_sem,O,VK,ei,b1,u,r1,show ([PV.int .u32 (0:Int)])=[PV.int .u32 ((0:Nat):Int)] from rfl,s1,VL,bJ];by_cases c2:P.length<nl R
  ·have I:(P.length:Int)<(nl R:Nat):=Om;obtain⟨S,V⟩:=arZ R P.length c2;have hr:=bN (aK R) S;rw[V] at hr;simp only[go_sem,I,VM,hr,ei,b1,u,r2,s2,List.set_set,l,FD,ew];refine aH (P++[R/4294967296 ^ P.length%4294967296]) ⟨by simp; omega,by rw[aGO,aGR]; exact aFT.symm⟩ (by simp; omega) ?_ ?_
   ·rw[aGO,aGR];exact Lq
   ·rw[aGO,aGR];refine e_ (e_ a_ ?_) ?_<;>simp only[go_sem,u,show ¬ x=o from J]
  ·have I:¬ (P.length:Int)<(nl R:Nat):=Om;have V:=ajO R P.length Om;rw[V] at aFT;simp only[go_sem,I,l,FD,ew];refine aH (P++[0]) ⟨by simp; omega,by rw[aGO,aGR]; exact aFT.symm⟩ (by simp; omega) ?_ ?_
   ·rw[aGO,aGR];exact Lq
   ·rw[aGO,aGR];refine e_ (e_ a_ ?_) ?_<;>simp only[go_sem,u,show ¬ x=o from J]
 ·have O:¬ (P.length:Int)≤(y.length:Nat):=Om;have e:P.length=y.length+1:=Om;simp only[go_sem,O];refine hK _ _ (by unfold duF; exact Lq) ?_;have h2:A++eE (y.length+1) R++w=A++(P++W.drop P.length)++w:=by rw[aKG Om,aHY,← e,← hD]
  rw[h2];exact b_
theorem aiY {y W:List Nat} {m:Nat} (F:Lim y) (hW:Lim W) (B:y.length=m+1) (A:W.length=m+2) (E:0<y[m]):val W/val y≤(4294967296*W[m+1]+W[m])/y[m]:=by
 have x:=cA y (Om:m<y.length);rw[aGZ Om] at x;have l:=cA W (Om:m+1<W.length);rw[aGZ Om,cA W (Om:m<W.length)] at l;have u:=fL (hW.take m);rw[aGY,aIT Om] at u;have w:0<4294967296 ^ m:=aJL (by decide);have hb:4294967296 ^ m*y[m]≤val y:=Om;have j:0<4294967296 ^ m*y[m]:=Nat.mul_pos w E;have e:val W=val (W.take m)+4294967296 ^ m*(4294967296*W[m+1]+W[m]):=by rw[l,aIL,aGX,aHI]; omega
 refine aJC (Nat.div_le_div_left hb j) ?_;rw[← Nat.div_div_eq_div_mul,e,Nat.add_mul_div_left _ _ w,aJR u,aHE];exact aGQ _
theorem afR {C:Ctx} (L:MT C) (U0 n o w l u m:Nat) (y z:List Nat) (S:u≠o) (hy:Lim y) (N:y.length=m+1) (ht:0<y[m]) (f':w=l+(m+1)) (V:w≤5000) (X:List Nat) (M:pS U0 (val y) (m+1) w l l X (aGM l 0)) (K:cG) (F:PF) (H:PH)
  (hF:(duF n o w y (y[m]) u l ((l:Int)-1)).le F) (hH:((PH.nil.set o (.rows 1 (eK X (aI z)))).set u (.rows 1 (aI (aGM l 0)))).le H)
  (hK:∀ X' Q' F' H',pS U0 (val y) (m+1) w l 0 X' Q'→(duF n o w y (y[m]) u l (-1)).le F'→((PH.nil.set o (.rows 1 (eK X' (aI z)))).set u (.rows 1 (aI Q'))).le H'→K .normal F' H') :
  aE.wp C (.block 2 (.loop wT)) K F H:=by
 have x:¬ o=u:=fun h=>S h.symm;have p':¬ u=o:=S;have hV:val y<4294967296 ^ (m+1):=by have:=fL hy; rw[N] at this; exact this
 have ν:0<val y:=by have h1:=cA y (Om:m<y.length);rw[aGZ Om] at h1;have:0<4294967296 ^ m*y[m]:=Nat.mul_pos (aJL (by decide)) ht;omega
 have u':=hy _ (aGP (Om:m<y.length));generalize htop:y[m]=e at *
 simp only[go_sem];refine wp_loop (α:=Nat × List Nat × List Nat) (fun t=>duF n o w y e u l ((t.1:Int)-1)) (fun t=>(PH.nil.set o (.rows 1 (eK t.2.1 (aI z)))).set u (.rows 1 (aI t.2.2)))
  (fun t=>t.1≤l∧pS U0 (val y) (m+1) w l t.1 t.2.1 t.2.2) (fun t=>t.1) (l,X,aGM l 0) ⟨aGQ _,M⟩ hF hH ?_
 rintro⟨k,X,Q⟩ ⟨hk,M⟩;simp only at hk M;simp only[go_sem,wT,VB,duF];by_cases h0:0<k
 ·obtain⟨j,rfl⟩:∃ j,k=j+1:=⟨k-1,by omega⟩;have hz:((j+1:Nat):Int)-1=(j:Int):=Om;have b':(j:Int)≥0:=Om;have dst:=Ap M hV Om f';rw[show m+1+1=m+2 from rfl] at dst;obtain⟨hlt,Θ⟩:=dst;have ξ:=M.lu';have q':=M.lq';have R:((X.drop j).take (m+2)).length=m+2:=by rw[aGY,aIE]; omega
  have γ:Lim ((X.drop j).take (m+2)):=(M.limU.drop _).take _;have s':m+1<((X.drop j).take (m+2)).length:=Om;have r':m<((X.drop j).take (m+2)).length:=Om;have a1:j+(m+1)<X.length:=Om;have a0:j+m<X.length:=Om;have w1:((X.drop j).take (m+2))[m+1]=X[j+(m+1)]:=by simp
  have w0:((X.drop j).take (m+2))[m]=X[j+m]:=by simp
  have ρ:=aiY hy γ N R (by rw[htop]; exact ht);rw[w1,w0,htop] at ρ;have r1:=MD (Z:=aI z) a1;have r0:=MD (Z:=aI z) a0;have l1:=M.limU _ (aGP a1);have l0:=M.limU _ (aGP a0);generalize w':X[j+(m+1)]=E at *
  generalize v':X[j+m]=J at *
  have e1:IntKind.i64.wrap ((j:Int)+(y.length:Int))=((j+(m+1):Nat):Int):=by rw[N]; exact hY Om
  have e0:IntKind.i64.wrap (((j+(m+1):Nat):Int)-1)=((j+m:Nat):Int):=by rw[wrap_i64 Om Om]; omega
  have b1:((j+(m+1):Nat):Int)<(w:Nat):=Om;have b0:((j+m:Nat):Int)<(w:Nat):=Om;have Γ:IntKind.u64.wrap ((E:Nat):Int)=((E:Nat):Int):=aZ Om;have ω:IntKind.u64.wrap ((J:Nat):Int)=((J:Nat):Int):=aZ Om;have η:shift .shl .u64 (E:Int) 32=some (.int .u64 ((2 ^ 32*E:Nat):Int)):=KP (s:=32) Om Om;have ψ:(2:Nat) ^ 32=4294967296:=by decide
  have ε:=orI (a:=2 ^ 32*E) (b:=J) (n:=2 ^ 32*E+J) Om Om (Nat.two_pow_add_eq_or_of_lt Om E).symm Om;rw[ψ] at η ε;have Φ:¬ ((e:Nat):Int)=0:=Om;have υ:(4294967296*E+J)/e<18446744073709551616:=Nat.lt_of_le_of_lt (aJS _ _) Om;have ζ:IntKind.u64.wrap (Int.tdiv ((4294967296*E+J:Nat):Int) ((e:Nat):Int))=(((4294967296*E+J)/e:Nat):Int):=by rw[show Int.tdiv ((4294967296*E+J:Nat):Int) ((e:Nat):Int)=(((4294967296*E+J)/e:Nat):Int) from rfl];exact aZ υ
  have φ:val ((X.drop j).take (m+2))/val y<4294967296:=(aJT ν).2 (by rw[aHL]; exact hlt);have ο:=xr (X:=X) (Z:=aI z) (j:=j) (m:=m+2) Om;have σ:j+(m+2)≤(eK X (aI z)).length:=by rw[eK,aGO,bX]; omega
  have δ:val ((X.drop j).take (m+2))-val y*(val ((X.drop j).take (m+2))/val y)=val ((X.drop j).take (m+2))%val y:=by have:=aKC (val ((X.drop j).take (m+2))) (val y);omega
  have I:val y*(val ((X.drop j).take (m+2))/val y)≤val ((X.drop j).take (m+2)):=Nat.mul_div_le _ _;clear w1 w0;have gu:=fun g0=>awT (C:=C) L n o w y e u l j X (aI z) S hy M.limU ξ V Om ν (.rows 1 (aI Q)) g0;rw[N,show m+1+1=m+2 from rfl] at gu;generalize hW:(X.drop j).take (m+2)=W at *
  generalize t':val W/val y=O at *
  have Λ:aI W≠[]:=fun h=>by have:=congrArg List.length h;rw[bX,R] at this;simp at this
  have tail:∀ (g0:Nat) (F:PF) (H:PH),O≤g0→g0<4294967296→((duF n o w y e u l j).set 17 (.int .u64 g0)).le F→((PH.nil.set o (.rows 1 (eK X (aI z)))).set u (.rows 1 (aI Q))).le H →
    aE.wp C (.seq (.block 4 (.loop wR)) (.seq (.region FB) (.seq (.seq (.region FC) (.block 6 (.loop wS))) (.region FF)))) (fF 3 (kL C (aE.wp C (.region FG)) (jE (fun (t:Nat × List Nat × List Nat)=>duF n o w y e u l ((t.1:Int)-1)) (fun t=>(PH.nil.set o (.rows 1 (eK t.2.1 (aI z)))).set u (.rows 1 (aI t.2.2))) (fun t=>t.1≤l∧pS U0 (val y) (m+1) w l t.1 t.2.1 t.2.2) (fun t=>t.1) (j+1) (fF 2 K)))) F H:=by
   intro g0 F H hg a' hF hH;have gu:=gu g0 hg a';simp only[go_sem] at gu;simp only[go_sem];refine gu _ F H hF hH ?_;intro Y H1 A κ;have f11:Y 11=some (.osl o 1 0 w):=A 11 _ (by unfold duF; simp only[go_sem]);have β:Y 12=some (aJ y):=A 12 _ (by unfold duF; simp only[go_sem]);have θ:Y 15=some (.int .i64 j):=A 15 _ (by unfold duF; simp only[go_sem]);have ι:Y 17=some (.int .u64 (O:Nat)):=A 17 _ (by unfold duF; simp only[go_sem]);have Δ:Y 10=some (.int .i64 n):=A 10 _ (by unfold duF; simp only[go_sem]);have f13:Y 13=some (.int .u64 e):=A 13 _ (by unfold duF; simp only[go_sem]);have f14:Y 14=some (.osl u 1 0 l):=A 14 _ (by unfold duF; simp only[go_sem]);have ho:H1 o=some (.rows 1 (eK X (aI z))):=κ o _ (by simp only[go_sem,x]);have τ:H1 u=some (.rows 1 (aI Q)):=κ u _ Sq;have b3:(j:Int)≤((j+(m+1)+1:Nat):Int):=Om;have b4:((j+(m+1)+1:Nat):Int)≤(w:Nat):=Om;have b5:j+(m+1)+1-j=m+2:=Om;have e2:IntKind.i64.wrap (((j+(m+1):Nat):Int)+1)=((j+(m+1)+1:Nat):Int):=dJ Om;simp only[go_sem,FB,f11,θ,β,aGK,e1,e2,b3,b4,b5];refine BF (src:=aI W) ?_ ?_ (fun h=>absurd h Λ) fun _ o' U=>?_
   ·simp only[go_sem,ho,σ,ο]
   ·unfold roomFor;rw[bX,R];simp only[maxLen]; omega
   rw[bX,R];have n1:¬ u=o':=fun h=>by subst h; rw[τ] at U; cases U
   have n2:¬ o=o':=fun h=>by subst h; rw[ho] at U; cases U
   have nq:nl O≤1:=qC (by rw[Nat.pow_one]; exact φ);have tm:=L.times y (aK O) hy (bE _) Om (by rw[bJ]; omega);rw[aY] at tm;have nW:=fY γ;have mn:=L.minus W (aK (val y*O)) γ (bE _) (by rw[aY]; exact I) (by rw[bJ]; exact aJC (jW I) nW) Om;rw[aY,δ] at mn;have Ξ:(aI W).take (m+2)=aI W:=aGZ (by rw[bX]; omega);simp only[go_sem,ι];refine aB (L.make O Om) Sq ?_;simp only[go_sem,β];refine aB tm Sq ?_;simp only[go_sem];refine rP (o:=o') (s:=1) (rs:=aI W) mn Sq (by simp only[go_sem,show m+2≤W.length by omega,Ξ]) ?_;simp only[go_sem,FC];have Ω:(eK X (aI z)).map (fun r=>r.map (PV.bV o' 1 (aI W)))=eK X (aI z):=by
    have:eK X (aI z)=aI (X++z):=by simp[eK,aI]
    rw[this]; exact sV _ _ _ _
   have Ψ:(aI Q).map (fun r=>r.map (PV.bV o' 1 (aI W)))=aI Q:=sV _ _ _ _;have ur:=azM (C:=C) n o w y e u l j X (aI z) S ξ V Om (.rows 1 (aI Q)) O (val W%val y);rw[N,show m+1+1=m+2 from rfl] at ur;simp only[go_sem] at ur;refine ur _ _ _ ?_ ?_ ?_
   ·unfold duF
    (repeat' (first|exact d_|refine c_ ?_ ?_))<;>first|(simp only[go_sem,Δ,f11,β,f13,f14,θ,ι,n1,n2]<;>rfl)|rfl
   ·refine e_ (e_ a_ ?_) ?_
    ·simp only[go_sem,x,n2,ho,bG.frz,Ω]
    ·simp only[go_sem,n1,τ,bG.frz,Ψ]
   intro F3 H3 B μ;have i':F3 10=some (.int .i64 n):=B 10 _ (by unfold duF; simp only[go_sem]);have j':F3 11=some (.osl o 1 0 w):=B 11 _ (by unfold duF; simp only[go_sem]);have k':F3 12=some (aJ y):=B 12 _ (by unfold duF; simp only[go_sem]);have l':F3 13=some (.int .u64 e):=B 13 _ (by unfold duF; simp only[go_sem]);have χ:F3 14=some (.osl u 1 0 l):=B 14 _ (by unfold duF; simp only[go_sem]);have m':F3 15=some (.int .i64 j):=B 15 _ (by unfold duF; simp only[go_sem]);have n':F3 17=some (.int .u64 O):=B 17 _ (by unfold duF; simp only[go_sem]);have g':H3 o=some (.rows 1 (eK (X.take j++eE (m+2) (val W%val y)++X.drop (j+(m+2))) (aI z))):=μ o _ (by simp only[go_sem,x]);have h':H3 u=some (.rows 1 (aI Q)):=μ u _ Sq;have e':j<Q.length:=Om;have rq:=bN Q e';have d':(j:Int)<(l:Nat):=Om;have sq:=fZ Q j O;have ec:IntKind.u32.wrap ((O:Nat):Int)=((O:Nat):Int):=by rw[cI,aIB φ]
   have ej:IntKind.i64.wrap ((j:Int)-1)=(j:Int)-1:=wrap_i64 Om Om;simp only[go_sem,FF,χ,m',n',d',h',rq,ec,sq,FG,ej];refine aH (α:=Nat × List Nat × List Nat) (j,_,_) ⟨by simp only; omega,Θ⟩ (by simp only; omega) ?_ ?_
   ·unfold duF
    (repeat' (first|exact d_|refine c_ ?_ ?_))<;>first|(simp only[go_sem,i',j',k',l',χ]<;>rfl)|rfl
   ·refine e_ (e_ a_ ?_) ?_
    ·simp only[go_sem,x,g']
    ·simp only[go_sem]
  simp only[aE.wp,go_sem] at tail;simp only[go_sem,hz,b'];refine bP .nil dD a_ ?_;simp only[go_sem,VC,e1,e0,b1,b0,x,r1,r0,Γ,ω,η,ε,VD,Φ,ζ,VE];by_cases c:(4294967296*E+J)/e>4294967295
  ·have c':(((4294967296*E+J)/e:Nat):Int)>4294967295:=Om;simp only[go_sem,c',VG];exact tail 4294967295 _ _ Om (by decide) (by unfold duF; exact Lq) b_
  ·have c':¬ (((4294967296*E+J)/e:Nat):Int)>4294967295:=Om;simp only[go_sem,c'];exact tail _ _ _ ρ Om (by unfold duF; exact Lq) b_
 ·have:k=0:=Om;subst this;have hz:¬ ((0:Nat):Int)-1≥0:=by decide
  simp only[go_sem,hz];refine hK X Q _ _ M ?_ b_;unfold duF
  (repeat' (first|exact d_|refine c_ ?_ ?_))<;>first|(simp only[go_sem,show ((0:Nat):Int)-1=-1 from rfl]<;>rfl)|rfl
def anI (a:List Nat) (d q k r:Nat):PF:=(((((PF.nil.set 0 (aJ a)).set 1 (aJ [d])).set 6 (.osl q 1 0 a.length)).set 7 (.int .u64 r)).set 8 (.int .i64 ((k:Int)-1)))
theorem Zr {C:Ctx} (L:MT C) (a:List Nat) (d:Nat) (ha:Lim a) (l:0<d) (hd:d<4294967296) (h1:a.length≤1000) (F:PF) (f0:F 0=some (aJ a)) (f1:F 1=some (aJ [d])) :
  aE.wp C (.seq (.region LF) (.seq (.region LG) (.seq (.seq (.region LH) (.block 0 (.loop EV))) (.seq (.region EW) .ret)))) (aT [.tmp 4,.tmp 5] (cD (rE (val a) d))) F .nil:=by
 have Y:(a.length:Int)*((4:Nat):Int)≤140737488355328:=Om;have Z:(a.length:Int)≤9223372036854775807:=Om;have hz:aGM a.length [PV.int .u32 0]=aI (aGM a.length 0++[]):=by simp[aI]
 simp only[go_sem,LF,f0,aGK,Y,Z,hz];refine aQ fun o ho=>?_;simp only[go_sem,LG,LH,f0,aGK];refine wp_loop (α:=Nat × List Nat × Nat) (fun t=>anI a d o t.1 t.2.2) (fun t=>PH.nil.set o (.rows 1 (aI (aGM t.1 0++t.2.1))))
  (fun t=>t.1+t.2.1.length=a.length∧Lim t.2.1∧t.2.2<d∧val t.2.1*d+t.2.2=val (a.drop t.1)) (fun t=>t.1) (a.length,[],0) ⟨by simp,by simp[Lim],l,by simp[val]⟩ ?_ ?_ ?_
 ·unfold anI
  (repeat' (first|exact d_|refine c_ ?_ ?_))<;>first|(simp only[go_sem,f0,f1,wrap_i64 (Om:-9223372036854775808≤(a.length:Int)-1) (Om:(a.length:Int)-1≤9223372036854775807)]<;>rfl)|rfl
 ·exact e_ a_ Sq
 rintro⟨k,S,r⟩ ⟨hk,j,N,e⟩;simp only at hk j N e;simp only[go_sem,EV,i7,anI];by_cases h0:0<k
 ·obtain⟨m,rfl⟩:∃ m,k=m+1:=⟨k-1,by omega⟩;have A:((m+1:Nat):Int)-1=(m:Int):=Om;have W:(m:Int)≥0:=Om;have w:m<a.length:=Om;have hlt:(m:Int)<(a.length:Nat):=Om;have γ:=ha _ (aGP w);have u:val (a.drop m)=a[m]+4294967296*val (a.drop (m+1)):=by rw[aIZ w]; rfl
  have U:=bN a w;generalize hx:a[m]=x at *
  have ex:IntKind.u64.wrap ((x:Nat):Int)=((x:Nat):Int):=aZ Om;have ed:IntKind.u64.wrap ((d:Nat):Int)=((d:Nat):Int):=aZ Om;have J:shift .shl .u64 (r:Int) 32=some (.int .u64 ((2 ^ 32*r:Nat):Int)):=KP (s:=32) Om Om;have O:(2:Nat) ^ 32=4294967296:=by decide
  have B:=orI (a:=2 ^ 32*r) (b:=x) (n:=2 ^ 32*r+x) Om Om (Nat.two_pow_add_eq_or_of_lt Om r).symm Om;rw[O] at J B;have hq:(4294967296*r+x)/d<4294967296:=by rw[aJT l];have:4294967296*(r+1)≤4294967296*d:=aJD _ N;omega
  have V:¬ ((d:Nat):Int)=0:=Om;have E:IntKind.u64.wrap (Int.tdiv ((4294967296*r+x:Nat):Int) ((d:Nat):Int))=(((4294967296*r+x)/d:Nat):Int):=by rw[show Int.tdiv ((4294967296*r+x:Nat):Int) ((d:Nat):Int)=(((4294967296*r+x)/d:Nat):Int) from rfl];exact aZ Om
  have I:Int.tmod ((4294967296*r+x:Nat):Int) ((d:Nat):Int)=(((4294967296*r+x)%d:Nat):Int):=rfl;have ec:IntKind.u32.wrap (((4294967296*r+x)/d:Nat):Int)=(((4294967296*r+x)/d:Nat):Int):=by rw[cI,aIB hq]
  have K:aGM (m+1) 0++S=aGM m 0++(0::S):=by rw[List.replicate_succ',aHN]; rfl
  have X:(aI (aGM m 0++(0::S)))[m]?=some [.int .u32 ((0:Nat):Int)]:=by rw[bN _ (by simp)]; simp
  have M:(aI (aGM m 0++(0::S))).set m [.int .u32 (((4294967296*r+x)/d:Nat):Int)]=aI (aGM m 0++(((4294967296*r+x)/d)::S)):=by rw[fZ,aKB _ _ (by simp)]; simp
  simp only[go_sem,A,W,i8,J,U,ex,B,i9,ed,V,E,ec,hlt,K,X,M,UX,I,UY];refine aH (m,((4294967296*r+x)/d)::S,(4294967296*r+x)%d) ⟨by simp only[aIF]; omega,fun y hy=>?_,aIG _ l,?_⟩ (by simp only; omega) ?_ (e_ a_ Sq)
  ·rw[aGV] at hy;rcases hy with rfl | hy
   ·exact hq
   ·exact j y hy
  ·simp only[val];rw[u,← e,aHT,aGX,aHI];have:=aKC (4294967296*r+x) d;rw[aHL d] at this;omega
  ·(repeat' (first|exact d_|refine c_ ?_ ?_))<;>first|(simp only[go_sem,wrap_i64 (Om:-9223372036854775808≤(m:Int)-1) (Om:(m:Int)-1≤9223372036854775807)]<;>rfl)|rfl
 ·have:k=0:=Om;subst this;have A:¬ ((0:Nat):Int)-1≥0:=by decide
  rw[aHW] at e;have hS:S.length=a.length:=Om;have hq:val S=val a/d:=by rw[← e,aHL,Nat.mul_add_div l,aJR N,aIC]
  have β:r=val a%d:=by rw[← e,aHL,Nat.mul_add_mod,aIB N]
  have δ:aGM 0 0++S=S:=by simp
  have hl:=L.trim S j Om;have R:(aI S).take a.length=aI S:=aGZ (by rw[bX]; omega);simp only[go_sem,A,EW,aJX];refine rP (o:=o) (s:=1) (rs:=aI S) hl Sq (by simp only[go_sem,R,show a.length≤S.length by omega]) ?_;simp only[go_sem];refine aB (L.make r Om) Sq ?_;simp only[go_sem];refine aU (vs:=[aJ (aK (val S)),aJ (aK r)]) (.inr rfl) .nil Ev a_ ⟨?_,rfl⟩;rw[hq,β];exact .refl _
theorem apL {B m:Nat} (h:nl B=m+1):32*m<cN B∧cN B≤32*(m+1):=by
 refine⟨?_,(sT B (m+1)).2 Om⟩;rcases aHD (32*m) (cN B) with h1 | h1
 ·exact h1
 ·have:=(sT B m).1 h1;omega
theorem apM {B:Nat} (h:B≠0):2 ^ (cN B-1)≤B:=by
 rcases aHD B (2 ^ (cN B-1)) with h1 | h1
 ·have j:=(mX B _).2 h1;have l:cN B≠0:=fun e=>h (kG.1 e);omega
 ·exact h1
theorem Zs {C:Ctx} (L:MT C) (A B:Nat) (hB:B≠0) (hA:nl A≤512) (Ψ:nl B≤512) :
  BC.wp C (aT ni.res (cD (rE A B))) (PF.args [aJ (aK A),aJ (aK B)]) .nil:=by
 have R:=bE A;have LB:=bE B;have vA:=aY A;have vB:=aY B;have lA:(aK A).length=nl A:=rfl;have lB:(aK B).length=nl B:=rfl;simp only[go_sem,BC,iz,i0,ni];refine aB (L.cmp _ _ R LB Om Om) rfl ?_;rw[vA,vB];by_cases c1:A<B
 ·have hc:eP A B<0:=by simp[eP,c1]
  simp only[go_sem,hc,i5];refine aB (L.trim _ R Om) rfl ?_;rw[vA];simp only[go_sem];refine aU (vs:=[.aA,aJ (aK A)]) (.inr rfl) .nil rfl a_ ⟨?_,rfl⟩;rw[rE,aJR c1,aIB c1,gV];exact CoL.tup (CoL.cons (.nil 1) (CoL.cons (.refl _) .nil))
 have hc:¬ eP A B<0:=by unfold eP;rw[if_neg c1];split<;>decide
 have τ:0<B:=aJE hB;have e':nl B≠0:=fun h=>hB (lM.1 h);simp only[go_sem,hc,i6,aGK,lB];by_cases c2:nl B=1
 ·have S:B<4294967296:=by have:=(jM B 1).1 Om; simpa using this
  have ω:aK B=[B]:=pD hB S;have sh:=Zr (C:=C) L (aK A) B R τ S Om;rw[vA] at sh;simp only[aE.wp,go_sem] at sh;simp only[go_sem,bM (Om:((nl B:Nat):Int)=1)];exact sh _ rfl (by simp only[go_sem,ω])
 obtain⟨m,hm⟩:∃ m,nl B=m+1:=⟨nl B-1,by omega⟩;have d':1≤m:=Om;obtain⟨b',β⟩:=apL hm;obtain⟨n,hn⟩:∃ n,n+cN B=32*(m+1):=⟨32*(m+1)-cN B,by omega⟩;have δ:n<32:=Om;have K:0<2 ^ n:=aJL (by decide);have V:B<2 ^ cN B:=(mX B _).1 (aGQ _);have U:=apM hB;have Y:B*2 ^ n<4294967296 ^ (m+1):=by have:B*2 ^ n<2 ^ cN B*2 ^ n:=Nat.mul_lt_mul_of_pos_right V K;rw[← Nat.pow_add,show cN B+n=32*(m+1) by omega,Nat.pow_mul] at this;exact this
 have Ξ:4294967296 ^ m*2147483648≤B*2 ^ n:=by have:2 ^ (cN B-1)*2 ^ n≤B*2 ^ n:=aHO _ U;rw[← Nat.pow_add,show cN B-1+n=32*m+31 by omega,Nat.pow_add,Nat.pow_mul] at this;exact this
 have nV:nl (B*2 ^ n)=m+1:=by
  have I:=(jM (B*2 ^ n) (m+1)).2 Y;rcases aHD (nl (B*2 ^ n)) (m+1) with h | h
  ·have:=(jM (B*2 ^ n) m).1 Om;have Δ:0<4294967296 ^ m:=aJL (by decide);omega
  ·omega
 have a':B*2 ^ n≠0:=Nat.mul_ne_zero hB Om;have g':nl (A*2 ^ n)≤nl A+1:=xI (aGQ _) (qC (by rw[Nat.pow_one]; exact Nat.pow_lt_pow_right (a:=2) (m:=n) (n:=32) (by decide) δ));have χ:B*2 ^ n≤A*2 ^ n:=aHO _ Om;have h':m+1≤nl (A*2 ^ n):=by rw[← nV]; exact jW χ
 have Ω:A*2 ^ n≠0:=Om;have μ:IntKind.i64.wrap (32*((nl B:Nat):Int))=((32*(m+1):Nat):Int):=by rw[wrap_i64 Om Om]; omega
 have en:IntKind.i64.wrap (((32*(m+1):Nat):Int)-((cN B:Nat):Int))=(n:Int):=by rw[wrap_i64 Om Om]; omega
 have bt:=L.bits (aK B) LB Om;rw[vB] at bt;have ua:=L.upM (aK A) n R Om Om (fun h=>by have:=fL R; rw[h] at this; omega);have ub:=(L.upM (aK B) n LB Om Om (fun h=>by have:=fL LB; rw[h] at this; omega)).freeze;rw[vA] at ua;rw[vB] at ub;have tail:∀ (o:Nat) (F:PF) (H:PH),F 0=some (aJ (aK A))→F 1=some (aJ (aK B))→F 10=some (.int .i64 n)→F 11=some (.osl o 1 0 (nl (A*2 ^ n)+2))→F 12=some (aJ (aK (B*2 ^ n)))→H o=some (.rows 1 (aI (aK (A*2 ^ n))++[[.int .u32 0],[.int .u32 0]])) →
   aE.wp C (.seq (.region EX) (.seq (.region EY) (.seq (.region EZ) (.seq (.seq (.region FA) (.block 2 (.loop wT))) (.seq (.region FH) .ret))))) (aT [.tmp 4,.tmp 5] (cD (rE A B))) F H:=by
  intro o F H f0 f1 ν f11 ξ hH;have LU:=bE (A*2 ^ n);have LV:=bE (B*2 ^ n);have vU:=aY (A*2 ^ n);have vV:=aY (B*2 ^ n);have lU:(aK (A*2 ^ n)).length=nl (A*2 ^ n):=rfl;have lV:(aK (B*2 ^ n)).length=m+1:=nV;have eu:IntKind.i64.wrap (((nl (A*2 ^ n):Nat):Int)+1)=((nl (A*2 ^ n)+1:Nat):Int):=dJ Om;have b1:((nl (A*2 ^ n)+1:Nat):Int)≤((nl (A*2 ^ n)+2:Nat):Int):=Om;simp only[go_sem,EX,f11,f0,ν];refine aB ua.freeze rfl ?_;obtain⟨e,c'⟩:∃ e,nl (A*2 ^ n)+1-(m+1)=e:=⟨_,rfl⟩;have Γ:nl (A*2 ^ n)+1=e+(m+1):=Om;have em:IntKind.i64.wrap (((m+1:Nat):Int)-1)=((m:Nat):Int):=by rw[wrap_i64 Om Om]; omega
  have u:m<(aK (B*2 ^ n)).length:=Om;have rm:=bN (aK (B*2 ^ n)) u;have tl:=LV _ (aGP u);have htop:0<(aK (B*2 ^ n))[m]:=by
   have I:=cA (aK (B*2 ^ n)) u;rw[aGZ Om,vV] at I;have h2:=fL (LV.take m);rw[aGY,aIT Om] at h2;have Δ:0<4294967296 ^ m:=aJL (by decide);rcases aIS (aK (B*2 ^ n))[m] with h | h
   ·rw[h] at I; omega
   ·exact h
  have κ:2147483648≤(aK (B*2 ^ n))[m]:=by
   have I:=cA (aK (B*2 ^ n)) u;rw[aGZ Om,vV] at I;have h2:=fL (LV.take m);rw[aGY,aIT Om] at h2;rcases aHD (aK (B*2 ^ n))[m] 2147483648 with h | h
   ·exfalso;have h3:4294967296 ^ m*((aK (B*2 ^ n))[m]+1)≤4294967296 ^ m*2147483648:=aJD _ h;rw[aGX,Nat.mul_one] at h3;omega
   ·exact h
  have y:=afR (C:=C) L (A*2 ^ n) n o (nl (A*2 ^ n)+1) e;have hI:pS (A*2 ^ n) (val (aK (B*2 ^ n))) (m+1) (nl (A*2 ^ n)+1) e e (aK (A*2 ^ n)++[0]) (aGM e 0):=by
   refine⟨by rw[aGO,lU]; rfl,aKK,LU.app fun x O=>by simp at O; omega,xF _,?_,?_,fun i x _ O=>Nu O⟩
   ·rw[gW,vU,tF]; simp[val]
   ·have Φ:(aK (A*2 ^ n)++[0]).length=nl (A*2 ^ n)+1:=by rw[aGO,lU]; rfl
    have Λ:val (aK (A*2 ^ n)++[0])=A*2 ^ n:=by rw[gW,vU]; simp[val]
    rw[vZ (LU.app fun x O=>by simp at O; omega) Om,Λ,vV,aJT (aJL (by decide))];have I:A*2 ^ n<4294967296 ^ nl (A*2 ^ n):=(jM _ _).1 (aGQ _);have O:nl (A*2 ^ n)=m+e:=Om;rw[O,Nat.pow_add] at I;have h2:4294967296 ^ m*4294967296 ^ e≤(B*2 ^ n)*4294967296 ^ e:=aHO _ Om;omega
  have M:aI (aK (A*2 ^ n))++[[PV.int .u32 0],[PV.int .u32 0]]=eK (aK (A*2 ^ n)++[0]) (aI [0]):=by simp[eK,aI]
  rw[M] at hH;generalize θ:(aK (B*2 ^ n))[m]=ι at *
  have et:IntKind.u64.wrap ((ι:Nat):Int)=((ι:Nat):Int):=aZ Om;have k2:IntKind.i64.wrap (((nl (A*2 ^ n)+1:Nat):Int)-((m+1:Nat):Int))=((e:Nat):Int):=by rw[wrap_i64 Om Om]; omega
  have k3:((e:Nat):Int)*((4:Nat):Int)≤140737488355328:=Om;have k4:((e:Nat):Int)≤9223372036854775807:=Om;have hz:aGM e [PV.int .u32 0]=aI (aGM e 0):=by simp[aI]
  have jq:IntKind.i64.wrap ((e:Int)-1)=(e:Int)-1:=wrap_i64 Om Om;simp only[go_sem,aGK,lU,eu,b1,EY,ξ,lV,em,rm,et,EZ,k2,k3,k4,hz];refine aQ fun E η=>?_;have ε:E≠o:=by rintro rfl; rw[hH] at η; cases η
  have l:¬ o=E:=fun h=>ε h.symm;have w:=y E m (aK (B*2 ^ n)) [0] ε LV lV (by rw[θ]; exact htop) Γ Om _ hI;rw[θ] at w;simp only[go_sem] at w;simp only[go_sem,FA,jq];refine w _ _ _ ?_ ?_ ?_
  ·unfold duF;exact Lq
  ·refine e_ (e_ a_ ?_) ?_
   ·simp only[go_sem,l,hH]
   ·simp only[go_sem]
  clear w y;intro X Q F1 H1 j J W;have ο:F1 10=some (.int .i64 n):=J 10 _ (by unfold duF; simp only[go_sem]);have ρ:F1 11=some (.osl o 1 0 (nl (A*2 ^ n)+1)):=J 11 _ (by unfold duF; simp only[go_sem]);have σ:F1 14=some (.osl E 1 0 e):=J 14 _ (by unfold duF; simp only[go_sem]);have ζ:H1 o=some (.rows 1 (eK X (aI [0]))):=W o _ (by simp only[go_sem,l]);have Θ:H1 E=some (.rows 1 (aI Q)):=W E _ Sq;have hu:val X<val (aK (B*2 ^ n)):=by have:=j.r; rwa [aHW] at this
  have N:=j.v;rw[vV] at hu N;have φ:val Q=A/B:=by
   have:A*2 ^ n/(B*2 ^ n)=val Q:=by rw[← N,Nat.add_mul_div_right _ _ Om,aJR hu,aHE]
   rw[← this,Nat.mul_div_mul_right _ _ K]
  have ψ:val X/2 ^ n=A%B:=by
   have:A*2 ^ n%(B*2 ^ n)=val X:=by rw[← N,Nat.add_mul_mod_self_right,aIB hu]
   rw[← this,Nat.mul_mod_mul_right,Nat.mul_div_cancel _ K]
  have lX:=j.lu';have lQ:=j.lq';have υ:(aI Q).take e=aI Q:=aGZ (by rw[bX]; omega);have α:(eK X (aI [0])).take (nl (A*2 ^ n)+1)=aI X:=by rw[eK,List.take_append_of_le_length (by rw[bX]; omega),aGZ (by rw[bX]; omega)]
  have Z:nl (A*2 ^ n)+1≤(eK X (aI [0])).length:=by rw[eK,aGO,bX]; omega
  have γ:(eK X (aI [0])).map (fun r=>r.map (PV.bV E 1 (aI Q)))=eK X (aI [0]):=by
   have:eK X (aI [0])=aI (X++[0]):=by simp[eK,aI]
   rw[this]; exact sV _ _ _ _
  have nX:=fY j.limU;have t1:=L.trim Q j.limQ Om;have t2:=L.trim X j.limU Om;have dn:=L.down (aK (val X)) n (bE _) (by rw[bJ]; omega) Om;rw[aY,ψ] at dn;rw[φ] at t1;generalize aI [0]=Z0 at ζ α Z γ;simp only[go_sem,FH,σ];refine rP (o:=E) (s:=1) (rs:=aI Q) t1 Θ (by simp only[go_sem,υ,show e≤Q.length by omega]) ?_;simp only[go_sem,ρ,l];refine rP (o:=o) (s:=1) (rs:=eK X Z0) t2 (by simp only[go_sem,l,ζ,bG.frz,γ]) (by simp only[go_sem,α,Z]) ?_;simp only[go_sem,ο];refine aB dn rfl ?_;simp only[go_sem];exact aU (vs:=[aJ (aK (A/B)),aJ (aK (A%B))]) (.inr rfl) .nil rfl a_ ⟨.refl _,rfl⟩
 simp only[aE.wp,go_sem] at tail;simp only[go_sem,bB (Om:¬ ((nl B:Nat):Int)=1),UZ,aGK,lB];refine aB bt rfl ?_;simp only[go_sem,μ,en,VA];refine dU ua rfl a_ fun r H1 hr _=>?_;have β:(2:Nat)*1≤16777216:=by decide
 rcases hr with ⟨h0,_⟩ | ⟨o,rs,rfl,rfl,hrl,hrt⟩
 ·exfalso;have:=congrArg List.length h0;rw[bX,bJ] at this;simp at this;omega
 rw[PH.oH];rw[bX,bJ] at hrl hrt;simp only[go_sem,β,bX,bJ];refine No (src:=[[.int .u32 0],[.int .u32 0]]) (rs:=rs) rfl ?_ Sq hrl ?_ fun o' f'=>?_
 ·unfold roomFor;simp only[maxLen,aIF,aIV]; omega
 ·rw[hrt];simp only[go_sem];refine aB ub rfl ?_;simp only[go_sem];exact tail o _ _ rfl rfl rfl rfl rfl Sq
 ·rw[hrt];simp only[go_sem];refine aB ub rfl ?_;simp only[go_sem];exact tail o' _ _ rfl rfl rfl rfl rfl Sq
def bO (C:Ctx) (k:Nat) (e:bC):Prop:=∀ (args:List PV) (H:PH) (R:PV→PH→Prop),args.length≤e.ntmps→e.body.wp C (aT e.res R) (PF.args args) H→aG C k args H R
theorem bO.go {C:Ctx} {k:Nat} {e:bC} (r:bO C k e) {args:List PV} {H:PH} {R:PV→PH→Prop} (h:e.body.wp C (aT e.res R) (PF.args args) H) (j:Nat.ble args.length e.ntmps=true):aG C k args H R:=r args H R (Nat.le_of_ble_eq_true j) h
abbrev xQ (C:Ctx):Prop:=∀ n:Nat,n<100→aG C 195 [.int .i64 n] .nil (aM (.str (bW n)))
section
variable {C:Ctx} {F F':PF} {H:PH}
theorem cQ (e:F.le F') {x:aN} {v:PV} (h:x.ev F=some v):x.ev F'=some v:=by
 cases x
 ·exact e _ _ h
 all_goals exact h
theorem FZ (e:F.le F'):∀ {xs:List aN} {vs:List PV},aN.evs F xs=some vs→aN.evs F' xs=some vs
 | [],_,h=>h
 | x::xs,vs,h=>by
  rw[AG] at h ⊢;cases l:x.ev F with
  | none=>simp[l] at h
  | some v =>
   cases j:aN.evs F xs with
   | none=>simp[j] at h
   | some ws =>rw[l,j] at h;rw[cQ e l,FZ e j];exact h
theorem A2 (e:F.le F'):∀ {ps:List (Nat × Nat × aN)} {cs ds:List PV},qO cs F ps=some ds→qO cs F' ps=some ds
 | [],_,_,h=>h
 | (u,size,x)::ps,cs,ds,h=>by
  simp only[qO] at h ⊢;cases j:x.ev F with
  | none=>simp[j] at h
  | some v =>
   rw[j] at h;rw[cQ e j];simp only at h ⊢;split at h
   ·rename_i l; rw[if_pos l]; exact A2 e h
   ·cases h
theorem DC (e:F.le F') {size:Nat}:∀ {ps:List (Nat × aN)} {cs ds:List (List PV)},jA size cs F ps=some ds→jA size cs F' ps=some ds
 | [],_,_,h=>h
 | (i,x)::ps,cs,ds,h=>by
  simp only[jA] at h ⊢;cases j:x.ev F with
  | none=>simp[j] at h
  | some v =>
   rw[j] at h;rw[cQ e j];simp only at h ⊢;split at h
   ·rename_i l; rw[if_pos l]; exact DC e h
   ·cases h
theorem MX (e:F.le F') {d n:Int} {x:Option aN} (h:bnd F d x=some n):bnd F' d x=some n:=by
 cases x with
 | none=>exact h
 | some x =>
  simp only[bnd] at h ⊢;cases j:x.ev F with
  | none=>simp[j] at h
  | some v=>rw[cQ e j,← j]; exact h
theorem Jr {op:POp} {v:PV} (j:F.le F') (h:aO op F H=some v):aO op F' H=some v:=by
 cases op
 case mv x=>exact cQ j h
 case pick c a b =>
  simp only[aO] at h ⊢;cases I:c.ev F with
  | none=>simp[I] at h
  | some t =>
   rw[I] at h;rw[cQ j I];cases t<;>simp only at h ⊢<;>try cases h
   rename_i t;cases t
   ·simp only[aJP,if_false] at h ⊢; exact cQ j h
   ·simp only[if_true] at h ⊢; exact cQ j h
 case same x =>
  simp only[aO] at h ⊢;cases e:x.ev F with
  | none=>simp[e] at h
  | some a=>rw[cQ j e,← e]; exact h
 case un o x =>
  simp only[aO] at h ⊢;cases e:x.ev F with
  | none=>simp[e] at h
  | some a=>rw[cQ j e,← e]; exact h
 case conv k x =>
  simp only[aO] at h ⊢;cases e:x.ev F with
  | none=>simp[e] at h
  | some a=>rw[cQ j e,← e]; exact h
 case aFK x =>
  simp only[aO] at h ⊢;cases e:x.ev F with
  | none=>simp[e] at h
  | some a=>rw[cQ j e,← e]; exact h
 case aGB o x =>
  simp only[aO] at h ⊢;cases e:x.ev F with
  | none=>simp[e] at h
  | some a=>rw[cQ j e,← e]; exact h
 case field o n x =>
  simp only[aO] at h ⊢;cases e:x.ev F with
  | none=>simp[e] at h
  | some a=>rw[cQ j e,← e]; exact h
 case aFY x =>
  simp only[aO] at h ⊢;cases e:x.ev F with
  | none=>simp[e] at h
  | some a=>rw[cQ j e,← e]; exact h
 case isNil n x =>
  simp only[aO] at h ⊢;cases e:x.ev F with
  | none=>simp[e] at h
  | some a=>rw[cQ j e,← e]; exact h
 case lenM x =>
  simp only[aO] at h ⊢;cases e:x.ev F with
  | none=>simp[e] at h
  | some a=>rw[cQ j e,← e]; exact h
 case aGJ x =>
  simp only[aO] at h ⊢;cases e:x.ev F with
  | none=>simp[e] at h
  | some a=>rw[cQ j e,← e]; exact h
 case extract x i =>
  simp only[aO] at h ⊢;cases e:x.ev F with
  | none=>simp[e] at h
  | some a=>rw[cQ j e,← e]; exact h
 case aFL x =>
  simp only[aO] at h ⊢;cases e:x.ev F with
  | none=>simp[e] at h
  | some a=>rw[cQ j e,← e]; exact h
 case len x =>
  simp only[aO] at h ⊢;cases e:x.ev F with
  | none=>simp[e] at h
  | some a=>rw[cQ j e,← e]; exact h
 case box r x =>
  cases r
  ·cases h
  simp only[aO] at h ⊢;cases e:x.ev F with
  | none=>simp[e] at h
  | some a=>rw[cQ j e,← e]; exact h
 case load n p =>
  cases n
  all_goals
   simp only[aO] at h ⊢;cases e:p.ev F with
   | none=>simp[e] at h
   | some a=>rw[cQ j e,← e]; exact h
 case bin o x y =>
  simp only[aO] at h ⊢;cases e:x.ev F with
  | none=>simp[e] at h
  | some a =>
   cases A:y.ev F with
   | none=>simp[e,A] at h
   | some b=>rw[cQ j e,cQ j A,← e,← A]; exact h
 case eqb n x y =>
  simp only[aO] at h ⊢;cases e:x.ev F with
  | none=>simp[e] at h
  | some a =>
   cases A:y.ev F with
   | none=>simp[e,A] at h
   | some b=>rw[cQ j e,cQ j A,← e,← A]; exact h
 case eqs n k x y =>
  simp only[aO] at h ⊢;cases e:x.ev F with
  | none=>simp[e] at h
  | some a =>
   cases A:y.ev F with
   | none=>simp[e,A] at h
   | some b=>rw[cQ j e,cQ j A,← e,← A]; exact h
 case aFO s x i =>
  simp only[aO] at h ⊢;cases e:x.ev F with
  | none=>simp[e] at h
  | some a =>
   cases A:i.ev F with
   | none=>simp[e,A] at h
   | some b=>rw[cQ j e,cQ j A,← e,← A]; exact h
 case idxA n s x i =>
  simp only[aO] at h ⊢;cases e:x.ev F with
  | none=>simp[e] at h
  | some a =>
   cases A:i.ev F with
   | none=>simp[e,A] at h
   | some b=>rw[cQ j e,cQ j A,← e,← A]; exact h
 case idxV n s g x i =>
  simp only[aO] at h ⊢;cases e:x.ev F with
  | none=>simp[e] at h
  | some a =>
   cases A:i.ev F with
   | none=>simp[e,A] at h
   | some b=>rw[cQ j e,cQ j A,← e,← A]; exact h
 case aFZ x i =>
  simp only[aO] at h ⊢;cases e:x.ev F with
  | none=>simp[e] at h
  | some a =>
   cases A:i.ev F with
   | none=>simp[e,A] at h
   | some b=>rw[cQ j e,cQ j A,← e,← A]; exact h
 case aFS m x y =>
  simp only[aO] at h ⊢;cases e:x.ev F with
  | none=>simp[e] at h
  | some a =>
   cases A:y.ev F with
   | none=>simp[e,A] at h
   | some b=>rw[cQ j e,cQ j A,← e,← A]; exact h
 case lookup sh z x k ok =>
  simp only[aO] at h ⊢;cases e:x.ev F with
  | none=>simp[e] at h
  | some a =>
   cases A:k.ev F with
   | none=>simp[e,A] at h
   | some b=>rw[cQ j e,cQ j A,← e,← A]; exact h
 case build z ps =>simp only[aO,aGT] at h ⊢;obtain⟨cs,B,E⟩:=h;exact⟨cs,A2 j B,E⟩
 case aFC r s l z ps =>
  cases r
  ·cases h
  simp only[aO] at h ⊢;split at h
  ·rename_i I;rw[if_pos I];rw[aGT] at h ⊢;obtain⟨cs,B,E⟩:=h;exact⟨cs,DC j B,E⟩
  ·cases h
 case mkfn n cs =>simp only[aO,aGT] at h ⊢;obtain⟨vs,B,E⟩:=h;exact⟨vs,FZ j B,E⟩
 case sliceA n s x lo hi mx =>
  cases lo<;>cases hi<;>cases mx<;>simp only[aO] at h ⊢<;>try cases h
  cases e:x.ev F with
  | none=>simp[e] at h
  | some a=>rw[cQ j e,← e]; exact h
 case aFU x lo hi =>
  simp only[aO] at h ⊢;cases e:x.ev F with
  | none=>simp[e] at h
  | some a =>
   rw[e] at h;rw[cQ j e];cases a<;>simp only at h ⊢<;>try cases h
   cases B:bnd F 0 lo with
   | none=>simp[B] at h
   | some l =>
    rename_i s;cases E:bnd F s.length hi with
    | none=>simp[B,E] at h
    | some u=>rw[MX j B,MX j E,← B,← E]; exact h
 case slice s x lo hi mx =>
  simp only[aO] at h ⊢;cases e:x.ev F with
  | none=>simp[e] at h
  | some a =>
   rw[e] at h;rw[cQ j e];have K:∀ (d:Int) (w:PV),(match bnd F 0 lo,bnd F d hi with
     | some a1,some a2=>match (generalizing:=false) mx with
      | none=>PV.slice s w a1 a2 none
      | some m=>(bnd F 0 (some m)).bind fun m=>PV.slice s w a1 a2 (some m)
     | _,_=>none)=some v→(match bnd F' 0 lo,bnd F' d hi with
     | some a1,some a2=>match (generalizing:=false) mx with
      | none=>PV.slice s w a1 a2 none
      | some m=>(bnd F' 0 (some m)).bind fun m=>PV.slice s w a1 a2 (some m)
     | _,_=>none)=some v:=by
    intro d w h;cases B:bnd F 0 lo with
    | none=>simp[B] at h
    | some l =>
     cases E:bnd F d hi with
     | none=>simp[B,E] at h
     | some u =>
      rw[B,E] at h;rw[MX j B,MX j E];cases mx with
      | none=>exact h
      | some m =>
       simp only at h ⊢;cases J:bnd F 0 (some m) with
       | none=>simp[J] at h
       | some q=>rw[MX j J,← J]; exact h
   cases a<;>simp only at h ⊢<;>first | exact K _ _ h | cases h
 all_goals exact h
theorem Ab {op:POp} {r:(Nat→PV) × bG} (e:F.le F') (h:cX op F=some r):cX op F'=some r:=by
 cases op
 case box b x =>
  cases b
  ·simp only[cX] at h ⊢;cases j:x.ev F with
   | none=>simp[j] at h
   | some a=>rw[cQ e j,← j]; exact h
  ·cases h
 case aFC b s l z ps =>
  cases b
  ·simp only[cX] at h ⊢;split at h
   ·rename_i A;rw[if_pos A];rw[aGT] at h ⊢;obtain⟨cs,w,y⟩:=h;exact⟨cs,DC e w,y⟩
   ·cases h
  ·cases h
 case aFF s b z l c =>
  simp only[cX] at h ⊢;cases j:l.ev F with
  | none=>simp[j] at h
  | some a =>
   cases u:c.ev F with
   | none=>simp[j,u] at h
   | some b=>rw[cQ e j,cQ e u,← j,← u]; exact h
 all_goals exact h
theorem Ns {op:POp} {K:PV→PH→Prop} (e:F.le F') (h:bZ op F H K):bZ op F' H K:=by
 cases op
 case store n x y =>
  simp only[bZ] at h ⊢;cases j:x.ev F with
  | none=>simp[j] at h
  | some a =>
   cases l:y.ev F with
   | none=>simp[j,l] at h
   | some b=>rw[cQ e j,cQ e l]; rw[j,l] at h; exact h
 case append s b x y =>
  simp only[bZ] at h ⊢;cases j:x.ev F with
  | none=>simp[j] at h
  | some a =>
   cases l:y.ev F with
   | none=>simp[j,l] at h
   | some b=>rw[cQ e j,cQ e l]; rw[j,l] at h; exact h
 case aFP sh x y z =>
  simp only[bZ] at h ⊢;cases j:x.ev F with
  | none=>simp[j] at h
  | some a =>
   cases l:y.ev F with
   | none=>simp[j,l] at h
   | some b =>
    cases u:z.ev F with
    | none=>simp[j,l,u] at h
    | some c=>rw[cQ e j,cQ e l,cQ e u]; rw[j,l,u] at h; exact h
 case insert sh x y z =>
  simp only[bZ] at h ⊢;cases j:x.ev F with
  | none=>simp[j] at h
  | some a =>
   cases l:y.ev F with
   | none=>simp[j,l] at h
   | some b =>
    cases u:z.ev F with
    | none=>simp[j,l,u] at h
    | some c=>rw[cQ e j,cQ e l,cQ e u]; rw[j,l,u] at h; exact h
 all_goals exact h
theorem PF.awP (l:F.le F') (i:Nat) (v:PV):(F.set i v).le (F'.set i v):=by
 intro j u h;rw[mR] at h ⊢;split at h
 ·rename_i e; rw[if_pos e]; exact h
 ·rename_i e; rw[if_neg e]; exact l j u h
theorem PF.uO (e:F.le F') (d:Option Nat) (v:PV):(F.put d v).le (F'.put d v):=by
 cases d with
 | none=>exact e
 | some d=>exact PF.awP e d v
theorem PF.avS (e:F.le F') (o s:Nat) (rs:List (List PV)):(F.frz o s rs).le (F'.frz o s rs):=by
 intro j u h;rw[oF,aGT] at h ⊢;obtain⟨x,l,w⟩:=h;exact⟨x,e j x l,w⟩
theorem PF.le_trans {A B D:PF} (h:A.le B) (k:B.le D):A.le D:=fun i v hi=>k i v (h i v hi)
theorem jF.up {l:PF} {u:PH} (h:jF F H l u):∀ {F':PF},F.le F'→∃ e,jF F' H e u∧l.le e:=by
 induction h with
 | refl F H=>exact fun {F'} j=>⟨F',.refl _ _,j⟩
 | step o y _ A =>intro F' j;obtain⟨e,w,x⟩:=A (PF.avS j o _ _);exact⟨e,.step o y w,x⟩
theorem bi {name:Nat} {args:Option (List PV)} {d:Option Nat} {K1 K2:PF→PH→Prop} (A:∀ F F' H,F.le F'→K1 F H→K2 F' H) (j:F.le F') {e:Option (List PV)} (B:∀ vs,args=some vs→e=some vs) (h:tI C name args d K1 F H):tI C name e d K2 F' H:=by
 obtain⟨vs,l,R,u,w,x,y⟩:=h;exact⟨vs,l,R,B _ u,w,x,fun r H' a b=>A _ _ _ (PF.uO j d r) (y r H' a b)⟩
theorem F0 {cs:List PV} {args:List aN} (e:F.le F') (vs:List PV) (h:(aN.evs F args).map (·++cs)=some vs):(aN.evs F' args).map (·++cs)=some vs:=by
 rw[aGT] at h ⊢;obtain⟨x,j,l⟩:=h;exact⟨x,FZ e j,l⟩
theorem Oz {name:Nat} {args:List aN} {cs:List PV} {d:Option Nat} {K1 K2:PF→PH→Prop} (l:∀ F F' H,F.le F'→K1 F H→K2 F' H) (e:F.le F') (h:gA C name args cs d K1 F H):gA C name args cs d K2 F' H:=by
 rcases h with h | ⟨F1,H1,h1,h2⟩
 ·exact .inl (bi l e (F0 e) h)
 ·obtain⟨j,k1,k2⟩:=h1.up e;exact .inr ⟨j,H1,k1,bi l k2 (F0 k2) h2⟩
theorem PA {op:POp} {d:Option Nat} {K1 K2:PF→PH→Prop} (u:∀ F F' H,F.le F'→K1 F H→K2 F' H) (e:F.le F') (h:nM (cX op F) d K1 F H):nM (cX op F') d K2 F' H:=by
 obtain⟨y,x,j,l⟩:=h;exact⟨y,x,Ab e j,fun o w=>u _ _ _ (PF.uO e d _) (l o w)⟩
theorem j6 {op:POp} {d:Option Nat} {K1 K2:PF→PH→Prop} (u:∀ F F' H,F.le F'→K1 F H→K2 F' H) (e:F.le F') (h:bS (aO op F H) d K1 F H):bS (aO op F' H) d K2 F' H:=by
 obtain⟨v,j,l⟩:=h;exact⟨v,Jr e j,u _ _ _ (PF.uO e d v) l⟩
theorem zf {op:POp} {d:Option Nat} {K1 K2:PF→PH→Prop} (j:∀ F F' H,F.le F'→K1 F H→K2 F' H) (e:F.le F') (h:bZ op F H fun r H'=>K1 (F.put d r) H'):bZ op F' H fun r H'=>K2 (F'.put d r) H' :=
 Ns e (BG (fun v H' l=>j _ _ _ (PF.uO e d v) l) h)
theorem aoW {op:POp} {d:Option Nat} {K1 K2:PF→PH→Prop} (j:∀ F F' H,F.le F'→K1 F H→K2 F' H) (e:F.le F') (h:wpOp C op d K1 F H):wpOp C op d K2 F' H:=by
 cases op
 case call n a=>exact Oz j e h
 case aGA x a =>
  have w:wB C (x.ev F) a d K1 F H:=h;show wB C (x.ev F') a d K2 F' H;cases K:x.ev F with
  | none=>rw[K] at w; exact w.elim
  | some u =>
   rw[cQ e K];rw[K] at w;cases u<;>first | exact Oz j e w | exact w.elim | skip
   obtain⟨l,N,A⟩:=w;refine⟨l,N,?_⟩;rcases A with ⟨vs,E,R,A,I,J,h5⟩ | ⟨F1,H1,k1,vs,E,R,A,I,J,h5⟩
   ·exact .inl ⟨vs,E,R,FZ e A,I,J,fun r H' p q=>j _ _ _ (PF.uO e d r) (h5 r H' p q)⟩
   ·obtain⟨B,k2,M⟩:=k1.up e;exact .inr ⟨B,H1,k2,vs,E,R,FZ M A,I,J,fun r H' p q=>j _ _ _ (PF.uO M d r) (h5 r H' p q)⟩
 case box r x=>cases r<;>first | exact PA (op:=.box false x) j e h | exact j6 (op:=.box true x) j e h
 case aFC r s l z ps=>cases r<;>first | exact PA (op:=.aFC false s l z ps) j e h | exact j6 (op:=.aFC true s l z ps) j e h
 case alloc cs=>exact PA (op:=.alloc cs) j e h
 case aFF s b z l c=>exact PA (op:=.aFF s b z l c) j e h
 case aGF sh=>exact PA (op:=.aGF sh) j e h
 case store n x y=>exact zf (op:=.store n x y) j e h
 case append s b x y=>exact zf (op:=.append s b x y) j e h
 case aFP sh x y z=>exact zf (op:=.aFP sh x y z) j e h
 case insert sh x y z=>exact zf (op:=.insert sh x y z) j e h
 all_goals exact j6 j e h
theorem PY {K1 K2:PF→PH→Prop} (l:∀ F F' H,F.le F'→K1 F H→K2 F' H):∀ {ops:List aW} {F F':PF} {H:PH},F.le F'→wpOps C ops K1 F H→wpOps C ops K2 F' H
 | [],_,_,_,j,h=>l _ _ _ j h
 | ⟨d,op,none⟩::u,_,_,_,j,h=>aoW (fun _ _ _ a b=>PY l a b) j h
 | ⟨d,op,some (t,w)⟩::u,F,F',H,j,h=>by
  rw[Oo] at h ⊢;unfold xE at h;split at h
  ·rename_i b hb;rw[j t _ hb];unfold xE;simp only;split at h
   ·rename_i e; rw[if_pos e]; exact aoW (fun _ _ _ a b=>PY l a b) j h
   ·rename_i e; rw[if_neg e]; exact PY l (PF.uO j d _) h
  ·rename_i hb;rw[j t _ hb];exact PY l (PF.uO j d _) h
  ·exact h.elim
theorem Jj {Hs:PH} {S:Spec} {st:Bool} {op:POp} {K:PV→PH→Prop} (e:F.le F') (h:(op.kind F).run C Hs S st K H):(op.kind F').run C Hs S st K H:=by
 have new:∀ op:POp,(Kind.new (cX op F)).run C Hs S st K H→(Kind.new (cX op F')).run C Hs S st K H:=fun op h=>by obtain⟨N,x,j,w⟩:=h;exact⟨N,x,Ab e j,w⟩
 have calm:∀ op:POp,(Kind.calm (aO op F)).run C Hs S st K H→(Kind.calm (aO op F')).run C Hs S st K H:=fun op h=>by obtain⟨v,j,w⟩:=h;exact⟨v,Jr e j,w⟩
 have M:∀ op:POp,(Kind.write fun H K=>bZ op F H K).run C Hs S st K H→(Kind.write fun H K=>bZ op F' H K).run C Hs S st K H:=fun op h=>Ns (op:=op) e (show bZ op F H (fun r H'=>Hs.le H'∧K r H') from h);cases op
 case call n a =>obtain⟨vs,D,R,j,w⟩:=h;exact⟨vs,D,R,FZ e j,w⟩
 case aGA x a =>
  unfold POp.kind at h ⊢;simp only at h ⊢;cases A:x.ev F with
  | none=>rw[A] at h; exact h.elim
  | some u =>
   rw[A] at h;rw[cQ e A];cases u<;>simp only at h ⊢<;>first | exact h | skip
   obtain⟨vs,D,R,j,w⟩:=h;exact⟨vs,D,R,F0 e _ j,w⟩
 case insert sh x k v =>
  obtain⟨o,J,I,u,g,j,w⟩:=h;refine⟨o,J,I,u,g,?_,w⟩;cases A:x.ev F with
  | none=>simp[A] at j
  | some a =>
   cases B:k.ev F with
   | none=>simp[A,B] at j
   | some b =>
    cases E:v.ev F with
    | none=>simp[A,B,E] at j
    | some c=>rw[cQ e A,cQ e B,cQ e E]; rw[A,B,E] at j; exact j
 case box r x=>cases r<;>first | exact new (.box false x) h | exact calm (.box true x) h
 case aFC r s l z ps=>cases r<;>first | exact new (.aFC false s l z ps) h | exact calm (.aFC true s l z ps) h
 case alloc cs=>exact new (.alloc cs) h
 case aFF s b z l c=>exact new (.aFF s b z l c) h
 case aGF sh=>exact new (.aGF sh) h
 case store n x y=>exact M (.store n x y) h
 case append s b x y=>exact M (.append s b x y) h
 case aFP sh x y z=>exact M (.aFP sh x y z) h
 all_goals exact calm _ h
theorem ajH {Hs:PH} {S:Spec} {st:Bool} {i:aW} {K:PV→PH→Prop} (j:F.le F') (h:(i.kind F).run C Hs S st K H):(i.kind F').run C Hs S st K H:=by
 unfold aW.kind at h ⊢;split
 ·rename_i l;rw[l] at h;exact Jj j h
 ·rename_i t u l;rw[l] at h;simp only at h;split at h
  ·rename_i b hb;rw[j t _ hb];simp only;split at h
   ·rename_i e; rw[if_pos e]; exact Jj j h
   ·rename_i e; rw[if_neg e]; exact h
  ·rename_i hb;rw[j t _ hb];exact h
  ·exact h.elim
theorem agL {Hs:PH} {S:Spec} {K1 K2:PF→PH→Prop} (u:∀ F F' H,F.le F'→K1 F H→K2 F' H):∀ {ops:List (aW × Bool)} {F F':PF} {H:PH},Hs.le H→F.le F'→wpD C Hs S ops K1 F H→wpD C Hs S ops K2 F' H
 | [],_,_,_,_,e,h=>u _ _ _ e h
 | i::j,F,F',H,y,e,h=>by have w:(i.1.kind F).run C Hs S i.2 (fun v H'=>wpD C Hs S j K1 (F.put i.1.dst v) H') H:=h;exact ajH e (Kind.sM (sG _ _) (fun v H' l x=>agL u l (PF.uO e _ v) x) y w)
class Up (K:cG):Prop where
 up:∀ {e:kE} {F F':PF} {H:PH},F.le F'→K e F H→K e F' H
theorem CW:∀ (c:aE) {K1 K2:cG} (_:∀ e F F' H,F.le F'→K1 e F H→K2 e F' H) {F F':PF} {H:PH},F.le F'→c.wp C K1 F H→c.wp C K2 F' H
 | .skip,_,_,u,_,_,_,l,h=>u _ _ _ _ l h
 | .region ops,_,_,u,_,_,_,l,h=>PY (u .normal) l h
 | .draw ops,_,_,u,_,_,_,l,⟨Hs,S,y,J⟩=>⟨Hs,S,y,agL (u .normal) y l J⟩
 | .seq a b,K1,K2,u,_,_,_,l,h=>CW a (K1:=kL C (b.wp C) K1) (K2:=kL C (b.wp C) K2) (fun e F F' H x w=>by
   cases e with
   | normal=>exact CW b u x w
   | exit id=>exact u (.exit id) _ _ _ x w
   | ret=>exact u .ret _ _ _ x w) l h
 | .cond c a b,K1,K2,u,F,F',H,l,h=>by
  rw[aoJ] at h ⊢;unfold RY at h;split at h
  ·rename_i t U;rw[cQ l U];unfold RY;simp only;split at h
   ·rename_i e; rw[if_pos e]; exact CW a u l h
   ·rename_i e; rw[if_neg e]; exact CW b u l h
  ·exact h.elim
 | .block id c,K1,K2,u,_,_,_,l,h=>CW c (K1:=fF id K1) (K2:=fF id K2) (fun e F F' H x w=>by
   cases e with
   | normal=>exact u .normal _ _ _ x w
   | exit j =>
    rw[CZ] at w ⊢;split at w
    ·rename_i e; rw[if_pos e]; exact u .normal _ _ _ x w
    ·rename_i e; rw[if_neg e]; exact u (.exit j) _ _ _ x w
   | ret=>exact u .ret _ _ _ x w) l h
 | .loop c,K1,K2,u,F,F',H,l,⟨α,E,Hs,I,m,M,F1,K,y,J,N,O,h5⟩=>by
  obtain⟨A,k1,k2⟩:=y.up l;refine⟨α,E,Hs,I,m,M,A,K,k1,J,PF.le_trans N k2,O,fun a R=>?_⟩;refine CW c (K1:=jE E Hs I m (m a) K1) (K2:=jE E Hs I m (m a) K2) (fun e F F' H x w=>?_) PF.le_refl (h5 a R);cases e with
  | normal =>obtain⟨b,F2,H2,X,Y,Z,z4,z5⟩:=w;obtain⟨B,V,W⟩:=X.up x;exact⟨b,B,H2,V,Y,Z,PF.le_trans z4 W,z5⟩
  | exit id=>exact u (.exit id) _ _ _ x w
  | ret=>exact u .ret _ _ _ x w
 | .exit id,_,_,u,_,_,_,l,h=>u (.exit id) _ _ _ l h
 | .ret,_,_,u,_,_,_,l,h=>u .ret _ _ _ l h
instance Up.seq {K:cG} [Up K] (b:aE):Up (kL C (b.wp C) K) where
 up {e} {F} {F'} {H} hl hh:=by
  cases e with
  | normal=>exact CW b (fun e F F' H a h=>Up.up a h) hl hh
  | exit id=>exact Up.up (K:=K) (e:=.exit id) hl hh
  | ret=>exact Up.up (K:=K) (e:=.ret) hl hh
instance Up.block {K:cG} [Up K] (id:Nat):Up (fF id K) where
 up {e} {F} {F'} {H} hl hh:=by
  cases e with
  | normal=>exact Up.up (K:=K) (e:=.normal) hl hh
  | exit j =>
   rw[CZ] at hh ⊢;split at hh
   ·rename_i e; rw[if_pos e]; exact Up.up (K:=K) (e:=.normal) hl hh
   ·rename_i e; rw[if_neg e]; exact Up.up (K:=K) (e:=.exit j) hl hh
  | ret=>exact Up.up (K:=K) (e:=.ret) hl hh
instance Up.loop {K:cG} [Up K] {α:Type} (l:α→PF) (Hs:α→PH) (u:α→Prop) (m:α→Nat) (n:Nat):Up (jE l Hs u m n K) where
 up {e} {F} {F'} {H} hl hh:=by
  cases e with
  | normal =>obtain⟨b,J,H2,y,A,B,E,I⟩:=hh;obtain⟨j,w,x⟩:=y.up hl;exact⟨b,j,H2,w,A,B,PF.le_trans E x,I⟩
  | exit id=>exact Up.up (K:=K) (e:=.exit id) hl hh
  | ret=>exact Up.up (K:=K) (e:=.ret) hl hh
theorem awL {H:PH} (e:F.le F') {x:dW} {v:PV} (h:x.ev F H=some v):x.ev F' H=some v:=by
 cases x with
 | tmp t=>exact e t v h
 | cell t n =>
  cases n<;>simp only[dW.ev] at h ⊢<;>(cases j:F t with
   | none=>simp[j] at h
   | some a=>rw[e t a j,← j]; exact h)
theorem m5 {H:PH} (e:F.le F'):∀ {xs:List dW} {vs:List PV},dW.evs F H xs=some vs→dW.evs F' H xs=some vs
 | [],_,h=>h
 | x::xs,vs,h=>by
  rw[kY] at h ⊢;cases l:x.ev F H with
  | none=>simp[l] at h
  | some v =>
   cases j:dW.evs F H xs with
   | none=>simp[j] at h
   | some ws =>rw[l,j] at h;rw[awL e l,m5 e j];exact h
instance Up.ret (res:List dW) (R:PV→PH→Prop):Up (aT res R) where
 up {e} {F} {F'} {H} hl hh:=by
  cases e with
  | exit id=>exact hh
  | normal=>obtain⟨vs,j,l⟩:=hh; exact⟨vs,m5 hl j,l⟩
  | ret=>obtain⟨vs,j,l⟩:=hh; exact⟨vs,m5 hl j,l⟩
end
open Go Go.RowKit
def azB (R:PH→Prop):cG
 | .normal,_,H=>R H
 | _,_,_=>False
theorem bL.setObj {E:Env} {H:PH} {w:World} {l:Nat} {o:Obj} {x:bG} (hW:bL E H w) (u:w.heap[l]?=some o) (F:∀ c t b,o≠.cells c t b) (I:MS E w l x):bL E (H.set l x) w:=by
 refine⟨fun b cs h=>?_,fun q y h=>?_,hW.s⟩
 ·obtain⟨B,ty,A,j⟩:=hW.g b cs h;have:¬ b=l:=fun e=>by rw[e,u] at j; exact F _ _ _ (by injection j)
  refine⟨fun y J=>B y ?_,ty,A,j⟩
  rwa [aP,if_neg this] at J
 ·rw[aP] at h;split at h
  ·rename_i e;cases h;subst e;exact⟨(aKJ.1 u).1,I⟩
  ·exact hW.h q y h
section
variable {C:Ctx} {T:Tbl}
end
open Go Go.RowKit
abbrev aoT (D:Nat):Deferred:={ target:=.collected D,args:=#[] }
theorem bL.alloc {E:Env} {H:PH} {w:World} (hW:bL E H w) (o:Obj):bL E H (w.alloc o):=by
 have e:(w.alloc o).heap.size=w.heap.size+1:=World.size_alloc w o;have hb:∀ b,b<w.heap.size→(w.alloc o).heap[b]?=w.heap[b]?:=fun b hlt=>Below.heap_alloc w o b hlt;exact hW.same Om (fun b hlt _=>hb b hlt) (fun q x hq=>hb q (hW.h q x hq).1)
section
variable {C:Ctx} {T:Tbl} {ds:List Deferred} {fu:Nat}
def auZ (C:Ctx) (name:Nat) (cs:List PV) (F:PF) (H:PH) (n t:Nat) (e j:Code) (u:PH→Prop):Prop :=
 ∀ l,H l=none→aG C name (axA l::cs) (H.set l (.loop F n t e j)) (fun _ H'=>∃ H2,u H2∧H2.le H'∧H2 l=none∧H' l=some (.loop F n t e j))
end
open Go Go.RowKit
inductive aw where
 | seq (a:aE) (t:aw)
 | range (g:aN) (n t:Nat) (asg bdy:Code) (pas pbd rest:aE)
def aw.wp (C : Ctx) : aw → cG → PF → PH → Prop
  | .seq a t, K, F, H => a.wp C (kL C (t.wp C) K) F H
  | .range g n t asg bdy pas pbd rest, K, F, H => ∃ name cs KH, g.ev F = some (.fn name cs) ∧
      ((∀ (l : Nat) (x : PV) (J : PH) (J' : PH → Prop), J l = none → pas.wp C (kL C (pbd.wp C) (azB J')) (F.set t x) J →
        aaN C l [x] (J.set l (.loop F n t asg bdy)) (fun r H' => r = .bool true ∧ ∃ H2, J' H2 ∧ H2 l = none ∧ H' = H2.set l (.loop F n t asg bdy))) → auZ C name cs F H n t asg bdy KH) ∧
      ∀ H2, KH H2 → rest.wp C K F H2
namespace Tbl
variable (T:Tbl)
def tail (n:Nat):Code→Option aw
 | .seq (.rangeFunc g ps e j) l=>match T.opd g,T.code n e,T.code n j,T.code n l with
  | some y,some u,some w,some A=>match ps.toList with
   | [t]=>if t<n then some (.range y n t e j u w A) else none
   | _=>none
  | _,_,_,_=>none
 | .seq (.seq a (.block _ (.rangeFunc g ps e j))) l=>match T.code n a,T.opd g,T.code n e,T.code n j,T.code n l with
  | some x,some y,some u,some w,some A=>match ps.toList with
   | [t]=>if t<n then some (.seq x (.range y n t e j u w A)) else none
   | _=>none
  | _,_,_,_,_=>none
 | .seq a b=>match T.code n a,tail n b with
  | some x,some B=>some (.seq x B)
  | _,_=>none
 | _=>none
end Tbl
section
variable {C:Ctx} {T:Tbl} {fu:Nat}
def zt (n:Nat) (E:Env) (H:PH) (w:World) (K:cG) (Q:Exit→Act→World→Prop):Prop :=
 ∀ ds,(ds=[]∨∃ D,ds=[aoT D])→∀ e l u H' x j,eA ds n l u x→bL l H' j→Ext E H w l H' j→(∀ D,ds=[aoT D]→j.heap[D]?=some (.deferred (some []))∧H' D=none∧w.heap.size≤D)→K e u H'→Q e.out x j
theorem zt.after {n:Nat} {E u:Env} {H H':PH} {w y:World} {K:cG} {Q:Exit→Act→World→Prop} (h:zt n E H w K Q) (x:Ext E H w u H' y):zt n u H' y K Q :=
 fun ds j e A B H2 a2 M F hW J l I=>h ds j e A B H2 a2 M F hW (x.trans J) (fun D hD=>⟨(l D hD).1,(l D hD).2.1,aJC x.size (l D hD).2.2⟩) I
end
structure aaI where
 nparams:Nat
 ntmps:Nat
 body:aw
 res:List dW
namespace Tbl
variable (T:Tbl)
end Tbl
end Go.PM
namespace Go.PM
open Go
def aoM (C:Ctx) (k:Nat) (e:aaI):Prop:=∀ (args:List PV) (H:PH) (R:PV→PH→Prop),args.length≤e.ntmps→e.body.wp C (aT e.res R) (PF.args args) H→aG C k args H R
theorem aoM.go {C:Ctx} {k:Nat} {e:aaI} (r:aoM C k e) {args:List PV} {H:PH} {R:PV→PH→Prop} (h:e.body.wp C (aT e.res R) (PF.args args) H) (j:Nat.ble args.length e.ntmps=true):aG C k args H R:=r args H R (Nat.le_of_ble_eq_true j) h
end Go.PM
