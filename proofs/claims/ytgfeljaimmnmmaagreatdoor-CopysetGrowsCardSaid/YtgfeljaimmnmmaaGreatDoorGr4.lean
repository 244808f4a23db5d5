/-
  Texts of ours, joined: MkW14 MkW15 MkW16 L11W1 R2Code R2W1 R2W2 R2W3 R2W4 R2W5 R2W6 R2W7 R2W8 Jn1 Jn2 L11P1 L11W2 L11W3 Mv1 Mv2 Mv3 Mv4 L11W4 Jn3 MkW17 MkW18 L11W5 Pm37 L11W6 L11P2 L11W7 L11W8 L11W9 L11W10 L11W11 L11W12 L11. No condition.
-/
import Derived.Test.YtgfeljaimmnmmaaGreatDoorGr1
import Derived.Test.YtgfeljaimmnmmaaGreatDoorGr2
import Derived.Test.YtgfeljaimmnmmaaGreatDoorGr3
import Derived.RangeFuncRecord
set_option linter.unusedSimpArgs false
set_option linter.unusedVariables false
open Nat renaming reduceEqDiff → γ, reduceAdd → δ, reduceSub → ε, reduceMul → ζ, reduceLT → η, reduceLeDiff → θ, reduceBEq → τ
open Int renaming reduceLT → ι, reduceLE → κ, reduceEq → μ, reduceToNat → ν, reduceAdd → ξ, reduceNeg → ο, reduceBEq → ρ, reduceBNe → σ
open List renaming reduceReplicate → υ
open List renaming length_map → aXI, replicate → aXK, getElem_mem → aXM, length_append → aXN, mem_cons → aXP, range → aXQ, length_singleton → aXR, getElem?_eq_getElem → aXT, not_mem_nil → aXX, take_of_length_le → aXY, length_take → aYA, all_eq_true → aYF, getElem?_map → aYG, mem_map → aYH, getD_eq_getElem?_getD → aYK, map_append → aYN, drop_zero → aYO, getElem?_eq_some_iff → aYP, append_assoc → aYQ, take_length → aYS, getElem?_eq_none → aYT, map_cons → aYU, mem_range → aYV, getElem_of_mem → aYZ, length_cons → aZA, mem_append → aZC, range' → aZF, drop_eq_getElem_cons → aZG, getElem_map → aZH, length_drop → aZI, Sublist → aZJ, append_nil → aZK, length_set → aZM, map_nil → aZN, take_succ_eq_append_getElem → aZT, length_nil → aZV, mem_singleton → aZW, getElem?_append_right → aZY, nodup_append → aZZ, getElem?_append_left → a0C, mem_of_getElem? → a0D, take_append_drop → a0E, ext_getElem → a0K, set_append_right → a0L, getElem?_take → a0Q, drop_of_length_le → a0W, map_congr_left → a0X, set_cons_zero → a0Y, getElem_append_right → a1A
open Nat renaming gcd → aXJ, le_refl → aXL, mul_add → aXS, zero_le → aXU, lt_or_ge → aXZ, mul_assoc → aYC, zero_add → aYD, mul_comm → aYI, mul_le_mul_right → aYL, add_mul → aYM, mod_eq_of_lt → aYR, mod_lt → aYW, pow_succ → aZB, le_trans → aZD, add_assoc → aZO, add_zero → aZP, min_eq_left → aZQ, mul_le_mul_left → aZR, pos_of_ne_zero → aZU, eq_zero_or_pos → aZX, pow_pos → a0A, div_le_self → a0F, succ_mul → a0G, div_lt_iff_lt_mul → a0H, mul_le_mul → a0O, div_add_mod → a0R, div_eq_of_lt → a0S, pow_le_pow_right → a0Z
open Option renaming map_eq_some_iff → aXO, map_some → aYX, some → aZS, getD_some → a0I, bind_eq_some_iff → a0T, bind_some → a0U
open Bool renaming false_and → aXV, not_true → aXW, and_eq_true → aYB, true_and → aYE, not_false → aYJ, and_false → aYY, and_true → a0B, false_eq_true → a0N
open Array renaming replicate → aZE, length_toList → a0J, getElem?_eq_some_iff → a0M, getElem?_eq_getElem → a0P, getD_eq_getD_getElem? → a0V
open Int renaming toNat_natCast → aZL
namespace Go.PM
open Go Go.Na
abbrev kO (l:List cB):List (List PV):=l.map cB.cells
abbrev mI (l:List gR):List (List PV):=l.map gR.cells
theorem oL {rows:List (List PV)} (h:∀ r∈rows,∀ c∈r,c.oid=none):Flat rows:=Flat.of fun r l c i q s rs=>YQ (h r l c i) q s rs
theorem O2 (l:List cM):Flat (fY l):=oL fun r p c i=>by
 obtain⟨x,_,rfl⟩:=aYH.1 p;simp only[cM.cells,aXP,aXX,or_false] at i;rcases i with rfl | rfl | rfl | rfl<;>rfl
theorem O4 (l:List dK):Flat (iJ l):=oL fun r p c i=>by
 obtain⟨x,_,rfl⟩:=aYH.1 p;simp only[dK.cells,aXP,aXX,or_false] at i;rcases i with rfl | rfl | rfl | rfl<;>rfl
theorem Mo (l:List cI):Flat (jA l):=oL fun r p c i=>by
 obtain⟨x,_,rfl⟩:=aYH.1 p;simp only[cI.cells,aXP,aXX,or_false] at i;rcases i with rfl | rfl | rfl | rfl | rfl | rfl | rfl<;>rfl
theorem Mq (l:List cS):Flat (kW l):=oL fun r p c i=>by
 obtain⟨x,_,rfl⟩:=aYH.1 p;simp only[cS.cells,aXP,aXX,or_false] at i;rcases i with rfl | rfl | rfl<;>rfl
theorem aGJ (l:List gR):Flat (mI l):=oL fun r p c i=>by
 obtain⟨x,_,rfl⟩:=aYH.1 p;simp only[gR.cells,aXP,aXX,or_false] at i;rcases i with rfl | rfl<;>rfl
theorem Q9 (l:List cB):Flat (kO l):=oL fun r p c i=>by
 obtain⟨x,_,rfl⟩:=aYH.1 p;simp only[cB.cells,aXP,aXX,or_false] at i;rcases i with rfl | rfl | rfl | rfl | rfl | rfl | rfl | rfl | rfl | rfl | rfl | rfl | rfl | rfl | rfl | rfl | rfl<;>rfl
theorem U7 (l:List Nat) (mc i:Nat) {a:Nat} (h:a≤l.length):(kR l mc i a).2≤l.length:=by
 have J:=bJ l 9 (BF l (bJ l ((aD l 3 (aD l 2 a).2).1+1) (bJ l 4 (bJ l 3 (bJ l 2 h)))) (max (aD l 3 (aD l 2 a).2).1 1));have p:=bJ l mc (rL l (rL l (rL l (rL l J))));unfold kR;simp only;split
 ·split
  ·exact bJ l 2 p
  ·exact bJ l 2 p
 ·exact p
theorem wR (l:List Nat) (mc:Nat) {a:Nat} (h:a≤l.length):∀ k,(cU l mc a k).2≤l.length∧(cU l mc a k).1.length=k
 | 0=>⟨h,rfl⟩
 | k+1=>by obtain⟨i,p⟩:=wR l mc h k;exact⟨U7 l mc k i,by simp only[cU,aXN,aXR,p]⟩
theorem RU (l:List Nat) (pc:Nat) {a:Nat} (h:a≤l.length):∀ k,(dZ l pc a k).2≤l.length∧(dZ l pc a k).1.length=k
 | 0=>⟨h,rfl⟩
 | k+1=>by obtain⟨i,p⟩:=RU l pc h k;exact⟨bJ l pc i,by simp only[dZ,aXN,aXR,p]⟩
theorem Db {C:Ctx} (Lb:kT C) {l:List Nat} {v:PV} (T:Tp l v) (E:FE) (mc n a:Nat) (hn:n≤10) (ξ:0<mc) (ζ:mc≤50) (ha:a≤l.length) (x0:Int) (R U w3 w4:PV) (lw:List cM) (md:List dK) (dm:List cI) (dv:List cS) (K:bT) (F:PF) (H:PH)
  (hF:PAt E mc n 0 F) (hH:aP H (E.boxes v (.int .i64 x0) R U w3 w4 .aB .aB a) [(R,4,fY lw),(U,4,iJ md),(w3,7,jA dm),(w4,3,kW dv)])
  (hK:∀ w5 F' H',(fB E).le F'→aP H' (E.boxes v (.int .i64 x0) R U w3 w4 w5 .aB (cU l mc a n).2) (FE.lists R U w3 w4 w5 lw md dm dv (kO (cU l mc a n).1))→K (.exit 4) F' H') :
  aA.wp C (.loop EG) K F H:=by
 refine wp_loop (α:=Nat × PV × PH) (fun t=>ig E mc n t.1) (fun t=>t.2.2) (fun t=>t.1≤n∧aP t.2.2 (E.boxes v (.int .i64 x0) R U w3 w4 t.2.1 .aB (cU l mc a t.1).2) (FE.lists R U w3 w4 t.2.1 lw md dm dv (kO (cU l mc a t.1).1))) (fun t=>n-t.1) (0,.aB,H) ⟨aXU _,hH.rZ 17⟩ ?_ PH.le_refl ?_
 ·unfold ig fB
  (repeat' (first|exact PF.nil_le|refine PF.aJ ?_ ?_))<;>first|(simp only[go_sem,hF.f0,hF.f1,hF.f2,hF.f6,hF.f7,hF.f11,hF.f13,hF.f14]<;>rfl)|rfl
 rintro⟨i,w5,H0⟩ ⟨hi,hH⟩;simp only at hi hH ⊢;obtain⟨k1,k2⟩:=wR l mc ha i;have γ:cU l mc a (i+1)=((cU l mc a i).1++[(kR l mc i (cU l mc a i).2).1],(kR l mc i (cU l mc a i).2).2):=rfl;simp only[go_sem,EG,ZW,ig,fB];by_cases hlt:i<n
 ·have β:(i:Int)<(n:Nat):=Om;generalize hg:cU l mc a i=g at *
  simp only[go_sem,β];refine arU (C:=C) Lb T E mc n i g.2 k1 Om (.int .i64 x0) R U w3 w4 w5 .aB _ _ _ _ H0 ⟨by simp only[go_sem],by simp only[go_sem],by simp only[go_sem],by simp only[go_sem],by simp only[go_sem],by simp only[go_sem],by simp only[go_sem],by simp only[go_sem]⟩ hH ?_;intro p F1 H1 θ η δ;simp only at δ;have ο:kR l mc i g.2=_:=rfl;have ε:=bJ l 9 (BF l (bJ l ((aD l 3 (aD l 2 g.2).2).1+1) (bJ l 4 (bJ l 3 (bJ l 2 k1)))) (max (aD l 3 (aD l 2 g.2).2).1 1));refine arV (C:=C) Lb T E mc n i _ ε ξ ζ (.int .i64 x0) R U w3 w4 w5 lw md dm dv _ (by rw[aXI,k2]; omega) _ _ _ _ (mkT 0 1) _ _ _ p _ F1 H1 θ η δ ?_;intro sp f b ms w J F2 H2 B' ι hw κ;obtain⟨o,rfl⟩:=hw;have hP:kR l mc i g.2=(⟨[112]++bQ i,(1+(aD l 2 g.2).1:Nat),((aD l 3 (aD l 2 g.2).2).1:Nat),(1+(aD l 2 g.2).1+(aD l ((aD l 3 (aD l 2 g.2).2).1+1) (aD l 4 (aD l 3 (aD l 2 g.2).2).2).2).1:Nat),0,sp.1.getD 0 0,sp.1.getD 1 0,sp.1.getD 2 0,sp.1.getD 3 0,ms.1,(jC l (aD l ((aD l 3 (aD l 2 g.2).2).1+1) (aD l 4 (aD l 3 (aD l 2 g.2).2).2).2).2 (max (aD l 3 (aD l 2 g.2).2).1 1)).1,mkT ((aD l 9 (jC l (aD l ((aD l 3 (aD l 2 g.2).2).1+1) (aD l 4 (aD l 3 (aD l 2 g.2).2).2).2).2 (max (aD l 3 (aD l 2 g.2).2).1 1)).2).1:Nat) 8,mkT ((1+(aD l 4 (aD l 3 (aD l 2 g.2).2).2).1:Nat):Int) 1⟩,ms.2):=rfl;rw[hP] at γ;generalize μ:(⟨[112]++bQ i,(1+(aD l 2 g.2).1:Nat),((aD l 3 (aD l 2 g.2).2).1:Nat),(1+(aD l 2 g.2).1+(aD l ((aD l 3 (aD l 2 g.2).2).1+1) (aD l 4 (aD l 3 (aD l 2 g.2).2).2).2).1:Nat),0,sp.1.getD 0 0,sp.1.getD 1 0,sp.1.getD 2 0,sp.1.getD 3 0,ms.1,(jC l (aD l ((aD l 3 (aD l 2 g.2).2).1+1) (aD l 4 (aD l 3 (aD l 2 g.2).2).2).2).2 (max (aD l 3 (aD l 2 g.2).2).1 1)).1,mkT ((aD l 9 (jC l (aD l ((aD l 3 (aD l 2 g.2).2).1+1) (aD l 4 (aD l 3 (aD l 2 g.2).2).2).2).2 (max (aD l 3 (aD l 2 g.2).2).1 1)).2).1:Nat) 8,mkT ((1+(aD l 4 (aD l 3 (aD l 2 g.2).2).2).1:Nat):Int) 1⟩:cB)=P at *
  have ν:P.aWA=ms.1:=by rw[← μ]
  obtain⟨rs,z1,z2,z3,z4,z5⟩:=κ.frz 5 rfl;have y1:=z4 0 _ (by decide) rfl;have y2:=z4 1 _ (by decide) rfl;have y3:=z4 2 _ (by decide) rfl;have y4:=z4 3 _ (by decide) rfl;have y5:=z4 4 _ (by decide) rfl;simp only at y1 y2 y3 y4 y5;have y0:=T.frz o 1 rs;obtain⟨f0,f1,f2,f6,f7,f11,f13,f14⟩:=ι;simp only[go_sem,ac,f14,wZz i];refine oo (i+1,J,H2.frz o 1 rs) z1 ⟨hlt,?_⟩ (by simp only; omega) ?_ PH.le_refl
  ·rw[γ];have eB:(E.boxes v (.int .i64 x0) R U w3 w4 J .aB ms.2).map (fun b=>(b.1,b.2.frz o 1 rs))=E.boxes v (.int .i64 x0) R U w3 w4 J .aB ms.2:=by show [(E.o,bX.rows 2 [[PV.cN o 1 rs v,.int .i64 ms.2]]),(E.o7,bX.rows 7 [[.int .i64 x0,PV.cN o 1 rs R,PV.cN o 1 rs U,PV.cN o 1 rs w3,PV.cN o 1 rs w4,PV.cN o 1 rs J,.aB]]),(E.o6,flZ)]=_;rw[y0,y1,y2,y3,y4,y5]
   have e5:(kO g.1++[tR P (.osl o 1 0 ms.1.length)]).map (fun r=>r.map (PV.cN o 1 rs))=kO (g.1++[P]):=by
    rw[aYN,Q9];have:([tR P (.osl o 1 0 ms.1.length)]:List (List PV)).map (fun r=>r.map (PV.cN o 1 rs))=[P.cells]:=by show [[PV.str P.name,.int .i64 P.k,.int .i64 P.m,.int .i64 P.aWW,.int .i64 P.s0,.int .i64 P.s1,.int .i64 P.s2,.int .i64 P.s3,.int .i64 P.s4,PV.cN o 1 rs (.osl o 1 0 ms.1.length),frs P.repair,.bool P.target.neg,aG P.target.num,aG P.target.den,.bool P.aWJ.neg,aG P.aWJ.num,aG P.aWJ.den]]=_;rw[z2,← ν];rfl
    rw[this];simp[kO]
   have eL:(FE.lists R U w3 w4 J lw md dm dv (kO g.1++[tR P (.osl o 1 0 ms.1.length)])).map (fun x=>(x.1,x.2.1,x.2.2.map fun r=>r.map (PV.cN o 1 rs)))=FE.lists R U w3 w4 J lw md dm dv (kO (g.1++[P])):=by show [(R,4,(fY lw).map _),(U,4,(iJ md).map _),(w3,7,(jA dm).map _),(w4,3,(kW dv).map _),(J,17,(kO g.1++[tR P (.osl o 1 0 ms.1.length)]).map _)]=_;rw[O2,O4,Mo,Mq,e5]
   rw[← eB,← eL];exact z5.sub (by rw[aYN]; exact List.sublist_append_left ..) (aZJ.refl _)
  ·(repeat' (first|exact PF.nil_le|refine PF.aJ ?_ ?_))<;>first|(simp only[go_sem,f0,f1,f2,f6,f7,f11,f13]<;>rfl)|rfl
 ·have β:¬ (i:Int)<(n:Nat):=Om;have:i=n:=Om;subst this;simp only[go_sem,β];exact hK w5 _ _ (OT Sq Sq Sq Sq Sq) hH
theorem Jt {C:Ctx} (Lb:kT C) {l:List Nat} {v:PV} (T:Tp l v) (E:FE) (pc n a:Nat) (hn:n≤60) (η:pc≤50) (ha:a≤l.length) (ext w1 w2 w3 w4 p:PV) (pr:List cB) (ζ:pr.length=pc) (L:List LI) (K:bT) (F:PF) (H:PH)
  (hF:(((fB E).set 18 (.int .i64 n)).set 19 (.int .i64 0)).le F) (U:aP H (E.boxes v ext w1 w2 w3 w4 p .aB a) ((p,17,kO pr)::L))
  (hK:∀ R F' H',(fB E).le F'→aP H' (E.boxes v ext w1 w2 w3 w4 p R (dZ l pc a n).2) ((p,17,kO pr)::L++[(R,2,mI (dZ l pc a n).1)])→K (.exit 8) F' H') :
  aA.wp C (.loop EH) K F H:=by
 refine wp_loop (α:=Nat × PV × PH) (fun t=>((fB E).set 18 (.int .i64 n)).set 19 (.int .i64 t.1)) (fun t=>t.2.2) (fun t=>t.1≤n∧aP t.2.2 (E.boxes v ext w1 w2 w3 w4 p t.2.1 (dZ l pc a t.1).2) ((p,17,kO pr)::L++[(t.2.1,2,mI (dZ l pc a t.1).1)])) (fun t=>n-t.1) (0,.aB,H) ⟨aXU _,U.rZ 2⟩ hF PH.le_refl ?_;rintro⟨i,R,H0⟩ ⟨hi,U⟩;simp only at hi U ⊢;obtain⟨k1,k2⟩:=RU l pc ha i;have β:dZ l pc a (i+1)=((dZ l pc a i).1++[⟨[118]++bQ i,((aD l pc (dZ l pc a i).2).1:Nat)⟩],(aD l pc (dZ l pc a i).2).2):=rfl;simp only[go_sem,EH,al,fB];by_cases hlt:i<n
 ·have J:(i:Int)<(n:Nat):=Om;generalize hg:dZ l pc a i=g at *
  have h1:=U.set 0 rfl (bG v (aD l pc g.2).2);generalize δ:aD l pc g.2=z at *
  have b1:=U.at 1 rfl;have lw:=(U.own 0 rfl).qX;rw[aXI,ζ] at lw;have γ:(PH.nil.set E.o7 (flB ext w1 w2 w3 w4 p R)).le H0:=PH.aJ PH.nil_le b1;simp only[go_sem,J];refine cJ (PH.nil.set E.o7 (flB ext w1 w2 w3 w4 p R)) (mkS l v) γ ?_;simp only[go_sem,ao];refine CO Lb.tooX (s:=[118]) (n:=i) (by decide) Om rfl γ ?_;simp only[go_sem,lw];refine pO Lb.toxC T (o:=E.o) (n:=pc) (a:=g.2) Om k1 rfl (U.at 0 rfl) ?_ ?_
  ·rw[δ]; exact PH.aJ PH.nil_le (h1.at 1 rfl)
  rw[δ];have ε:(1:Nat)*2≤16777216:=by decide
  simp only[go_sem,ε,aXP,aXX,or_false,forall_eq,forall_eq_or_imp];refine h1.append (v:=R) (s:=2) (rows:=mI g.1) (L.length+1) (src:=[(⟨[118]++bQ i,(z.1:Nat)⟩:gR).cells]) (by simp) rfl (by unfold roomFor; rw[aXI]; simp only[aXR,maxLen]; omega) fun w' H2 h5 hw=>?_;obtain⟨q,rfl⟩:=hw (by simp);rw[show ((p,17,kO pr)::L++[(R,2,mI g.1)])=((p,17,kO pr)::L)++[(R,2,mI g.1)] from rfl,a0L _ _ (by simp),show L.length+1-((p,17,kO pr)::L).length=0 by simp] at h5;have b2:=h5.at 1 rfl;refine⟨PH.aJ PH.nil_le b2,?_⟩;refine cJ .nil eU PH.nil_le ?_;simp only[go_sem,ap,b2,aXP,aXX,or_false,forall_eq];have h6:=h5.set 1 rfl (flB ext w1 w2 w3 w4 p (.osl q 2 0 (mI g.1++[(⟨[118]++bQ i,(z.1:Nat)⟩:gR).cells]).length));refine⟨PH.nil_le,?_⟩;simp only[go_sem,au,wZz i];refine aM (i+1,.osl q 2 0 (mI g.1++[(⟨[118]++bQ i,(z.1:Nat)⟩:gR).cells]).length,_) ⟨hlt,?_⟩ (by simp only; omega) ?_ PH.le_refl
  ·rw[β];have e:mI (g.1++[⟨[118]++bQ i,(z.1:Nat)⟩])=mI g.1++[(⟨[118]++bQ i,(z.1:Nat)⟩:gR).cells]:=by simp[mI]
   simp only;rw[e];exact h6
  ·exact Lq
 ·have J:¬ (i:Int)<(n:Nat):=Om;have:i=n:=Om;subst this;simp only[go_sem,J];exact hK R _ _ (OT rfl rfl rfl rfl rfl) U
def AN (l:List Nat) (v:PV) (o aVZ aWB a:Nat) (r:PV) (H:PH):Prop:=Co r (.agg (fC l aVZ aWB a).1.cells)∧H=PH.nil.set o (bG v (fC l aVZ aWB a).2)
structure VW (C:Ctx):Prop extends kT C where
 grow:∀ (l:List Nat) (v:PV),Tp l v→∀ (mc aVZ:Nat),0<mc→mc≤1000→aVZ≤60→VU C l v mc aVZ 4
theorem pd {C:Ctx} (Lb:VW C) {l:List Nat} {v:PV} (T:Tp l v) (o aVZ aWB a:Nat) (c':aVZ≤60) (h':aWB≤50) (ha:a≤l.length) :
  zB.wp C (aW KN.res (AN l v o aVZ aWB a)) (PF.args [.ptr o 2 0 0,.int .i64 aVZ,.int .i64 aWB]) (PH.nil.set o (bG v a)):=by
 have hT:fC l aVZ aWB a=fC l aVZ aWB a:=rfl
 conv at hT=>rhs; unfold fC
 dsimp only at hT;have hR:∀ r H,AN l v o aVZ aWB a r H↔Co r (.agg (fC l aVZ aWB a).1.cells)∧H=PH.nil.set o (bG v (fC l aVZ aWB a).2):=fun _ _=>Iff.rfl;have ne:=bZ l (show 0<2 by decide) a;have ae:=bJ l 2 ha;generalize he:aD l 2 a=e at *
 have i':=bZ l (show 0<2 by decide) e.2;have ρ:=bJ l 2 ae;generalize d':aD l 2 e.2=lw at *
 obtain⟨ε,ξ⟩:=DY l ρ (1+lw.1);generalize κ:fP l lw.2 (1+lw.1)=aWG at *
 have j':=bZ l (show 0<2 by decide) aWG.2;have σ:=bJ l 2 ε;generalize e':aD l 2 aWG.2=p at *
 obtain⟨ζ,ι⟩:=uO l (1+lw.1) σ (1+p.1);generalize θ:dX l (1+lw.1) p.2 (1+p.1)=aWA at *
 have χ:GOk l aVZ ⟨[jE],[],aWA.2⟩:=⟨by simp,aXU _,ζ⟩;obtain⟨hG,-⟩:=DM (mc:=1+p.1) 4 0 χ;generalize hg:dV l (1+p.1) aVZ 4 0 ⟨[jE],[],aWA.2⟩=g at *
 have k':=bZ l (show 0<2 by decide) g.a;have τ:=bJ l 2 hG.a;generalize g':aD l 2 g.a=pl at *
 obtain⟨η,ο⟩:=wR l (1+p.1) τ (1+pl.1);generalize μ:cU l (1+p.1) pl.2 (1+pl.1)=pols at *
 have l':=bZ l (Om:0<aWB+1) pols.2;have Λ:=bJ l (aWB+1) η;generalize Δ:aD l (aWB+1) pols.2=vo at *
 generalize ν:dZ l (1+pl.1) vo.2 vo.1=vols at *
 have ee:IntKind.i64.wrap (1+(e.1:Int))=((1+e.1:Nat):Int):=by rw[wrap_i64 Om Om]; omega
 have Ξ:IntKind.i64.wrap (1+(lw.1:Int))=((1+lw.1:Nat):Int):=by rw[wrap_i64 Om Om]; omega
 have Φ:IntKind.i64.wrap (1+(p.1:Int))=((1+p.1:Nat):Int):=by rw[wrap_i64 Om Om]; omega
 have Ψ:IntKind.i64.wrap (1+(pl.1:Int))=((1+pl.1:Nat):Int):=by rw[wrap_i64 Om Om]; omega
 have Ω:IntKind.i64.wrap ((aWB:Int)+1)=((aWB+1:Nat):Int):=cP Om;have h0:aP (PH.nil.set o (bG v a)) [(o,bG v a)] []:=aP.nil.new (H:=PH.nil) rfl (bG v a);simp only[go_sem,zB,pe,KN];refine aT fun o6 ψ=>?_;have J:=h0.new ψ flZ;simp only[go_sem,pi];refine cR Lb.toxC T (o:=o) (n:=2) (a:=a) (by decide) ha rfl (J.at 0 rfl) ?_;have U:=J.set 0 rfl (bG v e.2);rw[he];simp only[go_sem,ee];refine aT fun o7 ω=>?_;have h3:=U.new ω (flB (.int .i64 (1+e.1:Nat)) .aB .aB .aB .aB .aB .aB);simp only[go_sem,pj,aXP,aXX,or_false,forall_eq,forall_eq_or_imp];refine cR Lb.toxC T (o:=o) (n:=2) (a:=e.2) (by decide) ae rfl (h3.at 0 rfl) ?_;have h4:=h3.set 0 rfl (bG v lw.2);rw[d'];have h5:=h4.perm (B':=FE.boxes ⟨o,o6,o7,aVZ,aWB⟩ v (.int .i64 (1+e.1:Nat)) .aB .aB .aB .aB .aB .aB lw.2) (L':=[]) (List.Perm.cons _ (List.Perm.swap _ _ _)) (List.Perm.refl _);obtain⟨E,i⟩:∃ E:FE,E=⟨o,o6,o7,aVZ,aWB⟩:=⟨_,rfl⟩;rw[← i] at h5;simp only[go_sem,Ξ,pn];refine arT (C:=C) Lb.tokT T E (1+lw.1) lw.2 Om ρ _ _ _ _ ?_ h5 ?_
 ·rw[i];unfold fB;exact Lq
 clear h5 h4 h3 U J h0 ψ ω;intro R F1 H1 β J;rw[κ] at J;have f0:F1 0=some (.ptr o 2 0 0):=β 0 _ (by rw[i]; unfold fB; simp only[go_sem]);have f1:F1 1=some (.int .i64 aVZ):=β 1 _ (by rw[i]; unfold fB; simp only[go_sem]);have f2:F1 2=some (.int .i64 aWB):=β 2 _ (by rw[i]; unfold fB; simp only[go_sem]);have f6:F1 6=some (.ptr o6 7 0 0):=β 6 _ (by rw[i]; unfold fB; simp only[go_sem]);have f7:F1 7=some (.ptr o7 7 0 0):=β 7 _ (by rw[i]; unfold fB; simp only[go_sem]);have q0:=J.at 0 rfl;rw[i] at q0;simp only[go_sem,ZM,f0];refine cR Lb.toxC T (o:=o) (n:=2) (a:=aWG.2) (by decide) ε rfl q0 ?_;have U:=J.set 0 rfl (bG v p.2);rw[e'];simp only[go_sem,Φ,ZN];refine Uj (C:=C) Lb.tokT T E (1+p.1) p.2 (1+lw.1) Om Om σ (.int .i64 (1+e.1:Nat)) R aWG.1 ξ _ _ _ ?_ (by rw[i] at U ⊢; exact U) ?_
 ·rw[i];unfold fB;exact Lq
 clear q0 U J f0 f1 f2 f6 f7 β;intro w2 F2 H2 γ f11 U;rw[θ] at U;have f0:F2 0=some (.ptr o 2 0 0):=γ 0 _ (by rw[i]; unfold fB; simp only[go_sem]);have f1:F2 1=some (.int .i64 aVZ):=γ 1 _ (by rw[i]; unfold fB; simp only[go_sem]);have f2:F2 2=some (.int .i64 aWB):=γ 2 _ (by rw[i]; unfold fB; simp only[go_sem]);have f6:F2 6=some (.ptr o6 7 0 0):=γ 6 _ (by rw[i]; unfold fB; simp only[go_sem]);have f7:F2 7=some (.ptr o7 7 0 0):=γ 7 _ (by rw[i]; unfold fB; simp only[go_sem]);obtain⟨qm,Γ⟩:=(U.own 1 rfl).one (by rw[aXI]; omega);rw[aXI,ι] at Γ;subst Γ;have a':(1:Nat)*7≤16777216:=by decide
 simp only[go_sem,ZS];refine aC (Lb.int 0 (by unfold dC; omega)) rfl ?_;simp only[go_sem,aXP,aXX,or_false,forall_eq,forall_eq_or_imp,a'];refine aT fun od f'=>?_;have h3:=U.asE (s:=7) (rows:=jA [jE]) f';have b7:=U.at 1 rfl;rw[i] at b7;have n7:¬ o7=od:=by have:=h3.neL 1 2 rfl rfl rfl;rw[i] at this; exact this
 simp only[go_sem,f7,b7,n7,aXP,aXX,or_false,forall_eq];have h4:=(h3.set 1 rfl (flB (.int .i64 (1+e.1:Nat)) R (.osl qm 4 0 (1+p.1)) (.osl od 7 0 1) .aB .aB .aB)).rZ 3;rw[i] at h4;have h5:=h4.perm (B':=(GE.mk o o7 qm (.int .i64 (1+e.1:Nat)) R .aB .aB).boxes v (1+p.1) (.osl od 7 0 1) .aB aWA.2++[(o6,flZ)]) (L':=kN ⟨[jE],[],aWA.2⟩ (.osl od 7 0 1) .aB++[(R,4,fY aWG.1),(.osl qm 4 0 (1+p.1),4,iJ aWA.1)]) (List.Perm.refl _)
  (List.perm_append_comm (l₁:=[(R,4,fY aWG.1),(.osl qm 4 0 (1+p.1),4,iJ aWA.1)]) (l₂:=kN ⟨[jE],[],aWA.2⟩ (.osl od 7 0 1) .aB))
 simp only[go_sem,ZT,f0,f1,f7];refine AM h5 (fun H0 b'=>Lb.grow l v T (1+p.1) aVZ Om Om c' (GE.mk o o7 qm (.int .i64 (1+e.1:Nat)) R .aB .aB) (.osl od 7 0 1) .aB ⟨[jE],[],aWA.2⟩ 0 jE χ rfl rfl H0 b') (by simp only[go_sem,f0,f1,f7]; rfl) ?_;rintro r B' L' H3 ⟨rfl,w3,w4,rfl,rfl⟩ h6;rw[hg] at h6;have h7:=h6.perm (B':=E.boxes v (.int .i64 (1+e.1:Nat)) R (.osl qm 4 0 (1+p.1)) w3 w4 .aB .aB g.a) (L':=[(R,4,fY aWG.1),(.osl qm 4 0 (1+p.1),4,iJ aWA.1),(w3,7,jA g.aWI),(w4,3,kW g.aWR)]) (by rw[i]; exact List.Perm.refl _)
  (List.perm_append_comm (l₁:=kN g w3 w4) (l₂:=[(R,4,fY aWG.1),(.osl qm 4 0 (1+p.1),4,iJ aWA.1)]))
 have q0:=h7.at 0 rfl;rw[i] at q0;simp only[go_sem,ZU,f0];refine cR Lb.toxC T (o:=o) (n:=2) (a:=g.a) (by decide) hG.a rfl q0 ?_;have h8:=h7.set 0 rfl (bG v pl.2);rw[g'];simp only[go_sem,Ψ,ZV];refine Db (C:=C) Lb.tokT T E (1+p.1) (1+pl.1) pl.2 Om Om Om τ ((1+e.1:Nat):Int) R (.osl qm 4 0 (1+p.1)) w3 w4 aWG.1 aWA.1 g.aWI g.aWR _ _ _ (by rw[i]; exact⟨by simp only[go_sem,f0],by simp only[go_sem,f1],by simp only[go_sem,f2],by simp only[go_sem,f6],by simp only[go_sem,f7],by simp only[go_sem,f11],by simp only[go_sem],by simp only[go_sem]; rfl⟩) (by rw[i] at h8 ⊢; exact h8) ?_;clear h8 h7 h6 h5 h4 h3 U q0 b7 f0 f1 f2 f6 f7 γ;intro w5 F4 H4 δ J;rw[μ] at J;have f0:F4 0=some (.ptr o 2 0 0):=δ 0 _ (by rw[i]; unfold fB; simp only[go_sem]);have f1:F4 1=some (.int .i64 aVZ):=δ 1 _ (by rw[i]; unfold fB; simp only[go_sem]);have f2:F4 2=some (.int .i64 aWB):=δ 2 _ (by rw[i]; unfold fB; simp only[go_sem]);have f6:F4 6=some (.ptr o6 7 0 0):=δ 6 _ (by rw[i]; unfold fB; simp only[go_sem]);have f7:F4 7=some (.ptr o7 7 0 0):=δ 7 _ (by rw[i]; unfold fB; simp only[go_sem]);have q0:=J.at 0 rfl;rw[i] at q0;simp only[go_sem,ai,f0,f2,Ω];refine cR Lb.toxC T (o:=o) (n:=aWB+1) (a:=pols.2) Om η rfl q0 ?_;have U:=J.set 0 rfl (bG v vo.2);rw[Δ];have h3:=U.perm (B':=E.boxes v (.int .i64 (1+e.1:Nat)) R (.osl qm 4 0 (1+p.1)) w3 w4 w5 .aB vo.2) (L':=(w5,17,kO pols.1)::[(R,4,fY aWG.1),(.osl qm 4 0 (1+p.1),4,iJ aWA.1),(w3,7,jA g.aWI),(w4,3,kW g.aWR)]) (List.Perm.refl _)
  (List.perm_append_comm (l₁:=[(R,4,fY aWG.1),(.osl qm 4 0 (1+p.1),4,iJ aWA.1),(w3,7,jA g.aWI),(w4,3,kW g.aWR)]) (l₂:=[(w5,17,kO pols.1)]))
 simp only[go_sem,aj];refine Jt (C:=C) Lb.tokT T E (1+pl.1) vo.1 vo.2 Om Om Λ _ _ _ _ _ w5 pols.1 ο _ _ _ _ ?_ (by rw[i] at h3 ⊢; exact h3) ?_
 ·rw[i];unfold fB;exact Lq
 clear h3 U J q0 f0 f1 f2 f6 f7 δ;intro w6 F5 H5 υ J;rw[ν] at J;have f6:F5 6=some (.ptr o6 7 0 0):=υ 6 _ (by rw[i]; unfold fB; simp only[go_sem]);have f7:F5 7=some (.ptr o7 7 0 0):=υ 7 _ (by rw[i]; unfold fB; simp only[go_sem]);rw[i] at J;have b7:=J.at 1 rfl;have b6:=J.at 2 rfl;have one:∀ (x:PV),x∈[R,w3,w4,w5,w6]→(∃ q s n,x=.osl q s 0 n)∨x=.aB:=by
  intro x hx;have key:∀ {s:Nat} {rows:List (List PV)},bO H5 s x rows→(∃ q s n,x=.osl q s 0 n)∨x=.aB:=by
   rintro s rows (⟨_,h⟩ | ⟨q,rs,h,_⟩)
   ·exact .inr h
   ·exact .inl ⟨q,s,_,h⟩
  simp only[aXP,aXX,or_false] at hx;rcases hx with rfl | rfl | rfl | rfl | rfl
  ·exact key (J.own 1 rfl)
  ·exact key (J.own 3 rfl)
  ·exact key (J.own 4 rfl)
  ·exact key (J.own 0 rfl)
  ·exact key (J.own 5 rfl)
 have α:∀ (x:PV),x∈[R,w3,w4,w5,w6]→PV.one x=true:=fun x hx=>by rcases one x hx with ⟨q,s,n,rfl⟩ | rfl<;>rfl
 have o1:=α R (by simp);have o3:=α w3 (by simp);have o4:=α w4 (by simp);have o5:=α w5 (by simp);have Θ:=α w6 (by simp);simp only[PV.one] at o1 o3 o4 o5 Θ;simp only[go_sem,av,f6,f7,b7,b6,aXP,aXX,or_false,forall_eq,forall_eq_or_imp,o1,o3,o4,o5,Θ];have U:=J.set 2 rfl (flB (.int .i64 (1+e.1:Nat)) R (.osl qm 4 0 (1+p.1)) w3 w4 w5 w6);have h3:=U.sub (B':=[(o,bG v vols.2)]) (aZJ.cons_cons _ (List.nil_sublist _)) (aZJ.refl _);obtain⟨φ,H6,k1,k2,k3,k4⟩:=aP.giveUp _ h3 (fun x hx=>by
  simp only[List.cons_append,List.nil_append,aXP,aXX,or_false] at hx;rcases hx with rfl | rfl | rfl | rfl | rfl | rfl
  ·exact Q9 _
  ·exact O2 _
  ·exact O4 _
  ·exact Mo _
  ·exact Mq _
  ·exact aGJ _) (fun b hb q s rs=>by
  simp only[aXP,aXX,or_false] at hb;subst hb;simp only[bX.frz,aYU,aZN,T.frz];rfl)
 refine BG (vs:=[.agg [.int .i64 (1+e.1:Nat),R,.osl qm 4 0 (1+p.1),w3,w4,w5,w6]]) (.inr rfl) (by simp only[go_sem,f6]) (k4 _ _ (.done (H2:=PH.nil.set o (bG v vols.2)) ?_ (PH.aJ PH.nil_le (k3.at 0 rfl))));rw[hR,hT];refine⟨CoL.agg ?_,rfl⟩;have s5:=k1 (w5,17,kO pols.1) (by simp);have s1:=k1 (R,4,fY aWG.1) (by simp);have s2:=k1 (.osl qm 4 0 (1+p.1),4,iJ aWA.1) (by simp);have s3:=k1 (w3,7,jA g.aWI) (by simp);have s4:=k1 (w4,3,kW g.aWR) (by simp);have s6:=k1 (w6,2,mI vols.1) (by simp);have s0:φ (.int .i64 (1+e.1:Nat))=.int .i64 (1+e.1:Nat):=k2 _ rfl;show CoL [φ (.int .i64 (1+e.1:Nat)),φ R,φ (.osl qm 4 0 (1+p.1)),φ w3,φ w4,φ w5,φ w6] _;rw[s0];exact CoL.cons (.refl _) (CoL.cons s1.co (CoL.cons s2.co (CoL.cons s3.co (CoL.cons s4.co (CoL.cons s5.co (CoL.cons s6.co .nil))))))
structure v8 (C:Ctx):Prop extends VW C where
 new:∀ (l:List Nat),(∀ x∈l,x<256)→l.length≤9223372036854775807→aH C 28 [.sl 1 (jG l)] .nil (Sw l)
 fleet:∀ (l:List Nat) (v:PV),Tp l v→∀ (o aVZ aWB a:Nat),aVZ≤60→aWB≤50→a≤l.length →
  aH C 0 [.ptr o 2 0 0,.int .i64 aVZ,.int .i64 aWB] (PH.nil.set o (bG v a)) (fun r H=>r=.agg (fC l aVZ aWB a).1.cells∧H=PH.nil.set o (bG v (fC l aVZ aWB a).2))
theorem AN.exact {C:Ctx} {name:Nat} {args:List PV} {H:PH} {l:List Nat} {v:PV} {o aVZ aWB a:Nat} (h:aH C name args H (AN l v o aVZ aWB a)):aH C name args H (fun r H=>r=.agg (fC l aVZ aWB a).1.cells∧H=PH.nil.set o (bG v (fC l aVZ aWB a).2)) :=
 h.post fun r H' i=>⟨_,i.1,rfl,i.2⟩
theorem acN {C:Ctx} (R:v8 C) (l:List Nat) (hb:∀ x∈l,x<256) (hl:l.length≤9223372036854775807) (aVZ aWB:Nat) (i:aVZ≤60) (J:aWB≤50) :
  zA.wp C (aW KJ.res (cG (.agg (fC (l.take 400) aVZ aWB 0).1.cells))) (PF.args [.sl 1 (jG l),.int .i64 aVZ,.int .i64 aWB]) .nil:=by
 simp only[go_sem,zA,ot,KJ];refine aT fun o6 α=>?_;simp only[go_sem,ov];refine lF (R.new l hb hl) rfl PH.nil_le ?_;rintro r H' ⟨o,v,rfl,T,rfl⟩ U;have p:¬ o6=o:=by intro e;subst e;have:=U o6 (bG v 0) (by rw[aQ,if_pos rfl]) rfl;rw[aQ,if_pos rfl] at this;cases this
 rw[PH.nK];simp only[go_sem];refine lI (R.fleet _ v T o aVZ aWB 0 i J (aXU _)) (by rw[aQ,if_pos rfl]) rfl ?_;simp only[go_sem,p];exact bB (vs:=[.agg (fC (l.take 400) aVZ aWB 0).1.cells]) (.inr rfl) .nil Sq PH.nil_le ⟨.refl _,rfl⟩
theorem CoL.aQV:CoL [] []:=⟨rfl,fun j p q h=>by simp at h⟩
theorem CoL.Tl {p q:PV} {ps l:List PV} (h:Co p q) (i:CoL ps l):CoL (p::ps) (q::l):=by
 refine⟨by simp[i.len],fun j x y a b=>?_⟩;cases j with
 | zero =>simp only[List.getElem?_cons_zero,aZS.injEq] at a b;subst a; subst b; exact h
 | succ j=>exact i.at_ j x y (by simpa using a) (by simpa using b)
theorem aH.seen {C:Ctx} {name:Nat} {args:List PV} {H:PH} {v:PV} (h:aH C name args H (cG v)):aH C name args H (aL v) :=
 h.post fun r H' i=>⟨v,i.1,rfl,i.2⟩
def PC (x:RF):Bool:=(x.num.all (fun n=>decide (n<4294967296))&&x.den.all fun n=>decide (n<4294967296))&&(decide (x.num.length≤9)&&decide (x.den.length≤9))
theorem FZ {x:RF} (h:PC x=true):x.Ok:=by
 simp only[PC,aYB,aYF,decide_eq_true_eq] at h;exact⟨h.1.1,h.1.2,by omega,by omega⟩
def BH (l:List RF):Bool:=decide (l.length≤9)&&l.all PC
theorem yB {l:List RF} (h:BH l=true):mJ l:=by
 simp only[BH,aYB,aYF,decide_eq_true_eq] at h;exact⟨by unfold Fits; omega,fun x i=>FZ (h.2 x i)⟩
def Cq (x:cM):Bool:=(BH x.start&&BH x.exit)&&(decide (x.aWE.length≤9)&&x.aWE.all BH)
theorem abX {x:cM} (h:Cq x=true):x.Ok:=by
 simp only[Cq,aYB,aYF,decide_eq_true_eq] at h;exact⟨yB h.1.1,yB h.1.2,by unfold Fits; omega,fun r i=>yB (h.2.2 r i)⟩
def F8 (x:cB):Bool:=(decide (dC x.k∧dC x.m∧dC x.aWW)&&(decide (x.aWA.length≤9)&&x.aWA.all fun m=>decide (dC m)))&&(BH x.repair&&(PC x.target&&PC x.aWJ))
theorem adZ {x:cB} (h:F8 x=true):x.Ok:=by
 simp only[F8,aYB,aYF,decide_eq_true_eq] at h;exact⟨h.1.1.1,h.1.1.2.1,h.1.1.2.2,by unfold Fits; omega,h.1.2.2,yB h.2.1,FZ h.2.2.1,FZ h.2.2.2⟩
def okB (f:aK):Bool:=(decide (f.aWG.length≤99∧f.aWA.length≤99∧f.aWC.length≤99∧f.aVZ.length≤99∧f.aWD.length≤99∧f.aWB.length≤99)&&(f.aWG.all Cq&&f.aWD.all F8)) &&
 (f.aWC.all (fun x=>PC x.aWN&&decide (dC x.level∧dC x.parent))&&(f.aVZ.all (fun x=>decide (dC x.model∧dC x.machine))&&f.aWB.all fun x=>decide (dC x.aWK)))
theorem aJU {f:aK} (h:okB f=true):f.Ok:=by
 simp only[okB,aYB,aYF,decide_eq_true_eq] at h;obtain⟨⟨⟨U,l2,l3,l4,l5,l6⟩,p,J⟩,l,R,h5⟩:=h;exact⟨by unfold Fits; omega,by unfold Fits; omega,by unfold Fits; omega,by unfold Fits; omega,by unfold Fits; omega,by unfold Fits; omega,fun x i=>abX (p x i),fun x i=>⟨FZ (l x i).1,(l x i).2⟩,R,fun x i=>adZ (J x i),h5⟩
def tc:Rg:=[iZ 4]
def td:Rg:=[iZ 5]
def te:Rg:=[iA 6 (.mv (.const (.int .u64 0)))]
def tf:Rg:=[iI 7 0]
def tg:Rg:=[iM 10 7,iM 11 0,iN 12 11,iB 13 .lss 10 12]
def th:Rg:=[iM 16 6,iM 8 16]
def ti:Rg:=[iM 17 7,iM 18 1,iN 19 18,iB 20 .lss 17 19]
def tj:Rg:=[iM 21 8,iM 22 1,iM 23 7,iX 24 1 22 23,iL 25 24,iA 26 (.conv .u64 (Tm 25)),iB 27 .add 21 26,iM 8 27]
def NL:Rg:=[iM 28 0,iM 29 7,iX 30 1 28 29,iL 31 30,iA 32 (.conv .u64 (Tm 31)),iM 9 32]
def NM:Rg:=[iA 6 (.mv (.const (.int .u64 0)))]
def GQ:Rg:=[iM 33 9,iM 34 8,iB 35 .lss 33 34]
def GR:Rg:=[iM 36 9,iA 37 (.bin .add (Tm 36) (.const (.int .u64 4294967296))),iM 9 37]
def GT:Rg:=[iA 6 (.mv (.const (.int .u64 1)))]
def uV:Rg:=[iM 38 5,iM 39 9,iM 40 8,iB 41 .sub 39 40,iA 42 (.conv .u32 (Tm 41)),iA 43 (.aWF true 1 1 [(.int .u32 0)] [(0,(Tm 42))]),iA 44 (.append 1 4 (Tm 38) (Tm 43)),iM 5 44]
def uW:Rg:=[iM 14 7,iC 15 .add 14 1,iM 7 15]
def dw:aA:=(.seq (sq tg (.cond (Tm 13) .skip (.exit 0))) (.seq (.block 1 (sq th (.seq (sq ti (.cond (Tm 20) (.region tj) .skip)) (sq NL (sq NM (.seq (sq GQ (.cond (Tm 35) (sq GR (.region GT)) .skip)) (.region uV))))))) (.region uW)))
def dx:Rg:=[iM 45 5,iK 46 38 45,iM 4 46]
def AJ:aA:=(sq tc (sq td (sq te (.seq (sq tf (.block 0 (.loop dw))) (sq dx .ret)))))
def alJ:List Nat:=[43]
def NK:aS:=⟨2,47,AJ,[.tmp 4]⟩
def Ic:Rg:=[iZ 4]
def Id:Rg:=[iZ 5]
def Ie:Rg:=[iA 6 (.mv (.const (.int .u64 0)))]
def If:Rg:=[iI 7 0]
def Ig:Rg:=[iM 9 7,iM 10 0,iN 11 10,iB 12 .lss 9 11,iM 13 12,gM 14 7 13 false,gM 15 1 13 false,gN 16 15 13 false,gB 17 .lss 14 16 13 false,iQ 18 13 17,iM 19 18,gM 20 6 19 false,iG 21 (.bin .gtr (Tm 20) (.const (.int .u64 0))) 19 false,iQ 22 19 21]
def VJ:Rg:=[iM 25 6,iM 8 25]
def VK:Rg:=[iM 26 7,iM 27 0,iN 28 27,iB 29 .lss 26 28]
def VL:Rg:=[iM 30 8,iM 31 0,iM 32 7,iX 33 1 31 32,iL 34 33,iA 35 (.conv .u64 (Tm 34)),iB 36 .add 30 35,iM 8 36]
def GX:Rg:=[iM 37 7,iM 38 1,iN 39 38,iB 40 .lss 37 39]
def GY:Rg:=[iM 41 8,iM 42 1,iM 43 7,iX 44 1 42 43,iL 45 44,iA 46 (.conv .u64 (Tm 45)),iB 47 .add 41 46,iM 8 47]
def yG:Rg:=[iM 48 5,iM 49 8,iA 50 (.conv .u32 (Tm 49)),iA 51 (.aWF true 1 1 [(.int .u32 0)] [(0,(Tm 50))]),iA 52 (.append 1 4 (Tm 48) (Tm 51)),iM 5 52]
def yH:Rg:=[iM 53 8,iA 54 (.bin .shr (Tm 53) (.const (.int .u64 32))),iM 6 54]
def yI:Rg:=[iM 23 7,iC 24 .add 23 1,iM 7 24]
def tr:aA:=(.seq (sq Ig (.cond (Tm 22) .skip (.exit 0))) (.seq (.block 1 (sq VJ (.seq (sq VK (.cond (Tm 29) (.region VL) .skip)) (.seq (sq GX (.cond (Tm 40) (.region GY) .skip)) (sq yG (.region yH)))))) (.region yI)))
def NP:Rg:=[iM 55 5,iK 56 38 55,iM 4 56]
def GW:aA:=(sq Ic (sq Id (sq Ie (.seq (sq If (.block 0 (.loop tr))) (sq NP .ret)))))
def awN:List Nat:=[51]
def d6:aS:=⟨2,57,GW,[.tmp 4]⟩
def tu:Rg:=[iZ 4]
def tv:Rg:=[iM 10 0,iN 11 10,iM 12 1,iN 13 12,iB 14 .add 11 13,iA 15 (.aWH 1 4 [(.int .u32 0)] (Tm 14) (Tm 14)),iM 5 15]
def tw:Rg:=[iI 6 0]
def tx:Rg:=[iM 16 6,iM 17 0,iN 18 17,iB 19 .lss 16 18]
def NS:Rg:=[iA 7 (.mv (.const (.int .u64 0)))]
def NT:Rg:=[iI 8 0]
def tz:Rg:=[iM 22 8,iM 23 1,iN 24 23,iB 25 .lss 22 24]
def t6:Rd:=[(iM 28 0,false),(iM 29 6,false),(iX 30 1 28 29,false),(iL 31 30,false),(iA 32 (.conv .u64 (Tm 31)),false),(iM 33 1,false),(iM 34 8,false),(iX 35 1 33 34,false),(iL 36 35,false),(iA 37 (.conv .u64 (Tm 36)),false),(iB 38 .mul 32 37,false),(iM 39 5,false),(iM 40 6,false),(iM 41 8,false),(iB 42 .add 40 41,false),(iX 43 1 39 42,false),(iL 44 43,false),(iA 45 (.conv .u64 (Tm 44)),false),(iB 46 .add 38 45,false),(iM 47 7,false),(iB 48 .add 46 47,false),(iM 9 48,false)]
def t7:Rg:=[iM 49 5,iM 50 6,iM 51 8,iB 52 .add 50 51,iM 53 9,iA 54 (.conv .u32 (Tm 53)),iX 55 1 49 52,iS 1 55 54]
def t8:Rg:=[iM 56 9,iA 57 (.bin .shr (Tm 56) (.const (.int .u64 32))),iM 7 57]
def d8:Rg:=[iM 26 8,iC 27 .add 26 1,iM 8 27]
def GZ:aA:=(.seq (sq tz (.cond (Tm 25) .skip (.exit 2))) (.seq (.block 3 (dq t6 (sq t7 (.region t8)))) (.region d8)))
def HA:Rg:=[iM 58 5,iM 59 6,iM 60 1,iN 61 60,iB 62 .add 59 61,iM 63 7,iA 64 (.conv .u32 (Tm 63)),iX 65 1 58 62,iS 1 65 64]
def d9:Rg:=[iM 20 6,iC 21 .add 20 1,iM 6 21]
def d7:aA:=(.seq (sq tx (.cond (Tm 19) .skip (.exit 0))) (.seq (.block 1 (sq NS (.seq (sq NT (.block 2 (.loop GZ))) (.region HA)))) (.region d9)))
def ef:Rg:=[iM 66 5,iK 67 38 66,iM 4 67]
def AK:aA:=(sq tu (sq tv (.seq (sq tw (.block 0 (.loop d7))) (sq ef .ret))))
def alN:List Nat:=[]
def NR:aS:=⟨2,68,AK,[.tmp 4]⟩
def aEV:Rg:=[iZ 4,iI 5 0]
def aEW:Rg:=[iM 7 0,iK 8 41 7,iM 9 8,gM 10 1 9 false,gK 11 41 10 9 false,iQ 12 9 11]
def aEX:Rg:=[iZ 4,iI 5 2]
def aEY:Rg:=[iM 13 0,iK 14 38 13,iM 15 1,iK 16 38 15,iK2 17 43 14 16,iM 6 17]
def aEZ:Rg:=[iM 18 6,iK 19 41 18]
def aFA:Rg:=[iZ 4,iI 5 2]
def aFB:Rg:=[iM 20 6,iM 4 20,iI 5 0]
def alF:aA:=(sq aEV (.seq (sq aEW (.cond (Tm 12) (sq aEX .ret) .skip)) (sq aEY (.seq (sq aEZ (.cond (Tm 19) (sq aFA .ret) .skip)) (sq aFB .ret)))))
def aFC:List Nat:=[]
def awB:aS:=⟨2,21,alF,[.tmp 4,.tmp 5]⟩
def aFQ:Rg:=[iZ 4,iI 5 0]
def aFR:Rg:=[iM 6 0,iK 7 41 6,iM 8 7,gM 9 1 8 false,gK 10 41 9 8 false,iQ 11 8 10]
def aFS:Rg:=[iZ 4,iI 5 2]
def aFT:Rg:=[iM 12 0,iM 13 1,iK2 14 32 12 13,iC 15 .lss 14 0]
def aFU:Rg:=[iZ 4,iI 5 4]
def aFV:Rg:=[iM 16 0,iK 17 38 16,iM 18 1,iK 19 38 18,iK2 20 42 17 19,iM 4 20,iI 5 0]
def alM:aA:=(sq aFQ (.seq (sq aFR (.cond (Tm 11) (sq aFS .ret) .skip)) (.seq (sq aFT (.cond (Tm 15) (sq aFU .ret) .skip)) (sq aFV .ret))))
def aFW:List Nat:=[]
def awP:aS:=⟨2,21,alM,[.tmp 4,.tmp 5]⟩
def aFG:Rg:=[iZ 4,iI 5 0]
def aFH:Rg:=[iM 7 0,iK 8 41 7,iM 9 8,gM 10 1 9 false,gK 11 41 10 9 false,iQ 12 9 11]
def aFI:Rg:=[iZ 4,iI 5 2]
def aFJ:Rg:=[iM 13 0,iK 14 38 13,iM 15 1,iK 16 38 15,iK2 17 44 14 16,iM 6 17]
def aFK:Rg:=[iM 18 6,iK 19 41 18]
def aFL:Rg:=[iZ 4,iI 5 2]
def aFM:Rg:=[iM 20 6,iM 4 20,iI 5 0]
def alK:aA:=(sq aFG (.seq (sq aFH (.cond (Tm 12) (sq aFI .ret) .skip)) (sq aFJ (.seq (sq aFK (.cond (Tm 19) (sq aFL .ret) .skip)) (sq aFM .ret)))))
def aFN:List Nat:=[]
def awH:aS:=⟨2,21,alK,[.tmp 4,.tmp 5]⟩
def G7:Rg:=[iI 2 0]
def G8:Rg:=[iM 5 0,iK 6 38 5,iM 0 6]
def G9:Rg:=[iM 7 0,iN 8 7,iC 9 .eql 8 0]
def Ha:Rg:=[iI 2 0]
def Hb:Rg:=[iM 10 0,iN 11 10,iC 12 .sub 11 1,iA 13 (.bin .mul (Ci 32) (Tm 12)),iM 3 13]
def Hc:Rg:=[iM 14 0,iM 15 0,iN 16 15,iC 17 .sub 16 1,iX 18 1 14 17,iL 19 18,iM 4 19]
def Hd:Rg:=[iM 20 4,iA 21 (.bin .gtr (Tm 20) (.const (.int .u32 0)))]
def He:Rg:=[iM 24 3,iC 25 .add 24 1,iM 3 25]
def Hf:Rg:=[iM 22 4,iA 23 (.bin .quo (Tm 22) (.const (.int .u32 2))),iM 4 23]
def G5:aA:=(.seq (sq Hd (.cond (Tm 21) .skip (.exit 0))) (.seq (.block 1 (.region He)) (.region Hf)))
def sw:Rg:=[iM 26 3,iM 2 26]
def GK:aA:=(sq G7 (sq G8 (.seq (sq G9 (.cond (Tm 9) (sq Ha .ret) .skip)) (sq Hb (.seq (sq Hc (.block 0 (.loop G5))) (sq sw .ret))))))
def awC:List Nat:=[]
def de:aS:=⟨1,27,GK,[.tmp 2]⟩
def alP:Rg:=[iZ 4]
def alQ:Rg:=[iM 9 0,iN 10 9,iC 11 .eql 10 0]
def alR:Rg:=[iZ 4]
def alS:Rg:=[iM 12 1,iC 13 .quo 12 32,iA 14 (.aWH 1 4 [(.int .u32 0)] (Tm 13) (Tm 13)),iM 5 14]
def alT:Rg:=[iA 6 (.mv (.const (.int .u64 0)))]
def alU:Rg:=[iI 7 0]
def alV:Rg:=[iM 15 7,iM 16 0,iN 17 16,iB 18 .lss 15 17]
def alW:Rg:=[iM 21 0,iM 22 7,iX 23 1 21 22,iL 24 23,iA 25 (.conv .u64 (Tm 24)),iM 26 1,iC 27 .rem 26 32,iA 28 (.conv .u64 (Tm 27)),iB 29 .shl 25 28,iM 30 6,iB 31 .or 29 30,iM 8 31]
def alX:Rg:=[iM 32 5,iM 33 8,iA 34 (.conv .u32 (Tm 33)),iA 35 (.aWF true 1 1 [(.int .u32 0)] [(0,(Tm 34))]),iA 36 (.append 1 4 (Tm 32) (Tm 35)),iM 5 36]
def alY:Rg:=[iM 37 8,iA 38 (.bin .shr (Tm 37) (.const (.int .u64 32))),iM 6 38]
def Sf:Rg:=[iM 19 7,iC 20 .add 19 1,iM 7 20]
def Se:aA:=(.seq (sq alV (.cond (Tm 18) .skip (.exit 0))) (.seq (.block 1 (sq alW (sq alX (.region alY)))) (.region Sf)))
def Sg:Rg:=[iM 39 5,iM 40 6,iA 41 (.conv .u32 (Tm 40)),iA 42 (.aWF true 1 1 [(.int .u32 0)] [(0,(Tm 41))]),iA 43 (.append 1 4 (Tm 39) (Tm 42)),iK 44 38 43,iM 4 44]
def VN:aA:=(sq alP (.seq (sq alQ (.cond (Tm 11) (sq alR .ret) .skip)) (sq alS (sq alT (.seq (sq alU (.block 0 (.loop Se))) (sq Sg .ret))))))
def aKZ:List Nat:=[35,42]
def uup:aS:=⟨2,45,VN,[.tmp 4]⟩
def Hn:Rg:=[iZ 4]
def Ho:Rg:=[iM 8 1,iC 9 .quo 8 32,iM 10 0,iN 11 10,iB 12 .geq 9 11]
def Hp:Rg:=[iZ 4]
def Hq:Rg:=[iZ 5]
def Hr:Rg:=[iM 13 1,iC 14 .quo 13 32,iM 6 14]
def Ht:Rg:=[iM 15 6,iM 16 0,iN 17 16,iB 18 .lss 15 17]
def Hu:Rg:=[iM 21 0,iM 22 6,iX 23 1 21 22,iL 24 23,iA 25 (.conv .u64 (Tm 24)),iM 7 25]
def Hv:Rg:=[iM 26 6,iC 27 .add 26 1,iM 28 0,iN 29 28,iB 30 .lss 27 29]
def Hw:Rg:=[iM 31 7,iM 32 0,iM 33 6,iC 34 .add 33 1,iX 35 1 32 34,iL 36 35,iA 37 (.conv .u64 (Tm 36)),iA 38 (.bin .shl (Tm 37) (.const (.int .u64 32))),iB 39 .or 31 38,iM 7 39]
def VH:Rg:=[iM 40 5,iM 41 7,iM 42 1,iC 43 .rem 42 32,iA 44 (.conv .u64 (Tm 43)),iB 45 .shr 41 44,iA 46 (.conv .u32 (Tm 45)),iA 47 (.aWF true 1 1 [(.int .u32 0)] [(0,(Tm 46))]),iA 48 (.append 1 4 (Tm 40) (Tm 47)),iM 5 48]
def NH:Rg:=[iM 19 6,iC 20 .add 19 1,iM 6 20]
def sx:aA:=(.seq (sq Ht (.cond (Tm 18) .skip (.exit 0))) (.seq (.block 1 (sq Hu (.seq (sq Hv (.cond (Tm 30) (.region Hw) .skip)) (.region VH)))) (.region NH)))
def sy:Rg:=[iM 49 5,iK 50 38 49,iM 4 50]
def GO:aA:=(sq Hn (.seq (sq Ho (.cond (Tm 12) (sq Hp .ret) .skip)) (sq Hq (.seq (sq Hr (.block 0 (.loop sx))) (sq sy .ret)))))
def awF:List Nat:=[47]
def dt:aS:=⟨2,51,GO,[.tmp 4]⟩
def amY:Rg:=[iA 1 (.box true (Tm 0)),iT 2 false]
def amZ:Rg:=[iF 3 2 1,iL 4 3,iK 5 38 4,iN 6 5,iC 7 .gtr 6 0,iM 8 7,gF 9 2 1 8 true,gL 10 9 8 true,gK 11 38 10 8 true,gN 12 11 8 true,gC 13 .leq 12 128 8 true,iP 14 8 13,iM 15 14,gF 16 1 1 15 true,gL 17 16 15 true,gK 18 38 17 15 true,gN 19 18 15 true,gC 20 .leq 19 128 15 true,iP 21 15 20,iM 2 21]
def La:aA:=(sq amY (sq amZ .ret))
def anA:List Nat:=[1]
def amX:aS:=⟨1,22,La,[.tmp 2]⟩
def amC:Rg:=[iA 1 (.box true (Tm 0)),iT 2 false]
def amD:Rg:=[iF 3 1 1,iL 4 3,iN 5 4,iC 6 .gtr 5 128,iM 7 6,gF 8 2 1 7 false,gL 9 8 7 false,gN 10 9 7 false,gC 11 .gtr 10 128 7 false,iQ 12 7 11,iM 2 12]
def K7:aA:=(sq amC (sq amD .ret))
def amE:List Nat:=[1]
def amB:aS:=⟨1,13,K7,[.tmp 2]⟩
def awU:Rg:=[iA 1 (.box true (Tm 0)),iA 2 (.alloc [(.bool false),.aB,.aB]),iI 3 0]
def awV:Rg:=[iO 4 3 1,iK 5 48 4]
def awW:Rg:=[iA 6 (.build [(.bool false),.aB,.aB] []),iS 3 2 6,iI 3 2]
def awX:Rg:=[iO 7 3 1,iS 3 2 7,iI 3 0]
def Xu:aA:=(sq awU (.seq (sq awV (.cond (Tm 5) (sq awW .ret) .skip)) (sq awX .ret)))
def awY:List Nat:=[1]
def azA:aS:=⟨1,8,Xu,[.cell 2 (some 3),.tmp 3]⟩
def Xx:Rg:=[iA 1 (.box true (Tm 0)),iA 2 (.alloc [(.bool false),.aB,.aB]),iI 3 0]
def Xy:Rg:=[iO 4 3 1,iK 5 56 4,iA 6 (.un .not (Tm 5))]
def Xz:Rg:=[iA 7 (.build [(.bool false),.aB,.aB] []),iS 3 2 7,iI 3 1]
def X0:Rg:=[iF 8 0 1,iL 9 8,iF 10 1 1,iL 11 10,iF 12 2 1,iL 13 12,iA 14 (.call 58 [(Tm 9),(Tm 11),(Tm 13)]),iS 3 2 14,iI 3 0]
def Iv:aA:=(sq Xx (.seq (sq Xy (.cond (Tm 6) (sq Xz .ret) .skip)) (sq X0 .ret)))
def X1:List Nat:=[1]
def Sl:aS:=⟨1,15,Iv,[.cell 2 (some 3),.tmp 3]⟩
def amT:Rg:=[iZ 4]
def amU:Rg:=[iM 8 0,iM 9 1,iK2 10 36 8 9,iM 7 10,iE 11 7 0,iE 12 7 1,iM 5 11,iM 6 12]
def amV:Rg:=[iM 13 5,iM 4 13]
def K9:aA:=(sq amT (sq amU (sq amV .ret)))
def amW:List Nat:=[]
def amS:aS:=⟨2,14,K9,[.tmp 4]⟩
def amG:Rg:=[iA 2 (.box true (Tm 0)),iA 3 (.box true (Tm 1)),iI 4 0]
def amH:Rd:=[(iF 9 1 2,false),(iL 10 9,false),(iF 11 2 3,false),(iL 12 11,false),(iK2 13 60 10 12,true),(iF 14 1 3,true),(iL 15 14,true),(iF 16 2 2,true),(iL 17 16,true),(iK2 18 60 15 17,true),(iM 5 13,false),(iM 6 18,false)]
def amI:Rg:=[iF 19 0 2,iL 20 19,iM 21 20,gM 22 5 21 true,gN 23 22 21 true,gC 24 .gtr 23 0 21 true,iP 25 21 24,iF 26 0 3,iL 27 26,iM 28 27,gM 29 6 28 true,gN 30 29 28 true,gC 31 .gtr 30 0 28 true,iP 32 28 31,iM 7 25,iM 8 32]
def amJ:Rg:=[iM 34 7,iM 35 34,gM 36 8 35 true,iG 37 (.un .not (Tm 36)) 35 true,iP 38 35 37,iM 33 38]
def amK:Rg:=[iI 4 (-1)]
def amL:Rg:=[iM 40 8,iM 41 40,gM 42 7 41 true,iG 43 (.un .not (Tm 42)) 41 true,iP 44 41 43,iM 39 44]
def amM:Rg:=[iI 4 1]
def amN:Rg:=[iM 46 7,iM 45 46]
def amO:Rg:=[iM 47 6,iM 48 5,iK2 49 32 47 48,iM 4 49]
def amP:Rg:=[iM 50 5,iM 51 6,iK2 52 32 50 51,iM 4 52]
def K8:aA:=(sq amG (dq amH (sq amI (.seq (.block 0 (sq amJ (.cond (Tm 33) (sq amK .ret) (sq amL (.cond (Tm 39) (sq amM .ret) (sq amN (.cond (Tm 45) (sq amO .ret) .skip))))))) (sq amP .ret)))))
def amQ:List Nat:=[2,3]
def amF:aS:=⟨2,53,K8,[.tmp 4]⟩
def axA:Rg:=[iA 2 (.box true (Tm 0)),iA 3 (.box true (Tm 1)),iT 4 false]
def axB:Rg:=[iO 5 3 2,iO 6 3 3,iK2 7 51 5 6,iC 8 .lss 7 0,iM 4 8]
def Xv:aA:=(sq axA (sq axB .ret))
def axC:List Nat:=[2,3]
def azB:aS:=⟨2,9,Xv,[.tmp 4]⟩
def axE:Rg:=[iA 2 (.box true (Tm 0)),iA 3 (.box true (Tm 1)),iT 4 false]
def axF:Rg:=[iO 5 3 2,iO 6 3 3,iK2 7 51 5 6,iC 8 .eql 7 0,iM 4 8]
def X2:aA:=(sq axE (sq axF .ret))
def axG:List Nat:=[2,3]
def azC:aS:=⟨2,9,X2,[.tmp 4]⟩
def axH:Rg:=[iA 1 (.box true (Tm 0)),iI 2 0]
def axI:Rd:=[(iO 3 3 1,true),(iA 4 (.call 47 [(Ci 0)]),true),(iK2 5 51 3 4,true),(iM 2 5,false)]
def X3:aA:=(sq axH (dq axI .ret))
def axJ:List Nat:=[1]
def azD:aS:=⟨1,6,X3,[.tmp 2]⟩
def aFX:Rg:=[iA 2 (.box true (Tm 0)),iA 3 (.box true (Tm 1)),iA 4 (.alloc [(.bool false),.aB,.aB]),iI 5 0]
def aFY:Rg:=[iO 15 3 2,iK 16 56 15,iA 17 (.un .not (Tm 16)),iM 18 17,gO 19 3 3 18 false,gK 20 56 19 18 false,iG 21 (.un .not (Tm 20)) 18 false,iQ 22 18 21]
def aFZ:Rg:=[iA 23 (.build [(.bool false),.aB,.aB] []),iS 3 4 23,iI 5 1]
def aGA:Rd:=[(iF 24 1 2,false),(iL 25 24,false),(iF 26 2 3,false),(iL 27 26,false),(iK2 28 60 25 27,true),(iF 29 1 3,true),(iL 30 29,true),(iF 31 2 2,true),(iL 32 31,true),(iK2 33 60 30 32,true),(iF 34 2 2,true),(iL 35 34,true),(iF 36 2 3,true),(iL 37 36,true),(iK2 38 60 35 37,true),(iM 6 28,false),(iM 7 33,false),(iM 8 38,false)]
def aGB:Rg:=[iF 39 0 2,iL 40 39,iF 41 0 3,iL 42 41,iA 43 (.eqb false (Tm 40) (Tm 42))]
def aGC:Rg:=[iM 45 6,iM 46 7,iK2 47 30 45 46,iM 44 47,iE 48 44 0,iE 49 44 1,iM 9 48,iM 10 49]
def aGD:Rg:=[iF 50 0 2,iL 51 50,iM 52 9,iM 53 8,iA 54 (.call 58 [(Tm 51),(Tm 52),(Tm 53)]),iK 55 57 54,iE 56 55 0,iE 57 55 1,iS 3 4 56,iM 5 57]
def aGE:Rg:=[iM 58 6,iM 59 7,iK2 60 32 58 59,iC 61 .geq 60 0]
def aGF:Rg:=[iM 63 6,iM 64 7,iK2 65 37 63 64,iM 62 65,iE 66 62 0,iE 67 62 1,iM 11 66,iM 12 67]
def aGG:Rg:=[iF 68 0 2,iL 69 68,iM 70 11,iM 71 8,iA 72 (.call 58 [(Tm 69),(Tm 70),(Tm 71)]),iK 73 57 72,iE 74 73 0,iE 75 73 1,iS 3 4 74,iM 5 75]
def awS:Rg:=[iM 77 7,iM 78 6,iK2 79 37 77 78,iM 76 79,iE 80 76 0,iE 81 76 1,iM 13 80,iM 14 81]
def awT:Rg:=[iF 82 0 3,iL 83 82,iM 84 13,iM 85 8,iA 86 (.call 58 [(Tm 83),(Tm 84),(Tm 85)]),iK 87 57 86,iE 88 87 0,iE 89 87 1,iS 3 4 88,iM 5 89]
def alZ:aA:=(sq aFX (.seq (sq aFY (.cond (Tm 22) (sq aFZ .ret) .skip)) (dq aGA (.seq (sq aGB (.cond (Tm 43) (sq aGC (sq aGD .ret)) .skip)) (.seq (sq aGE (.cond (Tm 61) (sq aGF (sq aGG .ret)) .skip)) (sq awS (sq awT .ret)))))))
def aGH:List Nat:=[2,3]
def aLA:aS:=⟨2,90,alZ,[.cell 4 (some 3),.tmp 5]⟩
def aGL:Rg:=[iA 2 (.alloc [(.bool false),.aB,.aB]),iI 3 0]
def aGM:Rg:=[iA 8 (.call 47 [(Ci 0)]),iA 4 (.alloc [(.bool false),.aB,.aB]),iS 3 4 8]
def aGN:Rg:=[iI 5 0]
def aGO:Rg:=[iM 9 5,iM 10 0,iN 11 10,iB 12 .lss 9 11]
def aGP:Rd:=[(iO 16 3 4,false),(iM 17 0,false),(iM 18 5,false),(iX 19 3 17 18,false),(iO 20 3 19,false),(iK2 21 46 16 20,true),(iM 15 21,false),(iE 22 15 0,false),(iE 23 15 1,true),(iA 6 (.alloc [(.bool false),.aB,.aB]),true),(iS 3 6 22,true),(iM 7 23,false)]
def aGQ:Rg:=[iM 24 7,iC 25 .neq 24 0]
def aGR:Rg:=[iA 26 (.build [(.bool false),.aB,.aB] []),iM 27 7,iS 3 2 26,iM 3 27]
def aGS:Rg:=[iO 28 3 6,iS 3 4 28]
def aGT:Rg:=[iM 13 5,iC 14 .add 13 1,iM 5 14]
def aGK:aA:=(.seq (sq aGO (.cond (Tm 12) .skip (.exit 0))) (.seq (.block 1 (dq aGP (.seq (sq aGQ (.cond (Tm 25) (sq aGR .ret) .skip)) (.region aGS)))) (.region aGT)))
def axL:Rg:=[iO 29 3 4,iS 3 2 29,iI 3 0]
def amR:aA:=(sq aGL (sq aGM (.seq (sq aGN (.block 0 (.loop aGK))) (sq axL .ret))))
def aGU:List Nat:=[]
def aLB:aS:=⟨1,30,amR,[.cell 2 (some 3),.tmp 3]⟩
def auI:Rg:=[iT 4 false]
def auJ:Rg:=[iM 5 0,iC 6 .geq 5 1,iM 7 6,gM 8 0 7 true,gC 9 .leq 8 6 7 true,iP 10 7 9,iM 11 10,gM 12 1 11 true,gC 13 .geq 12 0 11 true,iP 14 11 13,iM 15 14,gM 16 1 15 true,gC 17 .leq 16 4 15 true,iP 18 15 17,iM 19 18,gM 20 0 19 true,gM 21 1 19 true,gB 22 .add 20 21 19 true,gC 23 .leq 22 8 19 true,iP 24 19 23,iM 4 24]
def V3:aA:=(sq auI (sq auJ .ret))
def auK:List Nat:=[]
def ayZ:aS:=⟨2,25,V3,[.tmp 4]⟩
def Yi:Rg:=[iT 2 false]
def Yj:Rg:=[iM 3 0,iA 4 (.bin .geq (Tm 3) (.const (.int .u8 97))),iM 5 4,gM 6 0 5 true,iG 7 (.bin .leq (Tm 6) (.const (.int .u8 122))) 5 true,iP 8 5 7,iM 9 8,gM 10 0 9 false,iG 11 (.bin .geq (Tm 10) (.const (.int .u8 65))) 9 false,gM 12 11 9 false,gM 13 0 12 true,iG 14 (.bin .leq (Tm 13) (.const (.int .u8 90))) 12 true,iG 15 (.pick (Tm 12) (Tm 14) (.const (.bool false))) 9 false,iQ 16 9 15,iM 2 16]
def I3:aA:=(sq Yi (sq Yj .ret))
def Yk:List Nat:=[]
def So:aS:=⟨1,17,I3,[.tmp 2]⟩
def anC:Rg:=[iT 2 false]
def anD:Rg:=[iM 3 0,iA 4 (.bin .geq (Tm 3) (.const (.int .u8 48))),iM 5 4,gM 6 0 5 true,iG 7 (.bin .leq (Tm 6) (.const (.int .u8 57))) 5 true,iP 8 5 7,iM 2 8]
def Lc:aA:=(sq anC (sq anD .ret))
def anE:List Nat:=[]
def anB:aS:=⟨1,9,Lc,[.tmp 2]⟩
def X4:Rg:=[iT 2 false]
def X5:Rg:=[iM 3 0,iK 4 65 3,iM 5 4,gM 6 0 5 false,gK 7 63 6 5 false,iQ 8 5 7,iM 9 8,gM 10 0 9 false,iG 11 (.bin .eql (Tm 10) (.const (.int .u8 45))) 9 false,iQ 12 9 11,iM 13 12,gM 14 0 13 false,iG 15 (.bin .eql (Tm 14) (.const (.int .u8 46))) 13 false,iQ 16 13 15,iM 2 16]
def I1:aA:=(sq X4 (sq X5 .ret))
def X6:List Nat:=[]
def Sm:aS:=⟨1,17,I1,[.tmp 2]⟩
def X8:Rg:=[iT 2 false]
def X9:Rg:=[iM 4 0,iA 5 (.aWY (Tm 4)),iC 6 .lss 5 1,iM 7 6,gM 8 0 7 false,iG 9 (.aWY (Tm 8)) 7 false,gC 10 .gtr 9 16 7 false,iQ 11 7 10,iM 12 11,gM 13 0 12 false,iG 14 (.aWZ (Tm 13) (Ci 0)) 12 false,gK 15 65 14 12 false,iG 16 (.un .not (Tm 15)) 12 false,iQ 17 12 16]
def Ya:Rg:=[iT 2 false]
def Yb:Rg:=[iI 3 0]
def Yc:Rg:=[iM 18 3,iM 19 0,iA 20 (.aWY (Tm 19)),iB 21 .lss 18 20]
def Yd:Rg:=[iM 24 0,iM 25 3,iA 26 (.aWZ (Tm 24) (Tm 25)),iK 27 64 26,iA 28 (.un .not (Tm 27))]
def Ye:Rg:=[iT 2 false]
def Yf:Rg:=[iM 22 3,iC 23 .add 22 1,iM 3 23]
def X7:aA:=(.seq (sq Yc (.cond (Tm 21) .skip (.exit 0))) (.seq (.block 1 (sq Yd (.cond (Tm 28) (sq Ye .ret) .skip))) (.region Yf)))
def Yg:Rg:=[iT 2 true]
def I2:aA:=(sq X8 (.seq (sq X9 (.cond (Tm 17) (sq Ya .ret) .skip)) (.seq (sq Yb (.block 0 (.loop X7))) (sq Yg .ret))))
def Yh:List Nat:=[]
def Sn:aS:=⟨1,29,I2,[.tmp 2]⟩
theorem oK (P:List Nat) (v:Nat):aF P++[[.int .u32 (v:Int)]]=aF (P++[v]):=by simp[aF]
theorem oJ {P:List Nat} (h:P.length≤35184372087808):roomFor (aF P).length 1 4:=by
 unfold roomFor;rw[bR];simp only[maxLen]; omega
def PG (a b:List Nat) (v:PV) (c i:Nat):PF:=(((((PF.nil.set 0 (aG a)).set 1 (aG b)).set 5 (v)).set 6 (.int .u64 c)).set 7 (.int .i64 i))
theorem ta {C:Ctx} (L:mR C) (a b:List Nat) (ha:Lim a) (hb:Lim b) (μ:val b≤val a) (hl:b.length≤a.length) (h1:a.length≤35184372087808) :
  AJ.wp C (aW NK.res (cG (aG (aI (val a-val b))))) (PF.args [aG a,aG b]) .nil:=by
 simp only[go_sem,AJ,tc,td,te,tf,NK];refine wp_loop (α:=List Nat × Nat × PV × PH) (fun s=>PG a b s.2.2.1 s.2.1 s.1.length) (fun s=>s.2.2.2)
  (fun s=>s.1.length≤a.length∧Lim s.1∧s.2.1≤1∧val (a.take s.1.length)+4294967296 ^ s.1.length*s.2.1=val s.1+val (b.take s.1.length)∧bO s.2.2.2 1 s.2.2.1 (aF s.1)) (fun s=>a.length-s.1.length) ([],0,.aB,.nil) ⟨by simp,by simp[Lim],by simp,by simp[val],.nil⟩ ?_ PH.nil_le ?_
 ·unfold PG;exact Lq
 rintro⟨P,c,v,H0⟩ ⟨hP,i,hc,U,hO⟩;simp only at hP i hc U hO ⊢;simp only[go_sem,dw,tg,PG];by_cases c1:P.length<a.length
 ·have β:(P.length:Int)<(a.length:Nat):=Om;have ι:=ha _ (aXM c1);have θ:=bW a c1;have ζ:(aF a)[P.length]?=some [.int .u32 ((a[P.length]:Nat):Int)]:=bK a c1;generalize hx:a[P.length]=x at *
  have ex:IntKind.u64.wrap ((x:Nat):Int)=((x:Nat):Int):=bA Om;have fin:∀ (t:Nat) (F':PF),t<4294967296→val (b.take (P.length+1))=val (b.take P.length)+4294967296 ^ P.length*t →
    F' 0=some (aG a)→F' 1=some (aG b)→F' 5=some v→F' 8=some (.int .u64 (c+t:Nat))→F' 7=some (.int .i64 P.length) →
    ∀ K:bT,(∀ R l v' F2 H2,R.length=P.length+1→Lim R→l≤1→val (a.take (P.length+1))+4294967296 ^ R.length*l=val R+val (b.take (P.length+1))→(PG a b v' l R.length).le F2→bO H2 1 v' (aF R)→K .normal F2 H2) →
    aA.wp C (.seq (.region NL) (.seq (.region NM) (.seq (.seq (.region GQ) (.cond (.tmp 35) (.seq (.region GR) (.region GT)) .skip)) (.region uV)))) (fG 1 (fZ C (aA.wp C (.region uW)) K)) F' H0:=by
   intro t F' ht J g0 g1 g5 g8 g7 K hK;have step:∀ (d l:Nat),d<4294967296→l≤1→x+4294967296*l=d+(c+t)→val (a.take (P.length+1))+4294967296 ^ (P.length+1)*l=val (P++[d])+val (b.take (P.length+1)):=by
    intro d l hd κ he;have h2:4294967296 ^ P.length*(x+4294967296*l)=4294967296 ^ P.length*(d+(c+t)):=by rw[he]
    rw[aXS,aXS,aXS] at h2;rw[gX,aZB,aYC,θ,J];omega
   simp only[go_sem,NL,g0,g7,ζ,ex,NM,GQ,g8];by_cases c2:x<c+t
   ·have γ:((x:Nat):Int)<((c+t:Nat):Int):=Om;have e1:IntKind.u64.wrap ((x:Int)+4294967296)=((x+4294967296:Nat):Int):=by rw[show (x:Int)+4294967296=((x+4294967296:Nat):Int) by omega];exact bA Om
    have e2:IntKind.u64.wrap (((x+4294967296:Nat):Int)-((c+t:Nat):Int))=((x+4294967296-(c+t):Nat):Int):=by rw[show ((x+4294967296:Nat):Int)-((c+t:Nat):Int)=((x+4294967296-(c+t):Nat):Int) by omega];exact bA Om
    have e3:IntKind.u32.wrap ((x+4294967296-(c+t):Nat):Int)=((x+4294967296-(c+t):Nat):Int):=by rw[cA,aYR Om]
    have ε:(1:Nat)*1≤16777216:=by decide
    simp only[go_sem,γ,GR,e1,GT,uV,g5,g8,e2,e3,ε];refine fX (src:=[[.int .u32 ((x+4294967296-(c+t):Nat):Int)]]) hO rfl (oJ Om) fun v' H' p _=>?_;rw[oK] at p;simp only[go_sem,uW,g7,cP (Om:P.length<9223372036854775807)];refine hK _ 1 v' _ H' (by simp) (i.app fun y hy=>by simp at hy; subst hy; omega) (aXL _) ?_ ?_ p
    ·rw[aXN,aXR];exact step _ 1 Om (aXL _) Om
    ·unfold PG;rw[aXN,aXR];exact Lq
   ·have γ:¬ ((x:Nat):Int)<((c+t:Nat):Int):=Om;have e2:IntKind.u64.wrap (((x:Nat):Int)-((c+t:Nat):Int))=((x-(c+t):Nat):Int):=by rw[show ((x:Nat):Int)-((c+t:Nat):Int)=((x-(c+t):Nat):Int) by omega];exact bA Om
    have e3:IntKind.u32.wrap ((x-(c+t):Nat):Int)=((x-(c+t):Nat):Int):=by rw[cA,aYR Om]
    have ε:(1:Nat)*1≤16777216:=by decide
    simp only[go_sem,γ,uV,g5,g8,e2,e3,ε];refine fX (src:=[[.int .u32 ((x-(c+t):Nat):Int)]]) hO rfl (oJ Om) fun v' H' p _=>?_;rw[oK] at p;simp only[go_sem,uW,g7,cP (Om:P.length<9223372036854775807)];refine hK _ 0 v' _ H' (by simp) (i.app fun y hy=>by simp at hy; subst hy; omega) (by decide) ?_ ?_ p
    ·rw[aXN,aXR];exact step _ 0 Om (by decide) Om
    ·unfold PG;rw[aXN,aXR];exact Lq
  simp only[aA.wp,go_sem] at fin;simp only[go_sem,β,th,ti];by_cases c3:P.length<b.length
  ·have δ:(P.length:Int)<(b.length:Nat):=Om;have η:=hb _ (aXM c3);have J:=bW b c3;have eb:IntKind.u64.wrap ((b[P.length]:Nat):Int)=((b[P.length]:Nat):Int):=bA Om;have es:IntKind.u64.wrap ((c:Int)+(b[P.length]:Int))=((c+b[P.length]:Nat):Int):=eM Om;simp only[go_sem,δ,tj,bK b c3,eb,es];refine fin b[P.length] _ η J rfl rfl rfl rfl rfl _ ?_;intro R l v' F2 H2 e1 e2 e3 e4 e5 e6;rw[← e1] at e4;exact aM (α:=List Nat × Nat × PV × PH) (R,l,v',H2) ⟨by simp only; omega,e2,e3,e4,e6⟩ (by simp only; omega) e5 PH.le_refl
  ·have δ:¬ (P.length:Int)<(b.length:Nat):=Om;have J:val (b.take (P.length+1))=val (b.take P.length)+4294967296 ^ P.length*0:=by rw[aXY Om,aXY Om]; simp
   simp only[go_sem,δ];refine fin 0 _ (by decide) J rfl rfl rfl rfl rfl _ ?_;intro R l v' F2 H2 e1 e2 e3 e4 e5 e6;rw[← e1] at e4;exact aM (α:=List Nat × Nat × PV × PH) (R,l,v',H2) ⟨by simp only; omega,e2,e3,e4,e6⟩ (by simp only; omega) e5 PH.le_refl
 ·have e:P.length=a.length:=Om;have β:¬ (P.length:Int)<(a.length:Nat):=Om;have hV:val P=val a-val b:=by
   rw[e,aYS,aXY hl] at U;have hlt:=eK i;rw[e] at hlt;rcases aZX c with h | h
   ·subst h; omega
   ·have:c=1:=Om;subst this; omega
  simp only[go_sem,β,dx];have hs:=L.trim _ i Om;rw[hV] at hs;refine rP hs hO rfl fun F1 H1 _=>?_;simp only[go_sem];exact bB (.inr rfl) .nil rfl PH.nil_le ⟨.refl _,rfl⟩
def pV (a b:List Nat) (o i:Nat):PF:=((((PF.nil.set 0 (aG a)).set 1 (aG b)).set 5 (.osl o 1 0 (a.length+b.length))).set 6 (.int .i64 i))
def utG (a b:List Nat) (o i c j:Nat):PF:=((((((PF.nil.set 0 (aG a)).set 1 (aG b)).set 5 (.osl o 1 0 (a.length+b.length))).set 6 (.int .i64 i)).set 7 (.int .u64 c)).set 8 (.int .i64 j))
theorem Xq {C:Ctx} (a b:List Nat) (ha:Lim a) (hb:Lim b) (h1:a.length≤35184372087808) (h2:b.length≤35184372087808) (L:List Nat) (i:Nat) (hi:i<a.length) (hI:AO a b L i) (q:Nat) (K:bT) (F:PF) (H:PH) (hF:(pV a b q i).le F) (hH:H q=some (.rows 1 (aF L)))
  (hK:∀ L' F' H',AO a b L' (i+1)→(pV a b q i).le F'→H' q=some (.rows 1 (aF L'))→K .normal F' H') :
  aA.wp C (.block 1 (.seq (.region NS) (.seq (.seq (.region NT) (.block 2 (.loop GZ))) (.region HA)))) K F H:=by
 have f0:=hF 0 _ (by unfold pV; simp only[go_sem]; rfl);have f1:=hF 1 _ (by unfold pV; simp only[go_sem]; rfl);have f5:=hF 5 _ (by unfold pV; simp only[go_sem]; rfl);have f6:=hF 6 _ (by unfold pV; simp only[go_sem]; rfl);have hx:=ha _ (aXM hi);have θ:=bW a hi;generalize κ:a[i]=x at *
 have ζ:(aF a)[i]?=some [.int .u32 ((x:Nat):Int)]:=by rw[bK a hi,κ]
 simp only[go_sem,NS,NT];refine wp_loop (α:=List Nat × Nat × Nat) (fun t=>utG a b q i t.2.1 t.2.2) (fun t=>PH.nil.set q (.rows 1 (aF t.1)))
  (fun t=>t.2.2≤b.length∧t.1.length=a.length+b.length∧Lim t.1∧t.2.1<4294967296∧val t.1+4294967296 ^ (i+t.2.2)*t.2.1=val (a.take i)*val b+4294967296 ^ i*(x*val (b.take t.2.2))∧∀ j y,i+b.length≤j→t.1[j]?=some y→y=0) (fun t=>b.length-t.2.2) (L,0,0)
  ⟨by simp,hI.len,hI.lim,by simp,by simp[val,hI.v],hI.z⟩ ?_ (PH.aJ PH.nil_le hH) ?_
 ·unfold utG;exact Lq
 rintro⟨M,c,j⟩ ⟨hj,hM,p,hc,U,hz⟩;simp only at hj hM p hc U hz;simp only[go_sem,GZ,tz,utG];by_cases c1:j<b.length
 ·have β:(j:Int)<(b.length:Nat):=Om;have hy:=hb _ (aXM c1);have ι:=bW b c1;generalize μ:b[j]=y at *
  have η:(aF b)[j]?=some [.int .u32 ((y:Nat):Int)]:=by rw[bK b c1,μ]
  have l:i+j<M.length:=Om;have ε:=p _ (aXM l);have R:=BL l;generalize ν:M[i+j]=z at *
  have δ:(aF M)[i+j]?=some [.int .u32 ((z:Nat):Int)]:=by rw[bK M l,ν]
  have ex:IntKind.u64.wrap ((x:Nat):Int)=((x:Nat):Int):=bA Om;have ey:IntKind.u64.wrap ((y:Nat):Int)=((y:Nat):Int):=bA Om;have ez:IntKind.u64.wrap ((z:Nat):Int)=((z:Nat):Int):=bA Om;have em:=Pq hx hy;have ο:x*y≤4294967295*4294967295:=a0O Om Om;have e1:IntKind.u64.wrap (((x*y:Nat):Int)+(z:Int))=((x*y+z:Nat):Int):=eM Om;have e2:IntKind.u64.wrap (((x*y+z:Nat):Int)+(c:Int))=((x*y+z+c:Nat):Int):=eM Om;have γ:IntKind.i64.wrap ((i:Int)+(j:Int))=((i+j:Nat):Int):=fN Om;have hlt:((i+j:Nat):Int)<((a.length+b.length:Nat):Int):=Om;generalize ht:x*y+z+c=t at *
  have ξ:t<4294967296*4294967296:=Om;have J:(aF M).set (i+j) [.int .u32 ((t%4294967296:Nat):Int)]=aF (M.set (i+j) (t%4294967296)):=eZ M (i+j) _;simp only[go_sem,β];refine cJ .nil eU PH.nil_le ?_;simp only[go_sem,t6,ζ,η,ex,ey,em,γ,hlt,δ,ez,e1,e2,t7,cA,J,t8,uT,d8,wZz j];refine aM (M.set (i+j) (t%4294967296),t/4294967296,j+1) ⟨by simp only; omega,by simp only[aZM]; exact hM,p.set _ (aYW _ (by decide)),by simp only; omega,?_,fq hz _ _ Om⟩ (by simp only; omega) ?_ (PH.aJ PH.nil_le Sq)
  ·simp only;have h3:=R (t%4294967296);have h4:4294967296 ^ (i+(j+1))*(t/4294967296)+4294967296 ^ (i+j)*(t%4294967296)=4294967296 ^ (i+j)*t:=by rw[← aZO,aZB,aYC,← aXS,a0R]
   have h5:4294967296 ^ (i+j)*t=4294967296 ^ (i+j)*(x*y)+4294967296 ^ (i+j)*z+4294967296 ^ (i+j)*c:=by rw[← ht,aXS,aXS]
   have h6:4294967296 ^ i*(x*val (b.take (j+1)))=4294967296 ^ i*(x*val (b.take j))+4294967296 ^ (i+j)*(x*y):=by rw[ι,aXS,aXS,Nat.pow_add];congr 1;rw[Nat.mul_left_comm x,aYC]
   omega
  ·exact Lq
 ·have he:j=b.length:=Om;have β:¬ (j:Int)<(b.length:Nat):=Om;subst he;have l:i+b.length<M.length:=Om;have ε:M[i+b.length]=0:=hz _ _ (aXL _) (aXT l);have R:=BL l;have δ:(aF M)[i+b.length]?=some [.int .u32 ((0:Nat):Int)]:=by rw[bK M l,ε]
  have γ:IntKind.i64.wrap ((i:Int)+(b.length:Int))=((i+b.length:Nat):Int):=fN Om;have hlt:((i+b.length:Nat):Int)<((a.length+b.length:Nat):Int):=Om;have J:(aF M).set (i+b.length) [.int .u32 ((c%4294967296:Nat):Int)]=aF (M.set (i+b.length) c):=by rw[aYR hc]; exact eZ M _ _
  simp only[go_sem,β,HA,γ,cA,hlt,δ,J];refine hK (M.set (i+b.length) c) _ _ ⟨by rw[aZM]; exact hM,p.set _ hc,?_,fun j y hj hy=>?_⟩ (by unfold pV; exact Lq) Sq
  ·have h3:=R c;rw[ε,Nat.mul_zero,aZP] at h3;rw[h3,U,aYS,θ,aYM,aYC]
  ·rw[List.getElem?_set_ne Om] at hy;exact hz j y Om hy
theorem tt {C:Ctx} (L:mR C) (a b:List Nat) (ha:Lim a) (hb:Lim b) (h1:a.length≤8388608) (h2:b.length≤8388608) :
  AK.wp C (aW NR.res (cG (aG (aI (val a*val b))))) (PF.args [aG a,aG b]) .nil:=by
 have R:IntKind.i64.wrap ((a.length:Int)+(b.length:Int))=((a.length+b.length:Nat):Int):=fN Om;have γ:((a.length+b.length:Nat):Int)*((4:Nat):Int)≤140737488355328:=Om;have δ:((a.length+b.length:Nat):Int)≤9223372036854775807:=Om;have hz:aXK (a.length+b.length) [PV.int .u32 0]=aF (aXK (a.length+b.length) 0):=by simp[aF]
 simp only[go_sem,AK,tu,tv,NR,aXI,R,γ,δ,hz];refine aT fun o ho=>?_;simp only[go_sem,tw];refine wp_loop (α:=List Nat × Nat) (fun t=>pV a b o t.2) (fun t=>PH.nil.set o (.rows 1 (aF t.1))) (fun t=>t.2≤a.length∧AO a b t.1 t.2) (fun t=>a.length-t.2) (aXK (a.length+b.length) 0,0)
  ⟨by simp,by simp,tC _,by simp[val,qI],fun j x _ hx=>by rw[List.getElem?_replicate] at hx; split at hx<;>simp_all⟩ ?_ (PH.aJ PH.nil_le Sq) ?_
 ·unfold pV;exact Lq
 rintro⟨M,i⟩ ⟨hi,p⟩;simp only at hi p;simp only[go_sem,d7,tx,pV];by_cases c1:i<a.length
 ·have J:(i:Int)<(a.length:Nat):=Om;have key:=Xq (C:=C) a b ha hb Om Om M i c1 p o;simp only[go_sem] at key;simp only[go_sem,J];refine key _ _ _ (by unfold pV; exact Lq) Sq ?_;intro L' F' H' β l U;have g6:=l 6 _ (by unfold pV; simp only[go_sem]; rfl);have g0:=l 0 _ (by unfold pV; simp only[go_sem]; rfl);have g1:=l 1 _ (by unfold pV; simp only[go_sem]; rfl);have g5:=l 5 _ (by unfold pV; simp only[go_sem]; rfl);simp only[go_sem,d9,g6,wZz i];refine aM (L',i+1) ⟨by simp only; omega,β⟩ (by simp only; omega) ?_ (PH.aJ PH.nil_le U);exact Lq
 ·have he:i=a.length:=Om;subst he;have J:¬ (a.length:Int)<(a.length:Nat):=Om;have hV:val M=val a*val b:=by rw[p.v,aYS]
  simp only[go_sem,ef];have hs:=L.trim _ p.lim (by rw[p.len]; omega);rw[hV] at hs;refine oO (o:=o) (s:=1) (k:=a.length+b.length) (rs:=aF M) (v:=aG (aI (val a*val b))) ?_ rfl Sq (by rw[bR,p.len]; exact aXL _) ?_
  ·rw[aXY (by rw[bR,p.len]; exact aXL _)]; exact hs
  ·simp only[go_sem];exact bB (.inr rfl) .nil rfl PH.nil_le ⟨.refl _,rfl⟩
structure wa (C:Ctx):Prop extends VZ C where
 minus:∀ a b,Lim a→Lim b→val b≤val a→b.length≤a.length→a.length≤35184372087808→aH C 42 [aG a,aG b] .nil (aL (aG (aI (val a-val b))))
 times:∀ a b,Lim a→Lim b→a.length≤8388608→b.length≤8388608→aH C 44 [aG a,aG b] .nil (aL (aG (aI (val a*val b))))
def uA (a:List Nat) (i:Nat):Nat:=a.getD i 0
theorem ya {a:List Nat} (h:Lim a) (i:Nat):uA a i<4294967296:=by
 unfold uA;rw[aYK];rcases aXZ i a.length with l | l
 ·rw[aXT l]; exact h _ (aXM l)
 ·rw[aYT l]; decide
theorem SI {a:List Nat} {i:Nat} (h:i<a.length):uA a i=a[i]:=by simp[uA,aYK,h]
theorem JC {a:List Nat} {i:Nat} (h:¬ i<a.length):uA a i=0:=by simp[uA,aYK,h]
theorem NU (a:List Nat) (i:Nat):val (a.take (i+1))=val (a.take i)+4294967296 ^ i*uA a i:=by
 rcases aXZ i a.length with h | h
 ·rw[SI h]; exact bW a h
 ·rw[JC Om,aXY Om,aXY Om]; simp
def rM (a b:List Nat) (v:PV) (c i:Nat):PF:=(((((PF.nil.set 0 (aG a)).set 1 (aG b)).set 5 (v)).set 6 (.int .u64 c)).set 7 (.int .i64 i))
theorem Ib {C:Ctx} (L:mR C) (a b:List Nat) (ha:Lim a) (hb:Lim b) (h1:a.length≤8388608) (h2:b.length≤8388608) :
  GW.wp C (aW d6.res (cG (aG (aI (val a+val b))))) (PF.args [aG a,aG b]) .nil:=by
 simp only[go_sem,GW,Ic,Id,Ie,If,d6];refine wp_loop (α:=List Nat × Nat × PV × PH) (fun s=>rM a b s.2.2.1 s.2.1 s.1.length) (fun s=>s.2.2.2)
  (fun s=>s.1.length≤max a.length b.length+1∧(s.1.length≤max a.length b.length∨s.2.1=0)∧Lim s.1∧s.2.1≤1∧val s.1+4294967296 ^ s.1.length*s.2.1=val (a.take s.1.length)+val (b.take s.1.length)∧bO s.2.2.2 1 s.2.2.1 (aF s.1)) (fun s=>max a.length b.length+1-s.1.length) ([],0,.aB,.nil)
  ⟨by simp,by simp,by simp[Lim],by simp,by simp[val],.nil⟩ ?_ PH.nil_le ?_
 ·unfold rM;exact Lq
 rintro⟨P,c,v,H0⟩ ⟨hP,κ,J,hc,β,hO⟩;simp only at hP κ J hc β hO ⊢;have ρ:=ya ha P.length;have σ:=ya hb P.length;have ξ:=NU a P.length;have ο:=NU b P.length;generalize hx:uA a P.length=x at *
 generalize hy:uA b P.length=y at *
 have ex:IntKind.u64.wrap ((x:Nat):Int)=((x:Nat):Int):=bA Om;have ey:IntKind.u64.wrap ((y:Nat):Int)=((y:Nat):Int):=bA Om;have e1:IntKind.u64.wrap ((c:Int)+(x:Int))=((c+x:Nat):Int):=eM Om;have e2:IntKind.u64.wrap (((c+x:Nat):Int)+(y:Int))=((c+x+y:Nat):Int):=eM Om;have ν:P.length<a.length→(aF a)[P.length]?=some [.int .u32 ((x:Nat):Int)]:=fun h=>by rw[bK a h,← hx,SI h]
 have ζ:P.length<b.length→(aF b)[P.length]?=some [.int .u32 ((y:Nat):Int)]:=fun h=>by rw[bK b h,← hy,SI h]
 have η:¬ P.length<a.length→x=0:=fun h=>by rw[← hx,JC h]
 have δ:¬ P.length<b.length→y=0:=fun h=>by rw[← hy,JC h]
 have body:(P.length≤max a.length b.length)→∀ K:bT,(∀ p U v' F2 H2,p.length=P.length+1→Lim p→U≤1→(P.length+1≤max a.length b.length∨U=0)→val p+4294967296 ^ p.length*U=val (a.take (P.length+1))+val (b.take (P.length+1))→(rM a b v' U p.length).le F2→bO H2 1 v' (aF p)→K .normal F2 H2) →
   ∀ F:PF,(rM a b v c P.length).le F→aA.wp C (.seq (.block 1 (.seq (.region VJ) (.seq (.seq (.region VK) (.cond (.tmp 29) (.region VL) .skip)) (.seq (.seq (.region GX) (.cond (.tmp 40) (.region GY) .skip)) (.seq (.region yG) (.region yH)))))) (.region yI)) K F H0:=by
  intro τ K hK F hF;have g0:F 0=some (aG a):=hF 0 _ (by unfold rM; simp only[go_sem]);have g1:F 1=some (aG b):=hF 1 _ (by unfold rM; simp only[go_sem]);have g5:F 5=some v:=hF 5 _ (by unfold rM; simp only[go_sem]);have g6:F 6=some (.int .u64 c):=hF 6 _ (by unfold rM; simp only[go_sem]);have g7:F 7=some (.int .i64 P.length):=hF 7 _ (by unfold rM; simp only[go_sem]);have fin:∀ F':PF,F' 0=some (aG a)→F' 1=some (aG b)→F' 5=some v→F' 7=some (.int .i64 P.length)→F' 8=some (.int .u64 (c+x+y:Nat)) →
    aA.wp C (.seq (.region yG) (.region yH)) (fG 1 (fZ C (aA.wp C (.region yI)) K)) F' H0:=by
   intro F' q0 q1 q5 q7 q8;have μ:(1:Nat)*1≤16777216:=by decide
   generalize ht:c+x+y=t at *
   have υ:t<2*4294967296:=Om;simp only[go_sem,yG,q5,q8,μ,cA];refine fX (src:=[[.int .u32 ((t%4294967296:Nat):Int)]]) hO rfl (oJ Om) fun v' H' ε _=>?_;rw[oK] at ε;simp only[go_sem,yH,q8,uT,yI,q7,cP (Om:P.length<9223372036854775807)];refine hK (P++[t%4294967296]) (t/4294967296) v' _ H' (by simp) (J.app fun y hy=>by simp at hy; subst hy; omega) Om ?_ ?_ ?_ ε
   ·rcases aXZ P.length (max a.length b.length) with h | h
    ·exact .inl h
    ·right;have h1:=η Om;have h2:=δ Om;omega
   ·rw[gX,aXN,aXR,ξ,ο,aZB,aYC,aZO,← aXS];rw[show t%4294967296+4294967296*(t/4294967296)=t from Nat.mod_add_div t 4294967296];have h3:4294967296 ^ P.length*t=4294967296 ^ P.length*c+4294967296 ^ P.length*x+4294967296 ^ P.length*y:=by rw[← ht,aXS,aXS]
    omega
   ·unfold rM;rw[aXN,aXR];exact Lq
  simp only[aA.wp,go_sem] at fin;simp only[go_sem,VJ,g6,VK,g7,g0];by_cases c1:P.length<a.length
  ·have l:(P.length:Int)<(a.length:Nat):=Om;simp only[go_sem,l,VL,g0,g7,ν c1,ex,e1,GX,g1];by_cases c2:P.length<b.length
   ·have i:(P.length:Int)<(b.length:Nat):=Om;simp only[go_sem,i,GY,g1,g7,ζ c2,ey,e2];exact fin _ (by simp only[go_sem,g0]) (by simp only[go_sem,g1]) (by simp only[go_sem,g5]) (by simp only[go_sem,g7]) rfl
   ·have i:¬ (P.length:Int)<(b.length:Nat):=Om;have h0:=δ c2;simp only[go_sem,i];exact fin _ (by simp only[go_sem,g0]) (by simp only[go_sem,g1]) (by simp only[go_sem,g5]) (by simp only[go_sem,g7]) (by simp only[go_sem,h0])
  ·have l:¬ (P.length:Int)<(a.length:Nat):=Om;have h0:=η c1;simp only[go_sem,l,GX,g1,g7];by_cases c2:P.length<b.length
   ·have i:(P.length:Int)<(b.length:Nat):=Om;have θ:IntKind.u64.wrap ((c:Int)+(y:Int))=((c+x+y:Nat):Int):=by rw[h0]; exact eM Om
    simp only[go_sem,i,GY,g1,g7,ζ c2,ey,θ];exact fin _ (by simp only[go_sem,g0]) (by simp only[go_sem,g1]) (by simp only[go_sem,g5]) (by simp only[go_sem,g7]) rfl
   ·have i:¬ (P.length:Int)<(b.length:Nat):=Om;have ι:=δ c2;simp only[go_sem,i];exact fin _ (by simp only[go_sem,g0]) (by simp only[go_sem,g1]) (by simp only[go_sem,g5]) (by simp only[go_sem,g7]) (by simp only[go_sem,h0,ι])
 simp only[aA.wp,go_sem] at body;have R:¬ P.length<a.length→¬ P.length<b.length→c=0→∀ F:PF,F 5=some v→aA.wp C (.seq (.region NP) .ret) (aW [.tmp 4] (cG (aG (aI (val a+val b))))) F H0:=by
  intro n1 n2 n3 F f5;have hV:val P=val a+val b:=by rw[n3,aXY Om,aXY Om] at β;omega
  have hs:=L.trim _ J Om;rw[hV] at hs;simp only[go_sem,NP,f5];refine rP hs hO rfl fun F1 H1 _=>?_;simp only[go_sem];exact bB (.inr rfl) .nil rfl PH.nil_le ⟨.refl _,rfl⟩
 simp only[aA.wp,go_sem] at R;simp only[go_sem,tr,Ig,rM];by_cases c1:P.length<a.length
 ·have l:(P.length:Int)<(a.length:Nat):=Om;simp only[go_sem,l];refine body Om _ ?_ _ (by unfold rM; exact Lq);intro p U v' F2 H2 e1 e2 e3 e4 e5 e6 e7;rw[← e1] at e5 e4;exact aM (α:=List Nat × Nat × PV × PH) (p,U,v',H2) ⟨by simp only; omega,e4,e2,e3,e5,e7⟩ (by simp only; omega) e6 PH.le_refl
 ·have l:¬ (P.length:Int)<(a.length:Nat):=Om;simp only[go_sem,l];by_cases c2:P.length<b.length
  ·have i:(P.length:Int)<(b.length:Nat):=Om;simp only[go_sem,i];refine body Om _ ?_ _ (by unfold rM; exact Lq);intro p U v' F2 H2 e1 e2 e3 e4 e5 e6 e7;rw[← e1] at e5 e4;exact aM (α:=List Nat × Nat × PV × PH) (p,U,v',H2) ⟨by simp only; omega,e4,e2,e3,e5,e7⟩ (by simp only; omega) e6 PH.le_refl
  ·have i:¬ (P.length:Int)<(b.length:Nat):=Om;simp only[go_sem,i];by_cases c3:c=0
   ·have γ:¬ (c:Int)>0:=Om;simp only[go_sem,γ];exact R c1 c2 c3 _ rfl
   ·have γ:(c:Int)>0:=Om;simp only[go_sem,γ];refine body Om _ ?_ _ (by unfold rM; exact Lq);intro p U v' F2 H2 e1 e2 e3 e4 e5 e6 e7;rw[← e1] at e5 e4;exact aM (α:=List Nat × Nat × PV × PH) (p,U,v',H2) ⟨by simp only; omega,e4,e2,e3,e5,e7⟩ (by simp only; omega) e6 PH.le_refl
structure wb (C:Ctx):Prop extends wa C where
 plus:∀ a b,Lim a→Lim b→a.length≤8388608→b.length≤8388608→aH C 43 [aG a,aG b] .nil (aL (aG (aI (val a+val b))))
def G4 (k:Nat) (v:Nat):PF:=((PF.nil.set 3 (.int .i64 k)).set 4 (.int .u32 v))
theorem G6 {C:Ctx} (L:mR C) (xs:List Nat) (hx:Lim xs) (lx:xs.length≤35184372087808) :
  GK.wp C (aW de.res (aL (.int .i64 (cF (val xs):Nat)))) (PF.args [aG xs]) .nil:=by
 simp only[go_sem,GK,G7,G8,de];refine aC (L.trim xs hx lx) rfl ?_;have bx:=eY hx;simp only[go_sem,G9,aXI,bH,yF];by_cases c1:nl (val xs)=0
 ·simp only[go_sem,decide_eq_true c1,Ha];refine bV (.inr rfl) rfl ?_;have:val xs=0:=jU.1 c1;simp[dB,this,jW]
 obtain⟨n,hn⟩:∃ n,nl (val xs)=n+1:=⟨nl (val xs)-1,by omega⟩;obtain⟨t,ht,γ⟩:=G2 (xs:=aI (val xs)) (bC _) (by rw[aY]; exact hn);have R:t<4294967296:=bC _ t (a0D ht);have hv:val xs=val ((aI (val xs)).take n)+4294967296 ^ n*t:=by
  have:=aY (val xs);have p:n<(aI (val xs)).length:=by rw[bH]; omega
  have hg:(aI (val xs))[n]=t:=by rw[aXT p] at ht; exact aZS.inj ht
  conv=>lhs; rw[← this,← aXY (l:=aI (val xs)) (i:=n+1) (by rw[bH]; omega)]
  rw[bW _ p,hg]
 have hb:cF (val xs)=32*n+cF t:=by have h3:=eK ((bC (val xs)).take n);rw[aYA,bH,aZQ Om] at h3;have U:=wt (lo:=val ((aI (val xs)).take n)) (k:=32*n) (hi:=t) (by rw[Nat.pow_mul]; exact h3) γ;rw[← U,Nat.pow_mul];exact congrArg cF hv
 have J:(aF (aI (val xs)))[n]?=some [.int .u32 (t:Nat)]:=by simp[aF,ht]
 have e1:IntKind.i64.wrap (((nl (val xs):Nat):Int)-1)=(n:Int):=by rw[wrap_i64 Om Om]; omega
 have e2:IntKind.i64.wrap (32*(n:Int))=((32*n:Nat):Int):=by rw[wrap_i64 Om Om]; omega
 simp only[go_sem,decide_eq_false c1,Hb,Hc,aXI,bH,e1,e2,J];refine wp_loop (α:=Nat × Nat) (fun a=>G4 a.1 a.2) (fun _=>.nil) (fun a=>a.1+cF a.2=32*n+cF t∧a.2<4294967296) (fun a=>a.2) (32*n,t) ⟨rfl,R⟩ ?_ PH.nil_le ?_
 ·unfold G4;exact Lq
 rintro⟨k,v⟩ ⟨U,hlt⟩;simp only at U hlt;have ε:cF t≤32:=(kP t 32).2 R;simp only[go_sem,G5,Hd,G4];by_cases c2:(v:Int)>0
 ·have δ:v≠0:=Om;have β:IntKind.u32.wrap (Int.tdiv (v:Int) 2)=((v/2:Nat):Int):=by rw[show Int.tdiv (v:Int) 2=((v/2:Nat):Int) from Int.ofNat_tdiv v 2,cA,aYR Om]
  simp only[go_sem,c2,He,Hf,β,wZz k];refine aM (k+1,v/2) ⟨?_,?_⟩ (Nat.div_lt_self Om (by decide)) ?_ PH.nil_le
  ·have:=pN δ;simp only; omega
  ·simp only; omega
  ·exact Lq
 ·have:v=0:=Om;subst this;simp only[go_sem,c2,sw];refine bV (.inr rfl) rfl ?_;rw[jW] at U;simp only[dB,PV.int.injEq,true_and];omega
theorem sg (n:Nat):4294967296 ^ (n/32)*2 ^ (n%32)=2 ^ n:=by
 rw[show (4294967296:Nat)=2 ^ 32 by decide,← Nat.pow_mul,← Nat.pow_add];congr 1;omega
theorem aiD (n:Nat):IntKind.i64.wrap (Int.tdiv (n:Int) 32)=IntKind.i64.wrap ((n/32:Nat):Int):=by
 rw[show Int.tdiv (n:Int) 32=((n/32:Nat):Int) from Int.ofNat_tdiv n 32]
theorem aiQ (n:Nat):Int.tmod (n:Int) 32=((n%32:Nat):Int):=Int.ofNat_tmod n 32
def awR (a:List Nat) (n:Nat) (v:PV) (c i:Nat):PF:=(((((PF.nil.set 0 (aG a)).set 1 (.int .i64 n)).set 5 (v)).set 6 (.int .u64 c)).set 7 (.int .i64 i))
theorem alO {C:Ctx} (L:mR C) (a:List Nat) (n:Nat) (ha:Lim a) (h1:a.length≤8388608) (hn:n≤8388608) (h0:a.length=0→val a=0) :
  VN.wp C (aW uup.res (mQ 1 (aF (aI (val a*2 ^ n))))) (PF.args [aG a,.int .i64 n]) .nil:=by
 simp only[go_sem,VN,alP,alQ,uup,aXI,yF];by_cases c0:a.length=0
 ·simp only[go_sem,decide_eq_true c0,alR];rw[h0 c0,Nat.zero_mul,fJ];exact je (.inr rfl) rfl
 have ez:IntKind.i64.wrap (Int.tdiv (n:Int) 32)=((n/32:Nat):Int):=by rw[aiD,VO Om]
 have em:=aiQ n;have eu:IntKind.u64.wrap ((n%32:Nat):Int)=((n%32:Nat):Int):=bA Om;have μ:=sg n;have hs:n%32<32:=aYW _ (by decide);have hz:n/32≤8388608:=Om;generalize υ:n/32=z at *
 generalize σ:n%32=s at *
 have ι:((z:Nat):Int)*((4:Nat):Int)≤140737488355328:=Om;have κ:((z:Nat):Int)≤9223372036854775807:=Om;have ξ:aXK z [PV.int .u32 0]=aF (aXK z 0):=by simp[aF]
 have ζ:2 ^ s≤2147483648:=a0Z (show 0<2 by decide) (Om:s≤31);have β:0<2 ^ s:=a0A (by decide);simp only[go_sem,decide_eq_false c0,alS,ez,ι,κ,ξ];refine aT fun o ho=>?_;simp only[go_sem,alT,alU];refine wp_loop (α:=List Nat × Nat × Nat × PV × PH) (fun t=>awR a n t.2.2.2.1 t.2.1 t.2.2.1) (fun t=>t.2.2.2.2)
  (fun t=>t.2.2.1≤a.length∧t.1.length=z+t.2.2.1∧Lim t.1∧t.2.1<2 ^ s∧val t.1+4294967296 ^ t.1.length*t.2.1=val (a.take t.2.2.1)*2 ^ n∧bO t.2.2.2.2 1 t.2.2.2.1 (aF t.1)) (fun t=>a.length-t.2.2.1) (aXK z 0,0,0,.osl o 1 0 z,PH.nil.set o (.rows 1 (aF (aXK z 0))))
  ⟨by simp,by simp,tC _,β,by simp[val,qI],.inr ⟨o,aF (aXK z 0),by rw[bR,List.length_replicate],by simp only[go_sem],by rw[bR]; exact aXL _,aYS⟩⟩ ?_ PH.le_refl ?_
 ·unfold awR;exact Lq
 rintro⟨P,c,i,v,H0⟩ ⟨hi,hP,l,hc,J,hO⟩;simp only at hi hP l hc J hO ⊢;simp only[go_sem,Se,alV,awR];by_cases c1:i<a.length
 ·have R:(i:Int)<(a.length:Nat):=Om;have ρ:=ha _ (aXM c1);have ν:=bW a c1;have θ:=bK a c1;generalize hx:a[i]=x at *
  have τ:x*2 ^ s≤4294967295*2147483648:=a0O Om ζ;have ex:IntKind.u64.wrap ((x:Nat):Int)=((x:Nat):Int):=bA Om;have ο:2 ^ s*x=x*2 ^ s:=aYI _ _;have ε:shift .shl .u64 (x:Int) (s:Int)=some (.int .u64 ((2 ^ s*x:Nat):Int)):=GF Om Om;have δ:=orI (a:=2 ^ s*x) (b:=c) (n:=c+2 ^ s*x) Om Om (by rw[Nat.or_comm]; exact Ft hc Om) Om;have γ:(c+2 ^ s*x)/4294967296<2 ^ s:=by rw[a0H (by decide)];have:2 ^ s*(x+1)≤2 ^ s*4294967296:=aZR _ Om;rw[aXS,Nat.mul_one] at this;omega
  have U:(1:Nat)*1≤16777216:=by decide
  simp only[go_sem,R,alW,θ,ex,em,eu,ε,δ,alX,cA,U];refine fX (src:=[[.int .u32 (((c+2 ^ s*x)%4294967296:Nat):Int)]]) hO rfl (oJ Om) fun v' H' p _=>?_;rw[oK] at p;simp only[go_sem,alY,uT,Sf,wZz i];refine aM (P++[(c+2 ^ s*x)%4294967296],(c+2 ^ s*x)/4294967296,i+1,v',H') ⟨by simp only; omega,by simp; omega,l.app fun y hy=>by simp at hy; subst hy; exact aYW _ (by decide),γ,?_,p⟩ (by simp only; omega) ?_ PH.le_refl
  ·simp only;have hp:4294967296 ^ P.length*(2 ^ s*x)=4294967296 ^ i*x*2 ^ n:=by rw[hP,Nat.pow_add,← μ];rw[aYC,Nat.mul_left_comm (4294967296 ^ i),← aYC (4294967296 ^ z),aYI (4294967296 ^ z*2 ^ s),aYC,aYI x]
   rw[gX,aXN,aXR,aZB,aYC,aZO,← aXS,Nat.mod_add_div,ν,aXS,aYM,← aZO,J,hp]
  ·exact Lq
 ·have e:i=a.length:=Om;subst e;have R:¬ (a.length:Int)<(a.length:Nat):=Om;have U:(1:Nat)*1≤16777216:=by decide
  have hV:val (P++[c])=val a*2 ^ n:=by rw[gX,J,aYS]
  have η:Lim (P++[c]):=l.app fun x hx=>by simp at hx; omega
  have ec:IntKind.u32.wrap ((c:Nat):Int)=((c:Nat):Int):=by rw[cA,aYR Om]
  simp only[go_sem,R,Sg,ec,U];refine fX (src:=[[.int .u32 ((c:Nat):Int)]]) hO rfl (oJ Om) fun v' H' p _=>?_;rw[oK] at p;have hs:=L.trimM _ η (by simp; omega);rw[hV] at hs;refine uz hs p rfl fun F1 H1 _ r H2 hr _=>?_;simp only[go_sem];exact aeJ (.inr rfl) hr rfl
def NG (a:List Nat) (n:Nat) (v:PV) (i:Nat):PF:=((((PF.nil.set 0 (aG a)).set 1 (.int .i64 n)).set 5 (v)).set 6 (.int .i64 i))
theorem Hm {C:Ctx} (L:mR C) (a:List Nat) (n:Nat) (ha:Lim a) (h1:a.length≤8388608) (hn:n≤1000000000) :
  GO.wp C (aW dt.res (cG (aG (aI (val a/2 ^ n))))) (PF.args [aG a,.int .i64 n]) .nil:=by
 have ez:IntKind.i64.wrap (Int.tdiv (n:Int) 32)=((n/32:Nat):Int):=by rw[aiD,VO Om]
 have em:=aiQ n;have eu:IntKind.u64.wrap ((n%32:Nat):Int)=((n%32:Nat):Int):=bA Om;have η:=sg n;have hs:n%32<32:=aYW _ (by decide);have hz:n/32≤1000000000:=Om;generalize τ:n/32=z at *
 generalize σ:n%32=s at *
 simp only[go_sem,GO,Hn,Ho,dt,aXI,ez];by_cases c0:a.length≤z
 ·have J:((z:Nat):Int)≥(a.length:Nat):=Om;have hq:val a/2 ^ n=0:=by refine a0S (Nat.lt_of_lt_of_le (eK ha) ?_);rw[← η];exact aZD (a0Z (by decide) c0) (Nat.le_mul_of_pos_right _ (a0A (by decide)))
  simp only[go_sem,J,Hp];rw[hq,fJ];exact bB (vs:=[.aB]) (.inr rfl) .nil rfl PH.nil_le ⟨.nil 1,rfl⟩
 have J:¬ ((z:Nat):Int)≥(a.length:Nat):=Om;have hR:val a/2 ^ n=val (a.drop z)/2 ^ s:=by rw[sH ha Om,← η,Nat.div_div_eq_div_mul]
 have δ:Lim (a.drop z):=ha.drop z;simp only[go_sem,J,Hq,Hr,ez];refine wp_loop (α:=List Nat × PV × PH) (fun t=>NG a n t.2.1 (z+t.1.length)) (fun t=>t.2.2)
  (fun t=>z+t.1.length≤a.length∧t.1=dL t.1.length (val (a.drop z)/2 ^ s)∧bO t.2.2 1 t.2.1 (aF t.1)) (fun t=>a.length-t.1.length) ([],.aB,.nil)
  ⟨by simp; omega,rfl,.nil⟩ ?_ PH.nil_le ?_
 ·unfold NG
  (repeat' (first|exact PF.nil_le|refine PF.aJ ?_ ?_))<;>first|(simp only[go_sem,aZV]<;>rfl)|rfl
 rintro⟨P,v,H0⟩ ⟨hP,hD,hO⟩;simp only at hP hD hO ⊢;simp only[go_sem,sx,Ht,NG];have γ:Lim P:=by rw[hD]; exact lG _ _
 by_cases c1:z+P.length<a.length
 ·have R:((z+P.length:Nat):Int)<(a.length:Nat):=Om;have ρ:=ha _ (aXM c1);have κ:=bK a c1;have ν:P.length≤(a.drop z).length:=by rw[aZI]; omega
  have θ:=sH δ ν;have p:(a.drop z).drop P.length=a[z+P.length]::a.drop (z+P.length+1):=by rw[List.drop_drop,aZG c1]
  generalize hx:a[z+P.length]=x at *
  have ex:IntKind.u64.wrap ((x:Nat):Int)=((x:Nat):Int):=bA Om;have μ:(1:Nat)*1≤16777216:=by decide
  have ew:IntKind.i64.wrap (((z+P.length:Nat):Int)+1)=((z+P.length+1:Nat):Int):=cP Om;have fin:∀ (t:Nat) (F:PF),t<18446744073709551616→val (a.drop z)/4294967296 ^ P.length%(4294967296*4294967296)=t→F 0=some (aG a)→F 1=some (.int .i64 n)→F 5=some v→F 6=some (.int .i64 (z+P.length:Nat))→F 7=some (.int .u64 t) →
    ∀ K:bT,(∀ v' F2 H2,(NG a n v' (z+(P.length+1))).le F2→bO H2 1 v' (aF (P++[t/2 ^ s%4294967296]))→(P++[t/2 ^ s%4294967296])=dL (P.length+1) (val (a.drop z)/2 ^ s)→K .normal F2 H2) →
    aA.wp C (.region VH) (fG 1 (fZ C (aA.wp C (.region NH)) K)) F H0:=by
   intro t F ht ξ f0 f1 f5 f6 f7 K hK;have β:shift .shr .u64 (t:Int) (s:Int)=some (.int .u64 ((t/2 ^ s:Nat):Int)):=aKJ Om;simp only[go_sem,VH,f5,f7,f1,em,eu,β,cA,μ];refine fX (src:=[[.int .u32 ((t/2 ^ s%4294967296:Nat):Int)]]) hO rfl (oJ Om) fun v' H' ε _=>?_;rw[oK] at ε;simp only[go_sem,NH,f6,ew];refine hK v' _ H' ?_ ε ?_
   ·unfold NG;exact Lq
   ·rw[sY,← hD];congr 2;have e:val (a.drop z)/4294967296 ^ P.length=t%4294967296+4294967296*(t/4294967296+4294967296*(val (a.drop z)/4294967296 ^ P.length/(4294967296*4294967296))):=by have:=Nat.mod_add_div (val (a.drop z)/4294967296 ^ P.length) (4294967296*4294967296);rw[ξ] at this;have h2:=Nat.mod_add_div t 4294967296;rw[aXS,← aZO,h2,← aYC];exact this.symm
    have:=RB hs e;rw[this];congr 2;have h2:=Nat.mod_add_div t 4294967296;omega
  simp only[aA.wp,go_sem] at fin;simp only[go_sem,R,Hu,κ,ex,Hv,ew];by_cases c2:z+P.length+1<a.length
  ·have U:((z+P.length+1:Nat):Int)<(a.length:Nat):=Om;have ο:=ha _ (aXM c2);have ζ:=bK a c2;rw[aZG c2] at p;generalize hy:a[z+P.length+1]=y at *
   have ey:IntKind.u64.wrap ((y:Nat):Int)=((y:Nat):Int):=bA Om;have β:shift .shl .u64 (y:Int) ((32:Nat):Int)=some (.int .u64 ((2 ^ 32*y:Nat):Int)):=GF (by decide) Om;have ι:=orI (a:=x) (b:=2 ^ 32*y) (n:=x+2 ^ 32*y) Om Om (Ft Om Om) Om;simp only[go_sem,U,Hw,ew,ζ,ey,show shift .shl .u64 (y:Int) 32=_ from β,ι];refine fin (x+2 ^ 32*y) _ Om ?_ rfl rfl rfl rfl rfl _ ?_
   ·rw[← θ,p];simp only[val];omega
   ·intro v' F2 H2 e1 e2 e3;refine aM (α:=List Nat × PV × PH) (P++[(x+2 ^ 32*y)/2 ^ s%4294967296],v',H2) ⟨by simp; omega,by simpa using e3,e2⟩ (by simp; omega) ?_ PH.le_refl;simp only[aXN,aXR];exact e1
  ·have U:¬ ((z+P.length+1:Nat):Int)<(a.length:Nat):=Om;rw[a0W (l:=a) (i:=z+P.length+1) Om] at p;simp only[go_sem,U];refine fin x _ Om ?_ rfl rfl rfl rfl rfl _ ?_
   ·rw[← θ,p];simp only[val];omega
   ·intro v' F2 H2 e1 e2 e3;refine aM (α:=List Nat × PV × PH) (P++[x/2 ^ s%4294967296],v',H2) ⟨by simp; omega,by simpa using e3,e2⟩ (by simp; omega) ?_ PH.le_refl;simp only[aXN,aXR];exact e1
 ·have e:z+P.length=a.length:=Om;have R:¬ ((z+P.length:Nat):Int)<(a.length:Nat):=Om;have hV:val P=val (a.drop z)/2 ^ s:=by rw[hD];refine mP (Nat.lt_of_le_of_lt (a0F _ _) ?_);have:=eK δ;rw[aZI] at this;rw[show P.length=a.length-z by omega];exact this
  have hs:=L.trim _ γ Om;rw[hV,← hR] at hs;simp only[go_sem,R,sy];refine rP hs hO rfl fun F1 H1 _=>?_;simp only[go_sem];exact bB (.inr rfl) .nil rfl PH.nil_le ⟨.refl _,rfl⟩
structure AQ (C:Ctx):Prop extends wb C where
 bits:∀ xs,Lim xs→xs.length≤35184372087808→aH C 31 [aG xs] .nil (aL (.int .i64 (cF (val xs):Nat)))
 upM:∀ (a:List Nat) (n:Nat),Lim a→a.length≤8388608→n≤8388608→(a.length=0→val a=0)→aH C 45 [aG a,.int .i64 n] .nil (mQ 1 (aF (aI (val a*2 ^ n))))
 down:∀ (a:List Nat) (n:Nat),Lim a→a.length≤8388608→n≤1000000000→aH C 40 [aG a,.int .i64 n] .nil (aL (aG (aI (val a/2 ^ n))))
def udS:Spec:=fun name vs=>match name,vs with
 | 35,[.int _ v]=>some ([],fun _=>aL (aG (aI v.toNat)))
 | 44,[x,y]=>some ([],fun _=>aL (aG (aI (val (kC x)*val (kC y)))))
 | 32,[x,.osl q _ _ _]=>some ([q],fun i r H'=>H'=i∧∀ xs,Lim xs→i q=some (.rows 1 (aF xs))→r=.int .i64 (dW (val (kC x)) (val xs)))
 | _,_=>none
theorem awE (v:Nat):udS 35 [.int .u64 v]=some ([],fun _=>aL (aG (aI v))):=rfl
theorem alG (x y:List Nat):udS 44 [aG x,aG y]=some ([],fun _=>aL (aG (aI (val x*val y)))):=by
 show some ([],fun _=>aL (aG (aI (val (kC (aG x))*val (kC (aG y))))))=_; rw[eP,eP]
theorem apS (q:Nat) (x L:List Nat):(PH.nil.set q (.rows 1 (aF L)))=(PH.nil.set q (.rows 1 (aF L)))∧∀ xs,Lim xs→(PH.nil.set q (.rows 1 (aF L))) q=some (.rows 1 (aF xs))→(PV.int .i64 (dW (val x) (val L)))=.int .i64 (dW (val (kC (aG x))) (val xs)):=by
 refine⟨rfl,fun xs i e=>?_⟩;rw[cD] at e;have:aF L=aF xs:=(bX.rows.inj (aZS.inj e)).2;rw[LS this,eP]
def duF (n o l:Nat) (y:List Nat) (top p i:Nat) (k:Int):PF :=
 ((((((PF.nil.set 10 (.int .i64 n)).set 11 (.osl o 1 0 l)).set 12 (aG y)).set 13 (.int .u64 top)).set 14 (.osl p 1 0 i)).set 15 (.int .i64 k))
abbrev dP (X:List Nat) (Z:List (List PV)):List (List PV):=aF X++Z
theorem HI {X:List Nat} {Z:List (List PV)} {i:Nat} (h:i<X.length):(dP X Z)[i]?=some [.int .u32 ((X[i]:Nat):Int)]:=by
 rw[dP,a0C (by rw[bR]; exact h),bK X h]
theorem uh {X:List Nat} {Z:List (List PV)} {i:Nat} (h:i<X.length) (v:Nat):(dP X Z).set i [.int .u32 (v:Int)]=dP (X.set i v) Z:=by
 rw[dP,List.set_append_left _ _ (by rw[bR]; exact h),eZ]
theorem ug {X:List Nat} {Z:List (List PV)} {j m:Nat} (h:j+m≤X.length):((dP X Z).drop j).take m=aF ((X.drop j).take m):=by
 rw[dP,List.drop_append_of_le_length (by rw[bR]; omega),List.take_append_of_le_length (by rw[aZI,bR]; omega)];unfold aF;rw[← List.map_drop,← List.map_take]
theorem aKY {C:Ctx} (L:AQ C) (n o R:Nat) (y:List Nat) (top J lq j:Nat) (X:List Nat) (Z:List (List PV)) (θ:J≠o) (hy:Lim y) (hX:Lim X) (μ:X.length=R) (hl:R≤5000) (hj:j+(y.length+1)≤R) (ε:0<val y)
  (qv:bX) (g0:Nat) (hg:val ((X.drop j).take (y.length+1))/val y≤g0) (η:g0<4294967296) (K:bT) (F:PF) (H:PH) (hF:((duF n o R y top J lq j).set 17 (.int .u64 g0)).le F) (hH:((PH.nil.set o (.rows 1 (dP X Z))).set J qv).le H)
  (hK:∀ F' H',((duF n o R y top J lq j).set 17 (.int .u64 (val ((X.drop j).take (y.length+1))/val y:Nat))).le F'→((PH.nil.set o (.rows 1 (dP X Z))).set J qv).le H'→K .normal F' H') :
  aA.wp C (.block 4 (.loop sQ)) K F H:=by
 have i:¬ o=J:=fun h=>θ h.symm;have l:((X.drop j).take (y.length+1)).length=y.length+1:=by rw[aYA,aZI]; omega
 have U:Lim ((X.drop j).take (y.length+1)):=(hX.drop _).take _;have β:=ug (X:=X) (Z:=Z) (j:=j) (m:=y.length+1) Om;have γ:j+(y.length+1)≤(dP X Z).length:=by rw[dP,aXN,bR]; omega
 have ζ:aF ((X.drop j).take (y.length+1))≠[]:=fun h=>by have:=congrArg List.length h;rw[bR,l] at this;simp at this
 generalize hW:(X.drop j).take (y.length+1)=W at *
 generalize δ:val W/val y=qq at *
 simp only[go_sem];refine wp_loop (α:=Nat) (fun g=>(duF n o R y top J lq j).set 17 (.int .u64 g)) (fun _=>(PH.nil.set o (.rows 1 (dP X Z))).set J qv) (fun g=>qq≤g∧g<4294967296) (fun g=>g) g0 ⟨hg,η⟩ hF hH ?_;rintro g ⟨κ,hlt⟩;have e1:IntKind.i64.wrap ((j:Int)+(y.length:Int))=((j+y.length:Nat):Int):=fN Om;have e2:IntKind.i64.wrap (((j+y.length:Nat):Int)+1)=((j+y.length+1:Nat):Int):=cP Om;have b1:(j:Int)≤((j+y.length+1:Nat):Int):=Om;have b2:((j+y.length+1:Nat):Int)≤(R:Nat):=Om;have b3:j+y.length+1-j=y.length+1:=Om;have mk:=L.make g Om;have tm:=L.times y (aI g) hy (bC _) Om (by have h1:nl g≤1:=nI (by rw[Nat.pow_one]; exact hlt);rw[bH]; omega)
 rw[aY] at tm;have ι:(aI (val y*g)).length≤35184372087808:=by have h1:nl g≤1:=nI (by rw[Nat.pow_one]; exact hlt);have h2:=tG (a:=val y) (b:=g) (eY hy) h1;rw[bH]; omega
 have cm:=L.cmp (aI (val y*g)) W (bC _) U ι Om;rw[aY] at cm;simp only[go_sem,sQ];refine cJ .nil udS PH.nil_le ?_;simp only[go_sem,RM,duF];refine cW (awE g) mk Sq PH.nil_le ?_;simp only[go_sem];have tS:=alG y (aI g);rw[aY] at tS;refine cW tS tm Sq PH.nil_le ?_;simp only[go_sem,aXI,e1,e2,b1,b2,b3];refine rO (src:=aF W) ?_ ?_ (fun h=>absurd h ζ) fun _ o' p=>?_
 ·simp only[go_sem,i,γ,β]
 ·unfold roomFor;rw[bR,l];simp only[maxLen]; omega
 refine⟨PH.nil_le,?_⟩;rw[bR,l];have n1:¬ o'=J:=(gD.1 p).1;refine aqB (o:=o') (s:=1) (rs:=aF W) (vs:=[aG (aI (val y*g)),.osl o' 1 0 (y.length+1)]) (v:=.int .i64 (dW (val y*g) (val W))) rfl (.int _ _) Sq ?_ ?_ ?_ Sq PH.nil_le ?_
 ·rw[aYU,aYU,aZN,vF (by rw[bR,l]; exact aXL _),aXY (by rw[bR,l]; exact aXL _)];exact cm
 ·have:=apS o' (aI (val y*g)) W;rw[aY] at this;exact this
 ·rintro r H' ⟨h1,h2⟩;have:=h2 W U (by rw[cD]);rw[eP,aY] at this;exact⟨this,h1⟩
 simp only[go_sem];by_cases c:val W<val y*g
 ·have hc:dW (val y*g) (val W)=1:=by unfold dW;rw[if_neg Om,if_pos c]
  have hq:qq<g:=by rw[← δ]; exact (a0H ε).2 (by rw[aYI]; exact c)
  have ew:IntKind.u64.wrap ((g:Int)-1)=((g-1:Nat):Int):=by rw[wrap_u64 Om Om]; omega
  simp only[go_sem,hc,show (1:Int)>0 by decide,RN,ew];refine aM (g-1) ⟨by omega,by omega⟩ Om ?_ ?_
  ·exact Lq
  ·refine PH.aJ (PH.aJ PH.nil_le ?_) ?_
   ·have n2:¬ o=o':=fun h=>by subst h;rw[aQ,if_neg i,cD] at p;cases p
    simp only[go_sem,n2,i]
   ·have n3:¬ J=o':=fun h=>n1 h.symm;simp only[go_sem,n3]
 ·have hc:¬ dW (val y*g) (val W)>0:=by unfold dW;rw[if_neg c];split<;>decide
  have hq:g=qq:=by
   have:g≤qq:=by rw[← δ]; exact (Nat.le_div_iff_mul_le ε).2 (by rw[aYI]; omega)
   omega
  simp only[go_sem,hc];refine hK _ _ ?_ ?_
  ·unfold duF
   (repeat' (first|exact PF.nil_le|refine PF.aJ ?_ ?_))<;>first|(simp only[go_sem,← hq]<;>rfl)|rfl
  ·refine PH.aJ (PH.aJ PH.nil_le ?_) ?_
   ·have n2:¬ o=o':=fun h=>by subst h;rw[aQ,if_neg i,cD] at p;cases p
    simp only[go_sem,n2,i]
   ·have n3:¬ J=o':=fun h=>n1 h.symm;simp only[go_sem,n3]
theorem aBR (R k:Nat) (h:k<nl R):∃ J:k<(aI R).length,(aI R)[k]=R/4294967296 ^ k%4294967296:=by
 have i:k<(aI R).length:=by rw[bH]; exact h
 refine⟨i,?_⟩;have l:=sH (bC R) (Nat.le_of_lt i);rw[aY,aZG i] at l;have p:=bC R _ (aXM i);simp only[val] at l;rw[← l,Nat.add_mul_mod_self_left,aYR p]
theorem arM (R k:Nat) (h:nl R≤k):R/4294967296 ^ k%4294967296=0:=by
 rw[a0S ((gQ R k).1 h)]
theorem aEC {A P W Z:List Nat} {i:Nat} (l:P.length=i) (hi:i<W.length) (v:Nat):(A++(P++W.drop i)++Z).set (A.length+i) v=A++((P++[v])++W.drop (i+1))++Z :=
 LS (by rw[← eZ]; exact BI l hi v)
theorem aNZ {C:Ctx} (n o lx:Nat) (y:List Nat) (top U lq j:Nat) (X:List Nat) (Z:List (List PV)) (δ:U≠o) (η:X.length=lx) (hl:lx≤5000) (hj:j+(y.length+1)≤lx)
  (qv:bX) (g R:Nat) (K:bT) (F:PF) (H:PH) (hF:((((duF n o lx y top U lq j).set 17 (.int .u64 g)).set 18 (aG (aI R))).set 19 (.int .i64 0)).le F) (hH:((PH.nil.set o (.rows 1 (dP X Z))).set U qv).le H)
  (hK:∀ F' H',((duF n o lx y top U lq j).set 17 (.int .u64 g)).le F'→((PH.nil.set o (.rows 1 (dP (X.take j++dL (y.length+1) R++X.drop (j+(y.length+1))) Z))).set U qv).le H'→K .normal F' H') :
  aA.wp C (.block 6 (.loop sR)) K F H:=by
 have p:¬ o=U:=fun h=>δ h.symm;have hA:(X.take j).length=j:=by rw[aYA]; omega
 have μ:((X.drop j).take (y.length+1)).length=y.length+1:=by rw[aYA,aZI]; omega
 have ο:(X.drop (j+(y.length+1))).length=lx-(j+(y.length+1)):=by rw[aZI,η]
 have β:X.take j++(X.drop j).take (y.length+1)++X.drop (j+(y.length+1))=X:=by rw[aYQ,← List.drop_drop,a0E,a0E]
 rw[← β] at hH;generalize ι:X.take j=A at *
 generalize κ:(X.drop j).take (y.length+1)=W at *
 generalize ξ:X.drop (j+(y.length+1))=J at *
 simp only[go_sem];refine wp_loop (α:=List Nat) (fun P=>(((duF n o lx y top U lq j).set 17 (.int .u64 g)).set 18 (aG (aI R))).set 19 (.int .i64 P.length)) (fun P=>(PH.nil.set o (.rows 1 (dP (A++(P++W.drop P.length)++J) Z))).set U qv)
  (fun P=>P.length≤y.length+1∧P=dL P.length R) (fun P=>y.length+1-P.length) [] ⟨aXU _,rfl⟩ hF (by simpa using hH) ?_
 rintro P ⟨hP,hD⟩;simp only[go_sem,sR,RP,duF];by_cases c:P.length<y.length+1
 ·have c':(P.length:Int)≤(y.length:Nat):=Om;have ei:IntKind.i64.wrap ((j:Int)+(P.length:Int))=((j+P.length:Nat):Int):=fN Om;have θ:(A++(P++W.drop P.length)++J).length=lx:=by simp only[aXN,aZI]; omega
  have hi:j+P.length<(A++(P++W.drop P.length)++J).length:=Om;have b1:((j+P.length:Nat):Int)<(lx:Nat):=Om;have r1:=HI (Z:=Z) hi;have s1:=uh (Z:=Z) hi 0;have ε:j+P.length<((A++(P++W.drop P.length)++J).set (j+P.length) 0).length:=by rw[aZM]; exact hi
  have l:=fun v=>aEC (A:=A) (P:=P) (W:=W) (Z:=J) (i:=P.length) rfl Om v;rw[hA] at l;generalize ν:A++(P++W.drop P.length)++J=XX at *
  have r2:(dP (A++((P++[0])++W.drop (P.length+1))++J) Z)[j+P.length]?=some [.int .u32 ((0:Nat):Int)]:=by rw[← l 0,HI ε,List.getElem_set_self]
  have s2:∀ v,(dP (A++((P++[0])++W.drop (P.length+1))++J) Z).set (j+P.length) [.int .u32 ((v:Nat):Int)]=dP (A++((P++[v])++W.drop (P.length+1))++J) Z:=by intro v;rw[← l 0,uh ε,List.set_set,l]
  have aWU:=sY P.length R;rw[← hD] at aWU;have ew:IntKind.i64.wrap ((P.length:Int)+1)=((P.length+1:Nat):Int):=cP Om;simp only[go_sem,c',RQ,ei,b1,p,r1,show ([PV.int .u32 (0:Int)])=[PV.int .u32 ((0:Nat):Int)] from rfl,s1,RR,bH];by_cases c2:P.length<nl R
  ·have γ:(P.length:Int)<(nl R:Nat):=Om;obtain⟨ζ,hv⟩:=aBR R P.length c2;have hr:=bK (aI R) ζ;rw[hv] at hr;simp only[go_sem,γ,RS,hr,ei,b1,p,r2,s2,List.set_set,l,AE,ew];refine aM (P++[R/4294967296 ^ P.length%4294967296]) ⟨by simp; omega,by rw[aXN,aXR]; exact aWU.symm⟩ (by simp; omega) ?_ ?_
   ·rw[aXN,aXR];exact Lq
   ·rw[aXN,aXR];refine PH.aJ (PH.aJ PH.nil_le ?_) ?_<;>simp only[go_sem,p,show ¬ U=o from δ]
  ·have γ:¬ (P.length:Int)<(nl R:Nat):=Om;have hv:=arM R P.length Om;rw[hv] at aWU;simp only[go_sem,γ,l,AE,ew];refine aM (P++[0]) ⟨by simp; omega,by rw[aXN,aXR]; exact aWU.symm⟩ (by simp; omega) ?_ ?_
   ·rw[aXN,aXR];exact Lq
   ·rw[aXN,aXR];refine PH.aJ (PH.aJ PH.nil_le ?_) ?_<;>simp only[go_sem,p,show ¬ U=o from δ]
 ·have c':¬ (P.length:Int)≤(y.length:Nat):=Om;have e:P.length=y.length+1:=Om;simp only[go_sem,c'];refine hK _ _ (by unfold duF; exact Lq) ?_;have h2:A++dL (y.length+1) R++J=A++(P++W.drop P.length)++J:=by rw[a0W Om,aZK,← e,← hD]
  rw[h2];exact PH.le_refl
theorem arD {y W:List Nat} {m:Nat} (hy:Lim y) (hW:Lim W) (β:y.length=m+1) (α:W.length=m+2) (ht:0<y[m]):val W/val y≤(4294967296*W[m+1]+W[m])/y[m]:=by
 have R:=bW y (Om:m<y.length);rw[aXY Om] at R;have l:=bW W (Om:m+1<W.length);rw[aXY Om,bW W (Om:m<W.length)] at l;have p:=eK (hW.take m);rw[aYA,aZQ Om] at p;have J:0<4294967296 ^ m:=a0A (by decide);have U:4294967296 ^ m*y[m]≤val y:=Om;have i:0<4294967296 ^ m*y[m]:=Nat.mul_pos J ht;have e:val W=val (W.take m)+4294967296 ^ m*(4294967296*W[m+1]+W[m]):=by rw[l,aZB,aXS,aYC]; omega
 refine aZD (Nat.div_le_div_left U i) ?_;rw[← Nat.div_div_eq_div_mul,e,Nat.add_mul_div_left _ _ J,a0S p,aYD];exact aXL _
theorem alH {C:Ctx} (L:AQ C) (U0 n o p i l m:Nat) (y z:List Nat) (ε:l≠o) (hy:Lim y) (γ:y.length=m+1) (ht:0<y[m]) (l':p=i+(m+1)) (η:p≤5000) (X:List Nat) (hI:nA U0 (val y) (m+1) p i i X (aXK i 0)) (K:bT) (F:PF) (H:PH)
  (hF:(duF n o p y (y[m]) l i ((i:Int)-1)).le F) (hH:((PH.nil.set o (.rows 1 (dP X (aF z)))).set l (.rows 1 (aF (aXK i 0)))).le H)
  (hK:∀ X' Q' F' H',nA U0 (val y) (m+1) p i 0 X' Q'→(duF n o p y (y[m]) l i (-1)).le F'→((PH.nil.set o (.rows 1 (dP X' (aF z)))).set l (.rows 1 (aF Q'))).le H'→K .normal F' H') :
  aA.wp C (.block 2 (.loop sS)) K F H:=by
 have J:¬ o=l:=fun h=>ε h.symm;have v':¬ l=o:=ε;have hV:val y<4294967296 ^ (m+1):=by have:=eK hy; rw[γ] at this; exact this
 have υ:0<val y:=by have h1:=bW y (Om:m<y.length);rw[aXY Om] at h1;have:0<4294967296 ^ m*y[m]:=Nat.mul_pos (a0A (by decide)) ht;omega
 have A':=hy _ (aXM (Om:m<y.length));generalize htop:y[m]=top at *
 simp only[go_sem];refine wp_loop (α:=Nat × List Nat × List Nat) (fun t=>duF n o p y top l i ((t.1:Int)-1)) (fun t=>(PH.nil.set o (.rows 1 (dP t.2.1 (aF z)))).set l (.rows 1 (aF t.2.2)))
  (fun t=>t.1≤i∧nA U0 (val y) (m+1) p i t.1 t.2.1 t.2.2) (fun t=>t.1) (i,X,aXK i 0) ⟨aXL _,hI⟩ hF hH ?_
 rintro⟨k,X,Q⟩ ⟨hk,hI⟩;simp only at hk hI;simp only[go_sem,sS,RH,duF];by_cases h0:0<k
 ·obtain⟨j,rfl⟩:∃ j,k=j+1:=⟨k-1,by omega⟩;have hz:((j+1:Nat):Int)-1=(j:Int):=Om;have i':(j:Int)≥0:=Om;have dst:=yd hI hV Om l';rw[show m+1+1=m+2 from rfl] at dst;obtain⟨hlt,a'⟩:=dst;have φ:=hI.lu';have w':=hI.lq';have δ:((X.drop j).take (m+2)).length=m+2:=by rw[aYA,aZI]; omega
  have ι:Lim ((X.drop j).take (m+2)):=(hI.limU.drop _).take _;have y':m+1<((X.drop j).take (m+2)).length:=Om;have x':m<((X.drop j).take (m+2)).length:=Om;have a1:j+(m+1)<X.length:=Om;have a0:j+m<X.length:=Om;have w1:((X.drop j).take (m+2))[m+1]=X[j+(m+1)]:=by simp
  have w0:((X.drop j).take (m+2))[m]=X[j+m]:=by simp
  have ψ:=arD hy ι γ δ (by rw[htop]; exact ht);rw[w1,w0,htop] at ψ;have r1:=HI (Z:=aF z) a1;have r0:=HI (Z:=aF z) a0;have l1:=hI.limU _ (aXM a1);have l0:=hI.limU _ (aXM a0);generalize C':X[j+(m+1)]=x1 at *
  generalize B':X[j+m]=x0 at *
  have e1:IntKind.i64.wrap ((j:Int)+(y.length:Int))=((j+(m+1):Nat):Int):=by rw[γ]; exact fN Om
  have e0:IntKind.i64.wrap (((j+(m+1):Nat):Int)-1)=((j+m:Nat):Int):=by rw[wrap_i64 Om Om]; omega
  have b1:((j+(m+1):Nat):Int)<(p:Nat):=Om;have b0:((j+m:Nat):Int)<(p:Nat):=Om;have Ψ:IntKind.u64.wrap ((x1:Nat):Int)=((x1:Nat):Int):=bA Om;have Φ:IntKind.u64.wrap ((x0:Nat):Int)=((x0:Nat):Int):=bA Om;have ξ:shift .shl .u64 (x1:Int) 32=some (.int .u64 ((2 ^ 32*x1:Nat):Int)):=GF (s:=32) Om Om;have Ξ:(2:Nat) ^ 32=4294967296:=by decide
  have μ:=orI (a:=2 ^ 32*x1) (b:=x0) (n:=2 ^ 32*x1+x0) Om Om (Nat.two_pow_add_eq_or_of_lt Om x1).symm Om;rw[Ξ] at ξ μ;have e':¬ ((top:Nat):Int)=0:=Om;have Δ:(4294967296*x1+x0)/top<18446744073709551616:=Nat.lt_of_le_of_lt (a0F _ _) Om;have ν:IntKind.u64.wrap (Int.tdiv ((4294967296*x1+x0:Nat):Int) ((top:Nat):Int))=(((4294967296*x1+x0)/top:Nat):Int):=by rw[show Int.tdiv ((4294967296*x1+x0:Nat):Int) ((top:Nat):Int)=(((4294967296*x1+x0)/top:Nat):Int) from rfl];exact bA Δ
  have Θ:val ((X.drop j).take (m+2))/val y<4294967296:=(a0H υ).2 (by rw[aYI]; exact hlt);have χ:=ug (X:=X) (Z:=aF z) (j:=j) (m:=m+2) Om;have ω:j+(m+2)≤(dP X (aF z)).length:=by rw[dP,aXN,bR]; omega
  have κ:val ((X.drop j).take (m+2))-val y*(val ((X.drop j).take (m+2))/val y)=val ((X.drop j).take (m+2))%val y:=by have:=a0R (val ((X.drop j).take (m+2))) (val y);omega
  have β:val y*(val ((X.drop j).take (m+2))/val y)≤val ((X.drop j).take (m+2)):=Nat.mul_div_le _ _;clear w1 w0;have gu:=fun g0=>aKY (C:=C) L n o p y top l i j X (aF z) ε hy hI.limU φ η Om υ (.rows 1 (aF Q)) g0;rw[γ,show m+1+1=m+2 from rfl] at gu;generalize hW:(X.drop j).take (m+2)=W at *
  generalize z':val W/val y=qq at *
  have b':aF W≠[]:=fun h=>by have:=congrArg List.length h;rw[bR,δ] at this;simp at this
  have tail:∀ (g0:Nat) (F:PF) (H:PH),qq≤g0→g0<4294967296→((duF n o p y top l i j).set 17 (.int .u64 g0)).le F→((PH.nil.set o (.rows 1 (dP X (aF z)))).set l (.rows 1 (aF Q))).le H →
    aA.wp C (.seq (.block 4 (.loop sQ)) (.seq (.region AC) (.seq (.seq (.region AD) (.block 6 (.loop sR))) (.region AF)))) (fG 3 (fZ C (aA.wp C (.region AG)) (jD (fun (t:Nat × List Nat × List Nat)=>duF n o p y top l i ((t.1:Int)-1)) (fun t=>(PH.nil.set o (.rows 1 (dP t.2.1 (aF z)))).set l (.rows 1 (aF t.2.2))) (fun t=>t.1≤i∧nA U0 (val y) (m+1) p i t.1 t.2.1 t.2.2) (fun t=>t.1) (j+1) (fG 2 K)))) F H:=by
   intro g0 F H hg h' hF hH;have gu:=gu g0 hg h';simp only[go_sem] at gu;simp only[go_sem];refine gu _ F H hF hH ?_;intro F1 H1 R σ;have f11:F1 11=some (.osl o 1 0 p):=R 11 _ (by unfold duF; simp only[go_sem]);have θ:F1 12=some (aG y):=R 12 _ (by unfold duF; simp only[go_sem]);have ο:F1 15=some (.int .i64 j):=R 15 _ (by unfold duF; simp only[go_sem]);have ρ:F1 17=some (.int .u64 (qq:Nat)):=R 17 _ (by unfold duF; simp only[go_sem]);have Ω:F1 10=some (.int .i64 n):=R 10 _ (by unfold duF; simp only[go_sem]);have f13:F1 13=some (.int .u64 top):=R 13 _ (by unfold duF; simp only[go_sem]);have f14:F1 14=some (.osl l 1 0 i):=R 14 _ (by unfold duF; simp only[go_sem]);have ho:H1 o=some (.rows 1 (dP X (aF z))):=σ o _ (by simp only[go_sem,J]);have Γ:H1 l=some (.rows 1 (aF Q)):=σ l _ Sq;have b3:(j:Int)≤((j+(m+1)+1:Nat):Int):=Om;have b4:((j+(m+1)+1:Nat):Int)≤(p:Nat):=Om;have b5:j+(m+1)+1-j=m+2:=Om;have e2:IntKind.i64.wrap (((j+(m+1):Nat):Int)+1)=((j+(m+1)+1:Nat):Int):=cP Om;simp only[go_sem,AC,f11,ο,θ,aXI,e1,e2,b3,b4,b5];refine rO (src:=aF W) ?_ ?_ (fun h=>absurd h b') fun _ o' ζ=>?_
   ·simp only[go_sem,ho,ω,χ]
   ·unfold roomFor;rw[bR,δ];simp only[maxLen]; omega
   rw[bR,δ];have n1:¬ l=o':=fun h=>by subst h; rw[Γ] at ζ; cases ζ
   have n2:¬ o=o':=fun h=>by subst h; rw[ho] at ζ; cases ζ
   have nq:nl qq≤1:=nI (by rw[Nat.pow_one]; exact Θ);have tm:=L.times y (aI qq) hy (bC _) Om (by rw[bH]; omega);rw[aY] at tm;have nW:=eY ι;have mn:=L.minus W (aI (val y*qq)) ι (bC _) (by rw[aY]; exact β) (by rw[bH]; exact aZD (hC β) nW) Om;rw[aY,κ] at mn;have d':(aF W).take (m+2)=aF W:=aXY (by rw[bR]; omega);simp only[go_sem,ρ];refine aC (L.make qq Om) Sq ?_;simp only[go_sem,θ];refine aC tm Sq ?_;simp only[go_sem];refine pG (o:=o') (s:=1) (rs:=aF W) mn Sq (by simp only[go_sem,show m+2≤W.length by omega,d']) ?_;simp only[go_sem,AD];have g':(dP X (aF z)).map (fun r=>r.map (PV.cN o' 1 (aF W)))=dP X (aF z):=by
    have:dP X (aF z)=aF (X++z):=by simp[dP,aF]
    rw[this]; exact qA _ _ _ _
   have f':(aF Q).map (fun r=>r.map (PV.cN o' 1 (aF W)))=aF Q:=qA _ _ _ _;have ur:=aNZ (C:=C) n o p y top l i j X (aF z) ε φ η Om (.rows 1 (aF Q)) qq (val W%val y);rw[γ,show m+1+1=m+2 from rfl] at ur;simp only[go_sem] at ur;refine ur _ _ _ ?_ ?_ ?_
   ·unfold duF
    (repeat' (first|exact PF.nil_le|refine PF.aJ ?_ ?_))<;>first|(simp only[go_sem,Ω,f11,θ,f13,f14,ο,ρ,n1,n2]<;>rfl)|rfl
   ·refine PH.aJ (PH.aJ PH.nil_le ?_) ?_
    ·simp only[go_sem,J,n2,ho,bX.frz,g']
    ·simp only[go_sem,n1,Γ,bX.frz,f']
   intro F3 H3 U τ;have p':F3 10=some (.int .i64 n):=U 10 _ (by unfold duF; simp only[go_sem]);have q':F3 11=some (.osl o 1 0 p):=U 11 _ (by unfold duF; simp only[go_sem]);have r':F3 12=some (aG y):=U 12 _ (by unfold duF; simp only[go_sem]);have s':F3 13=some (.int .u64 top):=U 13 _ (by unfold duF; simp only[go_sem]);have Λ:F3 14=some (.osl l 1 0 i):=U 14 _ (by unfold duF; simp only[go_sem]);have t':F3 15=some (.int .i64 j):=U 15 _ (by unfold duF; simp only[go_sem]);have u':F3 17=some (.int .u64 qq):=U 17 _ (by unfold duF; simp only[go_sem]);have m':H3 o=some (.rows 1 (dP (X.take j++dL (m+2) (val W%val y)++X.drop (j+(m+2))) (aF z))):=τ o _ (by simp only[go_sem,J]);have n':H3 l=some (.rows 1 (aF Q)):=τ l _ Sq;have k':j<Q.length:=Om;have rq:=bK Q k';have j':(j:Int)<(i:Nat):=Om;have sq:=eZ Q j qq;have ec:IntKind.u32.wrap ((qq:Nat):Int)=((qq:Nat):Int):=by rw[cA,aYR Θ]
   have ej:IntKind.i64.wrap ((j:Int)-1)=(j:Int)-1:=wrap_i64 Om Om;simp only[go_sem,AF,Λ,t',u',j',n',rq,ec,sq,AG,ej];refine aM (α:=Nat × List Nat × List Nat) (j,_,_) ⟨by simp only; omega,a'⟩ (by simp only; omega) ?_ ?_
   ·unfold duF
    (repeat' (first|exact PF.nil_le|refine PF.aJ ?_ ?_))<;>first|(simp only[go_sem,p',q',r',s',Λ]<;>rfl)|rfl
   ·refine PH.aJ (PH.aJ PH.nil_le ?_) ?_
    ·simp only[go_sem,J,m']
    ·simp only[go_sem]
  simp only[aA.wp,go_sem] at tail;simp only[go_sem,hz,i'];refine cJ .nil eU PH.nil_le ?_;simp only[go_sem,RI,e1,e0,b1,b0,J,r1,r0,Ψ,Φ,ξ,μ,RJ,e',ν,RK];by_cases c:(4294967296*x1+x0)/top>4294967295
  ·have c':(((4294967296*x1+x0)/top:Nat):Int)>4294967295:=Om;simp only[go_sem,c',RL];exact tail 4294967295 _ _ Om (by decide) (by unfold duF; exact Lq) PH.le_refl
  ·have c':¬ (((4294967296*x1+x0)/top:Nat):Int)>4294967295:=Om;simp only[go_sem,c'];exact tail _ _ _ ψ Om (by unfold duF; exact Lq) PH.le_refl
 ·have:k=0:=Om;subst this;have hz:¬ ((0:Nat):Int)-1≥0:=by decide
  simp only[go_sem,hz];refine hK X Q _ _ hI ?_ PH.le_refl;unfold duF
  (repeat' (first|exact PF.nil_le|refine PF.aJ ?_ ?_))<;>first|(simp only[go_sem,show ((0:Nat):Int)-1=-1 from rfl]<;>rfl)|rfl
def awD (a:List Nat) (d q k r:Nat):PF:=(((((PF.nil.set 0 (aG a)).set 1 (aG [d])).set 6 (.osl q 1 0 a.length)).set 7 (.int .u64 r)).set 8 (.int .i64 ((k:Int)-1)))
theorem Xm {C:Ctx} (L:AQ C) (a:List Nat) (d:Nat) (ha:Lim a) (p:0<d) (hd:d<4294967296) (h1:a.length≤1000) (F:PF) (f0:F 0=some (aG a)) (f1:F 1=some (aG [d])) :
  aA.wp C (.seq (.region GL) (.seq (.region GM) (.seq (.seq (.region GN) (.block 0 (.loop zW))) (.seq (.region zX) .ret)))) (aW [.tmp 4,.tmp 5] (cG (nG (val a) d))) F .nil:=by
 have ο:(a.length:Int)*((4:Nat):Int)≤140737488355328:=Om;have ρ:(a.length:Int)≤9223372036854775807:=Om;have hz:aXK a.length [PV.int .u32 0]=aF (aXK a.length 0++[]):=by simp[aF]
 simp only[go_sem,GL,f0,aXI,ο,ρ,hz];refine aT fun o ho=>?_;simp only[go_sem,GM,GN,f0,aXI];refine wp_loop (α:=Nat × List Nat × Nat) (fun t=>awD a d o t.1 t.2.2) (fun t=>PH.nil.set o (.rows 1 (aF (aXK t.1 0++t.2.1))))
  (fun t=>t.1+t.2.1.length=a.length∧Lim t.2.1∧t.2.2<d∧val t.2.1*d+t.2.2=val (a.drop t.1)) (fun t=>t.1) (a.length,[],0) ⟨by simp,by simp[Lim],p,by simp[val]⟩ ?_ ?_ ?_
 ·unfold awD
  (repeat' (first|exact PF.nil_le|refine PF.aJ ?_ ?_))<;>first|(simp only[go_sem,f0,f1,wrap_i64 (Om:-9223372036854775808≤(a.length:Int)-1) (Om:(a.length:Int)-1≤9223372036854775807)]<;>rfl)|rfl
 ·exact PH.aJ PH.nil_le Sq
 rintro⟨k,S,r⟩ ⟨hk,l,hr,i⟩;simp only at hk l hr i;simp only[go_sem,zW,dk,awD];by_cases h0:0<k
 ·obtain⟨m,rfl⟩:∃ m,k=m+1:=⟨k-1,by omega⟩;have U:((m+1:Nat):Int)-1=(m:Int):=Om;have ν:(m:Int)≥0:=Om;have R:m<a.length:=Om;have hlt:(m:Int)<(a.length:Nat):=Om;have τ:=ha _ (aXM R);have J:val (a.drop m)=a[m]+4294967296*val (a.drop (m+1)):=by rw[aZG R]; rfl
  have κ:=bK a R;generalize hx:a[m]=x at *
  have ex:IntKind.u64.wrap ((x:Nat):Int)=((x:Nat):Int):=bA Om;have ed:IntKind.u64.wrap ((d:Nat):Int)=((d:Nat):Int):=bA Om;have ε:shift .shl .u64 (r:Int) 32=some (.int .u64 ((2 ^ 32*r:Nat):Int)):=GF (s:=32) Om Om;have θ:(2:Nat) ^ 32=4294967296:=by decide
  have β:=orI (a:=2 ^ 32*r) (b:=x) (n:=2 ^ 32*r+x) Om Om (Nat.two_pow_add_eq_or_of_lt Om r).symm Om;rw[θ] at ε β;have hq:(4294967296*r+x)/d<4294967296:=by rw[a0H p];have:4294967296*(r+1)≤4294967296*d:=aZR _ hr;omega
  have μ:¬ ((d:Nat):Int)=0:=Om;have γ:IntKind.u64.wrap (Int.tdiv ((4294967296*r+x:Nat):Int) ((d:Nat):Int))=(((4294967296*r+x)/d:Nat):Int):=by rw[show Int.tdiv ((4294967296*r+x:Nat):Int) ((d:Nat):Int)=(((4294967296*r+x)/d:Nat):Int) from rfl];exact bA Om
  have δ:Int.tmod ((4294967296*r+x:Nat):Int) ((d:Nat):Int)=(((4294967296*r+x)%d:Nat):Int):=rfl;have ec:IntKind.u32.wrap (((4294967296*r+x)/d:Nat):Int)=(((4294967296*r+x)/d:Nat):Int):=by rw[cA,aYR hq]
  have ζ:aXK (m+1) 0++S=aXK m 0++(0::S):=by rw[List.replicate_succ',aYQ]; rfl
  have ξ:(aF (aXK m 0++(0::S)))[m]?=some [.int .u32 ((0:Nat):Int)]:=by rw[bK _ (by simp)]; simp
  have η:(aF (aXK m 0++(0::S))).set m [.int .u32 (((4294967296*r+x)/d:Nat):Int)]=aF (aXK m 0++(((4294967296*r+x)/d)::S)):=by rw[eZ,a0L _ _ (by simp)]; simp
  simp only[go_sem,U,ν,dl,ε,κ,ex,β,dp,ed,μ,γ,ec,hlt,ζ,ξ,η,RC,δ,RD];refine aM (m,((4294967296*r+x)/d)::S,(4294967296*r+x)%d) ⟨by simp only[aZA]; omega,fun y hy=>?_,aYW _ p,?_⟩ (by simp only; omega) ?_ (PH.aJ PH.nil_le Sq)
  ·rw[aXP] at hy;rcases hy with rfl | hy
   ·exact hq
   ·exact l y hy
  ·simp only[val];rw[J,← i,aYM,aXS,aYC];have:=a0R (4294967296*r+x) d;rw[aYI d] at this;omega
  ·(repeat' (first|exact PF.nil_le|refine PF.aJ ?_ ?_))<;>first|(simp only[go_sem,wrap_i64 (Om:-9223372036854775808≤(m:Int)-1) (Om:(m:Int)-1≤9223372036854775807)]<;>rfl)|rfl
 ·have:k=0:=Om;subst this;have U:¬ ((0:Nat):Int)-1≥0:=by decide
  rw[aYO] at i;have hS:S.length=a.length:=Om;have hq:val S=val a/d:=by rw[← i,aYI,Nat.mul_add_div p,a0S hr,aZP]
  have σ:r=val a%d:=by rw[← i,aYI,Nat.mul_add_mod,aYR hr]
  have υ:aXK 0 0++S=S:=by simp
  have hl:=L.trim S l Om;have ι:(aF S).take a.length=aF S:=aXY (by rw[bR]; omega);simp only[go_sem,U,zX,List.nil_append];refine pG (o:=o) (s:=1) (rs:=aF S) hl Sq (by simp only[go_sem,ι,show a.length≤S.length by omega]) ?_;simp only[go_sem];refine aC (L.make r Om) Sq ?_;simp only[go_sem];refine bB (vs:=[aG (aI (val S)),aG (aI r)]) (.inr rfl) .nil Ev PH.nil_le ⟨?_,rfl⟩;rw[hq,σ];exact .refl _
theorem azR {B m:Nat} (h:nl B=m+1):32*m<cF B∧cF B≤32*(m+1):=by
 refine⟨?_,(pX B (m+1)).2 Om⟩;rcases aXZ (32*m) (cF B) with i | i
 ·exact i
 ·have:=(pX B m).1 i;omega
theorem azS {B:Nat} (h:B≠0):2 ^ (cF B-1)≤B:=by
 rcases aXZ B (2 ^ (cF B-1)) with i | i
 ·have l:=(kP B _).2 i;have p:cF B≠0:=fun e=>h (iY.1 e);omega
 ·exact i
theorem df {C:Ctx} (L:AQ C) (A B:Nat) (hB:B≠0) (hA:nl A≤512) (h':nl B≤512) :
  wW.wp C (aW BK.res (cG (nG A B))) (PF.args [aG (aI A),aG (aI B)]) .nil:=by
 have LA:=bC A;have LB:=bC B;have vA:=aY A;have vB:=aY B;have lA:(aI A).length=nl A:=rfl;have lB:(aI B).length=nl B:=rfl;simp only[go_sem,wW,dg,dh,BK];refine aC (L.cmp _ _ LA LB Om Om) rfl ?_;rw[vA,vB];by_cases c1:A<B
 ·have hc:dW A B<0:=by simp[dW,c1]
  simp only[go_sem,hc,di];refine aC (L.trim _ LA Om) rfl ?_;rw[vA];simp only[go_sem];refine bB (vs:=[.aB,aG (aI A)]) (.inr rfl) .nil rfl PH.nil_le ⟨?_,rfl⟩;rw[nG,a0S c1,aYR c1,fJ];exact CoL.tup (CoL.cons (.nil 1) (CoL.cons (.refl _) .nil))
 have hc:¬ dW A B<0:=by unfold dW;rw[if_neg c1];split<;>decide
 have Λ:0<B:=aZU hB;have n':nl B≠0:=fun h=>hB (jU.1 h);simp only[go_sem,hc,dj,aXI,lB];by_cases c2:nl B=1
 ·have ε:B<4294967296:=by have:=(gQ B 1).1 Om; simpa using this
  have a':aI B=[B]:=mL hB ε;have sh:=Xm (C:=C) L (aI A) B LA Λ ε Om;rw[vA] at sh;simp only[aA.wp,go_sem] at sh;simp only[go_sem,bM (Om:((nl B:Nat):Int)=1)];exact sh _ rfl (by simp only[go_sem,a'])
 obtain⟨m,hm⟩:∃ m,nl B=m+1:=⟨nl B-1,by omega⟩;have m':1≤m:=Om;obtain⟨k',ν⟩:=azR hm;obtain⟨n,hn⟩:∃ n,n+cF B=32*(m+1):=⟨32*(m+1)-cF B,by omega⟩;have ο:n<32:=Om;have β:0<2 ^ n:=a0A (by decide);have η:B<2 ^ cF B:=(kP B _).1 (aXL _);have ζ:=azS hB;have ι:B*2 ^ n<4294967296 ^ (m+1):=by have:B*2 ^ n<2 ^ cF B*2 ^ n:=Nat.mul_lt_mul_of_pos_right η β;rw[← Nat.pow_add,show cF B+n=32*(m+1) by omega,Nat.pow_mul] at this;exact this
 have f':4294967296 ^ m*2147483648≤B*2 ^ n:=by have:2 ^ (cF B-1)*2 ^ n≤B*2 ^ n:=aYL _ ζ;rw[← Nat.pow_add,show cF B-1+n=32*m+31 by omega,Nat.pow_add,Nat.pow_mul] at this;exact this
 have nV:nl (B*2 ^ n)=m+1:=by
  have h1:=(gQ (B*2 ^ n) (m+1)).2 ι;rcases aXZ (nl (B*2 ^ n)) (m+1) with h | h
  ·have:=(gQ (B*2 ^ n) m).1 Om;have c':0<4294967296 ^ m:=a0A (by decide);omega
  ·omega
 have j':B*2 ^ n≠0:=Nat.mul_ne_zero hB Om;have q':nl (A*2 ^ n)≤nl A+1:=tG (aXL _) (nI (by rw[Nat.pow_one]; exact Nat.pow_lt_pow_right (a:=2) (m:=n) (n:=32) (by decide) ο));have Ψ:B*2 ^ n≤A*2 ^ n:=aYL _ Om;have r':m+1≤nl (A*2 ^ n):=by rw[← nV]; exact hC Ψ
 have i':A*2 ^ n≠0:=Om;have χ:IntKind.i64.wrap (32*((nl B:Nat):Int))=((32*(m+1):Nat):Int):=by rw[wrap_i64 Om Om]; omega
 have en:IntKind.i64.wrap (((32*(m+1):Nat):Int)-((cF B:Nat):Int))=(n:Int):=by rw[wrap_i64 Om Om]; omega
 have bt:=L.bits (aI B) LB Om;rw[vB] at bt;have ua:=L.upM (aI A) n LA Om Om (fun h=>by have:=eK LA; rw[h] at this; omega);have ub:=(L.upM (aI B) n LB Om Om (fun h=>by have:=eK LB; rw[h] at this; omega)).freeze;rw[vA] at ua;rw[vB] at ub;have tail:∀ (o:Nat) (F:PF) (H:PH),F 0=some (aG (aI A))→F 1=some (aG (aI B))→F 10=some (.int .i64 n)→F 11=some (.osl o 1 0 (nl (A*2 ^ n)+2))→F 12=some (aG (aI (B*2 ^ n)))→H o=some (.rows 1 (aF (aI (A*2 ^ n))++[[.int .u32 0],[.int .u32 0]])) →
   aA.wp C (.seq (.region zY) (.seq (.region zZ) (.seq (.region AA) (.seq (.seq (.region AB) (.block 2 (.loop sS))) (.seq (.region AH) .ret))))) (aW [.tmp 4,.tmp 5] (cG (nG A B))) F H:=by
  intro o F H f0 f1 ψ f11 ω hH;have LU:=bC (A*2 ^ n);have LV:=bC (B*2 ^ n);have vU:=aY (A*2 ^ n);have vV:=aY (B*2 ^ n);have lU:(aI (A*2 ^ n)).length=nl (A*2 ^ n):=rfl;have lV:(aI (B*2 ^ n)).length=m+1:=nV;have eu:IntKind.i64.wrap (((nl (A*2 ^ n):Nat):Int)+1)=((nl (A*2 ^ n)+1:Nat):Int):=cP Om;have b1:((nl (A*2 ^ n)+1:Nat):Int)≤((nl (A*2 ^ n)+2:Nat):Int):=Om;simp only[go_sem,zY,f11,f0,ψ];refine aC ua.freeze rfl ?_;obtain⟨l,l'⟩:∃ l,nl (A*2 ^ n)+1-(m+1)=l:=⟨_,rfl⟩;have b':nl (A*2 ^ n)+1=l+(m+1):=Om;have em:IntKind.i64.wrap (((m+1:Nat):Int)-1)=((m:Nat):Int):=by rw[wrap_i64 Om Om]; omega
  have R:m<(aI (B*2 ^ n)).length:=Om;have rm:=bK (aI (B*2 ^ n)) R;have tl:=LV _ (aXM R);have htop:0<(aI (B*2 ^ n))[m]:=by
   have h1:=bW (aI (B*2 ^ n)) R;rw[aXY Om,vV] at h1;have h2:=eK (LV.take m);rw[aYA,aZQ Om] at h2;have c':0<4294967296 ^ m:=a0A (by decide);rcases aZX (aI (B*2 ^ n))[m] with h | h
   ·rw[h] at h1; omega
   ·exact h
  have φ:2147483648≤(aI (B*2 ^ n))[m]:=by
   have h1:=bW (aI (B*2 ^ n)) R;rw[aXY Om,vV] at h1;have h2:=eK (LV.take m);rw[aYA,aZQ Om] at h2;rcases aXZ (aI (B*2 ^ n))[m] 2147483648 with h | h
   ·exfalso;have h3:4294967296 ^ m*((aI (B*2 ^ n))[m]+1)≤4294967296 ^ m*2147483648:=aZR _ h;rw[aXS,Nat.mul_one] at h3;omega
   ·exact h
  have U:=alH (C:=C) L (A*2 ^ n) n o (nl (A*2 ^ n)+1) l;have hI:nA (A*2 ^ n) (val (aI (B*2 ^ n))) (m+1) (nl (A*2 ^ n)+1) l l (aI (A*2 ^ n)++[0]) (aXK l 0):=by
   refine⟨by rw[aXN,lU]; rfl,List.length_replicate,LU.app fun x hx=>by simp at hx; omega,tC _,?_,?_,fun i x _ hx=>I7 hx⟩
   ·rw[fK,vU,qI]; simp[val]
   ·have g':(aI (A*2 ^ n)++[0]).length=nl (A*2 ^ n)+1:=by rw[aXN,lU]; rfl
    have e':val (aI (A*2 ^ n)++[0])=A*2 ^ n:=by rw[fK,vU]; simp[val]
    rw[sH (LU.app fun x hx=>by simp at hx; omega) Om,e',vV,a0H (a0A (by decide))];have h1:A*2 ^ n<4294967296 ^ nl (A*2 ^ n):=(gQ _ _).1 (aXL _);have hx:nl (A*2 ^ n)=m+l:=Om;rw[hx,Nat.pow_add] at h1;have h2:4294967296 ^ m*4294967296 ^ l≤(B*2 ^ n)*4294967296 ^ l:=aYL _ Om;omega
  have γ:aF (aI (A*2 ^ n))++[[PV.int .u32 0],[PV.int .u32 0]]=dP (aI (A*2 ^ n)++[0]) (aF [0]):=by simp[dP,aF]
  rw[γ] at hH;generalize υ:(aI (B*2 ^ n))[m]=top at *
  have et:IntKind.u64.wrap ((top:Nat):Int)=((top:Nat):Int):=bA Om;have k2:IntKind.i64.wrap (((nl (A*2 ^ n)+1:Nat):Int)-((m+1:Nat):Int))=((l:Nat):Int):=by rw[wrap_i64 Om Om]; omega
  have k3:((l:Nat):Int)*((4:Nat):Int)≤140737488355328:=Om;have k4:((l:Nat):Int)≤9223372036854775807:=Om;have hz:aXK l [PV.int .u32 0]=aF (aXK l 0):=by simp[aF]
  have jq:IntKind.i64.wrap ((l:Int)-1)=(l:Int)-1:=wrap_i64 Om Om;simp only[go_sem,aXI,lU,eu,b1,zZ,ω,lV,em,rm,et,AA,k2,k3,k4,hz];refine aT fun oq τ=>?_;have ρ:oq≠o:=by rintro rfl; rw[hH] at τ; cases τ
  have J:¬ o=oq:=fun h=>ρ h.symm;have key:=U oq m (aI (B*2 ^ n)) [0] ρ LV lV (by rw[υ]; exact htop) b' Om _ hI;rw[υ] at key;simp only[go_sem] at key;simp only[go_sem,AB,jq];refine key _ _ _ ?_ ?_ ?_
  ·unfold duF;exact Lq
  ·refine PH.aJ (PH.aJ PH.nil_le ?_) ?_
   ·simp only[go_sem,J,hH]
   ·simp only[go_sem]
  clear key U;intro X Q F1 H1 p α θ;have Γ:F1 10=some (.int .i64 n):=α 10 _ (by unfold duF; simp only[go_sem]);have Δ:F1 11=some (.osl o 1 0 (nl (A*2 ^ n)+1)):=α 11 _ (by unfold duF; simp only[go_sem]);have Θ:F1 14=some (.osl oq 1 0 l):=α 14 _ (by unfold duF; simp only[go_sem]);have σ:H1 o=some (.rows 1 (dP X (aF [0]))):=θ o _ (by simp only[go_sem,J]);have d':H1 oq=some (.rows 1 (aF Q)):=θ oq _ Sq;have hu:val X<val (aI (B*2 ^ n)):=by have:=p.r; rwa [aYO] at this
  have δ:=p.v;rw[vV] at hu δ;have Φ:val Q=A/B:=by
   have:A*2 ^ n/(B*2 ^ n)=val Q:=by rw[← δ,Nat.add_mul_div_right _ _ Om,a0S hu,aYD]
   rw[← this,Nat.mul_div_mul_right _ _ β]
  have Ω:val X/2 ^ n=A%B:=by
   have:A*2 ^ n%(B*2 ^ n)=val X:=by rw[← δ,Nat.add_mul_mod_self_right,aYR hu]
   rw[← this,Nat.mul_mod_mul_right,Nat.mul_div_cancel _ β]
  have lX:=p.lu';have lQ:=p.lq';have Ξ:(aF Q).take l=aF Q:=aXY (by rw[bR]; omega);have μ:(dP X (aF [0])).take (nl (A*2 ^ n)+1)=aF X:=by rw[dP,List.take_append_of_le_length (by rw[bR]; omega),aXY (by rw[bR]; omega)]
  have κ:nl (A*2 ^ n)+1≤(dP X (aF [0])).length:=by rw[dP,aXN,bR]; omega
  have ξ:(dP X (aF [0])).map (fun r=>r.map (PV.cN oq 1 (aF Q)))=dP X (aF [0]):=by
   have:dP X (aF [0])=aF (X++[0]):=by simp[dP,aF]
   rw[this]; exact qA _ _ _ _
  have nX:=eY p.limU;have t1:=L.trim Q p.limQ Om;have t2:=L.trim X p.limU Om;have dn:=L.down (aI (val X)) n (bC _) (by rw[bH]; omega) Om;rw[aY,Ω] at dn;rw[Φ] at t1;generalize aF [0]=Z0 at σ μ κ ξ;simp only[go_sem,AH,Θ];refine pG (o:=oq) (s:=1) (rs:=aF Q) t1 d' (by simp only[go_sem,Ξ,show l≤Q.length by omega]) ?_;simp only[go_sem,Δ,J];refine pG (o:=o) (s:=1) (rs:=dP X Z0) t2 (by simp only[go_sem,J,σ,bX.frz,ξ]) (by simp only[go_sem,μ,κ]) ?_;simp only[go_sem,Γ];refine aC dn rfl ?_;simp only[go_sem];exact bB (vs:=[aG (aI (A/B)),aG (aI (A%B))]) (.inr rfl) .nil rfl PH.nil_le ⟨.refl _,rfl⟩
 simp only[aA.wp,go_sem] at tail;simp only[go_sem,bF (Om:¬ ((nl B:Nat):Int)=1),RE,aXI,lB];refine aC bt rfl ?_;simp only[go_sem,χ,en,RG];refine lF ua rfl PH.nil_le fun r H1 hr _=>?_;have ν:(2:Nat)*1≤16777216:=by decide
 rcases hr with ⟨h0,_⟩ | ⟨o,rs,rfl,rfl,hrl,hrt⟩
 ·exfalso;have:=congrArg List.length h0;rw[bR,bH] at this;simp at this;omega
 rw[PH.nK];rw[bR,bH] at hrl hrt;simp only[go_sem,ν,bR,bH];refine I4 (src:=[[.int .u32 0],[.int .u32 0]]) (rs:=rs) rfl ?_ Sq hrl ?_ fun o' p'=>?_
 ·unfold roomFor;simp only[maxLen,aZA,aZV]; omega
 ·rw[hrt];simp only[go_sem];refine aC ub rfl ?_;simp only[go_sem];exact tail o _ _ rfl rfl rfl rfl rfl Sq
 ·rw[hrt];simp only[go_sem];refine aC ub rfl ?_;simp only[go_sem];exact tail o' _ _ rfl rfl rfl rfl rfl Sq
def aE (C:Ctx) (k:Nat) (i:aS):Prop:=∀ (args:List PV) (H:PH) (R:PV→PH→Prop),args.length≤i.ntmps→i.body.wp C (aW i.res R) (PF.args args) H→aH C k args H R
theorem aE.go {C:Ctx} {k:Nat} {i:aS} (r:aE C k i) {args:List PV} {H:PH} {R:PV→PH→Prop} (h:i.body.wp C (aW i.res R) (PF.args args) H) (l:Nat.ble args.length i.ntmps=true):aH C k args H R:=r args H R (Nat.le_of_ble_eq_true l) h
theorem bD {C:Ctx} (T:Tbl) (p:C.P=T.P) (l:C.num=T.num) {k:Nat} {fn:Func} {i:aS} (R:C.P.funcs[C.num k]?=some fn) (hm:(fn.name=="runtime.NumGoroutine")=false) (J:T.func fn=some i):aE C k i:=fun _ _ _ U h=>abF p l R hm J U h
structure fL (C:Ctx):Prop where
 r0:aE C 0 KN
 r1:aE C 1 aw
 r2:aE C 2 Dp
 r4:aE C 4 OW
 r5:aE C 5 D3
 r7:aE C 7 OU
 r20:aE C 20 aJH
 r23:aE C 23 aJN
 r27:aE C 27 KJ
 r28:aE C 28 Dz
 r29:aE C 29 ba
 r30:aE C 30 awB
 r31:aE C 31 de
 r32:aE C 32 Hg
 r33:aE C 33 udiv
 r34:aE C 34 Hx
 r35:aE C 35 du
 r36:aE C 36 awH
 r37:aE C 37 awP
 r38:aE C 38 fa
 r39:aE C 39 BK
 r40:aE C 40 dt
 r41:aE C 41 NJ
 r42:aE C 42 NK
 r43:aE C 43 d6
 r44:aE C 44 NR
 r45:aE C 45 uup
 r47:aE C 47 Ip
 r50:aE C 50 PJ
 r58:aE C 58 BN
 r59:aE C 59 fk
 r95:aE C 95 A6
 r96:aE C 96 Bz
 r97:aE C 97 JR
 r98:aE C 98 YS
 r99:aE C 99 YT
 r100:aE C 100 YU
 r101:aE C 101 gone
 r102:aE C 102 YV
 r103:aE C 103 JS
 r104:aE C 104 gin
 r105:aE C 105 A8
 r106:aE C 106 A9
 r107:aE C 107 YY
 r108:aE C 108 YZ
 r109:aE C 109 KB
 r110:aE C 110 ZA
 r111:aE C 111 gk
 r112:aE C 112 Bd
 r113:aE C 113 JG
 r114:aE C 114 za
 r115:aE C 115 OJ
 r116:aE C 116 vE
 r117:aE C 117 SO
 r118:aE C 118 JQ
 r119:aE C 119 y7
 r120:aE C 120 oC
 r121:aE C 121 JP
 r122:aE C 122 YR
 r123:aE C 123 OS
 r124:aE C 124 BC
 r125:aE C 125 BD
 r126:aE C 126 vL
 r127:aE C 127 D4
 r128:aE C 128 bd
 r129:aE C 129 El
 r130:aE C 130 Er
 r131:aE C 131 Ex
 r132:aE C 132 cf
 r133:aE C 133 E6
 r134:aE C 134 Ff
 r135:aE C 135 cj
 r136:aE C 136 BE
 r137:aE C 137 LO
 r138:aE C 138 sA
 r139:aE C 139 wP
 r140:aE C 140 LT
 r141:aE C 141 LW
 r142:aE C 142 tH
 r143:aE C 143 nup
 r147:aE C 147 tat
 r148:aE C 148 aKS
 r149:aE C 149 aEU
 r150:aE C 150 aKT
 r151:aE C 151 aKM
 r152:aE C 152 aNW
 r153:aE C 153 aET
 r154:aE C 154 aNX
 r155:aE C 155 aKN
 r156:aE C 156 aNV
 r157:aE C 157 aKU
 r158:aE C 158 aNY
 r159:aE C 159 aKX
 r160:aE C 160 aKV
 r161:aE C 161 aKW
theorem jT {C:Ctx} (c:fL C):nO C :=
 have len:∀ xs,Lim xs→xs.length≤35184372087808→aH C 138 [aG xs] .nil (aL (.int .i64 (nl (val xs):Nat))):=fun xs h l=>c.r138.go (ce xs h l) rfl
 {length:=len
  large:=fun xs h l=>c.r137.go (qt xs (len xs h l)) rfl
  sized:=fun xs h l=>(c.r141.go (rt xs h (len xs h l)) rfl).seen
  trim:=fun xs h l=>(c.r135.go (Fm xs h l (len xs h l)) rfl).seen
  make:=fun v h=>c.r132.go (Ez v h len) rfl
  cmp:=fun xs ys i p J R=>c.r129.go (Pz xs ys i p J R (len xs i J) (len ys p R)) rfl }
theorem Uo {C:Ctx} (c:fL C):VX C :=
 {subtract:=fun A W Z v f o hW J p l R i=>c.r142.go (MA A W Z v f hW J p l R i o) rfl
  restore:=fun A W Z v o hW J p l=>c.r139.go (QQ A W Z v hW J p l o) rfl }
theorem UC {C:Ctx} (c:fL C):RY C :=
 {L:=jT c
  D:=Uo c
  up:=fun a s l U i=>c.r143.go (adI a s l U i) rfl
  short:=fun a d l p J i=>c.r140.go (qz (jT c) a d l p J i) rfl
  lengthO:=fun xs o hx R=>c.r138.go (QO xs hx R o) rfl }
theorem wN {C:Ctx} (c:fL C) (A B:Nat) (hB:B≠0) (l:nl A≤900) (i:nl B≤900):aH C 136 [aG (aI A),aG (aI B)] .nil (aL (nG A B)) :=
 (c.r136.go (bf (UC c) A B hB l i) rfl).seen
theorem kJ {C:Ctx} (c:fL C):oY C :=
 {jT c with
  bits:=fun xs h l=>c.r128.go (Eb xs h l ((jT c).length xs h l)) rfl
  add:=fun xs ys i p J R=>(c.r127.go (Ps (jT c) xs ys i p J R) rfl).seen
  sub:=fun xs ys i p J R=>(c.r134.go (Qv (jT c) xs ys i p J R) rfl).seen
  mul:=fun xs ys i p J R=>(c.r133.go (Qq (jT c) xs ys i p J R) rfl).seen
  gcd:=fun xs ys i p J R=>(c.r131.go (Qi (jT c) (wN c) xs ys i p J R) rfl).seen
  div:=fun xs ys i p J R=>(c.r130.go (Qa (jT c) (wN c) xs ys i p J R) rfl).seen }
theorem oE {C:Ctx} (c:fL C):xA C :=
 {kJ c with
  times:=fun a b i p l J R U=>c.r121.go (mp (kJ c) a b i p l J R U) rfl
  zero:=fun neg a b i l=>c.r122.go (zn (kJ c) neg a b i l) rfl
  valid:=fun neg a b i p l J=>c.r118.go (mw (kJ c) neg a b i p l J) rfl
  abs:=fun v h1 h2=>c.r119.go (Mr (kJ c) v h1 h2) rfl
  lowest:=fun neg a b i p l J R U h0=>(c.r120.go (YE (kJ c) neg a b i p l J R U h0) rfl).seen }
theorem JN {C:Ctx} (c:fL C) (x y:RF) (i:x.Ok) (l:y.Ok):aH C 113 [.agg x.cells,.agg y.cells] .nil (aL (frV (iW x.v y.v))) :=
 (c.r113.go (Mw (oE c) x.neg y.neg x.num x.den y.num y.den i.1 i.2.1 l.1 l.2.1 i.2.2.1 i.2.2.2 l.2.2.1 l.2.2.2) rfl).seen
theorem DA {C:Ctx} (c:fL C):VT C :=
 {oE c with
  frac:=fun n d U J=>(c.r115.go (zg (oE c) n d U.1 U.2 J.1 J.2) rfl).seen
  red:=fun x i=>by rw[← cu];exact (c.r116.go (YK (oE c) x.neg x.num x.den i.1 i.2.1 i.2.2.1 i.2.2.2) rfl).seen
  ord:=fun x y i p=>(c.r114.go (M6 (oE c) x.neg y.neg x.num x.den y.num y.den i.1 i.2.1 p.1 p.2.1 i.2.2.1 i.2.2.2 p.2.2.1 p.2.2.2) rfl).seen
  plus:=JN c
  tot:=fun l R=>(c.r117.go (Nd (oE c) (JN c) l R.all R.fits) rfl).seen }
theorem nZ {C:Ctx} (c:fL C):pI C :=
 have inn:∀ n lo hi:Int,aH C 104 [.int .i64 n,.int .i64 lo,.int .i64 hi] .nil (aL (.bool (within n lo hi))):=fun n lo hi=>(c.r104.go (abU n lo hi) rfl).seen;have mS:∀ x:RF,x.Ok→aH C 97 [.agg x.cells] .nil (aL (.bool (bP x))):=fun x R=>(c.r97.go (m5 (kJ c) x R) rfl).seen;have lim:∀ x:RF,x.Ok→aH C 105 [.agg x.cells] .nil (aL (.bool (eH x))):=fun x R=>(c.r105.go (N4 (DA c) x R) rfl).seen;have i:∀ n:Nat,aH C 126 [.int .u8 n] .nil (aL (.bool (fV n))):=fun n=>c.r126.go (ZI n) rfl;have J:∀ n:Nat,aH C 124 [.int .u8 n] .nil (aL (.bool (pB n))):=fun n=>c.r124.go (n9 n) rfl
 {DA c with
  inn:=inn
  mS:=mS
  lim:=lim
  one:=fun x R=>(c.r101.go (Ob (DA c) x R) rfl).seen
  allf:=fun p fn l U h=>(c.r99.go (Ac p fn l U h) rfl).seen
  alli:=fun p fn l U h=>(c.r100.go (Am p fn l U h) rfl).seen
  allb:=fun p fn l U h=>(c.r98.go (zr p fn l U h) rfl).seen
  ends1:=fun b=>(c.r103.go (m8 b) rfl).seen
  num1:=fun n=>(c.r107.go (Ba inn n) rfl).seen
  rate1:=fun x R=>(c.r109.go (nr lim mS x R) rfl).seen
  name:=fun s=>c.r123.go (Cv i (fun n=>c.r125.go (oe i J n) rfl) s) rfl }
theorem JK {C:Ctx} (c:fL C):VS C :=
 {nZ c with
  num:=fun p i=>(c.r106.go (N7 (nZ c) p i) rfl).seen
  rate:=fun p i=>(c.r108.go (Bh (nZ c) p i) rfl).seen
  uniq:=fun l J=>(c.r110.go (Bq (nZ c) l J) rfl).seen }
theorem JL {C:Ctx} (c:fL C):HU C :=
 {JK c with
  ends:=fun l p i=>(c.r102.go (Ay (nZ c) l p i) rfl).seen }
theorem zc {C:Ctx} (c:fL C):iV C :=
 {JL c with
  law:=fun l J=>(c.r95.go (Nv (JL c) l J) rfl).seen
  pol:=fun p n U R=>(c.r112.go (Of (JK c) p U n R) rfl).seen
  aWI:=fun f i=>(c.r111.go (No (nZ c) f i) rfl).seen }
theorem gi {C:Ctx} (c:fL C) (f:aK) (i:f.Ok):aH C 96 [.agg f.cells] .nil (aL (.int .i64 (tU f))):=(c.r96.go (Or (zc c) f i) rfl).seen
theorem iR {C:Ctx} (c:fL C):mR C:={ trimM:=fun xs h l=>c.r38.go (Ii xs h l) rfl }
theorem MQ {C:Ctx} (c:fL C):VZ C :=
 {iR c with
  make:=fun v h=>(c.r35.go (Hy (iR c) v h) rfl).seen
  large:=fun xs h l=>(c.r41.go (s7 (iR c) xs h l) rfl).seen
  cmp:=fun xs ys i p J R=>c.r32.go (Rk (iR c) xs ys i p J R) rfl }
theorem Ga {C:Ctx} (c:fL C):wa C :=
 {MQ c with
  minus:=fun a b l p J U i=>(c.r42.go (ta (iR c) a b l p J U i) rfl).seen
  times:=fun a b l p i R=>(c.r44.go (tt (iR c) a b l p i R) rfl).seen }
theorem Gb {C:Ctx} (c:fL C):wb C :=
 {Ga c with
  plus:=fun a b p J i l=>(c.r43.go (Ib (iR c) a b p J i l) rfl).seen }
theorem Gc {C:Ctx} (c:fL C):AQ C :=
 {Gb c with
  bits:=fun xs h l=>c.r31.go (G6 (iR c) xs h l) rfl
  upM:=fun a n p i J R=>c.r45.go (alO (iR c) a n p i J R) rfl
  down:=fun a n p i J=>(c.r40.go (Hm (iR c) a n p i J) rfl).seen }
theorem wS {C:Ctx} (c:fL C):HW C :=
 {MQ c with
  divide:=fun A B hB l i=>(c.r39.go (df (Gc c) A B hB l i) rfl).seen }
theorem MR {C:Ctx} (c:fL C):WA C :=
 {wS c with
  gcd:=fun a b i l p J=>(c.r34.go (R4 (wS c) a b i l p J) rfl).seen
  div:=fun a b i l p J=>(c.r33.go (Rv (wS c) a b i l p J) rfl).seen }
theorem cp {C:Ctx} (c:fL C):u7 C :=
 {MR c with
  lowest:=fun neg a b p J R U na nb l=>(c.r58.go (fc (MR c) neg a b p J R U na nb l) rfl).seen
  size:=fun v i=>c.r59.go (Iw v i.1 i.2) rfl }
theorem MS {C:Ctx} (c:fL C):HX C :=
 {cp c with
  fmk:=fun n d l i=>(c.r50.go (Iq (cp c) n d l i) rfl).seen }
abbrev nB (C:Ctx):Prop:=∀ n:Nat,n<100→aH C 195 [.int .i64 n] .nil (aL (.str (bQ n)))
theorem ER {C:Ctx} (c:fL C) (hi:nB C):xC C :=
 {MS c with
  int:=fun n i=>(c.r47.go (Sh (MS c) n i) rfl).seen
  itoa:=hi
  next:=fun l v T o n a i p=>c.r4.go (D0 T o n a i p) rfl }
theorem KR {C:Ctx} (c:fL C) (hi:nB C):VV C :=
 {ER c hi with
  frac:=fun l v T o a i=>c.r1.go (Dc (ER c hi) T o a i) rfl }
theorem KT {C:Ctx} (c:fL C) (hi:nB C):oX C :=
 {KR c hi with
  rep:=fun l v T o a m p i=>c.r5.go (Pi (KR c hi) T o a m p i) rfl
  name:=fun s n R J=>c.r29.go (Dw (ER c hi) s n R J) rfl }
theorem KU {C:Ctx} (c:fL C) (hi:nB C):kT C :=
 {KT c hi with
  law:=fun l v T o dR a J i p=>c.r2.go (O6 (KT c hi) T o dR a J i p) rfl }
theorem kZ {f:aK} (h:VF f) {i:Nat} (hi:i<f.aWC.length):0≤lvl f i∧lvl f i≤4:=by
 rcases aZX i with e | e
 ·rw[e,h.root.2.1]; omega
 ·have:=h.dom i e hi; omega


theorem O5 (a b:Nat):mkT (a:Int) (b:Int)=⟨false,aI (a/aXJ a b),aI (b/aXJ a b)⟩:=by
 have i:decide ((a:Int)<0)=false:=decide_eq_false Om;have l:decide ((b:Int)<0)=false:=decide_eq_false Om;unfold mkT rX FV.rf;rw[i,l,Int.natAbs_natCast,Int.natAbs_natCast];rfl
structure SmF (x:RF) (p q:Nat):Prop where
 eq:x=⟨false,aI (p/aXJ p q),aI (q/aXJ p q)⟩
 a:p≤64
 b:q≤64
 pos:0<q
theorem SmF.mk' {a b:Nat} (i:a≤64) (l:b≤64) (h:0<b):SmF (mkT (a:Int) (b:Int)) a b:=⟨O5 a b,i,l,h⟩
theorem SmF.num {x:RF} {a b:Nat} (h:SmF x a b):val x.num=a/aXJ a b:=by rw[h.eq,aY]
theorem SmF.den {x:RF} {a b:Nat} (h:SmF x a b):val x.den=b/aXJ a b:=by rw[h.eq,aY]
theorem SmF.v {x:RF} {a b:Nat} (h:SmF x a b):x.v=(false,a/aXJ a b,b/aXJ a b):=by
 unfold RF.v;rw[h.num,h.den,h.eq]
theorem SmF.Fp {x:RF} {a b:Nat} (_:SmF x a b):a/aXJ a b≤a:=a0F ..
theorem SmF.x9 {x:RF} {a b:Nat} (_:SmF x a b):b/aXJ a b≤b:=a0F ..
theorem SmF.den_pos {x:RF} {a b:Nat} (h:SmF x a b):0<b/aXJ a b:=Nat.div_pos (Nat.le_of_dvd h.pos (Nat.gcd_dvd_right a b)) (Nat.gcd_pos_of_pos_right a h.pos)
theorem uZ {n:Nat} (h:n≤4096):cF n≤32:=(kP n 32).2 Om
theorem Jc {n:Nat} (h:0<n):0<cF n:=by
 rcases aZX (cF n) with e | e
 ·rw[iY] at e; omega
 ·exact e
theorem rN {a b:Nat} (l:a≤4096) (p:b≤4096) (h:0<b):dJ a b=true:=by
 have J:=uZ l;have R:=uZ p;have i:=Jc h;unfold dJ;rw[decide_eq_true i,decide_eq_true (Om:cF b≤4096),decide_eq_true (Om:cF a≤4096)];rfl
theorem O1 {n:Bool} {a b:Nat} (i:a≤4096) (l:b≤4096):jS n a b=.ok (n&&decide (a/aXJ a b≠0),a/aXJ a b,b/aXJ a b):=by
 have p:=uZ (aZD (a0F a (aXJ a b)) i);have J:=uZ (aZD (a0F b (aXJ a b)) l);unfold jS;rw[if_neg Om]
theorem SmF.lim {x:RF} {a b:Nat} (h:SmF x a b):eH x=true:=by
 have R:=h.Fp;have U:=h.x9;have i:=h.den_pos;have:=h.a;have:=h.b;have l:x.neg=false:=by rw[h.eq]
 unfold eH sD;rw[h.num,h.den,l,rN Om Om i,if_pos rfl,O1 Om Om];have p:=a0F (a/aXJ a b) (aXJ (a/aXJ a b) (b/aXJ a b));have J:=a0F (b/aXJ a b) (aXJ (a/aXJ a b) (b/aXJ a b));simp only[aXV,aYJ,aYE,aYB,decide_eq_true_eq];exact⟨uZ Om,uZ Om⟩
theorem SmF.mS {x:RF} {a b:Nat} (h:SmF x a b) (i:0<a):bP x=true:=by
 unfold bP;rw[h.num];exact decide_eq_true (Nat.ne_of_gt (Nat.div_pos (Nat.le_of_dvd i (Nat.gcd_dvd_left a b)) (Nat.gcd_pos_of_pos_right a h.pos)))
theorem SmF.zero {x:RF} {b:Nat} (h:SmF x 0 b):bP x=false:=by
 unfold bP;rw[h.num,Nat.zero_div];rfl
theorem SmF.one {x:RF} {a b:Nat} (h:SmF x a b) (i:a≤b):UW x=true:=by
 have J:=h.Fp;have R:=h.x9;have l:=h.den_pos;have:=h.a;have:=h.b;have p:x.neg=false:=by rw[h.eq]
 unfold UW;rw[h.num,h.den,p,rN Om Om l];have:a/aXJ a b≤b/aXJ a b:=Nat.div_le_div_right i;show (true&&decide (dW (a/aXJ a b*1) (1*(b/aXJ a b))≤0))=true;rw[Nat.mul_one,Nat.one_mul,aYE];refine decide_eq_true ?_;unfold dW;split
 ·decide
 ·split
  ·omega
  ·decide
theorem SmF.ok {x:RF} {a b:Nat} (h:SmF x a b):x.Ok:=by
 have i:=h.Fp;have l:=h.x9;have:=h.a;have:=h.b;have k1:nl (a/aXJ a b)≤1:=(gQ _ _).2 Om;have k2:nl (b/aXJ a b)≤1:=(gQ _ _).2 Om;rw[h.eq];refine⟨bC _,bC _,?_,?_⟩
 ·show (aI _).length≤_;rw[bH]; omega
 ·show (aI _).length≤_;rw[bH]; omega
theorem aAJ:∀ c:Fin 9,∀ k:Fin 9,c.val+k.val≤8 →
  (c.val/aXJ c.val 8*(8/aXJ k.val 8)+k.val/aXJ k.val 8*(8/aXJ c.val 8))/aXJ (c.val/aXJ c.val 8*(8/aXJ k.val 8)+k.val/aXJ k.val 8*(8/aXJ c.val 8)) (8/aXJ c.val 8*(8/aXJ k.val 8))=(c.val+k.val)/aXJ (c.val+k.val) 8 ∧
  8/aXJ c.val 8*(8/aXJ k.val 8)/aXJ (c.val/aXJ c.val 8*(8/aXJ k.val 8)+k.val/aXJ k.val 8*(8/aXJ c.val 8)) (8/aXJ c.val 8*(8/aXJ k.val 8))=8/aXJ (c.val+k.val) 8:=by decide +kernel
abbrev eV (c:Nat):FV:=(false,c/aXJ c 8,8/aXJ c 8)
theorem PR (c:Nat):0<8/aXJ c 8:=Nat.div_pos (Nat.le_of_dvd (by decide) (Nat.gcd_dvd_right c 8)) (Nat.gcd_pos_of_pos_right c (by decide))
theorem wi {c k:Nat} (h:c+k≤8):iW (eV c) (eV k)=.ok (eV (c+k)):=by
 obtain⟨i,l⟩:=aAJ ⟨c,by omega⟩ ⟨k,by omega⟩ h;simp only at i l;have a1:=a0F c (aXJ c 8);have a2:=a0F k (aXJ k 8);have a3:=a0F 8 (aXJ c 8);have a4:=a0F 8 (aXJ k 8);have p:=PR c;have J:=PR k;simp only[iW];rw[rN Om Om p,rN Om Om J,Bool.and_self,if_pos rfl,if_pos trivial];have b1:c/aXJ c 8*(8/aXJ k 8)≤8*8:=a0O Om a4;have b2:k/aXJ k 8*(8/aXJ c 8)≤8*8:=a0O Om a3;have R:8/aXJ c 8*(8/aXJ k 8)≤8*8:=a0O a3 a4;rw[O1 Om Om,i,l];rfl
theorem ND:∀ (l:List Nat) (c:Nat),c+l.sum≤8→(l.map eV).foldlM iW (eV c)=.ok (eV (c+l.sum))
 | [],c,_=>rfl
 | k::l,c,h=>by rw[List.sum_cons] at h;rw[aYU,List.foldlM_cons,wi Om,List.sum_cons,← aZO];exact ND l (c+k) Om
theorem aAI:eV 0=(false,0,1):=by decide +kernel
theorem aqH:eV 8=(false,1,1):=by decide +kernel
theorem aES (l:List Nat) (h:l.sum=8):(match oW (l.map eV) with
  | .ok (n,a,b)=>decide (tQ n a b false 1 1=0)
  | .error _=>false)=true:=by
 unfold oW;rw[← aAI,ND l 0 Om,aYD,h,aqH];rfl
def dig (k:Nat):List UInt8:=if k<10 then [UInt8.ofNat (48+k)] else [UInt8.ofNat (48+k/10),UInt8.ofNat (48+k%10)]
def PI:List UInt8→Nat
 | [a]=>a.toNat-48
 | [a,b]=>(a.toNat-48)*10+(b.toNat-48)
 | _=>0
theorem KF {k:Nat} (h:k<100):bQ k=dig k:=by
 unfold bQ dig;by_cases i:k<10
 ·rw[if_pos i]; exact Lib.decDigits_one i
 ·rw[if_neg i]; exact Lib.decDigits_two i h
theorem yb:∀ k:Fin 100,PI (dig k.val)=k.val∧(dig k.val).length≤2∧((dig k.val).all fun c=>gE c.toNat)=true:=by decide +kernel
theorem iu {p:List UInt8} {c:UInt8} {t:List UInt8} (e:p=c::t) (l:fV c.toNat=true) (U:(t.all fun c=>gE c.toNat)=true) (hl:p.length≤8) {k:Nat} (J:k<100):isName (p++bQ k)=true:=by
 obtain⟨-,R,i⟩:=yb ⟨k,J⟩;simp only at R i;subst e;rw[KF J];show (decide ((c::t++dig k).length≤16)&&fV c.toNat&&(c::t++dig k).all fun c=>gE c.toNat)=true;have hi:gE c.toNat=true:=by unfold gE; rw[l]; rfl
 rw[decide_eq_true (by rw[aXN]; omega),l,List.all_append,i,List.all_cons,U,hi];rfl
theorem PQ {l:List (List UInt8)} (p:∀ x∈l,isName x=true) (J:l.Nodup):distinct l=true:=by
 unfold distinct;rw[aYF];intro i hi;rw[aYV] at hi;have e:l.getD i []=l[i]:=by simp[aYK,hi]
 rw[e,p _ (aXM hi),aYE];have:¬ l[i]∈l.take i:=by intro U;obtain⟨j,R,e⟩:=aYZ U;rw[aYA] at R;rw[List.getElem_take] at e;have:=(List.nodup_iff_pairwise_ne.1 J);rw[List.pairwise_iff_getElem] at this;exact this j i Om hi Om e
 simp[this]
theorem LQ {l:List (List UInt8)} {g:List UInt8→Nat} (h:∀ i (hi:i<l.length),g l[i]=i):l.Nodup:=by
 rw[List.nodup_iff_pairwise_ne,List.pairwise_iff_getElem];intro i j hi J hlt e;have p:=h i hi;have R:=h j J;rw[e] at p;omega
theorem qR {l:List (List UInt8)} {p:List UInt8} {c:UInt8} {t:List UInt8} (e:p=c::t) (J:fV c.toNat=true) (U:(t.all fun c=>gE c.toNat)=true) (R:p.length≤8) (hn:l.length≤100) (h:∀ i (hi:i<l.length),l[i]=p++bQ i):distinct l=true:=by
 refine PQ ?_ (LQ (g:=fun s=>PI (s.drop p.length)) ?_)
 ·intro x hx;obtain⟨i,hi,rfl⟩:=aYZ hx;rw[h i hi];exact iu e J U R Om
 ·intro i hi;rw[h i hi];simp only[List.drop_left];rw[KF Om];exact (yb ⟨i,by omega⟩).1
structure qM (x:RF):Prop where
 lim:eH x=true
 ok:x.Ok
theorem SmF.o {x:RF} {a b:Nat} (h:SmF x a b):qM x:=⟨h.lim,h.ok⟩
theorem nN:SmF iH 0 1:=SmF.mk' (a:=0) (b:=1) (by decide) (by decide) (by decide)
theorem pQ (l:List Nat) (a:Nat):qM (eQ l a).1∧bP (eQ l a).1=true:=by
 have i:=bZ l (show 0<6 by decide) a;have p:=bZ l (show 0<8 by decide) (aD l 6 a).2;have:=SmF.mk' (a:=1+(aD l 6 a).1) (b:=1+(aD l 8 (aD l 6 a).2).1) Om Om Om;exact⟨this.o,this.mS Om⟩
theorem apN (l:List Nat) (i j a:Nat):qM (gJ l i j a).1∧(j=i→bP (gJ l i j a).1=false)∧(j=i+1→bP (gJ l i j a).1=true):=by
 unfold gJ;by_cases p:j=i+1
 ·rw[if_pos p];exact⟨(pQ l a).1,fun h=>by omega,fun _=>(pQ l a).2⟩
 ·rw[if_neg p];by_cases J:j=i
  ·rw[if_pos J];exact⟨nN.o,fun _=>nN.zero,fun h=>absurd h p⟩
  ·rw[if_neg J];simp only;split
   ·exact⟨(pQ l _).1,fun h=>absurd h J,fun h=>absurd h p⟩
   ·exact⟨nN.o,fun h=>absurd h J,fun h=>absurd h p⟩
theorem Re (l:List Nat) (i a:Nat):∀ n,(dA l i a n).1.length=n∧∀ j (p:j<(dA l i a n).1.length),qM (dA l i a n).1[j]∧(j=i→bP (dA l i a n).1[j]=false)∧(j=i+1→bP (dA l i a n).1[j]=true)
 | 0=>⟨rfl,fun j p=>absurd p (by simp[dA])⟩
 | n+1=>by
  obtain⟨J,R⟩:=Re l i a n;have e:(dA l i a (n+1)).1=(dA l i a n).1++[(gJ l i n (dA l i a n).2).1]:=rfl;rw[e];refine⟨by simp[J],fun j p=>?_⟩;by_cases hlt:j<(dA l i a n).1.length
  ·rw[List.getElem_append_left hlt]; exact R j hlt
  ·rw[aXN,aXR] at p;have:j=n:=Om;subst this;rw[a1A Om];simp only[List.getElem_singleton];exact apN l i j _
theorem Rb (l:List Nat) (a:Nat):∀ n,(jC l a n).1.length=n∧∀ x∈(jC l a n).1,qM x∧bP x=true
 | 0=>⟨rfl,fun x i=>by cases i⟩
 | n+1=>by
  obtain⟨p,J⟩:=Rb l a n;have e:(jC l a (n+1)).1=(jC l a n).1++[(eQ l (jC l a n).2).1]:=rfl;rw[e];refine⟨by simp[p],fun x i=>?_⟩;rw[aZC,aZW] at i;rcases i with i | rfl
  ·exact J x i
  ·exact pQ l _
theorem aqT (l:List Nat) (n i a:Nat):qM (eF l n i a).1∧(i+1=n→bP (eF l n i a).1=true):=by
 unfold eF;by_cases h:i+1<n
 ·simp only[if_pos h];refine⟨?_,fun p=>by omega⟩;split
  ·exact nN.o
  ·exact (pQ l a).1
 ·simp only[if_neg h];exact⟨(pQ l a).1,fun _=>(pQ l a).2⟩
def aIH (n:Nat) (aWE:List (List RF)):Prop:=∀ i (hi:i<aWE.length),aWE[i].length=n∧∀ j (l:j<aWE[i].length),qM aWE[i][j]∧(j=i→bP aWE[i][j]=false)∧(j=i+1→bP aWE[i][j]=true)
def aIA (n:Nat) (exit:List RF):Prop:=∀ i (hi:i<exit.length),qM exit[i]∧(i+1=n→bP exit[i]=true)
structure aPY (n i:Nat) (s:yK) (cs:List Nat):Prop where
 start:s.start=cs.map fun c=>mkT ((c:Nat):Int) ((8:Nat):Int)
 lens:s.exit.length=i∧s.aWE.length=i∧cs.length=i
 left:cs.sum+s.left=8∧(i=n→0<n→s.left=0)
 exit:aIA n s.exit
 aWE:aIH n s.aWE
theorem pU {α:Type} {P:Nat→α→Prop} {xs:List α} {x:α} (h:∀ i (hi:i<xs.length),P i xs[i]) (l:P xs.length x):∀ i (hi:i<(xs++[x]).length),P i (xs++[x])[i]:=by
 intro i hi;by_cases hlt:i<xs.length
 ·rw[List.getElem_append_left hlt]; exact h i hlt
 ·rw[aXN,aXR] at hi;have:i=xs.length:=Om;subst this;rw[a1A Om];simpa using l
theorem n6 (l:List Nat) (n a:Nat):∀ i,i≤n→∃ cs,aPY n i (fD l n a i) cs
 | 0,_=>⟨[],rfl,⟨rfl,rfl,rfl⟩,⟨rfl,fun h p=>by omega⟩,fun i hi=>absurd hi (by simp[fD]),fun i hi=>absurd hi (by simp[fD])⟩
 | i+1,hi=>by
  obtain⟨cs,R,⟨p,J,U⟩,⟨h5,-⟩,h6,h7⟩:=n6 l n a i Om;generalize hs:fD l n a i=s at *
  have e:fD l n a (i+1)=⟨s.start++[mkT ((cZ l n i s).1:Nat) 8],s.exit++[(eF l n i (cZ l n i s).2).1],s.aWE++[(dA l i (eF l n i (cZ l n i s).2).2 n).1],s.left-(cZ l n i s).1,(dA l i (eF l n i (cZ l n i s).2).2 n).2⟩:=by simp only[fD,hs]
  rw[e];have hk:(cZ l n i s).1≤s.left∧(i+1=n→(cZ l n i s).1=s.left):=by
   unfold cZ;split
   ·exact⟨by have:=bZ l (Om:0<s.left+1) s.a; omega,fun h=>by omega⟩
   ·exact⟨aXL _,fun _=>rfl⟩
  refine⟨cs++[(cZ l n i s).1],?_,⟨by simp[p],by simp[J],by simp[U]⟩,⟨?_,fun h _=>?_⟩,?_,?_⟩
  ·simp only[R,aYN,aYU,aZN]; rfl
  ·simp only[List.sum_append,List.sum_cons,List.sum_nil]; omega
  ·have:=hk.2 h;simp only; omega
  ·refine pU (P:=fun i x=>qM x∧(i+1=n→bP x=true)) h6 ?_;rw[p]; exact aqT l n i _
  ·refine pU (P:=fun i (r:List RF)=>r.length=n∧∀ j (hj:j<r.length),qM r[j]∧(j=i→bP r[j]=false)∧(j=i+1→bP r[j]=true)) h7 ?_;rw[J]; exact Re l i _ n
theorem aqN {x:cM} {e r:RF} (i:x.exit=[e]) (l:x.aWE=[[r]]) (p:bP e=true):qU x=true:=by
 unfold qU;rw[i];show ((fR x 2).all id)=true;simp only[fR,eI,kK,dO,i,l,aZA,aZV,List.getD_cons_zero,aYU,aZN,p];cases bP r<;>rfl
theorem MT {x:cM} {U e1 i l p J:RF} (h1:x.exit=[U,e1]) (h2:x.aWE=[[i,l],[p,J]]) (h3:bP e1=true) (h4:bP l=true) (a b:Bool) :
  ∃ c,eI x [a,b] 2=[c,true]∧(b=true→c=true)∧(a=true→c=true):=by
 have q1:kK x [a,b] 0=[((a||bP U)||bP i&&(a||bP U))||b,b]:=by unfold kK;rw[h1,h2];simp only[List.getD_cons_zero,aYU,a0Y];generalize (a||bP U)=c;show dO [c,b] 0 [i,l] 2=_;have:dO [c,b] 0 [i,l] 1=[c||bP i&&c,b]:=rfl;show (let R:=dO [c,b] 0 [i,l] 1; R.set 0 (R.getD 0 false||([i,l].map bP).getD 1 false&&R.getD 1 false))=_;rw[this];show [(c||bP i&&c)||(bP l&&b),b]=_;rw[h4,aYE]
 have q2:∀ c,kK x [c,b] 1=[c,true]:=by intro c;unfold kK;rw[h1,h2];have:dO [c,true] 1 [p,J] 1=[c,true||bP p&&c]:=rfl;show dO [c,b||bP e1] 1 [p,J] 2=_;rw[h3,Bool.or_true];show (let R:=dO [c,true] 1 [p,J] 1; R.set 1 (R.getD 1 false||([p,J].map bP).getD 1 false&&R.getD 1 false))=_;rw[this,Bool.true_or];show [c,true||bP J&&true]=_;rw[Bool.true_or]
 refine⟨_,by rw[show eI x [a,b] 2=kK x (kK x [a,b] 0) 1 from rfl,q1,q2],?_,?_⟩
 ·rintro rfl; rw[Bool.or_true]
 ·rintro rfl; simp
theorem aqO {x:cM} {p e1 α l β γ:RF} (i:x.exit=[p,e1]) (J:x.aWE=[[α,l],[β,γ]]) (R:bP e1=true) (U:bP l=true):qU x=true:=by
 unfold qU;rw[i];show ((fR x 3).all id)=true;have e:∀ r,fR x (r+1)=eI x (fR x r) 2:=fun r=>by rw[fR,i]; rfl
 have p:fR x 0=[false,false]:=by rw[fR,i]; rfl
 obtain⟨c1,k1,-,-⟩:=MT i J R U false false;obtain⟨c2,k2,k3,-⟩:=MT i J R U c1 true;obtain⟨c3,k4,k5,-⟩:=MT i J R U c2 true;rw[e,e,e,p,k1,k2,k4,k5 rfl];rfl
theorem Cs {c:Nat}:∀ {cs:List Nat},c∈cs→c≤cs.sum
 | k::t,h=>by
  rw[List.sum_cons];rcases aXP.1 h with rfl | h
  ·omega
  ·have:=Cs h; omega
theorem OR {α:Type} {l:List α} (h:l.length=2):∃ a b,l=[a,b]:=by
 match l,h with
 | [a,b],_=>exact⟨a,b,rfl⟩
theorem aKL (cs:List Nat) (h:cs.sum=8):(match oW ((cs.map fun c=>mkT ((c:Nat):Int) ((8:Nat):Int)).map RF.v) with
  | .ok (n,a,b)=>decide (tQ n a b false 1 1=0)
  | .error _=>false)=true:=by
 have l:∀ c∈cs,c≤8:=fun c i=>by have:=Cs i;omega
 have e:((cs.map fun c=>mkT ((c:Nat):Int) ((8:Nat):Int)).map RF.v)=cs.map eV:=by rw[List.map_map];refine a0X fun c i=>?_;have:=l c i;exact (SmF.mk' (a:=c) (b:=8) Om (by decide) (by decide)).v
 rw[e];exact aES cs h
theorem uY {α:Type} {p:α→Bool} {l:List α} (h:∀ i (hi:i<l.length),p l[i]=true):l.all p=true:=by
 rw[aYF];intro x J;obtain⟨i,hi,rfl⟩:=aYZ J;exact h i hi
theorem Uf (l:List Nat) (a:Nat) (nm:List UInt8):pS { (oS l 2 a).1 with name:=nm }=true∧({ (oS l 2 a).1 with name:=nm }:cM).Ok:=by
 obtain⟨n,hn⟩:∃ n,n=1+(aD l 2 a).1:=⟨_,rfl⟩;have κ:n=1∨n=2:=by have:=bZ l (show 0<2 by decide) a; omega
 obtain⟨cs,h1,⟨h2,h3,h4⟩,⟨h5,θ⟩,h6,h7⟩:=n6 l n (aD l 2 a).2 n (aXL _);generalize hs:fD l n (aD l 2 a).2 n=s at *
 have e:({ (oS l 2 a).1 with name:=nm }:cM)=⟨nm,s.start,s.aWE,s.exit⟩:=by simp only[oS,← hn,hs]
 rw[e];have ζ:cs.sum=8:=by have:=θ rfl Om; omega
 have ι:∀ c∈cs,c≤8:=fun c hc=>by have:=Cs hc;omega
 have J:∀ x∈s.start,qM x:=by intro x p;rw[h1] at p;obtain⟨c,hc,rfl⟩:=aYH.1 p;have:=ι c hc;exact (SmF.mk' (a:=c) (b:=8) Om (by decide) (by decide)).o
 have ξ:s.start.length=n:=by rw[h1,aXI,h4]
 have U:qU ⟨nm,s.start,s.aWE,s.exit⟩=true:=by
  rcases κ with rfl | rfl
  ·obtain⟨e,he⟩:=List.length_eq_one_iff.1 h2;obtain⟨υ,R⟩:=List.length_eq_one_iff.1 h3;have μ:=(h7 0 Om).1;obtain⟨r,ε⟩:=List.length_eq_one_iff.1 μ;have p:=(h6 0 Om).2 rfl;simp only[R,List.getElem_cons_zero] at ε;simp only[he,List.getElem_cons_zero] at p;exact aqN he (by rw[R,ε]) p
  ·obtain⟨e0,e1,he⟩:=OR h2;obtain⟨r0,r1,R⟩:=OR h3;have γ:=(h7 0 Om).1;have δ:=(h7 1 Om).1;have p:=(h6 1 Om).2 rfl;have hy:=((h7 0 Om).2 1 Om).2.2 rfl;simp only[he,List.getElem_cons_succ,List.getElem_cons_zero] at p;simp only[R,List.getElem_cons_succ,List.getElem_cons_zero] at γ δ hy;obtain⟨ο,ρ,α⟩:=OR γ;obtain⟨σ,τ,η⟩:=OR δ;simp only[α,List.getElem_cons_succ,List.getElem_cons_zero] at hy;exact aqO he (by rw[R,α,η]) p hy
 constructor
 ·unfold pS;simp only[aYB];refine⟨⟨⟨⟨⟨⟨⟨?_,?_⟩,?_⟩,?_⟩,?_⟩,?_⟩,?_⟩,U⟩
  ·rw[within_iff]; omega
  ·exact decide_eq_true Om
  ·exact decide_eq_true Om
  ·exact aYF.2 fun x p=>(J x p).lim
  ·exact uY fun i hi=>(h6 i hi).1.lim
  ·rw[aYF];intro i hi;rw[aYV] at hi;obtain⟨k1,k2⟩:=h7 i hi;have eg:s.aWE.getD i []=s.aWE[i]:=by simp[aYK,hi]
   rw[eg,aYB,aYB];refine⟨⟨decide_eq_true Om,uY fun j hj=>(k2 j hj).1.lim⟩,?_⟩;have β:i<s.aWE[i].length:=Om;rw[getD_at β,(k2 i β).2.1 rfl];rfl
  ·rw[h1]; exact aKL cs ζ
 ·have hf:∀ m:Nat,m≤2→m≤9223372036854775807:=fun m hm=>by omega
  have ν:n≤2:=Om;refine⟨⟨?_,fun x p=>(J x p).ok⟩,⟨?_,fun x p=>?_⟩,?_,fun r R=>⟨?_,fun x p=>?_⟩⟩
  ·exact hf s.start.length Om
  ·exact hf s.exit.length Om
  ·obtain⟨i,hi,rfl⟩:=aYZ p;exact (h6 i hi).1.ok
  ·exact hf s.aWE.length Om
  ·obtain⟨i,hi,rfl⟩:=aYZ R;have:=(h7 i hi).1;exact hf (s.aWE[i]'hi).length Om
  ·obtain⟨i,hi,rfl⟩:=aYZ R;obtain⟨j,hj,rfl⟩:=aYZ p;exact ((h7 i hi).2 j hj).1.ok
theorem PX (l:List Nat) (a:Nat):∀ n,(fP l a n).1.length=n∧∀ i (hi:i<(fP l a n).1.length),(fP l a n).1[i].name=[108,97,119]++bQ i∧pS (fP l a n).1[i]=true∧(fP l a n).1[i].Ok
 | 0=>⟨rfl,fun i hi=>absurd hi (by simp[fP])⟩
 | n+1=>by obtain⟨p,J⟩:=PX l a n;have e:(fP l a (n+1)).1=(fP l a n).1++[{ (oS l 2 (fP l a n).2).1 with name:=[108,97,119]++bQ n }]:=rfl;rw[e];refine⟨by simp[p],pU (P:=fun i (x:cM)=>x.name=[108,97,119]++bQ i∧pS x=true∧x.Ok) J ?_⟩;rw[p];exact⟨rfl,Uf l _ _⟩
theorem HN (l:List Nat) (aWG:Nat) (R:0<aWG) (a:Nat):∀ n,(dX l aWG a n).1.length=n∧∀ i (hi:i<(dX l aWG a n).1.length),(dX l aWG a n).1[i].name=[109]++bQ i∧∃ e p w:Nat,(dX l aWG a n).1[i].aWO=e∧1≤e∧e≤4∧(dX l aWG a n).1[i].port=p∧1≤p∧p≤8∧(dX l aWG a n).1[i].law=w∧w<aWG
 | 0=>⟨rfl,fun i hi=>absurd hi (by simp[dX])⟩
 | n+1=>by
  obtain⟨J,U⟩:=HN l aWG R a n;obtain⟨s,hs⟩:∃ s,s=dX l aWG a n:=⟨_,rfl⟩;have e:(dX l aWG a (n+1)).1=(dX l aWG a n).1++[⟨[109]++bQ n,(1+(aD l 4 s.2).1:Nat),(1+(aD l 8 (aD l 4 s.2).2).1:Nat),((aD l aWG (aD l 8 (aD l 4 s.2).2).2).1:Nat)⟩]:=by rw[hs]; rfl
  rw[e];refine⟨by simp[J],pU (P:=fun i (x:dK)=>x.name=[109]++bQ i∧∃ e p w:Nat,x.aWO=e∧1≤e∧e≤4∧x.port=p∧1≤p∧p≤8∧x.law=w∧w<aWG) U ?_⟩;rw[J];have k1:=bZ l (show 0<4 by decide) s.2;have k2:=bZ l (show 0<8 by decide) (aD l 4 s.2).2;have k3:=bZ l R (aD l 8 (aD l 4 s.2).2).2;exact⟨rfl,_,_,_,rfl,by omega,by omega,rfl,by omega,by omega,rfl,k3⟩
theorem uU (l:List Nat) (a:Nat):∃ n:Nat,(fQ l a).1=n∧n≤3:=by
 have h:=bZ l (show 0<3 by decide) (aD l 3 a).2;unfold fQ;simp only;split
 ·exact⟨1+(aD l 3 (aD l 3 a).2).1,rfl,by omega⟩
 ·exact⟨0,rfl,by omega⟩
theorem eA {n lo hi:Int} (i:lo≤n) (l:n≤hi):within n lo hi=true:=within_iff.2 ⟨i,l⟩
theorem aJV {nm:List UInt8} {k m q s1 s2 s3 s4 g h:Nat} {ms:List Int} {R:List RF} {mc:Nat} (α:1≤k) (β:k≤2) (hm:m≤2) (δ:k≤q) (ε:q≤k+m) (h1:s1≤3) (h2:s2≤3) (h3:s3≤3) (h4:s4≤3) (hg:g≤8) (hh:h≤4)
  (J:R.length=max m 1) (p:∀ x∈R,qM x∧bP x=true)
  (γ:mc≤2) (i:∃ f:Nat,f<mc∧(ms=[(f:Int)]∨mc=2∧ms=[(f:Int),1-(f:Int)])) :
  jH mc ⟨nm,(k:Nat),(m:Nat),(q:Nat),0,(s1:Nat),(s2:Nat),(s3:Nat),(s4:Nat),ms,R,mkT (g:Nat) ((8:Nat):Int),mkT (h:Nat) ((1:Nat):Int)⟩=true ∧
  (⟨nm,(k:Nat),(m:Nat),(q:Nat),0,(s1:Nat),(s2:Nat),(s3:Nat),(s4:Nat),ms,R,mkT (g:Nat) ((8:Nat):Int),mkT (h:Nat) ((1:Nat):Int)⟩:cB).Ok:=by
 have G:=SmF.mk' (a:=g) (b:=8) Om (by decide) (by decide);have Z:=SmF.mk' (a:=h) (b:=1) Om (by decide) (by decide);obtain⟨f,hf,i⟩:=i;constructor
 ·unfold jH UU PA;simp only[aYB,List.all_cons,List.all_nil,a0B];refine⟨⟨⟨⟨⟨⟨⟨⟨eA Om Om,eA Om Om⟩,decide_eq_true Om⟩,eA Om Om⟩,rfl⟩,eA Om Om,eA Om Om,eA Om Om,eA Om Om,eA Om Om⟩,?_⟩,⟨⟨⟨⟨decide_eq_true (by rw[J]; omega),?_⟩,G.lim⟩,G.one Om⟩,Z.lim⟩⟩,?_⟩
  ·rcases i with e | ⟨-,e⟩<;>rw[e]<;>rfl
  ·rw[aYF];intro x l;rw[(p x l).1.lim,(p x l).2];rfl
  ·rw[aYF];rcases i with rfl | ⟨rfl,rfl⟩
   ·intro j U;simp only[aZA,aZV,aYV] at U;have:j=0:=Om;subst this;rw[aYB];exact⟨eA (by simp) (by simp; omega),by simp⟩
   ·intro j U;simp only[aZA,aZV,aYV] at U;have:j=0∨j=1:=Om;rcases this with rfl | rfl
    ·rw[aYB];exact⟨eA (by simp) (by simp; omega),by simp⟩
    ·rw[aYB];refine⟨eA (by simp; omega) (by simp; omega),?_⟩;have:¬ (1-(f:Int)=f):=Om;simp[this]
 ·refine⟨by unfold dC; constructor<;>simp only<;>omega,by unfold dC; constructor<;>simp only<;>omega,by unfold dC; constructor<;>simp only<;>omega,?_,?_,⟨?_,fun x l=>(p x l).1.ok⟩,G.ok,Z.ok⟩
  ·show ms.length≤_;rcases i with e | ⟨-,e⟩<;>rw[e]<;>simp
  ·show ∀ x∈ms,dC x;unfold dC;rcases i with e | ⟨h2,e⟩<;>rw[e]<;>intro x l<;>simp only[aXP,aXX,or_false] at l
   ·subst l; omega
   ·rcases l with rfl | rfl<;>omega
  ·show R.length≤_;rw[J]; omega
theorem uo (l:List Nat) {mc:Nat} (h0:0<mc) (h2:mc≤2) (i a:Nat):(kR l mc i a).1.name=[112]++bQ i∧jH mc (kR l mc i a).1=true∧(kR l mc i a).1.Ok:=by
 refine⟨rfl,?_⟩;have hk:=bZ l (show 0<2 by decide) a;have hm:=bZ l (show 0<3 by decide) (aD l 2 a).2;have hh:=bZ l (show 0<4 by decide) (aD l 3 (aD l 2 a).2).2;unfold kR;simp only;generalize aD l 2 a=k at *
 generalize aD l 3 k.2=m at *
 generalize aD l 4 m.2=h at *
 have hq:=bZ l (Om:0<m.1+1) h.2;generalize aD l (m.1+1) h.2=q at *
 obtain⟨r1,r2⟩:=Rb l q.2 (max m.1 1);generalize jC l q.2 (max m.1 1)=r at *
 have hg:=bZ l (show 0<9 by decide) r.2;generalize aD l 9 r.2=g at *
 obtain⟨n1,R,b1⟩:=uU l g.2;generalize fQ l g.2=s1 at *
 obtain⟨n2,U,b2⟩:=uU l s1.2;generalize fQ l s1.2=s2 at *
 obtain⟨n3,e3,p⟩:=uU l s2.2;generalize fQ l s2.2=s3 at *
 obtain⟨n4,e4,J⟩:=uU l s3.2;generalize fQ l s3.2=s4 at *
 have hf:=bZ l h0 s4.2;generalize aD l mc s4.2=f at *
 generalize aD l 2 f.2=b at *
 rw[R,U,e3,e4];refine aJV Om Om Om Om Om b1 b2 p J Om Om r1 r2 h2 ⟨f.1,hf,?_⟩;split
 ·rename_i α;split
  ·exact .inr ⟨by omega,rfl⟩
  ·exact .inl rfl
 ·exact .inl rfl
theorem xZ (l:List Nat) {mc:Nat} (p:0<mc) (J:mc≤2) (a:Nat):∀ n,(cU l mc a n).1.length=n∧∀ i (hi:i<(cU l mc a n).1.length),(cU l mc a n).1[i].name=[112]++bQ i∧jH mc (cU l mc a n).1[i]=true∧(cU l mc a n).1[i].Ok
 | 0=>⟨rfl,fun i hi=>absurd hi (by simp[cU])⟩
 | n+1=>by obtain⟨k1,k2⟩:=xZ l p J a n;have e:(cU l mc a (n+1)).1=(cU l mc a n).1++[(kR l mc n (cU l mc a n).2).1]:=rfl;rw[e];refine⟨by simp[k1],pU (P:=fun i (x:cB)=>x.name=[112]++bQ i∧jH mc x=true∧x.Ok) k2 ?_⟩;rw[k1];exact uo l p J n _
theorem BO (l:List Nat) {pc:Nat} (J:0<pc) (a:Nat):∀ n,(dZ l pc a n).1.length=n∧∀ i (hi:i<(dZ l pc a n).1.length),(dZ l pc a n).1[i].name=[118]++bQ i∧∃ p:Nat,(dZ l pc a n).1[i].aWK=p∧p<pc
 | 0=>⟨rfl,fun i hi=>absurd hi (by simp[dZ])⟩
 | n+1=>by obtain⟨k1,k2⟩:=BO l J a n;have e:(dZ l pc a (n+1)).1=(dZ l pc a n).1++[⟨[118]++bQ n,((aD l pc (dZ l pc a n).2).1:Nat)⟩]:=rfl;rw[e];refine⟨by simp[k1],pU (P:=fun i (x:gR)=>x.name=[118]++bQ i∧∃ p:Nat,x.aWK=p∧p<pc) k2 ?_⟩;rw[k1];exact⟨rfl,_,rfl,bZ l J _⟩
abbrev lvs (ds:List cI):List Int:=ds.map cI.level
def aPW (ds:List cI) (i:Nat) (d:cI):Prop:=∃ l p u:Nat,d.name=[jZ l]++bQ (i+1)∧d.level=l∧1≤l∧l≤4∧d.parent=p∧p≤i∧(lvs ds)[p]?=some ((l:Int)-1)∧d.aWS=u∧1≤u∧u≤16∧qM d.aWN
def aHZ (ds:List cI) (mc i:Nat) (d:cS):Prop:=∃ m c:Nat,d.name=[100]++bQ i∧d.model=m∧m<mc∧d.machine=c∧(lvs ds)[c]?=some 4
structure GV (mc aVZ:Nat) (s:GS):Prop where
 len:s.aWI.length≤35
 aWR:s.aWR.length≤aVZ
 root:s.aWI[0]?=some jE
 dom:∀ i (hi:i+1<s.aWI.length),aPW s.aWI i s.aWI[i+1]
 drv:∀ i (hi:i<s.aWR.length),aHZ s.aWI mc i s.aWR[i]
theorem GV.a {mc aVZ:Nat} {s:GS} (h:GV mc aVZ s) (x:Nat):GV mc aVZ { s with a:=x }:=⟨h.len,h.aWR,h.root,h.dom,h.drv⟩
theorem Bk (l:List Nat) {mc aVZ dom:Nat} (J:0<mc) {s:GS} (h:GV mc aVZ s) (U:(lvs s.aWI)[dom]?=some 4):∀ n,GV mc aVZ (gP l mc aVZ dom s n)∧(gP l mc aVZ dom s n).aWI=s.aWI
 | 0=>⟨h,rfl⟩
 | n+1=>by
  obtain⟨p,R⟩:=Bk l J h U n;simp only[gP];generalize gP l mc aVZ dom s n=t at *
  split
  ·rename_i hlt;refine⟨⟨p.len,by simp only[aXN,aXR]; omega,p.root,p.dom,?_⟩,R⟩;refine pU (P:=fun i d=>aHZ t.aWI mc i d) p.drv ?_;exact⟨_,dom,rfl,rfl,bZ l J _,rfl,by rw[R]; exact U⟩
  ·exact⟨p,R⟩
theorem vM {ds:List cI} {p:Nat} {x:Int} {t:List cI} (h:(lvs ds)[p]?=some x):(lvs (ds++t))[p]?=some x:=by
 unfold lvs at *
 rw[aYN,a0C]
 ·exact h
 ·exact (aYP.1 h).1
theorem aAG (l:List Nat) {mc aVZ dom level:Nat} {s:GS} (h:GV mc aVZ s) (α:1≤level) (hl:level≤4) (hd:(lvs s.aWI)[dom]?=some ((level:Int)-1)) (hf:oF aVZ s=false) :
  GV mc aVZ (jR l level dom s)∧(∃ t,(jR l level dom s).aWI=s.aWI++t)∧(jR l level dom s).aWI.length=s.aWI.length+1∧(lvs (jR l level dom s).aWI)[s.aWI.length]?=some (level:Int):=by
 unfold oF at hf;simp only[Bool.or_eq_false_iff,decide_eq_false_iff_not] at hf;have δ:dom<s.aWI.length:=by
  have:=(aYP.1 hd).1
  rwa [aXI] at this
 have hu:=bZ l (show 0<16 by decide) s.a;have hk:=bZ l (show 0<6 by decide) (aD l 3 (aD l 16 s.a).2).2;unfold jR;simp only;generalize aD l 16 s.a=u at *
 generalize aD l 3 u.2=t at *
 generalize aD l 6 t.2=k at *
 have β:qM (if t.1=0 then (mkT 1 ((2+k.1:Nat):Int),k.2) else (iH,t.2)).1:=by
  split
  ·exact (SmF.mk' (a:=1) (b:=2+k.1) Om Om Om).o
  ·exact nN.o
 generalize (if t.1=0 then (mkT 1 ((2+k.1:Nat):Int),k.2) else (iH,t.2))=sh at *
 refine⟨⟨by simp only[aXN,aXR]; omega,h.aWR,?_,?_,fun i hi=>?_⟩,⟨_,rfl⟩,by simp,?_⟩
 ·rw[a0C Om]; exact h.root
 ·intro i hi;simp only[aXN,aXR] at hi;by_cases hlt:i+1<s.aWI.length
  ·rw[List.getElem_append_left hlt];obtain⟨γ,p,v,J,R,U,h4,h5,h6,h7,h8⟩:=h.dom i hlt;exact⟨γ,p,v,J,R,U,h4,h5,h6,vM h7,h8⟩
  ·have:i+1=s.aWI.length:=Om;rw[a1A Om];simp only[List.getElem_singleton];exact⟨level,dom,1+u.1,by rw[this],rfl,α,hl,rfl,by omega,vM hd,rfl,by omega,by omega,β⟩
 ·obtain⟨m,c,J,R,U,h4,h5⟩:=h.drv i hi;exact⟨m,c,J,R,U,h4,vM h5⟩
 ·unfold lvs;rw[aYN,aZY (by rw[aXI]; exact aXL _),aXI,Nat.sub_self];rfl
theorem Bl (l:List Nat) {mc aVZ dom level:Nat} (p:1≤level) (hl:level≤4) {rec:Nat→GS→GS}
  (i:∀ d t,GV mc aVZ t→(lvs t.aWI)[d]?=some (level:Int)→GV mc aVZ (rec d t)∧∃ u,(rec d t).aWI=t.aWI++u) {s:GS} (h:GV mc aVZ s) (hd:(lvs s.aWI)[dom]?=some ((level:Int)-1)) :
  ∀ n,GV mc aVZ (eR l level aVZ dom rec s n)∧∃ u,(eR l level aVZ dom rec s n).aWI=s.aWI++u
 | 0=>⟨h,[],by simp[eR]⟩
 | n+1=>by
  obtain⟨U,u,J⟩:=Bl l p hl i h hd n;simp only[eR];generalize eR l level aVZ dom rec s n=t at *
  split
  ·exact⟨U,u,J⟩
  ·rename_i hf;have R:(lvs t.aWI)[dom]?=some ((level:Int)-1):=by rw[J]; exact vM hd
   obtain⟨k1,⟨v,k2⟩,k3,k4⟩:=aAG l U p hl R (by simpa using hf);obtain⟨m1,w,m2⟩:=i ((jR l level dom t).aWI.length-1) (jR l level dom t) k1 (by rw[k3,Nat.add_sub_cancel]; exact k4);exact⟨m1,u++(v++w),by rw[m2,k2,J]; simp⟩
theorem Bn (l:List Nat) {mc aVZ:Nat} (i:0<mc):∀ (k:Nat),k≤4→∀ (dom:Nat) {s:GS},GV mc aVZ s→(lvs s.aWI)[dom]?=some (4-(k:Int))→GV mc aVZ (dV l mc aVZ k dom s)∧∃ u,(dV l mc aVZ k dom s).aWI=s.aWI++u
 | 0,_,dom,s,h,p=>by simp only[dV];obtain⟨R,U⟩:=Bk l i (h.a (aD l 2 s.a).2) p (1+(aD l 2 s.a).1);exact⟨R,[],by rw[U]; simp⟩
 | k+1,hk,dom,s,h,p=>by
  simp only[dV];refine Bl l Om Om (fun d t ht J=>Bn l i k Om d ht ?_) (h.a (aD l 2 s.a).2) ?_ _
  ·rw[J]; congr 1; omega
  ·rw[p]; congr 1; omega
theorem oa (i:Nat) (l:1≤i) (p:i≤4):fV (jZ i).toNat=true∧jZ i≠100:=by
 have:i=1∨i=2∨i=3∨i=4:=Om;rcases this with rfl | rfl | rfl | rfl<;>decide
theorem dy (c:UInt8) {k:Nat} (i:k<100):PI (([c]++bQ k).drop 1)=k:=by
 show PI (bQ k)=k;rw[KF i];exact (yb ⟨k,i⟩).1
theorem Jm {mc aVZ:Nat} {s:GS} (h:GV mc aVZ s) (hd:aVZ≤60):distinct ((s.aWI.drop 1).map cI.name++s.aWR.map cS.name)=true:=by
 have hA:∀ i (hi:i<((s.aWI.drop 1).map cI.name).length),∃ l:Nat,1≤l∧l≤4∧((s.aWI.drop 1).map cI.name)[i]=[jZ l]++bQ (i+1):=by intro i hi;rw[aXI,aZI] at hi;obtain⟨l,p,u,J,-,h3,U,-⟩:=h.dom i Om;refine⟨l,h3,U,?_⟩;rw[aZH,List.getElem_drop];simp only[Nat.add_comm 1 i];exact J
 have hB:∀ i (hi:i<(s.aWR.map cS.name).length),(s.aWR.map cS.name)[i]=[100]++bQ i:=by intro i hi;rw[aXI] at hi;obtain⟨m,c,J,-⟩:=h.drv i hi;rw[aZH]; exact J
 have lA:((s.aWI.drop 1).map cI.name).length≤40:=by rw[aXI,aZI]; have:=h.len; omega
 have lB:(s.aWR.map cS.name).length≤60:=by rw[aXI]; have:=h.aWR; omega
 generalize (s.aWI.drop 1).map cI.name=A at *
 generalize s.aWR.map cS.name=B at *
 refine PQ ?_ ?_
 ·intro x R;rcases aZC.1 R with R | R
  ·obtain⟨i,hi,rfl⟩:=aYZ R;obtain⟨l,J,U,e⟩:=hA i hi;rw[e];exact iu rfl (oa l J U).1 rfl (by simp) Om
  ·obtain⟨i,hi,rfl⟩:=aYZ R;rw[hB i hi];exact iu rfl (by decide) rfl (by simp) Om
 ·rw[aZZ];refine⟨?_,?_,?_⟩
  ·refine LQ (g:=fun s=>PI (s.drop 1)-1) fun i hi=>?_;obtain⟨l,-,-,e⟩:=hA i hi;rw[e,dy _ Om];omega
  ·refine LQ (g:=fun s=>PI (s.drop 1)) fun i hi=>?_;rw[hB i hi];exact dy _ Om
  ·intro x R y hy e;obtain⟨i,hi,rfl⟩:=aYZ R;obtain⟨j,hj,rfl⟩:=aYZ hy;obtain⟨l,J,U,e1⟩:=hA i hi;rw[e1,hB j hj] at e;exact (oa l J U).2 (List.cons.inj e).1
theorem atT {mc aVZ a:Nat}:GV mc aVZ ⟨[jE],[],a⟩ :=
 ⟨by simp,aXU _,rfl,fun i hi=>absurd hi (by simp),fun i hi=>absurd hi (by simp)⟩
theorem aAX {mc aVZ:Nat} {s:GS} (h:GV mc aVZ s) (f:aK) (hf:f.aWC=s.aWI):mT f=true:=by
 have U:=h.root;have R:=h.dom;unfold mT;rw[hf];cases l:s.aWI with
 | nil=>rw[l] at U; cases U
 | cons r t =>
  rw[l] at U;have:r=jE:=by simpa using U
  subst this;show OF f jE t=true;unfold OF;simp only[aYB];refine⟨⟨⟨⟨⟨⟨rfl,rfl⟩,rfl⟩,rfl⟩,nN.lim⟩,by rw[show jE.aWN=iH from rfl,nN.zero]; rfl⟩,?_⟩;rw[aYF];intro i hi;rw[aYV] at hi;rw[aXT hi];obtain⟨β,p,u,h1,h2,h3,h4,h5,h6,h7,h8,h9,α,J⟩:=R i (by rw[l]; simp; omega);have e:s.aWI[i+1]'(by rw[l]; simp; omega)=t[i]:=by simp[l]
  rw[e] at h1 h2 h5 h8 J;show SJ f i t[i]=true;unfold SJ;simp only[aYB];refine⟨⟨⟨⟨?_,?_⟩,?_⟩,?_⟩,J.lim⟩
  ·rw[h5]; exact eA Om Om
  ·rw[h5,h2,hf,aZL,aYK,h7,fp Om Om];exact decide_eq_true rfl
  ·rw[h2]; exact eA Om Om
  ·rw[h8]; exact eA Om Om
theorem zf (l:List Nat) (aVZ aWB a:Nat) (hd:aVZ≤24) (hv:aWB≤12) :
  jL (fC l aVZ aWB a).1=true∧(fC l aVZ aWB a).1.Ok:=by
 unfold fC;simp only;have he:=bZ l (show 0<2 by decide) a;generalize aD l 2 a=e at *
 have ζ:=bZ l (show 0<2 by decide) e.2;generalize aD l 2 e.2=lw at *
 obtain⟨w1,w2⟩:=PX l lw.2 (1+lw.1);generalize fP l lw.2 (1+lw.1)=aWG at *
 have η:=bZ l (show 0<2 by decide) aWG.2;generalize aD l 2 aWG.2=md at *
 obtain⟨m1,m2⟩:=HN l (1+lw.1) Om md.2 (1+md.1);generalize dX l (1+lw.1) md.2 (1+md.1)=aWA at *
 obtain⟨G,-⟩:=Bn l (mc:=1+md.1) (aVZ:=aVZ) Om 4 (by decide) 0 (s:=⟨[jE],[],aWA.2⟩) atT rfl;generalize dV l (1+md.1) aVZ 4 0 ⟨[jE],[],aWA.2⟩=g at *
 have θ:=bZ l (show 0<2 by decide) g.a;generalize aD l 2 g.a=pl at *
 obtain⟨p1,p2⟩:=xZ l (mc:=1+md.1) Om Om pl.2 (1+pl.1);generalize cU l (1+md.1) pl.2 (1+pl.1)=pols at *
 have ι:=bZ l (Om:0<aWB+1) pols.2;generalize aD l (aWB+1) pols.2=vo at *
 obtain⟨v1,v2⟩:=BO l (pc:=1+pl.1) Om vo.2 vo.1;generalize dZ l (1+pl.1) vo.2 vo.1=vols at *
 have g1:=G.len;have g2:=G.aWR;have γ:∀ f:aK,f.aWC=g.aWI→mT f=true:=fun f hf=>aAX G f hf;have J:∀ n:Nat,n≤1000→n≤9223372036854775807:=fun n h=>by omega
 have α:∀ x∈g.aWR,∃ m c:Nat,x.model=m∧m<1+md.1∧x.machine=c∧c<g.aWI.length∧(lvs g.aWI)[c]?=some 4:=by
  intro x R;obtain⟨i,hi,rfl⟩:=aYZ R;obtain⟨m,c,-,h2,h3,h4,h5⟩:=G.drv i hi;refine⟨m,c,h2,h3,h4,?_,h5⟩;have:=(aYP.1 h5).1
  rwa [aXI] at this
 constructor
 ·unfold jL;rw[γ _ rfl];simp only[aYB,a0B];refine⟨⟨?_,⟨⟨⟨⟨?_,?_⟩,?_⟩,?_⟩,?_⟩⟩,⟨⟨⟨?_,?_⟩,Jm G Om⟩,?_⟩,?_⟩
  ·unfold pF;simp only[aYB];exact⟨⟨⟨⟨⟨⟨eA Om Om,decide_eq_true Om⟩,decide_eq_true Om⟩,decide_eq_true Om⟩,decide_eq_true Om⟩,decide_eq_true Om⟩,decide_eq_true Om⟩
  ·exact uY fun i hi=>(w2 i hi).2.1
  ·refine uY fun i hi=>?_;obtain⟨-,x,y,z,U,e2,e3,e4,e5,e6,e7,e8⟩:=m2 i hi;unfold lD;simp only[aYB];rw[U,e4,e7,w1];exact⟨⟨eA Om Om,eA Om Om⟩,eA Om Om⟩
  ·rw[aYF];intro x R;obtain⟨m,c,U,e2,e3,e4,e5⟩:=α x R;unfold jK;simp only[aYB];rw[U,e3,m1,aZL,aYK,e5];exact⟨⟨eA Om Om,eA Om Om⟩,rfl⟩
  ·refine uY fun i hi=>?_;rw[m1]; exact (p2 i hi).2.1
  ·refine uY fun i hi=>?_;obtain⟨-,p,U,e2⟩:=v2 i hi;unfold nM;rw[U,p1];exact eA Om Om
  ·refine qR (p:=[108,97,119]) rfl (by decide) (by decide) (by decide) (by rw[aXI]; omega) fun i hi=>?_;rw[aZH]; exact (w2 i (by simpa using hi)).1
  ·refine qR (p:=[109]) rfl (by decide) (by decide) (by decide) (by rw[aXI]; omega) fun i hi=>?_;rw[aZH]; exact (m2 i (by simpa using hi)).1
  ·refine qR (p:=[112]) rfl (by decide) (by decide) (by decide) (by rw[aXI]; omega) fun i hi=>?_;rw[aZH]; exact (p2 i (by simpa using hi)).1
  ·refine qR (p:=[118]) rfl (by decide) (by decide) (by decide) (by rw[aXI]; omega) fun i hi=>?_;rw[aZH]; exact (v2 i (by simpa using hi)).1
 ·refine⟨J aWG.1.length Om,J aWA.1.length Om,J g.aWI.length Om,J g.aWR.length Om,J pols.1.length Om,J vols.1.length Om,?_,?_,?_,?_,?_⟩
  ·intro x R;obtain⟨i,hi,rfl⟩:=aYZ R;exact (w2 i hi).2.2
  ·intro x R;obtain⟨i,hi,rfl⟩:=aYZ R;rcases aZX i with rfl | hp
   ·have:g.aWI[0]=jE:=by have:=G.root; rw[aXT hi] at this; exact aZS.inj this
    rw[this];exact⟨nN.ok,by unfold dC; decide,by unfold dC; decide⟩
   ·obtain⟨k,rfl⟩:∃ k,i=k+1:=⟨i-1,by omega⟩;obtain⟨κ,p,u,h1,h2,h3,h4,h5,h6,h7,h8,h9,δ,β⟩:=G.dom k hi;have ε:k+1<g.aWI.length:=hi;rw[h2,h5];exact⟨β.ok,by unfold dC; omega,by unfold dC; omega⟩
  ·intro x R;obtain⟨m,c,U,e2,e3,e4,e5⟩:=α x R;rw[U,e3];unfold dC; omega
  ·intro x R;obtain⟨i,hi,rfl⟩:=aYZ R;exact (p2 i hi).2.2
  ·intro x R;obtain⟨i,hi,rfl⟩:=aYZ R;obtain⟨-,p,U,e2⟩:=v2 i hi;rw[U];unfold dC; omega

theorem KV {C:Ctx} (c:fL C) (hi:nB C):VW C :=
 {KU c hi with
  grow:=fun l v T mc aVZ i p J=>SW (KU c hi) T mc aVZ i p J (fun args H R U h=>c.r7 args H R (by rw[U]; decide) h) 4 (aXL _) }
theorem acR {C:Ctx} (c:fL C) (hi:nB C):v8 C :=
 {KV c hi with
  new:=fun l R U=>c.r28.go (Pd l R U) rfl
  fleet:=fun l v T o aVZ aWB a i p J=>AN.exact (c.r0.go (pd (KV c hi) T o aVZ aWB a i p J) rfl) }


structure RW (f:aK) (L:List (List Int)):Prop where
 len:L.length=f.aWB.length
 row:∀ v (h:v<L.length),((L[v].length:Nat):Int)=ayS f v
 home:∀ r∈L,∀ x∈r,-1≤x∧x<f.aVZ.length
theorem RW.aNO {f:aK} {L:List (List Int)} (h:RW f L) (hV:VF f):∀ k,k≤L.length→(L.take k).flatten.length≤k*8:=by
 have hl:=h.len;intro k
 induction k with
 | zero=>intro _; simp
 | succ k U =>intro l;rw[abN L l,aXN];have h1:=U Om;have p:=h.row k l;obtain⟨R,J⟩:=asQ hV (Om:k<f.aWB.length);have i:=hV.aWK _ (aXM R);rw[J] at i;unfold ayS at p;omega
theorem RW.ok {f:aK} (hV:VF f) {L:List (List Int)} (h:RW f L):aMH L:=by
 have l:=hV.small.aWB;have i:=h.len;have:=h.aNO hV L.length (aXL _);rw[aYS] at this;exact⟨by omega,by omega⟩
section
variable {C:Ctx} {F F':PF} {H:PH}
theorem cH (i:F.le F') {x:aO} {v:PV} (h:x.ev F=some v):x.ev F'=some v:=by
 cases x
 ·exact i _ _ h
 all_goals exact h
theorem AW (i:F.le F'):∀ {xs:List aO} {vs:List PV},aO.evs F xs=some vs→aO.evs F' xs=some vs
 | [],_,h=>h
 | x::xs,vs,h=>by
  rw[wD] at h ⊢;cases p:x.ev F with
  | none=>simp[p] at h
  | some v =>
   cases l:aO.evs F xs with
   | none=>simp[l] at h
   | some J =>rw[p,l] at h;rw[cH i p,AW i l];exact h
theorem zb (i:F.le F'):∀ {ps:List (Nat × Nat × aO)} {cs ds:List PV},nY cs F ps=some ds→nY cs F' ps=some ds
 | [],_,_,h=>h
 | (off,size,x)::ps,cs,ds,h=>by
  simp only[nY] at h ⊢;cases l:x.ev F with
  | none=>simp[l] at h
  | some v =>
   rw[l] at h;rw[cH i l];simp only at h ⊢;split at h
   ·rename_i p; rw[if_pos p]; exact zb i h
   ·cases h
theorem yT (l:F.le F') {size:Nat}:∀ {ps:List (Nat × aO)} {cs ds:List (List PV)},fS size cs F ps=some ds→fS size cs F' ps=some ds
 | [],_,_,h=>h
 | (i,x)::ps,cs,ds,h=>by
  simp only[fS] at h ⊢;cases p:x.ev F with
  | none=>simp[p] at h
  | some v =>
   rw[p] at h;rw[cH l p];simp only at h ⊢;split at h
   ·rename_i J; rw[if_pos J]; exact yT l h
   ·cases h
theorem ID (i:F.le F') {d n:Int} {x:Option aO} (h:bnd F d x=some n):bnd F' d x=some n:=by
 cases x with
 | none=>exact h
 | some x =>
  simp only[bnd] at h ⊢;cases l:x.ev F with
  | none=>simp[l] at h
  | some v=>rw[cH i l,← l]; exact h
theorem F6 {op:POp} {v:PV} (R:F.le F') (h:aN op F H=some v):aN op F' H=some v:=by
 cases op
 case mv x=>exact cH R h
 case pick c a b =>
  simp only[aN] at h ⊢;cases hc:c.ev F with
  | none=>simp[hc] at h
  | some t =>
   rw[hc] at h;rw[cH R hc];cases t<;>simp only at h ⊢<;>try cases h
   rename_i t;cases t
   ·simp only[a0N,if_false] at h ⊢; exact cH R h
   ·simp only[if_true] at h ⊢; exact cH R h
 case same x =>
  simp only[aN] at h ⊢;cases J:x.ev F with
  | none=>simp[J] at h
  | some a=>rw[cH R J,← J]; exact h
 case un o x =>
  simp only[aN] at h ⊢;cases J:x.ev F with
  | none=>simp[J] at h
  | some a=>rw[cH R J,← J]; exact h
 case conv k x =>
  simp only[aN] at h ⊢;cases J:x.ev F with
  | none=>simp[J] at h
  | some a=>rw[cH R J,← J]; exact h
 case aWL x =>
  simp only[aN] at h ⊢;cases J:x.ev F with
  | none=>simp[J] at h
  | some a=>rw[cH R J,← J]; exact h
 case aXB o x =>
  simp only[aN] at h ⊢;cases J:x.ev F with
  | none=>simp[J] at h
  | some a=>rw[cH R J,← J]; exact h
 case field o n x =>
  simp only[aN] at h ⊢;cases J:x.ev F with
  | none=>simp[J] at h
  | some a=>rw[cH R J,← J]; exact h
 case aWY x =>
  simp only[aN] at h ⊢;cases J:x.ev F with
  | none=>simp[J] at h
  | some a=>rw[cH R J,← J]; exact h
 case isNil n x =>
  simp only[aN] at h ⊢;cases J:x.ev F with
  | none=>simp[J] at h
  | some a=>rw[cH R J,← J]; exact h
 case lenM x =>
  simp only[aN] at h ⊢;cases J:x.ev F with
  | none=>simp[J] at h
  | some a=>rw[cH R J,← J]; exact h
 case aXH x =>
  simp only[aN] at h ⊢;cases J:x.ev F with
  | none=>simp[J] at h
  | some a=>rw[cH R J,← J]; exact h
 case extract x i =>
  simp only[aN] at h ⊢;cases J:x.ev F with
  | none=>simp[J] at h
  | some a=>rw[cH R J,← J]; exact h
 case aWM x =>
  simp only[aN] at h ⊢;cases J:x.ev F with
  | none=>simp[J] at h
  | some a=>rw[cH R J,← J]; exact h
 case len x =>
  simp only[aN] at h ⊢;cases J:x.ev F with
  | none=>simp[J] at h
  | some a=>rw[cH R J,← J]; exact h
 case box r x =>
  cases r
  ·cases h
  simp only[aN] at h ⊢;cases J:x.ev F with
  | none=>simp[J] at h
  | some a=>rw[cH R J,← J]; exact h
 case load n p =>
  cases n
  all_goals
   simp only[aN] at h ⊢;cases J:p.ev F with
   | none=>simp[J] at h
   | some a=>rw[cH R J,← J]; exact h
 case bin o x y =>
  simp only[aN] at h ⊢;cases J:x.ev F with
  | none=>simp[J] at h
  | some a =>
   cases U:y.ev F with
   | none=>simp[J,U] at h
   | some b=>rw[cH R J,cH R U,← J,← U]; exact h
 case eqb n x y =>
  simp only[aN] at h ⊢;cases J:x.ev F with
  | none=>simp[J] at h
  | some a =>
   cases U:y.ev F with
   | none=>simp[J,U] at h
   | some b=>rw[cH R J,cH R U,← J,← U]; exact h
 case eqs n k x y =>
  simp only[aN] at h ⊢;cases J:x.ev F with
  | none=>simp[J] at h
  | some a =>
   cases U:y.ev F with
   | none=>simp[J,U] at h
   | some b=>rw[cH R J,cH R U,← J,← U]; exact h
 case aWP s x i =>
  simp only[aN] at h ⊢;cases J:x.ev F with
  | none=>simp[J] at h
  | some a =>
   cases U:i.ev F with
   | none=>simp[J,U] at h
   | some b=>rw[cH R J,cH R U,← J,← U]; exact h
 case idxA n s x i =>
  simp only[aN] at h ⊢;cases J:x.ev F with
  | none=>simp[J] at h
  | some a =>
   cases U:i.ev F with
   | none=>simp[J,U] at h
   | some b=>rw[cH R J,cH R U,← J,← U]; exact h
 case idxV n s g x i =>
  simp only[aN] at h ⊢;cases J:x.ev F with
  | none=>simp[J] at h
  | some a =>
   cases U:i.ev F with
   | none=>simp[J,U] at h
   | some b=>rw[cH R J,cH R U,← J,← U]; exact h
 case aWZ x i =>
  simp only[aN] at h ⊢;cases J:x.ev F with
  | none=>simp[J] at h
  | some a =>
   cases U:i.ev F with
   | none=>simp[J,U] at h
   | some b=>rw[cH R J,cH R U,← J,← U]; exact h
 case aWT m x y =>
  simp only[aN] at h ⊢;cases J:x.ev F with
  | none=>simp[J] at h
  | some a =>
   cases U:y.ev F with
   | none=>simp[J,U] at h
   | some b=>rw[cH R J,cH R U,← J,← U]; exact h
 case lookup sh z x k ok =>
  simp only[aN] at h ⊢;cases J:x.ev F with
  | none=>simp[J] at h
  | some a =>
   cases U:k.ev F with
   | none=>simp[J,U] at h
   | some b=>rw[cH R J,cH R U,← J,← U]; exact h
 case build z ps =>simp only[aN,aXO] at h ⊢;obtain⟨cs,h1,h2⟩:=h;exact⟨cs,zb R h1,h2⟩
 case aWF r s l z ps =>
  cases r
  ·cases h
  simp only[aN] at h ⊢;split at h
  ·rename_i hc;rw[if_pos hc];rw[aXO] at h ⊢;obtain⟨cs,h1,h2⟩:=h;exact⟨cs,yT R h1,h2⟩
  ·cases h
 case mkfn n cs =>simp only[aN,aXO] at h ⊢;obtain⟨vs,h1,h2⟩:=h;exact⟨vs,AW R h1,h2⟩
 case sliceA n s x lo hi mx =>
  cases lo<;>cases hi<;>cases mx<;>simp only[aN] at h ⊢<;>try cases h
  cases J:x.ev F with
  | none=>simp[J] at h
  | some a=>rw[cH R J,← J]; exact h
 case aWV x lo hi =>
  simp only[aN] at h ⊢;cases J:x.ev F with
  | none=>simp[J] at h
  | some a =>
   rw[J] at h;rw[cH R J];cases a<;>simp only at h ⊢<;>try cases h
   cases h1:bnd F 0 lo with
   | none=>simp[h1] at h
   | some l =>
    rename_i s;cases h2:bnd F s.length hi with
    | none=>simp[h1,h2] at h
    | some u=>rw[ID R h1,ID R h2,← h1,← h2]; exact h
 case slice s x lo hi mx =>
  simp only[aN] at h ⊢;cases J:x.ev F with
  | none=>simp[J] at h
  | some a =>
   rw[J] at h;rw[cH R J];have key:∀ (d:Int) (w:PV),(match bnd F 0 lo,bnd F d hi with
     | some a1,some a2=>match (generalizing:=false) mx with
      | none=>PV.slice s w a1 a2 none
      | some m=>(bnd F 0 (some m)).bind fun m=>PV.slice s w a1 a2 (some m)
     | _,_=>none)=some v→(match bnd F' 0 lo,bnd F' d hi with
     | some a1,some a2=>match (generalizing:=false) mx with
      | none=>PV.slice s w a1 a2 none
      | some m=>(bnd F' 0 (some m)).bind fun m=>PV.slice s w a1 a2 (some m)
     | _,_=>none)=some v:=by
    intro d w h;cases h1:bnd F 0 lo with
    | none=>simp[h1] at h
    | some l =>
     cases h2:bnd F d hi with
     | none=>simp[h1,h2] at h
     | some u =>
      rw[h1,h2] at h;rw[ID R h1,ID R h2];cases mx with
      | none=>exact h
      | some m =>
       simp only at h ⊢;cases h3:bnd F 0 (some m) with
       | none=>simp[h3] at h
       | some q=>rw[ID R h3,← h3]; exact h
   cases a<;>simp only at h ⊢<;>first | exact key _ _ h | cases h
 all_goals exact h
theorem wm {op:POp} {r:(Nat→PV) × bX} (i:F.le F') (h:cL op F=some r):cL op F'=some r:=by
 cases op
 case box b x =>
  cases b
  ·simp only[cL] at h ⊢;cases p:x.ev F with
   | none=>simp[p] at h
   | some a=>rw[cH i p,← p]; exact h
  ·cases h
 case aWF b s l z ps =>
  cases b
  ·simp only[cL] at h ⊢;split at h
   ·rename_i hc;rw[if_pos hc];rw[aXO] at h ⊢;obtain⟨cs,R,U⟩:=h;exact⟨cs,yT i R,U⟩
   ·cases h
  ·cases h
 case aWH s b z l c =>
  simp only[cL] at h ⊢;cases p:l.ev F with
  | none=>simp[p] at h
  | some a =>
   cases J:c.ev F with
   | none=>simp[p,J] at h
   | some b=>rw[cH i p,cH i J,← p,← J]; exact h
 all_goals exact h
theorem I6 {op:POp} {K:PV→PH→Prop} (i:F.le F') (h:bS op F H K):bS op F' H K:=by
 cases op
 case store n x y =>
  simp only[bS] at h ⊢;cases l:x.ev F with
  | none=>simp[l] at h
  | some a =>
   cases p:y.ev F with
   | none=>simp[l,p] at h
   | some b=>rw[cH i l,cH i p]; rw[l,p] at h; exact h
 case append s b x y =>
  simp only[bS] at h ⊢;cases l:x.ev F with
  | none=>simp[l] at h
  | some a =>
   cases p:y.ev F with
   | none=>simp[l,p] at h
   | some b=>rw[cH i l,cH i p]; rw[l,p] at h; exact h
 case aWQ sh x y z =>
  simp only[bS] at h ⊢;cases l:x.ev F with
  | none=>simp[l] at h
  | some a =>
   cases p:y.ev F with
   | none=>simp[l,p] at h
   | some b =>
    cases J:z.ev F with
    | none=>simp[l,p,J] at h
    | some c=>rw[cH i l,cH i p,cH i J]; rw[l,p,J] at h; exact h
 case insert sh x y z =>
  simp only[bS] at h ⊢;cases l:x.ev F with
  | none=>simp[l] at h
  | some a =>
   cases p:y.ev F with
   | none=>simp[l,p] at h
   | some b =>
    cases J:z.ev F with
    | none=>simp[l,p,J] at h
    | some c=>rw[cH i l,cH i p,cH i J]; rw[l,p,J] at h; exact h
 all_goals exact h
theorem PF.aKG (l:F.le F') (i:Nat) (v:PV):(F.set i v).le (F'.set i v):=by
 intro j u h;rw[jM] at h ⊢;split at h
 ·rename_i e; rw[if_pos e]; exact h
 ·rename_i e; rw[if_neg e]; exact l j u h
theorem PF.rH (i:F.le F') (d:Option Nat) (v:PV):(F.put d v).le (F'.put d v):=by
 cases d with
 | none=>exact i
 | some d=>exact PF.aKG i d v
theorem PF.aIT (i:F.le F') (o s:Nat) (rs:List (List PV)):(F.frz o s rs).le (F'.frz o s rs):=by
 intro j u h;rw[pC,aXO] at h ⊢;obtain⟨x,l,p⟩:=h;exact⟨x,i j x l,p⟩
theorem PF.le_trans {A B D:PF} (h:A.le B) (k:B.le D):A.le D:=fun i v hi=>k i v (h i v hi)
theorem gT.up {p:PF} {J:PH} (h:gT F H p J):∀ {F':PF},F.le F'→∃ i,gT F' H i J∧p.le i:=by
 induction h with
 | refl F H=>exact fun {F'} l=>⟨F',.refl _ _,l⟩
 | step o ho _ ih =>intro F' l;obtain⟨i,R,U⟩:=ih (PF.aIT l o _ _);exact⟨i,.step o ho R,U⟩
theorem WE {name:Nat} {args:Option (List PV)} {d:Option Nat} {K1 K2:PF→PH→Prop} (hK:∀ F F' H,F.le F'→K1 F H→K2 F' H) (l:F.le F') {i:Option (List PV)} (ha:∀ vs,args=some vs→i=some vs) (h:qK C name args d K1 F H):qK C name i d K2 F' H:=by
 obtain⟨vs,p,R,J,U,h3,h4⟩:=h;exact⟨vs,p,R,ha _ J,U,h3,fun r H' a b=>hK _ _ _ (PF.rH l d r) (h4 r H' a b)⟩
theorem C7 {cs:List PV} {args:List aO} (i:F.le F') (vs:List PV) (h:(aO.evs F args).map (·++cs)=some vs):(aO.evs F' args).map (·++cs)=some vs:=by
 rw[aXO] at h ⊢;obtain⟨x,l,p⟩:=h;exact⟨x,AW i l,p⟩
theorem Mf {name:Nat} {args:List aO} {cs:List PV} {d:Option Nat} {K1 K2:PF→PH→Prop} (p:∀ F F' H,F.le F'→K1 F H→K2 F' H) (i:F.le F') (h:gY C name args cs d K1 F H):gY C name args cs d K2 F' H:=by
 rcases h with h | ⟨F1,H1,h1,h2⟩
 ·exact .inl (WE p i (C7 i) h)
 ·obtain⟨l,k1,k2⟩:=h1.up i;exact .inr ⟨l,H1,k1,WE p k2 (C7 k2) h2⟩
theorem LF {op:POp} {d:Option Nat} {K1 K2:PF→PH→Prop} (J:∀ F F' H,F.le F'→K1 F H→K2 F' H) (i:F.le F') (h:lL (cL op F) d K1 F H):lL (cL op F') d K2 F' H:=by
 obtain⟨mk,x,l,p⟩:=h;exact⟨mk,x,wm i l,fun o R=>J _ _ _ (PF.rH i d _) (p o R)⟩
theorem fy {op:POp} {d:Option Nat} {K1 K2:PF→PH→Prop} (J:∀ F F' H,F.le F'→K1 F H→K2 F' H) (i:F.le F') (h:bN (aN op F H) d K1 F H):bN (aN op F' H) d K2 F' H:=by
 obtain⟨v,l,p⟩:=h;exact⟨v,F6 i l,J _ _ _ (PF.rH i d v) p⟩
theorem vu {op:POp} {d:Option Nat} {K1 K2:PF→PH→Prop} (l:∀ F F' H,F.le F'→K1 F H→K2 F' H) (i:F.le F') (h:bS op F H fun r H'=>K1 (F.put d r) H'):bS op F' H fun r H'=>K2 (F'.put d r) H' :=
 I6 i (wZ (fun v H' p=>l _ _ _ (PF.rH i d v) p) h)
theorem ayW {op:POp} {d:Option Nat} {K1 K2:PF→PH→Prop} (J:∀ F F' H,F.le F'→K1 F H→K2 F' H) (i:F.le F') (h:wpOp C op d K1 F H):wpOp C op d K2 F' H:=by
 cases op
 case call n a=>exact Mf J i h
 case aXA x a =>
  have U:sI C (x.ev F) a d K1 F H:=h;show sI C (x.ev F') a d K2 F' H;cases hx:x.ev F with
  | none=>rw[hx] at U; exact U.elim
  | some u =>
   rw[cH i hx];rw[hx] at U;cases u<;>first | exact Mf J i U | exact U.elim | skip
   obtain⟨l,h1,h2⟩:=U;refine⟨l,h1,?_⟩;rcases h2 with ⟨vs,H0,R,h2,h3,h4,h5⟩ | ⟨F1,H1,k1,vs,H0,R,h2,h3,h4,h5⟩
   ·exact .inl ⟨vs,H0,R,AW i h2,h3,h4,fun r H' p q=>J _ _ _ (PF.rH i d r) (h5 r H' p q)⟩
   ·obtain⟨α,k2,k3⟩:=k1.up i;exact .inr ⟨α,H1,k2,vs,H0,R,AW k3 h2,h3,h4,fun r H' p q=>J _ _ _ (PF.rH k3 d r) (h5 r H' p q)⟩
 case box r x=>cases r<;>first | exact LF (op:=.box false x) J i h | exact fy (op:=.box true x) J i h
 case aWF r s l z ps=>cases r<;>first | exact LF (op:=.aWF false s l z ps) J i h | exact fy (op:=.aWF true s l z ps) J i h
 case alloc cs=>exact LF (op:=.alloc cs) J i h
 case aWH s b z l c=>exact LF (op:=.aWH s b z l c) J i h
 case aXE sh=>exact LF (op:=.aXE sh) J i h
 case store n x y=>exact vu (op:=.store n x y) J i h
 case append s b x y=>exact vu (op:=.append s b x y) J i h
 case aWQ sh x y z=>exact vu (op:=.aWQ sh x y z) J i h
 case insert sh x y z=>exact vu (op:=.insert sh x y z) J i h
 all_goals exact fy J i h
theorem MO {K1 K2:PF→PH→Prop} (l:∀ F F' H,F.le F'→K1 F H→K2 F' H):∀ {ops:List aR} {F F':PF} {H:PH},F.le F'→wpOps C ops K1 F H→wpOps C ops K2 F' H
 | [],_,_,_,i,h=>l _ _ _ i h
 | ⟨d,op,none⟩::rest,_,_,_,i,h=>ayW (fun _ _ _ a b=>MO l a b) i h
 | ⟨d,op,some (t,J)⟩::rest,F,F',H,i,h=>by
  rw[Le] at h ⊢;unfold tA at h;split at h
  ·rename_i b p;rw[i t _ p];unfold tA;simp only;split at h
   ·rename_i e; rw[if_pos e]; exact ayW (fun _ _ _ a b=>MO l a b) i h
   ·rename_i e; rw[if_neg e]; exact MO l (PF.rH i d _) h
  ·rename_i p;rw[i t _ p];exact MO l (PF.rH i d _) h
  ·exact h.elim
theorem Fr {Hs:PH} {S:Spec} {st:Bool} {op:POp} {K:PV→PH→Prop} (i:F.le F') (h:(op.kind F).run C Hs S st K H):(op.kind F').run C Hs S st K H:=by
 have new:∀ op:POp,(Kind.new (cL op F)).run C Hs S st K H→(Kind.new (cL op F')).run C Hs S st K H:=fun op h=>by obtain⟨mk,x,p,J⟩:=h;exact⟨mk,x,wm i p,J⟩
 have calm:∀ op:POp,(Kind.calm (aN op F)).run C Hs S st K H→(Kind.calm (aN op F')).run C Hs S st K H:=fun op h=>by obtain⟨v,p,J⟩:=h;exact⟨v,F6 i p,J⟩
 have wr:∀ op:POp,(Kind.write fun H K=>bS op F H K).run C Hs S st K H→(Kind.write fun H K=>bS op F' H K).run C Hs S st K H:=fun op h=>I6 (op:=op) i (show bS op F H (fun r H'=>Hs.le H'∧K r H') from h);cases op
 case call n a =>obtain⟨vs,D,R,p,J⟩:=h;exact⟨vs,D,R,AW i p,J⟩
 case aXA x a =>
  unfold POp.kind at h ⊢;simp only at h ⊢;cases U:x.ev F with
  | none=>rw[U] at h; exact h.elim
  | some u =>
   rw[U] at h;rw[cH i U];cases u<;>simp only at h ⊢<;>first | exact h | skip
   obtain⟨vs,D,R,p,J⟩:=h;exact⟨vs,D,R,C7 i _ p,J⟩
 case insert sh x k v =>
  obtain⟨o,α,key,u,g,p,J⟩:=h;refine⟨o,α,key,u,g,?_,J⟩;cases U:x.ev F with
  | none=>simp[U] at p
  | some a =>
   cases hy:k.ev F with
   | none=>simp[U,hy] at p
   | some b =>
    cases hz:v.ev F with
    | none=>simp[U,hy,hz] at p
    | some c=>rw[cH i U,cH i hy,cH i hz]; rw[U,hy,hz] at p; exact p
 case box r x=>cases r<;>first | exact new (.box false x) h | exact calm (.box true x) h
 case aWF r s l z ps=>cases r<;>first | exact new (.aWF false s l z ps) h | exact calm (.aWF true s l z ps) h
 case alloc cs=>exact new (.alloc cs) h
 case aWH s b z l c=>exact new (.aWH s b z l c) h
 case aXE sh=>exact new (.aXE sh) h
 case store n x y=>exact wr (.store n x y) h
 case append s b x y=>exact wr (.append s b x y) h
 case aWQ sh x y z=>exact wr (.aWQ sh x y z) h
 all_goals exact calm _ h
theorem arI {Hs:PH} {S:Spec} {st:Bool} {i:aR} {K:PV→PH→Prop} (l:F.le F') (h:(i.kind F).run C Hs S st K H):(i.kind F').run C Hs S st K H:=by
 unfold aR.kind at h ⊢;split
 ·rename_i J;rw[J] at h;exact Fr l h
 ·rename_i t R J;rw[J] at h;simp only at h;split at h
  ·rename_i b p;rw[l t _ p];simp only;split at h
   ·rename_i e; rw[if_pos e]; exact Fr l h
   ·rename_i e; rw[if_neg e]; exact h
  ·rename_i p;rw[l t _ p];exact h
  ·exact h.elim
theorem anF {Hs:PH} {S:Spec} {K1 K2:PF→PH→Prop} (J:∀ F F' H,F.le F'→K1 F H→K2 F' H):∀ {ops:List (aR × Bool)} {F F':PF} {H:PH},Hs.le H→F.le F'→wpD C Hs S ops K1 F H→wpD C Hs S ops K2 F' H
 | [],_,_,_,_,l,h=>J _ _ _ l h
 | i::rest,F,F',H,hs,l,h=>by have R:(i.1.kind F).run C Hs S i.2 (fun v H'=>wpD C Hs S rest K1 (F.put i.1.dst v) H') H:=h;exact arI l (Kind.pT (pR _ _) (fun v H' p U=>anF J p (PF.rH l _ v) U) hs R)
class Up (K:bT):Prop where
 up:∀ {e:kL} {F F':PF} {H:PH},F.le F'→K e F H→K e F' H
theorem HH:∀ (c:aA) {K1 K2:bT} (_:∀ e F F' H,F.le F'→K1 e F H→K2 e F' H) {F F':PF} {H:PH},F.le F'→c.wp C K1 F H→c.wp C K2 F' H
 | .skip,_,_,l,_,_,_,i,h=>l _ _ _ _ i h
 | .region ops,_,_,l,_,_,_,i,h=>MO (l .normal) i h
 | .draw ops,_,_,l,_,_,_,i,⟨Hs,S,R,h2⟩=>⟨Hs,S,R,anF (l .normal) R i h2⟩
 | .seq a b,K1,K2,l,_,_,_,i,h=>HH a (K1:=fZ C (b.wp C) K1) (K2:=fZ C (b.wp C) K2) (fun e F F' H J p=>by
   cases e with
   | normal=>exact HH b l J p
   | exit id=>exact l (.exit id) _ _ _ J p
   | ret=>exact l .ret _ _ _ J p) i h
 | .cond c a b,K1,K2,l,F,F',H,i,h=>by
  rw[axM] at h ⊢;unfold OE at h;split at h
  ·rename_i t ht;rw[cH i ht];unfold OE;simp only;split at h
   ·rename_i e; rw[if_pos e]; exact HH a l i h
   ·rename_i e; rw[if_neg e]; exact HH b l i h
  ·exact h.elim
 | .block id c,K1,K2,l,_,_,_,i,h=>HH c (K1:=fG id K1) (K2:=fG id K2) (fun e F F' H J p=>by
   cases e with
   | normal=>exact l .normal _ _ _ J p
   | exit j =>
    rw[yM] at p ⊢;split at p
    ·rename_i e; rw[if_pos e]; exact l .normal _ _ _ J p
    ·rename_i e; rw[if_neg e]; exact l (.exit j) _ _ _ J p
   | ret=>exact l .ret _ _ _ J p) i h
 | .loop c,K1,K2,l,F,F',H,i,⟨α,Fs,Hs,Pr,m,a0,F1,H1,R,h2,h3,h4,h5⟩=>by
  obtain⟨U,k1,k2⟩:=R.up i;refine⟨α,Fs,Hs,Pr,m,a0,U,H1,k1,h2,PF.le_trans h3 k2,h4,fun a ha=>?_⟩;refine HH c (K1:=jD Fs Hs Pr m (m a) K1) (K2:=jD Fs Hs Pr m (m a) K2) (fun e F F' H J p=>?_) PF.le_refl (h5 a ha);cases e with
  | normal =>obtain⟨b,F2,H2,z1,z2,z3,z4,z5⟩:=p;obtain⟨β,y1,y2⟩:=z1.up J;exact⟨b,β,H2,y1,z2,z3,PF.le_trans z4 y2,z5⟩
  | exit id=>exact l (.exit id) _ _ _ J p
  | ret=>exact l .ret _ _ _ J p
 | .exit id,_,_,l,_,_,_,i,h=>l (.exit id) _ _ _ i h
 | .ret,_,_,l,_,_,_,i,h=>l .ret _ _ _ i h
instance Up.seq {K:bT} [Up K] (b:aA):Up (fZ C (b.wp C) K) where
 up {e} {F} {F'} {H} hl hh:=by
  cases e with
  | normal=>exact HH b (fun e F F' H a h=>Up.up a h) hl hh
  | exit id=>exact Up.up (K:=K) (e:=.exit id) hl hh
  | ret=>exact Up.up (K:=K) (e:=.ret) hl hh
instance Up.block {K:bT} [Up K] (id:Nat):Up (fG id K) where
 up {e} {F} {F'} {H} hl hh:=by
  cases e with
  | normal=>exact Up.up (K:=K) (e:=.normal) hl hh
  | exit j =>
   rw[yM] at hh ⊢;split at hh
   ·rename_i e; rw[if_pos e]; exact Up.up (K:=K) (e:=.normal) hl hh
   ·rename_i e; rw[if_neg e]; exact Up.up (K:=K) (e:=.exit j) hl hh
  | ret=>exact Up.up (K:=K) (e:=.ret) hl hh
instance Up.loop {K:bT} [Up K] {α:Type} (l:α→PF) (Hs:α→PH) (p:α→Prop) (m:α→Nat) (n:Nat):Up (jD l Hs p m n K) where
 up {e} {F} {F'} {H} hl hh:=by
  cases e with
  | normal =>obtain⟨b,F2,H2,U,z2,z3,z4,z5⟩:=hh;obtain⟨i,J,R⟩:=U.up hl;exact⟨b,i,H2,J,z2,z3,PF.le_trans z4 R,z5⟩
  | exit id=>exact Up.up (K:=K) (e:=.exit id) hl hh
  | ret=>exact Up.up (K:=K) (e:=.ret) hl hh
theorem aKA {H:PH} (i:F.le F') {x:dN} {v:PV} (h:x.ev F H=some v):x.ev F' H=some v:=by
 cases x with
 | tmp t=>exact i t v h
 | cell t n =>
  cases n<;>simp only[dN.ev] at h ⊢<;>(cases l:F t with
   | none=>simp[l] at h
   | some a=>rw[i t a l,← l]; exact h)
theorem jf {H:PH} (i:F.le F'):∀ {xs:List dN} {vs:List PV},dN.evs F H xs=some vs→dN.evs F' H xs=some vs
 | [],_,h=>h
 | x::xs,vs,h=>by
  rw[jI] at h ⊢;cases p:x.ev F H with
  | none=>simp[p] at h
  | some v =>
   cases l:dN.evs F H xs with
   | none=>simp[l] at h
   | some J =>rw[p,l] at h;rw[aKA i p,jf i l];exact h
instance Up.ret (res:List dN) (R:PV→PH→Prop):Up (aW res R) where
 up {e} {F} {F'} {H} hl hh:=by
  cases e with
  | exit id=>exact hh
  | normal=>obtain⟨vs,i,l⟩:=hh; exact⟨vs,jf hl i,l⟩
  | ret=>obtain⟨vs,i,l⟩:=hh; exact⟨vs,jf hl i,l⟩
end
section
variable {H:PH} {B:List BX} {L:List LI}
end

section
variable {H:PH} {B:List BX} {L:List LI} {s:Nat} {rows:List (List PV)}
theorem mQ.some (s:Nat) (rows:List (List PV)) (G:PH):∃ r H',mQ s rows r H'∧kS G .nil H':=by
 obtain⟨o,l⟩:=G.fresh;refine⟨.osl o s 0 rows.length,PH.nil.set o (.rows s rows),.inr ⟨o,rows,rfl,rfl,aXL _,aYS⟩,fun q x i _=>?_⟩;rw[aQ] at i;split at i
 ·rename_i e; rw[e]; exact l
 ·cases i
end

section
variable {C:Ctx} {F:PF} {H Hs:PH} {tn a a2:Nat} {raw:List Int} {R:Nat→PV→PH→Prop} {st:Bool} {args:List aO} {d:Option Nat} {K:PF→PH→Prop}
end
section
variable {C:Ctx} {F:PF} {H:PH} {B:List BX} {L:List LI} {args:List aO} {d:Option Nat} {K:PF→PH→Prop}
end


theorem RW.move {f:aK} {L:List (List Int)} (h:RW f L) {x k d:Nat} (J:x<L.length) (R:d<f.aVZ.length):RW f (L.set x (L[x].set k d)):=by
 refine⟨by rw[aZM]; exact h.len,fun v p=>?_,fun r i=>?_⟩
 ·rw[aZM] at p;have:=h.row v p;rw[List.getElem_set];split
  ·rename_i e;subst e;rw[aZM]; exact this
  ·exact this
 ·rcases List.mem_or_eq_of_mem_set i with i | rfl
  ·exact h.home r i
  ·intro y l;rcases List.mem_or_eq_of_mem_set l with l | rfl
   ·exact h.home _ (aXM J) y l
   ·omega


structure aMK (C:Ctx):Prop extends HX C where
 int:∀ n:Int,dC n→aH C 47 [.int .i64 n] .nil (aL (.agg (mkT n 1).cells))
 mul:∀ a b,Lim a→Lim b→a.length≤35184372087808→b.length≤35184372087808→aH C 36 [aG a,aG b] .nil (aL (opV (eN (val a) (val b)) (val a*val b)))
 add:∀ a b,Lim a→Lim b→a.length≤35184372087808→b.length≤35184372087808→aH C 30 [aG a,aG b] .nil (aL (opV (eN (val a) (val b)) (val a+val b)))
 sub:∀ a b,Lim a→Lim b→a.length≤35184372087808→b.length≤35184372087808→aH C 37 [aG a,aG b] .nil (aL (tT (val a) (val b)))
theorem arQ {neg:Bool} {a b:Nat} (h:dJ a b=true):jS neg a b=.ok (rX neg a b):=by
 obtain⟨R,i,l⟩:=lE.1 h;have p:=(pX (a/aXJ a b) 128).2 (cd _ l);have J:=(pX (b/aXJ a b) 128).2 (cd _ i);unfold jS rX;rw[if_neg Om]
def aIP (a b:Nat):Bool:=decide (nl a>128)||decide (nl b>128)
def aQN (x:FV):FR:=if aIP x.2.1 x.2.2 then .error 2 else .ok x
structure aID (C:Ctx):Prop extends aMK C where
 valid:∀ x:RF,x.Ok→aH C 56 [.agg x.cells] .nil (aL (.bool (dJ (val x.num) (val x.den))))
 big:∀ x:FV,aH C 48 [.agg x.rf.cells] .nil (aL (.bool (aIP x.2.1 x.2.2)))
structure aIE (C:Ctx):Prop extends aID C where
 fits:∀ x:FV,aH C 57 [.agg x.rf.cells] .nil (aL (frV (aQN x)))
 red:∀ x:RF,x.Ok→aH C 52 [.agg x.cells] .nil (aL (frV (sD x)))
 prod:∀ a b,Lim a→Lim b→a.length≤35184372087808→b.length≤35184372087808→nl (val a)≤256→nl (val b)≤256→aH C 60 [aG a,aG b] .nil (aL (aG (aI (val a*val b))))
def RF.valid (x:RF):Prop:=dJ (val x.num) (val x.den)=true
def asO (x y:RF):Int:=tQ x.neg (val x.num) (val x.den) y.neg (val y.num) (val y.den)
structure aIF (C:Ctx):Prop extends aIE C where
 order:∀ x y:RF,x.Ok→y.Ok→x.valid→y.valid→aH C 51 [.agg x.cells,.agg y.cells] .nil (aL (.int .i64 (asO x y)))
def Wh (x:RF):Int:=if val x.num=0 then 0 else if x.neg then -1 else 1
structure aMJ (C:Ctx):Prop extends aIF C where
 less:∀ x y:RF,x.Ok→y.Ok→x.valid→y.valid→aH C 49 [.agg x.cells,.agg y.cells] .nil (aL (.bool (decide (asO x y<0))))
 same:∀ x y:RF,x.Ok→y.Ok→x.valid→y.valid→aH C 53 [.agg x.cells,.agg y.cells] .nil (aL (.bool (asO x y==0)))
 sign:∀ x:RF,x.Ok→x.valid→aH C 54 [.agg x.cells] .nil (aL (.int .i64 (Wh x)))
 plus:∀ x y:RF,x.Ok→y.Ok→aH C 46 [.agg x.cells,.agg y.cells] .nil (aL (frV (iW x.v y.v)))
def ayR (k m:Int):Bool:=within k 1 6&&(within m 0 4&&decide (k+m≤8))
def aoF:Rg:=[iA 1 (.box true (Tm 0)),iT 2 false]
def aoG:Rg:=[iO 6 3 1,iK 7 52 6,iM 5 7,iE 8 5 0,iE 9 5 1,iA 3 (.alloc [(.bool false),.aB,.aB]),iS 3 3 8,iM 4 9]
def aoH:Rg:=[iM 10 4,iC 11 .eql 10 0,iM 12 11,gF 13 0 3 12 true,gL 14 13 12 true,iG 15 (.un .not (Tm 14)) 12 true,iP 16 12 15,iM 17 16,gF 18 1 3 17 true,gL 19 18 17 true,gN 20 19 17 true,gC 21 .leq 20 1 17 true,iP 22 17 21,iM 23 22,gF 24 2 3 23 true,gL 25 24 23 true,gN 26 25 23 true,gC 27 .leq 26 1 23 true,iP 28 23 27,iM 2 28]
def Ly:aA:=(sq aoF (sq aoG (sq aoH .ret)))
def aoI:List Nat:=[1]
def aoE:aS:=⟨1,29,Ly,[.tmp 2]⟩
def Yp:Rg:=[iT 4 false]
def Yq:Rg:=[iM 6 0,iN 7 6,iM 8 1,iB 9 .neq 7 8]
def Yr:Rg:=[iT 4 false]
def Ys:Rg:=[iI 5 0]
def Yt:Rg:=[iM 10 5,iM 11 1,iB 12 .lss 10 11]
def Yu:Rg:=[iM 15 0,iM 16 5,iX 17 3 15 16,iO 18 3 17,iK 19 74 18,iA 20 (.un .not (Tm 19))]
def Yv:Rg:=[iT 4 false]
def Yw:Rg:=[iM 13 5,iC 14 .add 13 1,iM 5 14]
def Yo:aA:=(.seq (sq Yt (.cond (Tm 12) .skip (.exit 0))) (.seq (.block 1 (sq Yu (.cond (Tm 20) (sq Yv .ret) .skip))) (.region Yw)))
def Yx:Rg:=[iT 4 true]
def I9:aA:=(sq Yp (.seq (sq Yq (.cond (Tm 9) (sq Yr .ret) .skip)) (.seq (sq Ys (.block 0 (.loop Yo))) (sq Yx .ret))))
def Yy:List Nat:=[]
def Sr:aS:=⟨2,21,I9,[.tmp 4]⟩
def aHA:Rg:=[iA 1 (.box true (Tm 0)),iT 2 false]
def aHB:Rg:=[iF 12 1 1,iL 13 12,iN 14 13,iM 3 14]
def aHC:Rg:=[iM 15 3,iC 16 .lss 15 1,iM 17 16,gM 18 3 17 false,gC 19 .gtr 18 4 17 false,iQ 20 17 19,iM 21 20,gF 22 1 1 21 false,gL 23 22 21 false,gM 24 3 21 false,gK2 25 75 23 24 21 false,iG 26 (.un .not (Tm 25)) 21 false,iQ 27 21 26,iM 28 27,gF 29 3 1 28 false,gL 30 29 28 false,gM 31 3 28 false,gK2 32 75 30 31 28 false,iG 33 (.un .not (Tm 32)) 28 false,iQ 34 28 33,iM 35 34,gF 36 2 1 35 false,gL 37 36 35 false,gN 38 37 35 false,gM 39 3 35 false,gB 40 .neq 38 39 35 false,iQ 41 35 40]
def aHD:Rg:=[iT 2 false]
def aHE:Rg:=[iI 4 0]
def aHF:Rg:=[iM 42 4,iM 43 3,iB 44 .lss 42 43]
def aHG:Rg:=[iF 47 2 1,iL 48 47,iM 49 4,iX 50 1 48 49,iL 51 50,iM 52 3,iK2 53 75 51 52,iA 54 (.un .not (Tm 53)),iM 55 54,gF 56 2 1 55 false,gL 57 56 55 false,gM 58 4 55 false,iG 59 (.aWP 1 (Tm 57) (Tm 58)) 55 false,gL 60 59 55 false,gM 61 4 55 false,iG 62 (.aWP 3 (Tm 60) (Tm 61)) 55 false,gO 63 3 62 55 false,gK 64 54 63 55 false,gC 65 .neq 64 0 55 false,iQ 66 55 65]
def aHH:Rg:=[iT 2 false]
def aHI:Rg:=[iM 45 4,iC 46 .add 45 1,iM 4 46]
def aGZ:aA:=(.seq (sq aHF (.cond (Tm 44) .skip (.exit 0))) (.seq (.block 1 (sq aHG (.cond (Tm 66) (sq aHH .ret) .skip))) (.region aHI)))
def axR:Rg:=[iF 68 1 1,iL 69 68,iK 70 55 69,iM 67 70,iE 71 67 0,iE 72 67 1,iA 5 (.alloc [(.bool false),.aB,.aB]),iS 3 5 71,iM 6 72]
def axS:Rd:=[(iM 73 6,false),(iC 74 .neq 73 0,false),(iM 75 74,false),(gO 76 3 5 75 false,true),(iG 77 (.call 47 [(Ci 1)]) 75 false,true),(gK2 78 53 76 77 75 false,true),(iG 79 (.un .not (Tm 78)) 75 false,false),(iQ 80 75 79,false)]
def axT:Rg:=[iT 2 false]
def axU:Rg:=[iM 81 3,iA 82 (.aWH 1 1 [(.bool false)] (Tm 81) (Tm 81)),iM 7 82]
def axV:Rg:=[iI 8 0]
def axW:Rg:=[iM 83 8,iM 84 3,iB 85 .lss 83 84]
def axX:Rg:=[iI 9 0]
def axY:Rg:=[iM 88 9,iM 89 3,iB 90 .lss 88 89]
def axZ:Rg:=[iM 93 7,iM 94 9,iM 95 7,iM 96 9,iX 97 1 95 96,iL 98 97,iM 99 98,gF 100 3 1 99 false,gL 101 100 99 false,gM 102 9 99 false,iG 103 (.aWP 3 (Tm 101) (Tm 102)) 99 false,gO 104 3 103 99 false,gK 105 54 104 99 false,gC 106 .gtr 105 0 99 false,iQ 107 99 106,iX 108 1 93 94,iS 1 108 107]
def ayA:Rg:=[iI 10 0]
def ayB:Rg:=[iM 109 10,iM 110 3,iB 111 .lss 109 110]
def ayC:Rg:=[iM 114 7,iM 115 9,iM 116 7,iM 117 9,iX 118 1 116 117,iL 119 118,iM 120 119,gF 121 2 1 120 false,gL 122 121 120 false,gM 123 9 120 false,iG 124 (.aWP 1 (Tm 122) (Tm 123)) 120 false,gL 125 124 120 false,gM 126 10 120 false,iG 127 (.aWP 3 (Tm 125) (Tm 126)) 120 false,gO 128 3 127 120 false,gK 129 54 128 120 false,gC 130 .gtr 129 0 120 false,gM 131 130 120 false,gM 132 7 131 true,gM 133 10 131 true,iG 134 (.aWP 1 (Tm 132) (Tm 133)) 131 true,gL 135 134 131 true,iG 136 (.pick (Tm 131) (Tm 135) (.const (.bool false))) 120 false,iQ 137 120 136,iX 138 1 114 115,iS 1 138 137]
def ayD:Rg:=[iM 112 10,iC 113 .add 112 1,iM 10 113]
def axN:aA:=(.seq (sq ayB (.cond (Tm 111) .skip (.exit 6))) (.seq (.block 7 (.region ayC)) (.region ayD)))
def ayE:Rg:=[iM 91 9,iC 92 .add 91 1,iM 9 92]
def axO:aA:=(.seq (sq axY (.cond (Tm 90) .skip (.exit 4))) (.seq (.block 5 (sq axZ (sq ayA (.block 6 (.loop axN))))) (.region ayE)))
def ayF:Rg:=[iM 86 8,iC 87 .add 86 1,iM 8 87]
def axP:aA:=(.seq (sq axW (.cond (Tm 85) .skip (.exit 2))) (.seq (.block 3 (sq axX (.block 4 (.loop axO)))) (.region ayF)))
def ayG:Rg:=[iI 11 0]
def ayH:Rg:=[iM 139 11,iM 140 3,iB 141 .lss 139 140]
def ayI:Rg:=[iM 144 7,iM 145 11,iX 146 1 144 145,iL 147 146,iA 148 (.un .not (Tm 147))]
def ayJ:Rg:=[iT 2 false]
def ayK:Rg:=[iM 142 11,iC 143 .add 142 1,iM 11 143]
def axQ:aA:=(.seq (sq ayH (.cond (Tm 141) .skip (.exit 8))) (.seq (.block 9 (sq ayI (.cond (Tm 148) (sq ayJ .ret) .skip))) (.region ayK)))
def ayL:Rg:=[iT 2 true]
def anY:aA:=(sq aHA (sq aHB (.seq (sq aHC (.cond (Tm 41) (sq aHD .ret) .skip)) (.seq (sq aHE (.block 0 (.loop aGZ))) (.seq (sq axR (dq axS (.cond (Tm 80) (sq axT .ret) .skip))) (sq axU (.seq (sq axV (.block 2 (.loop axP))) (.seq (sq ayG (.block 8 (.loop axQ))) (sq ayL .ret)))))))))
def aHJ:List Nat:=[1]
def aLJ:aS:=⟨1,149,anY,[.tmp 2]⟩
def aHL:Rg:=[iT 4 false]
def aHM:Rg:=[iM 6 0,iM 7 1,iA 8 (.aWT true (Tm 7) (Ci 1)),iK2 9 75 6 8,iA 10 (.un .not (Tm 9))]
def aHN:Rg:=[iT 4 false]
def aHO:Rg:=[iI 5 0]
def aHP:Rg:=[iM 11 5,iM 12 0,iN 13 12,iB 14 .lss 11 13]
def aHQ:Rg:=[iM 17 0,iM 18 5,iX 19 3 17 18,iO 20 3 19,iK 21 54 20,iC 22 .eql 21 0]
def aHR:Rg:=[iT 4 false]
def aHS:Rg:=[iM 15 5,iC 16 .add 15 1,iM 5 16]
def aHK:aA:=(.seq (sq aHP (.cond (Tm 14) .skip (.exit 0))) (.seq (.block 1 (sq aHQ (.cond (Tm 22) (sq aHR .ret) .skip))) (.region aHS)))
def aHT:Rg:=[iT 4 true]
def anZ:aA:=(sq aHL (.seq (sq aHM (.cond (Tm 10) (sq aHN .ret) .skip)) (.seq (sq aHO (.block 0 (.loop aHK))) (sq aHT .ret))))
def aHU:List Nat:=[]
def aLK:aS:=⟨2,23,anZ,[.tmp 4]⟩
def aaC:Rg:=[iT 6 false]
def aaD:Rg:=[iM 7 0,iM 8 1,iB 9 .geq 7 8,iM 10 9,gM 11 0 10 true,gM 12 2 10 true,gB 13 .leq 11 12 10 true,iP 14 10 13,iM 6 14]
def Ja:aA:=(sq aaC (sq aaD .ret))
def aaE:List Nat:=[]
def Ss:aS:=⟨3,15,Ja,[.tmp 6]⟩
def aoB:Rg:=[iT 12 false]
def aoC:Rg:=[iM 13 0,iC 14 .leq 13 4,iM 15 14,gM 16 1 15 true,gC 17 .leq 16 4 15 true,iP 18 15 17,iM 19 18,gM 20 2 19 true,gC 21 .leq 20 40 19 true,iP 22 19 21,iM 23 22,gM 24 3 23 true,gC 25 .leq 24 24 23 true,iP 26 23 25,iM 27 26,gM 28 4 27 true,gC 29 .leq 28 4 27 true,iP 30 27 29,iM 31 30,gM 32 5 31 true,gC 33 .leq 32 12 31 true,iP 34 31 33,iM 12 34]
def Lx:aA:=(sq aoB (sq aoC .ret))
def aoD:List Nat:=[]
def aoA:aS:=⟨6,35,Lx,[.tmp 12]⟩
def Ll:Rg:=[iA 7 (.box true (Tm 3)),iT 8 false]
def Lm:Rg:=[iM 10 0,iM 11 1,iK2 12 61 10 11,iA 13 (.un .not (Tm 12)),iM 14 13,gM 15 2 14 false,gM 16 0 14 false,gM 17 0 14 false,gM 18 1 14 false,gB 19 .add 17 18 14 false,iG 20 (.call 76 [(Tm 15),(Tm 16),(Tm 19)]) 14 false,iG 21 (.un .not (Tm 20)) 14 false,iQ 22 14 21,iM 23 22,iG 24 (.idxA 5 1 (Tm 7) (Ci 0)) 23 false,gL 25 24 23 false,gC 26 .neq 25 0 23 false,iQ 27 23 26]
def Ln:Rg:=[iT 8 false]
def Lo:Rg:=[iI 9 1]
def Lp:Rg:=[iM 28 9,iC 29 .lss 28 5]
def Lr:Rg:=[iM 32 9,iA 33 (.idxA 5 1 (Tm 7) (Tm 32)),iL 34 33,iA 35 (.call 76 [(Tm 34),(Ci 0),(Ci 8)]),iA 36 (.un .not (Tm 35))]
def Ls:Rg:=[iT 8 false]
def Lt:Rg:=[iM 30 9,iC 31 .add 30 1,iM 9 31]
def Lk:aA:=(.seq (sq Lp (.cond (Tm 29) .skip (.exit 0))) (.seq (.block 1 (sq Lr (.cond (Tm 36) (sq Ls .ret) .skip))) (.region Lt)))
def Lu:Rg:=[iT 8 true]
def u6:aA:=(sq Ll (.seq (sq Lm (.cond (Tm 27) (sq Ln .ret) .skip)) (.seq (sq Lo (.block 0 (.loop Lk))) (sq Lu .ret))))
def Lw:List Nat:=[7]
def I8:aS:=⟨4,37,u6,[.tmp 8]⟩
def aGW:Rg:=[iA 6 (.box true (Tm 2)),iA 7 (.box true (Tm 3)),iT 8 false]
def aGX:Rd:=[(iM 9 1,false),(iM 10 0,false),(iK2 11 66 9 10,true),(iM 12 11,false),(gO 13 3 6 12 true,false),(gK 14 74 13 12 true,true),(iP 15 12 14,false),(iM 16 15,false),(iG 17 (.call 47 [(Ci 1)]) 16 true,true),(gO 18 3 6 16 true,true),(gK2 19 49 17 18 16 true,true),(iG 20 (.un .not (Tm 19)) 16 true,false),(iP 21 16 20,false),(iM 22 21,false),(gO 23 3 7 22 true,false),(gK 24 74 23 22 true,true),(iP 25 22 24,false),(iM 8 25,false)]
def anI:aA:=(sq aGW (dq aGX .ret))
def aGY:List Nat:=[6,7]
def aLI:aS:=⟨4,26,anI,[.tmp 8]⟩
def anQ:Rg:=[iI 4 0]
def anR:Rg:=[iI 5 0]
def anS:Rg:=[iM 6 5,iM 7 0,iN 8 7,iB 9 .lss 6 8]
def anT:Rg:=[iM 12 0,iM 13 5,iX 14 1 12 13,iL 15 14,iM 16 1,iB 17 .eql 15 16]
def anU:Rg:=[iM 18 5,iM 4 18]
def anV:Rg:=[iM 10 5,iC 11 .add 10 1,iM 5 11]
def anP:aA:=(.seq (sq anS (.cond (Tm 9) .skip (.exit 0))) (.seq (.block 1 (sq anT (.cond (Tm 17) (sq anU .ret) .skip))) (.region anV)))
def anW:Rg:=[iI 4 (-1)]
def Lj:aA:=(sq anQ (.seq (sq anR (.block 0 (.loop anP))) (sq anW .ret)))
def anX:List Nat:=[]
def anO:aS:=⟨2,19,Lj,[.tmp 4]⟩
def aoK:Rg:=[iA 1 (.box true (Tm 0)),iT 2 false]
def aoL:Rg:=[iF 22 0 1,iL 23 22,iA 24 (.call 76 [(Tm 23),(Ci 1),(Ci 4)]),iA 25 (.un .not (Tm 24)),iM 26 25,gF 27 1 1 26 false,gL 28 27 26 false,gN 29 28 26 false,gF 30 2 1 26 false,gL 31 30 26 false,gN 32 31 26 false,gF 33 3 1 26 false,gL 34 33 26 false,gN 35 34 26 false,gF 36 4 1 26 false,gL 37 36 26 false,gN 38 37 26 false,gF 39 5 1 26 false,gL 40 39 26 false,gN 41 40 26 false,gF 42 6 1 26 false,gL 43 42 26 false,gN 44 43 26 false,iG 45 (.call 73 [(Tm 29),(Tm 32),(Tm 35),(Tm 38),(Tm 41),(Tm 44)]) 26 false,iG 46 (.un .not (Tm 45)) 26 false,iQ 47 26 46,iM 48 47,gF 49 3 1 48 false,gL 50 49 48 false,gN 51 50 48 false,gC 52 .eql 51 0 48 false,iQ 53 48 52]
def aoM:Rg:=[iT 2 false]
def aoN:Rg:=[iZ 3,iZ 4,iZ 5,iZ 6,iZ 7]
def aoO:Rg:=[iT 8 true]
def aoP:Rg:=[iI 9 0]
def aoQ:Rg:=[iM 54 9,iF 55 1 1,iL 56 55,iN 57 56,iB 58 .lss 54 57,iM 59 58,gM 60 8 59 true,iP 61 59 60]
def aoR:Rg:=[iM 65 3,iF 66 1 1,iL 67 66,iM 68 9,iX 69 4 67 68,iF 70 0 69,iL 71 70,iK2 72 70 65 71,iM 64 72,iE 73 64 0,iE 74 64 1,iM 3 73,iM 8 74]
def aoS:Rg:=[iM 75 8,iM 76 75,gF 77 1 1 76 true,gL 78 77 76 true,gM 79 9 76 true,iG 80 (.aWP 4 (Tm 78) (Tm 79)) 76 true,gO 81 4 80 76 true,gK 82 68 81 76 true,iP 83 76 82,iM 8 83]
def aoT:Rg:=[iM 62 9,iC 63 .add 62 1,iM 9 63]
def Yz:aA:=(.seq (sq aoQ (.cond (Tm 61) .skip (.exit 0))) (.seq (.block 1 (sq aoR (.region aoS))) (.region aoT)))
def Y7:Rg:=[iI 10 0]
def Y8:Rg:=[iM 84 10,iF 85 2 1,iL 86 85,iN 87 86,iB 88 .lss 84 87,iM 89 88,gM 90 8 89 true,iP 91 89 90]
def Y9:Rg:=[iF 94 2 1,iL 95 94,iM 96 10,iX 97 4 95 96,iO 98 4 97,iA 11 (.alloc [(.str []),(.int .i64 0),(.int .i64 0),(.int .i64 0)]),iS 4 11 98]
def Za:Rg:=[iM 100 4,iF 101 0 11,iL 102 101,iK2 103 70 100 102,iM 99 103,iE 104 99 0,iE 105 99 1,iM 4 104,iM 8 105]
def Zb:Rg:=[iM 106 8,iM 107 106,gF 108 1 11 107 true,gL 109 108 107 true,iG 110 (.call 76 [(Tm 109),(Ci 1),(Ci 16)]) 107 true,iP 111 107 110,iM 112 111,gF 113 2 11 112 true,gL 114 113 112 true,iG 115 (.call 76 [(Tm 114),(Ci 1),(Ci 64)]) 112 true,iP 116 112 115,iM 117 116,gF 118 3 11 117 true,gL 119 118 117 true,gF 120 1 1 117 true,gL 121 120 117 true,gN 122 121 117 true,gC 123 .sub 122 1 117 true,iG 124 (.call 76 [(Tm 119),(Ci 0),(Tm 123)]) 117 true,iP 125 117 124,iM 8 125]
def Zc:Rg:=[iM 92 10,iC 93 .add 92 1,iM 10 93]
def Y0:aA:=(.seq (sq Y8 (.cond (Tm 91) .skip (.exit 2))) (.seq (.block 3 (sq Y9 (sq Za (.region Zb)))) (.region Zc)))
def Zd:Rg:=[iF 126 3 1,iL 127 126,iA 128 (.aWP 7 (Tm 127) (Ci 0)),iO 129 7 128,iA 12 (.alloc [(.str []),(.int .i64 0),(.int .i64 0),(.int .i64 0),(.bool false),.aB,.aB]),iS 7 12 129]
def Ze:Rg:=[iM 130 8,iM 131 130,gF 132 0 12 131 true,gL 133 132 131 true,iG 134 (.bin .eql (Tm 133) (.const (.str []))) 131 true,iP 135 131 134,iM 136 135,gF 137 1 12 136 true,gL 138 137 136 true,gC 139 .eql 138 0 136 true,iP 140 136 139,iM 141 140,gF 142 2 12 141 true,gL 143 142 141 true,gC 144 .eql 143 (-1) 141 true,iP 145 141 144,iM 146 145,gF 147 3 12 146 true,gL 148 147 146 true,gC 149 .eql 148 0 146 true,iP 150 146 149,iM 151 150,gF 152 4 12 151 true,gO 153 3 152 151 true,gK 154 56 153 151 true,iP 155 151 154,iM 156 155,gF 157 4 12 156 true,gO 158 3 157 156 true,gK 159 54 158 156 true,gC 160 .eql 159 0 156 true,iP 161 156 160,iM 8 161]
def Zf:Rg:=[iI 13 1]
def Zg:Rg:=[iM 162 13,iF 163 3 1,iL 164 163,iN 165 164,iB 166 .lss 162 165,iM 167 166,gM 168 8 167 true,iP 169 167 168]
def Zh:Rg:=[iF 172 3 1,iL 173 172,iM 174 13,iX 175 7 173 174,iO 176 7 175,iA 14 (.alloc [(.str []),(.int .i64 0),(.int .i64 0),(.int .i64 0),(.bool false),.aB,.aB]),iS 7 14 176]
def Zi:Rg:=[iM 178 5,iF 179 0 14,iL 180 179,iK2 181 70 178 180,iM 177 181,iE 182 177 0,iE 183 177 1,iM 5 182,iM 8 183]
def Zj:Rd:=[(iM 184 8,false),(iM 185 184,false),(gF 186 1 14 185 true,false),(gL 187 186 185 true,false),(iG 188 (.call 76 [(Tm 187),(Ci 1),(Ci 4)]) 185 true,true),(iP 189 185 188,false),(iM 190 189,false),(gF 191 2 14 190 true,false),(gL 192 191 190 true,false),(gM 193 13 190 true,false),(gC 194 .sub 193 1 190 true,false),(iG 195 (.call 76 [(Tm 192),(Ci 0),(Tm 194)]) 190 true,true),(iP 196 190 195,false),(iM 197 196,false),(gF 198 3 1 197 true,false),(gL 199 198 197 true,false),(gF 200 2 14 197 true,false),(gL 201 200 197 true,false),(iG 202 (.aWP 7 (Tm 199) (Tm 201)) 197 true,false),(gF 203 1 202 197 true,false),(gL 204 203 197 true,false),(gF 205 1 14 197 true,false),(gL 206 205 197 true,false),(gC 207 .sub 206 1 197 true,false),(gB 208 .eql 204 207 197 true,false),(iP 209 197 208,false),(iM 210 209,false),(gF 211 3 14 210 true,false),(gL 212 211 210 true,false),(iG 213 (.call 76 [(Tm 212),(Ci 1),(Ci 64)]) 210 true,true),(iP 214 210 213,false),(iM 215 214,false),(gF 216 4 14 215 true,false),(gO 217 3 216 215 true,false),(gK 218 74 217 215 true,true),(iP 219 215 218,false),(iM 8 219,false)]
def Zk:Rg:=[iM 170 13,iC 171 .add 170 1,iM 13 171]
def Y1:aA:=(.seq (sq Zg (.cond (Tm 169) .skip (.exit 4))) (.seq (.block 5 (sq Zh (sq Zi (.draw Zj)))) (.region Zk)))
def Zl:Rg:=[iI 15 0]
def Zm:Rg:=[iM 220 15,iF 221 4 1,iL 222 221,iN 223 222,iB 224 .lss 220 223,iM 225 224,gM 226 8 225 true,iP 227 225 226]
def Zn:Rg:=[iF 230 4 1,iL 231 230,iM 232 15,iX 233 3 231 232,iO 234 3 233,iA 16 (.alloc [(.str []),(.int .i64 0),(.int .i64 0)]),iS 3 16 234]
def Zo:Rg:=[iM 236 5,iF 237 0 16,iL 238 237,iK2 239 70 236 238,iM 235 239,iE 240 235 0,iE 241 235 1,iM 5 240,iM 8 241]
def Zp:Rg:=[iM 242 8,iM 243 242,gF 244 1 16 243 true,gL 245 244 243 true,gF 246 2 1 243 true,gL 247 246 243 true,gN 248 247 243 true,gC 249 .sub 248 1 243 true,iG 250 (.call 76 [(Tm 245),(Ci 0),(Tm 249)]) 243 true,iP 251 243 250,iM 252 251,gF 253 2 16 252 true,gL 254 253 252 true,gF 255 3 1 252 true,gL 256 255 252 true,gN 257 256 252 true,gC 258 .sub 257 1 252 true,iG 259 (.call 76 [(Tm 254),(Ci 0),(Tm 258)]) 252 true,iP 260 252 259,iM 261 260,gF 262 3 1 261 true,gL 263 262 261 true,gF 264 2 16 261 true,gL 265 264 261 true,iG 266 (.aWP 7 (Tm 263) (Tm 265)) 261 true,gF 267 1 266 261 true,gL 268 267 261 true,gC 269 .eql 268 4 261 true,iP 270 261 269,iM 8 270]
def Zq:Rg:=[iM 228 15,iC 229 .add 228 1,iM 15 229]
def Y2:aA:=(.seq (sq Zm (.cond (Tm 227) .skip (.exit 6))) (.seq (.block 7 (sq Zn (sq Zo (.region Zp)))) (.region Zq)))
def Zr:Rg:=[iI 17 0]
def Zs:Rg:=[iM 271 17,iF 272 5 1,iL 273 272,iN 274 273,iB 275 .lss 271 274,iM 276 275,gM 277 8 276 true,iP 278 276 277]
def Zt:Rg:=[iF 281 5 1,iL 282 281,iM 283 17,iX 284 17 282 283,iO 285 17 284,iA 18 (.alloc [(.str []),(.int .i64 0),(.int .i64 0),(.int .i64 0),(.int .i64 0),(.int .i64 0),(.int .i64 0),(.int .i64 0),(.int .i64 0),.aB,.aB,(.bool false),.aB,.aB,(.bool false),.aB,.aB]),iS 17 18 285]
def Zu:Rg:=[iM 287 6,iF 288 0 18,iL 289 288,iK2 290 70 287 289,iM 286 290,iE 291 286 0,iE 292 286 1,iM 6 291,iM 8 292]
def Zv:Rg:=[iM 293 8,iM 294 293,gF 295 1 18 294 true,gL 296 295 294 true,gF 297 2 18 294 true,gL 298 297 294 true,gF 299 3 18 294 true,gL 300 299 294 true,gF 301 4 18 294 true,gO 302 5 301 294 true,iG 303 (.call 72 [(Tm 296),(Tm 298),(Tm 300),(Tm 302)]) 294 true,iP 304 294 303,iM 305 304,gF 306 2 18 305 true,gL 307 306 305 true,gF 308 10 18 305 true,gL 309 308 305 true,gF 310 11 18 305 true,gO 311 3 310 305 true,gF 312 14 18 305 true,gO 313 3 312 305 true,iG 314 (.call 69 [(Tm 307),(Tm 309),(Tm 311),(Tm 313)]) 305 true,iP 315 305 314,iM 316 315,gF 317 9 18 316 true,gL 318 317 316 true,gN 319 318 316 true,gC 320 .gtr 319 0 316 true,iP 321 316 320,iM 8 321]
def Zw:Rg:=[iI 19 0]
def Zx:Rg:=[iM 322 19,iF 323 9 18,iL 324 323,iN 325 324,iB 326 .lss 322 325,iM 327 326,gM 328 8 327 true,iP 329 327 328]
def Zy:Rd:=[(iF 332 9 18,false),(iL 333 332,false),(iM 334 19,false),(iX 335 1 333 334,false),(iL 336 335,false),(iF 337 2 1,false),(iL 338 337,false),(iN 339 338,false),(iC 340 .sub 339 1,false),(iA 341 (.call 76 [(Tm 336),(Ci 0),(Tm 340)]),true),(iM 8 341,false)]
def Zz:Rg:=[iI 20 0]
def Z1:Rg:=[iM 342 20,iM 343 19,iB 344 .lss 342 343]
def Z2:Rd:=[(iM 347 8,false),(iM 348 347,false),(gF 349 9 18 348 true,false),(gL 350 349 348 true,false),(gM 351 20 348 true,false),(iG 352 (.aWP 1 (Tm 350) (Tm 351)) 348 true,false),(gL 353 352 348 true,false),(gF 354 9 18 348 true,false),(gL 355 354 348 true,false),(gM 356 19 348 true,false),(iG 357 (.aWP 1 (Tm 355) (Tm 356)) 348 true,false),(gL 358 357 348 true,false),(gB 359 .neq 353 358 348 true,false),(iP 360 348 359,false),(iM 8 360,false)]
def Z3:Rg:=[iM 345 20,iC 346 .add 345 1,iM 20 346]
def Y3:aA:=(.seq (sq Z1 (.cond (Tm 344) .skip (.exit 12))) (.seq (.block 13 (.draw Z2)) (.region Z3)))
def Z4:Rg:=[iM 330 19,iC 331 .add 330 1,iM 19 331]
def Y4:aA:=(.seq (sq Zx (.cond (Tm 329) .skip (.exit 10))) (.seq (.block 11 (dq Zy (sq Zz (.block 12 (.loop Y3))))) (.region Z4)))
def Z5:Rg:=[iM 279 17,iC 280 .add 279 1,iM 17 280]
def Y5:aA:=(.seq (sq Zs (.cond (Tm 278) .skip (.exit 8))) (.seq (.block 9 (sq Zt (sq Zu (sq Zv (sq Zw (.block 10 (.loop Y4))))))) (.region Z5)))
def Z6:Rg:=[iI 21 0]
def Z7:Rg:=[iM 361 21,iF 362 6 1,iL 363 362,iN 364 363,iB 365 .lss 361 364,iM 366 365,gM 367 8 366 true,iP 368 366 367]
def Z8:Rg:=[iM 372 7,iF 373 6 1,iL 374 373,iM 375 21,iX 376 2 374 375,iF 377 0 376,iL 378 377,iK2 379 70 372 378,iM 371 379,iE 380 371 0,iE 381 371 1,iM 7 380,iM 8 381]
def Z9:Rd:=[(iM 382 8,false),(iM 383 382,false),(gF 384 6 1 383 true,false),(gL 385 384 383 true,false),(gM 386 21 383 true,false),(iG 387 (.aWP 2 (Tm 385) (Tm 386)) 383 true,false),(gF 388 1 387 383 true,false),(gL 389 388 383 true,false),(gF 390 5 1 383 true,false),(gL 391 390 383 true,false),(gN 392 391 383 true,false),(gC 393 .sub 392 1 383 true,false),(iG 394 (.call 76 [(Tm 389),(Ci 0),(Tm 393)]) 383 true,true),(iP 395 383 394,false),(iM 8 395,false)]
def aaA:Rg:=[iM 369 21,iC 370 .add 369 1,iM 21 370]
def Y6:aA:=(.seq (sq Z7 (.cond (Tm 368) .skip (.exit 14))) (.seq (.block 15 (sq Z8 (.draw Z9))) (.region aaA)))
def aaB:Rg:=[iM 396 8,iM 2 396]
def Lz:aA:=(sq aoK (.seq (sq aoL (.cond (Tm 53) (sq aoM .ret) .skip)) (sq aoN (sq aoO (.seq (sq aoP (.block 0 (.loop Yz))) (.seq (sq Y7 (.block 2 (.loop Y0))) (sq Zd (sq Ze (.seq (sq Zf (.block 4 (.loop Y1))) (.seq (sq Zl (.block 6 (.loop Y2))) (.seq (sq Zr (.block 8 (.loop Y5))) (.seq (sq Z6 (.block 14 (.loop Y6))) (sq aaB .ret)))))))))))))
def aoU:List Nat:=[1]
def aoJ:aS:=⟨1,397,Lz,[.tmp 2]⟩
def anL:Rg:=[iZ 4,iT 5 false]
def anM:Rg:=[iM 6 0,iM 7 1,iA 8 (.aWF true 1 1 [(.str [])] [(0,(Tm 7))]),iA 9 (.append 1 16 (Tm 6) (Tm 8)),iM 10 1,iK 11 62 10,iM 12 11,gM 13 0 12 true,gM 14 1 12 true,gK2 15 71 13 14 12 true,gC 16 .lss 15 0 12 true,iP 17 12 16,iM 4 9,iM 5 17]
def Li:aA:=(sq anL (sq anM .ret))
def anN:List Nat:=[8]
def anK:aS:=⟨2,18,Li,[.tmp 4,.tmp 5]⟩
def aKK (a b c d e f:Nat):Bool:=decide (a≤4)&&(decide (b≤4)&&(decide (c≤40)&&(decide (d≤24)&&(decide (e≤4)&&decide (f≤12)))))
structure aIC (C:Ctx):Prop extends aMJ C where
 sum:∀ l:List RF,(∀ x∈l,x.Ok)→l.length≤9223372036854775807→aH C 55 [frs l] .nil (aL (frV (oW (l.map RF.v))))
 inn:∀ n lo hi:Int,aH C 76 [.int .i64 n,.int .i64 lo,.int .i64 hi] .nil (aL (.bool (within n lo hi)))
 code:∀ k m:Int,aH C 61 [.int .i64 k,.int .i64 m] .nil (aL (.bool (ayR k m)))
def aQW (k m q s0 s1 s2 s3 s4:Int):Bool:=ayR k m&&(within q k (k+m)&&(decide (s0=0)&&(within s1 0 8&&(within s2 0 8&&(within s3 0 8&&within s4 0 8)))))
theorem ZH {x:RF} (h:eH x=true):x.valid:=by
 unfold eH sD at h;unfold RF.valid;cases i:dJ (val x.num) (val x.den) with
 | true=>rfl
 | false =>rw[i] at h;simp at h
structure azK (C:Ctx):Prop extends aIC C where
 small:∀ x:RF,x.Ok→aH C 74 [.agg x.cells] .nil (aL (.bool (eH x)))
 nums:∀ k m q s0 s1 s2 s3 s4:Int,aH C 72 [.int .i64 k,.int .i64 m,.int .i64 q,.agg [.int .i64 s0,.int .i64 s1,.int .i64 s2,.int .i64 s3,.int .i64 s4]] .nil (aL (.bool (aQW k m q s0 s1 s2 s3 s4)))
 sizes:∀ a b c d e f:Nat,aH C 73 [.int .i64 a,.int .i64 b,.int .i64 c,.int .i64 d,.int .i64 e,.int .i64 f] .nil (aL (.bool (aKK a b c d e f)))
structure azL (C:Ctx):Prop extends azK C where
 smalls:∀ l:List RF,mJ l→∀ n:Int,aH C 75 [frs l,.int .i64 n] .nil (aL (.bool (decide ((l.length:Int)=n)&&l.all eH)))
def aTR (l:List RF) (m:Int):Bool:=decide ((l.length:Int)=max m 1)&&l.all eH&&l.all bP
structure azM (C:Ctx):Prop extends azL C where
 reps:∀ l:List RF,mJ l→∀ m:Int,aH C 66 [frs l,.int .i64 m] .nil (aL (.bool (aTR l m)))
section
variable {H:PH} {B:List BX} {L:List LI}
end
abbrev GG (l:List (List UInt8)):List (List PV):=l.map fun s=>[PV.str s]
def aIV:List (List UInt8)→List UInt8→Nat→Int
 | [],_,_=>-1
 | x::t,s,i=>if x==s then (i:Int) else aIV t s (i+1)
structure azN (C:Ctx):Prop extends azM C where
 name:∀ s:List UInt8,aH C 62 [.str s] .nil (aL (.bool (isName s)))
 index:∀ (l:List (List UInt8)),l.length≤1000000→∀ s:List UInt8,aH C 71 [.sl 1 (GG l),.str s] .nil (aL (.int .i64 (aIV l s 0)))
def abP (l:List (List UInt8)) (s:List UInt8):Bool:=isName s&&!l.contains s
def aaG (l:List (List UInt8)) (s:List UInt8) (r:PV) (B:List BX) (L:List LI):Prop:=∃ i,r=.tup [i,.bool (abP l s)]∧B=[]∧L=[(i,1,GG (l++[s]))]
theorem ahE {x:RF} (h:eH x=true):decide (Wh x>0)=bP x:=by
 have l:=ZH h;unfold eH sD at h;rw[show dJ (val x.num) (val x.den)=true from l,if_pos rfl,arQ l] at h;unfold Wh bP;by_cases i:val x.num=0
 ·simp[i]
 ·have J:val x.num/aXJ (val x.num) (val x.den)≠0:=by have:=Nat.div_pos (Nat.gcd_le_left (val x.den) (aZU i)) (Nat.gcd_pos_of_pos_left _ (aZU i));omega
  have p:x.neg=false:=by unfold rX at h;simp only[J,ne_eq,not_false_eq_true,decide_true,a0B,aYB] at h;simpa using h.1
  rw[if_neg i,p];simp[i]
structure ft (C:Ctx):Prop extends azN C where
 fresh:∀ (l:List (List UInt8)),l.length≤1000000→∀ (s:List UInt8) (w:PV) (H:PH),aP H [] [(w,1,GG l)]→aH C 70 [w,.str s] H (fun r H'=>∃ B' L',aaG l s r B' L'∧aP H' B' L')
theorem ft.pos {C:Ctx} (L:ft C) {x:RF} (i:x.Ok) (h:eH x=true):∃ n:Int,aH C 54 [.agg x.cells] .nil (aL (.int .i64 n))∧decide (n>0)=bP x:=⟨_,L.sign x i (ZH h),ahE h⟩
def Marks (R S:List Bool):Prop:=R.length=S.length∧∀ j:Nat,R[j]?=some true→S[j]?=some true
theorem Marks.trans {R S T:List Bool} (h:Marks R S) (k:Marks S T):Marks R T:=⟨h.1.trans k.1,fun j a=>k.2 j (h.2 j a)⟩

structure aIB (H:PH) (w:PV) (base ns:List (List UInt8)) (c:Bool) (i:Nat):Prop where
 ex:∃ names,aP H [] [(w,1,GG names)]∧(c=true→names=base++ns.take i)
section
variable {C:Ctx} {F:PF} {H:PH} {d:Option Nat} {K:PF→PH→Prop}
theorem aIB.call (L:ft C) {w:PV} {base p:List (List UInt8)} {i:Nat} {B:List BX} {l:List (List UInt8)} (h:aP H B [(w,1,GG l)]) (hl:base.length≤1000) (hi:i≤1000) (hn:l=base++p.take i) (R:i<p.length) {a b:Nat} (J:aO.evs F [.tmp a,.tmp b]=some [w,.str p[i]])
  (hk:∀ U H',aP H' B [(U,1,GG (l++[p[i]]))]→aIB H' U base p true (i+1)→K (F.put d (.tup [U,.bool (abP (base++p.take i) (p.getD i []))])) H'):gY C 70 [.tmp a,.tmp b] [] d K F H:=by
 refine AM (B1:=[]) (B2:=B) (L1:=[(w,1,GG l)]) (L2:=[]) (Q:=aaG l p[i]) h (fun H0 h0=>L.fresh l (by rw[hn,aXN,aYA]; omega) p[i] w H0 h0) J ?_;rintro r B' L' H' ⟨U,rfl,rfl,rfl⟩ h';have α:p.getD i []=p[i]:=by simp[aYK,R]
 rw[α,← hn] at hk;refine hk U H' h' ⟨l++[p[i]],h'.sub (List.nil_sublist _) (aZJ.refl _),fun _=>?_⟩;rw[aZT R,← aYQ,hn]
end






def agH:Rg:=[iA 3 (.box true (Tm 0)),iI 6 0]
def agI:Rg:=[iF 8 4 3,iL 9 8,iM 10 1,iX 11 3 9 10,iF 12 2 11,iL 13 12,iM 7 13]
def agJ:Rg:=[iF 14 3 3,iL 15 14,iM 16 7,iX 17 7 15 16,iF 18 1 17,iL 19 18,iM 20 2,iB 21 .gtr 19 20]
def agK:Rg:=[iF 22 3 3,iL 23 22,iM 24 7,iX 25 7 23 24,iF 26 2 25,iL 27 26,iM 7 27]
def agG:aA:=(.seq (sq agJ (.cond (Tm 21) .skip (.exit 0))) (.block 1 (.region agK)))
def agL:Rg:=[iM 28 7,iM 6 28]
def J8:aA:=(sq agH (sq agI (.seq (.block 0 (.loop agG)) (sq agL .ret))))
def agM:List Nat:=[3]
def agF:aS:=⟨3,29,J8,[.tmp 6]⟩
def V5:Rg:=[iA 2 (.box true (Tm 0)),iZ 4]
def V6:Rg:=[iZ 5]
def V7:Rg:=[iO 7 7 2,iK 8 67 7,iA 9 (.un .not (Tm 8)),iM 10 9,gM 11 1 10 false,gC 12 .lss 11 0 10 false,iQ 13 10 12,iM 14 13,gM 15 1 14 false,gF 16 3 2 14 false,gL 17 16 14 false,gN 18 17 14 false,gB 19 .geq 15 18 14 false,iQ 20 14 19]
def V8:Rg:=[iZ 4]
def V9:Rg:=[iI 6 0]
def Wa:Rg:=[iM 21 6,iF 22 4 2,iL 23 22,iN 24 23,iB 25 .lss 21 24]
def Wb:Rd:=[(iO 28 7 2,false),(iM 29 6,false),(iF 30 3 2,false),(iL 31 30,false),(iM 32 1,false),(iX 33 7 31 32,false),(iF 34 1 33,false),(iL 35 34,false),(iA 36 (.call 88 [(Tm 28),(Tm 29),(Tm 35)]),true),(iM 37 1,true),(iB 38 .eql 36 37,false)]
def Wc:Rg:=[iM 39 5,iM 40 6,iA 41 (.aWF true 1 1 [(.int .i64 0)] [(0,(Tm 40))]),iA 42 (.append 1 8 (Tm 39) (Tm 41)),iM 5 42]
def Wd:Rg:=[iM 26 6,iC 27 .add 26 1,iM 6 27]
def V4:aA:=(.seq (sq Wa (.cond (Tm 25) .skip (.exit 0))) (.seq (.block 1 (dq Wb (.cond (Tm 38) (.region Wc) .skip))) (.region Wd)))
def Kl:Rg:=[iM 43 5,iM 4 43]
def Gm:aA:=(sq V5 (sq V6 (.seq (sq V7 (.cond (Tm 20) (sq V8 .ret) .skip)) (.seq (sq V9 (.block 0 (.loop V4))) (sq Kl .ret)))))
def We:List Nat:=[2,41]
def Rf:aS:=⟨2,44,Gm,[.tmp 4]⟩
def Ka:Rg:=[iA 3 (.box true (Tm 0)),iA 4 (.box true (Tm 1)),iT 6 false]
def Kb:Rg:=[iI 7 0]
def Kc:Rg:=[iM 8 7,iF 9 9 3,iL 10 9,iN 11 10,iB 12 .lss 8 11]
def Kd:Rd:=[(iF 15 9 3,false),(iL 16 15,false),(iM 17 7,false),(iX 18 1 16 17,false),(iL 19 18,false),(iF 20 4 4,false),(iL 21 20,false),(iM 22 2,false),(iX 23 3 21 22,false),(iF 24 1 23,false),(iL 25 24,false),(iB 26 .eql 19 25,false)]
def Ke:Rg:=[iT 6 true]
def Kf:Rg:=[iM 13 7,iC 14 .add 13 1,iM 7 14]
def J9:aA:=(.seq (sq Kc (.cond (Tm 12) .skip (.exit 0))) (.seq (.block 1 (dq Kd (.cond (Tm 26) (sq Ke .ret) .skip))) (.region Kf)))
def Kg:Rg:=[iT 6 false]
def ut:aA:=(sq Ka (.seq (sq Kb (.block 0 (.loop J9))) (sq Kg .ret)))
def Kh:List Nat:=[3,4]
def Gk:aS:=⟨3,27,ut,[.tmp 6]⟩
def agQ:Rg:=[iA 3 (.box true (Tm 0)),iI 6 0]
def agR:Rg:=[iI 7 0]
def agS:Rg:=[iI 8 0]
def agT:Rg:=[iM 9 8,iM 10 1,iN 11 10,iB 12 .lss 9 11]
def agU:Rd:=[(iM 15 1,false),(iM 16 8,false),(iX 17 1 15 16,false),(iL 18 17,false),(iC 19 .geq 18 0,false),(iM 20 19,false),(gO 21 7 3 20 true,false),(gM 22 1 20 true,false),(gM 23 8 20 true,false),(iG 24 (.aWP 1 (Tm 22) (Tm 23)) 20 true,false),(gL 25 24 20 true,false),(gF 26 3 3 20 true,false),(gL 27 26 20 true,false),(gM 28 2 20 true,false),(iG 29 (.aWP 7 (Tm 27) (Tm 28)) 20 true,false),(gF 30 1 29 20 true,false),(gL 31 30 20 true,false),(iG 32 (.call 88 [(Tm 21),(Tm 25),(Tm 31)]) 20 true,true),(gM 33 2 20 true,true),(gB 34 .eql 32 33 20 true,false),(iP 35 20 34,false)]
def agV:Rg:=[iM 36 7,iC 37 .add 36 1,iM 7 37]
def agW:Rg:=[iM 13 8,iC 14 .add 13 1,iM 8 14]
def agP:aA:=(.seq (sq agT (.cond (Tm 12) .skip (.exit 0))) (.seq (.block 1 (dq agU (.cond (Tm 35) (.region agV) .skip))) (.region agW)))
def agX:Rg:=[iM 38 7,iM 6 38]
def Kj:aA:=(sq agQ (sq agR (.seq (sq agS (.block 0 (.loop agP))) (sq agX .ret))))
def agY:List Nat:=[3]
def agO:aS:=⟨3,39,Kj,[.tmp 6]⟩






theorem aqI {C:Ctx} (l:List Int) (J:Fits l):CQ.wp C (aW vf.res (aL (.bool true))) (PF.args [ints l,ints l]) .nil:=by
 have R:l.length≤9223372036854775807:=J;simp only[go_sem,CQ,yi,yj,vf,aXI,cE (show (l.length:Int)=(l.length:Nat) from rfl),yk];refine wp_loop (α:=Nat) (fun k=>(((PF.nil.set 0 (ints l)).set 1 (ints l)).set 5 (.int .i64 k))) (fun _=>.nil) (fun k=>k≤l.length) (fun k=>l.length-k) 0 (aXU _) Lq PH.nil_le ?_;intro k U;simp only[go_sem,yh,yl,aXI];by_cases hlt:k<l.length
 ·have i:(k:Int)<(l.length:Nat):=Om;have p:(l.map fun x=>[PV.int .i64 x])[k]?=some [.int .i64 l[k]]:=by simp[hlt]
  simp only[go_sem,i];refine cJ .nil eU PH.nil_le ?_;simp only[go_sem,ym,p,cE (show l[k]=l[k] from rfl),yn,wZz k];exact aM (k+1) hlt Om Lq PH.le_refl
 ·have i:¬ (k:Int)<(l.length:Nat):=Om;simp only[go_sem,i,yo];refine bV (.inr rfl) rfl ?_;rfl


open Go Go.RowKit
def xI (R:PH→Prop):bT
 | .normal,_,H=>R H
 | _,_,_=>False
theorem bE.putObj {E:Env} {H:PH} {w:World} {l:Nat} {o o':Obj} (hW:bE E H w) (U:w.heap[l]?=some o) (ho:∀ c t b,o≠.cells c t b) (hH:H l=none):bE E H (w.putObj l o'):=by
 refine⟨fun b cs h=>?_,fun q x h=>?_,fun q n h=>?_⟩
 ·obtain⟨i,ty,R,p⟩:=hW.g b cs h;have:b≠l:=fun e=>by rw[e,U] at p; exact ho _ _ _ (by injection p)
  exact⟨i,ty,R,(World.putObj_heap_other this).trans p⟩
 ·obtain⟨i,p⟩:=hW.h q x h;have:q≠l:=fun e=>by rw[e,hH] at h; cases h
  exact⟨by rw[World.putObj_size]; exact i,p.mono (.refl E) (World.putObj_heap_other this)⟩
 ·obtain⟨J,ty,R,i,p⟩:=hW.s q n h;have:q≠l:=fun e=>by rw[e,U] at i; exact ho _ _ _ (by injection i)
  exact⟨J,ty,R,(World.putObj_heap_other this).trans i,p⟩
theorem bE.setObj {E:Env} {H:PH} {w:World} {l:Nat} {o:Obj} {x:bX} (hW:bE E H w) (p:w.heap[l]?=some o) (U:∀ c t b,o≠.cells c t b) (hx:HV E w l x):bE E (H.set l x) w:=by
 refine⟨fun b cs h=>?_,fun q y h=>?_,hW.s⟩
 ·obtain⟨R,ty,J,i⟩:=hW.g b cs h;have:¬ b=l:=fun e=>by rw[e,p] at i; exact U _ _ _ (by injection i)
  refine⟨fun y hy=>R y ?_,ty,J,i⟩
  rwa [aQ,if_neg this] at hy
 ·rw[aQ] at h;split at h
  ·rename_i e;cases h;subst e;exact⟨(a0M.1 p).1,hx⟩
  ·exact hW.h q y h
theorem anG {c:Code} {l m:Nat} {P:Program} {Q:Exit→Act→World→Prop} {i tm':Array Value} {ds:List Deferred} {w:World} (e:i=tm') (h:c.wpIn (Fz (some l)) m P Q { tmps:=tm',defers:=ds } w):c.wpIn (Fence.wide.inRound l) m P Q { tmps:=i,defers:=ds } w:=by
 subst e; exact h
section
variable {C:Ctx} {T:Tbl}
theorem Lh (ι:C.P=T.P) (δ:C.num=T.num) {n t l:Nat} {α β:Code} {φ ζ:aA} (h1:T.code n α=some φ) (h2:T.code n β=some ζ) (ht:t<n) {F:PF} {x:PV} {H:PH} {R:PH→Prop} (hl:H l=none)
  (k':φ.wp C (fZ C (ζ.wp C) (xI R)) (F.set t x) H) :
  AR C l [x] (H.set l (.loop F n t α β)) (fun r H'=>r=.bool true∧∃ H2,R H2∧H2 l=none∧H'=H2.set l (.loop F n t α β)):=by
 intro E w vs hN hW j';obtain⟨vl⟩:=vs;cases j' with
 | cons e1 e2 =>
 cases e2;rename_i v;obtain⟨hlt,rec,θ,ε,υ,τ,ω,Γ,Ψ,hF⟩:=hW.h l (.loop F n t α β) (by rw[cD]);have g':bE E H w:=hW.weaken fun o y ho=>by
  have:¬ o=l:=fun e=>by rw[e,hl] at ho; cases ho
  rw[aQ,if_neg this]; exact ho
 refine⟨rec.fn,_,rec.assign,rec.body,run_yield θ (by rw[τ]; rfl),?_⟩;rw[ω,Γ,τ];refine roundIn_of_wpIn (F:=Fence.wide) trivial ?_;have hA:cQ [] n E (F.set t x) { tmps:=rec.tmps.setIfInBounds t v,defers:=[] }:=by
  refine⟨by simp[Ψ],rfl,fun i pv hi=>?_⟩;rw[jM] at hi;split at hi
  ·rename_i e;cases hi;subst e;simp only[a0V];rw[Array.getElem?_setIfInBounds_self_of_lt Om];exact e1
  ·rename_i e;simp only[a0V];rw[Array.getElem?_setIfInBounds_ne (fun h=>e h.symm),← a0V];exact hF i pv hi
 rw[ι];refine anG (tm':=rec.tmps.setIfInBounds t v) (by simp) ?_;refine nT (ro:=some l) (fu:=0) ι δ α φ (fZ C (ζ.wp C) (xI R)) _ E (F.set t x) H _ w h1 k' hA g' (hN.trans δ) fun e E1 F1 H1 a1 w1 b' c' p μ=>?_;cases e with
 | exit id=>exact μ.elim
 | ret=>exact μ.elim
 | normal =>
  have ο:w1.heap[l]?=some (.loop rec):=(p.block l hlt hl).trans θ;have κ:H1 l=none:=by
   cases hh:H1 l with
   | none=>rfl
   | some y =>
    rcases p.new l y hh with ⟨z,U⟩ | hge
    ·rw[hl] at U; cases U
    ·omega
  refine⟨_,run_beginRound ο ε,?_⟩;have d':=c'.putObj (o':=.loop { rec with state:=.busy }) ο (fun _ _ _ h=>by cases h) κ;have η:l<w1.heap.size:=(a0M.1 ο).1;have i':(w1.putObj l (.loop { rec with state:=.busy })).heap[l]?=some (.loop { rec with state:=.busy }):=World.putObj_heap_same η;have Ω:(w1.putObj l (.loop { rec with state:=.busy })).heap.size=w1.heap.size:=World.putObj_size;have σ:∀ b,b≠l→(w1.putObj l (.loop { rec with state:=.busy })).heap[b]?=w1.heap[b]?:=fun b hb=>World.putObj_heap_other hb;have Φ:(w1.putObj l (.loop { rec with state:=.busy })).os=w1.os:=rfl;have a':(w1.putObj l (.loop { rec with state:=.busy })).tape=w1.tape:=rfl;have Ξ:(w1.putObj l (.loop { rec with state:=.busy })).output=w1.output:=rfl;generalize w1.putObj l (.loop { rec with state:=.busy })=w2 at *
  refine nT (ro:=some l) (fu:=0) ι δ β ζ (xI R) _ E1 F1 H1 a1 w2 h2 μ b' d' (p.env.num.trans (hN.trans δ)) fun e2 E2 F2 H2 a2 w3 l' e' J ν=>?_;cases e2 with
  | exit id=>exact ν.elim
  | ret=>exact ν.elim
  | normal =>
   have ρ:w3.heap[l]?=some (.loop { rec with state:=.busy }):=(J.block l (by rw[Ω]; exact η) κ).trans i';have Λ:l<w3.heap.size:=(a0M.1 ρ).1;have ψ:H2 l=none:=by
    cases hh:H2 l with
    | none=>rfl
    | some y =>
     rcases J.new l y hh with ⟨z,U⟩ | hge
     ·rw[κ] at U; cases U
     ·omega
   have χ:({ { rec with state:=.busy } with state:=if (none:Option Code).isNone then .ready else .done,pending:=none }:Loop)=rec:=by obtain⟨a,b,c,d,e,f,g,h⟩:=rec;simp only at ε υ;subst ε υ;rfl
   refine⟨_,_,run_endRound none ρ,?_⟩;rw[χ];have f':=(e'.putObj (o':=.loop rec) ρ (fun _ _ _ h=>by cases h) ψ);have Θ:(w3.putObj l (.loop rec)).heap[l]?=some (.loop rec):=World.putObj_heap_same Λ;have Δ:E.le E2:=p.env.trans J.env;refine⟨.bool true,.bool true,E2,H2.set l (.loop F n t α β),rfl,f'.setObj Θ (fun _ _ _ h=>by cases h) ⟨rec,Θ,ε,υ,τ,ω,Γ,Ψ,fun i pv hi=>(hF i pv hi).mono Δ⟩,.bool true,?_,rfl,H2,ν,ψ,rfl⟩;refine⟨Δ,?_,?_,?_,?_,fun b hb hn=>?_,fun o y ho=>?_,fun b cs hb=>?_⟩
   ·exact J.os.trans (Φ.trans p.os)
   ·exact J.tape.trans (a'.trans p.tape)
   ·exact J.output.trans (Ξ.trans p.output)
   ·have:=p.size;have:=J.size;rw[World.putObj_size];omega
   ·have ξ:b≠l:=fun e=>by rw[e,cD] at hn; cases hn
    rw[aQ,if_neg ξ] at hn;have h':H1 b=none:=by
     cases hh:H1 b with
     | none=>rfl
     | some y =>
      rcases p.new b y hh with ⟨z,U⟩ | hge
      ·rw[hn] at U; cases U
      ·omega
    rw[World.putObj_heap_other ξ,J.block b (by have:=p.size; omega) h',σ b ξ,p.block b hb hn]
   ·rw[aQ] at ho;split at ho
    ·rename_i e;exact .inl ⟨_,by rw[e,cD]⟩
    ·rename_i e;rcases J.new o y ho with ⟨z,U⟩ | hge
     ·rcases p.new o z U with ⟨z2,γ⟩ | hge
      ·exact .inl ⟨z2,by rw[aQ,if_neg e]; exact γ⟩
      ·exact .inr hge
     ·have:=p.size;exact .inr Om
   ·rcases J.newG b cs hb with hg | ⟨z,U⟩ | hge
    ·rcases p.newG b cs hg with hg | ⟨z,U⟩ | hge
     ·exact .inl hg
     ·have e:¬ b=l:=fun e=>by rw[e,hl] at U; cases U
      exact .inr (.inl ⟨z,by rw[aQ,if_neg e]; exact U⟩)
     ·exact .inr (.inr hge)
    ·rcases p.new b z U with ⟨z2,γ⟩ | hge
     ·have e:¬ b=l:=fun e=>by rw[e,hl] at γ; cases γ
      exact .inr (.inl ⟨z2,by rw[aQ,if_neg e]; exact γ⟩)
     ·exact .inr (.inr hge)
    ·have:=p.size;exact .inr (.inr Om)
end
open Go Go.RowKit
abbrev sM (D:Nat):Deferred:={ target:=.collected D,args:=#[] }
theorem bE.alloc {E:Env} {H:PH} {w:World} (hW:bE E H w) (o:Obj):bE E H (w.alloc o):=by
 have p:(w.alloc o).heap.size=w.heap.size+1:=World.size_alloc w o;have i:∀ b,b<w.heap.size→(w.alloc o).heap[b]?=w.heap[b]?:=fun b hlt=>Below.heap_alloc w o b hlt;exact hW.same Om (fun b hlt _=>i b hlt) (fun q x l=>i q (hW.h q x l).1)
section
variable {C:Ctx} {T:Tbl} {ds:List Deferred} {fu:Nat}
theorem aIS {f:FuncId} {args:Array Value} {w:World} {P:Program} {fn:Func} (p:P.funcs[f]?=some fn) (J:fn.body.isSome=true) (l:(fn.name=="runtime.NumGoroutine")=false):(callFunc f args).run P w=.ok (.enter f args) w:=by
 have i:fn.body.isNone=false:=by cases h:fn.body<;>simp_all
 simp only[callFunc,Sem.run_bind,Sem.run_pure,Result.andThen_ok,run_program,p,l,i,a0N,if_false]
def v7 (C:Ctx) (name:Nat) (cs:List PV) (F:PF) (H:PH) (n t:Nat) (i p:Code) (J:PH→Prop):Prop :=
 ∀ l,H l=none→aH C name (tN l::cs) (H.set l (.loop F n t i p)) (fun _ H'=>∃ H2,J H2∧H2.le H'∧H2 l=none∧H' l=some (.loop F n t i p))
theorem J0 (μ:C.P=T.P) (κ:C.num=T.num) {n t name:Nat} {g:Operand} {pg:aO} {U α:Code} {cs:List PV} {E:Env} {F:PF} {H:PH} {a:Act} {w:World} {KH:PH→Prop} {Q:Exit→Act→World→Prop} (hg:T.opd g=some pg) (b':pg.ev F=some (.fn name cs))
  (c':v7 C name cs F H n t U α KH) (hA:cQ ds n E F a) (hW:bE E H w) (hN:E.num=T.num)
  (hT:∀ D E' H2 w',cQ (sM D::ds) n E' F { a with defers:=sM D::a.defers }→bE E' H2 w'→Ext E H w E' H2 w'→w'.heap[D]?=some (.deferred (some []))→H2 D=none→w.heap.size≤D→KH H2→Q .normal { a with defers:=sM D::a.defers } w') :
  (Code.rangeFunc g #[t] U α).wpIn (Fz none) fu T.P Q a w:=by
 have r:=aV hg b' hA hN;generalize h':a.eval g=vg at r;cases r with
 | fn vc Ω a' =>
 have γ:∀ o x,H o=some x→o<w.heap.size:=fun o x ho=>(hW.h o x ho).1;have nD:H w.heap.size=none:=by
  cases h:H w.heap.size with
  | none=>rfl
  | some x=>have:=γ _ x h; omega
 have nl:H (w.heap.size+1)=none:=by
  cases h:H (w.heap.size+1) with
  | none=>rfl
  | some x=>have:=γ _ x h; omega
 obtain⟨⟨fn,hf,hb,d'⟩,η⟩:=c' (w.heap.size+1) nl;rw[μ] at hf;refine wpIn_rangeFunc fun ω _=>?_;obtain⟨rec,ε⟩:∃ rec:Loop,rec={ state:=.ready,pending:=none,fn:=ω,tmps:=a.tmps,params:=#[t],assign:=U,body:=α,defers:=w.heap.size }:=⟨_,rfl⟩;obtain⟨J,l⟩:∃ J,(w.alloc (.deferred (some []))).alloc (.loop rec)=J:=⟨_,rfl⟩;have φ:(w.alloc (.deferred (some []))).heap.size=w.heap.size+1:=World.size_alloc _ _;have j':J.heap.size=w.heap.size+2:=by rw[← l,World.size_alloc,φ]
 have τ:∀ b,b<w.heap.size→J.heap[b]?=w.heap[b]?:=fun b hb=>by rw[← l];exact (Below.heap_alloc _ _ b Om).trans (Below.heap_alloc _ _ b hb)
 have Δ:J.heap[w.heap.size]?=some (.deferred (some [])):=by rw[← l];exact (Below.heap_alloc _ _ _ Om).trans (World.alloc_heap_new w _)
 have ρ:J.heap[w.heap.size+1]?=some (.loop rec):=by
  rw[← l];have:=World.alloc_heap_new (w.alloc (.deferred (some []))) (.loop rec)
  rwa [φ] at this
 have Φ:bE E H J:=by rw[← l]; exact (hW.alloc _).alloc _
 have Ψ:bE E (H.set (w.heap.size+1) (.loop F n t U α)) J:=Φ.setObj ρ (fun _ _ _ h=>by cases h) (by subst ε;exact⟨_,ρ,rfl,rfl,rfl,rfl,rfl,hA.size,hA.t⟩);have f':J.os=w.os:=by rw[← l]; rfl
 have g':J.tape=w.tape:=by rw[← l]; rfl
 have e':J.output=w.output:=by rw[← l]; rfl
 have δ:C.num name=E.num name:=by rw[κ,hN]
 refine⟨w.heap.size+1,[sM w.heap.size],J,{ target:=.fn (.func (E.num name)) vc,args:=#[.func (.yield (w.heap.size+1)) #[] #[]] },J,E.num name,#[Value.func (.yield (w.heap.size+1)) #[] #[]]++vc,J,?_,?_,?_,?_,?_,?_⟩
 ·rw[← l,ε];exact run_enterLoop_outer _ _ _ _ _
 ·simp only[resolve,h'];simp[go_sem]
 ·exact fun _ _=>trivial
 ·simp only[invoke];exact aIS (by rw[← δ]; exact hf) hb d'
 ·intro h; cases h
 ·have ζ:dY E (tN (w.heap.size+1)::cs) (#[Value.func (.yield (w.heap.size+1)) #[] #[]]++vc).toList:=by rw[Array.toList_append];exact .cons (.lit _) (dY.ayV (by simpa using Ω) fun j p u hp hu=>a' j p u hp (by simpa using hu))
  have hc:=η E J _ (hN.trans κ.symm) Ψ ζ;rw[μ,δ] at hc;refine Fz.calls (hc.mono fun e w3 he=>?_);obtain⟨v,pv,E',H',rfl,ο,hr,R,H2,Ξ,θ,β,Λ⟩:=he;obtain⟨i',ψ,σ,χ,υ,-⟩:=ο.h _ _ Λ;have ι:w.heap.size≠w.heap.size+1:=Om;have Θ:w3.heap[w.heap.size]?=some (.deferred (some [])):=(R.block _ Om (by rw[aQ,if_neg ι]; exact nD)).trans Δ;have ξ:H' w.heap.size=none:=by
   cases hh:H' w.heap.size with
   | none=>rfl
   | some y =>
    rcases R.new _ y hh with ⟨z,hz⟩ | hge
    ·rw[aQ,if_neg ι,nD] at hz; cases hz
    ·omega
  have ν:H2 w.heap.size=none:=by
   cases hh:H2 w.heap.size with
   | none=>rfl
   | some y=>rw[θ _ y hh] at ξ; cases ξ
  refine⟨ψ.pending,_,run_endLoop σ (by rw[χ]; exact fun h=>by cases h),?_⟩;rw[υ];simp only;have Γ:cQ (sM w.heap.size::ds) n E' F { a with defers:=sM w.heap.size::a.defers }:=⟨hA.size,by simp only; rw[hA.defers],fun i pv hi=>(hA.t i pv hi).mono R.env⟩;refine hT w.heap.size E' H2 _ Γ ((ο.weaken θ).putObj σ (fun _ _ _ h=>by cases h) β) ?_ ((World.putObj_heap_other ι).trans Θ) ν (aXL _) Ξ;refine⟨R.env,R.os.trans f',R.tape.trans g',R.output.trans e',?_,fun b hb hn=>?_,fun o y ho=>?_,fun b cs hb=>?_⟩
  ·have:=R.size;rw[World.putObj_size]; omega
  ·have h1:b≠w.heap.size+1:=Om;rw[World.putObj_heap_other h1,R.block b Om (by rw[aQ,if_neg h1]; exact hn),τ b hb]
  ·have h1:o≠w.heap.size+1:=fun e=>by rw[e,β] at ho; cases ho
   rcases R.new o y (θ o y ho) with ⟨z,hz⟩ | hge
   ·rw[aQ,if_neg h1] at hz;exact .inl ⟨z,hz⟩
   ·exact .inr Om
  ·rcases R.newG b cs hb with h | ⟨z,hz⟩ | hge
   ·exact .inl h
   ·by_cases h1:b=w.heap.size+1
    ·exact .inr (.inr Om)
    ·rw[aQ,if_neg h1] at hz;exact .inr (.inl ⟨z,hz⟩)
   ·exact .inr (.inr Om)
end
open Go Go.RowKit
inductive nP where
 | seq (a:aA) (t:nP)
 | range (g:aO) (n t:Nat) (asg bdy:Code) (pas pbd rest:aA)
def nP.wp (C : Ctx) : nP → bT → PF → PH → Prop
  | .seq a t, K, F, H => a.wp C (fZ C (t.wp C) K) F H
  | .range g n t i p R U rest, K, F, H => ∃ name cs KH, g.ev F = some (.fn name cs) ∧
      ((∀ (l : Nat) (x : PV) (J : PH) (J' : PH → Prop), J l = none → R.wp C (fZ C (U.wp C) (xI J')) (F.set t x) J →
        AR C l [x] (J.set l (.loop F n t i p)) (fun r H' => r = .bool true ∧ ∃ H2, J' H2 ∧ H2 l = none ∧ H' = H2.set l (.loop F n t i p))) → v7 C name cs F H n t i p KH) ∧
      ∀ H2, KH H2 → rest.wp C K F H2
namespace Tbl
variable (T:Tbl)
def tail (n:Nat):Code→Option nP
 | .seq (.rangeFunc g ps i l) rest=>match T.opd g,T.code n i,T.code n l,T.code n rest with
  | some U,some p,some J,some pr=>match ps.toList with
   | [t]=>if t<n then some (.range U n t i l p J pr) else none
   | _=>none
  | _,_,_,_=>none
 | .seq (.seq a (.block _ (.rangeFunc g ps i l))) rest=>match T.code n a,T.opd g,T.code n i,T.code n l,T.code n rest with
  | some R,some U,some p,some J,some pr=>match ps.toList with
   | [t]=>if t<n then some (.seq R (.range U n t i l p J pr)) else none
   | _=>none
  | _,_,_,_,_=>none
 | .seq a b=>match T.code n a,tail n b with
  | some R,some tb=>some (.seq R tb)
  | _,_=>none
 | _=>none
end Tbl
section
variable {C:Ctx} {T:Tbl} {fu:Nat}
def vT (n:Nat) (E:Env) (H:PH) (w:World) (K:bT) (Q:Exit→Act→World→Prop):Prop :=
 ∀ ds,(ds=[]∨∃ D,ds=[sM D])→∀ e l p H' J i,cQ ds n l p J→bE l H' i→Ext E H w l H' i→(∀ D,ds=[sM D]→i.heap[D]?=some (.deferred (some []))∧H' D=none∧w.heap.size≤D)→K e p H'→Q e.out J i
theorem vT.after {n:Nat} {E p:Env} {H H':PH} {w R:World} {K:bT} {Q:Exit→Act→World→Prop} (h:vT n E H w K Q) (J:Ext E H w p H' R):vT n p H' R K Q :=
 fun ds i e U F2 H2 a2 w2 hA hW hX l hK=>h ds i e U F2 H2 a2 w2 hA hW (J.trans hX) (fun D hD=>⟨(l D hD).1,(l D hD).2.1,aZD J.size (l D hD).2.2⟩) hK
theorem vT.plain {n:Nat} {E:Env} {H:PH} {w:World} {K:bT} {Q:Exit→Act→World→Prop} (h:vT n E H w K Q):HY [] n E H w K Q :=
 fun e i l H' p w' J hW U R=>h [] (.inl rfl) e i l H' p w' J hW U (fun D hD=>by cases hD) R
theorem cq (α:C.P=T.P) (U:C.num=T.num) {n t:Nat} {g:Operand} {pg:aO} {ps:Array Tmp} {p R rest:Code} {ε ζ pr:aA} {K:bT} {Q Q0:Exit→Act→World→Prop} {E:Env} {F:PF} {H:PH} {a:Act} {w:World} (hQ:∀ a w,rest.wpIn (Fz none) fu T.P Q a w→Q0 .normal a w)
  (h1:T.opd g=some pg) (h2:T.code n p=some ε) (h3:T.code n R=some ζ) (h4:T.code n rest=some pr) (h5:ps.toList=[t]) (ht:t<n)
  (ρ:(nP.range pg n t p R ε ζ pr).wp C K F H) (hA:cQ [] n E F a) (hW:bE E H w) (hN:E.num=T.num) (hT:vT n E H w K Q) :
  (Code.rangeFunc g ps p R).wpIn (Fz none) fu T.P Q0 a w:=by
 obtain⟨name,cs,KH,k1,k2,k3⟩:=ρ;have ο:ps=#[t]:=by obtain⟨l⟩:=ps;simp only at h5;subst h5;rfl
 subst ο;refine J0 (ds:=[]) α U h1 k1 (k2 fun l x J J' hJ hw=>Lh α U h2 h3 ht hJ hw) hA hW hN fun D E' H2 w' η ν γ hD δ ι μ=>?_;refine hQ _ w' ?_;refine nT (ro:=none) (fu:=fu) (ds:=[sM D]) α U rest pr K Q E' F H2 _ w' h4 (k3 H2 μ) η ν (γ.env.num.trans hN) fun e E3 F3 H3 a3 w3 θ ξ β κ=>?_;refine hT [sM D] (.inr ⟨D,rfl⟩) e E3 F3 H3 a3 w3 θ ξ (γ.trans β) (fun D' i=>?_) κ;injection i with i _
 injection i with i _
 injection i with i
 subst i;have hlt:D<w'.heap.size:=(a0M.1 hD).1;refine⟨(β.block D hlt δ).trans hD,?_,ι⟩;cases hh:H3 D with
 | none=>rfl
 | some y =>
  rcases β.new D y hh with ⟨z,hz⟩ | hge
  ·rw[δ] at hz; cases hz
  ·omega
theorem Wy (J:C.P=T.P) (p:C.num=T.num) {n:Nat}:∀ (c:Code) (t:nP) (K:bT) (Q:Exit→Act→World→Prop) (E:Env) (F:PF) (H:PH) (a:Act) (w:World),
  T.tail n c=some t→t.wp C K F H→cQ [] n E F a→bE E H w→E.num=T.num→vT n E H w K Q→c.wpIn (Fz none) fu T.P Q a w:=by
 intro c
 induction c with
 | seq x y ζ δ =>
  intro t K Q E F H a w i α hA hW hN hT;unfold Tbl.tail at i;split at i
  ·rename_i g ps R U rest e;cases e;split at i
   ·rename_i pg β γ pr e1 e2 e3 e4;split at i
    ·rename_i t0 e5;split at i
     ·rename_i e6;cases i;exact wpIn_seq (cq J p (fun _ _ h=>h) e1 e2 e3 e4 e5 e6 α hA hW hN hT)
     ·cases i
    ·cases i
   ·cases i
  ·rename_i a0 ε g ps R U rest e;cases e;split at i
   ·rename_i pa pg β γ pr e0 e1 e2 e3 e4;split at i
    ·rename_i t0 e5;split at i
     ·rename_i e6;cases i;have l:pa.wp C (fZ C ((nP.range pg n t0 R U β γ pr).wp C) K) F H:=α;refine wpIn_seq (wpIn_seq (nT (ro:=none) (fu:=fu) (ds:=[]) J p a0 pa (fZ C ((nP.range pg n t0 R U β γ pr).wp C) K) _ E F H a w e0 l hA hW hN fun e E' F' H' a' w' g1 g2 g3 g4=>?_));cases e with
      | normal=>exact wpIn_block (cq J p (fun _ _ h=>h) e1 e2 e3 e4 e5 e6 g4 g1 g2 (g3.env.num.trans hN) (hT.after g3))
      | exit id=>exact hT.plain (.exit id) E' F' H' a' w' g1 g2 g3 g4
      | ret=>exact hT.plain .ret E' F' H' a' w' g1 g2 g3 g4
     ·cases i
    ·cases i
   ·cases i
  ·rename_i a0 b0 _ _ e;cases e;split at i
   ·rename_i pa tb e1 e2;cases i;have l:pa.wp C (fZ C (tb.wp C) K) F H:=α;refine wpIn_seq (nT (ro:=none) (fu:=fu) (ds:=[]) J p x pa (fZ C (tb.wp C) K) _ E F H a w e1 l hA hW hN fun e E' F' H' a' w' g1 g2 g3 g4=>?_);cases e with
    | normal=>exact δ tb K Q E' F' H' a' w' e2 g4 g1 g2 (g3.env.num.trans hN) (hT.after g3)
    | exit id=>exact hT.plain (.exit id) E' F' H' a' w' g1 g2 g3 g4
    | ret=>exact hT.plain .ret E' F' H' a' w' g1 g2 g3 g4
   ·cases i
  ·cases i
 | _=>intro t K Q E F H a w i; simp[Tbl.tail] at i
end
structure AP where
 nparams:Nat
 ntmps:Nat
 body:nP
 res:List dN
namespace Tbl
variable (T:Tbl)
def vj (fn:Func):Option AP :=
 match fn.body with
 | some c=>match T.tail fn.ntmps c,T.jd fn.results.toList with
  | some b,some rs=>some ⟨fn.params.size,fn.ntmps,b,rs⟩
  | _,_=>none
 | none=>none
end Tbl
theorem XZ {C:Ctx} {T:Tbl} {H:PH} (ζ:C.P=T.P) (ε:C.num=T.num) {name:Nat} {args:List PV} {R:PV→PH→Prop} {fn:Func} {pf:AP} (hf:C.P.funcs[C.num name]?=some fn) (τ:(fn.name=="runtime.NumGoroutine")=false)
  (l:T.vj fn=some pf) (κ:args.length≤pf.ntmps) (h:pf.body.wp C (aW pf.res R) (PF.args args) H):aH C name args H R:=by
 unfold Tbl.vj at l;split at l
 ·rename_i c hb;split at l
  ·rename_i b rs α γ;cases l;refine⟨⟨fn,hf,by simp[hb],τ⟩,fun E w vs hN hW ξ=>?_⟩;have χ:vs.size=args.length:=by simpa using ξ.len
   refine (callsIn_wide (n:=0)).1 (callsIn_of_wp_marks hf hb trivial ?_ rfl);rw[ζ];have hA:cQ [] fn.ntmps E (PF.args args) { tmps:=vs++aZE (fn.ntmps-vs.size) undef,defers:=[] }:=by
    refine⟨by simp only at κ; simp; omega,rfl,fun i pv hi=>?_⟩;have β:i<vs.size:=by
     rw[χ];rcases aXZ i args.length with h' | h'
     ·exact h'
     ·simp[PF.args,aYT h'] at hi
    simp only[a0V];rw[Array.getElem?_append_left β,a0P β];exact ξ.at_ i pv _ hi (by simp[β])
   refine Wy (fu:=0) ζ ε c b (aW rs R) _ E (PF.args args) H _ w α h hA hW (hN.trans ε) fun ds ρ e p F' H' a' U δ η J hm hK=>?_;have fin:∀ w2,bE p H' w2→Ext E H w p H' w2→aW rs R .ret F' H'→LeavesIn Fence.wide 0 T.P fn a'.tmps (fun e U=>∃ v pv p H',e=.returned v∧bE p H' U∧aU p pv v∧Ext E H w p H' U∧R pv H') [] .returning w2:=by
    rintro w2 θ ο ⟨ψ,μ,F1,H1,H2,σ,ι,v0,φ,hR⟩;obtain⟨us,g1,g2⟩:=FY δ θ fn.results.toList rs ψ γ μ;have υ:=ck g2;obtain⟨E2,k1,k2,k3⟩:=σ.sound θ;have ν:=k3 (fun _=>if h:us.toArray.size=1 then us.toArray[0] else .tuple us.toArray) (fun i pv hi=>by
     simp only[PF.set,upd] at hi;split at hi
     ·cases hi; exact υ
     ·cases hi) 0 v0 φ
    refine⟨_,?_,_,v0,E2,H2,rfl,k1.weaken ι,ν,(ο.trans k2).drop ι,hR⟩;rw[cv,Array.mapM_eq_mapM_toList];simp[g1]
   have key:aW rs R .ret F' H'→bodyPostM Fence.wide 0 T.P fn (fun e U=>∃ v pv p H',e=.returned v∧bE p H' U∧aU p pv v∧Ext E H w p H' U∧R pv H') .ret a' U:=by
    intro hr;show LeavesInM Fence.wide 0 T.P fn a'.tmps _ a'.defers .returning U;rw[δ.defers];rcases ρ with rfl | ⟨D,rfl⟩
    ·exact fin U η J hr
    ·obtain⟨m1,m2,m3⟩:=hm D rfl;refine⟨(fun h=>by cases h),.inl ⟨D,_,rfl,run_takeDeferred m1,?_⟩⟩;refine fin _ (η.putObj m1 (fun _ _ _ h=>by cases h) m2) ⟨J.env,J.os,J.tape,J.output,?_,fun b hb hn=>?_,J.new,J.newG⟩ hr
     ·rw[World.putObj_size]; exact J.size
     ·rw[World.putObj_heap_other Om]; exact J.block b hb hn
   cases e with
   | normal=>exact key hK
   | exit id=>exact hK.elim
   | ret=>exact key hK
  ·cases l
 ·cases l
end Go.PM
namespace Go.PM
open Go
def L6:Rg:=[iA 3 (.box true (Tm 0)),iA 4 (.box true (Tm 1)),iT 6 false]
def L7:Rg:=[iF 15 2 3,iL 16 15,iN 17 16,iA 18 (.aWH 1 1 [(.bool false)] (Tm 17) (Tm 17)),iM 7 18]
def L8:Rg:=[iF 19 9 4,iL 20 19,iN 21 20,iI 22 0]
def L9:Rg:=[iB 23 .lss 22 21]
def Ma:Rg:=[iX 24 1 20 22,iL 25 24,iM 9 25]
def Mb:Rg:=[iM 26 7,iM 27 9,iX 28 1 26 27,⟨none,.store 1 (Tm 28) (.const (.bool true)),none⟩]
def Mc:Rg:=[iC 29 .add 22 1,iM 22 29]
def L5:aA:=(sq L9 (.seq (.cond (Tm 23) .skip (.exit 0)) (.seq (.block 1 (sq Ma (.region Mb))) (.region Mc))))
def Md:Rg:=[iF 30 3 3,iL 31 30,iN 32 31,iA 33 (.aWH 1 8 [(.int .i64 0)] (Tm 32) (Tm 32)),iM 10 33]
def Me:Rg:=[iM 34 2,iN 35 34,iI 36 0]
def BW:Rg:=[iB 37 .lss 36 35]
def SB:Rg:=[iX 38 1 34 36,iL 39 38,iM 12 39]
def SC:Rg:=[iM 40 7,iF 41 4 3,iL 42 41,iM 43 12,iX 44 3 42 43,iF 45 1 44,iL 46 45,iX 47 1 40 46,iL 48 47,iA 49 (.un .not (Tm 48))]
def ww:Rg:=[iT 6 false]
def wx:Rg:=[iF 50 4 3,iL 51 50,iM 52 12,iX 53 3 51 52,iF 54 2 53,iL 55 54,iM 13 55]
def wy:Rg:=[iM 56 13,iC 57 .gtr 56 0]
def wz:Rg:=[iM 64 10,iM 65 13,iX 66 1 64 65,iL 67 66,iC 68 .add 67 1,iX 69 1 64 65,iS 1 69 68]
def w8:Rg:=[iF 70 3 3,iL 71 70,iM 72 13,iX 73 7 71 72,iF 74 1 73,iL 75 74,iF 76 4 4,iA 77 (.idxA 5 1 (Tm 76) (Tm 75)),iL 78 77,iM 14 78]
def BY:Rg:=[iM 79 14,iC 80 .gtr 79 0,iM 81 80,gM 82 10 81 true,gM 83 13 81 true,iG 84 (.aWP 1 (Tm 82) (Tm 83)) 81 true,gL 85 84 81 true,gM 86 14 81 true,gB 87 .gtr 85 86 81 true,iP 88 81 87]
def w9:Rg:=[iT 6 false]
def SD:Rg:=[iF 58 3 3,iL 59 58,iM 60 13,iX 61 7 59 60,iF 62 2 61,iL 63 62,iM 13 63]
def SA:aA:=(.seq (sq wy (.cond (Tm 57) .skip (.exit 4))) (.seq (.block 5 (sq wz (sq w8 (sq BY (.cond (Tm 88) (sq w9 .ret) .skip))))) (.region SD)))
def xa:Rg:=[iC 89 .add 36 1,iM 36 89]
def vZ:aA:=(sq BW (.seq (.cond (Tm 37) .skip (.exit 2)) (.seq (.block 3 (sq SB (.seq (sq SC (.cond (Tm 49) (sq ww .ret) .skip)) (sq wx (.block 4 (.loop SA)))))) (.region xa))))
def xb:Rg:=[iT 6 true]
def IH:aA:=(sq L6 (sq L7 (.seq (sq L8 (.block 0 (.loop L5))) (sq Md (.seq (sq Me (.block 2 (.loop vZ))) (sq xb .ret))))))
def azV:List Nat:=[3,4]
def S9:aS:=⟨3,90,IH,[.tmp 6]⟩
def Mg:Rg:=[iT 6 false]
def Mh:Rg:=[iM 9 0,iN 10 9,iI 11 0]
def ga:Rg:=[iB 12 .lss 11 10]
def Mi:Rg:=[iM 13 11,iX 14 1 9 11,iL 15 14,iM 7 13,iM 8 15]
def vC:Rg:=[iM 16 8,iC 17 .lss 16 0,iM 18 17,gM 19 8 18 false,gM 20 2 18 false,gB 21 .geq 19 20 18 false,iQ 22 18 21,iM 23 22,gM 24 7 23 false,gC 25 .gtr 24 0 23 false,gM 26 25 23 false,gM 27 0 26 true,gM 28 7 26 true,gC 29 .sub 28 1 26 true,iG 30 (.aWP 1 (Tm 27) (Tm 29)) 26 true,gL 31 30 26 true,gM 32 8 26 true,gB 33 .geq 31 32 26 true,iG 34 (.pick (Tm 26) (Tm 33) (.const (.bool false))) 23 false,iQ 35 23 34]
def OB:Rg:=[iT 6 false]
def gb:Rg:=[iC 36 .add 11 1,iM 11 36]
def fz:aA:=(sq ga (.seq (.cond (Tm 12) .skip (.exit 0)) (.seq (.block 1 (sq Mi (sq vC (.cond (Tm 35) (sq OB .ret) .skip)))) (.region gb))))
def Mj:Rg:=[iM 37 0,iN 38 37,iM 39 1,iB 40 .eql 38 39,iM 6 40]
def IK:aA:=(sq Mg (.seq (sq Mh (.block 0 (.loop fz))) (sq Mj .ret)))
def azZ:List Nat:=[]
def Td:aS:=⟨3,41,IK,[.tmp 6]⟩
def j4:Rg:=[iA 2 (.box true (Tm 0)),iT 4 false]
def j5:Rg:=[iO 5 7 2,iK 6 96 5,iC 7 .eql 6 0,iM 8 7,gM 9 1 8 true,gC 10 .geq 9 0 8 true,iP 11 8 10,iM 12 11,gM 13 1 12 true,gF 14 5 2 12 true,gL 15 14 12 true,gN 16 15 12 true,gB 17 .lss 13 16 12 true,iP 18 12 17,iM 4 18]
def yP:aA:=(sq j4 (sq j5 .ret))
def aaS:List Nat:=[2]
def WR:aS:=⟨2,19,yP,[.tmp 4]⟩
def js:Rg:=[iA 3 (.box true (Tm 0)),iT 6 false]
def jt:Rg:=[iO 8 7 3,iM 9 1,iK2 10 203 8 9,iA 11 (.un .not (Tm 10))]
def ju:Rg:=[iT 6 false]
def jv:Rg:=[iF 12 5 3,iL 13 12,iM 14 1,iX 15 17 13 14,iO 16 17 15,iA 7 (.alloc [(.str []),(.int .i64 0),(.int .i64 0),(.int .i64 0),(.int .i64 0),(.int .i64 0),(.int .i64 0),(.int .i64 0),(.int .i64 0),.aB,.aB,(.bool false),.aB,.aB,(.bool false),.aB,.aB]),iS 17 7 16]
def jw:Rg:=[iM 17 2,iF 18 1 7,iL 19 18,iF 20 2 7,iL 21 20,iB 22 .add 19 21,iF 23 4 3,iL 24 23,iN 25 24,iA 26 (.call 202 [(Tm 17),(Tm 22),(Tm 25)]),iM 27 26,gO 28 7 3 27 true,gO 29 17 7 27 true,gM 30 2 27 true,iG 31 (.call 201 [(Tm 28),(Tm 29),(Tm 30)]) 27 true,iP 32 27 31,iM 6 32]
def yN:aA:=(sq js (.seq (sq jt (.cond (Tm 11) (sq ju .ret) .skip)) (sq jv (sq jw .ret))))
def aaN:List Nat:=[3]
def WD:aS:=⟨3,33,yN,[.tmp 6]⟩
def jx:Rg:=[iA 2 (.box true (Tm 0)),iZ 4,iI 5 0]
def jy:Rg:=[iO 7 7 2,iM 8 1,iK2 9 203 7 8,iA 10 (.un .not (Tm 9)),iM 6 10]
def jz:Rg:=[iZ 4,iI 5 1]
def II:Rg:=[iF 12 4 2,iL 13 12,iN 14 13,iC 15 .gtr 14 12,iM 11 15]
def j2:Rg:=[iZ 4,iI 5 2]
def j3:Rd:=[(iO 16 7 2,false),(iF 17 5 2,false),(iL 18 17,false),(iM 19 1,false),(iX 20 17 18 19,false),(iO 21 17 20,false),(iK2 22 229 16 21,true),(iM 4 22,false),(iI 5 0,false)]
def yO:aA:=(sq jx (.seq (.block 0 (sq jy (.cond (Tm 6) (sq jz .ret) (sq II (.cond (Tm 11) (sq j2 .ret) .skip))))) (dq j3 .ret)))
def aaP:List Nat:=[2]
def call17:aS:=⟨2,23,yO,[.tmp 4,.tmp 5]⟩
def lg:Rg:=[iA 2 (.box true (Tm 0)),iZ 4]
def lh:Rg:=[iZ 5]
def lk:Rg:=[iM 13 1,iC 14 .eql 13 5]
def ll:Rg:=[iF 15 4 2,iL 16 15,iN 17 16,iI 18 0]
def lm:Rg:=[iB 19 .lss 18 17]
def ln:Rg:=[iM 20 18,iM 6 20]
def lz:Rg:=[iM 21 5,iM 22 6,iA 23 (.aWF true 1 1 [(.int .i64 0)] [(0,(Tm 22))]),iA 24 (.aWF true 1 1 [.aB] [(0,(Tm 23))]),iA 25 (.append 1 24 (Tm 21) (Tm 24)),iM 5 25]
def l8:Rg:=[iC 26 .add 18 1,iM 18 26]
def lf:aA:=(sq lm (.seq (.cond (Tm 19) .skip (.exit 0)) (.seq (.block 1 (sq ln (.region lz))) (.region l8))))
def l9:Rg:=[iM 27 5,iM 4 27]
def XG:Rg:=[iF 28 3 2,iL 29 28,iN 30 29,iA 31 (.aWH 1 8 [(.int .i64 0)] (Tm 30) (Tm 30)),iM 7 31]
def XH:Rg:=[iF 32 3 2,iL 33 32,iN 34 33,iI 35 0]
def XI:Rg:=[iB 36 .lss 35 34]
def XJ:Rg:=[iM 37 35,iX 38 7 33 35,iO 39 7 38,iA 9 (.alloc [(.str []),(.int .i64 0),(.int .i64 0),(.int .i64 0),(.bool false),.aB,.aB]),iM 8 37,iS 7 9 39]
def XK:Rg:=[iF 40 1 9,iL 41 40,iM 42 1,iB 43 .eql 41 42]
def XL:Rg:=[iM 44 7,iM 45 8,iM 46 5,iN 47 46,iX 48 1 44 45,iS 1 48 47]
def XM:Rg:=[iM 49 5,iA 50 (.aWF true 1 1 [.aB] [(0,(.const .aB))]),iA 51 (.append 1 24 (Tm 49) (Tm 50)),iM 5 51]
def CH:Rg:=[iC 52 .add 35 1,iM 35 52]
def XE:aA:=(sq XI (.seq (.cond (Tm 36) .skip (.exit 2)) (.seq (.block 3 (sq XJ (sq XK (.cond (Tm 43) (sq XL (.region XM)) .skip)))) (.region CH))))
def XN:Rg:=[iF 53 4 2,iL 54 53,iN 55 54,iI 56 0]
def XO:Rg:=[iB 57 .lss 56 55]
def XP:Rg:=[iM 58 56,iX 59 3 54 56,iO 60 3 59,iA 11 (.alloc [(.str []),(.int .i64 0),(.int .i64 0)]),iM 10 58,iS 3 11 60]
def XQ:Rg:=[iF 61 2 11,iL 62 61,iM 12 62]
def CI:Rg:=[iF 63 3 2,iL 64 63,iM 65 12,iX 66 7 64 65,iF 67 1 66,iL 68 67,iM 69 1,iB 70 .gtr 68 69]
def XR:Rg:=[iF 71 3 2,iL 72 71,iM 73 12,iX 74 7 72 73,iF 75 2 74,iL 76 75,iM 12 76]
def tV:aA:=(.seq (sq CI (.cond (Tm 70) .skip (.exit 6))) (.block 7 (.region XR)))
def XS:Rd:=[(iM 77 5,true),(iM 78 7,true),(iM 79 12,true),(iX 80 1 78 79,true),(iL 81 80,true),(iM 82 5,false),(iM 83 7,false),(iM 84 12,false),(iX 85 1 83 84,false),(iL 86 85,false),(iX 87 1 82 86,false),(iL 88 87,false),(iM 89 10,false),(iA 90 (.aWF true 1 1 [(.int .i64 0)] [(0,(Tm 89))]),false),(iA 91 (.append 1 8 (Tm 88) (Tm 90)),true),(iX 92 1 77 81,false)]
def XT:Rd:=[(iS 1 92 91,true)]
def XU:Rg:=[iC 93 .add 56 1,iM 56 93]
def XF:aA:=(sq XO (.seq (.cond (Tm 57) .skip (.exit 4)) (.seq (.block 5 (sq XP (sq XQ (.seq (.block 6 (.loop tV)) (dq XS (.draw XT)))))) (.region XU))))
def XV:Rg:=[iM 94 5,iM 4 94]
def yR:aA:=(sq lg (sq lh (.seq (sq lk (.cond (Tm 14) (.seq (sq ll (.block 0 (.loop lf))) (sq l9 .ret)) .skip)) (sq XG (.seq (sq XH (.block 2 (.loop XE))) (.seq (sq XN (.block 4 (.loop XF))) (sq XV .ret)))))))
def aaX:List Nat:=[2,23,24,50,90]
def XD:aS:=⟨2,95,yR,[.tmp 4]⟩
def WG:Rg:=[iI 4 0]
def WH:Rg:=[iI 5 1]
def WI:Rg:=[iI 6 0]
def WJ:Rg:=[iM 7 6,iM 8 1,iB 9 .lss 7 8]
def WK:Rg:=[iM 12 5,iM 13 0,iM 14 6,iB 15 .sub 13 14,iB 16 .mul 12 15,iM 17 6,iC 18 .add 17 1,iB 19 .quo 16 18,iM 5 19]
def WL:Rg:=[iM 10 6,iC 11 .add 10 1,iM 6 11]
def WF:aA:=(.seq (sq WJ (.cond (Tm 9) .skip (.exit 0))) (.seq (.block 1 (.region WK)) (.region WL)))
def WM:Rg:=[iM 20 5,iA 21 (.aWT true (Tm 20) (Ci 0)),iM 4 21]
def wA:aA:=(sq WG (sq WH (.seq (sq WI (.block 0 (.loop WF))) (sq WM .ret))))
def Tf:List Nat:=[]
def OC:aS:=⟨2,22,wA,[.tmp 4]⟩
def xe:Rg:=[iI 6 0]
def xf:Rg:=[iI 7 0]
def xg:Rg:=[iM 14 0,iN 15 14,iI 16 0]
def SE:Rg:=[iB 17 .lss 16 15]
def xh:Rg:=[iX 18 1 14 16,iL 19 18,iM 9 19]
def xi:Rg:=[iI 10 0,iI 11 0]
def xj:Rg:=[iM 20 9,iN 21 20,iI 22 0]
def SF:Rg:=[iB 23 .lss 22 21]
def xk:Rg:=[iX 24 1 20 22,iL 25 24,iM 13 25]
def CB:Rg:=[iM 26 11,iM 27 1,iN 28 27,iB 29 .lss 26 28,iM 30 29,gM 31 1 30 true,gM 32 11 30 true,iG 33 (.aWP 1 (Tm 31) (Tm 32)) 30 true,gL 34 33 30 true,gM 35 13 30 true,gB 36 .lss 34 35 30 true,iP 37 30 36]
def j6:Rg:=[iM 38 11,iC 39 .add 38 1,iM 11 39]
def sX:aA:=(.seq (sq CB (.cond (Tm 37) .skip (.exit 4))) (.block 5 (.region j6)))
def xF:Rg:=[iM 40 11,iM 41 1,iN 42 41,iB 43 .lss 40 42,iM 44 43,gM 45 1 44 true,gM 46 11 44 true,iG 47 (.aWP 1 (Tm 45) (Tm 46)) 44 true,gL 48 47 44 true,gM 49 13 44 true,gB 50 .eql 48 49 44 true,iP 51 44 50]
def j7:Rg:=[iM 52 10,iC 53 .add 52 1,iM 10 53]
def xG:Rg:=[iC 54 .add 22 1,iM 22 54]
def xE:aA:=(sq SF (.seq (.cond (Tm 23) .skip (.exit 2)) (.seq (.block 3 (sq xk (.seq (.block 4 (.loop sX)) (sq xF (.cond (Tm 51) (.region j7) .skip))))) (.region xG))))
def IN:Rg:=[iM 55 10,iM 56 2,iB 57 .gtr 55 56]
def j8:Rg:=[iM 58 7,iC 59 .add 58 1,iM 7 59]
def IP:Rg:=[iC 60 .add 16 1,iM 16 60]
def IM:aA:=(sq SE (.seq (.cond (Tm 17) .skip (.exit 0)) (.seq (.block 1 (sq xh (sq xi (.seq (sq xj (.block 2 (.loop xE))) (sq IN (.cond (Tm 57) (.region j8) .skip)))))) (.region IP))))
def j9:Rg:=[iM 61 7,iM 6 61]
def CA:aA:=(sq xe (sq xf (.seq (sq xg (.block 0 (.loop IM))) (sq j9 .ret))))
def apQ:List Nat:=[]
def vd:aS:=⟨3,62,CA,[.tmp 6]⟩
def WS:Rg:=[iA 4 (.box true (Tm 0)),iA 7 (.box true (Tm 3)),iI 8 0,iI 9 0]
def WT:Rg:=[iO 13 7 4,iO 14 2 7,iK2 15 230 13 14,iM 12 15,iE 16 12 0,iE 17 12 1,iM 10 16,iM 11 17]
def CC:Rg:=[iM 19 11,iC 20 .neq 19 0,iM 18 20]
def WU:Rg:=[iM 21 11,iI 8 0,iM 9 21]
def WV:Rg:=[iO 23 7 4,iM 24 1,iM 25 2,iA 26 (.call 204 [(Tm 23),(Tm 24),(Tm 25)]),iA 27 (.un .not (Tm 26)),iM 22 27]
def WW:Rg:=[iI 8 0,iI 9 1]
def WX:Rg:=[iM 28 10,iM 29 2,iF 30 5 4,iL 31 30,iM 32 1,iX 33 17 31 32,iF 34 2 33,iL 35 34,iA 36 (.call 208 [(Tm 28),(Tm 29),(Tm 35)]),iM 8 36,iI 9 0]
def wB:aA:=(sq WS (sq WT (.seq (.block 0 (sq CC (.cond (Tm 18) (sq WU .ret) (sq WV (.cond (Tm 22) (sq WW .ret) .skip))))) (sq WX .ret))))
def Ti:List Nat:=[4,7]
def OD:aS:=⟨4,37,wB,[.tmp 8,.tmp 9]⟩
def x7:Rg:=[iA 2 (.box false (Tm 0)),iA 3 (.box false (Tm 1)),iA 4 (.mv (.const (.lit .nilFunc)))]
def x8:Rg:=[iA 5 (.mkfn 211 [(Tm 2),(Tm 3)]),iM 4 5]
def CG:aA:=(sq x7 (sq x8 .ret))
def aqA:List Nat:=[]
def ve:aS:=⟨2,6,CG,[.tmp 4]⟩
def ma:Rg:=[iL 8 1,iL 9 2,iB 10 .gtr 8 9]
def mb:Rg:=[iL 11 1,iA 12 (.aWH 1 8 [(.int .i64 0)] (Tm 11) (Tm 11)),iM 4 12]
def me:Rg:=[iM 13 4,iN 14 13,iI 15 0]
def mf:Rg:=[iB 16 .lss 15 14]
def mg:Rg:=[iM 17 15,iM 5 17]
def mh:Rg:=[iM 18 4,iM 19 5,iM 20 5,iX 21 1 18 19,iS 1 21 20]
def mi:Rg:=[iC 22 .add 15 1,iM 15 22]
def IZ:aA:=(sq mf (.seq (.cond (Tm 16) .skip (.exit 0)) (.seq (.block 1 (sq mg (.region mh))) (.region mi))))
def JA:Rg:=[iM 23 0,iM 24 4,iA 25 (.append 1 8 (.const .aB) (Tm 24)),iA 26 (.aXA (Tm 23) [(Tm 25)])]
def JB:Rg:=[iL 27 1,iC 28 .sub 27 1,iM 6 28]
def qP:Rd:=[(iM 29 6,false),(iC 30 .geq 29 0,false),(iM 31 30,false),(gM 32 4 31 true,false),(gM 33 6 31 true,false),(iG 34 (.aWP 1 (Tm 32) (Tm 33)) 31 true,false),(gL 35 34 31 true,false),(gL 36 2 31 true,false),(gL 37 1 31 true,false),(gB 38 .sub 36 37 31 true,false),(gM 39 6 31 true,false),(gB 40 .add 38 39 31 true,false),(gB 41 .eql 35 40 31 true,false),(iP 42 31 41,false)]
def CJ:Rg:=[iM 43 6,iC 44 .sub 43 1,iM 6 44]
def tW:aA:=(.seq (dq qP (.cond (Tm 42) .skip (.exit 4))) (.block 5 (.region CJ)))
def tY:Rg:=[iM 45 6,iC 46 .lss 45 0]
def CK:Rg:=[iM 47 4,iM 48 6,iX 49 1 47 48,iL 50 49,iC 51 .add 50 1,iX 52 1 47 48,iS 1 52 51]
def CL:Rg:=[iM 53 6,iC 54 .add 53 1,iM 7 54]
def tZ:Rg:=[iM 55 7,iL 56 1,iB 57 .lss 55 56]
def CM:Rg:=[iM 60 4,iM 61 7,iM 62 4,iM 63 7,iC 64 .sub 63 1,iX 65 1 62 64,iL 66 65,iC 67 .add 66 1,iX 68 1 60 61,iS 1 68 67]
def CN:Rg:=[iM 58 7,iC 59 .add 58 1,iM 7 59]
def tX:aA:=(.seq (sq tZ (.cond (Tm 57) .skip (.exit 6))) (.seq (.block 7 (.region CM)) (.region CN)))
def XY:aA:=(.seq (sq JA (.cond (Tm 26) .skip (.exit 2))) (.block 3 (sq JB (.seq (.block 4 (.loop tW)) (.seq (sq tY (.cond (Tm 46) .ret .skip)) (sq CK (sq CL (.block 6 (.loop tX)))))))))
def yS:aA:=(.seq (sq ma (.cond (Tm 10) .ret .skip)) (sq mb (.seq (sq me (.block 0 (.loop IZ))) (.block 2 (.loop XY)))))
def abA:List Nat:=[]
def XW:aS:=⟨1,69,yS,[]⟩
def yr:Rg:=[iT 4 false]
def yu:Rg:=[iM 6 0,iN 7 6,iM 8 1,iN 9 8,iB 10 .neq 7 9]
def aqQ:Rg:=[iT 4 false]
def yv:Rg:=[iI 5 0]
def yw:Rg:=[iM 11 5,iM 12 0,iN 13 12,iB 14 .lss 11 13]
def yx:Rd:=[(iM 17 0,false),(iM 18 5,false),(iX 19 1 17 18,false),(iL 20 19,false),(iM 21 1,false),(iM 22 5,false),(iX 23 1 21 22,false),(iL 24 23,false),(iK2 25 94 20 24,true),(iA 26 (.un .not (Tm 25)),false)]
def aqR:Rg:=[iT 4 false]
def yy:Rg:=[iM 15 5,iC 16 .add 15 1,iM 5 16]
def yq:aA:=(.seq (sq yw (.cond (Tm 14) .skip (.exit 0))) (.seq (.block 1 (dq yx (.cond (Tm 26) (sq aqR .ret) .skip))) (.region yy)))
def yz:Rg:=[iT 4 true]
def CS:aA:=(sq yr (.seq (sq yu (.cond (Tm 10) (sq aqQ .ret) .skip)) (.seq (sq yv (.block 0 (.loop yq))) (sq yz .ret))))
def aqS:List Nat:=[]
def vh:aS:=⟨2,27,CS,[.tmp 4]⟩
open Go Go.Na
def cV (n:Nat):Nat→Nat→List (List Nat)
 | 0,_=>[[]]
 | k+1,a=>(aZF a (n-k-a)).flatMap fun i=>(cV n k (i+1)).map (i::·)
def lK (n:Nat):List Nat→Option (List Nat)
 | []=>none
 | x::t=>match lK n t with
  | some u=>some (x::u)
  | none=>if x+1+t.length=n then none else some (aZF (x+1) (t.length+1))
theorem qj {n:Nat}:∀ {s u:List Nat},lK n s=some u→u.length=s.length
 | [],_,h=>by cases h
 | x::t,u,h=>by
  rw[lK] at h;split at h
  ·rename_i v i;cases h;simp[qj i]
  ·split at h
   ·cases h
   ·cases h;simp
inductive lY (n:Nat):List Nat→List (List Nat)→Prop
 | last {s:List Nat} (h:lK n s=none):lY n s [s]
 | step {s t:List Nat} {l:List (List Nat)} (h:lK n s=some t) (w:lY n t l):lY n s (s::l)
theorem lY.map {n x k:Nat} {rest:List (List Nat)} (J:(x+1+k=n∧rest=[])∨(x+1+k≠n∧lY n (aZF (x+1) (k+1)) rest)) {t:List Nat} {l:List (List Nat)} (w:lY n t l) (i:t.length=k):lY n (x::t) (l.map (x::·)++rest):=by
 induction w with
 | @last s h =>
  rcases J with ⟨p,rfl⟩ | ⟨p,h2⟩
  ·exact .last (by rw[lK,h]; simp only; rw[if_pos (by rw[i]; exact p)])
  ·exact .step (by rw[lK,h]; simp only; rw[if_neg (by rw[i]; exact p),i]) h2
 | @step s t l h _ R=>exact .step (by rw[lK,h]) (R (by rw[qj h,i]))
theorem NW (n:Nat):∀ (k a:Nat),a+k≤n→lY n (aZF a k) (cV n k a)
 | 0,a,_=>.last rfl
 | k+1,a,h=>by
  rw[cV];obtain⟨m,l⟩:∃ m,n-k-a=m+1:=⟨n-k-a-1,by omega⟩;rw[l];clear h
  induction m generalizing a with
  | zero =>have:=lY.map (n:=n) (x:=a) (k:=k) (rest:=[]) (.inl ⟨by omega,rfl⟩) (NW n k (a+1) Om) List.length_range';rw[List.range'_succ (n:=0),List.flatMap_cons];exact this
  | succ m p =>rw[List.range'_succ (n:=m+1),List.flatMap_cons];have i:=p (a+1) Om;exact lY.map (.inr ⟨by omega,i⟩) (NW n k (a+1) Om) List.length_range'
theorem EY {n:Nat}:∀ {s:List Nat},(∀ i (h:i<s.length),s[i]+s.length=n+i)→lK n s=none
 | [],_=>rfl
 | x::t,h=>by rw[lK,EY (s:=t) fun i hi=>by have:=h (i+1) (by simpa using hi);simp only[List.getElem_cons_succ,aZA] at this;omega];have l:=h 0 (by simp);simp only[List.getElem_cons_zero,aZA] at l;simp only;rw[if_pos Om]
theorem Ew {n:Nat}:∀ {s:List Nat} (i:Nat) (hi:i<s.length),(∀ j (h:j<s.length),i<j→s[j]+s.length=n+j)→s[i]+s.length≠n+i→lK n s=some (s.take i++aZF (s[i]+1) (s.length-i))
 | [],i,hi,_,_=>by cases hi
 | x::t,0,_,h,l=>by rw[lK,EY (s:=t) fun i hi=>by have:=h (i+1) (by simpa using hi) Om;simp only[List.getElem_cons_succ,aZA] at this;omega];simp only[List.getElem_cons_zero,aZA] at l ⊢;rw[if_neg Om];rfl
 | x::t,i+1,hi,h,l=>by
  have p:i<t.length:=by simpa using hi
  simp only[List.getElem_cons_succ,aZA] at l;rw[lK,Ew (s:=t) i p (fun j R J=>by have:=h (j+1) (by simpa using R) Om;simp only[List.getElem_cons_succ,aZA] at this;omega) Om];simp only[List.getElem_cons_succ,aZA,List.take_succ_cons,List.cons_append];rw[show t.length+1-(i+1)=t.length-i by omega]
theorem wV (n:Nat):∀ (k a:Nat),∀ s∈cV n k a,s.length=k∧(∀ x∈s,a≤x∧x<n)∧s.Pairwise (· < ·)
 | 0,a,s,h=>by rw[cV,aZW] at h;subst h;exact⟨rfl,(fun x l=>by cases l),.nil⟩
 | k+1,a,s,h=>by
  rw[cV,List.mem_flatMap] at h;obtain⟨i,hi,h⟩:=h;rw[aYH] at h;obtain⟨t,U,rfl⟩:=h;rw[List.mem_range'_1] at hi;obtain⟨J,p,R⟩:=wV n k (i+1) t U;refine⟨by simp[J],fun x l=>?_,List.pairwise_cons.2 ⟨fun y hy=>by have:=(p y hy).1; omega,R⟩⟩;rcases aXP.1 l with rfl | l
  ·omega
  ·have:=p x l; omega
theorem GI (n:Nat):∀ (k a:Nat),(cV n k a).length≤2 ^ (n-a)
 | 0,a=>by rw[cV]; exact Nat.one_le_two_pow
 | k+1,a=>by
  rw[cV];have key:∀ (m a:Nat),m+a≤n→((aZF a m).flatMap fun i=>(cV n k (i+1)).map (i::·)).length+2 ^ (n-a-m)≤2 ^ (n-a):=by
   intro m
   induction m with
   | zero=>intro a _; simp
   | succ m l =>
    intro a h;rw[List.range'_succ,List.flatMap_cons,aXN,aXI];have p:=GI n k (a+1);have J:=l (a+1) Om;rw[show n-a-(m+1)=n-(a+1)-m by omega];have R:2 ^ (n-a)=2 ^ (n-(a+1))+2 ^ (n-(a+1)):=by rw[show n-a=(n-(a+1))+1 by omega,aZB]; omega
    omega
  rcases aXZ n a with h | h
  ·rw[show n-k-a=0 by omega]; simp
  ·exact aZD (Nat.le_add_right _ _) (key (n-k-a) a Om)
def jF (f:aK) (p:cB) (set:List Int):Bool:=(aXQ f.aWC.length).all fun i=>!(decide (dR f p i>0)&&decide (fA f set i>dR f p i))
def AS (f:aK) (p:cB) (d:Int):Bool:=p.aWA.contains ((mdl f d.toNat:Nat):Int)
def lN (f:aK) (p:cB) (set:List Int):Bool:=set.all (AS f p)&&jF f p set
def mA (set:List Int) (top:Int) (i:Nat):Bool:=(decide (0≤set.getD i 0)&&decide (set.getD i 0<top))&&(decide (i=0)||decide (set.getD (i-1) 0<set.getD i 0))
def oR (set:List Int) (n top:Int):Bool:=decide ((set.length:Int)=n)&&(aXQ set.length).all (mA set top)
def gV (f:aK) (aWK:Int):cB:=f.aWD.getD aWK.toNat ayU
def oN (p:cB):Int:=p.k+p.m
def gG (f:aK) (aWK:Int):Bool:=jL f&&(decide (0≤aWK)&&decide (aWK<f.aWD.length))
def BR (f:aK) (aWK:Int) (set:List Int):Bool:=gG f aWK&&(oR set (oN (gV f aWK)) f.aVZ.length&&lN f (gV f aWK) set)
def bU (s:List Nat):List Int:=s.map fun (x:Nat)=>(x:Int)
def mX (f:aK) (p:cB):List (List Int):=((cV f.aVZ.length (oN p).toNat 0).map bU).filter (lN f p)
def eW (f:aK) (level:Int):List (List Int) :=
 if level=5 then (aXQ f.aVZ.length).map fun (d:Nat)=>[(d:Int)]
 else ((aXQ f.aWC.length).filter fun i=>decide (lvl f i=level)).map fun i=>bU ((aXQ f.aVZ.length).filter fun d=>decide (cT f d level=i))
def eD (m:Int):Nat→Int
 | 0=>1
 | i+1=>Int.tdiv (eD m i*(m-i)) (i+1)
def nU (u:List (List Int)) (s:List Nat) (d:Nat):Bool:=s.any fun i=>(u.getD i []).contains (d:Int)
def pL (f:aK) (u:List (List Int)) (count:Nat):List (List Int):=(cV u.length count 0).map fun s=>bU ((aXQ f.aVZ.length).filter (nU u s))
def kM (s set:List Int):Nat:=set.countP fun d=>s.contains d
def xV (sc:List (List Int)) (set:List Int) (m:Int):Nat:=sc.countP fun s=>decide (((kM s set:Nat):Int)>m)
theorem jr:∀ {s t:List Int},s.Nodup→t.Nodup→kM s t=kM t s
 | [],t,_,_=>by simp[kM]
 | d::s,t,R,U=>by
  obtain⟨h1,h2⟩:=List.nodup_cons.1 R;have p:=jr h2 U;unfold kM at p ⊢;rw[List.countP_cons,← p];clear p R
  induction t with
  | nil=>simp
  | cons x t J =>
   obtain⟨k1,k2⟩:=List.nodup_cons.1 U;have:=J k2;rw[List.countP_cons,List.countP_cons,this];by_cases e:x=d
   ·subst e;have i:(x::s).contains x=true:=by simp
    have l:s.contains x=false:=by simpa using h1
    have e3:t.contains x=false:=by simpa using k1
    have e4:(x::t).contains x=true:=by simp
    simp only[i,l,e3,e4]
   ·have i:(d::s).contains x=s.contains x:=by simp[e]
    have l:(x::t).contains d=t.contains d:=by have:¬ d=x:=fun h=>e h.symm;simp[this]
    rw[i,l];omega
def dT (set:List Int) (d:Int):Nat:=(set.takeWhile fun x=>decide (x<d)).length
theorem jh (set:List Int) (d:Int):dT set d≤set.length:=(List.takeWhile_prefix _).length_le
theorem GC (set:List Int) (d:Int) {i:Nat} (h:i<dT set d):set[i]'(Nat.lt_of_lt_of_le h (jh set d))<d:=by
 have hp:=List.takeWhile_prefix (p:=fun x=>decide (x<d)) (l:=set);have R:(set.takeWhile fun x=>decide (x<d))[i]∈set.takeWhile fun x=>decide (x<d):=aXM h;have U:=List.all_takeWhile (p:=fun x=>decide (x<d)) (l:=set);have J:=aYF.1 U _ R;rw[hp.getElem h] at J;exact of_decide_eq_true J
theorem Rh (set:List Int) (d:Int) (h:dT set d<set.length):¬ set[dT set d]<d:=by
 induction set with
 | nil=>simp at h
 | cons x t i =>
  by_cases c:x<d
  ·have e:dT (x::t) d=dT t d+1:=by simp[dT,List.takeWhile_cons,c]
   simp only[e,List.getElem_cons_succ];exact i (by rw[e] at h; simpa using h)
  ·have e:dT (x::t) d=0:=by simp[dT,List.takeWhile_cons,c]
   simp only[e,List.getElem_cons_zero];exact c
theorem auL {set:List Int} (J:set.Pairwise (· < ·)) (d:Int):set.contains d=(decide (dT set d<set.length)&&decide (set.getD (dT set d) 0=d)):=by
 by_cases h:dT set d<set.length
 ·have R:=Rh set d h;rw[decide_eq_true h,aYE,aYK,aXT h,a0I];by_cases e:set[dT set d]=d
  ·rw[decide_eq_true e];simp only[List.contains_iff_mem];exact e ▸ aXM h
  ·rw[decide_eq_false e];simp only[Bool.eq_false_iff,ne_eq,List.contains_iff_mem];intro p;obtain⟨i,hi,l⟩:=aYZ p;rcases Nat.lt_trichotomy i (dT set d) with c | c | c
   ·have:=GC set d c; omega
   ·subst c; exact e l
   ·have:=List.pairwise_iff_getElem.1 J _ _ h hi c;omega
 ·rw[decide_eq_false h,aXV];simp only[Bool.eq_false_iff,ne_eq,List.contains_iff_mem];intro p;obtain⟨i,hi,l⟩:=aYZ p;have:=GC set d (i:=i) Om;omega
theorem agZ (set:List Int) {d e:Int} (h:d≤e):dT set d≤dT set e:=by
 induction set with
 | nil=>simp[dT]
 | cons x t l =>
  by_cases c:x<d
  ·have i:x<e:=Om;simp only[dT,List.takeWhile_cons,c,i,decide_true,if_true,aZA] at l ⊢;omega
  ·simp[dT,List.takeWhile_cons,c]
theorem asC (a b:List Nat):bU (a++b)=bU a++bU b:=aYN
theorem fF (a:List Nat):(bU a).length=a.length:=aXI _
theorem vN {a:List Nat} {i:Nat} (h:i<a.length):(aZ (bU a))[i]?=some [PV.int .i64 (a[i]:Nat)]:=by
 unfold aZ bU;rw[aYG,aYG,aXT h];rfl
theorem UJ (a:List Nat) (i x:Nat):(aZ (bU a)).set i [PV.int .i64 (x:Nat)]=aZ (bU (a.set i x)):=by
 unfold aZ bU;rw[List.map_set,List.map_set]
theorem ahI {top n:Nat} (h:top<n):cV top n 0=[]:=by
 cases n with
 | zero=>omega
 | succ n =>rw[cV,show top-n-0=0 by omega];rfl
theorem lY.head {n:Nat} {s:List Nat} {l:List (List Nat)} (h:lY n s l):∃ r,l=s::r:=by
 cases h with
 | last=>exact⟨_,rfl⟩
 | step=>exact⟨_,rfl⟩
def mU (n i:Nat):List Nat:=aZF 0 i++aXK (n-i) 0
theorem Tv (n:Nat):mU n 0=aXK n 0:=by unfold mU; simp
theorem abK {n i:Nat} (h:i≤n):(mU n i).length=n:=by unfold mU; simp; omega
theorem Tu (n:Nat):mU n n=aZF 0 n:=by unfold mU; simp
theorem abL {n i:Nat} (h:i<n):(mU n i).set i i=mU n (i+1):=by
 unfold mU;obtain⟨m,l⟩:∃ m,n-i=m+1:=⟨n-i-1,by omega⟩;rw[l,List.replicate_succ,a0L _ _ (by simp),List.length_range',Nat.sub_self,a0Y,show n-(i+1)=m by omega,List.range'_concat];simp
def onU (s:List Nat) (j y m:Nat):List Nat:=s.take j++aZF y (m-j)++s.drop m
theorem Q7 {s:List Nat} {j y m:Nat} (i:j≤m) (l:m≤s.length):(onU s j y m).length=s.length:=by
 unfold onU; simp; omega
theorem aCF {s:List Nat} {j y:Nat} (h:j<s.length):s.set j y=onU s j y (j+1):=by
 unfold onU;rw[List.set_eq_take_append_cons_drop,if_pos h,show j+1-j=1 by omega];simp
theorem asM {s:List Nat} {j y m:Nat} (p:j<m) (l:m≤s.length):∃ h,(onU s j y m)[m-1]'h=y+(m-1-j):=by
 refine⟨by rw[Q7 Om l]; omega,?_⟩;unfold onU;have i:(s.take j).length=j:=by rw[aYA]; omega
 rw[List.getElem_append_left (by simp; omega),a1A Om];simp[i]
theorem aCG {s:List Nat} {j y m:Nat} (p:j≤m) (l:m<s.length):(onU s j y m).set m (y+(m-j))=onU s j y (m+1):=by
 unfold onU;have i:(s.take j++aZF y (m-j)).length=m:=by simp; omega
 rw[a0L _ _ Om,i,Nat.sub_self,aZG l,a0Y,show m+1-j=(m-j)+1 by omega,List.range'_concat];simp
theorem asL {s:List Nat} {j y:Nat}:onU s j y s.length=s.take j++aZF y (s.length-j):=by
 unfold onU; simp
theorem aAA {C:Ctx} {K:bT} [Up K] {n o1 o2 q:Nat} {y:PV} {F:PF} {H:PH} (hn:n≤1000) (hq:H q=some (.rows 1 (aZ (bU (mU n 0))))) (U:(((((((PF.nil.set 0 (y)).set 1 (.ptr o1 1 0 0)).set 2 (.ptr o2 1 0 0)).set 4 (.osl q 1 0 n)).set 14 (.int .i64 n)).set 15 (.int .i64 0))).le F)
  (hK:K (.exit 0) (((((PF.nil.set 0 (y)).set 1 (.ptr o1 1 0 0)).set 2 (.ptr o2 1 0 0)).set 4 (.osl q 1 0 n))) (H.set q (.rows 1 (aZ (bU (aZF 0 n)))))):aA.wp C (.loop IZ) K F H:=by
 refine wp_loop (α:=Nat × PH) (fun s=>((((((PF.nil.set 0 (y)).set 1 (.ptr o1 1 0 0)).set 2 (.ptr o2 1 0 0)).set 4 (.osl q 1 0 n)).set 14 (.int .i64 n)).set 15 (.int .i64 s.1))) (fun s=>s.2) (fun s=>s.1≤n∧s.2=H.set q (.rows 1 (aZ (bU (mU n s.1))))) (fun s=>n-s.1) (0,H) ⟨aXU _,?_⟩ U PH.le_refl ?_
 ·refine PH.ext fun o=>?_;show H o=(H.set q _) o;rw[aQ];split
  ·rename_i e; rw[e,hq]
  ·rfl
 rintro⟨i,H1⟩ ⟨hi,R⟩;simp only at hi R;subst R;simp only[go_sem,IZ,mf];by_cases hlt:i<n
 ·have l:(i:Int)<(n:Nat):=Om;have hl:=abK hi;have p:=vN (a:=mU n i) (i:=i) Om;have J:i<(aZ (bU (mU n i))).length:=by rw[dM,fF]; omega
  simp only[go_sem,l,mg,mh,p,J,aYD,UJ,abL hlt,mi,wZz i];exact aM (i+1,_) ⟨hlt,rfl⟩ (by simp only; omega) Lq PH.le_refl
 ·have l:¬ (i:Int)<(n:Nat):=Om;have:i=n:=Om;subst this;rw[Tu];simp only[go_sem,l];exact Up.up Lq hK
def cyF (y:PV) (o1 o2 q n:Nat):PF:=((((PF.nil.set 0 (y)).set 1 (.ptr o1 1 0 0)).set 2 (.ptr o2 1 0 0)).set 4 (.osl q 1 0 n))
theorem aaZ {C:Ctx} {K:bT} [Up K] {n top o1 o2 q:Nat} {y:PV} {s:List Nat} (hs:s.length=n) (hn:n≤1000) (ht:top≤1000) (γ:n≤top) {F:PF} {H:PH} (b1:H o1=some (.rows 1 [[.int .i64 n]])) (b2:H o2=some (.rows 1 [[.int .i64 top]])) (hq:H q=some (.rows 1 (aZ (bU s))))
  (hF:((cyF y o1 o2 q n).set 6 (.int .i64 ((n:Int)-1))).le F)
  (hK:∀ m,m≤n→(∀ i (h:i<s.length),m≤i→s[i]+n=top+i)→(0<m→∀ (h:m-1<s.length),s[m-1]+n≠top+(m-1))→K (.exit 4) ((cyF y o1 o2 q n).set 6 (.int .i64 ((m:Int)-1))) H):aA.wp C (.loop tW) K F H:=by
 refine wp_loop (α:=Nat) (fun m=>(cyF y o1 o2 q n).set 6 (.int .i64 ((m:Int)-1))) (fun _=>H) (fun m=>m≤n∧∀ i (h:i<s.length),m≤i→s[i]+n=top+i) (fun m=>m) n ⟨aXL _,fun i h h2=>by omega⟩ hF PH.le_refl ?_;rintro m ⟨hm,l⟩;rw[show tW=(.seq (.seq (.draw qP) (.cond (.tmp 42) .skip (.exit 4))) (.block 5 (.region CJ))) from rfl];simp only[go_sem];refine cJ .nil eU PH.nil_le ?_;by_cases h0:m=0
 ·subst h0;simp only[go_sem,qP,cyF,show ¬ ((0:Nat):Int)-1≥0 by omega];refine Up.up ?_ (hK 0 hm l (fun h=>by omega));unfold cyF;exact Lq
 ·obtain⟨k,rfl⟩:∃ k,m=k+1:=⟨m-1,by omega⟩;have U:(((k+1:Nat):Int)-1)=(k:Int):=Om;have β:k<s.length:=Om;have J:=vN β;have R:k<(aZ (bU s)).length:=by rw[dM,fF]; omega
  have w1:IntKind.i64.wrap ((top:Int)-(n:Int))=(top:Int)-n:=wrap_i64 Om Om;have w2:IntKind.i64.wrap ((top:Int)-(n:Int)+(k:Int))=(top:Int)-n+k:=wrap_i64 Om Om;have p:(k:Int)<(n:Nat):=Om;by_cases c:s[k]+n=top+k
  ·simp only[go_sem,qP,cyF,U,show (k:Int)≥0 by omega,hq,J,R,p,b1,b2,aYD,w1,w2,bM (Om:((s[k]:Nat):Int)=(top:Int)-n+k),CJ];have w3:IntKind.i64.wrap ((k:Int)-1)=(k:Int)-1:=wrap_i64 Om Om;refine aM k ⟨by omega,fun i h hi=>?_⟩ Om (by (repeat' (first|exact PF.nil_le|refine PF.aJ ?_ ?_))<;>first|(simp only[go_sem,w3]<;>rfl)|rfl) PH.le_refl;by_cases e:i=k
   ·subst e; exact c
   ·exact l i h Om
  ·simp only[go_sem,qP,cyF,U,show (k:Int)≥0 by omega,hq,J,R,p,b1,b2,aYD,w1,w2,bF (Om:((s[k]:Nat):Int)≠(top:Int)-n+k)];refine Up.up ?_ (hK (k+1) hm l (fun _ h=>c));unfold cyF
   (repeat' (first|exact PF.nil_le|refine PF.aJ ?_ ?_))<;>first|(simp only[go_sem,U]<;>rfl)|rfl
theorem aAB {C:Ctx} {K:bT} [Up K] {n o1 o2 q j x:Nat} {y:PV} {s:List Nat} (hs:s.length=n) (hn:n≤1000) (hx:x≤1000000) (hj:j<n) {F:PF} {H:PH} (b1:H o1=some (.rows 1 [[.int .i64 n]])) (n1:¬ o1=q) (hq:H q=some (.rows 1 (aZ (bU (onU s j x (j+1))))))
  (hF:((cyF y o1 o2 q n).set 7 (.int .i64 (j+1:Nat))).le F)
  (hK:K (.exit 6) (cyF y o1 o2 q n) (H.set q (.rows 1 (aZ (bU (s.take j++aZF x (n-j))))))):aA.wp C (.loop tX) K F H:=by
 refine wp_loop (α:=Nat × PH) (fun m=>(cyF y o1 o2 q n).set 7 (.int .i64 m.1)) (fun m=>m.2) (fun m=>j+1≤m.1∧m.1≤n∧m.2=H.set q (.rows 1 (aZ (bU (onU s j x m.1))))) (fun m=>n-m.1) (j+1,H) ⟨aXL _,hj,?_⟩ hF PH.le_refl ?_
 ·refine PH.ext fun o=>?_;show H o=(H.set q _) o;rw[aQ];split
  ·rename_i e; rw[e,hq]
  ·rfl
 rintro⟨m,H1⟩ ⟨γ,δ,hH⟩;simp only at γ δ hH;subst hH;have U:¬ q=o1:=fun e=>n1 e.symm;rw[show tX=(.seq (.seq (.region tZ) (.cond (.tmp 57) .skip (.exit 6))) (.seq (.block 7 (.region CM)) (.region CN))) from rfl];by_cases hlt:m<n
 ·have i:(m:Int)<(n:Nat):=Om;obtain⟨hp,he⟩:=asM (s:=s) (j:=j) (y:=x) (m:=m) Om Om;have l:=vN hp;rw[he] at l;have hl:=Q7 (s:=s) (j:=j) (y:=x) (m:=m) Om Om;have β:m-1<(aZ (bU (onU s j x m))).length:=by rw[dM,fF]; omega
  have J:m<(aZ (bU (onU s j x m))).length:=by rw[dM,fF]; omega
  have p:(aZ (bU (onU s j x m)))[m]?=some [PV.int .i64 ((onU s j x m)[m]'Om:Nat)]:=vN Om;have w1:IntKind.i64.wrap ((m:Int)-1)=((m-1:Nat):Int):=by rw[wrap_i64 Om Om]; omega
  have w2:IntKind.i64.wrap (((x+(m-1-j):Nat):Int)+1)=((x+(m-j):Nat):Int):=by rw[wrap_i64 Om Om]; omega
  have R:((m-1:Nat):Int)<(n:Nat):=Om;have ε:=aCG (s:=s) (j:=j) (y:=x) (m:=m) Om Om;simp only[go_sem,tZ,cyF,b1,n1,U,i,CM,w1,R,l,β,aYD,w2,p,J,UJ,ε,CN,wZz m];refine aM (m+1,_) ⟨by simp only; omega,hlt,rfl⟩ (by simp only; omega) Lq PH.le_refl
 ·have i:¬ (m:Int)<(n:Nat):=Om;have:m=n:=Om;subst this;have e:=asL (s:=s) (j:=j) (y:=x);rw[hs] at e;rw[e];simp only[go_sem,tZ,cyF,b1,n1,U,i];refine Up.up ?_ hK;unfold cyF;exact Lq
theorem lY.done {n:Nat} {s:List Nat} {l:List (List Nat)} (h:lY n s l) (p:lK n s=none):l=[s]:=by
 cases h with
 | last=>rfl
 | step i=>rw[p] at i; cases i
theorem lY.next {n:Nat} {s t:List Nat} {l:List (List Nat)} (h:lY n s l) (p:lK n s=some t):∃ r,l=s::r∧lY n t r:=by
 cases h with
 | last i=>rw[p] at i; cases i
 | step i w=>rw[p] at i; cases i; exact⟨_,rfl,w⟩
structure aoV (J:Nat→PH→Prop) (ss:List (List Nat)) (top n o1 o2 q k:Nat) (s:List Nat) (G H:PH):Prop where
 lt:k<ss.length
 walk:lY top s (ss.drop k)
 len:s.length=n
 rng:∀ x∈s,x<top
 j:J k G
 le:G.le H
 g1:G o1=none
 g2:G o2=none
 gq:G q=none
 b1:H o1=some (.rows 1 [[.int .i64 n]])
 b2:H o2=some (.rows 1 [[.int .i64 top]])
 bq:H q=some (.rows 1 (aZ (bU s)))
theorem apO {C:Ctx} {l o1 o2 n top:Nat} (J:Nat→PH→Prop) (p:List (List Nat)) (η:p=cV top n 0) (h1:1≤n) (hn:n≤1000) (ht:top≤1000)
  (hY:∀ k (hk:k<p.length) G c,J k G→G c=none→AR C l [.osl c 1 0 n] (G.set c (.rows 1 (aZ (bU p[k])))) (fun r H'=>r=.bool true∧J (k+1) H'))
  {G0 H:PH} (hJ:J 0 G0) (R:G0.le H) (b1:H o1=some (.rows 1 [[.int .i64 n]])) (b2:H o2=some (.rows 1 [[.int .i64 top]])) (g1:G0 o1=none) (g2:G0 o2=none) :
  yS.wp C (aW XW.res (fun _ H'=>∃ G,J p.length G∧G.le H')) (PF.args [tN l,.ptr o1 1 0 0,.ptr o2 1 0 0]) H:=by
 simp only[go_sem,yS,ma,XW,b1,b2];by_cases c:n>top
 ·have:p=[]:=by rw[η]; exact ahI c
  subst this;simp only[go_sem,show (n:Int)>(top:Nat) by omega];exact bB (vs:=[]) (.inr rfl) G0 rfl R ⟨G0,hJ,PH.le_refl⟩
 simp only[go_sem,show ¬ (n:Int)>(top:Nat) by omega,mb,b1,show (0:Int)≤n by omega,Int.le_refl,show (n:Int)*((8:Nat):Int)≤140737488355328 by omega,show (n:Int)≤9223372036854775807 by omega,aZL];refine aT fun q hq=>?_;obtain⟨a1,Φ⟩:¬ o1=q∧¬ q=o1:=⟨(fun e=>by rw[e,hq] at b1; cases b1),fun e=>by rw[← e,hq] at b1; cases b1⟩;obtain⟨a2,Ψ⟩:¬ o2=q∧¬ q=o2:=⟨(fun e=>by rw[e,hq] at b2; cases b2),fun e=>by rw[← e,hq] at b2; cases b2⟩;have ez:aXK n [PV.int .i64 0]=aZ (bU (mU n 0)):=by rw[Tv];unfold aZ bU;rw[List.map_replicate,List.map_replicate];rfl
 rw[ez];simp only[go_sem,me];refine aAA (n:=n) (o1:=o1) (o2:=o2) (q:=q) (y:=tN l) hn (by rw[cD]) Lq ?_;rw[PH.set_set];have ν:G0 q=none:=by
  cases h:G0 q with
  | none=>rfl
  | some x=>rw[R q x h] at hq; cases hq
 have hw:=NW top n 0 Om;rw[← η] at hw;obtain⟨r0,σ⟩:=hw.head;have ε:=wV top n 0;rw[← η] at ε;simp only[go_sem];refine wp_loop (α:=Nat × List Nat × PH × PH) (fun _=>cyF (tN l) o1 o2 q n) (fun x=>x.2.2.2) (fun x=>aoV J p top n o1 o2 q x.1 x.2.1 x.2.2.1 x.2.2.2) (fun x=>p.length-x.1) (0,aZF 0 n,G0,H.set q (.rows 1 (aZ (bU (aZF 0 n))))) ?_ (by unfold cyF; exact Lq) PH.le_refl ?_
 ·exact⟨(by simp only; rw[σ]; simp),hw,List.length_range',(fun x hx=>by rw[List.mem_range'_1] at hx; omega),hJ,PH.le_trans R (PH.KG _ hq),g1,g2,ν,(by simp only; rw[aQ,if_neg a1]; exact b1),(by simp only; rw[aQ,if_neg a2]; exact b2),(by simp only; rw[cD])⟩
 clear b1 b2 g1 g2 ν hq R hJ hw σ ez;rintro⟨k,s,G,H⟩ A;have A:aoV J p top n o1 o2 q k s G H:=A;obtain⟨hlt,ι,β,τ,hJ,R,g1,g2,gq,b1,b2,bq⟩:=A;have γ:p.drop k=p[k]::p.drop (k+1):=aZG hlt;have Ξ:p[k]=s:=by obtain⟨r,hr⟩:=ι.head;rw[γ] at hr;injection hr
 have θ:dS H 1 (.osl q 1 0 n)=some (aZ (bU s)):=by
  have:=(show bO H 1 (.osl q 1 0 (aZ (bU s)).length) (aZ (bU s)) from .inr ⟨q,_,rfl,bq,aXL _,aYS⟩).view
  rwa [dM,fF,β] at this
 rw[show XY=(.seq (.seq (.region JA) (.cond (.tmp 26) .skip (.exit 2))) (.block 3 (.seq (.region JB) (.seq (.block 4 (.loop tW)) (.seq (.seq (.region tY) (.cond (.tmp 46) .ret .skip)) (.seq (.region CK) (.seq (.region CL) (.block 6 (.loop tX))))))))) from rfl];simp only[go_sem,JA,cyF];refine rO θ (by unfold roomFor; rw[dM,fF]; simp only[maxLen]; omega) (fun h=>?_) fun _ c hc=>?_
 ·have:=congrArg List.length h;rw[dM,fF,β] at this;simp at this;omega
 rw[dM,fF,β];have φ:G c=none:=by
  cases h:G c with
  | none=>rfl
  | some x=>rw[R c x h] at hc; cases hc
 have hy:=hY k hlt G c hJ φ;rw[Ξ] at hy;have ne:∀ {b:Nat} {x:bX},H b=some x→¬ b=c:=fun hb e=>by rw[e,hc] at hb; cases hb
 refine⟨l,rfl,.inl ⟨_,G.set c (.rows 1 (aZ (bU s))),_,Ev,?_,hy,?_⟩⟩
 ·intro o x ho;rw[aQ] at ho ⊢;split at ho
  ·rename_i e; rw[if_pos e]; exact ho
  ·rename_i e; rw[if_neg e]; exact R o x ho
 rintro _ H' ⟨rfl,κ⟩ χ;have keep:∀ {b:Nat} {x:bX},H b=some x→G b=none→H' b=none∧((H.set c (.rows 1 (aZ (bU s)))).over (G.set c (.rows 1 (aZ (bU s)))) H') b=some x:=fun {b} {x} hb hg=>by
  have e:=ne hb;have h':H' b=none:=by
   cases h:H' b with
   | none=>rfl
   | some y =>have:=χ b y h (by rw[aQ,if_neg e]; exact hg);rw[aQ,if_neg e,hb] at this;cases this
  refine⟨h',?_⟩;rw[fW,h'];simp only[aQ,if_neg e,hg,hb]
 obtain⟨k1,d1⟩:=keep b1 g1;obtain⟨k2,d2⟩:=keep b2 g2;obtain⟨kq,dq⟩:=keep bq gq;have ζ:H'.le ((H.set c (.rows 1 (aZ (bU s)))).over (G.set c (.rows 1 (aZ (bU s)))) H'):=fun o x ho=>by rw[fW,ho]
 generalize (H.set c (.rows 1 (aZ (bU s)))).over (G.set c (.rows 1 (aZ (bU s)))) H'=H2 at *
 have w1:IntKind.i64.wrap ((n:Int)-1)=(n:Int)-1:=wrap_i64 Om Om;simp only[go_sem,JB,d1,w1];refine aaZ (n:=n) (top:=top) (o1:=o1) (o2:=o2) (q:=q) (y:=tN l) (s:=s) β hn ht Om d1 d2 dq (by unfold cyF; exact Lq) fun m hm δ ξ=>?_;by_cases m0:m=0
 ·subst m0;have Θ:lK top s=none:=EY fun i hi=>by have:=δ i hi (aXU _); omega
  have μ:k+1=p.length:=by have:=congrArg List.length (ι.done Θ);rw[aZI,aXR] at this;omega
  simp only[go_sem,cyF,tY,show ((0:Nat):Int)-1<0 by omega];exact bB (vs:=[]) (.inr rfl) H' rfl ζ ⟨H',by rw[← μ]; exact κ,PH.le_refl⟩
 ·obtain⟨j,rfl⟩:∃ j,m=j+1:=⟨m-1,by omega⟩;have U:j<s.length:=Om;have Δ:(j:Int)<(n:Nat):=Om;have e0:(((j+1:Nat):Int)-1)=(j:Int):=Om;have ο:=Ew (n:=top) (s:=s) j U (fun i hi Γ=>by have:=δ i hi Γ; omega) (by have:=ξ (Nat.succ_pos _) U; simp only[Nat.add_sub_cancel] at this; omega);rw[β] at ο;have Ω:=τ s[j] (aXM U);have ψ:=vN U;have ω:j<(aZ (bU s)).length:=by rw[dM,fF]; exact U
  have w2:IntKind.i64.wrap (((s[j]:Nat):Int)+1)=((s[j]+1:Nat):Int):=cP Om;have ρ:=aCF (s:=s) (j:=j) (y:=s[j]+1) U;simp only[go_sem,cyF,tY,e0,show ¬ (j:Int)<0 by omega,CK,dq,ψ,ω,Δ,aYD,w2,UJ,ρ,CL,wZz j];refine aAB (n:=n) (o1:=o1) (o2:=o2) (q:=q) (j:=j) (x:=s[j]+1) (y:=tN l) (s:=s) β hn Om Om (by rw[aQ,if_neg a1]; exact d1) a1 (by rw[cD]) (by unfold cyF; exact Lq) ?_;rw[PH.set_set];have aWU:k+1<p.length∧lY top (s.take j++aZF (s[j]+1) (n-j)) (p.drop (k+1)):=by
   obtain⟨r,hr,υ⟩:=ι.next ο;rw[γ] at hr;injection hr with _ hr
   rw[hr];refine⟨?_,υ⟩;obtain⟨r2,Λ⟩:=υ.head;have:=congrArg List.length hr;rw[Λ,aZI,aZA] at this;omega
  have key:aoV J p top n o1 o2 q (k+1) (s.take j++aZF (s[j]+1) (n-j)) H' (H2.set q (.rows 1 (aZ (bU (s.take j++aZF (s[j]+1) (n-j)))))):={
      lt:=aWU.1
      walk:=aWU.2
      len:=by simp; omega
      rng:=fun x hx=>by
       have h2:=ε (p[k+1]'aWU.1) (aXM _);have h3:p[k+1]'aWU.1=s.take j++aZF (s[j]+1) (n-j):=by obtain⟨r,hr⟩:=aWU.2.head;rw[aZG aWU.1] at hr;injection hr
       rw[h3] at h2;exact (h2.2.1 x hx).2
      j:=κ
      le:=fun o x ho=>by
       have:¬ o=q:=fun e=>by rw[e,kq] at ho; cases ho
       rw[aQ,if_neg this];exact ζ o x ho
      g1:=k1,g2:=k2,gq:=kq
      b1:=by rw[aQ,if_neg a1]; exact d1
      b2:=by rw[aQ,if_neg a2]; exact d2
      bq:=by rw[cD] }
  simp only[go_sem,cyF];exact aM (k+1,s.take j++aZF (s[j]+1) (n-j),H',H2.set q (.rows 1 (aZ (bU (s.take j++aZF (s[j]+1) (n-j)))))) key (by simp only; omega) Lq PH.le_refl
def oT (f:aK) (p:cB) (xs:List Int) (i:Nat):Bool:=!(decide (dR f p i>0)&&decide (fA f xs i>dR f p i))
theorem rK (f:aK) (p:cB) (xs:List Int):jF f p xs=(aXQ f.aWC.length).all (oT f p xs):=rfl
theorem abB (f:aK) (xs ys:List Int) (i:Nat):fA f xs i≤fA f (xs++ys) i:=by
 unfold fA;rw[List.countP_append];split<;>omega
theorem adU {f:aK} {p:cB} {xs ys:List Int} {i:Nat} (h:oT f p xs i=false):oT f p (xs++ys) i=false:=by
 have:=abB f xs ys i;unfold oT at h ⊢;simp only[Bool.not_eq_false',aYB,decide_eq_true_eq] at h ⊢;omega
theorem c9 {f:aK} {p:cB} {xs:List Int} {i:Nat} (hi:i<f.aWC.length) (h:oT f p xs i=false):jF f p xs=false:=by
 rw[rK];simp only[List.all_eq_false,aYV];exact⟨i,hi,by rw[h]; simp⟩
theorem Gu {f:aK} {p:cB} {xs ys:List Int} (h:jF f p xs=false):jF f p (xs++ys)=false:=by
 rw[rK] at h;simp only[List.all_eq_false,aYV] at h;obtain⟨i,hi,h⟩:=h;exact c9 hi (adU (by simpa using h))
theorem Ko (f:aK) (p:cB):jF f p []=true:=by
 rw[rK];simp only[aYF,aYV];intro i _;unfold oT fA;simp;omega
theorem Wj {f:aK} (hV:VF f) {p:cB} {xs:List Int} (h:∀ i,i<f.aWC.length→0<lvl f i→oT f p xs i=true):jF f p xs=true:=by
 rw[rK];simp only[aYF,aYV];intro i hi;have l:=hV.kZ hi;by_cases e:i=0
 ·unfold oT fA;rw[if_pos e];simp;omega
 ·exact h i hi Om
theorem aCE {f:aK} {p:cB} {xs:List Int} (h:jF f p xs=true) {i:Nat} (hi:i<f.aWC.length):oT f p xs i=true:=by
 rw[rK] at h;exact aYF.1 h i (aYV.2 hi)
theorem ahF (p:cB) (t:List PV) {n:Nat} (h:n<5):(if 1≤(List.drop n (PV.int .i64 p.s0::PV.int .i64 p.s1::PV.int .i64 p.s2::PV.int .i64 p.s3::PV.int .i64 p.s4::t)).length then some (List.take 1 (List.drop n (PV.int .i64 p.s0::PV.int .i64 p.s1::PV.int .i64 p.s2::PV.int .i64 p.s3::PV.int .i64 p.s4::t))) else none)=some [PV.int .i64 (p.spread n)]:=by
 have:n=0∨n=1∨n=2∨n=3∨n=4:=Om;rcases this with rfl | rfl | rfl | rfl | rfl<;>simp[cB.spread]
def BV (f:aK) (p:cB) (i oD:Nat) (set:List Int) (k:Nat):PF:=(((((((PF.nil.set 3 (.cO f.cells)).set 4 (.cO p.cells)).set 7 (.osl i 1 0 f.aWA.length)).set 10 (.osl oD 1 0 f.aWC.length)).set 34 (ints set)).set 35 (.int .i64 (set.length:Nat))).set 36 (.int .i64 k))
def S8 (f:aK) (p:cB) (i oD:Nat) (set:List Int) (k:Nat) (at_:Nat):PF:=((((((((PF.nil.set 3 (.cO f.cells)).set 4 (.cO p.cells)).set 7 (.osl i 1 0 f.aWA.length)).set 10 (.osl oD 1 0 f.aWC.length)).set 34 (ints set)).set 35 (.int .i64 (set.length:Nat))).set 36 (.int .i64 k)).set 13 (.int .i64 at_))
theorem azW {C:Ctx} {K:bT} [Up K] (f:aK) (hV:VF f) (p:cB) (oA oD:Nat) (set:List Int) (k:Nat) (xs:List Int) (φ:xs.length≤16777216) (ρ:jF f p xs=true) (d:Nat) (hd:d<f.aVZ.length) {F:PF} {H:PH}
  (hF:(S8 f p oA oD set k (cX f d)).le F) (hD:H oD=some (.rows 1 (aZ (kV f xs))))
  (hR:∀ F' H',F' 6=some (.bool false)→jF f p (xs++[(d:Int)])=false→K .ret F' H')
  (hK:jF f p (xs++[(d:Int)])=true→K (.exit 4) (BV f p oA oD set k) (H.set oD (.rows 1 (aZ (kV f (xs++[(d:Int)])))))) :
  aA.wp C (.loop SA) K F H:=by
 refine wp_loop (α:=Nat × PH) (fun t=>S8 f p oA oD set k (upN f t.1 (cX f d))) (fun t=>t.2) (fun t=>t.1≤4∧t.2=H.set oD (.rows 1 (aZ (lH f xs d t.1)))∧∀ i,i<f.aWC.length→4-(t.1:Int)<lvl f i→oT f p (xs++[(d:Int)]) i=true) (fun t=>4-t.1) (0,H) ⟨aXU _,?_,?_⟩ (by rw[upN]; exact hF) PH.le_refl ?_
 ·rw[abD hV];refine PH.ext fun o=>?_;show H o=(H.set oD _) o;rw[aQ];split
  ·rename_i e; rw[e,hD]
  ·rfl
 ·intro i hi hl;have:=(hV.kZ hi).2.1;simp only at hl;omega
 rintro⟨j,H0⟩ ⟨hj,hH,J⟩;simp only at hj hH J;subst hH;obtain⟨R,u2⟩:=NN hV hd (k:=j) hj;simp only[go_sem,SA,wy,S8];by_cases hlt:j<4
 ·have ο:0<upN f j (cX f d):=by
   rcases aZX (upN f j (cX f d)) with e | e
   ·rw[e,hV.root.2.1] at u2; omega
   ·exact e
  have hc:((upN f j (cX f d):Nat):Int)>0:=Om;obtain⟨b1,b2⟩:=aAF hV xs hd hlt;have ζ:(aZ (lH f xs d j))[upN f j (cX f d)]?=some [.int .i64 (fA f xs (upN f j (cX f d)))]:=by unfold aZ; rw[aYG,b1]; rfl
  have τ:=aAE f xs (upN f j (cX f d));have hw:IntKind.i64.wrap (fA f xs (upN f j (cX f d))+1)=fA f xs (upN f j (cX f d))+1:=wrap_i64 Om Om;have U:((upN f j (cX f d):Nat):Int)<(f.aWC.length:Nat):=Om;have ν:upN f j (cX f d)<(aZ (lH f xs d j)).length:=by rw[dM,aqF]; exact R
  have ι:fA f (xs++[(d:Int)]) (upN f j (cX f d))=fA f xs (upN f j (cX f d))+1:=by rw[xH f xs d Om,cT,u2,show 4-(4-(j:Int)).toNat=j by omega,if_pos rfl]
  have l:oT f p (xs++[(d:Int)]) (upN f j (cX f d))=!(decide (dR f p (upN f j (cX f d))>0)&&decide (fA f xs (upN f j (cX f d))+1>dR f p (upN f j (cX f d)))):=by rw[oT,ι]
  have aWU:oT f p (xs++[(d:Int)]) (upN f j (cX f d))=true→∀ i,i<f.aWC.length→4-((j+1:Nat):Int)<lvl f i→oT f p (xs++[(d:Int)]) i=true:=by
   intro h i hi hl;by_cases e:i=upN f j (cX f d)
   ·rw[e]; exact h
   ·by_cases c:4-(j:Int)<lvl f i
    ·exact J i hi c
    ·have θ:lvl f i=4-(j:Int):=Om;have μ:i≠0:=by intro e; subst e; rw[hV.root.2.1] at θ; omega
     have ε:fA f (xs++[(d:Int)]) i=fA f xs i:=by rw[xH f xs d μ,cT,θ,show 4-(4-(j:Int)).toNat=j by omega,if_neg (fun h=>e h.symm)]; simp
     have:=aCE ρ hi;unfold oT at this ⊢;rw[ε]; exact this
  have η:oT f p (xs++[(d:Int)]) (upN f j (cX f d))=false→jF f p (xs++[(d:Int)])=false:=c9 R;have ξ:dR f p (upN f j (cX f d))=p.spread (4-(j:Int)).toNat:=by rw[dR,u2]
  rw[ξ] at l;have σ:=ζ;have δ:(aZ (lH f xs d j)).set (upN f j (cX f d)) [.int .i64 (fA f xs (upN f j (cX f d))+1)]=aZ (lH f xs d (j+1)):=by rw[ny,b2]
  have β:(aZ (lH f xs d (j+1)))[upN f j (cX f d)]?=some [.int .i64 (fA f xs (upN f j (cX f d))+1)]:=by rw[← δ,List.getElem?_set_self ν]
  have κ:upN f (j+1) (cX f d)=FU f (upN f j (cX f d)):=rfl;have γ:=hV.Q8 ο R;generalize υ:upN f j (cX f d)=u at *
  generalize fA f xs u=dc at *
  have l0:(0:Int)≤4-(j:Int):=Om;have h5:4-(j:Int)<((5:Nat):Int):=Om;simp only[go_sem,hc,wz,U,aYD,ζ,hw,δ,w8,mB R,KI R,u2,l0,h5,Nat.mul_one];rw[ahF p _ (Om:(4-(j:Int)).toNat<5)];by_cases c1:p.spread (4-(j:Int)).toNat>0
  ·by_cases c2:dc+1>p.spread (4-(j:Int)).toNat
   ·simp only[go_sem,BY,c1,c2,U,β,aYD,w9];exact hR _ _ Sq (η (by rw[l,decide_eq_true c1,decide_eq_true c2]; rfl))
   ·simp only[go_sem,BY,c1,c2,U,β,aYD,SD,mB R,Fy R,γ];exact aM (j+1,_) ⟨hlt,rfl,aWU (by rw[l,decide_eq_false c2,aYY]; rfl)⟩ (by simp only; omega) (by (repeat' (first|exact PF.nil_le|refine PF.aJ ?_ ?_))<;>first|(simp only[go_sem,κ]<;>rfl)|rfl) PH.le_refl
  ·simp only[go_sem,BY,c1,SD,U,aYD,mB R,Fy R,γ];exact aM (j+1,_) ⟨hlt,rfl,aWU (by rw[l,decide_eq_false c1]; rfl)⟩ (by simp only; omega) (by (repeat' (first|exact PF.nil_le|refine PF.aJ ?_ ?_))<;>first|(simp only[go_sem,κ]<;>rfl)|rfl) PH.le_refl
 ·have:j=4:=Om;subst this;have h0:upN f 4 (cX f d)=0:=by have:=hV.kZ R;omega
  have hc:¬ ((upN f 4 (cX f d):Nat):Int)>0:=Om;simp only[go_sem,hc];rw[abC hV];refine Up.up ?_ (hK (Wj hV fun i hi h=>J i hi (by simpa using h)));unfold BV;exact Lq
theorem aoZ {f:aK} {p:cB} {set:List Int} {d:Int} (i:d∈set) (h:AS f p d=false):lN f p set=false:=by
 unfold lN;have:set.all (AS f p)=false:=by simp only[List.all_eq_false];exact⟨d,i,by rw[h]; simp⟩
 rw[this]; rfl
theorem aoY {f:aK} {p:cB} {set:List Int} {k:Nat} (h:jF f p (set.take k)=false):lN f p set=false:=by
 have:=Gu (ys:=set.drop k) h;rw[a0E] at this;unfold lN;rw[this,aYY]
def Su (f:aK) (set:List Int):Prop:=set.length≤16777216∧∀ x∈set,0≤x∧x<(f.aVZ.length:Nat)
theorem aaL {C:Ctx} {K:bT} [Up K] (f:aK) (hV:VF f) (p:cB) (oA oD:Nat) (hn:oA≠oD) (set:List Int) (hs:Su f set) {F:PF} {H:PH}
  (hF:(BV f p oA oD set 0).le F) (hA:H oA=some (.rows 1 (cY (marks f.aWA.length p.aWA)))) (hD:H oD=some (.rows 1 (aZ (kV f []))))
  (hR:∀ F' H',F' 6=some (.bool false)→lN f p set=false→K .ret F' H')
  (hK:∀ F' H',lN f p set=true→K (.exit 2) F' H') :
  aA.wp C (.loop vZ) K F H:=by
 obtain⟨μ,κ⟩:=hs;refine wp_loop (α:=Nat × PH) (fun t=>BV f p oA oD set t.1) (fun t=>t.2) (fun t=>t.1≤set.length∧t.2 oA=some (.rows 1 (cY (marks f.aWA.length p.aWA)))∧t.2 oD=some (.rows 1 (aZ (kV f (set.take t.1))))∧(set.take t.1).all (AS f p)=true∧jF f p (set.take t.1)=true) (fun t=>set.length-t.1) (0,H) ⟨aXU _,hA,hD,rfl,Ko f p⟩ hF PH.le_refl ?_;rintro⟨k,H0⟩ ⟨hk,hA,hD,J,γ⟩;simp only at hk hA hD J γ;by_cases hlt:k<set.length
 ·have R:(k:Int)<(set.length:Nat):=Om;have ι:(set.map fun n=>[PV.int .i64 n])[k]?=some [.int .i64 set[k]]:=by simp[hlt]
  have δ:set.take (k+1)=set.take k++[set[k]]:=aZT hlt;have hx:=κ set[k] (aXM hlt);have hm:=aXM hlt;generalize ν:set[k]=x at *
  obtain⟨d,rfl⟩:∃ d:Nat,x=d:=⟨x.toNat,by omega⟩;have i:d<f.aVZ.length:=Om;have ε:(d:Int)<(f.aVZ.length:Nat):=Om;obtain⟨w1,w2,w3,w4,w5⟩:=hV.drive d i;have ζ:((mdl f d:Nat):Int)<(f.aWA.length:Nat):=Om;have β:(cY (marks f.aWA.length p.aWA))[mdl f d]?=some [.bool (p.aWA.contains ((mdl f d:Nat):Int))]:=by have:=wM (n:=f.aWA.length) (l:=p.aWA) (m:=((mdl f d:Nat):Int)) Om ζ;rw[aZL] at this;unfold cY;rw[aYG,this]; rfl
  have U:AS f p (d:Int)=p.aWA.contains ((mdl f d:Nat):Int):=by rw[AS,aZL]
  cases hb:p.aWA.contains ((mdl f d:Nat):Int) with
  | false =>rw[hb] at β U;simp only[go_sem,vZ,BW,BV,R,SB,ι,SC,JD i,ε,hV.acP i,ζ,aYD,hA,β,aYJ,ww];exact hR _ _ Sq (aoZ hm U)
  | true =>
   rw[hb] at β U;simp only[go_sem,vZ,BW,BV,R,SB,ι,SC,JD i,ε,hV.acP i,ζ,aYD,hA,β,aXW,wx,hV.O3 i];have up:=fun {K:bT} [Up K] {F:PF} {H:PH}=>azW (C:=C) (K:=K) f hV p oA oD set k (set.take k) (by rw[aYA]; omega) γ d i (F:=F) (H:=H);refine up (by unfold S8; exact Lq) hD ?_ ?_
   ·intro F' H' h6 η;simp only[go_sem];exact hR _ _ h6 (aoY (k:=k+1) (by rw[δ]; exact η))
   ·intro θ;simp only[go_sem,BV,xa,wZz k];refine aM (k+1,H0.set oD (.rows 1 (aZ (kV f (set.take k++[(d:Int)]))))) ⟨hlt,?_,?_,?_,by rw[δ]; exact θ⟩ (by simp only; omega) Lq PH.le_refl
    ·simp only[aQ,if_neg hn]; exact hA
    ·simp only[cD,δ]
    ·rw[δ];intro y hy;rcases aZC.1 hy with h | h
     ·exact aYF.1 J y h
     ·rw[aZW.1 h]; exact U
 ·have R:¬ (k:Int)<(set.length:Nat):=Om;have:k=set.length:=Om;subst this;rw[aYS] at J γ;simp only[go_sem,vZ,BW,BV,R];exact hK _ _ (by rw[lN,J,γ]; rfl)

def aNL (down:List Int) (d:Int):Bool:=decide (0≤d)&&down.contains d
def aNM (down:List Int) (d:Int):Bool:=decide (0≤d)&&!down.contains d
def aQT (down row:List Int):Bool:=row.any (aNL down)
def aCH (down row:List Int):Nat:=row.countP (aNM down)
def aKH (f:aK) (i:Int) (down:List Int) (v:Nat) (row:List Int):Bool:=aQT down row&&decide (((aCH down row:Nat):Int)<(FX f v).k+i)
def aNN (f:aK) (l:List (List Int)) (i:Int) (down:List Int) (n:Nat):Bool:=(aXQ n).all fun v=>!aKH f i down v (l.getD v [])
def vi (f:aK) (l:List (List Int)) (i:Int) (down:List Int):Bool:=aNN f l i down l.length
end Go.PM
