/-
  Texts of ours, joined: Rn2 RwW3 RwW4 CyW8 CyW9 CsCode2 RwW5 CyW10 CyW11 CyW12 CyW13 CyW14 CyW15 CyW16 L17Code CyW17 CyW18 CsP4 CsP5 CyP1 CzP3 CzCode CyL1 CyR1 CyR2 CyR3 CyR4 CyR5 CyR6 CyR7 CyR8 CyL2 CzL5 CzL6 JzHolds. No condition.
-/
import Derived.Test.YtnagfjehjbbckaaGreatDoorHo1
import Derived.Test.YtnagfjehjbbckaaGreatDoorHo2
import Derived.Test.YtnagfjehjbbckaaGreatDoorHo3
import Derived.Test.YtnagfjehjbbckaaGreatDoorHo4
import Derived.Test.YtnagfjehjbbckaaGreatDoorHo5

set_option linter.unusedSimpArgs false
set_option linter.unusedVariables false
open Nat renaming reduceEqDiff → γ, reduceAdd → δ, reduceSub → ε, reduceMul → ζ, reduceLT → η, reduceLeDiff → θ, reduceBEq → τ
open Int renaming reduceLT → ι, reduceLE → κ, reduceEq → μ, reduceToNat → ν, reduceAdd → ξ, reduceNeg → ο, reduceBEq → ρ, reduceBNe → σ
open List renaming reduceReplicate → υ
open List renaming length_map → aUN, range → aUO, getElem_mem → aUQ, replicate → aUR, length_append → aUS, length_singleton → aUX, getD_eq_getElem?_getD → aUY, getElem?_eq_getElem → aVB, mem_cons → aVC, all_eq_true → aVD, take_of_length_le → aVI, length_take → aVJ, not_mem_nil → aVK, mem_range → aVM, getElem?_map → aVN, take_length → aVP, mem_map → aVQ, append_assoc → aVS, map_append → aVT, getElem?_eq_some_iff → aVW, getElem_of_mem → aVX, drop_zero → aVY, map_cons → aVZ, getElem_map → aWD, append_nil → aWF, getElem?_eq_none → aWG, length_cons → aWH, mem_append → aWI, drop_eq_getElem_cons → aWM, take_succ_eq_append_getElem → aWN, range' → aWP, length_drop → aWR, map_nil → aWS, Sublist → aWT, length_set → aWU, mem_singleton → aWV, length_nil → aXD, ext_getElem → aXE, getElem?_append_right → aXF, take_append_drop → aXG, getElem?_append_left → aXI, nodup_append → aXJ, mem_of_getElem? → aXL, set_append_right → aXO, range_succ → aXV, take_zero → aXW, countP_cons → aXZ, getElem?_take → aYA, set_cons_zero → aYB, countP_append → aYH, drop_of_length_le → aYI, map_congr_left → aYJ, getElem_append_right → aYL, getElem_append_left → aYM
open Nat renaming gcd → aUP, zero_le → aUT, le_refl → aUU, mul_add → aVF, zero_add → aVH, lt_or_ge → aVL, mul_assoc → aVO, mul_comm → aVR, add_mul → aVU, mul_le_mul_right → aVV, mod_eq_of_lt → aWA, le_trans → aWE, mod_lt → aWJ, pow_succ → aWL, min_eq_left → aWW, add_assoc → aWX, add_zero → aWY, eq_zero_or_pos → aWZ, mul_le_mul_left → aXA, pos_of_ne_zero → aXB, pow_pos → aXK, div_le_self → aXM, div_lt_iff_lt_mul → aXP, sub_self → aXQ, succ_mul → aXR, mul_le_mul → aXX, div_add_mod → aYC, div_eq_of_lt → aYD, pow_le_pow_right → aYK
open Bool renaming false_and → aUV, not_true → aUW, true_and → aVA, and_eq_true → aVE, not_false → aVG, and_false → aWB, and_true → aWQ, and_assoc → aXN, false_eq_true → aXU
open Option renaming map_eq_some_iff → aUZ, map_some → aWC, some → aXC, getD_some → aXH, bind_eq_some_iff → aYE, bind_some → aYF
open Int renaming toNat_natCast → aWK
open Array renaming replicate → aWO, length_toList → aXS, getElem?_eq_some_iff → aXT, getElem?_eq_getElem → aXY, getD_eq_getD_getElem? → aYG
namespace Go.PM
open Go
def Fx (u:PV):Prop:=∀ q s rs,PV.frz q s rs u=u
theorem Fx.int (k:IntKind) (n:Int):Fx (.int k n):=fun _ _ _=>rfl
theorem Fx.bool (b:Bool):Fx (.bool b):=fun _ _ _=>rfl
theorem Fx.sl (n:Nat) (r:List (List PV)):Fx (.sl n r):=fun _ _ _=>rfl
theorem Fx.aB:Fx .aB:=fun _ _ _=>rfl
theorem Fx.ptr (q z i c:Nat):Fx (.ptr q z i c):=fun _ _ _=>rfl
theorem Fx.bL (c:List PV):Fx (.bL c):=fun _ _ _=>rfl
theorem bE.dH {H:PH} {s:Nat} {v:PV} {rows:List (List PV)} (h:bE H s v rows) (q z:Nat) (rs:List (List PV)):PV.frz q z rs v=PV.dH q z rs v:=by
 rcases h with ⟨-,rfl⟩ | ⟨p,rs',rfl,-⟩<;>rfl
def U7 (φ:PV→PV) (F:PF):PF:=fun i=>(F i).map φ
theorem IA (φ:PV→PV) (F:PF) (i:Nat):U7 φ F i=(F i).map φ:=rfl
theorem LT:∀ (ps:WPs) {H:PH} {B:List BX} {y:PV} (l:List (List PV)) (d:List (List Int)),rI l d→aM H B ((y,1,l++dV ps)::pT ps)→(∀ b∈B,∀ q s rs,cB.frz q s rs b.2=b.2) →
  ∃ (φ:PV→PV) (A:PH),Co (φ y) (lists (d++wls ps))∧(∀ u,Fx u→φ u=u)∧(∀ e:Int,φ (.tup [y,.int .i64 e])=.tup [φ y,.int .i64 e])∧aM A B []∧(∀ F:PF,jM F H (U7 φ F) A)∧∀ o,(H o=none∨y.oid=some o∨∃ p∈ps,p.1.oid=some o)→A o=none
 | [],H,B,y,l,d,J,h,hB=>by
  have M:l++dV []=l:=aWF l;have e1:d++wls []=d:=aWF d;rw[M] at h;rw[e1];rcases h.own 0 rfl with ⟨Q,rfl⟩ | ⟨q,rs,rfl,_⟩
  ·refine⟨id,H,?_,fun _ _=>rfl,fun _=>rfl,h.jj 0,fun F=>?_,fun o ho=>?_⟩
   ·subst Q;have:d=[]:=List.length_eq_zero_iff.1 J.1.symm;subst this;exact .nil 1
   ·have:U7 id F=F:=funext fun i=>by rw[IA]; simp
    rw[this];exact .refl _ _
   ·rcases ho with ho | ho | ⟨p,hp,-⟩
    ·exact ho
    ·cases ho
    ·cases hp
  ·obtain⟨rs,X,Y,Z,z4,K⟩:=h.frz 0 rfl;refine⟨PV.frz q 1 rs,H.frz q 1 rs,?_,fun u N=>N _ _ _,fun e=>?_,?_,fun F=>.step q X (.refl _ _),fun o ho=>?_⟩
   ·rw[Z]; exact J.co
   ·show PV.tup [PV.dH q 1 rs (.osl q 1 0 l.length),.int .i64 e]=_;rw[Y,Z]
   ·have O:(B.map fun b=>(b.1,b.2.frz q 1 rs))=B:=by
     conv=>rhs; rw[← List.map_id B]
     refine aYJ fun b R=>?_;rw[hB b R q 1 rs]; rfl
    rw[O] at K;exact K
   ·rw[zO];rcases ho with ho | ho | ⟨p,hp,-⟩
    ·rw[ho]; split<;>rfl
    ·have:q=o:=by injection ho
     rw[if_pos this.symm]
    ·cases hp
 | (v,w)::ps,H,B,y,l,d,J,h,hB=>by
  have eo:∀ u:PV,l++[[u]]++dV ps=l++[u]::dV ps:=fun u=>by rw[aVS]; rfl
  have ew:d++[w]++wls ps=d++wls ((v,w)::ps):=by rw[aVS]; rfl
  have ho:bE H 1 v (aW w):=h.own 1 rfl;rcases ho with ⟨Q,rfl⟩ | ⟨q,rs,rfl,_⟩
  ·have hw:w=[]:=List.map_eq_nil_iff.1 Q;have h2:=h.jj 1;obtain⟨φ,A,k1,k2,S,U,V,W⟩:=LT ps (l++[[.aB]]) (d++[w]) (J.snoc (.inr ⟨rfl,hw⟩)) (by rw[eo]; exact h2) hB;rw[ew] at k1;refine⟨φ,A,k1,k2,S,U,V,fun o ho=>W o ?_⟩;rcases ho with ho | ho | ⟨p,hp,ho⟩
   ·exact .inl ho
   ·exact .inr (.inl ho)
   ·rcases aVC.1 hp with rfl | hp
    ·cases ho
    ·exact .inr (.inr ⟨p,hp,ho⟩)
  ·obtain⟨rs,X,Y,Z,z4,K⟩:=h.frz 1 rfl;have O:(B.map fun b=>(b.1,b.2.frz q 1 rs))=B:=by
    conv=>rhs; rw[← List.map_id B]
    refine aYJ fun b R=>?_;rw[hB b R q 1 rs]; rfl
   have y0:PV.dH q 1 rs y=y:=z4 0 _ (by decide) rfl;have E:PV.frz q 1 rs y=y:=((h.own 0 rfl).dH q 1 rs).trans y0;have yp:∀ p∈ps,PV.dH q 1 rs p.1=p.1:=fun p hp=>by obtain⟨j,hj⟩:=List.mem_iff_getElem?.1 hp;exact z4 (j+2) (p.1,1,aW p.2) Om (uh hj)
   have er:(l++dV ((.osl q 1 0 (aW w).length,w)::ps)).map (fun r=>r.map (PV.dH q 1 rs))=l++[[ints w]]++dV ps:=by
    rw[aVT,J.flat,aVS];congr 1;show [PV.dH q 1 rs (.osl q 1 0 (aW w).length)]::(dV ps).map _=_;rw[Y];have:(dV ps).map (fun r=>r.map (PV.dH q 1 rs))=dV ps:=by unfold dV;rw[List.map_map];refine aYJ fun p hp=>?_;show [PV.dH q 1 rs p.1]=_;rw[yp p hp]
    rw[this];rfl
   have ei:(pT ps).map (fun x=>(x.1,x.2.1,x.2.2.map fun r=>r.map (PV.dH q 1 rs)))=pT ps:=by unfold pT;rw[List.map_map];refine aYJ fun p _=>?_;show (p.1,1,(aW p.2).map fun r=>r.map (PV.dH q 1 rs))=_;rw[show (aW p.2).map (fun r=>r.map (PV.dH q 1 rs))=aW p.2 from Flat.map p.2 (fun x c hc q s rs=>by rw[aWV] at hc; subst hc; rfl) q 1 rs]
   have z6:aM (H.frz q 1 rs) B ((y,1,l++[[ints w]]++dV ps)::pT ps):=by rw[O] at K;have z7:aM (H.frz q 1 rs) B ((y,1,(l++dV ((.osl q 1 0 (aW w).length,w)::ps)).map (fun r=>r.map (PV.dH q 1 rs)))::(pT ps).map (fun x=>(x.1,x.2.1,x.2.2.map fun r=>r.map (PV.dH q 1 rs)))):=K;rw[er,ei] at z7;exact z7
   obtain⟨φ,A,k1,k2,S,U,V,W⟩:=LT ps (l++[[ints w]]) (d++[w]) (J.snoc (.inl rfl)) z6 hB;rw[ew] at k1;refine⟨fun u=>φ (PV.frz q 1 rs u),A,?_,fun u N=>?_,fun e=>?_,U,fun F=>.step q X ?_,fun o ho=>W o ?_⟩
   ·simp only;rw[E]; exact k1
   ·simp only;rw[N,k2 u N]
   ·simp only;rw[E];have yt:PV.frz q 1 rs (.tup [y,.int .i64 e])=.tup [PV.frz q 1 rs y,.int .i64 e]:=by rcases h.own 0 rfl with ⟨-,M⟩ | ⟨p,rs',M,-⟩<;>(subst M; rfl)
    rw[yt,E,S]
   ·have:U7 (fun u=>φ (PV.frz q 1 rs u)) F=U7 φ (F.frz q 1 rs):=funext fun i=>by rw[IA,IA,rL,Option.map_map];rfl
    rw[this];exact V _
   ·rw[zO];rcases ho with ho | ho | ⟨p,hp,ho⟩
    ·left; rw[ho]; split<;>rfl
    ·exact .inr (.inl ho)
    ·rcases aVC.1 hp with rfl | hp
     ·have:q=o:=by injection ho
      left; rw[if_pos this.symm]
     ·exact .inr (.inr ⟨p,hp,ho⟩)
theorem CS {res:List eA} {F:PF} {H:PH} {d:PV} {ps:WPs} {c:Int} {e:mC} (x:e=.normal∨e=.ret) (h:eA.evs F H res=some [d,.int .i64 c]) (u:aM H [] (fL d ps)):aU res (bX (.tup [lists (wls ps),.int .i64 c])) e F H:=by
 obtain⟨φ,B,k1,-,y,-,A,-⟩:=LT ps [] [] .nil u (fun b w=>by cases w);refine vN x h ⟨_,_,.nil,A _,a_,φ (bQ [d,.int .i64 c]),?_,?_⟩
 ·rw[IA,kY,if_pos rfl]; rfl
 ·show bX _ (φ (.tup [d,.int .i64 c])) .nil;rw[y];refine⟨.tup rfl fun j p q i l=>?_,rfl⟩
  match j with
  | 0=>cases i; cases l; exact k1
  | 1=>cases i; cases l; exact .refl _
  | j+2=>cases i
theorem aoL {C:Ctx} {F:PF} {H Hs:PH} {S:Spec} {name:Nat} {D:List Nat} {vs:List PV} {v:PV} {args:List aQ} {st:Bool} {d:Option Nat} {K:PF→PH→Prop} (i:S name vs=some (D,fun G r H'=>r=v∧H'=G)) (hD:∀ o∈D,∃ x,H o=some x)
  (h:aH C name vs (H.only D) (fun r H'=>r=v∧H'=H.only D)) (l:aQ.evs F args=some vs) (c:Hs.le H) (p:K (F.put d v) H):dOp C Hs S st (.call name args) d K F H:=by
 refine⟨vs,D,_,l,i,hD,h,fun G=>⟨v,_,⟨rfl,rfl⟩,fun q y w e=>?_⟩,fun r H' u _=>?_⟩
 ·rw[w] at e; cases e
 ·obtain⟨rfl,rfl⟩:=u;rw[PH.over_self _ (HT H D)];exact⟨c,p⟩
open Go Go.Na
theorem bE.lenOf {H:PH} {v:PV} {rows:List (List PV)} {s:Nat} (h:bE H s v rows):PV.tT v=some (.int .i64 (rows.length:Nat)):=by
 rcases h with ⟨rfl,rfl⟩ | ⟨q,rs,rfl,-⟩<;>rfl
theorem aM.aKM {H:PH} {B:List BX} {e:PV} {ps:WPs} (h:aM H B (fL e ps)) {i:Nat} (hi:i<ps.length) :
  ∃ d rs,e=.osl d 1 0 ps.length∧H d=some (.rows 1 rs)∧rs[i]?=some [ps[i].1]∧i<rs.length:=by
 rcases h.outer with ⟨c,-⟩ | ⟨q,rs,rfl,c,h2,h3⟩
 ·have:(dV ps).length=0:=by rw[c]; rfl
  rw[oC] at this;omega
 ·rw[oC] at h2 h3;refine⟨q,rs,by rw[oC],c,?_,by omega⟩;have:=Q9 (ps:=ps) (i:=i) (v:=ps[i].1) (w:=ps[i].2) (by rw[aVB hi]);rw[← h3,List.getElem?_take_of_lt hi] at this;exact this
theorem aM.aHC {H:PH} {B:List BX} {c:PV} {ps:WPs} (h:aM H B (fL c ps)):PV.tT c=some (.int .i64 (ps.length:Nat)):=by
 have:=h.outer.lenOf
 rwa [oC] at this
theorem IC (ps:WPs):(wls ps).length=ps.length:=aUN _
theorem n6 {res:List eA} {F:PF} {H:PH} {c:PV} {ps:WPs} {e:mC} (l:e=.normal∨e=.ret) (h:eA.evs F H res=some [c]) (d:aM H [] (fL c ps)):aU res (bX (lists (wls ps))) e F H:=by
 obtain⟨φ,u,k1,-,-,-,p,-⟩:=LT ps [] [] .nil d (fun b i=>by cases i);refine vN l h ⟨_,_,.nil,p _,a_,φ (bQ [c]),?_,?_⟩
 ·rw[IA,kY,if_pos rfl]; rfl
 ·exact⟨k1,rfl⟩
def ui (f:aD) (lv:Int) (i:Nat):Bool:=decide (lvl f i=lv)
def BY (f:aD) (lv:Int):List Nat:=(aUO f.aTF.length).filter (ui f lv)
def eH (f:aD) (lv:Int) (i:Nat):Nat:=(aUO i).countP (ui f lv)
def fJ (f:aD) (lv:Int) (k:Nat):List Int:=(aUO f.aTF.length).map fun i=>if i<k∧lvl f i=lv then ((eH f lv i:Nat):Int) else 0
def wZ (f:aD) (lv:Int) (d i:Nat):List Nat:=(aUO d).filter fun e=>decide (cU f e lv=i)
def oS (f:aD) (lv:Int) (d:Nat):List (List Int):=(BY f lv).map fun i=>cH (wZ f lv d i)
theorem Uk (f:aD) {lv:Int} (h:lv≠5):iR f lv=oS f lv f.aTC.length:=by
 unfold iR;rw[if_neg h]; rfl
theorem Es (f:aD):iR f 5=(aUO f.aTC.length).map fun (d:Nat)=>[(d:Int)]:=by
 unfold iR;rw[if_pos rfl]
theorem alB (f:aD) (lv:Int) (k:Nat):(fJ f lv k).length=f.aTF.length:=by unfold fJ; simp
theorem W2 (f:aD) (lv:Int):fJ f lv 0=aUR f.aTF.length 0:=by
 unfold fJ;refine aXE (by simp) fun i c d=>?_;simp
theorem By {f:aD} {lv:Int} {k i:Nat} (hi:i<f.aTF.length):(fJ f lv k)[i]?=some (if i<k∧lvl f i=lv then ((eH f lv i:Nat):Int) else 0):=by
 unfold fJ;rw[aVN,List.getElem?_range hi]; rfl
theorem alA {f:aD} {lv:Int} {k:Nat} (h:lvl f k=lv):(fJ f lv k).set k ((eH f lv k:Nat):Int)=fJ f lv (k+1):=by
 refine aXE (by simp[fJ]) fun i c d=>?_;simp only[fJ,List.getElem_set,aWD,List.getElem_range];by_cases e:k=i
 ·subst e; rw[if_pos rfl,if_pos ⟨by omega,h⟩]
 ·rw[if_neg e];have:i<k↔i<k+1:=Om;simp only[this]
theorem W1 {f:aD} {lv:Int} {k:Nat} (h:lvl f k≠lv):fJ f lv k=fJ f lv (k+1):=by
 refine aXE (by simp[fJ]) fun i c d=>?_;simp only[fJ,aWD,List.getElem_range];by_cases e:k=i
 ·subst e; rw[if_neg Om,if_neg (fun x=>h x.2)]
 ·have:i<k↔i<k+1:=Om;simp only[this]
theorem amE {f:aD} {lv:Int} {k:Nat} (h:lvl f k=lv):eH f lv (k+1)=eH f lv k+1:=by
 unfold eH ui;rw[aXV,aYH]; simp[h]
theorem Xc {f:aD} {lv:Int} {k:Nat} (h:lvl f k≠lv):eH f lv (k+1)=eH f lv k:=by
 unfold eH ui;rw[aXV,aYH]; simp[h]
theorem atA (f:aD) (lv:Int) (k:Nat):eH f lv k≤k:=aWE List.countP_le_length (by simp)
theorem aeN {f:aD} {lv:Int} {a:Nat} (c:a<f.aTF.length) (h:lvl f a=lv):(BY f lv)[eH f lv a]?=some a:=aoX (q:=ui f lv) c (by rw[ui,decide_eq_true h])
theorem Wp (f:aD) (lv:Int) (d i:Nat):wZ f lv (d+1) i=if cU f d lv=i then wZ f lv d i++[d] else wZ f lv d i:=by
 unfold wZ;rw[aXV,List.filter_append];by_cases h:cU f d lv=i<;>simp[h]
theorem kb (f:aD) (lv:Int) (d i:Nat):(wZ f lv d i).length≤d:=aWE (List.length_filter_le ..) (by simp)
theorem awE (f:aD) (lv:Int):(BY f lv).Nodup:=List.nodup_range.filter _
theorem aBY {f:aD} {lv:Int} {d:Nat} (E:cU f d lv<f.aTF.length) (h:lvl f (cU f d lv)=lv) {ps:WPs} (u:wls ps=oS f lv d) {v:PV} {w:List Int} (hi:ps[eH f lv (cU f d lv)]?=some (v,w)) (v':PV) :
  w.length≤d∧wls (ps.set (eH f lv (cU f d lv)) (v',w++[(d:Int)]))=oS f lv (d+1):=by
 have l:=aeN E h;have x:w=cH (wZ f lv d (cU f d lv)):=by
  have c:(wls ps)[eH f lv (cU f d lv)]?=some w:=by unfold wls; rw[aVN,hi]; rfl
  rw[u,oS,aVN,l] at c;injection c with c
  exact c.symm
 refine⟨by rw[x]; unfold cH; rw[aUN]; exact kb ..,?_⟩;have p:wls (ps.set (eH f lv (cU f d lv)) (v',w++[(d:Int)]))=(oS f lv d).set (eH f lv (cU f d lv)) (w++[(d:Int)]):=by rw[← u];unfold wls;rw[List.map_set]
 rw[p,x];unfold oS;refine aXE (by simp) fun i c p=>?_;have il:i<(BY f lv).length:=by simpa using p
 rw[List.getElem_set];simp only[aWD];rw[Wp];obtain⟨F,y⟩:=aVW.1 l;by_cases e:eH f lv (cU f d lv)=i
 ·subst e;rw[if_pos rfl,y,if_pos rfl];unfold cH;rw[aVT]; rfl
 ·rw[if_neg e,if_neg];intro A;have B:(BY f lv)[eH f lv (cU f d lv)]=(BY f lv)[i]:=y.trans A;exact e ((List.getElem_inj (awE f lv)).1 B)
def CV (n:Nat):List (List PV):=(aUO n).map fun (d:Nat)=>[ints [(d:Int)]]
theorem arR (n:Nat):(CV n).length=n:=by unfold CV; simp
theorem alJ (n:Nat):CV (n+1)=CV n++[[ints [(n:Int)]]]:=by unfold CV; rw[aXV,aVT]; rfl
theorem atB (f:aD):lay (iR f 5)=.sl 1 (CV f.aTC.length):=by
 rw[Es];unfold CV;show PV.sl 1 (List.map _ (List.map _ _))=_;rw[List.map_map];rfl
theorem Xb (f:aD) (lv:Int):oS f lv 0=aUR (eH f lv f.aTF.length) []:=by
 unfold oS eH;rw[List.countP_eq_length_filter];refine aXE (by simp[BY]) fun i c d=>?_;simp[wZ,cH]
theorem pt (f:aD) (lv:Int) (d:Nat):(oS f lv d).length=(BY f lv).length:=by unfold oS; simp
def unB (f:aD) (lv:Int) (c:Nat) (d:PV) (k:Nat):PF:=(((((((PF.nil.set 1 (.int .i64 lv)).set 2 (.bL f.cells)).set 5 (d)).set 7 (.osl c 1 0 f.aTF.length)).set 33 (.sl 7 (f.aTF.map cF.cells))).set 34 (.int .i64 (f.aTF.length:Nat))).set 35 (.int .i64 k))
def unC (f:aD) (lv:Int) (c:Nat) (e:PV) (d:Nat):PF:=(((((((PF.nil.set 1 (.int .i64 lv)).set 2 (.bL f.cells)).set 5 (e)).set 7 (.osl c 1 0 f.aTF.length)).set 54 (.sl 3 (f.aTC.map dL.cells))).set 55 (.int .i64 (f.aTC.length:Nat))).set 56 (.int .i64 d))
def unE (f:aD) (lv:Int) (c:Nat) (e:PV) (d at_:Nat):PF:=(((((((((PF.nil.set 1 (.int .i64 lv)).set 2 (.bL f.cells)).set 5 (e)).set 7 (.osl c 1 0 f.aTF.length)).set 54 (.sl 3 (f.aTC.map dL.cells))).set 55 (.int .i64 (f.aTC.length:Nat))).set 56 (.int .i64 d)).set 10 (.int .i64 d)).set 12 (.int .i64 at_))
theorem aoI {C:Ctx} {K:bR} [Up K] (f:aD) (hV:VF f) (lv:Int) (N:1≤lv) (O:lv≤4) (y:Nat) (B:PV) (d:Nat) (M:d<f.aTC.length) {F:PF} {H:PH}
  (J:(unE f lv y B d (cQ f d)).le F) (E:K (.exit 6) (unE f lv y B d (cU f d lv)) H):aC.wp C (.loop xS) K F H:=by
 refine wp_loop (α:=Nat) (fun j=>unE f lv y B d (upN f j (cQ f d))) (fun _=>H) (fun j=>(j:Int)≤4-lv) (fun j=>4-j) 0 Om (by rw[upN]; exact J) b_ ?_;intro j Q;obtain⟨l,A⟩:=xH hV M (k:=j) Om;have p:((upN f j (cQ f d):Nat):Int)<(f.aTF.length:Nat):=Om;by_cases c:(j:Int)<4-lv
 ·have i:4-(j:Int)>lv:=Om;have w:0<upN f j (cQ f d):=by
   rcases aWZ (upN f j (cQ f d)) with e | e
   ·rw[e,hV.root.2.1] at A; omega
   ·exact e
  have x:upN f (j+1) (cQ f d)=MS f (upN f j (cQ f d)):=rfl;have u:=hV.WS w l;simp only[go_sem,xS,IU,unE,p,gE l,HN l,A,i,jd,TV l,u];exact aG (j+1) Om Om (by (repeat' (first|exact d_|refine c_ ?_ ?_))<;>first|(simp only[go_sem,x]<;>rfl)|rfl) b_
 ·have i:¬ 4-(j:Int)>lv:=Om;have e:cU f d lv=upN f j (cQ f d):=by rw[cU,show 4-lv.toNat=j by omega]
  rw[e] at E;simp only[go_sem,xS,IU,unE,p,gE l,HN l,A,i];refine Up.up ?_ E;unfold unE;exact Lq
theorem aoG {C:Ctx} (f:aD) (hV:VF f) (lv:Int) (h1:1≤lv) (h5:lv≤5) :
  EA.wp C (aU Jr.res (bX (lay (iR f lv)))) (PF.args [.agg f.cells,.int .i64 lv]) .nil:=by
 have Z:=hV.small;have hd:=Z.aTC;have μ:=Z.aTF;simp only[go_sem,EA,yc,yd,ye,Jr];by_cases c5:lv=5
 ·subst c5;rw[atB];simp only[go_sem,bP (show (5:Int)=5 from rfl),yf,aUN];refine wp_loop (α:=Nat × PV × PH) (fun s=>(((PF.nil.set 5 (s.2.1)).set 17 (.int .i64 (f.aTC.length:Nat))).set 18 (.int .i64 s.1))) (fun s=>s.2.2) (fun s=>s.1≤f.aTC.length∧bE s.2.2 1 s.2.1 (CV s.1)) (fun s=>f.aTC.length-s.1) (0,.aB,.nil) ⟨aUT _,.nil⟩ Lq b_ ?_;rintro⟨k,v,H⟩ ⟨hk,hO⟩;simp only at hk hO;simp only[go_sem,yb,yg];by_cases hlt:k<f.aTC.length
  ·have e:(k:Int)<(f.aTC.length:Nat):=Om;simp only[go_sem,e,yh,yi];refine iD (src:=[[ints [(k:Int)]]]) hO (by simp only[go_sem]; rfl) (by unfold roomFor; rw[arR]; simp only[aUX,maxLen]; omega) fun v' H' V _=>?_;rw[← alJ] at V;simp only[go_sem,yj,wZz k];exact aG (k+1,v',H') ⟨hlt,V⟩ (by simp only; omega) Lq b_
  ·have e:¬ (k:Int)<(f.aTC.length:Nat):=Om;have:k=f.aTC.length:=Om;subst this;simp only[go_sem,e,yk];exact qX (.inr rfl) hO Sq
 have h4:lv≤4:=Om;rw[Uk f c5];have δ:(f.aTF.length:Int)*((8:Nat):Int)≤140737488355328:=Om;have ε:(f.aTF.length:Int)≤9223372036854775807:=Om;have ζ:(0:Int)≤(f.aTF.length:Int):=Om;simp only[go_sem,bG c5,iz,aUN,δ,ε,ζ,Int.le_refl,aWK];refine aO fun A hP=>?_;have ez:aUR f.aTF.length [PV.int .i64 0]=aW (fJ f lv 0):=by rw[W2,oV]
 rw[ez];have U:aM (PH.nil.set A (.rows 1 (aW (fJ f lv 0)))) [(A,.rows 1 (aW (fJ f lv 0)))] (fL .aB []):=((aM.nil (H:=PH.nil)).new hP _).WR;simp only[go_sem,i0,aUN];refine wp_loop (α:=Nat × PV × WPs × PH) (fun s=>unB f lv A s.2.1 s.1) (fun s=>s.2.2.2) (fun s=>s.1≤f.aTF.length∧wls s.2.2.1=aUR (eH f lv s.1) []∧aM s.2.2.2 [(A,.rows 1 (aW (fJ f lv s.1)))] (fL s.2.1 s.2.2.1)) (fun s=>f.aTF.length-s.1) (0,.aB,[],_) ⟨aUT _,rfl,U⟩ (by unfold unB; exact Lq) b_ ?_;clear U ez hP;rintro⟨i,vo,ps,H⟩ ⟨hi,l,p⟩;simp only at hi l p;simp only[go_sem,ix,i4,unB];by_cases hlt:i<f.aTF.length
 ·have e:(i:Int)<(f.aTF.length:Nat):=Om;have ι:ps.length=eH f lv i:=by have:=congrArg List.length l;rw[IC,List.length_replicate] at this;exact this
  have Q:=atA f lv i;simp only[go_sem,e,i5,gE hlt];refine aO fun q R=>?_;have E:=p.at 0 rfl;have n1:¬ A=q:=by rintro rfl; rw[E] at R; cases R
  have M:=fun x=>p.new R x;simp only[go_sem,i6,HN hlt];by_cases c:lvl f i=lv
  ·have X:=p.aHC;have B:=By (f:=f) (lv:=lv) (k:=i) hlt;have y:(aW (fJ f lv i))[i]?=some [.int .i64 (if i<i∧lvl f i=lv then ((eH f lv i:Nat):Int) else 0)]:=by unfold aW; rw[aVN,B]; rfl
   have θ:i<(aW (fJ f lv i)).length:=by rw[cV,alB]; exact hlt
   have S:(aW (fJ f lv i)).set i [.int .i64 (ps.length:Nat)]=aW (fJ f lv (i+1)):=by rw[mU,ι,alA c]
   have h3:=fun x=>(M x).set 0 rfl (.rows 1 (aW (fJ f lv (i+1))));simp only[go_sem,bP c,i7,X,e,n1,E,y,θ,aVH,S,i8];refine (h3 _).aGR Sq (by unfold roomFor; simp only[maxLen]; omega) fun q2 H2 h4=>?_;simp only[go_sem,IT,wZz i];refine aG (i+1,PV.osl q2 1 0 (ps.length+1),ps++[(PV.aB,[])],H2) ⟨hlt,?_,h4.tO 1⟩ (by simp only; omega) Lq b_;simp only;rw[amE c,List.replicate_succ'];unfold wls at l ⊢;rw[aVT,l]; rfl
  ·have S:fJ f lv i=fJ f lv (i+1):=W1 c;simp only[go_sem,bG c,IT,wZz i];refine aG (i+1,vo,ps,_) ⟨hlt,?_,?_⟩ (by simp only; omega) Lq b_
   ·simp only; rw[Xc c]; exact l
   ·simp only; rw[← S]; exact (M _).tO 1
 have e:¬ (i:Int)<(f.aTF.length:Nat):=Om;have:i=f.aTF.length:=Om;subst this;rw[← Xb] at l;simp only[go_sem,e,i9,aUN];refine wp_loop (α:=Nat × PV × WPs × PH) (fun s=>unC f lv A s.2.1 s.1) (fun s=>s.2.2.2) (fun s=>s.1≤f.aTC.length∧wls s.2.2.1=oS f lv s.1∧aM s.2.2.2 [(A,.rows 1 (aW (fJ f lv f.aTF.length)))] (fL s.2.1 s.2.2.1)) (fun s=>f.aTC.length-s.1) (0,vo,ps,H) ⟨aUT _,l,p⟩ (by unfold unC; exact Lq) b_ ?_;clear l p hi hlt e;rintro⟨d,vo,ps,H⟩ ⟨η,l,p⟩;simp only at η l p;simp only[go_sem,iy,ja,unC];by_cases hlt:d<f.aTC.length
 ·have e:(d:Int)<(f.aTC.length:Nat):=Om;simp only[go_sem,e,jb,mR hlt];refine aO fun q R=>?_;have E:=p.at 0 rfl;have n1:¬ A=q:=by rintro rfl; rw[E] at R; cases R
  have M:=fun x=>(p.new R x).tO 1;simp only[go_sem,jc,hV.WN hlt];generalize hx:cB.rows 3 _=x;have M:=M x;have N:=M.at 0 rfl;generalize H.set q x=H1 at *
  have up:=fun {K:bR} [Up K] {F:PF} {H:PH}=>aoI (C:=C) (K:=K) f hV lv h1 h4 A vo d hlt (F:=F) (H:=H);refine up (by unfold unE; exact Lq) ?_;obtain⟨a1,a2⟩:=xH hV hlt (k:=4-lv.toNat) Om;have a3:lvl f (cU f d lv)=lv:=by rw[cU,a2]; omega
  have a1:cU f d lv<f.aTF.length:=a1;have γ:((cU f d lv:Nat):Int)<(f.aTF.length:Nat):=Om;have B:=By (f:=f) (lv:=lv) (k:=f.aTF.length) a1;rw[if_pos ⟨a1,a3⟩] at B;have y:(aW (fJ f lv f.aTF.length))[cU f d lv]?=some [.int .i64 (eH f lv (cU f d lv):Nat)]:=by unfold aW; rw[aVN,B]; rfl
  have J:eH f lv (cU f d lv)<ps.length:=by have:=(aVW.1 (aeN a1 a3)).1;rw[← IC,l,pt];exact this
  have O:=fun v'=>aBY (ps:=ps) a1 a3 l (aVB J) v';have Q:ps[eH f lv (cU f d lv)]?=some (ps[eH f lv (cU f d lv)].1,ps[eH f lv (cU f d lv)].2):=by rw[aVB J]
  have ν:ps[eH f lv (cU f d lv)]=(ps[eH f lv (cU f d lv)].1,ps[eH f lv (cU f d lv)].2):=rfl;obtain⟨qo,rs,rfl,b1,b2,b3⟩:=M.aKM J;generalize ps[eH f lv (cU f d lv)].2=w at *
  generalize ps[eH f lv (cU f d lv)].1=v at *
  generalize eH f lv (cU f d lv)=u at *
  have β:(u:Int)<(ps.length:Nat):=Om;have ξ:=(O .aB).1;simp only[go_sem,unE];refine bS (PH.nil.set A (.rows 1 (aW (fJ f lv f.aTF.length)))) dT (e_ a_ N) ?_;simp only[go_sem,je,γ,N,y,aVH,β,b1,b2,b3];refine M.aNT (src:=[(d:Int)]) Q (by simp only[go_sem]; rfl) (by unfold roomFor; simp only[aUX,maxLen]; omega) (by simp) fun q2 H2 h5=>?_;have Y:=h5.at 0 rfl;refine⟨e_ a_ Y,?_⟩;obtain⟨rs2,e1,e2,e3,h6⟩:=h5.aLE;have κ:u<rs2.length:=Om;have W:rs2[u]?=some [v]:=by have:=Q9 Q;rw[← e3,List.getElem?_take_of_lt J] at this;exact this
  refine bS .nil dT a_ ?_;simp only[go_sem,jf,e1,κ,W,jg,wZz d];refine⟨a_,?_⟩;refine aG (d+1,PV.osl qo 1 0 ps.length,ps.set u (PV.osl q2 1 0 (w++[(d:Int)]).length,w++[(d:Int)]),H2.set qo (.rows 1 (rs2.set u [.osl q2 1 0 (w++[(d:Int)]).length]))) ⟨hlt,(O _).2,h6⟩ (by simp only; omega) Lq (by simp only; exact b_)
 ·have e:¬ (d:Int)<(f.aTC.length:Nat):=Om;have:d=f.aTC.length:=Om;subst this;simp only[go_sem,e,jh];rw[← l];exact n6 (.inr rfl) Sq (p.tO 0)
def Ji:List aS:=[
 ⟨(some 2),.box true (.tmp 0),none⟩,
 ⟨(some 3),.box true (.tmp 1),none⟩,
 ⟨(some 4),.mv (.const .aB),none⟩]
def Jj:List aS:=[
 ⟨(some 5),.alloc [.aB],none⟩]
def Jk:List aS:=[
 ⟨(some 7),.aUF 1 (.tmp 3),none⟩,
 ⟨(some 8),.load none (.tmp 7),none⟩,
 ⟨(some 9),.aUF 2 (.tmp 3),none⟩,
 ⟨(some 10),.load none (.tmp 9),none⟩,
 ⟨(some 11),.bin .add (.tmp 8) (.tmp 10),none⟩,
 ⟨(some 12),.aUF 4 (.tmp 2),none⟩,
 ⟨(some 13),.load none (.tmp 12),none⟩,
 ⟨(some 14),.len (.tmp 13),none⟩,
 ⟨(some 15),.call 210 [(.tmp 11),(.tmp 14)],none⟩]
def Jl:List aS:=[
 ⟨(some 6),.mv (.tmp 16),none⟩]
def Jm:List aS:=[
 ⟨(some 17),.load (some 7) (.tmp 2),none⟩,
 ⟨(some 18),.load (some 17) (.tmp 3),none⟩,
 ⟨(some 19),.mv (.tmp 6),none⟩,
 ⟨(some 20),.call 201 [(.tmp 17),(.tmp 18),(.tmp 19)],none⟩]
def Jn:List aS:=[
 ⟨(some 21),.load none (.tmp 5),none⟩,
 ⟨(some 22),.mv (.tmp 6),none⟩,
 ⟨(some 23),.aTI true 1 1 [.aB] [(0,(.tmp 22))],none⟩,
 ⟨(some 24),.append 1 24 (.tmp 21) (.tmp 23),none⟩,
 ⟨none,.store 1 (.tmp 5) (.tmp 24),none⟩]
def Jo:List aS:=[
 ⟨(some 25),.load none (.tmp 5),none⟩,
 ⟨(some 4),.mv (.tmp 25),none⟩]
def x9:aC:=(.region Jl)
def ya:aC:=(.block 1 (.seq (.region Jm) (.cond (.tmp 20) (.region Jn) .skip)))
def iw:aC:=(.seq (.region Jo) .ret)
def IR (c d:Code):qD:=(.seq (.region Ji) (.seq (.region Jj) (.seq (.region Jk) (.range (.tmp 15) 26 16 c d x9 ya iw))))
def avW:List Nat:=[2,3,23]
def ahX (c d:Code):zZ:=⟨2,26,IR c d,[.tmp 4]⟩
def Ja:List aS:=[
 ⟨(some 2),.box true (.tmp 0),none⟩,
 ⟨(some 3),.box true (.tmp 1),none⟩,
 ⟨(some 4),.mv (.const .aB),none⟩,
 ⟨(some 5),.mv (.const (.int .i64 0)),none⟩]
def Jb:List aS:=[
 ⟨(some 17),.load (some 7) (.tmp 2),none⟩,
 ⟨(some 18),.call 96 [(.tmp 17)],none⟩,
 ⟨(some 19),.bin .neq (.tmp 18) (.const (.int .i64 0)),none⟩,
 ⟨(some 20),.mv (.tmp 19),none⟩,
 ⟨(some 21),.aUF 0 (.tmp 3),(some (20,false))⟩,
 ⟨(some 22),.load none (.tmp 21),(some (20,false))⟩,
 ⟨(some 23),.bin .lss (.tmp 22) (.const (.int .i64 1)),(some (20,false))⟩,
 ⟨(some 24),.pick (.tmp 20) (.const (.bool true)) (.tmp 23),none⟩,
 ⟨(some 25),.mv (.tmp 24),none⟩,
 ⟨(some 26),.aUF 0 (.tmp 3),(some (25,false))⟩,
 ⟨(some 27),.load none (.tmp 26),(some (25,false))⟩,
 ⟨(some 28),.bin .gtr (.tmp 27) (.const (.int .i64 5)),(some (25,false))⟩,
 ⟨(some 29),.pick (.tmp 25) (.const (.bool true)) (.tmp 28),none⟩,
 ⟨(some 30),.mv (.tmp 29),none⟩,
 ⟨(some 31),.aUF 1 (.tmp 3),(some (30,false))⟩,
 ⟨(some 32),.load none (.tmp 31),(some (30,false))⟩,
 ⟨(some 33),.bin .lss (.tmp 32) (.const (.int .i64 1)),(some (30,false))⟩,
 ⟨(some 34),.pick (.tmp 30) (.const (.bool true)) (.tmp 33),none⟩,
 ⟨(some 35),.mv (.tmp 34),none⟩,
 ⟨(some 36),.aUF 1 (.tmp 3),(some (35,false))⟩,
 ⟨(some 37),.load none (.tmp 36),(some (35,false))⟩,
 ⟨(some 38),.bin .gtr (.tmp 37) (.const (.int .i64 3)),(some (35,false))⟩,
 ⟨(some 39),.pick (.tmp 35) (.const (.bool true)) (.tmp 38),none⟩]
def uX:List aS:=[
 ⟨(some 4),.mv (.const .aB),none⟩,
 ⟨(some 5),.mv (.const (.int .i64 1)),none⟩]
def Jc:List aS:=[
 ⟨(some 40),.load (some 7) (.tmp 2),none⟩,
 ⟨(some 41),.aUF 0 (.tmp 3),none⟩,
 ⟨(some 42),.load none (.tmp 41),none⟩,
 ⟨(some 43),.call 206 [(.tmp 40),(.tmp 42)],none⟩,
 ⟨(some 6),.alloc [.aB],none⟩,
 ⟨none,.store 1 (.tmp 6) (.tmp 43),none⟩]
def Jd:List aS:=[
 ⟨(some 44),.aUF 4 (.tmp 2),none⟩,
 ⟨(some 45),.load none (.tmp 44),none⟩,
 ⟨(some 46),.len (.tmp 45),none⟩,
 ⟨(some 47),.bin .gtr (.tmp 46) (.const (.int .i64 12)),none⟩,
 ⟨(some 48),.mv (.tmp 47),none⟩,
 ⟨(some 49),.load none (.tmp 6),(some (48,false))⟩,
 ⟨(some 50),.len (.tmp 49),(some (48,false))⟩,
 ⟨(some 51),.aUF 1 (.tmp 3),(some (48,false))⟩,
 ⟨(some 52),.load none (.tmp 51),(some (48,false))⟩,
 ⟨(some 53),.call 207 [(.tmp 50),(.tmp 52)],(some (48,false))⟩,
 ⟨(some 54),.bin .gtr (.tmp 53) (.const (.int .i64 512)),(some (48,false))⟩,
 ⟨(some 55),.pick (.tmp 48) (.const (.bool true)) (.tmp 54),none⟩]
def aj:List aS:=[
 ⟨(some 4),.mv (.const .aB),none⟩,
 ⟨(some 5),.mv (.const (.int .i64 2)),none⟩]
def Je:List aS:=[
 ⟨(some 7),.alloc [.aB],none⟩]
def Jf:List aS:=[
 ⟨(some 56),.aUF 1 (.tmp 3),none⟩,
 ⟨(some 57),.load none (.tmp 56),none⟩,
 ⟨(some 58),.load none (.tmp 6),none⟩,
 ⟨(some 59),.len (.tmp 58),none⟩,
 ⟨(some 60),.call 210 [(.tmp 57),(.tmp 59)],none⟩]
def Jg:List aS:=[
 ⟨(some 8),.mv (.tmp 61),none⟩]
def Jh:List aS:=[
 ⟨(some 62),.aUF 4 (.tmp 2),none⟩,
 ⟨(some 63),.load none (.tmp 62),none⟩,
 ⟨(some 64),.len (.tmp 63),none⟩,
 ⟨(some 65),.aTK 1 1 [(.bool false)] (.tmp 64) (.tmp 64),none⟩,
 ⟨(some 9),.mv (.tmp 65),none⟩]
def xt:List aS:=[
 ⟨(some 66),.mv (.tmp 8),none⟩,
 ⟨(some 67),.len (.tmp 66),none⟩,
 ⟨(some 68),.mv (.const (.int .i64 0)),none⟩]
def xu:List aS:=[
 ⟨(some 69),.bin .lss (.tmp 68) (.tmp 67),none⟩]
def xv:List aS:=[
 ⟨(some 70),.aTT 1 (.tmp 66) (.tmp 68),none⟩,
 ⟨(some 71),.load none (.tmp 70),none⟩,
 ⟨(some 11),.mv (.tmp 71),none⟩]
def xw:List aS:=[
 ⟨(some 72),.load none (.tmp 6),none⟩,
 ⟨(some 73),.mv (.tmp 11),none⟩,
 ⟨(some 74),.aTT 1 (.tmp 72) (.tmp 73),none⟩,
 ⟨(some 75),.load none (.tmp 74),none⟩,
 ⟨(some 76),.len (.tmp 75),none⟩,
 ⟨(some 77),.mv (.const (.int .i64 0)),none⟩]
def xx:List aS:=[
 ⟨(some 78),.bin .lss (.tmp 77) (.tmp 76),none⟩]
def xy:List aS:=[
 ⟨(some 79),.aTT 1 (.tmp 75) (.tmp 77),none⟩,
 ⟨(some 80),.load none (.tmp 79),none⟩,
 ⟨(some 13),.mv (.tmp 80),none⟩]
def xz:List aS:=[
 ⟨(some 81),.mv (.tmp 9),none⟩,
 ⟨(some 82),.mv (.tmp 13),none⟩,
 ⟨(some 83),.aTT 1 (.tmp 81) (.tmp 82),none⟩,
 ⟨none,.store 1 (.tmp 83) (.const (.bool true)),none⟩]
def x2:List aS:=[
 ⟨(some 84),.bin .add (.tmp 77) (.const (.int .i64 1)),none⟩,
 ⟨(some 77),.mv (.tmp 84),none⟩]
def RD:aC:=(.seq (.region xx) (.seq (.cond (.tmp 78) .skip (.exit 4)) (.seq (.block 5 (.seq (.region xy) (.region xz))) (.region x2))))
def x3:List aS:=[
 ⟨(some 85),.bin .add (.tmp 68) (.const (.int .i64 1)),none⟩,
 ⟨(some 68),.mv (.tmp 85),none⟩]
def RE:aC:=(.seq (.region xu) (.seq (.cond (.tmp 69) .skip (.exit 2)) (.seq (.block 3 (.seq (.region xv) (.seq (.region xw) (.block 4 (.loop RD))))) (.region x3))))
def x4:List aS:=[
 ⟨(some 14),.mv (.const .aB),none⟩]
def x5:List aS:=[
 ⟨(some 86),.mv (.tmp 9),none⟩,
 ⟨(some 87),.len (.tmp 86),none⟩,
 ⟨(some 88),.mv (.const (.int .i64 0)),none⟩]
def x6:List aS:=[
 ⟨(some 89),.bin .lss (.tmp 88) (.tmp 87),none⟩]
def RH:List aS:=[
 ⟨(some 90),.mv (.tmp 88),none⟩,
 ⟨(some 91),.aTT 1 (.tmp 86) (.tmp 88),none⟩,
 ⟨(some 92),.load none (.tmp 91),none⟩,
 ⟨(some 15),.mv (.tmp 90),none⟩,
 ⟨(some 16),.mv (.tmp 92),none⟩]
def RI:List aS:=[
 ⟨(some 93),.mv (.tmp 16),none⟩]
def x7:List aS:=[
 ⟨(some 94),.mv (.tmp 14),none⟩,
 ⟨(some 95),.mv (.tmp 15),none⟩,
 ⟨(some 96),.aTI true 1 1 [(.int .i64 0)] [(0,(.tmp 95))],none⟩,
 ⟨(some 97),.append 1 8 (.tmp 94) (.tmp 96),none⟩,
 ⟨(some 14),.mv (.tmp 97),none⟩]
def RJ:List aS:=[
 ⟨(some 98),.bin .add (.tmp 88) (.const (.int .i64 1)),none⟩,
 ⟨(some 88),.mv (.tmp 98),none⟩]
def RG:aC:=(.seq (.region x6) (.seq (.cond (.tmp 89) .skip (.exit 6)) (.seq (.block 7 (.seq (.region RH) (.seq (.region RI) (.cond (.tmp 93) (.region x7) .skip)))) (.region RJ))))
def RK:List aS:=[
 ⟨(some 99),.load none (.tmp 7),none⟩,
 ⟨(some 100),.mv (.tmp 14),none⟩,
 ⟨(some 101),.aTI true 1 1 [.aB] [(0,(.tmp 100))],none⟩,
 ⟨(some 102),.append 1 24 (.tmp 99) (.tmp 101),none⟩,
 ⟨none,.store 1 (.tmp 7) (.tmp 102),none⟩]
def x8:List aS:=[
 ⟨(some 103),.load none (.tmp 7),none⟩,
 ⟨(some 4),.mv (.tmp 103),none⟩,
 ⟨(some 5),.mv (.const (.int .i64 0)),none⟩]
def RB:aC:=(.region Jg)
def RC:aC:=(.block 1 (.seq (.region Jh) (.seq (.seq (.region xt) (.block 2 (.loop RE))) (.seq (.region x4) (.seq (.seq (.region x5) (.block 6 (.loop RG))) (.region RK))))))
def iv:aC:=(.seq (.region x8) .ret)
def IQ (c d:Code):qD:=(.seq (.region Ja) (.seq (.seq (.region Jb) (.cond (.tmp 39) (.seq (.region uX) .ret) .skip)) (.seq (.region Jc) (.seq (.seq (.region Jd) (.cond (.tmp 55) (.seq (.region aj) .ret) .skip)) (.seq (.region Je) (.seq (.region Jf) (.range (.tmp 60) 104 61 c d RB RC iv)))))))
def avU:List Nat:=[2,3,96,101]
def ahW (c d:Code):zZ:=⟨2,104,IQ c d,[.tmp 4,.tmp 5]⟩
theorem zw {C:Ctx} {H:PH} {name:Nat} {pre:List PV} {v u:PV} {l:List Int} (w:Plain u) (p:∀ x∈pre,Fx x) (i:bE H 1 v (aW l)) (c:l≠[]) (h:aH C name (pre++[ints l]) .nil (aI u)) :
  ∃ q,v=.osl q 1 0 l.length∧(∃ x,H q=some x)∧aH C name (pre++[v]) (H.only [q]) (fun r H'=>r=u∧H'=H.only [q]):=by
 rcases i with ⟨d,-⟩ | ⟨q,rs,rfl,h1,h2,h3⟩
 ·exact absurd (List.map_eq_nil_iff.1 d) c
 ·rw[cV] at h2 h3 ⊢;refine⟨q,rfl,⟨_,h1⟩,?_⟩;rw[dr h1];refine aH.ayF w ?_;have e:pre.map (PV.frz q 1 rs)=pre:=by
   conv=>rhs; rw[← List.map_id pre]
   exact aYJ fun x y=>p x y q 1 rs
  rw[aVT,e,aVZ,aWS,vD h2,h3];exact h
theorem uk {α:Type} (L:List α) (x:α) (n:Nat) (h:L.length=n):(L++[x])[n]?=some x:=by
 subst h; simp
structure aJT (f:aD) (now:List (List Int)) (r:Int) (d:Nat) (ps:WPs):Prop where
 eq:wls ps=qh f now r d
 num:ps.length≤d
 len:∀ i (h:i<ps.length),1≤(ps[i].2).length∧(ps[i].2).length≤d
theorem aJT.of {f:aD} {c:List (List Int)} {r:Int} (u:anQ f c r=true) {d:Nat} (y:d≤f.aTC.length) {ps:WPs} (h:wls ps=qh f c r d):aJT f c r d ps:=by
 have k:=Fp u d y;rw[← h] at k;have e:∀ i (h:i<ps.length),ps[i].2∈wls ps:=fun i hi=>aVQ.2 ⟨ps[i],aUQ hi,rfl⟩;have ne:∀ l∈wls ps,1≤l.length:=fun l A=>by
  have:=k.ok l A;unfold VQ at this;cases l with
  | nil=>cases this
  | cons x xs=>rw[aWH]; omega
 refine⟨h,?_,fun i hi=>⟨ne _ (e i hi),?_⟩⟩
 ·have p:(wls ps).length≤(wls ps).flatten.length:=by
   generalize wls ps=w at ne
   induction w with
   | nil=>exact aUU _
   | cons l w E =>have:=E fun x B=>ne x (List.mem_cons_of_mem _ B);have:=ne l (by simp);rw[List.flatten_cons,aUS,aWH];omega
  rw[IC,k.len] at p;exact p
 ·have:=(List.sublist_flatten_of_mem (e i hi)).length_le;rw[k.len] at this;exact this
def aJS (n top:Int) (r:PV) (H':PH):Prop:=∃ o1 o2,o1≠o2∧r=.fn 211 [.ptr o1 1 0 0,.ptr o2 1 0 0]∧H'=(PH.nil.set o1 (.rows 1 [[.int .i64 n]])).set o2 (.rows 1 [[.int .i64 top]])
theorem avX {C:Ctx} (n top:Int):IS.wp C (aU ahY.res (aJS n top)) (PF.args [.int .i64 n,.int .i64 top]) .nil:=by
 simp only[go_sem,IS,Jp,ahY];refine aO fun o1 e=>?_;simp only[go_sem];refine aO fun o2 c=>?_;have d:o1≠o2:=by rintro rfl; simp only[cO] at c; cases c
 simp only[go_sem,Jq];exact aX (.inr rfl) _ (vs:=[.fn 211 [.ptr o1 1 0 0,.ptr o2 1 0 0]]) Sq b_ ⟨o1,o2,d,rfl,rfl⟩
structure ge (C:Ctx):Prop extends agQ C where
 subs:∀ n top:Int,aH C 210 [.int .i64 n,.int .i64 top] .nil (aJS n top)
 iter:∀ (l o1 o2 n top:Nat) (J:Nat→PH→Prop) (ss:List (List Nat)),ss=dP top n 0→1≤n→n≤1000→top≤1000 →
  (∀ k (hk:k<ss.length) G c,J k G→G c=none→HE C l [.osl c 1 0 n] (G.set c (.rows 1 (aW (cH ss[k])))) (fun r H'=>r=.bool true∧J (k+1) H')) →
  ∀ G0 H:PH,J 0 G0→G0.le H→H o1=some (.rows 1 [[.int .i64 n]])→H o2=some (.rows 1 [[.int .i64 top]])→G0 o1=none→G0 o2=none→aH C 211 [xM l,.ptr o1 1 0 0,.ptr o2 1 0 0] H (fun _ H'=>∃ G,J ss.length G∧G.le H')
theorem kd {C:Ctx} (Lb:ge C) {F:PF} {H:PH} {n m t o1 o2 top:Nat} {d i:Code} {Q R:aC} {B:List (List Nat)} (Y:B=dP top n 0) (h1:1≤n) (hn:n≤1000) (ht:top≤1000) (α:o1≠o2)
  (I:Nat→PH→Prop) (w:PH) (hI:I 0 w) (O:w.le H) (b1:H o1=some (.rows 1 [[.int .i64 n]])) (b2:H o2=some (.rows 1 [[.int .i64 top]])) (g1:w o1=none) (g2:w o2=none)
  (hY:∀ (l:Nat) (x:PV) (J:PH) (Z:PH→Prop),J l=none→Q.wp C (gD C (R.wp C) (CA Z)) (F.set t x) J→HE C l [x] (J.set l (.loop F m t d i)) (fun r H'=>r=.bool true∧∃ H2,Z H2∧H2 l=none∧H'=H2.set l (.loop F m t d i)))
  (hb:∀ k (hk:k<B.length) G c,I k G→G c=none→Q.wp C (gD C (R.wp C) (CA (I (k+1)))) (F.set t (.osl c 1 0 n)) (G.set c (.rows 1 (aW (cH B[k]))))) :
  Ht C 211 [.ptr o1 1 0 0,.ptr o2 1 0 0] F H m t d i (I B.length):=by
 intro l S;have K:w l=none:=by
  cases h:w l with
  | none=>rfl
  | some x=>rw[O l x h] at S; cases S
 have n1:¬ o1=l:=fun e=>by rw[e,S] at b1; cases b1
 have n2:¬ o2=l:=fun e=>by rw[e,S] at b2; cases b2
 refine (Lb.iter l o1 o2 n top (fun k G=>∃ p,I k p∧p l=none∧G=p.set l (.loop F m t d i)) B Y h1 hn ht ?_ (w.set l (.loop F m t d i)) (H.set l (.loop F m t d i)) ⟨w,hI,K,rfl⟩ ?_ ?_ ?_ ?_ ?_).post ?_
 ·rintro k hk G c ⟨p,E,u,rfl⟩ V;have M:¬ c=l:=fun e=>by rw[e,cO] at V; cases V
  have N:¬ l=c:=fun e=>M e.symm;have W:p c=none:=by rwa [aN,if_neg M] at V
  have:=hY l (.osl c 1 0 n) (p.set c (.rows 1 (aW (cH B[k])))) (I (k+1)) (by rw[aN,if_neg N]; exact u) (hb k hk p c E W);have e:(p.set c (.rows 1 (aW (cH B[k])))).set l (.loop F m t d i)=(p.set l (.loop F m t d i)).set c (.rows 1 (aW (cH B[k]))):=by
   refine PH.ext fun o=>?_;simp only[aN];by_cases U:o=l
   ·subst U; rw[if_pos rfl,if_neg N,if_pos rfl]
   ·rw[if_neg U,if_neg U]
  rw[e] at this;exact this
 ·intro o x A;rw[aN] at A ⊢;split at A
  ·rename_i e; rw[if_pos e]; exact A
  ·rename_i e; rw[if_neg e]; exact O o x A
 ·rw[aN,if_neg n1]; exact b1
 ·rw[aN,if_neg n2]; exact b2
 ·rw[aN,if_neg n1]; exact g1
 ·rw[aN,if_neg n2]; exact g2
 ·rintro r H' ⟨G,⟨p,E,u,rfl⟩,y⟩;have X:H' l=some (.loop F m t d i):=y l _ (by rw[cO]);exact⟨r,.refl _,p,E,(fun o x A=>y o x (by
   have:¬ o=l:=fun e=>by rw[e,u] at A; cases A
   rw[aN,if_neg this]; exact A)),u,X⟩
def aDK (d:Nat) (e:List (List Int)) (G:PH):Prop:=∃ c ps,aM G [(d,.rows 1 [[c]])] (fL c ps)∧wls ps=e
theorem avV {C:Ctx} (Lb:ge C) (J K:Code) (f:aD) (hV:VF f) (hd:f.aTC.length≤12) (p:bT) (hp:∀ m∈p.aTD,0≤m∧m<f.aTD.length) (S:Fits p.aTD) (hk:1≤p.k) (ν:p.k≤6) (hm:0≤p.m) (ξ:p.m≤4) :
  (IR J K).wp C (aU (ahX J K).res (bX (lay (uH f p)))) (PF.args [.agg f.cells,.agg p.cells]) .nil:=by
 obtain⟨n,hn⟩:∃ n:Nat,(n:Int)=pJ p:=⟨(p.k+p.m).toNat,by unfold pJ; omega⟩;have β:1≤n∧n≤10:=by unfold pJ at hn; omega
 have hw:IntKind.i64.wrap (p.k+p.m)=(n:Int):=by rw[hn]; exact wrap_i64 Om Om
 simp only[go_sem,IR,qD.wp,Ji,Jj,ahX];refine aO fun B γ=>?_;simp only[go_sem,Jk,hw,aUN];refine kI (Lb.subs n f.aTC.length) Sq a_ ?_;rintro r H' ⟨o1,o2,l,rfl,rfl⟩ R;have W:¬ B=o1:=fun e=>by have:=R o1 _ (by rw[aN,if_neg l,cO]) rfl;rw[← e,cO] at this; cases this
 have X:¬ B=o2:=fun e=>by have:=R o2 _ (by rw[cO]) rfl;rw[← e,cO] at this; cases this
 have κ:¬ o2=o1:=fun e=>l e.symm;simp only[go_sem];generalize N:PF.set _ 15 _=F;have f2:F 2=some (.bL f.cells):=by rw[← N]; simp only[go_sem]
 have f3:F 3=some (.bL p.cells):=by rw[← N]; simp only[go_sem]
 have f5:F 5=some (.ptr B 1 0 0):=by rw[← N]; simp only[go_sem]
 have μ:F 15=some (.fn 211 [.ptr o1 1 0 0,.ptr o2 1 0 0]):=by rw[← N]; simp only[go_sem]
 clear N;have ε:dP f.aTC.length n 0=dP f.aTC.length (pJ p).toNat 0:=by rw[← hn]; rfl
 have Q:=BF f.aTC.length n 0;have hE:uH f p=((dP f.aTC.length n 0).map cH).filter (nB f p):=by rw[ε]; rfl
 refine⟨211,[.ptr o1 1 0 0,.ptr o2 1 0 0],aDK B (((((dP f.aTC.length n 0).take (dP f.aTC.length n 0).length)).map cH).filter (nB f p)),rfl,fun hY=>?_,fun H2 O=>?_⟩
 ·refine kd (m:=26) (t:=16) Lb rfl β.1 Om Om l (fun k=>aDK B ((((dP f.aTC.length n 0).take k).map cH).filter (nB f p))) (PH.nil.set B (.rows 1 [[.aB]])) ⟨.aB,[],((aM.nil (H:=PH.nil)).new γ _).WR,rfl⟩ ?_ ?_ ?_ ?_ ?_ hY ?_
  ·intro o x Z;rw[aN] at Z;split at Z
   ·rename_i e;rw[hM]; simp only[aN,e,if_neg W,if_neg X,WJ,if_true];exact Z
   ·cases Z
  ·rw[hM]; simp only[aN,if_neg l,if_true]
  ·rw[hM]; simp only[aN,if_true]
  ·rw[aN,if_neg (fun e=>W e.symm)]; rfl
  ·rw[aN,if_neg (fun e=>X e.symm)]; rfl
  rintro k hk G c ⟨vo,ps,E,w⟩ hc;have δ:=Q _ (aUQ hk);have ζ:(dP f.aTC.length n 0).take (k+1)=(dP f.aTC.length n 0).take k++[(dP f.aTC.length n 0)[k]]:=aWN hk;generalize (dP f.aTC.length n 0)[k]=s at *
  obtain⟨sl,Y,-⟩:=δ;have i:((((dP f.aTC.length n 0).take (k+1)).map cH).filter (nB f p))=wls ps++if nB f p (cH s) then [cH s] else []:=by rw[ζ,aVT,List.filter_append,w];congr 1;by_cases c:nB f p (cH s)<;>simp[c]
  have U:(aW (cH s)).length=n:=by rw[cV,fZ,sl]
  have M:=E.azN (s:=1) (rows:=aW (cH s)) hc;have hO:bE (G.set c (.rows 1 (aW (cH s)))) 1 (.osl c 1 0 n) (aW (cH s)):=by
   have:=M.own ((fL vo ps).length) (uk _ _ _ rfl)
   rwa [U] at this
  have ο:ps.length≤4096:=by
   rw[← IC,w];refine aWE (List.length_filter_le ..) ?_;rw[aUN,aVJ];have h1:=NO f.aTC.length n 0;have M:2 ^ (f.aTC.length-0)≤2 ^ 12:=aYK Om Om;have e:(2:Nat) ^ 12=4096:=by decide
   omega
  have d:=Lb.adm f p (cH s) hV hp S ⟨by rw[fZ]; omega,fun x V=>by obtain⟨y,hy,rfl⟩:=aVQ.1 V;have:=Y y hy;omega⟩;obtain⟨q,e1,V,d⟩:=zw (C:=C) (name:=201) (pre:=[.agg f.cells,.agg p.cells]) (u:=.bool (nB f p (cH s))) (.bool _) (fun x V=>by
   simp only[aVC,aVK,or_false] at V;rcases V with rfl | rfl
   ·exact fun _ _ _=>rfl
   ·exact fun _ _ _=>rfl) hO (fun e=>by have:=congrArg List.length e; rw[fZ,sl] at this; simp at this; omega) d
  have eq:c=q:=by injection e1
  subst eq;have ι:=M.at 0 rfl;have θ:¬ B=c:=fun e=>by have:=E.at 0 rfl; rw[e,hc] at this; cases this
  simp only[go_sem,x9,Jl,ya,Jm,f2,f3];refine uP (cs:=[]) (vs:=[.agg f.cells,.agg p.cells,.osl c 1 0 n]) (by rw[aWF]; exact d) Sq (HT _ _) ?_;cases A:nB f p (cH s) with
  | true =>
   rw[A,if_pos rfl] at i;simp only[go_sem,Jn,f5,θ,E.at 0 rfl];refine M.append 0 (rows:=dV ps) (src:=[[.osl c 1 0 n]]) rfl Sq (by unfold roomFor; rw[oC]; simp only[aUX,maxLen]; omega) fun v' H' h3 η=>?_;obtain⟨q2,rfl⟩:=η (by simp);have α:=h3.at 0 rfl;have h4:=h3.set 0 rfl (cB.rows 1 [[PV.osl q2 1 0 (dV ps++[[PV.osl c 1 0 n]]).length]]);simp only[go_sem,α,f5,aVC,aVK,or_false,forall_eq];refine⟨PV.osl q2 1 0 (dV ps++[[PV.osl c 1 0 n]]).length,ps++[(.osl c 1 0 n,cH s)],?_,?_⟩
   ·have e:fL (.osl q2 1 0 (dV ps++[[PV.osl c 1 0 n]]).length) (ps++[(PV.osl c 1 0 n,cH s)])=((fL vo ps)++[(PV.osl c 1 0 (aW (cH s)).length,1,aW (cH s))]).set 0 (.osl q2 1 0 (dV ps++[[PV.osl c 1 0 n]]).length,1,dV ps++[[PV.osl c 1 0 n]]):=by rw[U];unfold fL dV pT;rw[aVT,aVT];rfl
    rw[e];exact h4
   ·rw[i];unfold wls;rw[aVT]; rfl
  | false =>rw[A,if_neg (by decide),aWF] at i;simp only[go_sem];exact⟨vo,ps,M.sub (aWT.refl _) (List.sublist_append_left ..),i.symm⟩
 ·rw[aVP,← hE] at O;obtain⟨vo,ps,E,w⟩:=O;have hb:=E.at 0 rfl;simp only[go_sem,iw,Jo,f5,hb];rw[← w];exact n6 (.inr rfl) Sq (E.tO 0)
def DT (f:aD) (aTO:Int):Int:=if jZ f aTO then (if f.aTC.length>12 then 2 else 0) else 1
def tc (f:aD) (aTO:Int):List (List Int):=if DT f aTO=0 then uH f (kC f aTO) else []
structure Ho (C:Ctx):Prop extends ge C where
 sets:∀ (f:aD) (p:bT),VF f→f.aTC.length≤12→(∀ m∈p.aTD,0≤m∧m<f.aTD.length)→Fits p.aTD→1≤p.k→p.k≤6→0≤p.m→p.m≤4→aH C 229 [.agg f.cells,.agg p.cells] .nil (aI (lay (uH f p)))
def cyS (r:PV):Spec:=fun _ _=>some ([],fun _=>aI r)
theorem anY {C:Ctx} (x:Ho C) (f:aD) (y:f.Ok) (aTO:Int) :
  DX.wp C (aU call17.res (bX (.tup [lay (tc f aTO),.int .i64 (DT f aTO)]))) (PF.args [.agg f.cells,.int .i64 aTO]) .nil:=by
 have hB:tc f aTO=if DT f aTO=0 then uH f (kC f aTO) else []:=rfl
 have e:DT f aTO=if jZ f aTO then (if f.aTC.length>12 then 2 else 0) else 1:=rfl
 simp only[go_sem,DX,xg,xh,call17];refine aA (x.known f aTO y) Ev ?_;cases u:jZ f aTO with
 | false =>rw[u,if_neg (by decide)] at e;rw[e,if_neg (by decide)] at hB;rw[hB,e];simp only[go_sem,aVG,xi];exact CS (.inr rfl) Sq (aM.WR aM.nil)
 | true =>
  rw[u,if_pos rfl] at e;obtain⟨hV,A,E,B⟩:=AY u;obtain⟨p,w⟩:=CI u;have d:=hV.aTO _ p;have l:=(y.aTO _ p).aTD;have i:(f.aTG.map bT.cells)[aTO.toNat]?=some (kC f aTO).cells:=by rw[aVN,w]; rfl
  have hlt:aTO<(f.aTG.length:Nat):=Om;by_cases c:f.aTC.length>12
  ·rw[if_pos c] at e;rw[e,if_neg (by decide)] at hB;rw[hB,e];simp only[go_sem,aUW,QU,aUN,show (f.aTC.length:Int)>12 by omega,xj];exact CS (.inr rfl) Sq (aM.WR aM.nil)
  ·rw[if_neg c] at e;rw[e,if_pos rfl] at hB;rw[hB,e];simp only[go_sem,aUW,QU,aUN,show ¬ (f.aTC.length:Int)>12 by omega];refine bS .nil (cyS (lay (uH f (kC f aTO)))) a_ ?_;simp only[go_sem,xk,A,hlt,aUN,i];refine bY rfl (x.sets f (kC f aTO) hV Om d.2.2.2.2.2.2.2 l d.1 d.2.1 d.2.2.1 d.2.2.2.1) Sq a_ ?_;simp only[go_sem];exact aX (.inr rfl) .nil (vs:=[lay (uH f (kC f aTO)),.int .i64 0]) Sq a_ (aI.aLA ⟨rfl,rfl⟩)
structure UOk (n:Nat) (U:List (List Int)):Prop where
 len:U.length≤1000
 at_:∀ u∈U,u.length≤1000∧∀ d∈u,0≤d∧d<n
def nZ (U:List (List Int)) (s:List Nat):List Int:=s.flatMap fun i=>U.getD i []
theorem Uj (U:List (List Int)) (s:List Nat) {i:Nat} (h:i<s.length):nZ U (s.take (i+1))=nZ U (s.take i)++U.getD s[i] []:=by
 unfold nZ;rw[aWN h,List.flatMap_append]; simp
theorem Xd (U:List (List Int)) (s:List Nat) (d:Nat):(nZ U s).contains (d:Int)=qJ U s d:=by
 unfold nZ qJ
 induction s with
 | nil=>rfl
 | cons i s c=>rw[List.flatMap_cons,List.contains_append,c,List.any_cons]
theorem aoF {C:Ctx} {K:bR} [Up K] (X W w c nd n i:Nat) (J:PV) (u:List Int) (β:u.length≤1000) (hu:∀ d∈u,0≤d∧d<nd) (l:List Int) {F:PF} {H:PH} {B:List BX} {L:List LI}
  (x:aM H B L) (b:Nat) (Z:B[b]?=some (w,.rows 1 (cY (marks nd l))))
  (hF:(((((((((((PF.nil.set 2 (J)).set 6 (.ptr X 1 0 0)).set 7 (.ptr W 1 0 0)).set 9 (.osl w 1 0 nd)).set 66 (.osl c 1 0 n)).set 67 (.int .i64 n)).set 68 (.int .i64 i)).set 75 (ints u)).set 76 (.int .i64 (u.length:Nat))).set 77 (.int .i64 0))).le F)
  (hK:∀ H',aM H' (B.set b (w,.rows 1 (cY (marks nd (l++u))))) L→K (.exit 4) ((((((((PF.nil.set 2 (J)).set 6 (.ptr X 1 0 0)).set 7 (.ptr W 1 0 0)).set 9 (.osl w 1 0 nd)).set 66 (.osl c 1 0 n)).set 67 (.int .i64 n)).set 68 (.int .i64 i))) H') :
  aC.wp C (.loop RD) K F H:=by
 refine wp_loop (α:=Nat × PH) (fun s=>((((((((((PF.nil.set 2 (J)).set 6 (.ptr X 1 0 0)).set 7 (.ptr W 1 0 0)).set 9 (.osl w 1 0 nd)).set 66 (.osl c 1 0 n)).set 67 (.int .i64 n)).set 68 (.int .i64 i)).set 75 (ints u)).set 76 (.int .i64 (u.length:Nat))).set 77 (.int .i64 s.1))) (fun s=>s.2) (fun s=>s.1≤u.length∧aM s.2 (B.set b (w,.rows 1 (cY (marks nd (l++u.take s.1))))) L) (fun s=>u.length-s.1) (0,H) ⟨aUT _,?_⟩ hF b_ ?_
 ·rw[aXW,aWF];have e:B.set b (w,.rows 1 (cY (marks nd l)))=B:=by obtain⟨h1,E⟩:=aVW.1 Z;rw[← E,List.set_getElem_self]
  rw[e]; exact x
 rintro⟨j,Y⟩ ⟨hj,x⟩;simp only at hj x;have M:b<B.length:=(aVW.1 Z).1;have y:(B.set b (w,cB.rows 1 (cY (marks nd (l++u.take j)))))[b]?=some (w,.rows 1 (cY (marks nd (l++u.take j)))):=List.getElem?_set_self M;simp only[go_sem,RD,xx];by_cases hlt:j<u.length
 ·have p:(j:Int)<(u.length:Nat):=Om;have R:(u.map fun n=>[PV.int .i64 n])[j]?=some [.int .i64 u[j]]:=by simp[hlt]
  obtain⟨U,V⟩:=hu _ (aUQ hlt);have S:u.take (j+1)=u.take j++[u[j]]:=aWN hlt;have O:(u[j]).toNat<(cY (marks nd (l++u.take j))).length:=by rw[wR,CN]; omega
  have N:(cY (marks nd (l++u.take j)))[(u[j]).toNat]?=some [.bool ((l++u.take j).contains u[j])]:=by unfold cY;rw[aVN,sH U V]; rfl
  have Q:=x.at b y;have E:=x.set b y (.rows 1 (cY (marks nd (l++u.take (j+1)))));rw[List.set_set] at E;have A:=CO (l:=l++u.take j) U V;rw[aVS,← S] at A;simp only[go_sem,p,xy,R,xz,U,V,aVH,Q,N,O,jV,A,x2,wZz j];exact aG (j+1,Y.set w (.rows 1 (cY (marks nd (l++u.take (j+1)))))) ⟨hlt,E⟩ (by simp only; omega) Lq b_
 ·have p:¬ (j:Int)<(u.length:Nat):=Om;have:j=u.length:=Om;subst this;rw[aVP] at x;simp only[go_sem,p];exact Up.up Lq (hK Y x)
def scB (d i c e:Nat) (p:PV) (U:List (List Int)) (s:List Nat) (nd:Nat) (l:List Int):List BX:=[(d,.rows 1 [[p]]),(i,.rows 1 [[lay U]]),(c,.rows 1 (aW (cH s))),(e,.rows 1 (cY (marks nd l)))]
theorem Wi {C:Ctx} {K:bR} [Up K] (y p w c nd n:Nat) (B V:PV) (U:List (List Int)) (hU:UOk nd U) (s:List Nat) (hs:s.length=n) (Q:∀ x∈s,x<U.length) (hn:n≤1000) {F:PF} {H:PH} {L:List LI}
  (l:aM H (scB p y c w V U s nd []) L)
  (Y:((((((((PF.nil.set 2 (B)).set 6 (.ptr y 1 0 0)).set 7 (.ptr p 1 0 0)).set 9 (.osl w 1 0 nd)).set 66 (.osl c 1 0 n)).set 67 (.int .i64 n)).set 68 (.int .i64 0))).le F)
  (Z:∀ H',aM H' (scB p y c w V U s nd (nZ U s)) L→K (.exit 2) (((((PF.nil.set 2 (B)).set 6 (.ptr y 1 0 0)).set 7 (.ptr p 1 0 0)).set 9 (.osl w 1 0 nd))) H') :
  aC.wp C (.loop RE) K F H:=by
 refine wp_loop (α:=Nat × PH) (fun t=>(((((((PF.nil.set 2 (B)).set 6 (.ptr y 1 0 0)).set 7 (.ptr p 1 0 0)).set 9 (.osl w 1 0 nd)).set 66 (.osl c 1 0 n)).set 67 (.int .i64 n)).set 68 (.int .i64 t.1))) (fun t=>t.2) (fun t=>t.1≤s.length∧aM t.2 (scB p y c w V U s nd (nZ U (s.take t.1))) L) (fun t=>s.length-t.1) (0,H) ⟨aUT _,l⟩ Y b_ ?_;rintro⟨i,X⟩ ⟨hi,l⟩;simp only at hi l;simp only[go_sem,RE,xu];by_cases hlt:i<s.length
 ·have d:(i:Int)<(n:Nat):=Om;have hc:=l.at 2 rfl;have O:=l.at 1 rfl;have M:=zS hlt;have N:i<(aW (cH s)).length:=by rw[cV,fZ]; exact hlt
  have R:=Q s[i] (aUQ hlt);have S:((s[i]:Nat):Int)<(U.length:Nat):=Om;have e:=Uj U s hlt;have A:=hU.at_ U[s[i]] (aUQ R);have J:U.getD s[i] []=U[s[i]]:=by simp[aUY,R]
  have E:(U.map fun r=>[ints r])[s[i]]?=some [ints U[s[i]]]:=by simp[R]
  rw[J] at e;generalize U[s[i]]=u at *
  generalize s[i]=x at *
  simp only[go_sem,d,xv,hc,M,N,aVH,xw,O,S,aUN,E];have one:=fun {K:bR} [Up K] {F:PF}=>aoF (C:=C) (K:=K) y p w c nd n i B u A.1 A.2 (nZ U (s.take i)) (F:=F) l 3 rfl;refine one (by (repeat' (first|exact d_|refine c_ ?_ ?_))<;>first|(simp only[go_sem,aUN]<;>rfl)|rfl) fun H' W=>?_;rw[← e] at W;simp only[go_sem,x3,wZz i];exact aG (i+1,H') ⟨hlt,W⟩ (by simp only; omega) Lq b_
 ·have d:¬ (i:Int)<(n:Nat):=Om;have:i=s.length:=Om;subst this;rw[aVP] at l;simp only[go_sem,d];exact Up.up Lq (Z X l)
def scD (l:List Int) (k:Nat):List Int:=cH ((aUO k).filter fun d=>l.contains (d:Int))
theorem aAN (l:List Int) (k:Nat):scD l (k+1)=if l.contains (k:Int) then scD l k++[(k:Int)] else scD l k:=by
 unfold scD;rw[aXV,List.filter_append,azI];by_cases h:l.contains (k:Int)
 ·rw[if_pos h]; simp[cH] at h ⊢; simp[h]
 ·rw[if_neg h]; simp[cH] at h ⊢; simp[h]
theorem aHU (l:List Int) (k:Nat):(scD l k).length≤k:=by
 unfold scD;rw[fZ];exact aWE (List.length_filter_le ..) (by simp)
theorem I9 {C:Ctx} {K:bR} [Up K] (w u B c nd:Nat) (W:nd≤1000) (E J:PV) (U:List (List Int)) (s:List Nat) (l:List Int) {F:PF} {H:PH} {L:List LI}
  (i:aM H (scB u w c B J U s nd l) L)
  (R:((((((((PF.nil.set 2 (E)).set 6 (.ptr w 1 0 0)).set 7 (.ptr u 1 0 0)).set 14 (.aB)).set 86 (.osl B 1 0 nd)).set 87 (.int .i64 nd)).set 88 (.int .i64 0))).le F)
  (S:∀ v H',aM H' (scB u w c B J U s nd l) (L++[(v,1,aW (scD l nd))])→K (.exit 6) (((((PF.nil.set 2 (E)).set 6 (.ptr w 1 0 0)).set 7 (.ptr u 1 0 0)).set 14 (v))) H') :
  aC.wp C (.loop RG) K F H:=by
 refine wp_loop (α:=Nat × PV × PH) (fun t=>(((((((PF.nil.set 2 (E)).set 6 (.ptr w 1 0 0)).set 7 (.ptr u 1 0 0)).set 14 (t.2.1)).set 86 (.osl B 1 0 nd)).set 87 (.int .i64 nd)).set 88 (.int .i64 t.1))) (fun t=>t.2.2) (fun t=>t.1≤nd∧aM t.2.2 (scB u w c B J U s nd l) (L++[(t.2.1,1,aW (scD l t.1))])) (fun t=>nd-t.1) (0,.aB,H) ⟨aUT _,i.mI 1⟩ R b_ ?_;clear i;rintro⟨k,v,M⟩ ⟨V,i⟩;simp only at V i;simp only[go_sem,RG,x6];by_cases hlt:k<nd
 ·have e:(k:Int)<(nd:Nat):=Om;have y:=i.at 3 rfl;have d:=aAN l k;have Q:=aHU l k;have x:k<(cY (marks nd l)).length:=by rw[wR,CN]; exact hlt
  have p:(cY (marks nd l))[k]?=some [.bool (l.contains (k:Int))]:=by have:=sH (n:=nd) (l:=l) (m:=(k:Int)) Om e;rw[aWK] at this;unfold cY;rw[aVN,this]; rfl
  cases O:l.contains (k:Int) with
  | true =>
   rw[O] at p d;rw[if_pos rfl] at d;simp only[go_sem,e,RH,y,p,x,aVH,RI,x7];refine i.append L.length (rows:=aW (scD l k)) (src:=[[.int .i64 k]]) (uk _ _ _ rfl) Sq (by unfold roomFor; rw[cV]; simp only[aUX,maxLen]; omega) fun v' H' N _=>?_;have A:aW (scD l k)++[[.int .i64 k]]=aW (scD l (k+1)):=by rw[d,AX]; rfl
   rw[A,aXO _ _ (aUU _),aXQ] at N;simp only[go_sem,RJ,wZz k];exact aG (k+1,v',H') ⟨hlt,N⟩ (by simp only; omega) Lq b_
  | false =>rw[O] at p d;rw[if_neg (by decide)] at d;rw[← d] at i;simp only[go_sem,e,RH,y,p,x,aVH,RI,RJ,wZz k];exact aG (k+1,v,M) ⟨hlt,i⟩ (by simp only; omega) Lq b_
 ·have e:¬ (k:Int)<(nd:Nat):=Om;have:k=nd:=Om;subst this;simp only[go_sem,e];exact Up.up Lq (S v M i)
def kE (f:aD) (lv c:Int):Int:=if dJ f&&(decide (1≤lv)&&decide (lv≤5)&&decide (1≤c)&&decide (c≤3)) then (if 12<f.aTC.length∨512<fA ((iR f lv).length:Nat) c.toNat then 2 else 0) else 1
def rX (f:aD) (lv c:Int):List (List Int):=if kE f lv c=0 then rW f (iR f lv) c.toNat else []
structure Hp (C:Ctx):Prop extends Ho C where
 val:∀ f:aD,f.Ok→aH C 96 [.agg f.cells] .nil (aI (.int .i64 (vW f)))
 units:∀ (f:aD) (lv:Int),VF f→1≤lv→lv≤5→aH C 206 [.agg f.cells,.int .i64 lv] .nil (aI (lay (iR f lv)))
 choose:∀ m n:Nat,m≤1000→n≤3→aH C 207 [.int .i64 m,.int .i64 n] .nil (aI (.int .i64 (max (fA m n) 0)))
theorem Ul {f:aD} (hV:VF f) (lv:Int):UOk f.aTC.length (iR f lv)∧(iR f lv).length≤40:=by
 have E:=hV.small.aTC;have w:=hV.small.aTF;by_cases c:lv=5
 ·subst c;rw[Es];refine⟨⟨by simp; omega,fun u l=>?_⟩,by simp; omega⟩;obtain⟨d,e,rfl⟩:=aVQ.1 l;rw[aVM] at e;refine⟨by simp,fun x p=>?_⟩;rw[aWV] at p;omega
 ·rw[Uk f c];have A:(oS f lv f.aTC.length).length≤40:=by rw[pt];exact aWE (List.length_filter_le ..) (by simp; omega)
  refine⟨⟨by omega,fun u l=>?_⟩,A⟩;obtain⟨i,-,rfl⟩:=aVQ.1 l;refine⟨by rw[fZ]; have:=kb f lv f.aTC.length i; omega,fun x p=>?_⟩;obtain⟨y,B,rfl⟩:=aVQ.1 p;have:=aVM.1 (List.mem_filter.1 B).1;omega
theorem aKZ (U:List (List Int)) (s:List Nat) (nd:Nat):scD (nZ U s) nd=cH ((aUO nd).filter (qJ U s)):=by
 unfold scD;congr 2;funext d;exact Xd U s d
instance upDone {R:PH→Prop}:Up (CA R):=⟨fun {e F c H} _ h=>by cases e<;>exact h⟩
def Ib (d e:Nat) (U:List (List Int)) (i:List (List Int)) (G:PH):Prop:=∃ c ps,aM G [(d,.rows 1 [[c]]),(e,.rows 1 [[lay U]])] (fL c ps)∧wls ps=i
theorem Wj {C:Ctx} (f:aD) (hV:VF f) (U:List (List Int)) (hU:UOk f.aTC.length U) (W:U.length≤40) (n:Nat) (α:1≤n) (hn:n≤3) (A l:Nat) (F:PF) (f2:F 2=some (.bL f.cells)) (f6:F 6=some (.ptr A 1 0 0)) (f7:F 7=some (.ptr l 1 0 0)) (k:Nat) (X:k<(dP U.length n 0).length) (G:PH) (c:Nat)
  (hI:Ib l A U (((dP U.length n 0).take k).map fun s=>cH ((aUO f.aTC.length).filter (qJ U s))) G) (hc:G c=none) :
  RB.wp C (gD C (RC.wp C) (CA (Ib l A U (((dP U.length n 0).take (k+1)).map fun s=>cH ((aUO f.aTC.length).filter (qJ U s)))))) (F.set 61 (.osl c 1 0 n)) (G.set c (.rows 1 (aW (cH (dP U.length n 0)[k])))):=by
 obtain⟨p,ps,hH,Y⟩:=hI;have w:=hV.small;have J:(f.aTC.length:Int)*((1:Nat):Int)≤140737488355328:=by have:=w.aTC; omega
 have M:(f.aTC.length:Int)≤9223372036854775807:=by have:=w.aTC; omega
 have d:(0:Int)≤(f.aTC.length:Int):=Om;have O:=BF U.length n 0 _ (aUQ X);have Q:(dP U.length n 0).take (k+1)=(dP U.length n 0).take k++[(dP U.length n 0)[k]]:=aWN X;have β:ps.length≤1099511627776:=by
  rw[← IC,Y,aUN,aVJ];have h1:=NO U.length n 0;have S:2 ^ (U.length-0)≤2 ^ 40:=aYK Om Om;have e:(2:Nat) ^ 40=1099511627776:=by decide
  omega
 generalize (dP U.length n 0)[k]=s at *
 obtain⟨sl,E,-⟩:=O;rw[Q,aVT,← Y];have S:=hH.new hc (.rows 1 (aW (cH s)));simp only[go_sem,RB,Jg,RC,Jh,f2,aUN,J,M,d,Int.le_refl,aWK];refine aO fun R N=>?_;rw[AG];have h3:=S.new N (.rows 1 (cY (marks f.aTC.length [])));simp only[go_sem,xt];have mk:=fun {K:bR} [Up K] {F:PF} {H:PH}=>Wi (C:=C) (K:=K) A l R c f.aTC.length n (.bL f.cells) p U hU s sl (fun x hx=>(E x hx).2) Om (F:=F) (H:=H) (L:=fL p ps);refine mk h3 (by (repeat' (first|exact d_|refine c_ ?_ ?_))<;>first|(simp only[go_sem,f2,f6,f7]<;>rfl)|rfl) fun H1 h4=>?_;simp only[go_sem,x4,x5];have Z:=fun {K:bR} [Up K] {F:PF} {H:PH}=>I9 (C:=C) (K:=K) A l R c f.aTC.length (by have:=w.aTC; omega) (.bL f.cells) p U s (nZ U s) (F:=F) (H:=H) (L:=fL p ps);refine Z h4 Lq fun v H2 h5=>?_;have V:=h5.own (fL p ps).length (uk _ _ _ rfl);have B:=h5.at 0 rfl;rw[aKZ] at h5 V;generalize hD:cH ((aUO f.aTC.length).filter (qJ U s))=D at *
 have fin:∀ (i:Nat) (H':PH),aM H' (scB l A c R p U s f.aTC.length (nZ U s)) ((fL p ps++[(v,1,aW D)]).set 0 (PV.osl i 1 0 (dV ps++[[v]]).length,1,dV ps++[[v]]))→Ib l A U (wls ps++[D]) (H'.set l (.rows 1 [[PV.osl i 1 0 (dV ps++[[v]]).length]])):=by
  intro i H' u;have h7:=u.set 0 rfl (cB.rows 1 [[PV.osl i 1 0 (dV ps++[[v]]).length]]);refine⟨PV.osl i 1 0 (dV ps++[[v]]).length,ps++[(v,D)],?_,?_⟩
  ·have e:fL (PV.osl i 1 0 (dV ps++[[v]]).length) (ps++[(v,D)])=(fL p ps++[(v,1,aW D)]).set 0 (PV.osl i 1 0 (dV ps++[[v]]).length,1,dV ps++[[v]]):=by unfold fL dV pT;rw[aVT,aVT];rfl
   rw[e];exact (h7.tO 3).tO 2
  ·unfold wls;rw[aVT]; rfl
 have room:roomFor (dV ps).length 1 24:=by unfold roomFor; rw[oC]; simp only[maxLen]; omega
 rcases V with ⟨-,rfl⟩ | ⟨q,rs,rfl,-,-,-⟩
 ·simp only[go_sem,RK,B,aVC,aVK,or_false,forall_eq];refine h5.append 0 (rows:=dV ps) (src:=[[PV.aB]]) rfl Sq room fun v' H' u y=>?_;obtain⟨i,rfl⟩:=y (by simp);have d:=u.at 0 rfl;simp only[go_sem,d,aVC,aVK,or_false,forall_eq];exact fin i H' u
 ·simp only[go_sem,RK,B,aVC,aVK,or_false,forall_eq];refine h5.append 0 (rows:=dV ps) (src:=[[PV.osl q 1 0 (aW D).length]]) rfl Sq room fun v' H' u y=>?_;obtain⟨i,rfl⟩:=y (by simp);have d:=u.at 0 rfl;simp only[go_sem,d,aVC,aVK,or_false,forall_eq];exact fin i H' u
abbrev jm (lv c:Int):PV:=.agg [.int .i64 lv,.int .i64 c]
theorem avT {C:Ctx} (J:Hp C) (K M:Code) (f:aD) (hf:f.Ok) (lv d:Int) :
  (IQ K M).wp C (aU (ahW K M).res (bX (.tup [lay (rX f lv d),.int .i64 (kE f lv d)]))) (PF.args [.agg f.cells,jm lv d]) .nil:=by
 have hB:rX f lv d=if kE f lv d=0 then rW f (iR f lv) d.toNat else []:=rfl
 have O:kE f lv d=if dJ f&&(decide (1≤lv)&&decide (lv≤5)&&decide (1≤d)&&decide (d≤3)) then (if 12<f.aTC.length∨512<fA ((iR f lv).length:Nat) d.toNat then 2 else 0) else 1:=rfl
 have hv:=J.val f hf;unfold vW at hv;have bad:∀ (e:Int) (F:PF) (H:PH),e≠0→kE f lv d=e→F 4=some .aB→F 5=some (.int .i64 e)→aU [.tmp 4,.tmp 5] (bX (.tup [lay (rX f lv d),.int .i64 (kE f lv d)])) .ret F H:=by intro e F H he i h2 h3;rw[i,if_neg he] at hB;rw[hB,i];exact CS (H:=H) (.inr rfl) (by simp only[go_sem,h2,h3]) (show aM H [] (fL .aB []) from aM.WR aM.nil)
 have X:(dJ f&&(decide (1≤lv)&&decide (lv≤5)&&decide (1≤d)&&decide (d≤3)))=false→kE f lv d=1:=fun h=>by rw[O,h]; rfl
 simp only[go_sem,IQ,qD.wp,Ja,Jb,ahW];refine aA hv Ev ?_;cases hp:dJ f with
 | false =>have i:=X (by rw[hp]; rfl);simp only[go_sem,dO (show (1:Int)≠0 by decide),uX];exact bad 1 _ _ (by decide) i Sq Sq
 | true =>
  have hV:=VF.of hp;by_cases N:lv<1
  ·have i:=X (by rw[decide_eq_false (Om:¬ 1≤lv)]; simp);simp only[go_sem,cA (show (0:Int)=0 from rfl),N,uX];exact bad 1 _ _ (by decide) i Sq Sq
  by_cases c2:lv>5
  ·have i:=X (by rw[decide_eq_false (Om:¬ lv≤5)]; simp);simp only[go_sem,cA (show (0:Int)=0 from rfl),N,c2,uX];exact bad 1 _ _ (by decide) i Sq Sq
  by_cases c3:d<1
  ·have i:=X (by rw[decide_eq_false (Om:¬ 1≤d)]; simp);simp only[go_sem,cA (show (0:Int)=0 from rfl),N,c2,c3,uX];exact bad 1 _ _ (by decide) i Sq Sq
  by_cases c4:d>3
  ·have i:=X (by rw[decide_eq_false (Om:¬ d≤3)]; simp);simp only[go_sem,cA (show (0:Int)=0 from rfl),N,c2,c3,c4,uX];exact bad 1 _ _ (by decide) i Sq Sq
  obtain⟨n,rfl⟩:∃ n:Nat,d=n:=⟨d.toNat,by omega⟩;rw[hp,decide_eq_true (Om:1≤lv),decide_eq_true (Om:lv≤5),decide_eq_true (Om:(1:Int)≤(n:Int)),decide_eq_true (Om:(n:Int)≤3),Bool.and_self,Bool.and_self,Bool.and_self,Bool.and_self,if_pos rfl,aWK] at O;rw[aWK] at hB;obtain⟨hU,R⟩:=Ul hV lv;have w:=J.units f lv hV Om Om;generalize iR f lv=U at *
  simp only[go_sem,cA (show (0:Int)=0 from rfl),N,c2,c3,c4,Jc];refine aA w Ev ?_;simp only[go_sem];refine aO fun p δ=>?_;simp only[go_sem,Jd,aUN];by_cases c5:12<f.aTC.length
  ·have i:kE f lv n=2:=by rw[O,if_pos (.inl c5)]
   simp only[go_sem,show (f.aTC.length:Int)>12 by omega,aj];exact bad 2 _ _ (by decide) i Sq Sq
  simp only[go_sem,show ¬ (f.aTC.length:Int)>12 by omega];refine aA (J.choose U.length n Om Om) Ev ?_;by_cases c6:512<fA (U.length:Nat) n
  ·have i:kE f lv n=2:=by rw[O,if_pos (.inr c6)]
   simp only[go_sem,show max (fA (U.length:Nat) n) 0>512 by omega,aj];exact bad 2 _ _ (by decide) i Sq Sq
  have i:kE f lv n=0:=by rw[O,if_neg (fun h=>h.elim c5 c6)]
  rw[i,if_pos rfl] at hB;rw[hB,i];simp only[go_sem,show ¬ max (fA (U.length:Nat) n) 0>512 by omega,Je];refine aO fun l E=>?_;have ζ:¬ l=p:=by rintro rfl; rw[cO] at E; cases E
  have y:¬ p=l:=fun e=>ζ e.symm;simp only[go_sem,Jf,y,aUN];refine kI (J.subs n U.length) Sq a_ ?_;rintro r H' ⟨o1,o2,B,rfl,rfl⟩ γ;have α:∀ o x,(((PH.nil.set o1 (.rows 1 [[.int .i64 n]])).set o2 (.rows 1 [[.int .i64 (U.length:Nat)]])):PH) o=some x→¬ l=o∧¬ p=o:=fun o x h=>by
   have:=γ o x h rfl;refine⟨fun e=>?_,fun e=>?_⟩
   ·rw[← e,cO] at this; cases this
   ·rw[← e,aN,if_neg y,cO] at this; cases this
  obtain⟨V,Y⟩:=α o1 _ (by rw[aN,if_neg B,cO]);obtain⟨W,Z⟩:=α o2 _ (by rw[cO]);simp only[go_sem];generalize Q:PF.set _ 60 _=F;have f2:F 2=some (.bL f.cells):=by rw[← Q]; simp only[go_sem]
  have f6:F 6=some (.ptr p 1 0 0):=by rw[← Q]; simp only[go_sem]
  have f7:F 7=some (.ptr l 1 0 0):=by rw[← Q]; simp only[go_sem]
  have η:F 60=some (.fn 211 [.ptr o1 1 0 0,.ptr o2 1 0 0]):=by rw[← Q]; simp only[go_sem]
  clear Q;have A:rW f U n=((dP U.length n 0).take (dP U.length n 0).length).map fun s=>cH ((aUO f.aTC.length).filter (qJ U s)):=by rw[aVP]; rfl
  have u:aM ((PH.nil.set p (.rows 1 [[lay U]])).set l (.rows 1 [[.aB]])) [(l,.rows 1 [[.aB]]),(p,.rows 1 [[lay U]])] (fL .aB []):=((((aM.nil (H:=PH.nil)).new δ _).new E _).perm (List.Perm.swap _ _ _) (List.Perm.refl _)).WR;refine⟨211,[.ptr o1 1 0 0,.ptr o2 1 0 0],Ib l p U (rW f U n),rfl,fun hY=>?_,fun H2 β=>?_⟩
  ·rw[A];refine kd (m:=104) (t:=61) J.toge rfl Om Om Om B (fun k=>Ib l p U (((dP U.length n 0).take k).map fun s=>cH ((aUO f.aTC.length).filter (qJ U s)))) ((PH.nil.set p (.rows 1 [[lay U]])).set l (.rows 1 [[.aB]])) ⟨.aB,[],u,rfl⟩ ?_ ?_ ?_ ?_ ?_ hY fun k hk G c hI hc=>Wj f hV U hU R n Om Om p l F f2 f6 f7 k hk G c hI hc
   ·intro o x S;rw[hM];have e1:¬ o=o1:=fun e=>by rw[e,aN,if_neg (fun h=>V h.symm),aN,if_neg (fun h=>Y h.symm)] at S; cases S
    have e2:¬ o=o2:=fun e=>by rw[e,aN,if_neg (fun h=>W h.symm),aN,if_neg (fun h=>Z h.symm)] at S; cases S
    have:((PH.nil.set o1 (.rows 1 [[.int .i64 n]])).set o2 (.rows 1 [[.int .i64 (U.length:Nat)]]):PH) o=none:=by rw[aN,if_neg e2,aN,if_neg e1]; rfl
    rw[this];exact S
   ·rw[hM]; simp only[aN,if_neg B,if_true]
   ·rw[hM]; simp only[aN,if_true]
   ·rw[aN,if_neg (fun e=>V e.symm),aN,if_neg (fun e=>Y e.symm)]; rfl
   ·rw[aN,if_neg (fun e=>W e.symm),aN,if_neg (fun e=>Z e.symm)]; rfl
  ·obtain⟨vo,ps,hH,ε⟩:=β;have hb:=hH.at 0 rfl;simp only[go_sem,iv,x8,f7,hb];rw[← ε];exact CS (.inr rfl) Sq ((hH.tO 0).tO 0)
theorem XC {set:List Int} {n top:Int} (h:nM set n top=true):set.Pairwise (· < ·):=by
 unfold nM at h;simp only[aVE,decide_eq_true_eq,aVD,aVM] at h;have c:∀ i (hi:i+1<set.length),set[i]<set[i+1]:=by
  intro i hi;have:=h.2 (i+1) hi;unfold mP at this;have g1:set.getD (i+1) 0=set[i+1]:=by simp[aUY,hi]
  have g2:set.getD (i+1-1) 0=set[i]:=by simp[aUY,show i<set.length by omega]
  rw[g1,g2] at this;simp only[aVE,Bool.or_eq_true,decide_eq_true_eq] at this;rcases this.2 with h | h
  ·omega
  ·exact h
 rw[List.pairwise_iff_getElem];intro i j hi u e;obtain⟨d,rfl⟩:∃ d,j=i+1+d:=⟨j-i-1,by omega⟩;clear e
 induction d with
 | zero=>exact c i u
 | succ d w =>have l:=w Om;have p:=c (i+1+d) Om;exact Int.lt_trans l p
theorem Wv {l:List Nat} (h:l.Pairwise (· < ·)):(cH l).Pairwise (· < ·):=by
 unfold cH;rw[List.pairwise_map];exact h.imp fun h=>by omega
theorem aAO {f:aD} (hV:VF f) (U:List (List Int)) (l:U.length≤40) (n:Nat):(rW f U n).length≤1099511627776∧∀ s∈rW f U n,s.length≤24∧s.Pairwise (· < ·):=by
 have p:=hV.small.aTC;unfold rW;constructor
 ·rw[aUN];have d:=NO U.length n 0;have i:2 ^ (U.length-0)≤2 ^ 40:=aYK Om Om;have e:(2:Nat) ^ 40=1099511627776:=by decide
  omega
 ·intro s c;obtain⟨t,-,rfl⟩:=aVQ.1 c;refine⟨?_,Wv (List.pairwise_lt_range.filter _)⟩;rw[fZ];exact aWE (List.length_filter_le ..) (by simp; omega)
def rU (f:aD) (aTO:Int) (set:List Int) (lv c:Int):Int:=if kE f lv c≠0 then kE f lv c else if pC f aTO set then 0 else 1
def KP (f:aD) (aTO:Int) (set:List Int) (lv c:Int):Nat:=if rU f aTO set lv c=0 then CM (rX f lv c) set (kC f aTO).m else 0
structure anL (C:Ctx):Prop extends Hp C where
 NE:∀ (f:aD) (lv cnt:Int),f.Ok→aH C 230 [.agg f.cells,jm lv cnt] .nil (aI (.tup [lay (rX f lv cnt),.int .i64 (kE f lv cnt)]))
 admis:∀ (f:aD) (aTO:Int) (set:List Int),f.Ok→set.length≤1000000000000000→aH C 204 [.agg f.cells,.int .i64 aTO,ints set] .nil (aI (.bool (pC f aTO set)))
 loss:∀ (sc:List (List Int)) (set:List Int) (m:Int),sc.length≤1000000000000000→(∀ s∈sc,s.length≤1000000000000000∧s.Pairwise (· < ·))→set.length≤1000000000000000→set.Pairwise (· < ·)→aH C 208 [lay sc,ints set,.int .i64 m] .nil (aI (.int .i64 (CM sc set m:Nat)))
theorem ahQ {C:Ctx} (p:anL C) (f:aD) (y:f.Ok) (aTO:Int) (set:List Int) (A:set.length≤1000000000000000) (lv d:Int) :
  AJ.wp C (aU tk.res (aI (.tup [.int .i64 (KP f aTO set lv d:Nat),.int .i64 (rU f aTO set lv d)]))) (PF.args [.agg f.cells,.int .i64 aTO,ints set,jm lv d]) .nil:=by
 have hB:KP f aTO set lv d=if rU f aTO set lv d=0 then CM (rX f lv d) set (kC f aTO).m else 0:=rfl
 have e:rU f aTO set lv d=if kE f lv d≠0 then kE f lv d else if pC f aTO set then 0 else 1:=rfl
 simp only[go_sem,AJ,ik,im,tk];refine aA (p.NE f lv d y) Ev ?_;by_cases c:kE f lv d≠0
 ·rw[if_pos c] at e;rw[e,if_neg c] at hB;simp only[go_sem,IM,dO c,io];refine aR (.inr rfl) Ev ?_;rw[hB,e]; rfl
 have c:kE f lv d=0:=Decidable.not_not.1 c;rw[if_neg (fun h=>h c)] at e;simp only[go_sem,IM,c,cA (show (0:Int)=0 from rfl),ip];refine aA (p.admis f aTO set y A) Ev ?_;cases i:pC f aTO set with
 | false =>rw[i,if_neg (by decide)] at e;rw[e,if_neg (by decide)] at hB;simp only[go_sem,aVG,iq];refine aR (.inr rfl) Ev ?_;rw[hB,e]; rfl
 | true =>
  rw[i,if_pos rfl] at e;rw[e,if_pos rfl] at hB;have w:jZ f aTO=true∧nM set (pJ (kC f aTO)) f.aTC.length=true:=by unfold pC at i;simp only[aVE] at i;exact⟨i.1,i.2.1⟩
  obtain⟨hV,E,J,H⟩:=AY w.1;obtain⟨F,u⟩:=CI w.1;have l:(f.aTG.map bT.cells)[aTO.toNat]?=some (kC f aTO).cells:=by rw[aVN,u]; rfl
  have hlt:aTO<(f.aTG.length:Nat):=Om;have x:rX f lv d=rW f (iR f lv) d.toNat:=by unfold rX; rw[if_pos c]
  obtain⟨k1,k2⟩:=aAO hV (iR f lv) (Ul hV lv).2 d.toNat;rw[← x] at k1 k2;simp only[go_sem,aUW,ir,E,hlt,aUN,l];refine aA (p.loss (rX f lv d) set (kC f aTO).m Om (fun s B=>⟨by have:=(k2 s B).1; omega,(k2 s B).2⟩) A (XC w.2)) Ev ?_;simp only[go_sem];refine aR (.inr rfl) Ev ?_;rw[hB,e]; rfl
def Au:Rg:=[iT 0 false]
def Av:Rg:=[iA 10 (.call 27 [(.const .aB),(Ci 1),(Ci 0)]),iA 1 (.alloc [zI,.aB,.aB,.aB,.aB,.aB,.aB]),iS 7 1 10]
def Aw:Rg:=[iO 12 7 1,iA 13 (.call 205 [(Tm 12),(Ci 0)]),iM 11 13,iE 14 11 0,iE 15 11 1,iM 2 14,iM 3 15]
def Ax:Rg:=[iO 17 7 1,iA 18 (.build [zI,zI] [(0,1,(Ci 5)),(1,1,(Ci 1))]),iK2 19 230 17 18,iM 16 19,iE 20 16 0,iE 21 16 1,iM 4 20,iM 5 21]
def Ay:Rg:=[iO 23 7 1,iA 24 (.aTI true 1 1 [zI] [(0,(Ci 0))]),iA 25 (.build [zI,zI] [(0,1,(Ci 1)),(1,1,(Ci 1))]),iA 26 (.call 209 [(Tm 23),(Ci 0),(Tm 24),(Tm 25)]),iM 22 26,iE 27 22 0,iE 28 22 1,iM 6 27,iM 7 28]
def Az:Rg:=[iO 30 7 1,iA 31 (.call 205 [(Tm 30),(Ci 5)]),iM 29 31,iE 32 29 0,iE 33 29 1,iM 8 32,iM 9 33]
def A0:Rg:=[iM 34 3,iC 35 .eql 34 0,iM 36 35,gM 37 2 36 true,iG 38 (.aTI true 1 1 [zI] [(0,(Ci 0))]) 36 true,iG 39 (.aTI true 1 1 [.aB] [(0,(Tm 38))]) 36 true,gK2 40 212 37 39 36 true,iP 41 36 40,iM 42 41,gM 43 5 42 true,gC 44 .eql 43 0 42 true,iP 45 42 44,iM 46 45,gM 47 4 46 true,iG 48 (.aTI true 1 1 [zI] [(0,(Ci 0))]) 46 true,iG 49 (.aTI true 1 1 [.aB] [(0,(Tm 48))]) 46 true,gK2 50 212 47 49 46 true,iP 51 46 50,iM 52 51,gM 53 7 52 true,gC 54 .eql 53 0 52 true,iP 55 52 54,iM 56 55,gM 57 6 56 true,gC 58 .eql 57 1 56 true,iP 59 56 58,iM 60 59,gM 61 9 60 true,gC 62 .eql 61 1 60 true,iP 63 60 62,iM 0 63]
def ET:aC:=(sq Au (sq Av (sq Aw (sq Ax (sq Ay (sq Az (sq A0 .ret)))))))
def aqB:List Nat:=[24,38,39,48,49]
def Pt:aZ:=⟨0,64,ET,[.tmp 0]⟩
structure aDI (C:Ctx):Prop where
 same1:∀ l:List Int,Fits l→aH C 94 [ints l,ints l] .nil (aI (.bool true))
 fleet:∀ (l:List Nat),(∀ x∈l,x<256)→l.length≤9223372036854775807→∀ aTC aTE:Nat,aTC≤60→aTE≤50 →
  aH C 27 [.sl 1 (kF l),.int .i64 aTC,.int .i64 aTE] .nil (aI (.agg (gP (l.take 400) aTC aTE 0).1.cells))
 all:∀ (f:aD) (aTO:Int),f.Ok→aH C 205 [.agg f.cells,.int .i64 aTO] .nil (aI (.tup [lay (tc f aTO),.int .i64 (DT f aTO)]))
 NE:∀ (f:aD) (lv cnt:Int),f.Ok→aH C 230 [.agg f.cells,jm lv cnt] .nil (aI (.tup [lay (rX f lv cnt),.int .i64 (kE f lv cnt)]))
 loss:∀ (f:aD) (aTO:Int) (set:List Int) (lv cnt:Int),f.Ok→set.length≤1000000000000000→aH C 209 [.agg f.cells,.int .i64 aTO,ints set,jm lv cnt] .nil (aI (.tup [.int .i64 (KP f aTO set lv cnt:Nat),.int .i64 (rU f aTO set lv cnt)]))
theorem awO {C:Ctx} (same1:∀ l:List Int,Fits l→aH C 94 [ints l,ints l] .nil (aI (.bool true))) (a:List (List Int)) (i:a.length≤9000000000000000000) (e:∀ w∈a,w.length≤9000000000000000000) :
  JF.wp C (aU aiF.res (aI (.bool true))) (PF.args [lay a,lay a]) .nil:=by
 simp only[go_sem,JF,Kd,Ke,aiF,aUN,cA (show (a.length:Int)=(a.length:Nat) from rfl),Kf];refine wp_loop (α:=Nat) (fun k=>(((PF.nil.set 0 (lay a)).set 1 (lay a)).set 5 (.int .i64 k))) (fun _=>.nil) (fun k=>k≤a.length) (fun k=>a.length-k) 0 (aUT _) Lq a_ ?_;intro k p;simp only[go_sem,Kc,Kg,aUN];by_cases hlt:k<a.length
 ·have c:(k:Int)<(a.length:Nat):=Om;have d:(a.map fun w=>[ints w])[k]?=some [ints a[k]]:=by simp[hlt]
  have u:=e a[k] (aUQ hlt);generalize a[k]=x at *
  simp only[go_sem,c];refine bS .nil (cyS (.bool true)) a_ ?_;simp only[go_sem,Kh,d,aUN];refine bY rfl (same1 x Om) Sq a_ ?_;simp only[go_sem,aUW,Ki,wZz k];exact aG (k+1) hlt Om Lq a_
 ·have c:¬ (k:Int)<(a.length:Nat):=Om;simp only[go_sem,c,Kj];refine aR (.inr rfl) Ev ?_;rfl
noncomputable def pK:aD:=(gP [] 1 0 0).1
theorem WW:pK.Ok:=aKR (by decide +kernel)
theorem ep:tc pK 0=[[0]]∧DT pK 0=0∧DT pK 5=1:=by decide +kernel
theorem Cz:rX pK 5 1=[[0]]∧kE pK 5 1=0:=by decide +kernel
theorem Cy:KP pK 0 [0] 1 1=1∧rU pK 0 [0] 1 1=0:=by decide +kernel
structure anK (C:Ctx):Prop extends aDI C where
 sets:∀ a:List (List Int),a.length≤9000000000000000000→(∀ w∈a,w.length≤9000000000000000000)→aH C 212 [lay a,lay a] .nil (aI (.bool true))
theorem aqA {C:Ctx} (L:anK C):ET.wp C (aU Pt.res (aI (.bool true))) (PF.args []) .nil:=by
 have p:=L.fleet [] (fun x u=>by cases u) (by decide) 1 0 (by decide) (by decide);have c:aH C 27 [.sl 1 (kF []),.int .i64 (1:Nat),.int .i64 (0:Nat)] .nil (aI (.agg pK.cells)):=p;have d:=L.all pK 0 WW;rw[ep.1,ep.2.1] at d;have e:=L.NE pK 5 1 WW;rw[Cz.1,Cz.2] at e;have i:=L.loss pK 0 [0] 1 1 WW (by decide);rw[Cy.1,Cy.2] at i;have l:=L.all pK 5 WW;rw[ep.2.2] at l;have h5:=L.sets [[0]] (by decide) (by decide);generalize pK=f at *
 simp only[go_sem,ET,Au,Av,Pt];refine aA (c.args (.ahU (.nil 1) (.ahU (.refl _) (.ahU (.refl _) .aQP)))) (by simp only[go_sem]; rfl) ?_;simp only[go_sem];refine aO fun o w=>?_;simp only[go_sem,Aw];refine aA d Sq ?_;simp only[go_sem,Ax];refine aA e Sq ?_;simp only[go_sem,Ay];refine aA i (by simp only[go_sem]; rfl) ?_;simp only[go_sem,Az];refine aA l Sq ?_;simp only[go_sem,A0,bP (show (0:Int)=0 from rfl)];refine aA h5 (by simp only[go_sem]; rfl) ?_;simp only[go_sem,bP (show (0:Int)=0 from rfl)];refine aA h5 (by simp only[go_sem]; rfl) ?_;simp only[go_sem,bP (show (0:Int)=0 from rfl),bP (show ((1:Nat):Int)=1 from rfl),bP (show (1:Int)=1 from rfl)];refine aR (.inr rfl) Ev ?_;rfl
theorem Xa (n k a:Nat) (h:a<n):dP n (k+1) a=(dP n k (a+1)).map (a::·)++dP n (k+1) (a+1):=by
 rw[dP];by_cases c:n-k-a=0
 ·have d:n-k-(a+1)=0:=Om;rw[dP,c,d];have:dP n k (a+1)=[]:=by
   cases k with
   | zero=>omega
   | succ k=>rw[dP,show n-k-(a+1)=0 by omega]; rfl
  rw[this]; rfl
 ·obtain⟨m,e⟩:∃ m,n-k-a=m+1:=⟨n-k-a-1,by omega⟩;rw[dP,e,List.range'_succ,List.flatMap_cons,show n-k-(a+1)=m by omega]
def Grow (P:List Nat→Bool):Prop:=∀ s t:List Nat,(∀ x∈s,x∈t)→P s=true→P t=true
theorem Grow.cons {P:List Nat→Bool} (h:Grow P) (a:Nat):Grow fun s=>P (a::s):=fun s t c i =>
 h (a::s) (a::t) (fun x d=>(aVC.1 d).elim (fun e=>e ▸ List.mem_cons_self) fun d=>List.mem_cons_of_mem _ (c x d)) i
def jC (n k a:Nat) (P:List Nat→Bool):Nat:=(dP n k a).countP P
theorem AL (n k a:Nat) (h:a<n) (P:List Nat→Bool):jC n (k+1) a P=jC n k (a+1) (fun s=>P (a::s))+jC n (k+1) (a+1) P:=by
 unfold jC;rw[Xa n k a h,aYH,List.countP_map];rfl
theorem aoE (n k a:Nat) {P Q:List Nat→Bool} (h:∀ s,P s=true→Q s=true):jC n k a P≤jC n k a Q:=List.countP_mono_left fun s _ c=>h s c
theorem DZ (n a:Nat) (P:List Nat→Bool):jC n 0 a P=if P [] then 1 else 0:=by
 unfold jC; rw[dP,aXZ,List.countP_nil,aVH]
theorem IN (n:Nat):∀ (m k a:Nat) (P:List Nat→Bool),Grow P→a+m=n→(m-k)*jC n k a P≤(k+1)*jC n (k+1) a P
 | 0,k,a,P,_,_=>by rw[Nat.zero_sub,Nat.zero_mul]; exact aUT _
 | m+1,0,a,P,d,h=>by
  rw[AL n 0 a Om,DZ,DZ];have l:=IN n m 0 (a+1) P d Om;rw[DZ] at l;cases i:P [] with
  | false=>rw[if_neg (by simp)]; omega
  | true =>have p:P [a]=true:=d [] [a] (fun x e=>by cases e) i;rw[if_pos i] at l;rw[if_pos rfl,if_pos p];omega
 | m+1,k+1,a,P,d,h=>by
  have B:=IN n m (k+1) (a+1) P d Om;have E:=IN n m k (a+1) (fun s=>P (a::s)) (d.cons a) Om;have u:=aoE n (k+1) (a+1) (P:=P) (Q:=fun s=>P (a::s)) fun s A=>d s (a::s) (fun x e=>List.mem_cons_of_mem _ e) A;rw[AL n k a Om,AL n (k+1) a Om];generalize jC n (k+1) (a+1) P=x at *
  generalize jC n (k+1+1) (a+1) P=y at *
  generalize jC n k (a+1) (fun s=>P (a::s))=z at *
  generalize jC n (k+1) (a+1) (fun s=>P (a::s))=w at *
  rw[show m+1-(k+1)=m-k by omega,aVF,aVF];have F:(m-k)*x≤(m-(k+1))*x+x:=by
   rcases aVL k m with c | c
   ·rw[show m-k=(m-(k+1))+1 by omega,aXR]; exact aUU _
   ·rw[show m-k=0 by omega,Nat.zero_mul]; exact aUT _
  have H:(k+1+1)*w=(k+1)*w+w:=aXR _ _;omega
theorem avR {n k:Nat} {P:List Nat→Bool} (e:Grow P) (h:2*k+1≤n):jC n k 0 P≤jC n (k+1) 0 P:=by
 have c:=IN n n k 0 P e Om;have d:(k+1)*jC n k 0 P≤(n-k)*jC n k 0 P:=aVV _ Om;exact Nat.le_of_mul_le_mul_left (aWE d c) Om
theorem N5 (f:aD) (u:List (List Int)) (k:Nat) (set:List Int) (m:Int):CM (rW f u k) set m=jC u.length k 0 fun s=>decide (((mD (cH ((aUO f.aTC.length).filter (qJ u s))) set:Nat):Int)>m):=by
 unfold CM rW jC;rw[List.countP_map];rfl
theorem apS {f:aD} {u:List (List Int)} {k:Nat} {set:List Int} {m:Int} (h:2*k+1≤u.length):CM (rW f u k) set m≤CM (rW f u (k+1)) set m:=by
 rw[N5,N5];refine avR (fun s t l w=>?_) h;have y:=of_decide_eq_true w;refine decide_eq_true ?_;have:mD (cH ((aUO f.aTC.length).filter (qJ u s))) set≤mD (cH ((aUO f.aTC.length).filter (qJ u t))) set:=by unfold mD;refine List.countP_mono_left fun d _ e=>?_;rw[List.contains_iff_mem] at e ⊢;unfold cH at e ⊢;rw[aVQ] at e ⊢;obtain⟨x,c,rfl⟩:=e;refine⟨x,?_,rfl⟩;rw[List.mem_filter] at c ⊢;refine⟨c.1,?_⟩;unfold qJ at c ⊢;rw[List.any_eq_true] at c ⊢;obtain⟨-,i,hi,p⟩:=c;exact⟨i,l i hi,p⟩
 omega
def lvC (L:Int) (ds:List cF):Nat:=ds.countP fun x=>decide (x.level=L)
theorem ayL (f:aD) (L:Int):((aUO f.aTF.length).filter fun i=>decide (lvl f i=L)).length=lvC L f.aTF:=by
 rw[← List.countP_eq_length_filter];unfold lvC lvl;have c:∀ (ds:List cF),(aUO ds.length).countP (fun i=>decide ((ds.map cF.level).getD i 0=L))=ds.countP fun x=>decide (x.level=L):=by
  intro ds
  induction ds with
  | nil=>rfl
  | cons d ds e =>rw[aWH,List.range_succ_eq_map,aXZ,List.countP_map,aXZ,← e];rfl
 exact c f.aTF
theorem I0:∀ m:Fin 10,∀ c:Fin 4,fA (m.val:Int) c.val≤512:=by decide
theorem atC (f:aD) (lv:Int):(iR f lv).length=if lv=5 then f.aTC.length else lvC lv f.aTF:=by
 unfold iR;split
 ·simp
 ·rw[aUN]; exact ayL f lv
structure BS (f:aD):Prop where
 ok:f.Ok
 valid:dJ f=true
 aTC:f.aTC.length≤9
 lv:∀ L:Int,1≤L→L≤4→lvC L f.aTF≤8
theorem BS.num {f:aD} (h:BS f) {lv:Int} (c:1≤lv) (h5:lv≤5):(iR f lv).length≤9:=by
 rw[atC];split
 ·exact h.aTC
 ·have:=h.lv lv c Om; omega
theorem BS.NE {f:aD} (h:BS f) {lv:Int} (d:1≤lv) (h5:lv≤5) {c:Nat} (i:1≤c) (l:c≤3):kE f lv c=0:=by
 have p:=h.num d h5;have e:=I0 ⟨(iR f lv).length,by omega⟩ ⟨c,by omega⟩;simp only at e;unfold kE;rw[h.valid,decide_eq_true d,decide_eq_true h5,decide_eq_true (Om:(1:Int)≤(c:Int)),decide_eq_true (Om:(c:Int)≤3),Bool.and_self,Bool.and_self,Bool.and_self,Bool.and_self,if_pos rfl,aWK,if_neg];have:=h.aTC;omega
theorem BS.all {f:aD} (h:BS f) {p:Int} (d:jZ f p=true):DT f p=0∧tc f p=uH f (kC f p):=by
 have c:DT f p=0:=by unfold DT;rw[d,if_pos rfl,if_neg];have:=h.aTC;omega
 exact⟨c,by unfold tc; rw[if_pos c]⟩
theorem avF {s:List Nat} {n top:Nat} (l:s.length=n) (p:∀ x∈s,x<top) (u:s.Pairwise (· < ·)):nM (cH s) n top=true:=by
 unfold nM;rw[fZ,l,decide_eq_true rfl,aVA];simp only[aVD,aVM];intro i hi;have d:i<s.length:=Om;have g:(cH s).getD i 0=(s[i]:Nat):=by unfold cH; simp[aUY,d]
 unfold mP;rw[g];have w:=p _ (aUQ d);simp only[aVE,Bool.or_eq_true,decide_eq_true_eq];refine⟨by omega,?_⟩;by_cases c:i=0
 ·exact .inl c
 ·right;have e:i-1<s.length:=Om;have g2:(cH s).getD (i-1) 0=(s[i-1]:Nat):=by unfold cH; simp[aUY,e]
  rw[g2];have:=List.pairwise_iff_getElem.1 u (i-1) i e d Om;omega
theorem aAS {f:aD} {p:Int} (c:jZ f p=true) {set:List Int} (h:set∈uH f (kC f p)):pC f p set=true∧set.length≤8:=by
 obtain⟨hV,-⟩:=AY c;have d:=hV.aTO _ (CI c).1;unfold uH at h;rw[List.mem_filter] at h;obtain⟨i,l⟩:=h;obtain⟨s,u,rfl⟩:=aVQ.1 i;obtain⟨k1,k2,y⟩:=BF _ _ _ _ u;have e:((pJ (kC f p)).toNat:Int)=pJ (kC f p):=by unfold pJ; omega
 have:=avF k1 (fun x w=>(k2 x w).2) y;rw[e] at this;refine⟨by unfold pC; rw[c,this,l]; rfl,?_⟩;rw[fZ,k1];unfold pJ; omega
theorem BS.more {f:aD} (h:BS f) {p:Int} (w:jZ f p=true) {lv:Int} (i:1≤lv) (h5:lv≤5) {c:Nat} (u:1≤c) (A:c≤2) (x:2*c+1≤(iR f lv).length) {set:List Int} (y:set∈uH f (kC f p)) :
  rU f p set lv c=0∧rU f p set lv ((c+1:Nat):Int)=0∧KP f p set lv c≤KP f p set lv ((c+1:Nat):Int):=by
 have s1:=h.NE i h5 u (Om:c≤3);have s2:=h.NE i h5 (Om:1≤c+1) (Om:c+1≤3);obtain⟨l,-⟩:=aAS w y;have d:rU f p set lv c=0:=by unfold rU; rw[s1,l]; rfl
 have e:rU f p set lv ((c+1:Nat):Int)=0:=by unfold rU; rw[s2,l]; rfl
 refine⟨d,e,?_⟩;unfold KP rX;rw[if_pos d,if_pos e,if_pos s1,if_pos s2,aWK,aWK];exact apS x
def fI:Nat→List Int→List Int
 | 0,row=>row.filter fun (x:Int)=>decide (x=-1)
 | n+1,row=>fI n row++row.filter fun (x:Int)=>decide (x=(n:Int))
theorem NM (p:Int→Bool) (row:List Int):∀ n:Nat,(fI n row).countP p=row.countP fun x=>p x&&(decide (-1≤x)&&decide (x<n))
 | 0=>by rw[fI,List.countP_filter];refine List.countP_congr fun x _=>?_;simp only[aVE,decide_eq_true_eq];exact and_congr_right fun _=>by omega
 | n+1=>by
  rw[fI,aYH,NM p row n,List.countP_filter]
  induction row with
  | nil=>rfl
  | cons x t i =>
   rw[aXZ,aXZ,aXZ];have e:((if (p x&&(decide (-1≤x)&&decide (x<(n:Int))))=true then 1 else 0)+(if (p x&&decide (x=(n:Int)))=true then 1 else 0):Nat)=if (p x&&(decide (-1≤x)&&decide (x<((n+1:Nat):Int))))=true then 1 else 0:=by
    cases p x with
    | false=>simp
    | true =>
     simp only[aVA,aVE,decide_eq_true_eq];by_cases c:-1≤x∧x<(n:Int)
     ·rw[if_pos c,if_neg Om,if_pos Om]
     ·rw[if_neg c];by_cases d:x=(n:Int)
      ·rw[if_pos d,if_pos Om]
      ·rw[if_neg d,if_neg Om]
   omega
theorem d9 {row:List Int} {n:Nat} (h:∀ x∈row,-1≤x∧x<n) (p:Int→Bool):(fI n row).countP p=row.countP p:=by
 rw[NM];refine List.countP_congr fun x c=>?_;have:=h x c;simp only[aVE,decide_eq_true_eq];exact⟨fun h=>h.1,fun h=>⟨h,this⟩⟩
theorem Sa {row:List Int} {n:Nat} (h:∀ x∈row,-1≤x∧x<n) {x:Int} (d:x∈fI n row):x∈row:=by
 have c:0<(fI n row).countP fun y=>decide (y=x):=List.countP_pos_iff.2 ⟨x,d,by simp⟩;rw[d9 h] at c;obtain⟨y,i,e⟩:=List.countP_pos_iff.1 c;rw[decide_eq_true_eq] at e;exact e ▸ i
theorem R9 {row:List Int} {n:Nat} (h:∀ x∈row,-1≤x∧x<n):(fI n row).length=row.length:=by
 have:=d9 h fun _=>true;simpa using this
theorem acZ (row:List Int):∀ n:Nat,∀ x∈fI n row,x<n
 | 0,x,hx=>by have:=(List.mem_filter.1 hx).2;rw[decide_eq_true_eq] at this;omega
 | n+1,x,hx=>by
  rw[fI,aWI] at hx;rcases hx with hx | hx
  ·have:=acZ row n x hx; omega
  ·have:=(List.mem_filter.1 hx).2;rw[decide_eq_true_eq] at this;omega
theorem acW {l:List Int} {a:Int} (h:∀ x∈l,x=a):l.Pairwise (·≤·):=by
 induction l with
 | nil=>exact .nil
 | cons y t e =>refine List.pairwise_cons.2 ⟨fun z d=>?_,e fun x c=>h x (List.mem_cons_of_mem _ c)⟩;rw[h y (by simp),h z (List.mem_cons_of_mem _ d)];exact Int.le_refl _
theorem YW (row:List Int):∀ n:Nat,(fI n row).Pairwise (·≤·)
 | 0=>acW (a:=-1) fun x c=>by
  have:=(List.mem_filter.1 c).2
  rwa [decide_eq_true_eq] at this
 | n+1=>by
  have d:∀ x∈row.filter fun x=>decide (x=(n:Int)),x=n:=fun x c=>by
   have:=(List.mem_filter.1 c).2
   rwa [decide_eq_true_eq] at this
  rw[fI];refine List.pairwise_append.2 ⟨YW row n,acW d,fun x c y e=>?_⟩;have:=acZ row n x c;rw[d y e];omega
theorem aJX {set:List Int} {n top:Int} (e:(set.length:Int)=n) (l:∀ x∈set,0≤x∧x<top) (p:set.Pairwise (· < ·)):nM set n top=true:=by
 unfold nM;rw[decide_eq_true e,aVA];simp only[aVD,aVM];intro i hi;have g:set.getD i 0=set[i]:=by simp[aUY,hi]
 unfold mP;rw[g];have u:=l _ (aUQ hi);simp only[aVE,Bool.or_eq_true,decide_eq_true_eq];refine⟨u,?_⟩;by_cases c:i=0
 ·exact .inl c
 ·right;have d:i-1<set.length:=Om;have g2:set.getD (i-1) 0=set[i-1]:=by simp[aUY,d]
  rw[g2];exact List.pairwise_iff_getElem.1 p (i-1) i d hi Om
theorem avE {set:List Int} {n top:Int} (h:nM set n top=true):∀ x∈set,0≤x:=by
 unfold nM at h;simp only[aVE,decide_eq_true_eq,aVD,aVM] at h;intro x c;obtain⟨i,hi,rfl⟩:=aVX c;have:=h.2 i hi;unfold mP at this;have g:set.getD i 0=set[i]:=by simp[aUY,hi]
 rw[g] at this;simp only[aVE,decide_eq_true_eq] at this;exact this.1.1
def qB (f:aD) (v:Nat):Int:=(f.aTE.map eT.aTO).getD v 0
theorem aCR {f:aD} (v:Nat):kC f (qB f v)=eZ f v:=rfl
theorem aEB {f:aD} (U:dJ f=true) {v:Nat} (F:v<f.aTE.length) {row:List Int} (J:(row.length:Int)=fQ f v) (E:∀ x∈row,-1≤x∧x<f.aTC.length) :
  pC f (qB f v) (fI f.aTC.length row)=TZ f (eZ f v) row:=by
 have hV:=VF.of U;obtain⟨hp,he⟩:=oN hV F;have B:=hV.aTO _ (aUQ hp);rw[he] at B;have W:=hV.volume v F;have V:qB f v=(f.aTE[v]).aTO:=by unfold qB; simp[aUY,F]
 have N:jZ f (qB f v)=true:=by unfold jZ;have:vL f v=(qB f v).toNat:=rfl;rw[U,decide_eq_true (show 0≤qB f v by rw[V]; exact W.1),decide_eq_true (Om:qB f v<(f.aTG.length:Nat))]; rfl
 have S:pJ (eZ f v)=(row.length:Nat):=by rw[J]; rfl
 have c:=fun q=>d9 E q;have O:=R9 E;have R:=YW row f.aTC.length;have A:∀ i,eK f (fI f.aTC.length row) i=eK f row i:=fun i=>by unfold eK; rw[c]
 have X:∀ d,d<f.aTC.length→(dU f.aTC.length row).getD d 0=(row.count (d:Int):Nat):=fun d h=>by simp[dU,aUY,h]
 have Y:∀ i,i<f.aTF.length→(dY f row).getD i 0=eK f row i:=fun i h=>by simp[dY,aUY,h]
 have K:∀ i (h:i<row.length),row.getD i 0=row[i]:=fun i h=>by simp[aUY,h]
 refine Bool.eq_iff_iff.2 ?_;rw[← acU U (fun l=>(B.2.2.2.2.2.2.1 l).1) v E];unfold qA pC;rw[List.append_eq_nil_iff,List.append_eq_nil_iff,List.append_eq_nil_iff,kG,kG,kG,kG,N,aVA,aCR,aVE,S];unfold nB kD;rw[aVE,aVD,aVD];constructor
 ·rintro⟨ha,hb,hs⟩;have h0:=avE ha;have hlt:=XC ha;have w:∀ x∈row,0≤x:=fun x u=>by have p:(fI f.aTC.length row).countP (fun y=>decide (y=x))=row.countP fun y=>decide (y=x):=c _;have H:0<row.countP fun y=>decide (y=x):=List.countP_pos_iff.2 ⟨x,u,by simp⟩;rw[← p] at H;obtain⟨y,hy,e⟩:=List.countP_pos_iff.1 H;rw[decide_eq_true_eq] at e;exact e ▸ h0 y hy
  refine⟨⟨⟨fun i hi=>?_,fun d hd=>?_⟩,fun i hi=>?_⟩,fun i hi=>?_⟩
  ·unfold home;rw[K i hi,decide_eq_false_iff_not];have:=w _ (aUQ hi);omega
  ·unfold nI;rw[X d hd,decide_eq_false_iff_not];have p:(fI f.aTC.length row).count (d:Int)≤1:=List.nodup_iff_count.1 (hlt.imp fun h=>Int.ne_of_lt h) (d:Int);unfold List.count at p ⊢;rw[c] at p;omega
  ·unfold eG;rw[K i hi];have hm:=aUQ hi;have p:row.countP (fun x=>!rJ f (eZ f v) x)=0:=by rw[← c];exact List.countP_eq_zero.2 fun x u=>by rw[hb x u]; decide
   have H:=List.countP_eq_zero.1 p _ hm;have M:rJ f (eZ f v) row[i]=true:=by simpa using H
   unfold rJ at M;rw[M];simp
  ·have:=hs i (aVM.2 hi);rw[A] at this;unfold qI;rw[Y i hi];simp only[Bool.not_eq_true',Bool.and_eq_false_iff,decide_eq_false_iff_not] at this ⊢;exact this
 ·rintro⟨⟨⟨H,M⟩,h4⟩,h5⟩;have w:∀ x∈row,0≤x:=fun x u=>by obtain⟨i,hi,rfl⟩:=aVX u;have:=H i hi;unfold home at this;rw[K i hi,decide_eq_false_iff_not] at this;omega
  refine⟨?_,fun x u=>?_,fun i hi=>?_⟩
  ·refine aJX (by rw[O]) (fun x u=>?_) ?_
   ·have p:=Sa E u;exact⟨w x p,(E x p).2⟩
   ·have Q:(fI f.aTC.length row).Nodup:=List.nodup_iff_count.2 fun x=>by
     by_cases u:x∈row
     ·have p:=w x u;have α:=(E x u).2;have:=M x.toNat Om;unfold nI at this;rw[X _ Om,decide_eq_false_iff_not,Int.toNat_of_nonneg p] at this;have Z:(fI f.aTC.length row).count x=row.count x:=c _;omega
     ·have Z:(fI f.aTC.length row).count x=row.count x:=c _;rw[Z,List.count_eq_zero_of_not_mem u];omega
    exact (List.Pairwise.and R Q).imp fun ⟨a,b⟩=>by omega
  ·have p:=Sa E u;obtain⟨i,hi,rfl⟩:=aVX p;have:=h4 i hi;unfold eG at this;rw[K i hi,decide_eq_true (w _ p),aVA] at this;unfold rJ;simpa using this
  ·have:=h5 i (aVM.1 hi);unfold qI at this;rw[Y i (aVM.1 hi)] at this;rw[A];simp only[Bool.not_eq_true',Bool.and_eq_false_iff,decide_eq_false_iff_not] at this ⊢;exact this
def Nm (f:aD) (l:List (List Int)) (room:List Int):Bool:=((aUO f.aTC.length).all fun d=>decide ((fW f l).getD d 0≤(jJ f room).getD d 0))&&(aUO l.length).all fun v=>pC f (qB f v) (fI f.aTC.length (l.getD v []))
theorem ajM {f:aD} (y:dJ f=true) {l:List (List Int)} (u:uV f l) (room:List Int):AV f l room=Nm f l room:=by
 rw[ahV y u];unfold tr Nm;rw[pX];have p:∀ {a b c d:Bool},a=c→b=d→(a&&b)=(c&&d):=fun h g=>by rw[h,g]
 refine p ?_ ?_
 ·refine Bool.eq_iff_iff.2 ?_;rw[aVD,aVD];refine forall_congr' fun d=>forall_congr' fun w=>?_;have w:=aVM.1 w;have A:(fW f l).getD d 0=(l.flatten.count (d:Int):Nat):=by simp[fW,dU,aUY,w]
  have x:d<(jJ f room).length:=by rw[pX]; exact w
  have B:(Sd (jJ f room) l.flatten).getD d 0=(jJ f room).getD d 0-(l.flatten.count (d:Int):Nat):=by simp[Sd,aUY,x]
  rw[A,B,decide_eq_true_eq,decide_eq_true_eq];omega
 ·refine Bool.eq_iff_iff.2 ?_;rw[aVD,aVD];refine forall_congr' fun v=>forall_congr' fun E=>?_;have i:=aVM.1 E;have e:l.getD v []=l[v]:=by simp[aUY,i]
  rw[e,aEB y (by rw[← u.len]; exact i) (u.row v i) (u.home _ (aUQ i))]
def A3:Rg:=[iT 2 false]
def A4:Rg:=[iM 15 0,iK 16 28 15,iM 3 16]
def A5:Rg:=[iM 17 3,iA 18 (.call 0 [(Tm 17),(Ci 8),(Ci 4)]),iA 4 (.alloc [zI,.aB,.aB,.aB,.aB,.aB,.aB]),iS 7 4 18]
def A6:Rg:=[iM 19 3,iO 20 7 4,iK2 21 3 19 20,iM 5 21]
def A7:Rg:=[iM 22 3,iO 23 7 4,iK2 24 6 22 23,iM 6 24]
def A8:Rg:=[iO 25 7 4,iM 26 6,iK2 27 152 25 26,iM 7 27]
def A9:Rg:=[iM 28 7,iN 29 28,iF 30 4 4,iL 31 30,iN 32 31,iB 33 .neq 29 32]
def aqF:Rg:=[iT 2 false]
def Ba:Rg:=[iT 8 true]
def Bb:Rg:=[iO 34 7 4,iM 35 5,iK2 36 84 34 35,iM 9 36]
def my:Rg:=[iI 10 0]
def mz:Rg:=[iM 37 10,iM 38 7,iN 39 38,iB 40 .lss 37 39]
def MA:Rd:=[(iM 43 8,false),(iM 44 43,false),(gM 45 9 44 true,false),(gM 46 10 44 true,false),(iG 47 (.aTT 1 (Tm 45) (Tm 46)) 44 true,false),(gL 48 47 44 true,false),(gM 49 7 44 true,false),(gM 50 10 44 true,false),(iG 51 (.aTT 1 (Tm 49) (Tm 50)) 44 true,false),(gL 52 51 44 true,false),(gB 53 .leq 48 52 44 true,false),(iP 54 44 53,false),(iM 8 54,false)]
def MB:Rg:=[iM 41 10,iC 42 .add 41 1,iM 10 42]
def mw:aC:=(.seq (sq mz (.cond (Tm 40) .skip (.exit 0))) (.seq (.block 1 (.draw MA)) (.region MB)))
def m5:Rg:=[iI 11 0]
def m6:Rg:=[iM 55 11,iM 56 5,iN 57 56,iB 58 .lss 55 57]
def m7:Rg:=[iZ 12]
def m8:Rg:=[iI 13 (-1)]
def m9:Rg:=[iM 61 13,iF 62 4 4,iL 63 62,iN 64 63,iB 65 .lss 61 64]
def na:Rg:=[iI 14 0]
def nb:Rg:=[iM 68 14,iM 69 5,iM 70 11,iX 71 1 69 70,iL 72 71,iN 73 72,iB 74 .lss 68 73]
def nc:Rg:=[iM 77 5,iM 78 11,iX 79 1 77 78,iL 80 79,iM 81 14,iX 82 1 80 81,iL 83 82,iM 84 13,iB 85 .eql 83 84]
def ni:Rg:=[iM 86 12,iM 87 13,iA 88 (.aTI true 1 1 [zI] [(0,(Tm 87))]),iA 89 (.append 1 8 (Tm 86) (Tm 88)),iM 12 89]
def MC:Rg:=[iM 75 14,iC 76 .add 75 1,iM 14 76]
def LX:aC:=(.seq (sq nb (.cond (Tm 74) .skip (.exit 6))) (.seq (.block 7 (sq nc (.cond (Tm 85) (.region ni) .skip))) (.region MC)))
def nj:Rg:=[iM 66 13,iC 67 .add 66 1,iM 13 67]
def LY:aC:=(.seq (sq m9 (.cond (Tm 65) .skip (.exit 4))) (.seq (.block 5 (sq na (.block 6 (.loop LX)))) (.region nj)))
def MD:Rd:=[(iM 90 8,false),(iM 91 90,false),(gO 92 7 4 91 true,false),(gF 93 6 4 91 true,false),(gL 94 93 91 true,false),(gM 95 11 91 true,false),(iG 96 (.aTT 2 (Tm 94) (Tm 95)) 91 true,false),(gF 97 1 96 91 true,false),(gL 98 97 91 true,false),(gM 99 12 91 true,false),(iG 100 (.call 204 [(Tm 92),(Tm 98),(Tm 99)]) 91 true,true),(iP 101 91 100,false),(iM 8 101,false)]
def MF:Rg:=[iM 59 11,iC 60 .add 59 1,iM 11 60]
def LZ:aC:=(.seq (sq m6 (.cond (Tm 58) .skip (.exit 2))) (.seq (.block 3 (sq m7 (.seq (sq m8 (.block 4 (.loop LY))) (.draw MD)))) (.region MF)))
def nn:Rg:=[iO 102 7 4,iM 103 5,iM 104 6,iA 105 (.call 150 [(Tm 102),(Tm 103),(Tm 104)]),iM 106 8,iA 107 (.eqb false (Tm 105) (Tm 106)),iM 108 107,iG 109 (.call 222 []) 108 true,iP 110 108 109,iM 2 110]
def FH:aC:=(sq A3 (sq A4 (sq A5 (sq A6 (sq A7 (sq A8 (.seq (sq A9 (.cond (Tm 33) (sq aqF .ret) .skip)) (sq Ba (sq Bb (.seq (sq my (.block 0 (.loop mw))) (.seq (sq m5 (.block 2 (.loop LZ))) (sq nn .ret))))))))))))
def aqG:List Nat:=[88]
def mu:aZ:=⟨1,111,FH,[.tmp 2]⟩










structure auY (C:Ctx):Prop where
 new:∀ (l:List Nat),(∀ x∈l,x<256)→l.length≤9223372036854775807→aH C 28 [.sl 1 (kF l)] .nil (Hy l)
 tfleet:∀ (l:List Nat) (v:PV),Tp l v→∀ (o aTC aTE a:Nat),aTC≤60→aTE≤50→a≤l.length →
  aH C 0 [.ptr o 2 0 0,.int .i64 aTC,.int .i64 aTE] (PH.nil.set o (bA v a)) (fun r H=>r=.agg (gP l aTC aTE a).1.cells∧H=PH.nil.set o (bA v (gP l aTC aTE a).2))
 tlayout:∀ (l:List Nat) (v:PV),Tp l v→∀ (o a:Nat) (f:aD),VF f→a≤l.length→aH C 3 [.ptr o 2 0 0,.agg f.cells] (PH.nil.set o (bA v a)) (fun r H=>r=lay (dE l f a f.aTE.length).1∧H=PH.nil.set o (bA v (dE l f a f.aTE.length).2))
 WX:∀ (l:List Nat) (v:PV),Tp l v→∀ (o a:Nat) (f:aD),f.aTC.length≤1000→a≤l.length→aH C 6 [.ptr o 2 0 0,.agg f.cells] (PH.nil.set o (bA v a)) (fun r H=>r=ints (rV l f a).1∧H=PH.nil.set o (bA v (rV l f a).2))
 room:∀ (f:aD) (room:List Int),f.Ok→aH C 152 [.agg f.cells,ints room] .nil (aI (ints (NB f room)))
 rloads:∀ (f:aD) (l:List (List Int)),f.Ok→oE l→aH C 84 [.agg f.cells,lay l] .nil (aI (ints (SM f l)))
 holds:∀ (f:aD) (l:List (List Int)) (room:List Int),f.Ok→oE l→aH C 150 [.agg f.cells,lay l,ints room] .nil (aI (.bool (AV f l room)))
 admis:∀ (f:aD) (aTO:Int) (set:List Int),f.Ok→set.length≤1000000000000000→aH C 204 [.agg f.cells,.int .i64 aTO,ints set] .nil (aI (.bool (pC f aTO set)))
 awake:aH C 222 [] .nil (aI (.bool true))
def Ih (row:List Int):Nat→List Int
 | 0=>[]
 | j+1=>fI j row
theorem anP (row:List Int) (j:Nat):Ih row j++row.filter (fun x=>decide (x=(j:Int)-1))=Ih row (j+1):=by
 cases j with
 | zero=>rfl
 | succ j =>show fI j row++_=fI (j+1) row;rw[fI];congr 2;funext x;exact decide_eq_decide.2 Om
theorem aAU (row:List Int) (n:Nat):(fI n row).length≤row.length:=by
 have h:=NM (fun _=>true) row n;rw[List.countP_true] at h;rw[h];exact List.countP_le_length
theorem aEA (row:List Int) (j:Nat):(Ih row j).length≤row.length:=by
 cases j with
 | zero=>exact aUT _
 | succ j=>exact aAU row j
theorem aqD {C:Ctx} (f:aD) (L:List (List Int)) (y:List Int) (v:Nat) (Z:v<L.length) (row:List Int) (B:L[v]=row) (Q:row.length≤100) (b:Bool) (d:Int) (c:List Int) (O:c.length≤100) (q:Nat) (w:PV) (K:bR) [Up K] (F:PF) (H:PH)
  (V:(((((((((PF.nil.set 4 (.ptr q 7 0 0)).set 5 (lay L)).set 6 (ints y)).set 8 (.bool b)).set 11 (.int .i64 v)).set 12 (w)).set 13 (.int .i64 d)).set 14 (.int .i64 0))).le F)
  (W:aM H [(q,.rows 7 [f.cells])] [(w,1,aW c)])
  (X:∀ R H',aM H' [(q,.rows 7 [f.cells])] [(R,1,aW (c++row.filter fun x=>decide (x=d)))]→K (.exit 6) ((((((((PF.nil.set 4 (.ptr q 7 0 0)).set 5 (lay L)).set 6 (ints y)).set 8 (.bool b)).set 11 (.int .i64 v)).set 12 (R)).set 13 (.int .i64 d))) H') :
  aC.wp C (.loop LX) K F H:=by
 have u:(L.map fun r=>[ints r])[v]?=some [ints row]:=by rw[aVN,aVB Z,B]; rfl
 have E:(v:Int)<(L.length:Nat):=Om;refine rZ _ (fun _ _ _ _ a b=>Up.up a b) V ?_;refine wp_loop (α:=Nat × PV × PH) (fun t=>((((((((PF.nil.set 4 (.ptr q 7 0 0)).set 5 (lay L)).set 6 (ints y)).set 8 (.bool b)).set 11 (.int .i64 v)).set 12 (t.2.1)).set 13 (.int .i64 d)).set 14 (.int .i64 t.1))) (fun t=>t.2.2)
  (fun t=>t.1≤row.length∧aM t.2.2 [(q,.rows 7 [f.cells])] [(t.2.1,1,aW (c++(row.take t.1).filter fun x=>decide (x=d)))]) (fun t=>row.length-t.1) (0,w,H) ⟨aUT _,by rw[aXW,List.filter_nil,aWF]; exact W⟩ Lq b_ ?_
 rintro⟨i,M,N⟩ ⟨hi,A⟩;simp only at hi A ⊢;simp only[go_sem,LX,nb,E,u,aUN];by_cases hlt:i<row.length
 ·have l:(i:Int)<(row.length:Nat):=Om;have J:(row.map fun x=>[PV.int .i64 x])[i]?=some [.int .i64 row[i]]:=by simp[hlt]
  have p:(row.take (i+1)).filter (fun x=>decide (x=d))=(row.take i).filter (fun x=>decide (x=d))++if row[i]=d then [row[i]] else []:=by
   rw[aWN hlt,List.filter_append];congr 1;by_cases e:row[i]=d
   ·simp[e]
   ·simp[e]
  have Y:((row.take i).filter fun x=>decide (x=d)).length≤100:=aWE (List.length_filter_le ..) (by rw[aVJ]; omega);simp only[go_sem,l,nc,E,u,J,aUN];by_cases e:row[i]=d
  ·rw[if_pos e,e] at p;simp only[go_sem,bP e,ni];refine A.append 0 (src:=[[.int .i64 d]]) rfl Sq (by unfold roomFor; rw[cV,aUS]; simp only[aUX,maxLen]; omega) fun S H2 U _=>?_;simp only[go_sem,MC,wZz i];refine aG (i+1,S,H2) ⟨hlt,?_⟩ (by simp only; omega) Lq b_;show aM H2 [(q,.rows 7 [f.cells])] [(S,1,aW (c++(row.take (i+1)).filter fun x=>decide (x=d)))];rw[p,← aVS,AX _ [d]];exact U
  ·rw[if_neg e,aWF] at p;simp only[go_sem,bG e,MC,wZz i];refine aG (i+1,M,N) ⟨hlt,?_⟩ (by simp only; omega) Lq b_;show aM N [(q,.rows 7 [f.cells])] [(M,1,aW (c++(row.take (i+1)).filter fun x=>decide (x=d)))];rw[p];exact A
 ·have l:¬ (i:Int)<(row.length:Nat):=Om;have:i=row.length:=Om;subst this;rw[aVP] at A;simp only[go_sem,l];exact Up.up Lq (X M _ A)
theorem akQ {C:Ctx} (f:aD) (N:f.aTC.length≤24) (L:List (List Int)) (d:List Int) (v:Nat) (E:v<L.length) (row:List Int) (i:L[v]=row) (e:row.length≤100) (b:Bool) (q:Nat) (K:bR) [Up K] (F:PF) (H:PH)
  (x:((((((((PF.nil.set 4 (.ptr q 7 0 0)).set 5 (lay L)).set 6 (ints d)).set 8 (.bool b)).set 11 (.int .i64 v)).set 12 (.aB)).set 13 (.int .i64 (-1)))).le F)
  (y:aM H [(q,.rows 7 [f.cells])] [])
  (A:∀ p H',aM H' [(q,.rows 7 [f.cells])] [(p,1,aW (fI f.aTC.length row))]→K (.exit 4) (((((((PF.nil.set 4 (.ptr q 7 0 0)).set 5 (lay L)).set 6 (ints d)).set 8 (.bool b)).set 11 (.int .i64 v)).set 12 (p))) H') :
  aC.wp C (.loop LY) K F H:=by
 refine rZ _ (fun _ _ _ _ a b=>Up.up a b) x ?_;refine wp_loop (α:=Nat × PV × PH) (fun t=>(((((((PF.nil.set 4 (.ptr q 7 0 0)).set 5 (lay L)).set 6 (ints d)).set 8 (.bool b)).set 11 (.int .i64 v)).set 12 (t.2.1)).set 13 (.int .i64 ((t.1:Int)-1)))) (fun t=>t.2.2)
  (fun t=>t.1≤f.aTC.length+1∧aM t.2.2 [(q,.rows 7 [f.cells])] [(t.2.1,1,aW (Ih row t.1))]) (fun t=>f.aTC.length+1-t.1) (0,.aB,H) ⟨aUT _,y.mI 1⟩ (by (repeat' (first|exact d_|refine c_ ?_ ?_))<;>first|(simp only[go_sem,show (((0:Nat):Int)-1)=-1 from rfl]<;>rfl)|rfl) b_ ?_
 rintro⟨j,w,M⟩ ⟨B,l⟩;simp only at B l ⊢;have eq:=l.at 0 rfl;simp only[go_sem,LY,m9,eq,aUN];by_cases hlt:j<f.aTC.length+1
 ·have c:(j:Int)-1<(f.aTC.length:Nat):=Om;have J:IntKind.i64.wrap ((j:Int)-1+1)=((j+1:Nat):Int)-1:=by rw[wrap_i64 Om Om]; omega
  simp only[go_sem,c,na];refine aqD f L d v E row i e b ((j:Int)-1) (Ih row j) (aWE (aEA row j) e) q w _ _ _ Lq l fun p H' u=>?_;rw[anP] at u;simp only[go_sem,nj,J];exact aG (j+1,p,H') ⟨hlt,u⟩ (by simp only; omega) Lq b_
 ·have c:¬ (j:Int)-1<(f.aTC.length:Nat):=Om;have:j=f.aTC.length+1:=Om;subst this;simp only[go_sem,c];exact Up.up Lq (A w _ l)
def hdS (D:List Nat) (r:PV):Spec:=fun _ _=>some (D,fun G c H'=>c=r∧H'=G)
def uF (f:aD) (L:List (List Int)) (v:Nat):Bool:=(aUO v).all fun v=>pC f (qB f v) (fI f.aTC.length (L.getD v []))
theorem W5 (f:aD) (L:List (List Int)) (v:Nat):uF f L (v+1)=(uF f L v&&pC f (qB f v) (fI f.aTC.length (L.getD v []))):=by
 unfold uF;rw[aXV,List.all_append,List.all_cons,List.all_nil,aWQ]
theorem Ww {C:Ctx} (Lb:auY C) (f:aD) (hf:f.Ok) (hv:dJ f=true) (L:List (List Int)) (R:uV f L) (p:List Int) (A:Bool) (q:Nat) (K:bR) [Up K] (F:PF) (H:PH)
  (hF:((((((PF.nil.set 4 (.ptr q 7 0 0)).set 5 (lay L)).set 6 (ints p)).set 8 (.bool A)).set 11 (.int .i64 0))).le F)
  (hH:aM H [(q,.rows 7 [f.cells])] [])
  (hK:∀ H',aM H' [(q,.rows 7 [f.cells])] []→K (.exit 2) (((((PF.nil.set 4 (.ptr q 7 0 0)).set 5 (lay L)).set 6 (ints p)).set 8 (.bool (A&&uF f L L.length)))) H') :
  aC.wp C (.loop LZ) K F H:=by
 have hV:=VF.of hv;have hd:=hV.small.aTC;have δ:=hV.small.aTE;refine rZ _ (fun _ _ _ _ a b=>Up.up a b) hF ?_;refine wp_loop (α:=Nat × PH) (fun t=>(((((PF.nil.set 4 (.ptr q 7 0 0)).set 5 (lay L)).set 6 (ints p)).set 8 (.bool (A&&uF f L t.1))).set 11 (.int .i64 t.1))) (fun t=>t.2)
  (fun t=>t.1≤L.length∧aM t.2 [(q,.rows 7 [f.cells])] []) (fun t=>L.length-t.1) (0,H) ⟨aUT _,hH⟩ (by (repeat' (first|exact d_|refine c_ ?_ ?_))<;>first|(simp only[go_sem,show uF f L 0=true from rfl,aWQ]<;>rfl)|rfl) b_ ?_
 rintro⟨v,H1⟩ ⟨Y,Q⟩;simp only at Y Q ⊢;simp only[go_sem,LZ,m6,aUN];by_cases hlt:v<L.length
 ·have e:(v:Int)<(L.length:Nat):=Om;have l:v<f.aTE.length:=by rw[← R.len]; exact hlt
  have y:(v:Int)<(f.aTE.length:Nat):=Om;have S:(f.aTE.map eT.cells)[v]?=some (f.aTE[v]).cells:=by simp[l]
  have X:qB f v=(f.aTE[v]).aTO:=by unfold qB; simp[aUY,l]
  have U:L.getD v []=L[v]:=by simp[aUY,hlt]
  have γ:=R.row v hlt;have V:=R.home _ (aUQ hlt);obtain⟨hp,he⟩:=oN hV l;have J:=hV.aTO _ (aUQ hp);rw[he] at J;have β:fQ f v=(eZ f v).k+(eZ f v).m:=rfl;have i:=W5 f L v;rw[U] at i;generalize hr:L[v]=row at *
  have M:(fI f.aTC.length row).length=row.length:=R9 V;have W:fI f.aTC.length row≠[]:=fun h=>by rw[h] at M; simp at M; omega
  have B:=Lb.admis f (qB f v) (fI f.aTC.length row) hf Om;generalize hb:(A&&uF f L v)=b at *
  have c:(A&&uF f L (v+1))=(b&&pC f (qB f v) (fI f.aTC.length row)):=by rw[i,← aXN,hb]
  simp only[go_sem,e,m7,m8];refine akQ f hd L p v hlt row hr Om b q _ _ _ Lq Q fun w H2 N=>?_;have eq:=N.at 0 rfl;cases E:b with
  | false =>rw[E,aUV] at c;simp only[go_sem];refine bS .nil dT a_ ?_;simp only[go_sem,MD];simp only[go_sem,MF,wZz v];exact aG (v+1,H2) ⟨hlt,N.jj 0⟩ (by simp only; omega) (by (repeat' (first|exact d_|refine c_ ?_ ?_))<;>first|(simp only[go_sem,c]<;>rfl)|rfl) b_
  | true =>
   rw[E,aVA] at c;obtain⟨p',rfl,O,d⟩:=zw (C:=C) (name:=204) (pre:=[.agg f.cells,.int .i64 (qB f v)]) (u:=.bool (pC f (qB f v) (fI f.aTC.length row))) (.bool _) (fun x O=>by
    simp only[aVC,aVK,or_false] at O;rcases O with rfl | rfl
    ·exact fun _ _ _=>rfl
    ·exact .int _ _) (N.own 0 rfl) W B
   rw[X] at d c;simp only[go_sem];refine bS .nil (hdS [p'] (.bool (pC f (f.aTE[v]).aTO (fI f.aTC.length row)))) a_ ?_;simp only[go_sem,MD,eq,y,S,aUN];refine aoL (D:=[p']) rfl (fun o Z=>by rw[aWV] at Z; subst Z; exact O) d (by simp only[go_sem]; rfl) a_ ?_;simp only[go_sem,MF,wZz v];exact aG (v+1,H2) ⟨hlt,N.jj 0⟩ (by simp only; omega) (by (repeat' (first|exact d_|refine c_ ?_ ?_))<;>first|(simp only[go_sem,c]<;>rfl)|rfl) b_
 ·have e:¬ (v:Int)<(L.length:Nat):=Om;have:v=L.length:=Om;subst this;simp only[go_sem,e];exact Up.up Lq (hK _ Q)
theorem aqE {C:Ctx} (e:auY C) (l:List Nat) (hb:∀ x∈l,x<256) (hl:l.length≤9223372036854775807) :
  FH.wp C (aU mu.res (aI (.bool true))) (PF.args [.sl 1 (kF l)]) .nil:=by
 obtain⟨M,O⟩:=awT l (d:=8) (v:=4) (by decide) (by decide);have hV:=VF.of M;have hd:=hV.small.aTC;have Y:=aQN l (d:=8) (v:=4) (by decide) (by decide);have a1:=y6 (l.take 400) 8 4 (aUT _);have a2:=(yC (l.take 400) (fT l 8 4) a1 (fT l 8 4).aTE.length).1;have F:=Y.ok hV;have p:=ajM M Y (rT l 8 4);have J:=pX (fT l 8 4) (rT l 8 4);have hR:=e.room (fT l 8 4) (rT l 8 4) O;have E:=e.rloads (fT l 8 4) (lT l 8 4) O F;have V:=e.holds (fT l 8 4) (lT l 8 4) (rT l 8 4) O F;rw[show NB (fT l 8 4) (rT l 8 4)=jJ (fT l 8 4) (rT l 8 4) from by unfold NB; rw[if_pos M]] at hR;rw[show SM (fT l 8 4) (lT l 8 4)=fW (fT l 8 4) (lT l 8 4) from by unfold SM; rw[if_pos M]] at E;have δ:(fW (fT l 8 4) (lT l 8 4)).length=(fT l 8 4).aTC.length:=by simp[fW,dU]
 unfold Nm at p;rw[p] at V;generalize ε:jJ (fT l 8 4) (rT l 8 4)=R at *
 generalize γ:fW (fT l 8 4) (lT l 8 4)=W at *
 simp only[go_sem,FH,A3,mu,A4];refine kI (e.new l hb hl) Sq a_ ?_;rintro r H' ⟨o,v,rfl,T,rfl⟩ ζ;have h1:aM (PH.over .nil .nil (PH.nil.set o (bA v 0))) [(o,bA v 0)] []:=by rw[PH.nP];exact aM.nil.new (H:=PH.nil) rfl _
 generalize PH.over .nil .nil (PH.nil.set o (bA v 0))=H1 at *
 simp only[go_sem,A5];refine h1.aBG 0 rfl (e.tfleet _ v T o 8 4 0 (by decide) (by decide) (aUT _)) rfl fun H2 h2=>?_;simp only[go_sem];refine h2.aPV fun q H3 h3=>?_;have e3:=h3.at 1 rfl;have h4:=h3.set 1 rfl (.rows 7 [(fT l 8 4).cells]);have e4:=h4.at 1 rfl;simp only[go_sem,e3,A6];refine h4.aBG 0 rfl (e.tlayout _ v T o (faT l 8 4) (fT l 8 4) hV a1) (by simp only[go_sem]; rfl) fun H5 h5=>?_;have e5:=h5.at 1 rfl;have β:=e.WX _ v T o (laT l 8 4) (fT l 8 4) Om a2;simp only[go_sem,A7,e5];refine h5.aBG 0 rfl β Sq fun H6 h6=>?_;have e6:=h6.at 1 rfl;simp only[go_sem,A8,e6];refine aA hR (by simp only[go_sem]; rfl) ?_;simp only[go_sem,A9,e6,aUN,J,cA (show (((fT l 8 4).aTC.length:Nat):Int)=((fT l 8 4).aTC.length:Nat) from rfl),Ba,Bb];refine aA E (by simp only[go_sem]; rfl) ?_;simp only[go_sem,my];have h7:aM H6 [(q,.rows 7 [(fT l 8 4).cells])] []:=h6.tO 0;have i:∀ k,k<R.length→(aUO (k+1)).all (fun d=>decide (W.getD d 0≤R.getD d 0))=((aUO k).all (fun d=>decide (W.getD d 0≤R.getD d 0))&&decide (W.getD k 0≤R.getD k 0)):=fun k _=>by rw[aXV,List.all_append,List.all_cons,List.all_nil,aWQ]
 generalize N:(fun k=>(aUO k).all fun d=>decide (W.getD d 0≤R.getD d 0))=A at *
 have S:A 0=true:=by rw[← N]; rfl
 have U:∀ k,k<R.length→A (k+1)=(A k&&decide (W.getD k 0≤R.getD k 0)):=fun k hk=>by rw[← N]; exact i k hk
 have y:(aUO (fT l 8 4).aTC.length).all (fun d=>decide (W.getD d 0≤R.getD d 0))=A R.length:=by rw[← N,J]
 rw[y] at V;clear y i N;refine wp_loop (α:=Nat) (fun k=>(((((((PF.nil.set 4 (.ptr q 7 0 0)).set 5 (lay (lT l 8 4))).set 6 (ints (rT l 8 4))).set 7 (ints R)).set 8 (.bool (A k))).set 9 (ints W)).set 10 (.int .i64 k))) (fun _=>H6) (fun k=>k≤R.length) (fun k=>R.length-k) 0 (aUT _) (by (repeat' (first|exact d_|refine c_ ?_ ?_))<;>first|(simp only[go_sem,S]<;>rfl)|rfl) b_ ?_;intro k hk;simp only[go_sem,mw,mz,aUN];by_cases hlt:k<R.length
 ·have c:(k:Int)<(R.length:Nat):=Om;have u:k<W.length:=Om;have w:(k:Int)<(W.length:Nat):=Om;have Q:(R.map fun x=>[PV.int .i64 x])[k]?=some [.int .i64 R[k]]:=by simp[hlt]
  have at2:(W.map fun x=>[PV.int .i64 x])[k]?=some [.int .i64 W[k]]:=by simp[u]
  have K:=U k hlt;have gR:R.getD k 0=R[k]:=by simp[aUY,hlt]
  have gW:W.getD k 0=W[k]:=by simp[aUY,u]
  rw[gR,gW] at K;cases B:A k with
  | false =>rw[B,aUV] at K;simp only[go_sem,c];refine bS .nil dT a_ ?_;simp only[go_sem,MA,MB,wZz k];exact aG (k+1) hlt Om (by (repeat' (first|exact d_|refine c_ ?_ ?_))<;>first|(simp only[go_sem,K]<;>rfl)|rfl) b_
  | true =>rw[B,aVA] at K;simp only[go_sem,c];refine bS .nil dT a_ ?_;simp only[go_sem,MA,w,c,Q,at2,aUN,MB,wZz k];exact aG (k+1) hlt Om (by (repeat' (first|exact d_|refine c_ ?_ ?_))<;>first|(simp only[go_sem,K]<;>rfl)|rfl) b_
 have c:¬ (k:Int)<(R.length:Nat):=Om;have:k=R.length:=Om;subst this;simp only[go_sem,c,m5];refine Ww e (fT l 8 4) O M (lT l 8 4) Y (rT l 8 4) (A R.length) q _ _ _ Lq h7 fun H8 h8=>?_;have e8:=h8.at 0 rfl;have Z:∀ b:Bool,(b==b)=true:=fun b=>by cases b<;>rfl
 have X:aH C 150 [.agg (fT l 8 4).cells,lay (lT l 8 4),ints (rT l 8 4)] .nil (aI (.bool (A R.length&&uF (fT l 8 4) (lT l 8 4) (lT l 8 4).length))):=V;simp only[go_sem,nn,e8];refine aA X Sq ?_;simp only[go_sem,Z];refine aA e.awake Sq ?_;simp only[go_sem];exact jE Sq rfl
structure bF (C:Ctx):Prop where
 r0:bK C 0 Oi
 r1:bK C 1 akA
 r2:bK C 2 ayU
 r3:bK C 3 uw
 r4:bK C 4 Hc
 r5:bK C 5 azE
 r6:bK C 6 akH
 r7:bK C 7 Hb
 r27:bK C 27 N9
 r28:bK C 28 azB
 r29:bK C 29 akF
 r30:bK C 30 aBL
 r31:bK C 31 alV
 r32:bK C 32 aBO
 r33:bK C 33 udiv
 r34:bK C 34 aBT
 r35:bK C 35 amC
 r36:bK C 36 aBW
 r37:bK C 37 aCF
 r38:bK C 38 amH
 r39:bK C 39 we
 r40:bK C 40 amA
 r41:bK C 41 Uf
 r42:bK C 42 Ui
 r43:bK C 43 amF
 r44:bK C 44 Ut
 r45:bK C 45 uup
 r46:bK C 46 amI
 r47:bK C 47 aCM
 r48:bK C 48 U8
 r49:bK C 49 amP
 r50:bK C 50 Hk
 r51:bK C 51 Vg
 r52:bK C 52 wn
 r53:bK C 53 amU
 r54:bK C 54 amV
 r55:bK C 55 aCY
 r56:bK C 56 Vs
 r57:bK C 57 amM
 r58:bK C 58 wm
 r59:bK C 59 amW
 r60:bK C 60 Vq
 r61:bK C 61 NF
 r62:bK C 62 wu
 r63:bK C 63 Vt
 r64:bK C 64 wt
 r65:bK C 65 ww
 r66:bK C 66 aDH
 r67:bK C 67 We
 r68:bK C 68 aDF
 r69:bK C 69 aDB
 r70:bK C 70 Vy
 r71:bK C 71 Vz
 r72:bK C 72 gb
 r73:bK C 73 Wc
 r74:bK C 74 Wd
 r75:bK C 75 w8
 r76:bK C 76 XA
 r82:bK C 82 alN
 r84:bK C 84 R6
 r88:bK C 88 Rx
 r94:bK C 94 aiC
 r95:bK C 95 axK
 r96:bK C 96 axV
 r97:bK C 97 La
 r98:bK C 98 aiT
 r99:bK C 99 aiU
 r100:bK C 100 aiV
 r101:bK C 101 gone
 r102:bK C 102 aiZ
 r103:bK C 103 Ma
 r104:bK C 104 gin
 r105:bK C 105 axL
 r106:bK C 106 axM
 r107:bK C 107 ajA
 r108:bK C 108 ajB
 r109:bK C 109 Mo
 r110:bK C 110 ajE
 r111:bK C 111 aiX
 r112:bK C 112 axP
 r113:bK C 113 tt
 r114:bK C 114 awV
 r115:bK C 115 G9
 r116:bK C 116 WF
 r117:bK C 117 K4
 r118:bK C 118 K7
 r119:bK C 119 awU
 r120:bK C 120 uY
 r121:bK C 121 K6
 r122:bK C 122 aiR
 r123:bK C 123 Ha
 r124:bK C 124 kg
 r125:bK C 125 kh
 r126:bK C 126 WM
 r127:bK C 127 azH
 r128:bK C 128 akK
 r129:bK C 129 azL
 r130:bK C 130 azM
 r131:bK C 131 azO
 r132:bK C 132 akV
 r133:bK C 133 azR
 r134:bK C 134 azT
 r135:bK C 135 akX
 r136:bK C 136 u9
 r137:bK C 137 Qf
 r138:bK C 138 HR
 r139:bK C 139 dg
 r140:bK C 140 Qr
 r141:bK C 141 Qs
 r142:bK C 142 TG
 r143:bK C 143 nup
 r150:bK C 150 Sl
 r152:bK C 152 WX
 r154:bK C 154 alU
 r156:bK C 156 alT
 r157:bK C 157 Sm
 r158:bK C 158 aDW
 r159:bK C 159 Tc
 r160:bK C 160 UJ
 r161:bK C 161 S1
 r201:bK C 201 avG
 r202:bK C 202 avJ
 r203:bK C 203 I1
 r204:bK C 204 Iy
 r205:bK C 205 call17
 r206:bK C 206 Jr
 r207:bK C 207 tj
 r208:bK C 208 ahO
 r209:bK C 209 tk
 r210:bK C 210 ahY
 r211:bK C 211 Js
 r212:bK C 212 aiF
 r222:bK C 222 Pt
 r229:∃ asg bdy,gp C 229 (ahX asg bdy)
 r230:∃ asg bdy,gp C 230 (ahW asg bdy)
namespace Z
theorem qS {C:Ctx} (c:bF C):rQ C :=
 have len:∀ xs,Lim xs→xs.length≤35184372087808→aH C 138 [aK xs] .nil (aI (.int .i64 (nl (val xs):Nat))):=fun xs h l=>c.r138.go (akT xs h l) rfl
 {length:=len
  large:=fun xs h l=>c.r137.go (aqI xs (len xs h l)) rfl
  sized:=fun xs h l=>(c.r141.go (aqN xs h (len xs h l)) rfl).seen
  trim:=fun xs h l=>(c.r135.go (azU xs h l (len xs h l)) rfl).seen
  make:=fun v h=>c.r132.go (azP v h len) rfl
  cmp:=fun xs ys d e i p=>c.r129.go (aGY xs ys d e i p (len xs d i) (len ys e p)) rfl }
theorem aGU {C:Ctx} (c:bF C):G5 C :=
 {subtract:=fun A W Z v f o hW l i e p d=>c.r142.go (Qy A W Z v f hW l i e p d o) rfl
  restore:=fun A W Z v o hW l i e=>c.r139.go (Wy A W Z v hW l i e o) rfl }
theorem akI {C:Ctx} (c:bF C):Hx C :=
 {L:=qS c
  D:=aGU c
  up:=fun a s i w e=>c.r143.go (aKP a s i w e) rfl
  short:=fun a d i l p e=>c.r140.go (aqL (qS c) a d i l p e) rfl
  lengthO:=fun xs o x u=>c.r138.go (Wx xs x u o) rfl }
theorem me {C:Ctx} (c:bF C) (A B:Nat) (hB:B≠0) (e:nl A≤900) (d:nl B≤900):aH C 136 [aK (aJ A),aK (aJ B)] .nil (aI (rD A B)) :=
 (c.r136.go (akO (akI c) A B hB e d) rfl).seen
theorem sI {C:Ctx} (c:bF C):tH C :=
 {qS c with
  bits:=fun xs h l=>c.r128.go (azJ xs h l ((qS c).length xs h l)) rfl
  add:=fun xs ys d e i p=>(c.r127.go (aGV (qS c) xs ys d e i p) rfl).seen
  sub:=fun xs ys d e i p=>(c.r134.go (aHH (qS c) xs ys d e i p) rfl).seen
  mul:=fun xs ys d e i p=>(c.r133.go (aHF (qS c) xs ys d e i p) rfl).seen
  gcd:=fun xs ys d e i p=>(c.r131.go (aHD (qS c) (me c) xs ys d e i p) rfl).seen
  div:=fun xs ys d e i p=>(c.r130.go (aHA (qS c) (me c) xs ys d e i p) rfl).seen }
theorem zK {C:Ctx} (c:bF C):IE C :=
 {sI c with
  times:=fun a b d i e l p u=>c.r121.go (aoY (sI c) a b d i e l p u) rfl
  zero:=fun neg a b d e=>c.r122.go (awZ (sI c) neg a b d e) rfl
  valid:=fun neg a b d i e l=>c.r118.go (apA (sI c) neg a b d i e l) rfl
  abs:=fun v x y=>c.r119.go (aEW (sI c) v x y) rfl
  lowest:=fun neg a b d i e l p u w=>(c.r120.go (aiL (sI c) neg a b d i e l p u w) rfl).seen }
theorem Kz {C:Ctx} (c:bF C) (x y:RF) (d:x.Ok) (e:y.Ok):aH C 113 [.agg x.cells,.agg y.cells] .nil (aI (frV (gY x.v y.v))) :=
 (c.r113.go (aEY (zK c) x.neg y.neg x.num x.den y.num y.den d.1 d.2.1 e.1 e.2.1 d.2.2.1 d.2.2.2 e.2.2.1 e.2.2.2) rfl).seen
theorem tz {C:Ctx} (c:bF C):G4 C :=
 {zK c with
  frac:=fun n d w p=>(c.r115.go (awX (zK c) n d w.1 w.2 p.1 p.2) rfl).seen
  red:=fun x e=>by rw[← alE];exact (c.r116.go (aiN (zK c) x.neg x.num x.den e.1 e.2.1 e.2.2.1 e.2.2.2) rfl).seen
  ord:=fun x y e i=>(c.r114.go (aFA (zK c) x.neg y.neg x.num x.den y.num y.den e.1 e.2.1 i.1 i.2.1 e.2.2.1 e.2.2.2 i.2.2.1 i.2.2.2) rfl).seen
  plus:=Kz c
  tot:=fun l u=>(c.r117.go (aFG (zK c) (Kz c) l u.all u.fits) rfl).seen }
theorem zJ {C:Ctx} (c:bF C):tD C :=
 have inn:∀ n lo hi:Int,aH C 104 [.int .i64 n,.int .i64 lo,.int .i64 hi] .nil (aI (.bool (within n lo hi))):=fun n lo hi=>(c.r104.go (aKF n lo hi) rfl).seen;have rR:∀ x:RF,x.Ok→aH C 97 [.agg x.cells] .nil (aI (.bool (bM x))):=fun x i=>(c.r97.go (apC (sI c) x i) rfl).seen;have lim:∀ x:RF,x.Ok→aH C 105 [.agg x.cells] .nil (aI (.bool (cT x))):=fun x i=>(c.r105.go (aFM (tz c) x i) rfl).seen;have d:∀ n:Nat,aH C 126 [.int .u8 n] .nil (aI (.bool (fB n))):=fun n=>c.r126.go (ajU n) rfl;have e:∀ n:Nat,aH C 124 [.int .u8 n] .nil (aI (.bool (mQ n))):=fun n=>c.r124.go (apM n) rfl
 {tz c with
  inn:=inn
  rR:=rR
  lim:=lim
  one:=fun x i=>(c.r101.go (aFQ (tz c) x i) rfl).seen
  allf:=fun p fn l u h=>(c.r99.go (axD p fn l u h) rfl).seen
  alli:=fun p fn l u h=>(c.r100.go (axF p fn l u h) rfl).seen
  allb:=fun p fn l u h=>(c.r98.go (axB p fn l u h) rfl).seen
  ends1:=fun b=>(c.r103.go (apE b) rfl).seen
  num1:=fun n=>(c.r107.go (axN inn n) rfl).seen
  rate1:=fun x i=>(c.r109.go (apH lim rR x i) rfl).seen
  name:=fun s=>c.r123.go (ayI d (fun n=>c.r125.go (apQ d e n) rfl) s) rfl }
theorem Kr {C:Ctx} (c:bF C):Hr C :=
 {zJ c with
  num:=fun p d=>(c.r106.go (aFO (zJ c) p d) rfl).seen
  rate:=fun p d=>(c.r108.go (axQ (zJ c) p d) rfl).seen
  uniq:=fun l e=>(c.r110.go (axT (zJ c) l e) rfl).seen }
theorem Ks {C:Ctx} (c:bF C):gf C :=
 {Kr c with
  ends:=fun l e d=>(c.r102.go (axI (zJ c) l e d) rfl).seen }
theorem awW {C:Ctx} (c:bF C):kX C :=
 {Ks c with
  law:=fun l e=>(c.r95.go (aFK (Ks c) l e) rfl).seen
  pol:=fun p n u i=>(c.r112.go (aFS (Kr c) p u n i) rfl).seen
  aTL:=fun f d=>(c.r111.go (aFI (zJ c) f d) rfl).seen }
theorem RW {C:Ctx} (c:bF C) (f:aD) (d:f.Ok):aH C 96 [.agg f.cells] .nil (aI (.int .i64 (vW f))):=(c.r96.go (aFV (awW c) f d) rfl).seen
theorem adC {C:Ctx} (c:bF C):agV C :=
 {valid:=fun f d=>(c.r161.go (asQ (RW c) f d) rfl).seen
  K0:=fun f v e h=>(c.r156.go (aAY f e v h) rfl).seen }
theorem fa {C:Ctx} (c:bF C):Ic C :=
 {adC c with
  room:=fun f room e=>(c.r152.go (aBD (adC c) f e room) rfl).freeze
  loads:=fun f l d i=>(c.r157.go (asL f d l i) rfl).seen }
theorem aBA {C:Ctx} (c:bF C):anO C :=
 {fa c with
  He:=fun f l v hV e i d=>(c.r160.go (asO (fa c) f hV l e v i d) rfl).seen }
theorem Sn {C:Ctx} (c:bF C):HD C :=
 {aBA c with
  bad:=fun o5 v k w=>c.r159.go (asS o5 v k w) rfl }
theorem So {C:Ctx} (c:bF C):Id C :=
 {Sn c with
  row:=fun f l v hV d p e i=>(c.r158.go (aBJ (Sn c) f hV d l v p e i) rfl).seen }
theorem aIC {C:Ctx} (c:bF C):aDM C :=
 {So c with
  viol:=fun f l room d e=>(c.r154.go (aBH (So c) f d l e room) rfl).seen }
theorem oY {C:Ctx} (c:bF C):qF C:={ trimM:=fun xs h l=>c.r38.go (aCG xs h l) rfl }
theorem Rl {C:Ctx} (c:bF C):Hz C :=
 {oY c with
  make:=fun v h=>(c.r35.go (aBU (oY c) v h) rfl).seen
  large:=fun xs h l=>(c.r41.go (asW (oY c) xs h l) rfl).seen
  cmp:=fun xs ys d e i p=>c.r32.go (aIF (oY c) xs ys d e i p) rfl }
theorem Rn {C:Ctx} (c:bF C):H9 C :=
 {Rl c with
  minus:=fun a b e i l u d=>(c.r42.go (asY (oY c) a b e i l u d) rfl).seen
  times:=fun a b e i d p=>(c.r44.go (atD (oY c) a b e i d p) rfl).seen }
theorem dy {C:Ctx} (c:bF C):gm C :=
 {Rn c with
  plus:=fun a b i l d e=>(c.r43.go (aCC (oY c) a b i l d e) rfl).seen }
theorem aAF {C:Ctx} (c:bF C):QK C :=
 {dy c with
  bits:=fun xs h l=>c.r31.go (aBM (oY c) xs h l) rfl
  upM:=fun a n e d i p=>c.r45.go (aLI (oY c) a n e d i p) rfl
  down:=fun a n e d i=>(c.r40.go (aBR (oY c) a n e d i) rfl).seen }
theorem dx {C:Ctx} (c:bF C):gk C :=
 {Rl c with
  divide:=fun A B hB e d=>(c.r39.go (alY (aAF c) A B hB e d) rfl).seen }
theorem Rm {C:Ctx} (c:bF C):H7 C :=
 {dx c with
  gcd:=fun a b d e i l=>(c.r34.go (aIJ (dx c) a b d e i l) rfl).seen
  div:=fun a b d e i l=>(c.r33.go (aIH (dx c) a b d e i l) rfl).seen }
theorem acQ {C:Ctx} (c:bF C):agT C :=
 {Rm c with
  lowest:=fun neg a b i l p u w x e=>(c.r58.go (amQ (Rm c) neg a b i l p u w x e) rfl).seen
  size:=fun v d=>c.r59.go (aCW v d.1 d.2) rfl }
theorem MW {C:Ctx} (c:bF C):gl C :=
 {acQ c with
  fmk:=fun n d i e=>(c.r50.go (aCP (acQ c) n d i e) rfl).seen }
theorem HO {C:Ctx} (c:bF C) (hi:zX C):tF C :=
 {MW c with
  int:=fun n d=>(c.r47.go (afF (MW c) n d) rfl).seen
  itoa:=hi
  next:=fun l v T o n a d e=>c.r4.go (azC T o n a d e) rfl }
theorem Oz {C:Ctx} (c:bF C) (hi:zX C):Hv C :=
 {HO c hi with
  frac:=fun l v T o a d=>c.r1.go (ayQ (HO c hi) T o a d) rfl }
theorem O0 {C:Ctx} (c:bF C) (hi:zX C):tG C :=
 {Oz c hi with
  rep:=fun l v T o a m e d=>c.r5.go (aGS (Oz c hi) T o a m e d) rfl
  name:=fun s n p i=>c.r29.go (ayZ (HO c hi) s n p i) rfl }
theorem O1 {C:Ctx} (c:bF C) (hi:zX C):nK C :=
 {O0 c hi with
  law:=fun l v T o dN a i d e=>c.r2.go (aGL (O0 c hi) T o dN a i d e) rfl }
theorem O2 {C:Ctx} (c:bF C) (hi:zX C):Hw C :=
 {O1 c hi with
  grow:=fun l v T mc aTC d e i=>Mu (O1 c hi) T mc aTC d e i (fun args H R p h=>c.r7 args H R (by rw[p]; decide) h) 4 (aUU _) }
theorem cd {C:Ctx} (c:bF C) (hi:zX C):anM C :=
 {O2 c hi with
  new:=fun l p u=>c.r28.go (aGP l p u) rfl
  fleet:=fun l v T o aTC aTE a d e i=>QI.exact (c.r0.go (apV (O2 c hi) T o aTC aTE a d e i) rfl) }
theorem vr {C:Ctx} (c:bF C):G6 C :=
 {MW c with
  int:=fun n p=>(c.r47.go (afF (MW c) n p) rfl).seen
  mul:=fun a b d e i l=>(c.r36.go (aIL (Rn c) a b d e i l) rfl).seen
  add:=fun a b d e i l=>(c.r30.go (aID (dy c) a b d e i l) rfl).seen
  sub:=fun a b d e i l=>(c.r37.go (aIP (dy c) a b d e i l) rfl).seen }
theorem dz {C:Ctx} (c:bF C):gn C :=
 {vr c with
  valid:=fun x d=>c.r56.go (auA (vr c) x.neg x.num x.den d.1 d.2.1 d.2.2.1 d.2.2.2) rfl
  big:=fun x=>c.r48.go (atU x.1 (aJ x.2.1) (aJ x.2.2)) rfl }
theorem Ro {C:Ctx} (c:bF C):Ia C :=
 {dz c with
  fits:=fun x=>(c.r57.go (aCJ (dz c) x) rfl).seen
  red:=fun x i=>(c.r52.go (amS (dz c) x i) rfl).seen
  prod:=fun a b d e l p u w=>c.r60.go (atY (vr c) a b d e l p u w) rfl }
theorem BD {C:Ctx} (c:bF C):AA C :=
 {Ro c with
  order:=fun x y d e i l=>c.r51.go (atW (Ro c) x y d e i l) rfl }
theorem acR {C:Ctx} (c:bF C):agU C :=
 {BD c with
  less:=fun x y d e i l=>c.r49.go (aCN (BD c) x y d e i l) rfl
  same:=fun x y d e i l=>c.r53.go (aCS (BD c) x y d e i l) rfl
  sign:=fun x d i=>c.r54.go (aCU (BD c) x d i) rfl
  plus:=fun x y d e=>(c.r46.go (aIR (BD c) x y d e) rfl).seen }
theorem dw {C:Ctx} (c:bF C):gj C :=
 {acR c with
  sum:=fun l e d=>(c.r55.go (aIV (acR c) l e d) rfl).seen
  inn:=fun n lo hi=>c.r76.go (anI n lo hi) rfl
  code:=fun k m=>c.r61.go (aAP k m) rfl }
theorem B0 {C:Ctx} (c:bF C):sx C :=
 {dw c with
  small:=fun x d=>c.r74.go (auR (dw c) x d) rfl
  nums:=fun k m q s0 s1 s2 s3 s4=>c.r72.go (Xk (dw c) k m q s0 s1 s2 s3 s4) rfl
  sizes:=fun e i l p u w=>c.r73.go (auP e i l p u w) rfl }
theorem B5 {C:Ctx} (c:bF C):sy C :=
 {B0 c with
  smalls:=fun l d n=>c.r75.go (anG (B0 c) l d n) rfl }
theorem B6 {C:Ctx} (c:bF C):s7 C :=
 {B5 c with
  reps:=fun l d m=>c.r66.go (aJD (B5 c) l d m) rfl }
theorem B7 {C:Ctx} (c:bF C):s8 C :=
 have d:∀ n:Nat,aH C 65 [.int .u8 n] .nil (aI (.bool (fB n))):=fun n=>c.r65.go (anB n) rfl;have e:∀ n:Nat,aH C 63 [.int .u8 n] .nil (aI (.bool (mQ n))):=fun n=>c.r63.go (auC n) rfl
 {B6 c with
  name:=fun s=>c.r62.go (amZ d (fun n=>c.r64.go (amX d e n) rfl) s) rfl
  index:=fun l i s=>c.r71.go (auM l i s) rfl }
theorem B8 {C:Ctx} (c:bF C):qE C :=
 {B7 c with
  fresh:=fun l e s w H d=>c.r70.go (auK (B7 c) l e s w H d) rfl }
theorem arK {C:Ctx} (c:bF C):sP C :=
 {B8 c with
  law:=fun l d=>c.r68.go (aJB (B8 c) l d) rfl }
theorem arL {C:Ctx} (c:bF C):s9 C :=
 {arK c with
  dur:=fun m rep e t h i d=>c.r69.go (aIZ (B6 c) m rep e t h i d) rfl }
theorem aDA {C:Ctx} (c:bF C) (f:aD) (d:f.Ok):aH C 67 [.agg f.cells] .nil (aI (.bool (dJ f))):=c.r67.go (auV (arL c) f d) rfl
theorem auH {C:Ctx} (c:bF C):agQ C :=
 {adm:=fun f p set hV l d u=>c.r201.go (aEH f hV p l d set u) rfl
  asc:=fun set n top i=>c.r202.go (aEL set i n top) rfl
  known:=fun f aTO e=>c.r203.go (aoB (RW c) f e aTO) rfl }
theorem afT {C:Ctx} (c:bF C):ge C :=
 {auH c with
  subs:=fun n top=>c.r210.go (avX n top) rfl
  iter:=fun l o1 o2 n top J y e i w x u A H p d b1 b2 g1 g2=>c.r211.go (avM J y e i w x u p d b1 b2 g1 g2) rfl }
theorem afU {C:Ctx} (c:bF C):Ho C :=
 {afT c with
  sets:=fun f p hV w A d x l y u=>by obtain⟨e,i,r⟩:=c.r229;exact (r.go (avV (afT c) e i f hV w p A d x l y u) rfl).seen }
theorem afV {C:Ctx} (c:bF C):Hp C :=
 {afU c with
  val:=RW c
  units:=fun f lv hV d h5=>(c.r206.go (aoG f hV lv d h5) rfl).seen
  choose:=fun m n e i=>c.r207.go (ahM m n e i) rfl }
theorem wy {C:Ctx} (c:bF C):anL C :=
 {afV c with
  NE:=fun f lv i l=>by obtain⟨d,e,r⟩:=c.r230;exact (r.go (avT (afV c) d e f l lv i) rfl).seen
  admis:=fun f aTO set l y=>c.r204.go (anW (auH c) f l aTO set y) rfl
  loss:=fun sc set m p u w x=>c.r208.go (avN sc p u set w x m) rfl }
theorem auG {C:Ctx} (c:bF C) (hi:zX C):aDI C :=
 {same1:=fun l d=>c.r94.go (awH l d) rfl
  fleet:=fun l w d aTC aTE i u=>(c.r27.go (apT (cd c hi) l w d aTC aTE i u) rfl).seen
  all:=fun f aTO p=>(c.r205.go (anY (afU c) f p aTO) rfl).seen
  NE:=(wy c).NE
  loss:=fun f aTO set lv e p d=>c.r209.go (ahQ (wy c) f p aTO set d lv e) rfl }
theorem aIY {C:Ctx} (c:bF C) (hi:zX C):anK C :=
 { auG c hi with sets:=fun a d e=>c.r212.go (awO (auG c hi).same1 a d e) rfl }
theorem aLN {C:Ctx} (c:bF C):anN C :=
 {valid:=aDA c
  rR:=fun f d level e p i l=>c.r88.go (arU f e d p level i l) rfl
  K0:=fun f v e h=>(c.r82.go (R1 f e v h) rfl).seen }
theorem aOI {C:Ctx} (c:bF C) (hi:zX C):auY C :=
 {new:=(cd c hi).new
  tfleet:=(cd c hi).fleet
  tlayout:=fun l v T o a f hV d=>Yd (c.r3.go (akD (HO c hi) T o a f hV (fun i h=>(c.r82.go (R1 f hV i h) rfl).seen) d) rfl)
  WX:=fun l v T o a f u d=>Yd (c.r6.go (azF (HO c hi) T o a f u d) rfl)
  room:=(fa c).room
  rloads:=fun f l e p=>(c.r84.go (asD (aLN c) f e l p) rfl).seen
  holds:=fun f l room e p=>(c.r150.go (asJ (aIC c) f e l p room) rfl).seen
  admis:=(wy c).admis
  awake:=c.r222.go (aqA (aIY c hi)) rfl }
end Z
theorem auJ {C:Ctx} (c:bF C) (hi:zX C) (r:bK C 239 mu) (l:List Nat) (d:∀ x∈l,x<256) (e:l.length≤9223372036854775807):aH C 239 [.sl 1 (kF l)] .nil (aI (.bool true)):=r.go (aqE (Z.aOI c hi) l d e) rfl
end Go.PM
