/-
  Texts of ours, joined. No condition.
-/
import Derived.Test.YtkknafmijabgaaaGreatDoorFN1
import Derived.Test.YtkknafmijabgaaaGreatDoorFN2
import Derived.Test.YtkknafmijabgaaaGreatDoorFN3
import Derived.Test.YtkknafmijabgaaaGreatDoorFN4
import Derived.Test.YtkknafmijabgaaaGreatDoorFN5
import Derived.Shelf.Sort.Plain
import Derived.Shelf.Slices.CompactI
import Derived.Shelf.Slices.In.SortNone
set_option linter.unusedSimpArgs false
set_option linter.unusedVariables false
open Nat renaming reduceEqDiff → γ, reduceAdd → δ, reduceSub → ε, reduceMul → ζ, reduceLT → η, reduceLeDiff → θ, reduceBEq → τ
open Int renaming reduceLT → ι, reduceLE → κ, reduceEq → μ, reduceToNat → ν, reduceAdd → ξ, reduceNeg → ο, reduceBEq → ρ, reduceBNe → σ
open List renaming reduceReplicate → υ
open List renaming range → aTI, length_map → aTJ, replicate → aTK, length_append → aTM, getElem_mem → aTN, getElem?_eq_getElem → aTP, getD_eq_getElem?_getD → aTR, length_singleton → aTT, mem_cons → aTW, length_take → aUA, take_of_length_le → aUB, mem_range → aUD, getElem?_map → aUG, not_mem_nil → aUJ, mem_map → aUK, getElem?_eq_some_iff → aUN, append_assoc → aUP, map_cons → aUQ, mem_append → aUR, take_length → aUS, getElem?_eq_none → aUW, map_append → aUX, mem_singleton → aUY, length_cons → aVA, append_nil → aVC, length_drop → aVE, getElem?_append_right → aVG, mem_of_getElem? → aVH, getElem?_append_left → aVI, length_set → aVJ, map_congr_left → aVN, Sublist → aVO, length_nil → aVR, take_succ_eq_append_getElem → aVS, Perm → aVX, length_range → aVY, range_succ → aWA, getElem?_take → aWF, nodup_append → aWG, getElem?_range → aWL, map_map → aWO, nil_append → aWP, mem_cons_of_mem → aWV, mem_filter → aWW, getElem?_drop → aWX, mem_append_left → aWY, getElem?_set → aXF, sublist_append_left → aXG, length_replicate → aXI
open Nat renaming gcd → aTL, le_refl → aTO, zero_le → aTQ, lt_or_ge → aUE, zero_add → aUF, mul_le_mul_right → aUM, add_zero → aVB, eq_zero_or_pos → aVP, le_trans → aWI, div_le_self → aWR, mul_le_mul → aWT
open Bool renaming not_true → aTV, true_and → aTY, not_false → aTZ, and_eq_true → aUC, and_false → aUU, and_true → aVK, false_eq_true → aWM
open Option renaming map_some → aUO, some → aVU, getD_some → aWE
open Int renaming toNat_natCast → aWN
namespace Go.PM
open Go Go.Na
abbrev rY (f:aD):List PV:=[.int .i64 (f.aRW.length:Nat),.int .i64 (f.aRX.length:Nat)]
theorem aFY {C:Ctx} (f:aD) (v:Nat) (j:v≤100):RV.wp C (aR axS.res (aI (.int .i64 ((2+v:Nat):Int)))) (PF.args [.agg (rY f),.int .i64 (v:Nat)]) .nil:=by
 have e:IntKind.i64.wrap (2+(v:Int))=((2+v:Nat):Int):=by rw[wrap_i64 Om Om]; omega
 simp only[go_sem,RV,abA,abB,axS,e];refine aQ (.inr rfl) Ev ?_;rfl
theorem Zk {a b:Nat} (j:a≤100) (hb:b≤100):IntKind.i64.wrap ((a:Int)*(b:Int))=((a*b:Nat):Int)∧a*b≤10000:=by
 have e:a*b≤100*100:=aWT j hb;rw[← Int.natCast_mul,wrap_i64 Om Om];exact⟨rfl,e⟩
theorem N0 {f:aD} (u:Small f) {v i:Nat} (w:v≤100) (hi:i≤100) (e:i≠0) (y:0<f.aRX.length) :
  IntKind.i64.wrap (IntKind.i64.wrap (IntKind.i64.wrap (IntKind.i64.wrap (2+(f.aRW.length:Int))+IntKind.i64.wrap ((v:Int)*IntKind.i64.wrap ((f.aRX.length:Int)-1)))+(i:Int))-1)=((cP f v i:Nat):Int):=by
 obtain⟨s1,s2,s3,s4,A,B⟩:=u;rw[wrap_i64 (n:=(f.aRX.length:Int)-1) Om Om,show (f.aRX.length:Int)-1=((f.aRX.length-1:Nat):Int) by omega];obtain⟨j,x⟩:=Zk (a:=v) (b:=f.aRX.length-1) w Om;rw[j];have l:cP f v i=2+f.aRW.length+v*(f.aRX.length-1)+i-1:=by unfold cP; rw[if_neg e]
 rw[l];generalize v*(f.aRX.length-1)=z at *
 rw[wrap_i64 (n:=2+(f.aRW.length:Int)) Om Om,wrap_i64 (n:=2+(f.aRW.length:Int)+(z:Int)) Om Om,wrap_i64 (n:=2+(f.aRW.length:Int)+(z:Int)+(i:Int)) Om Om,wrap_i64 Om Om];omega
theorem Vk {f:aD} (j:Small f) {d:Nat} (u:d≤100) :
  IntKind.i64.wrap (IntKind.i64.wrap (2+IntKind.i64.wrap ((f.aRW.length:Int)*(f.aRX.length:Int)))+(d:Int))=((bL f d:Nat):Int):=by
 obtain⟨s1,s2,s3,s4,w,x⟩:=j;obtain⟨e,l⟩:=Zk (a:=f.aRW.length) (b:=f.aRX.length) Om Om;rw[e];unfold bL;generalize f.aRW.length*f.aRX.length=z at *
 rw[wrap_i64 (n:=2+(z:Int)) Om Om,wrap_i64 Om Om];omega
theorem amL (f:aD) (v:Nat):cP f v 0=2+v:=rfl
theorem aFL {C:Ctx} (u:∀ (f:aD) (v:Nat),v≤100→aG C 282 [.agg (rY f),.int .i64 (v:Nat)] .nil (aI (.int .i64 ((2+v:Nat):Int)))) (f:aD) (x:Small f) (w:0<f.aRX.length) (v i:Nat) (l:v≤100) (hi:i≤100) :
  CO.wp C (aR aiX.res (aI (.int .i64 ((cP f v i:Nat):Int)))) (PF.args [.agg (rY f),.int .i64 (v:Nat),.int .i64 (i:Nat)]) .nil:=by
 by_cases j:i=0
 ·subst j;simp only[go_sem,CO,tv,tw,aiX,Z9,Int.natCast_zero,bP (show ((0:Nat):Int)=0 from rfl)];refine aA (u f v l) Ev ?_;simp only[go_sem];refine aQ (.inr rfl) Ev ?_;rfl
 ·have e:=N0 x l hi j w;simp only[go_sem,CO,tv,tw,aiX,bE (Om:¬ ((i:Nat):Int)=0),aaA,e];refine aQ (.inr rfl) Ev ?_;rfl
theorem aFN {C:Ctx} (f:aD) (l:Small f) (d:Nat) (j:d≤100):RB.wp C (aR axF.res (aI (.int .i64 ((bL f d:Nat):Int)))) (PF.args [.agg (rY f),.int .i64 (d:Nat)]) .nil:=by
 have e:=Vk l j;simp only[go_sem,RB,aaB,aaC,axF,e];refine aQ (.inr rfl) Ev ?_;rfl
theorem ayD {C:Ctx} (f:aD) (u:Small f) (l:0<f.aRX.length) (v i:Nat) (w:v≤100) (hi:i≤100) :
  yX.wp C (aR D9.res (aI (.int .i64 ((cP f v i:Nat):Int)))) (PF.args [.agg f.cells,.int .i64 (v:Nat),.int .i64 (i:Nat)]) .nil:=by
 by_cases j:i=0
 ·subst j;have e:IntKind.i64.wrap (2+(v:Int))=((2+v:Nat):Int):=by rw[wrap_i64 Om Om]; omega
  simp only[go_sem,yX,dt,du,D9,Pb,Int.natCast_zero,bP (show ((0:Nat):Int)=0 from rfl),e];refine aQ (.inr rfl) Ev ?_;rfl
 ·have e:=N0 u w hi j l;simp only[go_sem,yX,dt,du,D9,bE (Om:¬ ((i:Nat):Int)=0),Pc,aTJ,e];refine aQ (.inr rfl) Ev ?_;rfl
theorem aGF {C:Ctx} (f:aD) (l:Small f) (d:Nat) (j:d≤100):SD.wp C (aR ayC.res (aI (.int .i64 ((bL f d:Nat):Int)))) (PF.args [.agg f.cells,.int .i64 (d:Nat)]) .nil:=by
 have e:=Vk l j;simp only[go_sem,SD,abK,abL,ayC,aTJ,e];refine aQ (.inr rfl) Ev ?_;rfl
theorem U9 {f:aD} (hV:VF f) (k:Nat) (j:k≤f.aRW.length):cK (eJ f) k≤8*k:=by
 induction k with
 | zero=>exact aTO _
 | succ k e =>have:=(kG hV (v:=k) Om).1;have:=e Om;rw[cK];omega
theorem aqB {C:Ctx} (u:∀ (f:aD) (v:Nat),VF f→v<f.aRW.length→aG C 82 [.agg f.cells,.int .i64 (v:Nat)] .nil (aI (.int .i64 (mR f v)))) (f:aD) (hV:VF f) :
  ES.wp C (aR Pd.res (aI (.int .i64 ((nY f:Nat):Int)))) (PF.args [.agg f.cells]) .nil:=by
 have B:=hV.small.aRW;simp only[go_sem,ES,Ak,Al,Am,Pd];refine wp_loop (α:=Nat) (fun k=>(((PF.nil.set 1 (.bN f.cells)).set 3 (.int .i64 ((cK (eJ f) k:Nat):Int))).set 4 (.int .i64 (k:Nat)))) (fun _=>.nil) (fun k=>k≤f.aRW.length) (fun k=>f.aRW.length-k) 0 (aTQ _) (by (repeat' (first|exact c_|refine d_ ?_ ?_))<;>first|(simp only[go_sem,cK]<;>rfl)|rfl) a_ ?_;intro k w;simp only[go_sem,Aj,An,aTJ];by_cases hlt:k<f.aRW.length
 ·have j:(k:Int)<(f.aRW.length:Nat):=Om;obtain⟨x,y,l,-⟩:=kG hV hlt;have A:=U9 hV k w;have e:IntKind.i64.wrap (((cK (eJ f) k:Nat):Int)+mR f k)=((cK (eJ f) (k+1):Nat):Int):=by rw[cK,← l,wrap_i64 Om Om]; omega
  simp only[go_sem,j,Ao];refine aA (u f k hV hlt) Ev ?_;simp only[go_sem,e,Ap,wZz k];exact aH (k+1) hlt Om Lq a_
 ·have j:¬ (k:Int)<(f.aRW.length:Nat):=Om;have:k=f.aRW.length:=Om;subst this;simp only[go_sem,j,Aq];refine aQ (.inr rfl) Ev ?_;rfl








theorem sY {t:Nat} {b j:Bool} {F:PF} {H:PH} (h:F t=some (.bool b)) (e:b=j):aR [.tmp t] (aI (.bool j)) .ret F H:=by
 subst e;exact aV (.inr rfl) .nil (vs:=[.bool b]) (by rw[lK,oI,h,pK]) a_ ⟨rfl,rfl⟩
abbrev fI (f:aD):bO:=.rows 2 [rY f]
abbrev fX:bO:=.rows 4 [[.int .i64 0,.int .i64 0,.int .i64 0,.aB]]
abbrev nK (p:dD):bO:=.rows 17 [p.cells]
def q9 (o N:Nat) (l:List bF) (a:bF) (r:PV) (H':PH):Prop:=∃ (B':List BX) (L':List LI),(r=.tup []∧∃ v',B'=[(o,bY N v')]∧L'=[(v',4,(l++[a]).map bF.cells)])∧aM H' B' L'
structure mF (C:Ctx):Prop where
 vol:∀ (f:aD) (v:Nat),v≤100→aG C 282 [.agg (rY f),.int .i64 (v:Nat)] .nil (aI (.int .i64 ((2+v:Nat):Int)))
 dom:∀ (f:aD),Small f→0<f.aRX.length→∀ v i:Nat,v≤100→i≤100→aG C 283 [.agg (rY f),.int .i64 (v:Nat),.int .i64 (i:Nat)] .nil (aI (.int .i64 ((cP f v i:Nat):Int)))
 drv:∀ (f:aD),Small f→∀ d:Nat,d≤100→aG C 284 [.agg (rY f),.int .i64 (d:Nat)] .nil (aI (.int .i64 ((bL f d:Nat):Int)))
 arc:∀ (o N:Nat) (a:bF) (v:PV) (l:List bF),l.length≤1000000→∀ H,aM H [(o,bY N v)] [(v,4,l.map bF.cells)]→aG C 285 [.int .i64 (a.src:Nat),.int .i64 (a.dst:Nat),.int .i64 (a.cap:Nat),.ptr o 4 0 0] H (q9 o N l a)
 valid:∀ f:aD,f.Ok→aG C 96 [.agg f.cells] .nil (aI (.int .i64 (xZ f)))
 roomM:∀ (f:aD) (room:List Int),f.Ok→aG C 152 [.agg f.cells,ints room] .nil (nO 1 (cQ (CV f room)))
theorem aIQ (o N:Nat) (l:List bF) (a:bF) (G A:PH) (D:List Nat) (hD:o∈D) (J:∃ x,A o=some x):∃ r H',q9 o N l a r H'∧lS G (A.only D) H':=by
 obtain⟨q,u,w⟩:=PH.auJ G o;have I:=(aM.nil.new (H:=PH.nil) (o:=o) rfl (bY N (.osl q 4 0 ((l++[a]).map bF.cells).length))).t6 (s:=4) (rows:=(l++[a]).map bF.cells) (o:=q) (by rw[aT,if_neg w]; rfl);refine⟨.tup [],_,⟨_,_,⟨rfl,_,rfl,rfl⟩,I⟩,fun p x j E=>?_⟩;rw[aT] at j;by_cases e:p=q
 ·subst e; exact u
 ·rw[if_neg e,aT] at j;by_cases B:p=o
  ·subst B;obtain⟨y,M⟩:=J;rw[rA,if_pos hD,M] at E;cases E
  ·rw[if_neg B] at j; cases j
def AN (f:aD) (D:List Nat) (Q:PV→PH→Prop):Spec:=fun name vs=>match name,vs with
 | 285,_=>some (D,fun _=>Q)
 | 282,[_,.int _ v]=>some ([],fun _=>aI (.int .i64 ((2+v.toNat:Nat):Int)))
 | 283,[_,.int _ v,.int _ i]=>some ([],fun _=>aI (.int .i64 ((cP f v.toNat i.toNat:Nat):Int)))
 | 284,[_,.int _ d]=>some ([],fun _=>aI (.int .i64 ((bL f d.toNat:Nat):Int)))
 | _,_=>none
section
variable {C:Ctx} {F:PF} {H Hs:PH} {st:Bool} {f:aD} {D:List Nat} {Q:PV→PH→Prop} {args:List aN} {d:Option Nat} {K:PF→PH→Prop}
theorem Fe (j:mF C) {v:Nat} (w:v≤100) (l:aN.evs F args=some [.agg (rY f),.int .i64 (v:Nat)]) (e:Hs.le H) (u:K (F.put d (.int .i64 ((2+v:Nat):Int))) H):dOp C Hs (AN f D Q) st (.call 282 args) d K F H :=
 bX (v:=.int .i64 ((2+v:Nat):Int)) (by rfl) (j.vol f v w) l e u
theorem YM (j:mF C) (x:Small f) (l:0<f.aRX.length) {v i:Nat} (y:v≤100) (hi:i≤100) (u:aN.evs F args=some [.agg (rY f),.int .i64 (v:Nat),.int .i64 (i:Nat)]) (e:Hs.le H) (w:K (F.put d (.int .i64 ((cP f v i:Nat):Int))) H):dOp C Hs (AN f D Q) st (.call 283 args) d K F H :=
 bX (v:=.int .i64 ((cP f v i:Nat):Int)) (by rfl) (j.dom f x l v i y hi) u e w
theorem AQ (j:mF C) (w:Small f) {i:Nat} (hi:i≤100) (l:aN.evs F args=some [.agg (rY f),.int .i64 (i:Nat)]) (e:Hs.le H) (u:K (F.put d (.int .i64 ((bL f i:Nat):Int))) H):dOp C Hs (AN f D Q) st (.call 284 args) d K F H :=
 bX (v:=.int .i64 ((bL f i:Nat):Int)) (by rfl) (j.drv f w i hi) l e u
theorem ry (y:mF C) {o N:Nat} {v:PV} {l:List bF} (a:bF) (E:l.length≤1000000) {B2:List BX} (h:aM H ((o,bY N v)::B2) [(v,4,l.map bF.cells)]) {x:aN} (J:x.ev F=some (.fn 285 [.ptr o 4 0 0]))
  (A:aN.evs F args=some [.int .i64 (a.src:Nat),.int .i64 (a.dst:Nat),.int .i64 (a.cap:Nat)])
  (B:∀ v' H',aM H' ((o,bY N v')::B2) [(v',4,(l++[a]).map bF.cells)]→Hs.le H'∧K (F.put d (.tup [])) H') :
  dOp C Hs (AN f (eD [(o,bY N v)]++dP [(v,4,l.map bF.cells)]) (q9 o N l a)) st (.aSY x args) d K F H:=by
 have w:aM H ([(o,bY N v)]++B2) ([(v,4,l.map bF.cells)]++[]):=h;have I:H o=some (bY N v):=h.at 0 rfl;have e:POp.kind (.aSY x args) F=.call 285 (some [.int .i64 (a.src:Nat),.int .i64 (a.dst:Nat),.int .i64 (a.cap:Nat),.ptr o 4 0 0]):=by simp only[POp.kind,J,A,aUO,List.cons_append,aWP]
 unfold dOp;rw[e];refine⟨_,_,_,rfl,rfl,fun q hq=>?_,y.arc o N a v l E _ (w.only (aXG ..) (aXG ..)),fun G=>aIQ o N l a G H _ (by simp[eD]) ⟨_,I⟩,?_⟩
 ·rcases aUR.1 hq with hq | hq
  ·exact h.AG (.inl (by simp only[eD,aUQ,aTW]; left; simpa [eD] using hq))
  ·exact h.AG (.inr hq)
 ·rintro r H' ⟨B',L',⟨rfl,v',rfl,rfl⟩,j⟩ u;exact B v' _ (w.frame j u)
theorem alO (j:mF C) {o N:Nat} {v:PV} {l:List bF} (a:bF) (A:l.length≤1000000) {B2:List BX} (h:aM H ((o,bY N v)::B2) [(v,4,l.map bF.cells)])
  (x:aN.evs F args=some [.int .i64 (a.src:Nat),.int .i64 (a.dst:Nat),.int .i64 (a.cap:Nat)])
  (y:∀ v' H',aM H' ((o,bY N v')::B2) [(v',4,(l++[a]).map bF.cells)]→K (F.put d (.tup [])) H'):hC C 285 args [.ptr o 4 0 0] d K F H:=by
 refine S6 (B1:=[(o,bY N v)]) (B2:=B2) (L1:=[(v,4,l.map bF.cells)]) (L2:=[]) h (Q:=fun r B' L'=>r=.tup []∧∃ v',B'=[(o,bY N v')]∧L'=[(v',4,(l++[a]).map bF.cells)]) (fun e w=>j.arc o N a v l A e w) x ?_;rintro r B' L' H' ⟨rfl,v',rfl,rfl⟩ u;exact y v' H' u
end
theorem jj {a b:Nat} {x y:bO} (h:¬ a=b):∃ Hs:PH,Hs a=some x∧Hs b=some y∧∀ H':PH,H' a=some x→H' b=some y→Hs.le H' :=
 ⟨(PH.nil.set a x).set b y,by rw[aT,if_neg h,cL],cL _ _,fun H' e j=>e_ (e_ a_ e) j⟩
structure NO where
 o:Nat
 n:Nat
 z:Nat
 p:Nat
 m:Nat
def gR (f:aD) (room:List Int) (e:NO) (k:Nat):PF:=(((((((((PF.nil.set 1 (ints room)).set 2 (.bN f.cells)).set 4 (.ptr e.z 4 0 0)).set 6 (.ptr e.n 2 0 0)).set 7 (.ptr e.o 4 0 0)).set 8 (.fn 285 [.ptr e.o 4 0 0])).set 41 (.sl 2 (f.aRW.map fE.cells))).set 42 (.int .i64 (f.aRW.length:Nat))).set 43 (.int .i64 (k:Nat)))
def nD (f:aD) (room:List Int) (e:NO) (k:Nat):PF:=(((gR f room e k).set 9 (.int .i64 (k:Nat))).set 11 (.ptr e.p 17 0 0)).set 12 (.osl e.m 1 0 f.aRV.length)
def UT (f:aD) (room:List Int) (e:NO) (k:Nat) (p:dD) (j:Nat):PF:=(((nD f room e k).set 59 (ints p.aRV)).set 60 (.int .i64 (p.aRV.length:Nat))).set 61 (.int .i64 (j:Nat))
def rX (f:aD) (room:List Int) (e:NO) (k i:Nat):PF:=(((nD f room e k).set 80 (.sl 7 (f.aRX.map cN.cells))).set 81 (.int .i64 (f.aRX.length:Nat))).set 82 (.int .i64 (i:Nat))
def KM (f:aD) (room:List Int) (e:NO) (k i:Nat):PF:=((((((gR f room e k).set 9 (.int .i64 (k:Nat))).set 12 (.osl e.m 1 0 f.aRV.length))).set 115 (.sl 3 (f.aRU.map dQ.cells))).set 116 (.int .i64 (f.aRU.length:Nat))).set 117 (.int .i64 (i:Nat))
theorem agW {C:Ctx} {K:cE} [Up K] (f:aD) (room:List Int) (e:NO) (k:Nat) (p:dD) (hp:∀ m∈p.aRV,0≤m∧m<f.aRV.length) (V:p.aRV.length≤9223372036854775807) {F:PF} {H:PH} {B:List BX} {L:List LI} (b:Nat)
  (hb:B[b]?=some (e.m,.rows 1 (bK (marks f.aRV.length [])))) (w:aM H B L) (X:(UT f room e k p 0).le F)
  (Y:∀ H',aM H' (B.set b (e.m,.rows 1 (bK (marks f.aRV.length p.aRV)))) L→K (.exit 2) (nD f room e k) H'):aC.wp C (.loop YQ) K F H:=by
 refine wp_loop (α:=Nat × PH) (fun s=>UT f room e k p s.1) (fun s=>s.2) (fun s=>s.1≤p.aRV.length∧aM s.2 (B.set b (e.m,.rows 1 (bK (marks f.aRV.length (p.aRV.take s.1))))) L) (fun s=>p.aRV.length-s.1) (0,H) ⟨aTQ _,?_⟩ X b_ ?_
 ·rw[List.take_zero];have W:B.set b (e.m,.rows 1 (bK (marks f.aRV.length [])))=B:=by obtain⟨h1,A⟩:=aUN.1 hb;rw[← A,List.set_getElem_self]
  rw[W]; exact w
 rintro⟨j,U⟩ ⟨Z,w⟩;simp only at Z w;have E:b<B.length:=(aUN.1 hb).1;have x:(B.set b (e.m,bO.rows 1 (bK (marks f.aRV.length (p.aRV.take j)))))[b]?=some (e.m,.rows 1 (bK (marks f.aRV.length (p.aRV.take j)))):=List.getElem?_set_self E;simp only[go_sem,YQ,Gn,UT,nD,gR];by_cases hlt:j<p.aRV.length
 ·have u:(j:Int)<(p.aRV.length:Nat):=Om;have N:(p.aRV.map fun n=>[PV.int .i64 n])[j]?=some [.int .i64 p.aRV[j]]:=by simp[hlt]
  obtain⟨R,S⟩:=hp _ (aTN hlt);have O:p.aRV.take (j+1)=p.aRV.take j++[p.aRV[j]]:=aVS hlt;have J:(p.aRV[j]).toNat<(bK (marks f.aRV.length (p.aRV.take j))).length:=by rw[jO,aoF]; omega
  have I:(bK (marks f.aRV.length (p.aRV.take j)))[(p.aRV[j]).toNat]?=some [.bool ((p.aRV.take j).contains p.aRV[j])]:=by unfold bK;rw[aUG,ao R S]; rfl
  have M:=w.at b x;have A:=w.set b x (.rows 1 (bK (marks f.aRV.length (p.aRV.take (j+1)))));rw[List.set_set] at A;have y:=xz (l:=p.aRV.take j) R S;rw[← O] at y;simp only[go_sem,u,Gp,N,Gq,R,S,aUF,M,I,J,kW,y,Gr,wZz j];exact aH (j+1,U.set e.m (.rows 1 (bK (marks f.aRV.length (p.aRV.take (j+1)))))) ⟨hlt,A⟩ (by simp only; omega) (by (repeat' (first|exact c_|refine d_ ?_ ?_))<;>first|(simp only[go_sem,UT,nD,gR]<;>rfl)|rfl) b_
 ·have u:¬ (j:Int)<(p.aRV.length:Nat):=Om;have:j=p.aRV.length:=Om;subst this;rw[aUS] at w;simp only[go_sem,u];exact Up.up (by (repeat' (first|exact c_|refine d_ ?_ ?_))<;>first|(simp only[go_sem,UT,nD,gR]<;>rfl)|rfl) (Y U w)
theorem HP (pre:List bF) (g:Nat→bF) (k:Nat):pre++(aTI (k+1)).map g=pre++(aTI k).map g++[g k]:=by
 rw[aWA,aUX,aUP]; rfl
theorem GU {G F:PF} {i:Nat} {v:PV} (h:G.le F) (hi:G i=none):G.le (F.set i v):=fun j x l=>by
 rw[mQ];by_cases e:j=i
 ·subst e; rw[hi] at l; cases l
 ·rw[if_neg e]; exact h j x l
theorem ajA {C:Ctx} (f:aD) (p:dD) {i:Nat} (hi:i<f.aRX.length) (I:0≤lvl f i) (J:lvl f i<5) {q op:Nat} (K:PF→PH→Prop) (F:PF) (H:PH) (u:F 16=some (.ptr q 7 0 0)) (hq:H q=some (.rows 7 [(f.aRX[i]).cells])) (l:F 11=some (.ptr op 17 0 0)) (x:H op=some (nK p))
  (y:∀ e:PF,e 17=some (.int .i64 (p.spread (lvl f i).toNat))→(∀ G:PF,G.le F→(∀ j,89≤j→j<94→G j=none)→G 17=none→G.le e)→K e H):wpOps C YW K F H:=by
 have h5:lvl f i<((5:Nat):Int):=Om;simp only[go_sem,YW,u,hq,l,K8 hi,I,h5,Nat.mul_one];have B:lvl f i=0∨lvl f i=1∨lvl f i=2∨lvl f i=3∨lvl f i=4:=Om;have fin:∀ e:PF,e 17=some (.int .i64 (p.spread (lvl f i).toNat))→(∀ G:PF,G.le F→(∀ j,89≤j→j<94→G j=none)→G 17=none→G.le e)→K e H:=y;clear y;rcases B with h | h | h | h | h
 all_goals
  rw[h] at fin ⊢;simp only[go_sem,x];refine fin _ (by simp only[go_sem]; rfl) fun G A E w=>?_
  repeat' (first | exact A | exact w | (exact E _ (by decide) (by decide)) | refine GU ?_ ?_)
theorem amY {C:Ctx} (Lb:mF C) {K:cE} [Up K] (f:aD) (hV:VF f) (room:List Int) (e:NO) (N k:Nat) (hk:k<f.aRW.length) (pre:List bF) (η:pre.length≤900000) {F:PF} {H:PH} {B:List BX} (v:PV)
  (h6:B[0]?=some (e.n,fI f)) (M:B[1]?=some (e.p,nK (bZ f k)))
  (R:aM H ((e.o,bY N v)::B) [(v,4,pre.map bF.cells)]) (hF:(rX f room e k 0).le F)
  (hK:∀ v' H',aM H' ((e.o,bY N v')::B) [(v',4,(pre++(aTI (f.aRX.length-1)).map (iR f k)).map bF.cells)]→K (.exit 4) (nD f room e k) H'):aC.wp C (.loop YR) K F H:=by
 have Y:=hV.small;have hr:=hV.root;have θ:=Y.aRX;have ι:=Y.aRW;have ε:¬ e.n=e.p:=R.ne 1 2 h6 M (by decide);obtain⟨Hs,s6,μ,E⟩:=jj (x:=fI f) (y:=nK (bZ f k)) ε;refine wp_loop (α:=Nat × PV × PH) (fun s=>rX f room e k s.1) (fun s=>s.2.2) (fun s=>s.1≤f.aRX.length∧aM s.2.2 ((e.o,bY N s.2.1)::B) [(s.2.1,4,(pre++(aTI (s.1-1)).map (iR f k)).map bF.cells)]) (fun s=>f.aRX.length-s.1) (0,v,H) ⟨aTQ _,by simpa using R⟩ hF b_ ?_;rintro⟨i,v,H0⟩ ⟨hi,R⟩;simp only at hi R;simp only[go_sem,YR,Gu,rX,nD,gR];by_cases hlt:i<f.aRX.length
 ·have A:(i:Int)<(f.aRX.length:Nat):=Om;have δ:=wZz i;simp only[go_sem,A,Gv,lW hlt];refine R.vG fun q H1 h1=>?_;have q1:=h1.mG;have O:=h1.rG (.rows 7 [(f.aRX[i]).cells]);simp only[go_sem,q1];generalize H1.set q (.rows 7 [(f.aRX[i]).cells])=H2 at *
  have S:=O.mG;by_cases h0:i=0
  ·subst h0;simp only[go_sem,YV,Int.natCast_zero,bP (show (0:Int)=0 from rfl),IH];exact aH (1,v,H2) ⟨hr.1,O.dropLast⟩ (by simp only; omega) (by (repeat' (first|exact c_|refine d_ ?_ ?_))<;>first|(simp only[go_sem,rX,nD,gR]<;>rfl)|rfl) b_
  ·have c0:=bE (Om:¬ ((i:Nat):Int)=0);obtain⟨l,rfl⟩:∃ l,i=l+1:=⟨i-1,by omega⟩;obtain⟨d1,d2,d3,d4,d5⟩:=hV.dom (l+1) Om hlt;have ζ:=hV.uq (Om:0<l+1) hlt;have h5:lvl f (l+1)<((5:Nat):Int):=Om;have l0:(0:Int)≤lvl f (l+1):=Om;have w:H2 e.p=some (nK (bZ f k)):=O.box _ (by refine aWY _ (aWV _ (aVH M)))
   have X:H2 e.n=some (fI f):=O.box _ (by refine aWY _ (aWV _ (aVH h6)));obtain⟨b1,b2,b3,b4⟩:=kG hV hk;obtain⟨hp,he⟩:=nL hV hk;have I:=hV.aSH _ (aTN hp);rw[he] at I;have β:IntKind.i64.wrap ((bZ f k).k+(bZ f k).m)=((eJ f k:Nat):Int):=by rw[b3]; exact wrap_i64 Om Om
   have κ:=I.2.2.2.2.2.2.1 (lvl f (l+1)).toNat;have u:((qW f k (l+1):Nat):Int)=if (bZ f k).spread (lvl f (l+1)).toNat=0 then ((eJ f k:Nat):Int) else (bZ f k).spread (lvl f (l+1)).toNat:=by
    unfold qW fD;split
    ·rfl
    ·omega
   simp only[go_sem,YV,c0];refine ajA f (bZ f k) hlt l0 Om (q:=q) (op:=e.p) _ _ _ Sq S Sq w fun F1 J V=>?_;have hG:=V (((rX f room e k (l+1)).set 15 (.int .i64 ((l+1:Nat):Int))).set 16 (.ptr q 7 0 0)) (by (repeat' (first|exact c_|refine d_ ?_ ?_))<;>first|(simp only[go_sem,rX,nD,gR]<;>rfl)|rfl) (fun j h1 O=>by have:j=89∨j=90∨j=91∨j=92∨j=93:=Om;rcases this with rfl | rfl | rfl | rfl | rfl<;>rfl) rfl
   clear V;have U:∀ Z:PF,((((rX f room e k (l+1)).set 15 (.int .i64 ((l+1:Nat):Int))).set 16 (.ptr q 7 0 0)).set 17 (.int .i64 ((qW f k (l+1):Nat):Int))).le Z →
     aC.wp C (.draw YY) (fA 5 (jV C (aC.wp C (.region IH)) (fN (fun s:Nat × PV × PH=>rX f room e k s.1) (fun s=>s.2.2) (fun s=>s.1≤f.aRX.length∧aM s.2.2 ((e.o,bY N s.2.1)::B) [(s.2.1,4,(pre++(aTI (s.1-1)).map (iR f k)).map bF.cells)]) (fun s=>f.aRX.length-s.1) (f.aRX.length-(l+1)) K))) Z H2:=by
    intro Z γ;refine sA _ (fun _ _ _ _ a b=>Up.up a b) γ ?_;refine bC Hs (AN f (eD [(e.o,bY N v)]++dP [(v,4,(pre++(aTI l).map (iR f k)).map bF.cells)]) (q9 e.o N (pre++(aTI l).map (iR f k)) (iR f k l))) (E _ X w) ?_;simp only[go_sem,YY,rX,nD,gR,X,S,s6];refine YM Lb Y hr.1 (v:=k) (i:=gX f (l+1)) Om Om (by simp only[go_sem,Ol hlt,ζ]) (E _ X w) ?_;simp only[go_sem,s6];refine YM Lb Y hr.1 (v:=k) (i:=l+1) Om Om Sq (E _ X w) ?_;simp only[go_sem];refine ry Lb (iR f k l) (v:=v) (B2:=B++[(q,.rows 7 [(f.aRX[l+1]).cells])]) (by rw[aTM,aTJ,aVY]; omega) O Sq (by simp only[go_sem]; rfl) fun v' H' h'=>⟨E _ (h'.box _ (aWV _ (aWY _ (aVH h6)))) (h'.box _ (aWV _ (aWY _ (aVH M)))),?_⟩;simp only[go_sem,IH,δ];refine aH (l+1+1,v',H') ⟨hlt,?_⟩ (by simp only; omega) (by (repeat' (first|exact c_|refine d_ ?_ ?_))<;>first|(simp only[go_sem,rX,nD,gR]<;>rfl)|rfl) b_;simp only;rw[show l+1+1-1=l+1 from rfl,HP];exact aM.dropLast (B:=(e.o,bY N v')::B) h'
   by_cases W:(bZ f k).spread (lvl f (l+1)).toNat=0
   ·rw[if_pos W] at u;have f11:=hG 11 _ rfl;simp only[go_sem,YX,J,bP W,Gw,f11,w,β];refine U _ (d_ ?_ (by simp only[go_sem,u]))
    repeat' (first | exact hG | refine GU ?_ rfl)
   ·rw[if_neg W] at u;simp only[go_sem,YX,J,bE W];refine U _ (d_ ?_ (by simp only[go_sem,J,u]))
    repeat' (first | exact hG | refine GU ?_ rfl)
 ·have A:¬ (i:Int)<(f.aRX.length:Nat):=Om;have:i=f.aRX.length:=Om;subst this;simp only[go_sem,A];exact Up.up (by (repeat' (first|exact c_|refine d_ ?_ ?_))<;>first|(simp only[go_sem,rX,nD,gR]<;>rfl)|rfl) (hK v H0 R)
theorem VJ (p:Nat→Bool) (k:Nat):(aTI (k+1)).filter p=(aTI k).filter p++if p k=true then [k] else []:=by
 rw[aWA,List.filter_append,List.filter_cons,List.filter_nil]
theorem amZ {C:Ctx} (J:mF C) {K:cE} [Up K] (f:aD) (hV:VF f) (room:List Int) (e:NO) (N k:Nat) (hk:k<f.aRW.length) (pre:List bF) (Z:pre.length≤900000) {F:PF} {H:PH} {B:List BX} (v:PV)
  (Y:B[0]?=some (e.n,fI f)) (O:B[1]?=some (e.m,.rows 1 (bK (marks f.aRV.length (bZ f k).aRV))))
  (y:aM H ((e.o,bY N v)::B) [(v,4,pre.map bF.cells)]) (hF:(KM f room e k 0).le F)
  (hK:∀ v' H',aM H' ((e.o,bY N v')::B) [(v',4,(pre++((aTI f.aRU.length).filter (okD f k)).map (dZ f k)).map bF.cells)]→K (.exit 6) (gR f room e k) H'):aC.wp C (.loop YS) K F H:=by
 have E:=hV.small;have hr:=hV.root;have β:=E.aRX;have γ:=E.aRU;have δ:=E.aRW;refine wp_loop (α:=Nat × PV × PH) (fun s=>KM f room e k s.1) (fun s=>s.2.2) (fun s=>s.1≤f.aRU.length∧aM s.2.2 ((e.o,bY N s.2.1)::B) [(s.2.1,4,(pre++((aTI s.1).filter (okD f k)).map (dZ f k)).map bF.cells)]) (fun s=>f.aRU.length-s.1) (0,v,H) ⟨aTQ _,by simpa using y⟩ hF b_ ?_;rintro⟨i,v,H0⟩ ⟨hi,y⟩;simp only at hi y;simp only[go_sem,YS,Gy,KM,gR];by_cases hlt:i<f.aRU.length
 ·have j:(i:Int)<(f.aRU.length:Nat):=Om;have A:=wZz i;obtain⟨d1,d2,d3,d4,d5⟩:=hV.drive i hlt;have S:(bK (marks f.aRV.length (bZ f k).aRV))[mdl f i]?=some [.bool ((bZ f k).aRV.contains ((mdl f i:Nat):Int))]:=by have:=ao (n:=f.aRV.length) (l:=(bZ f k).aRV) (m:=((mdl f i:Nat):Int)) Om Om;rw[aWN] at this;unfold bK;rw[aUG,this]; rfl
  have V:okD f k i=(bZ f k).aRV.contains ((mdl f i:Nat):Int):=rfl;have U:((mdl f i:Nat):Int)<(f.aRV.length:Nat):=Om;simp only[go_sem,j,Gz,oO hlt];refine y.vG fun q H1 X=>?_;have q1:=X.mG;have w:=X.rG (.rows 3 [(f.aRU[i]).cells]);simp only[go_sem,q1];generalize H1.set q (.rows 3 [(f.aRU[i]).cells])=H2 at *
  have x:=w.mG;have M:H2 e.m=some _:=w.box _ (aWY _ (aWV _ (aVH O)));have I:H2 e.n=some (fI f):=w.box _ (aWY _ (aWV _ (aVH Y)));have u:=VJ (okD f k) i;simp only[go_sem,G0,x,hV.QP hlt,U,M,aUF,S];rw[← V];cases hb:okD f k i with
  | false =>rw[hb,if_neg (by decide),aVC] at u;rw[← u] at w;simp only[go_sem,YZ,A];exact aH (i+1,v,H2) ⟨hlt,w.dropLast⟩ (by simp only; omega) (by (repeat' (first|exact c_|refine d_ ?_ ?_))<;>first|(simp only[go_sem,KM,gR]<;>rfl)|rfl) b_
  | true =>
   rw[hb,if_pos rfl] at u;simp only[go_sem];refine bC (PH.nil.set e.n (fI f)) (AN f (eD [(e.o,bY N v)]++dP [(v,4,(pre++((aTI i).filter (okD f k)).map (dZ f k)).map bF.cells)]) (q9 e.o N (pre++((aTI i).filter (okD f k)).map (dZ f k)) (dZ f k i))) (e_ a_ I) ?_;have R:=List.length_filter_le (okD f k) (aTI i);rw[aVY] at R;simp only[go_sem,G1,I,x];refine YM J E hr.1 (v:=k) (i:=eU f i) Om Om (by simp only[go_sem,hV.ta hlt]) (e_ a_ I) ?_;simp only[go_sem];refine AQ J E (i:=i) Om Sq (e_ a_ I) ?_;simp only[go_sem];refine ry J (dZ f k i) (v:=v) (B2:=B++[(q,.rows 3 [(f.aRU[i]).cells])]) (by rw[aTM,aTJ]; omega) w Sq (by simp only[go_sem]; rfl) fun v' H' W=>⟨e_ a_ (W.box _ (aWV _ (aWY _ (aVH Y)))),?_⟩;simp only[go_sem,YZ,A];refine aH (i+1,v',H') ⟨hlt,?_⟩ (by simp only; omega) (by (repeat' (first|exact c_|refine d_ ?_ ?_))<;>first|(simp only[go_sem,KM,gR]<;>rfl)|rfl) b_;simp only;have e2:pre++((aTI (i+1)).filter (okD f k)).map (dZ f k)=pre++((aTI i).filter (okD f k)).map (dZ f k)++[dZ f k i]:=by rw[u,aUX,← aUP]; rfl
   rw[e2];exact aM.dropLast (B:=(e.o,bY N v')::B) W
 ·have j:¬ (i:Int)<(f.aRU.length:Nat):=Om;have:i=f.aRU.length:=Om;subst this;simp only[go_sem,j];exact Up.up (by (repeat' (first|exact c_|refine d_ ?_ ?_))<;>first|(simp only[go_sem,KM,gR]<;>rfl)|rfl) (hK v H0 y)
theorem MW (f:aD) (k:Nat):(aTI (k+1)).flatMap (eN f)=(aTI k).flatMap (eN f)++eN f k:=by
 rw[aWA,List.flatMap_append,List.flatMap_cons,List.flatMap_nil,aVC]
theorem xM {f:aD} (e:Small f):∀ k,((aTI k).flatMap (eN f)).length≤k*65
 | 0=>aTO _
 | k+1=>by have j:=xM e k;have l:=Sn f k;have u:=e.aRX;have w:=e.aRU;rw[MW,aTM];omega
theorem anA {C:Ctx} (S:mF C) {K:cE} [Up K] (f:aD) (hf:f.Ok) (hV:VF f) (room:List Int) (o n z:Nat) (N:Nat) {F:PF} {H:PH}
  (J:aM H [(o,bY N .aB),(n,fI f),(z,fX)] [(.aB,4,[])]) (hF:(gR f room ⟨o,n,z,0,0⟩ 0).le F)
  (hK:∀ v' H',aM H' [(o,bY N v'),(n,fI f),(z,fX)] [(v',4,((aTI f.aRW.length).flatMap (eN f)).map bF.cells)]→K (.exit 0) (gR f room ⟨o,n,z,0,0⟩ f.aRW.length) H'):aC.wp C (.loop YT) K F H:=by
 have I:=hV.small;have hr:=hV.root;have η:=I.aRX;have θ:=I.aRU;have ι:=I.aRW;have Z:(f.aRV.length:Int)*((1:Nat):Int)≤140737488355328:=by have:=I.aRV; omega
 have β:(f.aRV.length:Int)≤9223372036854775807:=by have:=I.aRV; omega
 have γ:(0:Int)≤(f.aRV.length:Int):=Om;refine wp_loop (α:=Nat × PV × PH) (fun s=>gR f room ⟨o,n,z,0,0⟩ s.1) (fun s=>s.2.2) (fun s=>s.1≤f.aRW.length∧aM s.2.2 [(o,bY N s.2.1),(n,fI f),(z,fX)] [(s.2.1,4,((aTI s.1).flatMap (eN f)).map bF.cells)]) (fun s=>f.aRW.length-s.1) (0,.aB,H) ⟨aTQ _,by simpa using J⟩ hF b_ ?_;rintro⟨k,v,H0⟩ ⟨hk,J⟩;simp only at hk J;simp only[go_sem,YT,Ws,gR];by_cases hlt:k<f.aRW.length
 ·have u:(k:Int)<(f.aRW.length:Nat):=Om;have δ:=wZz k;obtain⟨hp,he⟩:=nL hV hlt;have A:=hV.aSH _ (aTN hp);have l:=(hf.aSH _ (aTN hp)).aRV;rw[he] at A l;have l:(bZ f k).aRV.length≤9223372036854775807:=by first | exact l | (have:=l; omega)
  obtain⟨b1,b2,b3,b4⟩:=kG hV hlt;have X:IntKind.i64.wrap ((bZ f k).k+(bZ f k).m)=((eJ f k:Nat):Int):=by rw[b3]; exact wrap_i64 Om Om
  have ζ:=xM I k;simp only[go_sem,u,Wt,uT hlt];refine J.vG fun O H1 h1=>?_;have g1:=h1.mG;have h2:=h1.rG (.rows 2 [(f.aRW[k]).cells]);simp only[go_sem,g1];generalize H1.set O (.rows 2 [(f.aRW[k]).cells])=H2 at *
  have V:=h2.mG;simp only[go_sem,Wu,V,hV.SB hlt,pI hp,he];refine h2.vG fun e H3 h3=>?_;have g2:=h3.mG;have h4:=h3.rG (nK (bZ f k));simp only[go_sem,g2];generalize H3.set e (.rows 17 [(bZ f k).cells])=H4 at *
  simp only[go_sem,Gl,aTJ,Z,β,γ,Int.le_refl,aWN];refine aO fun j M=>?_;rw[Fa];have h5:=h4.new M (.rows 1 (bK (marks f.aRV.length [])));generalize H4.set j (.rows 1 (bK (marks f.aRV.length [])))=H5 at *
  have w:=h5.at 4 rfl;simp only[go_sem,Gm,w];refine agW f room ⟨o,n,z,e,j⟩ k (bZ f k) A.2.2.2.2.2.2.2 l 5 rfl h5 (by (repeat' (first|exact c_|refine d_ ?_ ?_))<;>first|(simp only[go_sem,UT,nD,gR]<;>rfl)|rfl) fun H6 U=>?_;have U:aM H6 [(o,bY N v),(n,fI f),(z,fX),(O,.rows 2 [(f.aRW[k]).cells]),(e,nK (bZ f k)),(j,.rows 1 (bK (marks f.aRV.length (bZ f k).aRV)))] [(v,4,((aTI k).flatMap (eN f)).map bF.cells)]:=U;have h7:aM H6 [(o,bY N v),(n,fI f),(e,nK (bZ f k)),(j,.rows 1 (bK (marks f.aRV.length (bZ f k).aRV))),(z,fX)] [(v,4,((aTI k).flatMap (eN f)).map bF.cells)]:=by refine (U.wI 3).perm ?_ (aVX.refl _);show aVX [_,_,_,_,_] _;exact .cons _ (.cons _ (((List.perm_append_comm (l₁:=[(z,fX)]) (l₂:=[(e,nK (bZ f k)),(j,.rows 1 (bK (marks f.aRV.length (bZ f k).aRV)))])))))
  clear U;have W:=h7.at 1 rfl;have w:=h7.at 2 rfl;have ε:¬ n=e:=h7.ne 1 2 rfl rfl (by decide);obtain⟨Hs,s6,R,E⟩:=jj (x:=fI f) (y:=nK (bZ f k)) ε;simp only[go_sem];refine bC Hs (AN f (eD [(o,bY N v)]++dP [(v,4,((aTI k).flatMap (eN f)).map bF.cells)]) (q9 o N ((aTI k).flatMap (eN f)) ⟨0,2+k,eJ f k⟩)) (E _ W w) ?_;simp only[go_sem,Gs,nD,gR,W,R];refine Fe S (v:=k) Om Sq (E _ W w) ?_;simp only[go_sem,R,X];refine ry S ⟨0,2+k,eJ f k⟩ (v:=v) (B2:=[(n,fI f),(e,nK (bZ f k)),(j,.rows 1 (bK (marks f.aRV.length (bZ f k).aRV))),(z,fX)]) Om h7 Sq (by simp only[go_sem]; rfl) fun v1 H7 h8=>⟨E _ (h8.at 1 rfl) (h8.at 2 rfl),?_⟩;simp only[go_sem,Gt];refine amY S f hV room ⟨o,n,z,e,j⟩ N k hlt ((aTI k).flatMap (eN f)++[(⟨0,2+k,eJ f k⟩:bF)]) (by rw[aTM,aTT]; omega) v1 rfl rfl h8 (by (repeat' (first|exact c_|refine d_ ?_ ?_))<;>first|(simp only[go_sem,rX,nD,gR]<;>rfl)|rfl) fun v2 H8 h9=>?_;simp only[go_sem,Gx,nD,gR];refine amZ S f hV room ⟨o,n,z,e,j⟩ N k hlt ((aTI k).flatMap (eN f)++[(⟨0,2+k,eJ f k⟩:bF)]++(aTI (f.aRX.length-1)).map (iR f k)) (by rw[aTM,aTM,aTT,aTJ,aVY]; omega) (B:=[(n,fI f),(j,.rows 1 (bK (marks f.aRV.length (bZ f k).aRV))),(z,fX)]) v2 rfl rfl (h9.wI 2) (by (repeat' (first|exact c_|refine d_ ?_ ?_))<;>first|(simp only[go_sem,KM,gR]<;>rfl)|rfl) fun v3 H9 Y=>?_;simp only[go_sem,G2,gR,δ];refine aH (k+1,v3,H9) ⟨hlt,?_⟩ (by simp only; omega) (by (repeat' (first|exact c_|refine d_ ?_ ?_))<;>first|(simp only[go_sem,gR]<;>rfl)|rfl) b_;simp only;have ev:(aTI (k+1)).flatMap (eN f)=(aTI k).flatMap (eN f)++[(⟨0,2+k,eJ f k⟩:bF)]++(aTI (f.aRX.length-1)).map (iR f k)++((aTI f.aRU.length).filter (okD f k)).map (dZ f k):=by rw[MW];unfold eN;simp
  rw[ev];exact Y.wI 2
 ·have u:¬ (k:Int)<(f.aRW.length:Nat):=Om;have:k=f.aRW.length:=Om;subst this;simp only[go_sem,u];exact Up.up (by (repeat' (first|exact c_|refine d_ ?_ ?_))<;>first|(simp only[go_sem,gR]<;>rfl)|rfl) (hK v H0 J)
def vQ (f:aD) (room:List Int):cJ:=if dA f=true then eE f room else ⟨0,0,0,[]⟩
def aiY (f:aD):Int:=if dA f=true then 0 else 1
def uF (f:aD) (room:List Int):PV:=.tup [.agg (vQ f room).cells,.int .i64 (aiY f)]
theorem AC {f:aD} (h:dA f=true) (room:List Int):vQ f room=eE f room:=if_pos h
theorem tA {f:aD} (h:dA f=true):aiY f=0:=if_pos h
theorem GY {f:aD} (h:dA f=false):aiY f=1:=if_neg (by rw[h]; decide)
theorem tx {f:aD} (h:dA f=false) (room:List Int):vQ f room=⟨0,0,0,[]⟩:=if_neg (by rw[h]; decide)
theorem coL {a b:PV} (h:Co a b) (x y z w:PV):Co (.tup [.agg [x,y,z,a],w]) (.tup [.agg [x,y,z,b],w]):=by
 refine .tup rfl fun j p q e hq=>?_
 match j with
 | 0 =>
  cases e; cases hq;refine .agg rfl fun j p q e hq=>?_
  match j with
  | 0=>cases e; cases hq; exact .refl _
  | 1=>cases e; cases hq; exact .refl _
  | 2=>cases e; cases hq; exact .refl _
  | 3=>cases e; cases hq; exact h
  | j+4=>cases e
 | 1=>cases e; cases hq; exact .refl _
 | j+2=>cases e
theorem UG {H:PH} {B:List BX} {v:PV} {rows:List (List PV)} {a b c e:Int} (h:aM H B [(v,4,rows)]):oR (.tup [.agg [.int .i64 a,.int .i64 b,.int .i64 c,v],.int .i64 e]) H (cB (.tup [.agg [.int .i64 a,.int .i64 b,.int .i64 c,.sl 4 rows],.int .i64 e])):=by
 rcases h.own 0 rfl with ⟨j,rfl⟩ | ⟨q,rs,rfl,_⟩
 ·subst j;exact .done (H2:=.nil) ⟨coL (.nil 4) _ _ _ _,rfl⟩ a_
 ·obtain⟨rs,l,u,-,-,-⟩:=h.frz 0 rfl;refine .step l ?_;show oR (.tup [.agg [.int .i64 a,.int .i64 b,.int .i64 c,PV.cH q 4 rs (.osl q 4 0 rows.length)],.int .i64 e]) _ _;rw[u];exact .done (H2:=.nil) ⟨.refl _,rfl⟩ a_
theorem agX {C:Ctx} (x:mF C) {K:cE} [Up K] (f:aD) (hV:VF f) (room:List Int) (o n z N:Nat) (pre:List bF) (y:pre.length≤900000) {F:PF} {H:PH} (v:PV)
  (j:aM H [(o,bY N v),(n,fI f),(z,fX)] [(v,4,pre.map bF.cells)])
  (J:((((((((PF.nil.set 4 (.ptr z 4 0 0)).set 6 (.ptr n 2 0 0)).set 7 (.ptr o 4 0 0)).set 8 (.fn 285 [.ptr o 4 0 0])).set 141 (.sl 1 (cQ (kM f room)))).set 142 (.int .i64 (f.aRU.length:Nat))).set 143 (.int .i64 0))).le F)
  (M:∀ v' H',aM H' [(o,bY N v'),(n,fI f),(z,fX)] [(v',4,(pre++(aTI f.aRU.length).map (lF f room)).map bF.cells)]→K (.exit 8) (((PF.nil.set 4 (.ptr z 4 0 0)).set 7 (.ptr o 4 0 0))) H'):aC.wp C (.loop YU) K F H:=by
 have A:=hV.small;have O:=A.aRU;refine wp_loop (α:=Nat × PV × PH) (fun s=>(((((((PF.nil.set 4 (.ptr z 4 0 0)).set 6 (.ptr n 2 0 0)).set 7 (.ptr o 4 0 0)).set 8 (.fn 285 [.ptr o 4 0 0])).set 141 (.sl 1 (cQ (kM f room)))).set 142 (.int .i64 (f.aRU.length:Nat))).set 143 (.int .i64 (s.1:Nat)))) (fun s=>s.2.2) (fun s=>s.1≤f.aRU.length∧aM s.2.2 [(o,bY N s.2.1),(n,fI f),(z,fX)] [(s.2.1,4,(pre++(aTI s.1).map (lF f room)).map bF.cells)]) (fun s=>f.aRU.length-s.1) (0,v,H) ⟨aTQ _,by simpa using j⟩ J b_ ?_;rintro⟨i,v,B⟩ ⟨hi,j⟩;simp only at hi j;simp only[go_sem,YU,G4];by_cases hlt:i<f.aRU.length
 ·have e:(i:Int)<(f.aRU.length:Nat):=Om;have u:=wZz i;have w:i<(kM f room).length:=by rw[oP]; exact hlt
  have l:=JG w;obtain⟨r1,r2⟩:=uN hV room hlt;rw[LL,← r2] at l;have E:=j.at 1 rfl;simp only[go_sem,e,G5,l,G6,E];refine aA (x.drv f A i Om) Sq ?_;simp only[go_sem];refine alO x (lF f room i) (by rw[aTM,aTJ,aVY]; omega) j (by simp only[go_sem]; rfl) fun v' H' I=>?_;simp only[go_sem,G7,u];refine aH (i+1,v',H') ⟨hlt,?_⟩ (by simp only; omega) Lq b_;simp only;rw[HP];exact I
 ·have e:¬ (i:Int)<(f.aRU.length:Nat):=Om;have:i=f.aRU.length:=Om;subst this;simp only[go_sem,e];exact Up.up Lq (M v B j)
theorem aDF {C:Ctx} (l:mF C) (f:aD) (A:f.Ok) (room:List Int) :
  PT.wp C (aR auI.res (cB (uF f room))) (PF.args [.agg f.cells,ints room]) .nil:=by
 simp only[go_sem,PT,Wk,auI];refine aO fun z S=>?_;simp only[go_sem,Wl];refine aA (l.valid f A) Sq ?_;have y:aM (PH.nil.set z fX) [(z,fX)] []:=aM.nil.new S fX;generalize (PH.nil.set z fX)=V at *
 have M:=y.at 0 rfl;cases j:dA f with
 | false =>simp only[go_sem,nw j,Wm,M];rw[uF,tx j,GY j];have w:=(y.set 0 rfl fX).kS 4;refine oH (vs:=[.agg [.int .i64 0,.int .i64 0,.int .i64 0,.aB],.int .i64 1]) (.inr rfl) Sq ?_;exact UG w
 | true =>
  have hV:=VF.of j;have x:=hV.small;have B:xZ f=0:=by rw[xZ,j]; rfl
  rw[uF,AC j,tA j];simp only[go_sem,B,Wn,aTJ];refine y.vG fun n H2 w=>?_;have g2:=w.at 1 rfl;have E:=w.set 1 rfl (fI f);simp only[go_sem,g2];generalize H2.set n (.rows 2 [[.int .i64 (f.aRW.length:Nat),.int .i64 (f.aRX.length:Nat)]])=W at *
  have N:=E.at 1 rfl;simp only[go_sem,Wo,N,aTJ];refine aA (l.drv f x f.aRU.length (by have:=x.aRU; omega)) Sq ?_;simp only[go_sem];refine E.vG fun o J F=>?_;have g4:=F.at 2 rfl;have h5:=F.set 2 rfl (bY (bL f f.aRU.length) .aB);simp only[go_sem,g4];generalize J.set o (.rows 4 [[.int .i64 ((bL f f.aRU.length:Nat):Int),.int .i64 0,.int .i64 1,.aB]])=K at *
  have O:aM K [(o,bY (bL f f.aRU.length) .aB),(n,fI f),(z,fX)] [(.aB,4,[])]:=by refine (h5.kS 4).perm ?_ (aVX.refl _);exact (List.reverse_perm _).symm
  simp only[go_sem,Wp,Wq];refine anA l f A hV room o n z _ O (by (repeat' (first|exact c_|refine d_ ?_ ?_))<;>first|(simp only[go_sem,gR]<;>rfl)|rfl) fun U X h7=>?_;have u:=(l.roomM f room A).freeze;rw[CV,if_pos j] at u;simp only[go_sem,G3,gR];refine aA u Sq ?_;simp only[go_sem,hY,oP];refine agX l f hV room o n z _ ((aTI f.aRW.length).flatMap (eN f)) (by have:=xM x f.aRW.length; have:=x.aRW; omega) U h7 (by (repeat' (first|exact c_|refine d_ ?_ ?_))<;>first|(simp only[go_sem,hY,oP]<;>rfl)|rfl) fun I Y h8=>?_;have a7:=h8.at 0 rfl;have a4:=h8.at 2 rfl;have R:=h8.set 2 rfl (bY (bL f f.aRU.length) I);simp only[go_sem,G8,a7,a4];refine⟨_,if_pos ?_,?_⟩
  ·rcases h8.own 0 rfl with ⟨_,e⟩ | ⟨q,rs,e,_⟩<;>rw[e]
  refine oH (vs:=[.agg [.int .i64 ((bL f f.aRU.length:Nat):Int),.int .i64 0,.int .i64 1,I],.int .i64 0]) (.inr rfl) Sq ?_;exact UG R

abbrev cV:=Nat × Bool
def noA:bF:=⟨0,0,0⟩
def dV (n:cJ) (i:Nat):bF:=n.arcs.getD i noA
def eY (n:cJ) (s:cV):Nat:=if s.2=true then (dV n s.1).dst else (dV n s.1).src
def dR (n:cJ) (s:cV):Nat:=if s.2=true then (dV n s.1).src else (dV n s.1).dst
def eG (n:cJ) (xs:List Nat) (s:cV):Nat:=if s.2=true then (dV n s.1).cap-xs.getD s.1 0 else xs.getD s.1 0
structure nU (n:cJ) (xs:List Nat) (Q:List Nat) (way:Nat→cV):Prop where
 first:∃ t,Q=n.source::t
 nd:Q.Nodup
 lt:∀ v∈Q,v<n.nodes
 way:∀ v∈Q,v≠n.source→(way v).1<n.arcs.length∧eY n (way v)=v∧0<eG n xs (way v)∧dR n (way v)∈Q∧Q.idxOf (dR n (way v))<Q.idxOf v
def HK (n:cJ) (xs:List Nat) (Q:List Nat) (k:Nat):Prop:=∀ v∈Q.take k,∀ s:cV,s.1<n.arcs.length→dR n s=v→0<eG n xs s→eY n s∈Q
theorem sE {n:cJ} {i:Nat} {a:bF} (h:n.arcs[i]?=some a):dV n i=a:=by unfold dV; rw[aTR,h]; rfl
theorem ayP {n:cJ} (B:fU n) {xs:List Nat} (w:gP n xs) {Q:List Nat} {way:Nat→cV} (y:nU n xs Q way) (hD:HK n xs Q Q.length) (E:n.sink ∉ Q):jB n xs=dO (fun v=>Q.contains v) n.arcs:=by
 obtain⟨t,F⟩:=y.first;refine w.full B (by rw[F]; simp) (by simpa using E) fun i a x e u=>⟨fun j l=>?_,fun j l=>?_⟩
 ·have hi:=(aUN.1 e).1;have j:a.src∈Q:=by simpa using j
  have l:a.dst ∉ Q:=by simpa using l
  have A:=w.le i a x e u;rcases aUE x a.cap with c | c
  ·refine absurd (hD a.src (by rw[aUS]; exact j) (i,true) hi ?_ ?_) ?_
   ·unfold dR; rw[if_pos rfl,sE e]
   ·unfold eG;rw[if_pos rfl,sE e,aTR,u];simp only[aWE]; omega
   ·unfold eY;rw[if_pos rfl,sE e]; exact l
  ·omega
 ·have hi:=(aUN.1 e).1;have j:a.src ∉ Q:=by simpa using j
  have l:a.dst∈Q:=by simpa using l
  rcases aVP x with c | c
  ·exact c
  ·refine absurd (hD a.dst (by rw[aUS]; exact l) (i,false) hi ?_ ?_) ?_
   ·unfold dR; rw[if_neg (show ¬ (false=true) by decide),sE e]
   ·unfold eG;rw[if_neg (show ¬ (false=true) by decide),aTR,u];exact c
   ·unfold eY;rw[if_neg (show ¬ (false=true) by decide),sE e]; exact j
inductive vC (n:cJ) (Q:List Nat) (way:Nat→cV):Nat→List cV→Prop
 | nil:vC n Q way n.source []
 | cons {v:Nat} {L:List cV} (hv:v∈Q) (hne:v≠n.source) (h:vC n Q way (dR n (way v)) L):vC n Q way v (way v::L)
theorem amE {n:cJ} {xs Q:List Nat} {way:Nat→cV} (w:nU n xs Q way):∀ (m v:Nat),Q.idxOf v=m→v∈Q→∃ L,vC n Q way v L∧L.length≤m:=by
 intro m
 induction m using Nat.strongRecOn with
 | ind m x =>
  intro v F j;by_cases e:v=n.source
  ·subst e;exact⟨[],.nil,aTQ _⟩
  ·obtain⟨y,A,B,l,h5⟩:=w.way v j e;obtain⟨L,u,E⟩:=x _ Om (dR n (way v)) rfl l;exact⟨way v::L,.cons j e u,by simp; omega⟩
theorem vC.aPJ {n:cJ} {xs Q:List Nat} {way:Nat→cV} (x:nU n xs Q way):∀ {v:Nat} {L:List cV},vC n Q way v L→v∈Q→∀ s∈L,s.1<n.arcs.length∧0<eG n xs s∧Q.idxOf (dR n s)<Q.idxOf (eY n s)∧Q.idxOf (eY n s)≤Q.idxOf v:=by
 intro v L h
 induction h with
 | nil=>intro _ s hs; cases hs
 | @cons v L y e h A =>
  intro _ s hs;obtain⟨l,j,u,w,h5⟩:=x.way v y e;rcases aTW.1 hs with rfl | hs
  ·exact⟨l,u,by rw[j]; exact h5,by rw[j]; exact aTO _⟩
  ·obtain⟨g1,g2,g3,g4⟩:=A w s hs;exact⟨g1,g2,g3,by omega⟩
theorem vC.apart {n:cJ} {xs Q:List Nat} {way:Nat→cV} (w:nU n xs Q way) {v:Nat} {s:cV} {L:List cV} (h:vC n Q way v (s::L)) (B:v∈Q):∀ s'∈L,s'.1≠s.1:=by
 intro s' u e;cases h with
 | cons _ l h =>
  obtain⟨E,y,F,A,h5⟩:=w.way v B l;obtain⟨g1,g2,g3,g4⟩:=h.aPJ w A s' u;have x:Q.idxOf (dR n (way v))<Q.idxOf (eY n (way v)):=by rw[y]; exact h5
  unfold eY dR at x g3 g4;rw[e] at g3 g4;have I:=g4;cases hb:(way v).2<;>cases j:s'.2<;>simp only[hb,j,aWM,if_true,if_false] at x g3 g4<;>omega
def push (e:Nat) (j:List Nat) (s:cV):List Nat:=j.set s.1 (if s.2=true then j.getD s.1 0+e else j.getD s.1 0-e)
theorem da (e:Nat) (j:List Nat) (s:cV):(push e j s).length=j.length:=by unfold push; rw[aVJ]
structure gk (n:cJ) (xs ys:List Nat) (amt v:Nat) (L:List cV):Prop where
 len:ys.length=n.arcs.length
 le:∀ (i:Nat) a x,n.arcs[i]?=some a→ys[i]?=some x→x≤a.cap
 net:∀ w,gI n.arcs ys w=gI n.arcs xs w-(if w=n.sink then (amt:Int) else 0)+(if w=v then (amt:Int) else 0)
 same:∀ s∈L,ys.getD s.1 0=xs.getD s.1 0
theorem aoI {n:cJ} {xs:List Nat} (j:gP n xs) (e:Nat) (L:List cV):gk n xs xs e n.sink L:=⟨j.len,j.le,fun w=>by split<;>omega,fun _ _=>rfl⟩
theorem awM {n:cJ} {xs K Q:List Nat} {way:Nat→cV} (R:nU n xs Q way) {j v:Nat} {s:cV} {L:List cV} (l:gk n xs K j v (s::L)) (hB:vC n Q way v (s::L)) (U:v∈Q) (E:j≤eG n xs s) :
  dR n s∈Q∧vC n Q way (dR n s) L∧gk n xs (push j K s) j (dR n s) L:=by
 have M:=hB.apart R U;cases hB with
 | cons _ N hB =>
  obtain⟨O,B,W,V,h5⟩:=R.way v U N;generalize way v=s at *
  have u:n.arcs[s.1]?=some (dV n s.1):=by unfold dV; rw[aTR,aTP O]; rfl
  have I:s.1<K.length:=by rw[l.len]; exact O
  have F:K[s.1]?=some (K.getD s.1 0):=by rw[aTR,aTP I]; rfl
  have y:=l.same s (by simp);have S:=l.le _ _ _ u F;unfold eG at E;rw[← y] at E;refine⟨V,hB,by rw[da]; exact l.len,fun i a x hi A=>?_,fun w=>?_,fun s' J=>?_⟩
  ·unfold push at A;by_cases e:i=s.1
   ·subst e;rw[List.getElem?_set_self I] at A;rw[u] at hi;cases hi;simp only[aVU.injEq] at A;subst A;cases hb:s.2 with
    | true=>rw[hb,if_pos rfl] at E; rw[if_pos rfl]; omega
    | false=>rw[if_neg (by decide)]; omega
   ·rw[List.getElem?_set_ne (fun h=>e h.symm)] at A;exact l.le i a x hi A
  ·unfold push;rw[aaE _ u F,l.net];unfold eY at B;unfold dR;cases hb:s.2 with
   | true =>rw[hb,if_pos rfl] at E B;simp only[if_true];rw[B];split<;>split<;>split<;>split<;>omega
   | false =>rw[hb,if_neg (by decide)] at E B;simp only[aWM,if_false];rw[B];split<;>split<;>split<;>split<;>omega
  ·unfold push;have:=M s' J;rw[aTR,List.getElem?_set_ne (fun h=>this h.symm),← aTR];exact l.same s' (aWV _ J)
theorem awL {n:cJ} (y:fU n) {xs l:List Nat} (x:gP n xs) {e:Nat} {L:List cV} (j:gk n xs l e n.source L):gP n l∧jB n l=jB n xs+e:=by
 refine⟨⟨j.len,j.le,fun v A u w=>?_⟩,?_⟩
 ·rw[j.net,x.node v A u w,if_neg w,if_neg u]; rfl
 ·unfold jB;rw[j.net,if_neg y.apart,if_pos rfl]; omega
abbrev gS (xs:List Nat):List (List PV):=xs.map fun x=>[PV.int .i64 ((x:Nat):Int)]
theorem BH {xs:List Nat} {i:Nat} (h:i<xs.length):(gS xs)[i]?=some [.int .i64 ((xs.getD i 0:Nat):Int)]:=by
 rw[aUG,aTP h,aTR,aTP h]; rfl
abbrev sO (n:cJ) (fo m:Nat) (out:PV):bO:=.rows 6 [[.int .i64 (n.nodes:Nat),.int .i64 (n.source:Nat),.int .i64 (n.sink:Nat),rk n.arcs,.osl fo 1 0 m,out]]
abbrev sH (n:cJ) (e fo:Nat) (xs:List Nat) (out:PV):PH:=(PH.nil.set e (sO n fo xs.length out)).set fo (.rows 1 (gS xs))
def stI (s:cV):Int:=if s.2=true then (s.1:Int) else -1-(s.1:Int)
structure tN (n:cJ) (xs:List Nat):Prop where
 len:xs.length=n.arcs.length
 le:∀ i,i<n.arcs.length→xs.getD i 0≤(dV n i).cap
theorem sV {n:cJ} {i:Nat} (h:i<n.arcs.length):n.arcs[i]=dV n i:=(sE (aTP h)).symm
theorem vE {n:cJ} {i:Nat} (h:i<n.arcs.length):(n.arcs.map bF.cells)[i]?=some (dV n i).cells:=by rw[TY h,sV h]
theorem awD {C:Ctx} (n:cJ) (K:fU n) (w fo:Nat) (u:¬ w=fo) (xs:List Nat) (M:tN n xs) (out:PV) (s:cV) (l:s.1<n.arcs.length) :
  yL.wp C (aR D6.res (fun r H'=>r=.tup [.int .i64 ((eY n s:Nat):Int),.int .i64 ((eG n xs s:Nat):Int)]∧H'=sH n w fo xs out)) (PF.args [.ptr w 6 0 0,.int .i64 (stI s)]) (sH n w fo xs out):=by
 have j:¬ fo=w:=fun e=>u e.symm;obtain⟨i,b⟩:=s;have l:i<n.arcs.length:=l;have A:i<xs.length:=by rw[M.len]; exact l
 have y:(i:Int)<(xs.length:Nat):=Om;have N:=M.le i l;have x:=(K.ends _ (aTN l)).2.2;rw[sV l] at x;have O:=K.num;cases b with
 | true =>
  have E:stI (i,true)=(i:Int):=rfl;have F:eY n (i,true)=(dV n i).dst:=rfl;have I:eG n xs (i,true)=(dV n i).cap-xs.getD i 0:=rfl;rw[E,F,I];have B:(i:Int)≥0:=Om;have J:IntKind.i64.wrap (((dV n i).cap:Int)-((xs.getD i 0:Nat):Int))=(((dV n i).cap-xs.getD i 0:Nat):Int):=by rw[wrap_i64 Om Om]; omega
  simp only[go_sem,yL,ba,D6,bb,B];refine bC .nil cX a_ ?_;simp only[go_sem,Lt,u,j,vE l,y,BH A,J];exact aV (vs:=[.int .i64 (((dV n i).dst:Nat):Int),.int .i64 (((dV n i).cap-xs.getD i 0:Nat):Int)]) (.inr rfl) (sH n w fo xs out) Ev (fun _ _ h=>h) ⟨rfl,rfl⟩
 | false =>
  have E:stI (i,false)=-1-(i:Int):=rfl;have F:eY n (i,false)=(dV n i).src:=rfl;have I:eG n xs (i,false)=xs.getD i 0:=rfl;rw[E,F,I];have B:¬ (-1-(i:Int))≥0:=Om;have J:IntKind.i64.wrap (-1-(-1-(i:Int)))=(i:Int):=by rw[wrap_i64 Om Om]; omega
  simp only[go_sem,yL,ba,D6,bb,B];refine bC .nil cX a_ ?_;simp only[go_sem,Lu,u,j,J,vE l,y,BH A];exact aV (vs:=[.int .i64 (((dV n i).src:Nat):Int),.int .i64 ((xs.getD i 0:Nat):Int)]) (.inr rfl) (sH n w fo xs out) Ev (fun _ _ h=>h) ⟨rfl,rfl⟩
theorem awA {C:Ctx} (n:cJ) (E:fU n) (u fo:Nat) (l:¬ u=fo) (xs:List Nat) (out:PV) (s:cV) (w:s.1<n.arcs.length) :
  yK.wp C (aR D5.res (fun r H'=>r=.int .i64 ((dR n s:Nat):Int)∧H'=sH n u fo xs out)) (PF.args [.ptr u 6 0 0,.int .i64 (stI s)]) (sH n u fo xs out):=by
 have j:¬ fo=u:=fun e=>l e.symm;obtain⟨i,b⟩:=s;have w:i<n.arcs.length:=w;have F:=E.num;cases b with
 | true =>have y:stI (i,true)=(i:Int):=rfl;have A:dR n (i,true)=(dV n i).src:=rfl;rw[y,A];have x:(i:Int)≥0:=Om;simp only[go_sem,yK,aw,D5,ay,x,Lo,l,j,vE w];exact aV (vs:=[.int .i64 (((dV n i).src:Nat):Int)]) (.inr rfl) (sH n u fo xs out) Ev (fun _ _ h=>h) ⟨rfl,rfl⟩
 | false =>
  have y:stI (i,false)=-1-(i:Int):=rfl;have A:dR n (i,false)=(dV n i).dst:=rfl;rw[y,A];have x:¬ (-1-(i:Int))≥0:=Om;have B:IntKind.i64.wrap (-1-(-1-(i:Int)))=(i:Int):=by rw[wrap_i64 Om Om]; omega
  simp only[go_sem,yK,aw,D5,ay,x,Lp,l,j,B,vE w];exact aV (vs:=[.int .i64 (((dV n i).dst:Nat):Int)]) (.inr rfl) (sH n u fo xs out) Ev (fun _ _ h=>h) ⟨rfl,rfl⟩
def NE (way:Nat→cV) (v:Nat) (s:cV):Nat→cV:=fun w=>if w=v then s else way w
theorem ajX {n:cJ} (l:fU n) (xs:List Nat) (way:Nat→cV):nU n xs [n.source] way:=by
 refine⟨⟨[],rfl⟩,by simp,fun v e=>?_,fun v e j=>?_⟩
 ·rw[aUY] at e;subst e;exact l.source
 ·exact absurd (aUY.1 e) j
theorem aa {Q:List Nat} {v a:Nat} (h:v∈Q):(Q++[a]).idxOf v=Q.idxOf v:=by
 rw[List.idxOf_append,if_pos h]
theorem aqR {n:cJ} (N:fU n) {xs Q:List Nat} {way:Nat→cV} (j:nU n xs Q way) {s:cV} (w:s.1<n.arcs.length) (l:dR n s∈Q) (x:eY n s ∉ Q) (O:0<eG n xs s) :
  nU n xs (Q++[eY n s]) (NE way (eY n s) s):=by
 obtain⟨t,K⟩:=j.first;have y:eY n s<n.nodes:=by have:=N.ends _ (aTN w);rw[show n.arcs[s.1]=dV n s.1 from (sE (aTP w)).symm] at this;unfold eY;split<;>omega
 refine⟨⟨t++[eY n s],by rw[K]; rfl⟩,?_,fun v A=>?_,fun v A u=>?_⟩
 ·rw[aWG];refine⟨j.nd,by simp,fun a M b hb=>?_⟩;rw[aUY] at hb;subst hb;rintro rfl;exact x M
 ·rcases aUR.1 A with h | h
  ·exact j.lt v h
  ·rw[aUY] at h;subst h;exact y
 ·rcases aUR.1 A with h | h
  ·have B:v≠eY n s:=fun e=>x (e ▸ h);obtain⟨E,I,J,F,h5⟩:=j.way v h u;unfold NE;rw[if_neg B];exact⟨E,I,J,aWY _ F,by rw[aa F,aa h]; exact h5⟩
  ·rw[aUY] at h;subst h;unfold NE;rw[if_pos rfl];refine⟨w,rfl,O,aWY _ l,?_⟩;rw[aa l];have E:=List.idxOf_lt_length_of_mem l;rw[List.idxOf_append,if_neg x];omega
theorem K7:∀ (n:Nat) (Q:List Nat),Q.Nodup→(∀ v∈Q,v<n)→Q.length≤n
 | 0,[],_,_=>aTO _
 | 0,v::Q,_,h=>absurd (h v (by simp)) Om
 | n+1,Q,l,h=>by
  by_cases e:n∈Q
  ·have u:=K7 n (Q.erase n) (l.erase n) fun v j=>by have x:=(l.mem_erase_iff).1 j;have:=h v x.2;omega
   rw[List.length_erase_of_mem e] at u;omega
  ·have u:=K7 n Q l fun v j=>by have:=h v j;have:v≠n:=fun w=>e (w ▸ j);omega
   omega
theorem ef {n:cJ} {xs Q:List Nat} {way:Nat→cV} (e:nU n xs Q way):Q.length≤n.nodes:=K7 _ _ e.nd e.lt
theorem amO (n:cJ) (xs Q:List Nat):HK n xs Q 0:=fun v e=>by simp at e
theorem amM {n:cJ} {xs Q:List Nat} {k:Nat} (h:HK n xs Q k) (w:k≤Q.length) (a:Nat):HK n xs (Q++[a]) k:=fun v e s j l u=>by
 rw[List.take_append_of_le_length w] at e;exact aWY _ (h v e s j l u)
theorem amN {n:cJ} {xs Q:List Nat} {k v:Nat} (h:HK n xs Q k) (B:Q[k]?=some v) (j:∀ s:cV,s.1<n.arcs.length→dR n s=v→0<eG n xs s→eY n s∈Q):HK n xs Q (k+1):=fun w y s l u x=>by
 obtain⟨A,e⟩:=aUN.1 B;rw[aVS A,e] at y;rcases aUR.1 y with g | g
 ·exact h w g s l u x
 ·rw[aUY] at g;subst g;exact j s l u x
structure Dz (n:cJ) (outL:List (List Int)):Prop where
 len:outL.length=n.nodes
 all:∀ s:cV,s.1<n.arcs.length→stI s∈outL.getD (dR n s) []
 only:∀ v c,c∈outL.getD v []→∃ s:cV,s.1<n.arcs.length∧dR n s=v∧c=stI s
 few:∀ v,(outL.getD v []).length≤1000000
def byL (e:cV→Int) (n:cJ) (Q:List Nat) (way:Nat→cV):List Int:=(aTI n.nodes).map fun v=>if v∈Q∧v≠n.source then e (way v) else 0
def seL (n:cJ) (Q:List Nat):List Bool:=(aTI n.nodes).map fun v=>Q.contains v
theorem rW {α:Type} (g h:Nat→α) (N t:Nat) (x:α) (w:h t=x) (u:∀ v,v≠t→h v=g v):((aTI N).map g).set t x=(aTI N).map h:=by
 refine List.ext_getElem? fun i=>?_;rw[aXF,aTJ,aVY,aUG,aUG];by_cases e:t=i
 ·subst e;rw[if_pos rfl];by_cases l:t<N
  ·rw[if_pos l,aWL l,← w]; rfl
  ·rw[if_neg l,aUW (by simpa using l)]; rfl
 ·rw[if_neg e];by_cases l:i<N
  ·rw[aWL l,aUO,aUO,u i fun j=>e j.symm]
  ·rw[aUW (by simpa using l)]; rfl
theorem aCD {j:cV→Int} {n:cJ} {Q:List Nat} {way:Nat→cV} {t:Nat} {s:cV} (u:n.source∈Q) (w:t ∉ Q):(byL j n Q way).set t (j s)=byL j n (Q++[t]) (NE way t s):=by
 refine rW _ _ _ _ _ ?_ fun v l=>?_
 ·have:t≠n.source:=fun e=>w (e ▸ u);rw[if_pos ⟨by simp,this⟩,NE,if_pos rfl]
 ·rw[NE,if_neg l];have:(v∈Q++[t])↔v∈Q:=by simp[l]
  simp only[this]
theorem aGM (n:cJ) (Q:List Nat) (t:Nat):(seL n Q).set t true=seL n (Q++[t]):=by
 refine rW _ _ _ _ _ ?_ fun v e=>?_
 ·simp
 ·simp[e]
theorem atB (e:cV→Int) (n:cJ) (way:Nat→cV):aTK n.nodes [PV.int .i64 0]=cQ (byL e n [n.source] way):=by
 refine List.ext_getElem? fun i=>?_;unfold cQ byL;rw[List.getElem?_replicate,aUG,aUG];by_cases l:i<n.nodes
 ·rw[if_pos l,aWL l,aUO,aUO,if_neg (by simp)]
 ·rw[if_neg l,aUW (by simpa using l)]; rfl
theorem ayO (n:cJ):(aTK n.nodes [PV.bool false]).set n.source [PV.bool true]=bK (seL n [n.source]):=by
 have w:aTK n.nodes [PV.bool false]=(aTI n.nodes).map fun _=>[PV.bool false]:=by
  refine List.ext_getElem? fun i=>?_;rw[List.getElem?_replicate,aUG];by_cases l:i<n.nodes
  ·rw[if_pos l,aWL l]; rfl
  ·rw[if_neg l,aUW (by simpa using l)]; rfl
 have j:[n.source].contains n.source=true:=by simp
 have u:∀ v,v≠n.source→[n.source].contains v=false:=by intro v e; simp[e]
 have x:=rW (fun _=>[PV.bool false]) (fun v=>[PV.bool ([n.source].contains v)]) n.nodes n.source [PV.bool true] (by rw[j]) (fun v e=>by rw[u v e]);rw[w,x];unfold bK seL;rw[aWO]; rfl
theorem Vd (e:cV→Int) (n:cJ) (Q:List Nat) (way:Nat→cV):(byL e n Q way).length=n.nodes:=by simp[byL]
theorem uz (n:cJ) (Q:List Nat):(seL n Q).length=n.nodes:=by simp[seL]
theorem acA {n:cJ} {Q:List Nat} {v:Nat} (h:v<n.nodes):(seL n Q).getD v false=Q.contains v:=by
 unfold seL;rw[aTR,aUG,aWL h]; rfl
structure RS where
 Q:List Nat
 k:Nat
 way:Nat→cV
 v:PV
 q:Nat
 H:PH
 d:Nat
structure xS (n:cJ) (xs:List Nat) (X:PH) (cd:cV→Int) (b e:Nat) (a:RS):Prop where
 seen:nU n xs a.Q a.way
 done:HK n xs a.Q a.d
 dk:a.d≤a.k
 k:a.k≤a.Q.length
 base:X.le a.H
 hb:a.H b=some (.rows 1 (cQ (byL cd n a.Q a.way)))
 he:a.H e=some (.rows 1 (bK (seL n a.Q)))
 hq:tR a.H 1 a.q a.v (gS (a.Q.drop a.k))
 ne:X a.q=none∧a.q≠b∧a.q≠e
theorem JI {X H:PH} {o:Nat} {y:bO} (h:X.le H) (j:X o=none):X.le (H.set o y):=fun q x hq=>by
 rw[aT,if_neg (fun e=>by subst e; rw[j] at hq; cases hq)];exact h q x hq
def amC (n:cJ) (e fo:Nat) (xs:List Nat) (out:PV) (r:PV) (H:PH):Prop :=
 ∃ Q way,nU n xs Q way∧HK n xs Q Q.length∧r=.tup [ints (byL stI n Q way),.sl 1 (bK (seL n Q))]∧H=sH n e fo xs out
theorem xS.step {n:cJ} (V:fU n) {xs:List Nat} {X:PH} {F:cV→Int} {b e:Nat} {a:RS} (h:xS n xs X F b e a) (hd:X b=none∧X e=none∧¬ b=e) {s:cV} (hs:s.1<n.arcs.length) (hf:dR n s∈a.Q) (ht:eY n s ∉ a.Q) (hr:0<eG n xs s)
  {K:PV→PH→Prop} (hK:∀ w:RS,xS n xs X F b e w→w.Q=a.Q++[eY n s]→w.k=a.k→w.d=a.d→K w.v w.H) :
  lM ((a.H.set e (.rows 1 (bK (seL n (a.Q++[eY n s]))))).set b (.rows 1 (cQ (byL F n (a.Q++[eY n s]) (NE a.way (eY n s) s))))) 1 8 a.v (.sl 1 [[.int .i64 ((eY n s:Nat):Int)]]) K:=by
 obtain⟨Y,Z,d5⟩:=hd;obtain⟨W,O,R⟩:=h.ne;have S:=aqR V h.seen hs hf ht hr;have y:=ef S;rw[aTM,aTT] at y;have U:=V.few;have hq:tR ((a.H.set e (.rows 1 (bK (seL n (a.Q++[eY n s]))))).set b (.rows 1 (cQ (byL F n (a.Q++[eY n s]) (NE a.way (eY n s) s))))) 1 a.q a.v (gS (a.Q.drop a.k)):=h.hq.ext fun x j=>by rw[aT,if_neg O,aT,if_neg R]; exact j
 refine hq.append (src:=[[.int .i64 ((eY n s:Nat):Int)]]) rfl ?_ fun E v' H' g1 g2 g3 g4=>?_
 ·unfold roomFor;rw[aTJ,aVE,aTT];simp only[maxLen];omega
 have M:∀ o x,o≠a.q→a.H o=some x→o≠b→o≠e→H' o=some x:=fun o x hq N hb he=>g3 o x hq (by rw[aT,if_neg hb,aT,if_neg he]; exact N);have J:gS (a.Q.drop a.k)++[[PV.int .i64 ((eY n s:Nat):Int)]]=gS ((a.Q++[eY n s]).drop a.k):=by rw[List.drop_append_of_le_length h.k,show ∀ A B:List Nat,gS (A++B)=gS A++gS B from fun A B=>aUX]; rfl
 rw[J] at g1;have u:∀ o x,a.H o=some x→o≠a.q→E≠o:=fun o x N hq l=>by
  subst l;rcases g2 with g | g
  ·exact hq g
  ·rw[aT] at g;split at g
   ·cases g
   ·rw[aT] at g;split at g
    ·cases g
    ·rw[N] at g; cases g
 have I:X E=none:=by
  cases j:X E with
  | none=>rfl
  | some x=>exact absurd rfl (u E x (h.base _ _ j) fun l=>by rw[l,W] at j; cases j)
 refine hK ⟨a.Q++[eY n s],a.k,NE a.way (eY n s) s,v',E,H',a.d⟩ ⟨S,amM h.done (aWI h.dk h.k) _,h.dk,?_,fun o x j=>M o x (fun l=>by rw[l,W] at j; cases j) (h.base _ _ j) (fun l=>by rw[l,Y] at j; cases j) (fun l=>by rw[l,Z] at j; cases j),?_,?_,g1,?_⟩ rfl rfl rfl
 ·have:=h.k;show a.k≤(a.Q++[eY n s]).length;rw[aTM];omega
 ·exact g3 b _ O.symm (by rw[cL])
 ·exact g3 e _ R.symm (by rw[aT,if_neg (fun l=>d5 l.symm),cL])
 ·exact⟨I,u _ _ h.hb O.symm,u _ _ h.he R.symm⟩

def aBP (c:UInt8) (n:Nat):List UInt8:=[c,UInt8.ofNat (97+n/26%26),UInt8.ofNat (97+n%26)]
def Fl (ds:List cN) (level parent aSP:Nat):List cN:=ds++[⟨aBP 110 ds.length,(level:Nat),(parent:Nat),(aSP:Nat),kO⟩]
theorem awO (a b:Nat) (l:a<4294967296) (hb:b<4294967296):(mkT (a:Int) (b:Int)).Ok:=by
 rw[Y1];have e:=aWR a (aTL a b);have j:=aWR b (aTL a b);have k1:nl (a/aTL a b)≤1:=(jU _ _).2 Om;have k2:nl (b/aTL a b)≤1:=(jU _ _).2 Om;refine⟨aU _,aU _,?_,?_⟩
 ·show (aJ _).length≤_;rw[aY]; omega
 ·show (aJ _).length≤_;rw[aY]; omega
theorem Kl {n:Nat} (h:n≤1000000):dN (n:Int):=by unfold dN; omega
def Ej (ds:List cN):Prop:=∀ x∈ds,x.aSK.Ok∧dN x.level∧dN x.parent
theorem Ej.dom {ds:List cN} (h:Ej ds) {level parent aSP:Nat} (j:level≤1000) (l:parent≤1000):Ej (Fl ds level parent aSP):=fun x e=>by
 unfold Fl at e;rw[aUR,aUY] at e;rcases e with e | rfl
 ·exact h x e
 ·exact⟨awO 0 1 (by decide) (by decide),Kl Om,Kl Om⟩
structure FM (f:aD):Prop where
 ok:f.Ok
 km:∀ p∈f.aRY,1≤p.k∧p.k≤2∧0≤p.m∧p.m≤2
 aRU:f.aRU.length≤9
 pols:1≤f.aRY.length∧f.aRY.length≤2
 vols:∀ x∈f.aRW,0≤x.aSH∧x.aSH<f.aRY.length
theorem FM.pol {f:aD} (h:FM f) {v:Nat} (j:v<f.aRW.length):xX f v<f.aRY.length∧bZ f v∈f.aRY:=by
 have l:=h.vols _ (aTN j);have u:xX f v=(f.aRW[v]).aSH.toNat:=by rw[xX,getD_at j]
 have e:xX f v<f.aRY.length:=Om;refine⟨e,?_⟩;unfold bZ;rw[aTR,aTP e,aWE];exact aTN e
theorem FM.Hb {f:aD} (h:FM f) {v:Nat} (e:v<f.aRW.length):1≤mR f v∧mR f v≤4:=by
 have:=h.km _ (h.pol e).2;unfold mR;omega
abbrev aMR (l:List Int) (a:Nat):bO:=.rows 2 [[ints l,.int .i64 (a:Nat)]]
section
variable {C:Ctx} {F:PF} {H Hs:PH} {l:List Int} {o a:Nat}
end
structure ME where
 o:Nat
 o4:Nat
 o5:Nat
 vols:Nat
abbrev ME.boxes (E:ME) (l:List Int) (ext e j u w wp wv:PV) (a:Nat):List BX:=[(E.o5,flB ext e j u w wp wv),(E.o,aMR l a),(E.o4,flZ)]





def aOP (ds:List cN) (i:Nat) (d:cN):Prop:=∃ lev p u:Nat,d.name=aBP 110 (i+1)∧d.level=lev∧1≤lev∧lev≤4∧d.parent=p∧p≤i∧(lvs ds)[p]?=some ((lev:Int)-1)∧d.aSP=u∧1≤u∧u≤64∧d.aSK=kO
structure DV (ds:List cN):Prop where
 root:ds[0]?=some nE
 dom:∀ i (hi:i+1<ds.length),aOP ds i ds[i+1]
theorem DV.new {ds:List cN} (h:DV ds) {level parent up:Nat} (x:1≤level) (y:level≤4) (e:(lvs ds)[parent]?=some ((level:Int)-1)) (B:1≤up) (E:up≤64) :
  DV (Fl ds level parent up)∧(lvs (Fl ds level parent up))[ds.length]?=some (level:Int):=by
 have A:parent<ds.length:=by
  have:=(aUN.1 e).1
  rwa [aTJ] at this
 unfold Fl;refine⟨⟨by rw[aVI Om]; exact h.root,fun i hi=>?_⟩,?_⟩
 ·simp only[aTM,aTT] at hi;by_cases hlt:i+1<ds.length
  ·rw[List.getElem_append_left hlt];obtain⟨lev,p,v,g1,g2,g3,g4,j,l,u,w⟩:=h.dom i hlt;exact⟨lev,p,v,g1,g2,g3,g4,j,l,AA u,w⟩
  ·have:i+1=ds.length:=Om;rw[List.getElem_append_right Om];simp only[List.getElem_singleton];exact⟨level,parent,up,by rw[this],rfl,x,y,rfl,by omega,AA e,rfl,B,E,rfl⟩
 ·unfold lvs;rw[aUX,aVG (by rw[aTJ]; exact aTO _),aTJ,Nat.sub_self];rfl




theorem aM.store {H:PH} {B:List BX} {L:List LI} (h:aM H B L) (i:Nat) {q s n:Nat} {rows:List (List PV)} (hi:L[i]?=some (.osl q s 0 n,s,rows)) (k:Nat) (c:List PV) :
  ∃ rs,H q=some (.rows s rs)∧n≤rs.length∧rs.take n=rows∧aM (H.set q (.rows s (rs.set k c))) B (L.set i (.osl q s 0 n,s,rows.set k c)):=by
 obtain⟨rs,u,w,j,l⟩:=(h.own i hi).id rfl;injection w with _ _ _ x
 subst x;refine⟨rs,u,j,l,h.MF i hi (.inr ⟨q,rs.set k c,by rw[aVJ],by rw[cL],by rw[aVJ,aVJ]; exact j,by rw[aVJ,List.take_set,l]⟩) (fun p e=>.inl e) fun p _ e=>?_⟩;have:p≠q:=e q rfl;rw[aT,if_neg this]

open Go Go.RowKit Go.Sort Go.Shelf Go.Proofs
section
variable {E:Env} {H:PH} {w:World}
end
section
variable {C:Ctx} {ρ:Ren} {name:Nat}
end
abbrev lists (ws:List (List Int)):PV:=.sl 1 (ws.map fun w=>[ints w])
abbrev WPs:=List (PV × List Int)
def dS (ps:WPs):List (List PV):=ps.map fun p=>[p.1]
def hJ (ps:WPs):List LI:=ps.map fun p=>(p.1,1,cQ p.2)
def wls (ps:WPs):List (List Int):=ps.map (·.2)
def pQ (e:PV) (ps:WPs):List LI:=(e,1,dS ps)::hJ ps
section
variable {H:PH} {B:List BX}
theorem RZ (ps:WPs):(dS ps).length=ps.length:=aTJ _
theorem GQ {ps:WPs} {i:Nat} {v:PV} {w:List Int} (hi:ps[i]?=some (v,w)):(hJ ps)[i]?=some (v,1,cQ w):=by
 unfold hJ;rw[aUG,hi]; rfl
theorem BE {ps:WPs} {i:Nat} {v:PV} {w:List Int} (hi:ps[i]?=some (v,w)):(dS ps)[i]?=some [v]:=by
 unfold dS;rw[aUG,hi]; rfl
theorem aM.aBQ (h:aM H B []):aM H B (pQ .aB []):=h.kS 1
theorem aM.inner {e:PV} {ps:WPs} (h:aM H B (pQ e ps)) {i:Nat} {v:PV} {w:List Int} (hi:ps[i]?=some (v,w)):cA H 1 v (cQ w):=h.own (i+1) (GQ hi)
theorem aM.outer {e:PV} {ps:WPs} (h:aM H B (pQ e ps)):cA H 1 e (dS ps):=h.own 0 rfl
theorem QH (a b:List Int):cQ (a++b)=cQ a++cQ b:=aUX
theorem aM.aBS {x:PV} {ps:WPs} (h:aM H B (pQ x ps)) {i b:Nat} {v y:PV} {w src:List Int} {K:PV→PH→Prop} (hi:ps[i]?=some (v,w)) (I:eR H 1 y=some (cQ src)) (E:roomFor w.length src.length b) (l:src≠[])
  (A:∀ q H',aM H' B ((x,1,dS ps)::(hJ ps).set i (.osl q 1 0 (w++src).length,1,cQ (w++src)))→K (.osl q 1 0 (w++src).length) H'):lM H 1 b v y K:=by
 have j:cQ src≠[]:=fun e=>l (List.map_eq_nil_iff.1 e);refine h.append (i+1) (GQ hi) I (by rw[hY,hY]; exact E) fun v' H' u F=>?_;obtain⟨q,rfl⟩:=F j;rw[← QH,hY] at u ⊢;exact A q H' u
theorem aM.aqT {j n i:Nat} {ps:WPs} {v':PV} {l:List Int} (h:aM H B ((.osl j 1 0 n,1,dS ps)::(hJ ps).set i (v',1,cQ l))) :
  ∃ rs,H j=some (.rows 1 rs)∧n≤rs.length∧rs.take n=dS ps∧aM (H.set j (.rows 1 (rs.set i [v']))) B (pQ (.osl j 1 0 n) (ps.set i (v',l))):=by
 obtain⟨rs,u,w,x,y⟩:=h.store 0 rfl i [v'];refine⟨rs,u,w,x,?_⟩;have e:pQ (.osl j 1 0 n) (ps.set i (v',l))=((.osl j 1 0 n,1,dS ps)::(hJ ps).set i (v',1,cQ l)).set 0 (.osl j 1 0 n,1,(dS ps).set i [v']):=by unfold pQ dS hJ;rw[List.map_set,List.map_set];rfl
 rw[e];exact y
def lO (e:List (List PV)) (ws:List (List Int)):Prop:=e.length=ws.length∧∀ (i:Nat) r w,e[i]?=some r→ws[i]?=some w→r=[ints w]∨(r=[.aB]∧w=[])
theorem lO.nil:lO [] []:=⟨rfl,fun i r w h=>by cases h⟩
theorem lO.snoc {l:List (List PV)} {ws:List (List Int)} {u:PV} {w:List Int} (h:lO l ws) (y:u=ints w∨(u=.aB∧w=[])):lO (l++[[u]]) (ws++[w]):=by
 refine⟨by simp[h.1],fun i r x e j=>?_⟩;rcases Nat.lt_trichotomy i l.length with c | c | c
 ·rw[aVI c] at e;rw[aVI (by rw[← h.1]; exact c)] at j;exact h.2 i r x e j
 ·subst c;rw[aVG (aTO _),Nat.sub_self] at e;rw[h.1,aVG (aTO _),Nat.sub_self] at j;cases e; cases j;rcases y with rfl | ⟨rfl,rfl⟩
  ·exact .inl rfl
  ·exact .inr ⟨rfl,rfl⟩
 ·rw[aVG Om,aUW (by simp; omega)] at e;cases e
theorem lO.flat {j:List (List PV)} {ws:List (List Int)} (h:lO j ws):Flat j:=Flat.of fun r u c e q s rs=>by
 obtain⟨i,hi⟩:=List.mem_iff_getElem?.1 u;have l:=(aUN.1 hi).1;rcases h.2 i r _ hi (aTP (by rw[← h.1]; exact l)) with rfl | ⟨rfl,-⟩
 ·rw[aUY] at e; subst e; rfl
 ·rw[aUY] at e; subst e; rfl
theorem lO.co {y:List (List PV)} {ws:List (List Int)} (h:lO y ws):Co (.sl 1 y) (lists ws):=by
 have x:∀ (i:Nat) r t,y[i]?=some r→(ws.map fun w=>[ints w])[i]?=some t→∃ w,t=[ints w]∧(r=[ints w]∨(r=[.aB]∧w=[])):=fun i r t u e=>by
  rw[aUG] at e;cases E:ws[i]? with
  | none=>rw[E] at e; cases e
  | some w =>rw[E] at e;cases e;exact⟨w,rfl,h.2 i r w u E⟩
 refine .sl (by rw[aTJ,h.1]) (fun i r t u e=>?_) (fun i j p q l hq=>?_)
 ·obtain⟨w,rfl,A | ⟨A,-⟩⟩:=x i r t u e<;>subst A<;>rfl
 ·unfold at2 at l hq;cases u:y[i]? with
  | none=>rw[u] at l; cases l
  | some r =>
   cases e:(ws.map fun w=>[ints w])[i]? with
   | none=>rw[e] at hq; cases hq
   | some t =>
    rw[u] at l;rw[e] at hq;obtain⟨w,rfl,A⟩:=x i r t u e;rcases A with rfl | ⟨rfl,rfl⟩
    ·have:some p=some q:=l.symm.trans hq;cases this;exact .refl _
    ·cases j with
     | zero=>cases l; cases hq; exact .nil 1
     | succ j=>cases l
end
def Fx (u:PV):Prop:=∀ q s rs,PV.frz q s rs u=u
theorem Fx.int (k:IntKind) (n:Int):Fx (.int k n):=fun _ _ _=>rfl
theorem Fx.bool (b:Bool):Fx (.bool b):=fun _ _ _=>rfl
theorem Fx.sl (n:Nat) (r:List (List PV)):Fx (.sl n r):=fun _ _ _=>rfl
theorem Fx.aB:Fx .aB:=fun _ _ _=>rfl
theorem Fx.ptr (q z i c:Nat):Fx (.ptr q z i c):=fun _ _ _=>rfl
theorem Fx.bN (c:List PV):Fx (.bN c):=fun _ _ _=>rfl
theorem cA.cH {H:PH} {s:Nat} {v:PV} {rows:List (List PV)} (h:cA H s v rows) (q z:Nat) (rs:List (List PV)):PV.frz q z rs v=PV.cH q z rs v:=by
 rcases h with ⟨-,rfl⟩ | ⟨p,rs',rfl,-⟩<;>rfl
def FO (φ:PV→PV) (F:PF):PF:=fun i=>(F i).map φ
theorem tJ (φ:PV→PV) (F:PF) (i:Nat):FO φ F i=(F i).map φ:=rfl
theorem cf:∀ (ps:WPs) {H:PH} {B:List BX} {A:PV} (y:List (List PV)) (l:List (List Int)),lO y l→aM H B ((A,1,y++dS ps)::hJ ps)→(∀ b∈B,∀ q s rs,bO.frz q s rs b.2=b.2) →
  ∃ (φ:PV→PV) (E:PH),Co (φ A) (lists (l++wls ps))∧(∀ u,Fx u→φ u=u)∧(∀ e:Int,φ (.tup [A,.int .i64 e])=.tup [φ A,.int .i64 e])∧aM E B []∧(∀ F:PF,jE F H (FO φ F) E)∧∀ o,(H o=none∨A.oid=some o∨∃ p∈ps,p.1.oid=some o)→E o=none
 | [],H,B,A,y,l,J,h,hB=>by
  have M:y++dS []=y:=aVC y;have e1:l++wls []=l:=aVC l;rw[M] at h;rw[e1];rcases h.own 0 rfl with ⟨R,rfl⟩ | ⟨q,rs,rfl,_⟩
  ·refine⟨id,H,?_,fun _ _=>rfl,fun _=>rfl,h.ik 0,fun F=>?_,fun o ho=>?_⟩
   ·subst R;have:l=[]:=List.length_eq_zero_iff.1 J.1.symm;subst this;exact .nil 1
   ·have:FO id F=F:=funext fun i=>by rw[tJ]; simp
    rw[this];exact .refl _ _
   ·rcases ho with ho | ho | ⟨p,hp,-⟩
    ·exact ho
    ·cases ho
    ·cases hp
  ·obtain⟨rs,X,Y,Z,z4,K⟩:=h.frz 0 rfl;refine⟨PV.frz q 1 rs,H.frz q 1 rs,?_,fun u N=>N _ _ _,fun e=>?_,?_,fun F=>.step q X (.refl _ _),fun o ho=>?_⟩
   ·rw[Z]; exact J.co
   ·show PV.tup [PV.cH q 1 rs (.osl q 1 0 y.length),.int .i64 e]=_;rw[Y,Z]
   ·have O:(B.map fun b=>(b.1,b.2.frz q 1 rs))=B:=by
     conv=>rhs; rw[← List.map_id B]
     refine aVN fun b hb=>?_;rw[hB b hb q 1 rs]; rfl
    rw[O] at K;exact K
   ·rw[zY];rcases ho with ho | ho | ⟨p,hp,-⟩
    ·rw[ho]; split<;>rfl
    ·have:q=o:=by injection ho
     rw[if_pos this.symm]
    ·cases hp
 | (v,w)::ps,H,B,A,y,l,J,h,hB=>by
  have eo:∀ u:PV,y++[[u]]++dS ps=y++[u]::dS ps:=fun u=>by rw[aUP]; rfl
  have ew:l++[w]++wls ps=l++wls ((v,w)::ps):=by rw[aUP]; rfl
  have ho:cA H 1 v (cQ w):=h.own 1 rfl;rcases ho with ⟨R,rfl⟩ | ⟨q,rs,rfl,_⟩
  ·have hw:w=[]:=List.map_eq_nil_iff.1 R;have h2:=h.ik 1;obtain⟨φ,E,k1,k2,S,U,V,W⟩:=cf ps (y++[[.aB]]) (l++[w]) (J.snoc (.inr ⟨rfl,hw⟩)) (by rw[eo]; exact h2) hB;rw[ew] at k1;refine⟨φ,E,k1,k2,S,U,V,fun o ho=>W o ?_⟩;rcases ho with ho | ho | ⟨p,hp,ho⟩
   ·exact .inl ho
   ·exact .inr (.inl ho)
   ·rcases aTW.1 hp with rfl | hp
    ·cases ho
    ·exact .inr (.inr ⟨p,hp,ho⟩)
  ·obtain⟨rs,X,Y,Z,z4,K⟩:=h.frz 1 rfl;have O:(B.map fun b=>(b.1,b.2.frz q 1 rs))=B:=by
    conv=>rhs; rw[← List.map_id B]
    refine aVN fun b hb=>?_;rw[hB b hb q 1 rs]; rfl
   have y0:PV.cH q 1 rs A=A:=z4 0 _ (by decide) rfl;have I:PV.frz q 1 rs A=A:=((h.own 0 rfl).cH q 1 rs).trans y0;have yp:∀ p∈ps,PV.cH q 1 rs p.1=p.1:=fun p hp=>by obtain⟨j,hj⟩:=List.mem_iff_getElem?.1 hp;exact z4 (j+2) (p.1,1,cQ p.2) Om (GQ hj)
   have er:(y++dS ((.osl q 1 0 (cQ w).length,w)::ps)).map (fun r=>r.map (PV.cH q 1 rs))=y++[[ints w]]++dS ps:=by
    rw[aUX,J.flat,aUP];congr 1;show [PV.cH q 1 rs (.osl q 1 0 (cQ w).length)]::(dS ps).map _=_;rw[Y];have:(dS ps).map (fun r=>r.map (PV.cH q 1 rs))=dS ps:=by unfold dS;rw[aWO];refine aVN fun p hp=>?_;show [PV.cH q 1 rs p.1]=_;rw[yp p hp]
    rw[this];rfl
   have ei:(hJ ps).map (fun x=>(x.1,x.2.1,x.2.2.map fun r=>r.map (PV.cH q 1 rs)))=hJ ps:=by unfold hJ;rw[aWO];refine aVN fun p _=>?_;show (p.1,1,(cQ p.2).map fun r=>r.map (PV.cH q 1 rs))=_;rw[show (cQ p.2).map (fun r=>r.map (PV.cH q 1 rs))=cQ p.2 from Flat.map p.2 (fun x c hc q s rs=>by rw[aUY] at hc; subst hc; rfl) q 1 rs]
   have z6:aM (H.frz q 1 rs) B ((A,1,y++[[ints w]]++dS ps)::hJ ps):=by rw[O] at K;have z7:aM (H.frz q 1 rs) B ((A,1,(y++dS ((.osl q 1 0 (cQ w).length,w)::ps)).map (fun r=>r.map (PV.cH q 1 rs)))::(hJ ps).map (fun x=>(x.1,x.2.1,x.2.2.map fun r=>r.map (PV.cH q 1 rs)))):=K;rw[er,ei] at z7;exact z7
   obtain⟨φ,E,k1,k2,S,U,V,W⟩:=cf ps (y++[[ints w]]) (l++[w]) (J.snoc (.inl rfl)) z6 hB;rw[ew] at k1;refine⟨fun u=>φ (PV.frz q 1 rs u),E,?_,fun u N=>?_,fun e=>?_,U,fun F=>.step q X ?_,fun o ho=>W o ?_⟩
   ·simp only;rw[I]; exact k1
   ·simp only;rw[N,k2 u N]
   ·simp only;rw[I];have yt:PV.frz q 1 rs (.tup [A,.int .i64 e])=.tup [PV.frz q 1 rs A,.int .i64 e]:=by rcases h.own 0 rfl with ⟨-,M⟩ | ⟨p,rs',M,-⟩<;>(subst M; rfl)
    rw[yt,I,S]
   ·have:FO (fun u=>φ (PV.frz q 1 rs u)) F=FO φ (F.frz q 1 rs):=funext fun i=>by rw[tJ,tJ,oF,Option.map_map];rfl
    rw[this];exact V _
   ·rw[zY];rcases ho with ho | ho | ⟨p,hp,ho⟩
    ·left; rw[ho]; split<;>rfl
    ·exact .inr (.inl ho)
    ·rcases aTW.1 hp with rfl | hp
     ·have:q=o:=by injection ho
      left; rw[if_pos this.symm]
     ·exact .inr (.inr ⟨p,hp,ho⟩)
theorem SH {res:List dY} {F:PF} {H:PH} {l:PV} {ps:WPs} {c:Int} {e:kT} (he:e=.normal∨e=.ret) (h:dY.evs F H res=some [l,.int .i64 c]) (w:aM H [] (pQ l ps)):aR res (cB (.tup [lists (wls ps),.int .i64 c])) e F H:=by
 obtain⟨φ,A,k1,-,x,-,y,-⟩:=cf ps [] [] .nil w (fun b hb=>by cases hb);refine oH he h ⟨_,_,.nil,y _,a_,φ (bQ [l,.int .i64 c]),?_,?_⟩
 ·rw[tJ,mQ,if_pos rfl]; rfl
 ·show cB _ (φ (.tup [l,.int .i64 c])) .nil;rw[x];refine⟨.tup rfl fun j p q u hq=>?_,rfl⟩
  match j with
  | 0=>cases u; cases hq; exact k1
  | 1=>cases u; cases hq; exact .refl _
  | j+2=>cases u
theorem AW {H:PH} {o q s:Nat} {rs:List (List PV)} {x:bO} (h:H o=some x) (e:¬ o=q) (j:bO.frz q s rs x=x):(H.frz q s rs) o=some x:=by
 show (if o=q then none else (H o).map (bO.frz q s rs))=some x;rw[if_neg e,h,aUO,j]
theorem AV {q s:Nat} {rs r:List (List PV)} (h:Flat r) (z:Nat):bO.frz q s rs (.rows z r)=.rows z r:=by
 show bO.rows z (r.map fun c=>c.map (PV.cH q s rs))=_;rw[h]
theorem anD {H H2:PH} {b e m:Nat} {j l:List (List PV)} {R:PV→PH→Prop} (hb:H b=some (.rows 1 j)) (he:H e=some (.rows 1 l)) (u:¬ e=b) (x:Flat l) (A:j.length=m) (le:l.length=m)
  (w:H2.le ((H.frz b 1 j).frz e 1 l)) (y:R (.tup [.sl 1 j,.sl 1 l]) H2):oR (.tup [.osl b 1 0 m,.osl e 1 0 m]) H R:=by
 have B:PV.frz b 1 j (.tup [.osl b 1 0 m,.osl e 1 0 m])=.tup [.sl 1 j,.osl e 1 0 m]:=by simp[PV.frz,PV.qC,PV.cH,u,← A]
 have E:PV.frz e 1 l (.tup [.sl 1 j,.osl e 1 0 m])=.tup [.sl 1 j,.sl 1 l]:=by simp[PV.frz,PV.qC,PV.cH,← le]
 refine .step hb ?_;rw[B];refine .step (AW he u (AV x 1)) ?_;rw[E];exact .done y w
theorem agT (l:List Bool):Flat (bK l):=Flat.map l fun x c e q s rs=>by
 rw[aUY] at e;subst e;rfl
abbrev kB (e:List (List PV)):PV:=.sl 1 e
theorem lO.at {j:List (List PV)} {ws:List (List Int)} (h:lO j ws) {i:Nat} (hi:i<ws.length):∃ u,j[i]?=some [u]∧(u=ints (ws.getD i [])∨(u=.aB∧ws.getD i []=[])):=by
 have l:i<j.length:=by rw[h.1]; exact hi
 have w:ws.getD i []=ws[i]:=by rw[aTR,aTP hi]; rfl
 rw[w];rcases h.2 i j[i] ws[i] (aTP l) (aTP hi) with e | ⟨e,e2⟩
 ·exact⟨_,by rw[aTP l,e],.inl rfl⟩
 ·exact⟨_,by rw[aTP l,e],.inr ⟨rfl,e2⟩⟩
theorem aoL {C : Ctx} (hends : ∀ (n : cJ) (so fo : Nat) (xs : List Nat) (out : PV) (s : cV), fU n → ¬ so = fo → tN n xs → s.1 < n.arcs.length → aG C 294 [.ptr so 6 0 0, .int .i64 (stI s)] (sH n so fo xs out) (fun r H' => r = .tup [.int .i64 ((eY n s : Nat) : Int), .int .i64 ((eG n xs s : Nat) : Int)] ∧ H' = sH n so fo xs out))
    (n : cJ) (hn : fU n) (so fo : Nat) (hne : ¬ so = fo) (xs : List Nat) (hx : tN n xs) (fs : List (List PV)) (outL : List (List Int)) (hSh : lO fs outL) (hO : Dz n outL) :
    EA.wp C (aR Mt.res (amC n so fo xs (kB fs))) (PF.args [.ptr so 6 0 0]) (sH n so fo xs (kB fs)) := by
  have aSU : ¬ fo = so := fun e => hne e.symm;have hfew := hn.few;have hsrc := hn.source;have hb1 : (n.nodes : Int) * ((8 : Nat) : Int) ≤ 140737488355328 := Om;have hb2 : (n.nodes : Int) ≤ 9223372036854775807 := Om;have hb3 : (n.nodes : Int) * ((1 : Nat) : Int) ≤ 140737488355328 := Om;have hs1 : (n.source : Int) < (n.nodes : Nat) := Om;simp only[go_sem,EA,yg,Mt];refine bC .nil cX a_ ?_;simp only[go_sem,yh,hne,aSU,hb1,hb2,hb3];refine aO fun b hb => ?_;simp only[go_sem];have b1 : ¬ so = b := fun e => by rw [← e, aT, if_neg hne, cL] at hb; cases hb
  have b2 : ¬ fo = b := fun e => by rw [← e, cL] at hb; cases hb
  have b1' : ¬ b = so := fun e => b1 e.symm;have b2' : ¬ b = fo := fun e => b2 e.symm;simp only[go_sem,hne,aSU,b1,b2,hb1,hb2,hb3];refine aO fun e he => ?_;have e1 : ¬ so = e := fun e0 => by rw [← e0, aT, if_neg b1, aT, if_neg hne, cL] at he; cases he
  have e2 : ¬ fo = e := fun e0 => by rw [← e0, aT, if_neg b2, cL] at he; cases he
  have e3 : ¬ b = e := fun e0 => by rw [← e0, cL] at he; cases he
  have e1' : ¬ e = so := fun e0 => e1 e0.symm;have e2' : ¬ e = fo := fun e0 => e2 e0.symm;have e3' : ¬ e = b := fun e0 => e3 e0.symm;have hrl : n.source < (aTK n.nodes [PV.bool false]).length := by simpa using hsrc
  simp only[go_sem,yi,hne,aSU,b1,b2,e1,e2,e3,hs1,List.getElem?_replicate,aXI,hsrc,aUF];have hsoX : (sH n so fo xs (kB fs)) so = some (sO n fo xs.length (kB fs)) := by rw [aT, if_neg hne, cL]
  have hfoX : (sH n so fo xs (kB fs)) fo = some (.rows 1 (gS xs)) := by rw [cL]
  have hXe : (sH n so fo xs (kB fs)) e = none := by rw [aT, if_neg e3'] at he; exact he
  simp only[go_sem,yj,hne,aSU,b1,b2,e1,e2,e3];refine aO fun q hq => ?_;have q1 : ¬ so = q := fun e0 => by rw [← e0, aT, if_neg e1, aT, if_neg b1, aT, if_neg hne, cL] at hq; cases hq
  have q2 : ¬ fo = q := fun e0 => by rw [← e0, aT, if_neg e2, aT, if_neg b2, cL] at hq; cases hq
  have q3 : ¬ b = q := fun e0 => by rw [← e0, aT, if_neg e3, cL] at hq; cases hq
  have q4 : ¬ e = q := fun e0 => by rw [← e0, cL] at hq; cases hq
  have hXq : (sH n so fo xs (kB fs)) q = none := by rw [aT, if_neg (fun h => q4 h.symm), aT, if_neg (fun h => q3 h.symm)] at hq; exact hq
  simp only[go_sem];rw [atB stI n (fun _ => (0, true)), ayO];refine wp_loop (α := RS) (fun a => ((((PF.nil.set 0 (.ptr so 6 0 0)).set 4 (.osl b 1 0 n.nodes)).set 5 (.osl e 1 0 n.nodes)).set 6 (a.v))) (fun a => a.H) (fun a => xS n xs (sH n so fo xs (kB fs)) stI b e a ∧ a.d = a.k) (fun a => n.nodes - a.k)
    ⟨[n.source], 0, fun _ => (0, true), .osl q 1 0 1, q, (((sH n so fo xs (kB fs)).set b (.rows 1 (cQ (byL stI n [n.source] (fun _ => (0, true)))))).set e (.rows 1 (bK (seL n [n.source])))).set q (.rows 1 [[.int .i64 (n.source : Nat)]]), 0⟩
    ⟨⟨ajX hn xs _, amO n xs _, aTO _, aTQ _, JI (JI (JI (fun _ _ h => h) hb) hXe) hXq,
      by rw [aT, if_neg q3, aT, if_neg e3, cL], by rw [aT, if_neg q4, cL], ⟨[[.int .i64 (n.source : Nat)]], 0, rfl, by rw [cL], by simp, rfl⟩, hXq, fun h => q3 h.symm, fun h => q4 h.symm⟩, rfl⟩ Lq (fun _ _ h => h) ?_
  rintro a ⟨hI, hdk⟩;obtain ⟨rs, off, hv, hq1, hq2, hq3⟩ := hI.hq;rw [aTJ, aVE] at hv hq2 hq3;simp only[go_sem,kp,yk,hv];by_cases hk : a.k < a.Q.length
  · have c0 : ((a.Q.length - a.k : Nat) : Int) > 0 := Om
    have hw : a.Q[a.k] < n.nodes := hI.seen.lt _ (aTN hk);have hwo : a.Q[a.k] < outL.length := by rw [hO.len]; exact hw
    have hwi : ((a.Q[a.k] : Nat) : Int) < (outL.length : Nat) := Om;have hc0 : (0 : Int) < ((a.Q.length - a.k : Nat) : Int) := c0;have hrs : rs[off]? = some [.int .i64 ((a.Q[a.k] : Nat) : Int)] := by
      have h5 : ((rs.drop off).take (a.Q.length - a.k))[0]? = (gS (a.Q.drop a.k))[0]? := by rw [hq3]
      rw [aWF, if_pos Om, aWX, aVB, aUG, aWX, aVB, aTP hk] at h5;exact h5
    obtain ⟨lv, hol, hlv⟩ := hSh.at hwo;have hlen : PV.uA lv = some (.int .i64 ((outL.getD a.Q[a.k] []).length : Nat)) := by
      rcases hlv with rfl | ⟨rfl, e⟩
      · simp [PV.uA]
      · rw [e]; rfl
    simp only[go_sem,c0];refine bC .nil cX a_ ?_;simp only[go_sem,yl,(hI.base _ _ hsoX),hc0,hq1,aVB,hrs,hol,hlen];have hLf := hO.few a.Q[a.k];have hLo := hO.only a.Q[a.k];have hLa := fun s h => hO.all s h;generalize hL : outL.getD a.Q[a.k] [] = L at *
    have hkn := ef hI.seen;refine wp_loop (α := RS × Nat) (fun c => (((((((PF.nil.set 0 (.ptr so 6 0 0)).set 4 (.osl b 1 0 n.nodes)).set 5 (.osl e 1 0 n.nodes)).set 6 (c.1.v)).set 49 (lv)).set 50 (.int .i64 (L.length : Nat))).set 51 (.int .i64 (c.2 : Nat)))) (fun c => c.1.H)
      (fun c => xS n xs (sH n so fo xs (kB fs)) stI b e c.1 ∧ c.1.d = a.k ∧ c.1.k = a.k ∧ c.1.Q[a.k]? = some a.Q[a.k] ∧ c.2 ≤ L.length ∧ ∀ s : cV, s.1 < n.arcs.length → stI s ∈ L.take c.2 → 0 < eG n xs s → eY n s ∈ c.1.Q) (fun c => L.length - c.2) (a, 0)
      ⟨hI, hdk, rfl, aTP hk, aTQ _, fun s _ h => by simp at h⟩ (by (repeat' (first|exact c_|refine d_ ?_ ?_)) <;> first|(simp only[go_sem,hv] <;> rfl)|rfl) (fun _ _ h => h) ?_
    rintro ⟨a', j⟩ ⟨hI', hd', hk', hQk, hj, aTB⟩;dsimp only at hI' hd' hk' hQk hj aTB;simp only[go_sem,ko,ym];by_cases hlt : j < L.length
    · have aSB : (j : Int) < (L.length : Nat) := Om
      obtain ⟨s, hs1, hs2, hs3⟩ := hLo L[j] (aTN hlt);have hLj : (L.map fun n => [PV.int .i64 n])[j]? = some [.int .i64 (stI s)] := by rw [aUG, aTP hlt, hs3]; rfl
      have htake : L.take (j + 1) = L.take j ++ [stI s] := by rw [aVS hlt, hs3]
      have hwQ : a.Q[a.k] ∈ a'.Q := aVH hQk;have hto : eY n s < n.nodes := by have := hn.ends _ (aTN hs1);rw [sV hs1] at this;unfold eY;split <;> omega
      have hto' : ((eY n s : Nat) : Int) < (n.nodes : Nat) := Om;have hstI : ∀ s2 : cV, stI s2 = stI s → s2 = s := fun s2 h => by
        obtain ⟨i2, b2⟩ := s2;obtain ⟨i1, b1⟩ := s;unfold stI at h;cases b1 <;> cases b2 <;> simp only [reduceIte, reduceCtorEq] at h ⊢
        · rw [show i2 = i1 by omega]
        · omega
        · omega
        · rw [show i2 = i1 by omega]
      have hlv' : lv = ints L := by
        rcases hlv with e | ⟨_, e⟩
        · exact e
        · rw [e] at hlt; exact absurd hlt (Nat.not_lt_zero _)
      subst hlv';simp only[go_sem,aSB,yn,hLj,yo];refine eO (hends n so fo xs (kB fs) s hn hne hx hs1) Ev (hI'.base) ?_;rintro r H' ⟨rfl, rfl⟩ -;rw [PH.over_self _ (hI'.base)];have hmore : ∀ Q2 : List Nat, (∀ v ∈ a'.Q, v ∈ Q2) → (0 < eG n xs s → eY n s ∈ Q2) → ∀ s2 : cV, s2.1 < n.arcs.length → stI s2 ∈ L.take (j + 1) → 0 < eG n xs s2 → eY n s2 ∈ Q2 := fun Q2 g1 g2 s2 g3 g4 g5 => by
        rw [htake] at g4;rcases aUR.1 g4 with g | g
        · exact g1 _ (aTB s2 g3 g g5)
        · have := hstI s2 (aUY.1 g)
          subst this;exact g2 g5
      have hjw := wZz j;by_cases hr : 0 < eG n xs s
      · have hr' : ((eG n xs s : Nat) : Int) > 0 := Om
        have hsel : eY n s < (seL n a'.Q).length := by rw [uz]; exact hto
        have hbyl : eY n s < (byL stI n a'.Q a'.way).length := by rw [Vd]; exact hto
        have hbr := jM hsel;rw [acA hto] at hbr;have hir := JG hbyl;cases hc : a'.Q.contains (eY n s) with
        | true =>rw [hc] at hbr;have hin : eY n s ∈ a'.Q := List.contains_iff_mem.1 hc;simp only[go_sem,CN,hr',hto',hI'.he,hbr,aUF,yU,hjw];exact aH (a', j + 1) ⟨hI', hd', hk', hQk, hlt, hmore _ (fun _ h => h) fun _ => hin⟩ (by dsimp only; omega) Lq (fun _ _ h => h)
        | false =>
          rw [hc] at hbr;have hnin : eY n s ∉ a'.Q := fun h => by rw [List.contains_iff_mem.2 h] at hc; cases hc
          have hsQ : n.source ∈ a'.Q := by obtain ⟨t, ht⟩ := hI'.seen.first; rw [ht]; simp
          simp only[go_sem,CN,hr',hto',hI'.he,hI'.hb,hbr,hir,aUF,e3,e3',kq,kr,kW,CK,aGM,aCD hsQ hnin];refine xS.step hn hI' ⟨hb, hXe, e3⟩ hs1 (by rw [hs2]; exact hwQ) hnin hr fun a2 hI2 hQ2 hk2 hd2 => ?_;simp only[go_sem,yU,hjw];have hQk2 : a2.Q[a.k]? = some a.Q[a.k] := by obtain ⟨l1, l2⟩ := aUN.1 hQk;rw [hQ2, aVI l1];exact hQk
          exact aH (a2, j + 1) ⟨hI2, hd2.trans hd', hk2.trans hk', hQk2, hlt, hmore _ (fun v h => by rw [hQ2]; exact aWY _ h) fun _ => by rw [hQ2]; simp⟩ (by dsimp only; omega) Lq (fun _ _ h => h)
      · have hr' : ¬ ((eG n xs s : Nat) : Int) > 0 := Om
        simp only[go_sem,CN,hr',yU,hjw];exact aH (a', j + 1) ⟨hI', hd', hk', hQk, hlt, hmore _ (fun _ h => h) fun h => absurd h hr⟩ (by dsimp only; omega) Lq (fun _ _ h => h)
    · have aSB : ¬ (j : Int) < (L.length : Nat) := Om
      obtain ⟨rs', off', hv', hq1', hq2', hq3'⟩ := hI'.hq;obtain ⟨l1, l2⟩ := aUN.1 hQk;rw [aTJ, aVE, hk'] at hv' hq2' hq3';have hc1 : (1 : Int) ≤ ((a'.Q.length - a.k : Nat) : Int) := Om;simp only[go_sem,aSB,ku,hv',hc1,Int.le_refl];have hLt : L.take j = L := aUB Om;have hdn : HK n xs a'.Q (a.k + 1) := amN (by rw [← hd']; exact hI'.done) hQk fun s g1 g2 g3 => by refine aTB s g1 ?_ g3;have := hLa s g1;rw [g2, hL] at this;rw [hLt];exact this
      have hfl : (gS (a'.Q.drop (a.k + 1))).length = a'.Q.length - a.k - 1 := by rw [aTJ, aVE, Nat.sub_sub]
      have hsl := ef hI'.seen;refine aH ⟨a'.Q, a.k + 1, a'.way, .osl a'.q 1 (off' + 1) (a'.Q.length - a.k - 1), a'.q, a'.H, a.k + 1⟩ ⟨⟨hI'.seen, hdn, aTO _, by dsimp only; omega, hI'.base, hI'.hb, hI'.he, ⟨rs', off' + 1, by rw [hfl], hq1', by rw [hfl]; omega, ?_⟩, hI'.ne⟩, rfl⟩ (by dsimp only; omega) Lq (fun _ _ h => h);rw [hfl];have h7 := congrArg (List.drop 1) hq3';rw [List.drop_take, List.drop_drop] at h7;rw [h7];show List.drop 1 (List.map _ _) = _;rw [← List.map_drop, List.drop_drop]
  · have c0 : ¬ ((a.Q.length - a.k : Nat) : Int) > 0 := Om
    have hkk : a.k = a.Q.length := by have := hI.k; omega
    simp only[go_sem,c0,kw];have hfo : ∀ q, ¬ fo = q → ∀ rs, bO.frz q 1 rs (sO n fo xs.length (kB fs)) = sO n fo xs.length (kB fs) := fun q hq rs => by simp [bO.frz, PV.cH, hq]
    refine oH (vs := [.osl b 1 0 n.nodes, .osl e 1 0 n.nodes]) (.inr rfl) Ev ?_;refine anD (H2 := sH n so fo xs (kB fs)) hI.hb hI.he e3' (agT _) (by unfold cQ; rw [aTJ, Vd]) (by rw [jO, uz]) ?_ ⟨a.Q, a.way, hI.seen, by rw [← hkk, ← hdk]; exact hI.done, rfl, rfl⟩;have flx : Flat (gS xs) := Flat.map xs fun x c hc q s rs => by rw [aUY] at hc;subst hc;rfl
    exact e_ (e_ a_ (AW (AW (hI.base _ _ hsoX) b1 (hfo b b2 _)) e1 (hfo e e2 _))) (AW (AW (hI.base _ _ hfoX) b2 (AV flx 1)) e2 (AV flx 1))
theorem aBL {n:cJ} {Q:List Nat} {way:Nat→cV} {v:Nat} (h:v<n.nodes) (j:v∈Q) (e:v≠n.source):((byL stI n Q way).map fun x=>[PV.int .i64 x])[v]?=some [.int .i64 (stI (way v))]:=by
 unfold byL;rw[aUG,aUG,aWL h,aUO,aUO,if_pos ⟨j,e⟩]
theorem room_le {n:cJ} (l:fU n) {xs:List Nat} (u:tN n xs) {s:cV} (e:s.1<n.arcs.length):eG n xs s≤2147483647:=by
 have j:=(l.ends _ (aTN e)).2.2;rw[sV e] at j;have w:=u.le _ e;unfold eG;split<;>omega
theorem Ai (xs:List Nat) (i x:Nat):(gS xs).set i [.int .i64 (x:Nat)]=gS (xs.set i x):=by
 exact (List.map_set ..).symm
theorem gP.in {n:cJ} {xs:List Nat} (h:gP n xs):tN n xs:=⟨h.len,fun i hi=>by
 have e:i<xs.length:=by rw[h.len]; exact hi
 have:=h.le i n.arcs[i] xs[i] (aTP hi) (aTP e);rw[sV hi] at this;rw[aTR,aTP e];exact this⟩
def aIF (n:cJ) (l fo:Nat) (xs:List Nat) (out:PV) (r:PV) (H:PH):Prop :=
 ∃ (j:List Nat) (e:Nat),0<e∧gP n j∧jB n j=jB n xs+e∧r=.int .i64 (e:Nat)∧H=sH n l fo j out
theorem aEP {C:Ctx} (Z:∀ (n:cJ) (l fo:Nat) (xs:List Nat) (out:PV) (s:cV),fU n→¬ l=fo→tN n xs→s.1<n.arcs.length→aG C 294 [.ptr l 6 0 0,.int .i64 (stI s)] (sH n l fo xs out) (fun r H'=>r=.tup [.int .i64 ((eY n s:Nat):Int),.int .i64 ((eG n xs s:Nat):Int)]∧H'=sH n l fo xs out))
  (y:∀ (n:cJ) (l fo:Nat) (xs:List Nat) (out:PV) (s:cV),fU n→¬ l=fo→s.1<n.arcs.length→aG C 295 [.ptr l 6 0 0,.int .i64 (stI s)] (sH n l fo xs out) (fun r H'=>r=.int .i64 ((dR n s:Nat):Int)∧H'=sH n l fo xs out))
  (n:cJ) (I:fU n) (l fo:Nat) (w:¬ l=fo) (xs:List Nat) (hF:gP n xs) (out:PV) (Q:List Nat) (way:Nat→cV) (hS:nU n xs Q way) (γ:n.sink∈Q) :
  QM.wp C (aR avY.res (aIF n l fo xs out)) (PF.args [.ptr l 6 0 0,ints (byL stI n Q way)]) (sH n l fo xs out):=by
 have A:¬ fo=l:=fun e=>w e.symm;have hx:=hF.in;obtain⟨L0,W,-⟩:=amE hS _ n.sink rfl γ;simp only[go_sem,QM,Yl,avY,Ym,Yn,w,A];refine wp_loop (α:=Nat × List cV × List cV × Int) (fun c=>((((PF.nil.set 0 (.ptr l 6 0 0)).set 1 (ints (byL stI n Q way))).set 5 (.int .i64 c.2.2.2)).set 6 (.int .i64 (c.1:Nat)))) (fun _=>sH n l fo xs out)
  (fun c=>c.1∈Q∧vC n Q way c.1 c.2.1∧c.2.2.1++c.2.1=L0∧(c.2.2.1=[]→c.2.2.2=-1)∧(c.2.2.1≠[]→0<c.2.2.2∧c.2.2.2≤2147483647∧∀ s∈c.2.2.1,c.2.2.2≤eG n xs s)) (fun c=>c.2.1.length) (n.sink,L0,[],-1)
  ⟨γ,W,rfl,fun _=>rfl,fun h=>absurd rfl h⟩ Lq (fun _ _ h=>h) ?_
 rintro⟨v,L,P,z⟩ ⟨hv,hB,O,κ,δ⟩;dsimp only at hv hB O κ δ;simp only[go_sem,Yk,Yo,w,A];have σ:=hS.lt v hv;have χ:(v:Int)<(n.nodes:Nat):=Om;by_cases R:v=n.source
 ·have hL:L=[]:=by
   cases hB with
   | nil=>rfl
   | cons _ h _=>exact absurd R h
  subst hL;rw[aVC] at O;subst O;have Y:(v:Int)=n.source:=Om;have ξ:P≠[]:=by
   rintro rfl;have:=I.apart;generalize hk:n.sink=k at *
   cases W;exact this rfl
  obtain⟨z0,z1,F⟩:=δ ξ;obtain⟨j,rfl⟩:∃ j:Nat,z=j:=⟨z.toNat,by omega⟩;simp only[go_sem,bV Y,Yq,w,A];refine wp_loop (α:=Nat × List cV × List Nat) (fun c=>((((PF.nil.set 0 (.ptr l 6 0 0)).set 1 (ints (byL stI n Q way))).set 5 (.int .i64 (j:Nat))).set 9 (.int .i64 (c.1:Nat)))) (fun c=>sH n l fo c.2.2 out)
   (fun c=>c.1∈Q∧vC n Q way c.1 c.2.1∧gk n xs c.2.2 j c.1 c.2.1∧∀ s∈c.2.1,j≤eG n xs s) (fun c=>c.2.1.length) (n.sink,P,xs)
   ⟨γ,W,aoI hF j P,fun s M=>by have:=F s M; omega⟩ Lq (fun _ _ h=>h) ?_
  rintro⟨u,L,x⟩ ⟨hu,J,hM,E⟩;dsimp only at hu J hM E;simp only[go_sem,Lj,Lk,w,A];have ρ:=hS.lt u hu;have φ:(u:Int)<(n.nodes:Nat):=Om;by_cases N:u=n.source
  ·have hL:L=[]:=by
    cases J with
    | nil=>rfl
    | cons _ h _=>exact absurd N h
   subst hL;subst N;obtain⟨k1,k2⟩:=awL I hF hM;simp only[go_sem,bV (show (n.source:Int)=n.source from rfl),Ln];exact aV (vs:=[.int .i64 (j:Nat)]) (.inr rfl) (sH n l fo x out) Ev (fun _ _ h=>h) ⟨x,j,by omega,k1,k2,rfl,rfl⟩
  ·have ε:¬ (u:Int)=n.source:=Om;have ν:=J;cases J with
   | nil=>exact absurd rfl N
   | @cons _ L _ _ J =>
   have ο:=E _ (List.mem_cons_self ..);obtain⟨g1,g2,g3⟩:=awM hS hM ν hu ο;obtain⟨s1,s2,s3,s4,s5⟩:=hS.way u hu N;have β:=hM.same _ (List.mem_cons_self ..);have B:=aBL (way:=way) ρ hu N;generalize M:way u=s at *
   obtain⟨i,S⟩:=s;have s1:i<n.arcs.length:=s1;have ι:i<x.length:=by rw[hM.len]; exact s1
   have θ:(i:Int)<(x.length:Nat):=Om;have τ:=room_le I hx (s:=(i,S)) s1;have ψ:=hx.le i s1;have X:=(I.ends _ (aTN s1)).2.2;rw[sV s1] at X;have hk:=I.num;dsimp only at β;have η:((sH n l fo x out).set fo (.rows 1 (gS (push j x (i,S)))))=sH n l fo (push j x (i,S)) out:=by show (((PH.nil.set l (sO n fo x.length out)).set fo _).set fo _)=(PH.nil.set l (sO n fo (push j x (i,S)).length out)).set fo _;rw[PH.set_set,da]
   have V:((PH.nil.set l (sO n fo x.length out)).set fo (.rows 1 (gS (push j x (i,S)))))=sH n l fo (push j x (i,S)) out:=by show _=(PH.nil.set l (sO n fo (push j x (i,S)).length out)).set fo _;rw[da]
   have U:∀ s∈L,j≤eG n xs s:=fun s M=>E s (aWV _ M);cases S with
   | true =>
    have e0:stI (i,true)=(i:Int):=rfl;have hp:push j x (i,true)=x.set i (x.getD i 0+j):=rfl;have e2:eG n xs (i,true)=(dV n i).cap-xs.getD i 0:=rfl;have ew:IntKind.i64.wrap (((x.getD i 0:Nat):Int)+((j:Nat):Int))=((x.getD i 0+j:Nat):Int):=by rw[wrap_i64 Om Om]; omega
    simp only[go_sem,dK ε,ap,B,au,e0,show (i:Int)≥0 by omega,Ll,w,A,θ,BH ι,ew,Ai,aUF];rw[← hp]
    first | rw[η] | rw[V]
    simp only[go_sem,av,B];refine eO (y n l fo _ out (i,true) I w s1) Ev (fun _ _ h=>h) ?_;rintro r H' ⟨rfl,rfl⟩ -;rw[PH.over_self _ (fun _ _ h=>h)];simp only[go_sem];exact aH (dR n (i,true),L,push j x (i,true)) ⟨g1,g2,g3,U⟩ (by simp) Lq (fun _ _ h=>h)
   | false =>
    have e0:stI (i,false)=-1-(i:Int):=rfl;have hp:push j x (i,false)=x.set i (x.getD i 0-j):=rfl;have e2:eG n xs (i,false)=xs.getD i 0:=rfl;have ei:IntKind.i64.wrap (-1-(-1-(i:Int)))=(i:Int):=by rw[wrap_i64 Om Om]; omega
    have ew:IntKind.i64.wrap (((x.getD i 0:Nat):Int)-((j:Nat):Int))=((x.getD i 0-j:Nat):Int):=by rw[wrap_i64 Om Om]; omega
    simp only[go_sem,dK ε,ap,B,au,e0,show ¬ (-1-(i:Int))≥0 by omega,Lm,ei,w,A,θ,BH ι,ew,Ai,aUF];rw[← hp]
    first | rw[η] | rw[V]
    simp only[go_sem,av,B,← e0];refine eO (y n l fo _ out (i,false) I w s1) Ev (fun _ _ h=>h) ?_;rintro r H' ⟨rfl,rfl⟩ -;rw[PH.over_self _ (fun _ _ h=>h)];simp only[go_sem];exact aH (dR n (i,false),L,push j x (i,false)) ⟨g1,g2,g3,U⟩ (by simp) Lq (fun _ _ h=>h)
 ·have Y:¬ (v:Int)=n.source:=Om;cases hB with
  | nil=>exact absurd rfl R
  | @cons _ L _ _ hB =>
  obtain⟨s1,s2,s3,s4,s5⟩:=hS.way v hv R;have B:=aBL (way:=way) σ hv R;have υ:=room_le I hx s1;simp only[go_sem,dK Y,Yp,B];refine eO (Z n l fo xs out (way v) I w hx s1) Ev (fun _ _ h=>h) ?_;rintro r H' ⟨rfl,rfl⟩ -;rw[PH.over_self _ (fun _ _ h=>h)];have K:∀ F:Int,0<F→F≤eG n xs (way v)→(∀ s∈P,F≤eG n xs s)→dR n (way v)∈Q∧vC n Q way (dR n (way v)) L∧(P++[way v])++L=L0∧(P++[way v]=[]→F=-1)∧(P++[way v]≠[]→0<F∧F≤2147483647∧∀ s∈P++[way v],F≤eG n xs s):=fun F h0 h1 h2 =>
   ⟨s4,hB,by rw[aUP]; exact O,fun h=>by simp at h,fun _=>⟨h0,by omega,fun s M=>by
    rcases aUR.1 M with g | g
    ·exact h2 s g
    ·rw[aUY] at g; subst g; exact h1⟩⟩
  by_cases hP:P=[]
  ·have hz:=κ hP;subst hz;simp only[go_sem,UN,tb,UO,B];refine eO (y n l fo xs out (way v) I w s1) Ev (fun _ _ h=>h) ?_;rintro r H' ⟨rfl,rfl⟩ -;rw[PH.over_self _ (fun _ _ h=>h)];simp only[go_sem];exact aH (dR n (way v),L,P++[way v],((eG n xs (way v):Nat):Int)) (K ((eG n xs (way v):Nat):Int) Om (Int.le_refl _) fun s M=>by rw[hP] at M; cases M) (by simp) Lq (fun _ _ h=>h)
  ·obtain⟨z0,z1,F⟩:=δ hP;have μ:¬ z<0:=Om;by_cases ζ:((eG n xs (way v):Nat):Int)<z
   ·simp only[go_sem,UN,μ,ζ,tb,UO,B];refine eO (y n l fo xs out (way v) I w s1) Ev (fun _ _ h=>h) ?_;rintro r H' ⟨rfl,rfl⟩ -;rw[PH.over_self _ (fun _ _ h=>h)];simp only[go_sem];exact aH (dR n (way v),L,P++[way v],((eG n xs (way v):Nat):Int)) (K ((eG n xs (way v):Nat):Int) Om (Int.le_refl _) fun s M=>by have:=F s M; omega) (by simp) Lq (fun _ _ h=>h)
   ·simp only[go_sem,UN,μ,ζ,UO,B];refine eO (y n l fo xs out (way v) I w s1) Ev (fun _ _ h=>h) ?_;rintro r H' ⟨rfl,rfl⟩ -;rw[PH.over_self _ (fun _ _ h=>h)];simp only[go_sem];exact aH (dR n (way v),L,P++[way v],z) (K z z0 Om F) (by simp) Lq (fun _ _ h=>h)


theorem xS.new {n:cJ} {xs:List Nat} {X:PH} {u:cV→Int} {b e:Nat} {a:RS} (h:xS n xs X u b e a) {p:Nat} (A:a.H p=none) (y:bO):xS n xs X u b e { a with H:=a.H.set p y }:=by
 have l:∀ o x,a.H o=some x→(a.H.set p y) o=some x:=fun o x j=>by rw[aT,if_neg (fun w=>by subst w; rw[A] at j; cases j)]; exact j
 exact⟨h.seen,h.done,h.dk,h.k,fun o x j=>l o x (h.base o x j),l _ _ h.hb,l _ _ h.he,h.hq.ext fun x B=>l _ x B,h.ne⟩
theorem xS.box {n:cJ} {xs:List Nat} {X:PH} {w:cV→Int} {b e:Nat} {a:RS} (h:xS n xs X w b e a) {p:Nat} (B:a.H p=none) (y:bO):xS n xs (X.set p y) w b e { a with H:=a.H.set p y }:=by
 have u:∀ o x,a.H o=some x→(a.H.set p y) o=some x:=fun o x j=>by rw[aT,if_neg (fun l=>by subst l; rw[B] at j; cases j)]; exact j
 have hq:a.q≠p:=fun l=>by obtain⟨rs,F,_,A,_⟩:=h.hq;rw[l,B] at A; cases A
 refine⟨h.seen,h.done,h.dk,h.k,fun o x j=>?_,u _ _ h.hb,u _ _ h.he,h.hq.ext fun x E=>u _ x E,?_,h.ne.2⟩
 ·show (a.H.set p y) o=some x;rw[aT] at j ⊢;by_cases l:o=p
  ·rw[if_pos l] at j ⊢; exact j
  ·rw[if_neg l] at j ⊢; exact h.base o x j
 ·rw[aT,if_neg hq]; exact h.ne.1
def Eu (n:cJ) (r:PV) (H:PH):Prop :=
 ∃ xs S,gP n xs∧jB n xs=dO S n.arcs∧S n.source=true∧S n.sink=false∧r=.tup [.sl 1 (gS xs),.int .i64 (jB n xs),.sl 1 (bK ((aTI n.nodes).map S)),.int .i64 0]∧H=PH.nil
def atD (n:cJ):Nat:=dO (fun v=>decide (v=n.source)) n.arcs
theorem aAD {n:cJ} (j:fU n) {xs:List Nat} (h:gP n xs):jB n xs≤atD n:=h.anY j (by simp) (by simpa using fun e=>j.apart e.symm)
theorem LE (m:Nat):aTK m [PV.int .i64 0]=gS (aTK m 0):=by
 show _=List.map _ (aTK m 0);rw[List.map_replicate]; rfl
theorem cg:∀ (ps:WPs) {H:PH} {B:List BX} {J:PV} (y:List (List PV)) (l:List (List Int)),lO y l→aM H B ((J,1,y++dS ps)::hJ ps)→(∀ b∈B,∀ q∈dP (hJ ps),∀ s rs,bO.frz q s rs b.2=b.2) →
  ∃ (φ:PV→PV) (I:PH) (A:List (List PV)),lO A (l++wls ps)∧aM I B [(J,1,A)]∧(∀ u,Fx u→φ u=u)∧∀ F,jE F H (FO φ F) I
 | [],H,B,J,y,l,K,h,_=>⟨id,H,y,by rw[show wls []=[] from rfl,aVC]; exact K,by rw[show y++dS []=y from aVC _] at h; exact h,fun _ _=>rfl,fun F=>by
   have:FO id F=F:=funext fun i=>by rw[tJ,Option.map_id]; rfl
   rw[this]; exact .refl _ _⟩
 | (v,w)::ps,H,B,J,y,l,K,h,hB=>by
  have eo:∀ u:PV,y++[[u]]++dS ps=y++[u]::dS ps:=fun u=>by rw[aUP]; rfl
  have S:l++[w]++wls ps=l++wls ((v,w)::ps):=by rw[aUP]; rfl
  have ho:cA H 1 v (cQ w):=h.own 1 rfl;have E:∀ q,q∈dP (hJ ps)→q∈dP (hJ ((v,w)::ps)):=fun q hq=>by obtain⟨x,hx,e⟩:=List.mem_filterMap.1 hq;exact List.mem_filterMap.2 ⟨x,aWV _ hx,e⟩
  rcases ho with ⟨h1,rfl⟩ | ⟨q,rs,rfl,_⟩
  ·have hw:w=[]:=List.map_eq_nil_iff.1 h1;have h2:=h.ik 1;obtain⟨φ,I,A,k1,k2,O,R⟩:=cg ps (y++[[.aB]]) (l++[w]) (K.snoc (.inr ⟨rfl,hw⟩)) (by rw[eo]; exact h2) (fun b hb q hq=>hB b hb q (E q hq));rw[S] at k1;exact⟨φ,I,A,k1,k2,O,R⟩
  ·obtain⟨rs,z1,z2,z3,z4,W⟩:=h.frz 1 rfl;have N:q∈dP (hJ ((.osl q 1 0 (cQ w).length,w)::ps)):=List.mem_filterMap.2 ⟨_,List.mem_cons_self ..,rfl⟩;have Y:(B.map fun b=>(b.1,b.2.frz q 1 rs))=B:=by
    conv=>rhs; rw[← List.map_id B]
    refine aVN fun b hb=>?_;rw[hB b hb q N 1 rs]; rfl
   have yp:∀ p∈ps,PV.cH q 1 rs p.1=p.1:=fun p M=>by obtain⟨j,hj⟩:=List.mem_iff_getElem?.1 M;exact z4 (j+2) (p.1,1,cQ p.2) Om (GQ hj)
   have er:(y++dS ((.osl q 1 0 (cQ w).length,w)::ps)).map (fun r=>r.map (PV.cH q 1 rs))=y++[[ints w]]++dS ps:=by
    rw[aUX,K.flat,aUP];congr 1;show [PV.cH q 1 rs (.osl q 1 0 (cQ w).length)]::(dS ps).map _=_;rw[z2];have:(dS ps).map (fun r=>r.map (PV.cH q 1 rs))=dS ps:=by unfold dS;rw[aWO];refine aVN fun p M=>?_;show [PV.cH q 1 rs p.1]=_;rw[yp p M]
    rw[this];rfl
   have Z:(hJ ps).map (fun x=>(x.1,x.2.1,x.2.2.map fun r=>r.map (PV.cH q 1 rs)))=hJ ps:=by unfold hJ;rw[aWO];refine aVN fun p _=>?_;show (p.1,1,(cQ p.2).map fun r=>r.map (PV.cH q 1 rs))=_;rw[show (cQ p.2).map (fun r=>r.map (PV.cH q 1 rs))=cQ p.2 from Flat.map p.2 (fun x c U q s rs=>by rw[aUY] at U; subst U; rfl) q 1 rs]
   have z6:aM (H.frz q 1 rs) B ((J,1,y++[[ints w]]++dS ps)::hJ ps):=by rw[Y] at W;have X:aM (H.frz q 1 rs) B ((J,1,(y++dS ((.osl q 1 0 (cQ w).length,w)::ps)).map (fun r=>r.map (PV.cH q 1 rs)))::(hJ ps).map (fun x=>(x.1,x.2.1,x.2.2.map fun r=>r.map (PV.cH q 1 rs)))):=W;rw[er,Z] at X;exact X
   obtain⟨φ,I,A,k1,k2,O,R⟩:=cg ps (y++[[ints w]]) (l++[w]) (K.snoc (.inl rfl)) z6 (fun b hb q hq=>hB b hb q (E q hq));rw[S] at k1;refine⟨fun u=>φ (PV.frz q 1 rs u),I,A,k1,k2,fun u V=>?_,fun F=>.step q z1 ?_⟩
   ·simp only;rw[V,O u V]
   ·have:FO (fun u=>φ (PV.frz q 1 rs u)) F=FO φ (F.frz q 1 rs):=funext fun i=>by rw[tJ,tJ,oF,Option.map_map];rfl
    rw[this];exact R _
theorem U3 {C:Ctx} {c:aC} {K:cE} {F l:PF} {H u:PH} (B:jE F H l u) (h:aC.wp C (.loop c) K l u):aC.wp C (.loop c) K F H:=by
 obtain⟨α,x,Hs,y,m,A,w,H2,j,e⟩:=h;exact⟨α,x,Hs,y,m,A,w,H2,B.trans j,e⟩
theorem akY {φ:PV→PV} (j:∀ u,Fx u→φ u=u) {F:PF} {i o s:Nat} {rs:List (List PV)} {u:PV} (h:F i=some u) (e:Fx u):((FO φ F).frz o s rs) i=some u:=by
 rw[oF,tJ,h,aUO,aUO,j u e,e]
theorem aM.ajB {H:PH} {B:List BX} {L:List LI} (h:aM H B L):∀ N:Nat,aM H B (L++aTK N (.aB,1,[]))
 | 0=>by rw[List.replicate_zero,aVC]; exact h
 | N+1=>by rw[List.replicate_succ',← aUP];exact (h.ajB N).kS 1
structure xR (n:cJ) (T:cV→Prop) (c:Nat) (ws:List (List Int)):Prop where
 len:ws.length=n.nodes
 all:∀ s:cV,T s→stI s∈ws.getD (dR n s) []
 only:∀ v c,c∈ws.getD v []→∃ s:cV,T s∧dR n s=v∧c=stI s
 few:∀ v,(ws.getD v []).length≤c
theorem xR.add {n:cJ} {T:cV→Prop} {c:Nat} {ws:List (List Int)} (h:xR n T c ws) {s0:cV} (l:dR n s0<n.nodes) :
  xR n (fun s=>T s∨s=s0) (c+1) (ws.set (dR n s0) (ws.getD (dR n s0) []++[stI s0])):=by
 have E:dR n s0<ws.length:=by rw[h.len]; exact l
 have j:∀ v,(ws.set (dR n s0) (ws.getD (dR n s0) []++[stI s0])).getD v []=if v=dR n s0 then ws.getD v []++[stI s0] else ws.getD v []:=fun v=>by
  rw[aTR,aXF];by_cases e:v=dR n s0
  ·subst e;rw[if_pos rfl,if_pos E,if_pos rfl]; rfl
  ·rw[if_neg (fun B=>e B.symm),if_neg e,← aTR]
 refine⟨by rw[aVJ]; exact h.len,fun s l=>?_,fun v x u=>?_,fun v=>?_⟩
 ·rw[j];rcases l with l | rfl
  ·split
   ·exact aWY _ (h.all s l)
   ·exact h.all s l
  ·rw[if_pos rfl]; simp
 ·rw[j] at u;split at u
  ·rename_i e;rcases aUR.1 u with g | g
   ·obtain⟨s,w,y,A⟩:=h.only v x g;exact⟨s,.inl w,y,A⟩
   ·rw[aUY] at g;exact⟨s0,.inr rfl,e.symm,g⟩
  ·obtain⟨s,w,y,A⟩:=h.only v x u;exact⟨s,.inl w,y,A⟩
 ·have:=h.few v;rw[j];split
  ·rw[aTM,aTT]; omega
  ·omega
theorem xR.zero (n:cJ):xR n (fun s=>s.1<0) 0 (aTK n.nodes []):=by
 have:∀ v,(aTK n.nodes ([]:List Int)).getD v []=[]:=fun v=>by rw[aTR,List.getElem?_replicate];split<;>rfl
 exact⟨by simp,fun s j=>absurd j (Nat.not_lt_zero _),fun v c e=>(by rw[this] at e; cases e),fun v=>by rw[this]; exact aTO _⟩
theorem xR.ok {n:cJ} (e:fU n) {ws:List (List Int)} (h:xR n (fun s=>s.1<n.arcs.length) (2*n.arcs.length) ws):Dz n ws :=
 ⟨h.len,h.all,h.only,fun v=>by have:=h.few v; have:=e.num; omega⟩
theorem vr (ps:WPs) (i:Nat) (p:PV × List Int):wls (ps.set i p)=(wls ps).set i p.2:=List.map_set ..
theorem vq {ps:WPs} {i:Nat} {p:PV × List Int} (h:ps[i]?=some p):(wls ps).getD i []=p.2:=by
 unfold wls;rw[aTR,aUG,h]; rfl
theorem aCF {n:cJ} (e:fU n):atD n≤2500*2147483647:=by
 have j:=rx (fun v=>decide (v=n.source)) (M:=2147483647) (l:=n.arcs) fun a u=>(e.ends a u).2.2;exact aWI j (aUM 2147483647 e.num)
structure aIJ where
 k:Nat
 ps:WPs
 H:PH
abbrev aBN (n:cJ) (j fo e:Nat):List BX:=[(fo,.rows 1 (gS (aTK n.arcs.length 0))),(j,sO n fo n.arcs.length (.osl e 1 0 n.nodes))]
structure aLG (n:cJ) (so fo oo:Nat) (a:aIJ):Prop where
 k:a.k≤n.arcs.length
 len:a.ps.length=n.nodes
 heap:aM a.H (aBN n so fo oo) (pQ (.osl oo 1 0 n.nodes) a.ps)
 out:xR n (fun s=>s.1<a.k) (2*a.k) (wls a.ps)
theorem aaD {H:PH} {B:List BX} {u N:Nat} {ps:WPs} (h:aM H B (pQ (.osl u 1 0 N) ps)) (E:ps.length=N) {i:Nat} (hi:i<N):∃ rs v w,H u=some (.rows 1 rs)∧ps[i]?=some (v,w)∧rs[i]?=some [v]:=by
 obtain⟨rs,x,y,A,j⟩:=h.outer.id rfl;rw[RZ] at y A j;have e:i<ps.length:=Om;refine⟨rs,(ps[i]).1,(ps[i]).2,x,aTP e,?_⟩;have h5:=congrArg (fun l=>l[i]?) j
 try simp only at h5
 rw[aWF,if_pos e] at h5;rw[h5];exact BE (aTP e)
theorem aoN {C:Ctx} (Y:∀ n:cJ,fU n→aG C 292 [.agg n.cells] .nil (aI (.bool true)))
  (X:∀ (n:cJ) (j fo:Nat) (xs:List Nat) (y:List (List PV)) (ε:List (List Int)),fU n→¬ j=fo→tN n xs→lO y ε→Dz n ε→aG C 296 [.ptr j 6 0 0] (sH n j fo xs (kB y)) (amC n j fo xs (kB y)))
  (κ:∀ (n:cJ) (j fo:Nat) (xs:List Nat) (out:PV) (Q:List Nat) (way:Nat→cV),fU n→¬ j=fo→gP n xs→nU n xs Q way→n.sink∈Q→aG C 297 [.ptr j 6 0 0,ints (byL stI n Q way)] (sH n j fo xs out) (aIF n j fo xs out))
  (n:cJ) (J:fU n):EB.wp C (aR Mu.res (Eu n)) (PF.args [.agg n.cells]) .nil:=by
 have hm:=J.num;have j':=J.few;have μ:(n.arcs.length:Int)*((8:Nat):Int)≤140737488355328:=Om;have ν:(n.arcs.length:Int)≤9223372036854775807:=Om;have ξ:(n.nodes:Int)*((24:Nat):Int)≤140737488355328:=Om;have ο:(n.nodes:Int)≤9223372036854775807:=Om;have o':(n.sink:Int)<(n.nodes:Nat):=by have:=J.sink; omega
 simp only[go_sem,EB,yq,Mu,yr];refine aA (Y n J) Ev ?_;simp only[go_sem];refine bC .nil cX a_ ?_;simp only[go_sem,yu,aTJ,μ,ν,ξ,ο];refine aO fun fo Ω=>?_;simp only[go_sem,μ,ν,ξ,ο];refine aO fun u τ=>?_;simp only[go_sem];refine aO fun j A=>?_;have V:¬ j=fo:=fun e=>by
  rw[e,aT] at A;split at A
  ·cases A
  ·rw[cL] at A;cases A
 simp only[go_sem,yv,aTJ];rw[LE];have h0:aM PH.nil ([]:List BX) ([]:List LI):=aM.nil;have h1:=(h0.new Ω (.rows 1 (gS (aTK n.arcs.length 0))));rw[LE] at τ;have S:=(h1.t6 (s:=1) (rows:=aTK n.nodes [.aB]) τ);rw[LE] at A;have h3:=(S.new A (sO n fo n.arcs.length (.osl u 1 0 n.nodes)));have h4:=h3.ajB n.nodes;have e4:([]++[((.osl u 1 0 (aTK n.nodes [PV.aB]).length:PV),1,aTK n.nodes [PV.aB])]:List LI)++aTK n.nodes (.aB,1,[])=pQ (.osl u 1 0 n.nodes) (aTK n.nodes (.aB,[])):=by unfold pQ dS hJ;rw[List.map_replicate,List.map_replicate,aXI]; rfl
 rw[e4] at h4;refine wp_loop (α:=aIJ) (fun a=>(((((PF.nil.set 1 (.bN n.cells)).set 6 (.ptr j 6 0 0)).set 26 (rk n.arcs)).set 27 (.int .i64 (n.arcs.length:Nat))).set 28 (.int .i64 (a.k:Nat)))) (fun a=>a.H) (aLG n j fo u) (fun a=>n.arcs.length-a.k) ⟨0,aTK n.nodes (.aB,[]),_⟩
  ⟨aTQ _,aXI,h4,by
   have:wls (aTK n.nodes ((.aB,[]):PV × List Int))=aTK n.nodes []:=by unfold wls; rw[List.map_replicate]
   show xR n _ _ (wls (aTK n.nodes ((.aB,[]):PV × List Int)));rw[this];exact xR.zero n⟩ Lq (fun _ _ h=>h) ?_
 rintro⟨k,ps,H⟩ ⟨hk,ζ,hH,hO⟩;dsimp only at hk ζ hH hO;simp only[go_sem,kx,yw];by_cases hlt:k<n.arcs.length
 ·have M:(k:Int)<(n.arcs.length:Nat):=Om;obtain⟨z1,z2,z3⟩:=J.ends _ (aTN hlt);rw[sV hlt] at z1 z2 z3;have Δ:(((dV n k).src:Nat):Int)<(n.nodes:Nat):=Om;have Θ:(((dV n k).dst:Nat):Int)<(n.nodes:Nat):=Om;have b':=wZz k;have c':IntKind.i64.wrap (-1-(k:Int))=-1-(k:Int):=wrap_i64 Om Om;simp only[go_sem,M,yx,vE hlt];refine aO fun p hp=>?_;have k':H fo=some _:=hH.at 0 rfl;have O:H j=some _:=hH.at 1 rfl;have p1:¬ j=p:=fun e0=>by rw[e0,hp] at O; cases O
  have Γ:¬ p=j:=fun e0=>p1 e0.symm;have F:=hH.new hp (.rows 4 [(dV n k).cells]);obtain⟨rs,v,w,g1,g2,g3⟩:=aaD F ζ z1;have I:(wls ps).getD (dV n k).src []=w:=vq g2;have Z:=hO.few (dV n k).src;rw[I] at Z;have ω:(H.set p (.rows 4 [(dV n k).cells])) j=some _:=F.at 1 rfl;have υ:(H.set p (.rows 4 [(dV n k).cells])) p=some _:=F.at 2 rfl;have op:¬ u=p:=fun e0=>by rw[e0,υ] at g1; injection g1 with g1; injection g1 with g1; cases g1
  simp only[go_sem];refine bC ((PH.nil.set j (sO n fo n.arcs.length (.osl u 1 0 n.nodes))).set p (.rows 4 [(dV n k).cells])) cX (e_ (e_ a_ ω) υ) ?_;rw[aT,if_neg op] at g1;simp only[go_sem,yy,p1,Γ,op,O,Δ,g1,aUF,g3];refine F.aBS (src:=[(k:Int)]) g2 (by simp[eR,cQ]) (by unfold roomFor; simp only[aTT,maxLen]; omega) (by simp) fun q H2 S=>?_;refine⟨e_ (e_ a_ (S.at 1 rfl)) (S.at 2 rfl),?_⟩
  try simp only[go_sem,Δ]
  refine bC .nil cX a_ ?_;obtain⟨rs2,j1,j2,j3,j4⟩:=S.aqT;have W:rs2[(dV n k).src]?=some [v]:=by
   have h5:=congrArg (fun l=>l[(dV n k).src]?) j3
   try simp only at h5
   rw[aWF,if_pos z1] at h5;rw[h5]; exact BE g2
  simp only[go_sem,yz,j1,aUF,W];refine⟨a_,?_⟩;generalize γ:ps.set (dV n k).src (.osl q 1 0 (w++[(k:Int)]).length,w++[(k:Int)])=K at *
  have β:K.length=n.nodes:=by rw[← γ,aVJ]; exact ζ
  have θ:xR n (fun s=>s.1<k∨s=(k,true)) (2*k+1) (wls K):=by have:=hO.add (s0:=(k,true)) z1;rw[show dR n (k,true)=(dV n k).src from rfl,I] at this;rw[← γ,vr];exact this
  generalize H2.set u (.rows 1 (rs2.set (dV n k).src [.osl q 1 0 (w++[(k:Int)]).length]))=H3 at *
  clear j1 j2 j3 W S g1 g2 g3 I Z;obtain⟨rs,v2,w2,g1,g2,g3⟩:=aaD j4 β z2;have I:(wls K).getD (dV n k).dst []=w2:=vq g2;have Z:=θ.few (dV n k).dst;rw[I] at Z;have δ:H3 j=some _:=j4.at 1 rfl;have χ:H3 p=some _:=j4.at 2 rfl;refine bC ((PH.nil.set j (sO n fo n.arcs.length (.osl u 1 0 n.nodes))).set p (.rows 4 [(dV n k).cells])) cX (e_ (e_ a_ δ) χ) ?_;simp only[go_sem,y6,p1,Γ,op,δ,χ,Θ,g1,aUF,g3,c'];refine j4.aBS (src:=[-1-(k:Int)]) g2 (by simp[eR,cQ]) (by unfold roomFor; simp only[aTT,maxLen]; omega) (by simp) fun q2 H4 h4=>?_;refine⟨e_ (e_ a_ (h4.at 1 rfl)) (h4.at 2 rfl),?_⟩
  try simp only[go_sem,Θ]
  refine bC .nil cX a_ ?_;obtain⟨rs2,i1,i2,i3,i4⟩:=h4.aqT;have W:rs2[(dV n k).dst]?=some [v2]:=by
   have h5:=congrArg (fun l=>l[(dV n k).dst]?) i3
   try simp only at h5
   rw[aWF,if_pos z2] at h5;rw[h5]; exact BE g2
  simp only[go_sem,kz,i1,aUF,W];refine⟨a_,?_⟩;simp only[go_sem,k6,b'];have U:xR n (fun s=>(s.1<k∨s=(k,true))∨s=(k,false)) (2*k+1+1) (wls (K.set (dV n k).dst (.osl q2 1 0 (w2++[-1-(k:Int)]).length,w2++[-1-(k:Int)]))):=by have:=θ.add (s0:=(k,false)) z2;rw[show dR n (k,false)=(dV n k).dst from rfl,I] at this;rw[vr];exact this
  refine aH ⟨k+1,K.set (dV n k).dst (.osl q2 1 0 (w2++[-1-(k:Int)]).length,w2++[-1-(k:Int)]),_⟩ ⟨hlt,by show (K.set _ _).length=_; rw[aVJ]; exact β,aM.dropLast (B:=aBN n j fo u) i4,⟨U.len,fun s hs=>U.all s ?_,fun v c E=>?_,fun v=>by have:=U.few v; show _≤2*(k+1); omega⟩⟩ (by show n.arcs.length-(k+1)<n.arcs.length-k; omega) Lq (fun _ _ h=>h)
  ·obtain⟨i,b⟩:=s;have hs:i<k+1:=hs;rcases aUE i k with c | c
   ·exact .inl (.inl c)
   ·have:i=k:=Om;subst this;cases b
    ·exact .inr rfl
    ·exact .inl (.inr rfl)
  ·obtain⟨s,h1,S,h3⟩:=U.only v c E;refine⟨s,?_,S,h3⟩;rcases h1 with (h1 | rfl) | rfl
   ·exact Nat.lt_succ_of_lt h1
   ·exact Nat.lt_succ_self _
   ·exact Nat.lt_succ_self _
 ·have M:¬ (k:Int)<(n.arcs.length:Nat):=Om;have a':k=n.arcs.length:=Om;subst a';have Ψ:Dz n (wls ps):=hO.ok J;have e':∀ q∈dP (hJ ps),¬ fo=q∧¬ u=q:=fun q hq=>by refine⟨hH.ndX (o:=fo) (by simp[eD]) (by show q∈u::dP (hJ ps); exact aWV _ hq),fun e=>?_⟩;have h5:(u::dP (hJ ps)).Nodup:=hH.ndL;exact (List.nodup_cons.1 h5).1 (e ▸ hq)
  obtain⟨φ,H1,y,ι,F,g',hz⟩:=cg ps [] [] .nil (show aM H _ ((.osl u 1 0 n.nodes,1,[]++dS ps)::hJ ps) from hH) (fun b hb q hq s rs=>by
   obtain⟨q1,q2⟩:=e' q hq;rcases aTW.1 hb with rfl | hb
   ·exact AV (Flat.map _ fun x c E q s rs=>by rw[aUY] at E; subst E; rfl) 1
   ·rw[aUY] at hb;subst hb;simp[bO.frz,PV.cH,q1,q2])
  rw[aWP] at ι;obtain⟨rs,y1,y2,y3,y4,y5⟩:=F.frz 0 rfl;have of:¬ fo=u:=fun e=>by have:=hH.ndX (o:=fo) (q:=u) (by simp[eD]) (by simp[dP,pQ,PV.oid]);exact this e
  have Ξ:bO.frz u 1 rs (.rows 1 (gS (aTK n.arcs.length 0)))=.rows 1 (gS (aTK n.arcs.length 0)):=AV (Flat.map _ fun x c E q s rs=>by rw[aUY] at E; subst E; rfl) 1;have Φ:bO.frz u 1 rs (sO n fo n.arcs.length (.osl u 1 0 n.nodes))=sO n fo n.arcs.length (kB y):=by show bO.rows 6 [[_,_,_,_,PV.cH u 1 rs (.osl fo 1 0 n.arcs.length),PV.cH u 1 rs (.osl u 1 0 n.nodes)]]=_;rw[y2];simp[PV.cH,of]
  have h':(H1.frz u 1 rs) fo=some (.rows 1 (gS (aTK n.arcs.length 0))):=by have:=y5.at 0 rfl; rw[Ξ] at this; exact this
  have i':(H1.frz u 1 rs) j=some (sO n fo n.arcs.length (kB y)):=by have:=y5.at 1 rfl; rw[Φ] at this; exact this
  simp only[go_sem,M,k7];refine U3 ((hz _).trans (.step u y1 (.refl _ _))) ?_;refine wp_loop (α:=List Nat) (fun xs=>(((PF.nil.set 1 (.bN n.cells)).set 6 (.ptr j 6 0 0)).set 9 (.int .i64 (jB n xs)))) (fun xs=>sH n j fo xs (kB y)) (fun xs=>gP n xs∧0≤jB n xs) (fun xs=>(atD n-jB n xs).toNat) (aTK n.arcs.length 0) ⟨(PR n).1,by rw[(PR n).2]; decide⟩
   (d_ (d_ (d_ c_ (akY g' Sq (Fx.bN _))) (akY g' Sq (Fx.ptr _ _ _ _))) (akY g' (by simp only[go_sem,(PR n).2]) (Fx.int _ _))) (e_ (e_ a_ (by rw[aXI]; exact i')) h') ?_
  rintro xs ⟨hF,p'⟩;have hx:=hF.in;have q':=hF.len;simp only[go_sem,ky,lf];refine eO (X n j fo xs y (wls ps) J V hx ι Ψ) Ev (fun _ _ h=>h) ?_;rintro r H' ⟨Q,way,hS,hD,rfl,rfl⟩ -;rw[PH.over_self _ (fun _ _ h=>h)];have N:=jM (R:=seL n Q) (i:=n.sink) (by rw[uz]; exact J.sink);rw[acA J.sink] at N;have ρ:¬ fo=j:=fun e=>V e.symm;cases E:Q.contains n.sink with
  | false =>
   rw[E] at N;simp only[go_sem,KK,N,lg,V,ρ];have σ:n.sink ∉ Q:=fun h=>by rw[List.contains_iff_mem.2 h] at E; cases E
   refine oH (vs:=[.osl fo 1 0 xs.length,.int .i64 (jB n xs),.sl 1 (bK (seL n Q)),.int .i64 0]) (.inr rfl) Ev ?_;refine oR.step (q:=fo) (s:=1) (rs:=gS xs) (by rw[cL]) ?_;have ev:PV.frz fo 1 (gS xs) (bQ [.osl fo 1 0 xs.length,.int .i64 (jB n xs),.sl 1 (bK (seL n Q)),.int .i64 0])=.tup [.sl 1 (gS xs),.int .i64 (jB n xs),.sl 1 (bK (seL n Q)),.int .i64 0]:=by have hT:(gS xs).take xs.length=gS xs:=aUB (by rw[aTJ]; exact aTO _);simp[bQ,PV.frz,PV.qC,PV.cH,hT]
   rw[ev];refine oR.done (H2:=.nil) ⟨xs,fun v=>Q.contains v,hF,ayP J hF hS hD σ,?_,E,rfl,rfl⟩ a_;obtain⟨t,ht⟩:=hS.first;rw[ht]; simp
  | true =>
   rw[E] at N;have ψ:n.sink∈Q:=List.contains_iff_mem.1 E;simp only[go_sem,KK,N,lh];refine eO (κ n j fo xs (kB y) Q way J V hF hS ψ) Ev (fun _ _ h=>h) ?_;rintro r H' ⟨ys,Λ,ha,η,hv,rfl,rfl⟩ l';have d':(sH n j fo xs (kB y)).over (sH n j fo xs (kB y)) (sH n j fo ys (kB y))=sH n j fo ys (kB y):=PH.ext fun o=>by
    show (match (sH n j fo ys (kB y)) o with | some x=>some x | none=>match (sH n j fo xs (kB y)) o with | some _=>some .dead | none=>(sH n j fo xs (kB y)) o)=(sH n j fo ys (kB y)) o;have e1:∀ (zs:List Nat),¬ o=fo→¬ o=j→(sH n j fo zs (kB y)) o=none:=fun zs h1 S=>by rw[aT,if_neg h1,aT,if_neg S]; rfl
    by_cases c1:o=fo
    ·subst c1; rw[cL]
    ·by_cases c2:o=j
     ·subst c2; rw[aT,if_neg c1,cL]
     ·rw[e1 ys c1 c2,e1 xs c1 c2]
   rw[d'];have m':=aAD J η;have n':=aCF J;have f':IntKind.i64.wrap (jB n xs+((Λ:Nat):Int))=jB n ys:=by rw[wrap_i64 Om Om,hv]
   simp only[go_sem,f'];exact aH ys ⟨η,by omega⟩ Om Lq (fun _ _ h=>h)
def oG (f:aD) (l:List bF) (xs:List Nat) (k:Nat):List (List Int):=(aTI f.aRW.length).map fun v=>kN f v (l.take k) (xs.take k)
theorem avQ (f:aD) (l:List bF) (xs:List Nat) (k:Nat):(oG f l xs k).length=f.aRW.length:=by simp[oG]
theorem anV (f:aD) (l:List bF) (xs:List Nat):oG f l xs 0=aTK f.aRW.length []:=by
 refine List.ext_getElem (by simp[oG]) fun i e j=>?_;simp[oG,kN]
theorem avP {f:aD} {l:List bF} {xs:List Nat} (h:xs.length=l.length):oG f l xs l.length=s8 f l xs:=by
 unfold oG s8;rw[aUS,aUB Om]
theorem LN (f:aD) (v:Nat) {l:List bF} {xs:List Nat} (u:xs.length=l.length) {k:Nat} (j:k<l.length):kN f v (l.take (k+1)) (xs.take (k+1))=kN f v (l.take k) (xs.take k)++uK f v l[k] (xs.getD k 0):=by
 have e:k<xs.length:=Om;rw[aVS j,aVS e,qI f v _ _ (by rw[aUA,aUA,u])];rw[show xs.getD k 0=xs[k] by simp[aTR,e]];simp[kN]
theorem anU {f:aD} {l:List bF} {xs:List Nat} (j:xs.length=l.length) {k:Nat} (e:k<l.length) (h:l[k].dst<bL f 0∨xs.getD k 0=0):oG f l xs (k+1)=oG f l xs k:=by
 unfold oG;refine aVN fun v _=>?_;rw[LN f v j e];have:uK f v l[k] (xs.getD k 0)=[]:=by
  unfold uK SC;rcases h with h | h
  ·rw[decide_eq_false Om]; rfl
  ·rw[h]; simp
 rw[this,aVC]
theorem avR {f:aD} {l:List bF} {xs:List Nat} (u:xs.length=l.length) {k:Nat} (j:k<l.length) (w:bL f 0≤l[k].dst) (x:xs.getD k 0≠0) (B:zG f l[k]<f.aRW.length) :
  (oG f l xs k).set (zG f l[k]) ((oG f l xs k).getD (zG f l[k]) []++[((l[k].dst-bL f 0:Nat):Int)])=oG f l xs (k+1):=by
 have y:(oG f l xs k).getD (zG f l[k]) []=kN f (zG f l[k]) (l.take k) (xs.take k):=by unfold oG;rw[aTR,aUG,aWL B]; rfl
 rw[y];unfold oG;refine rW _ _ _ _ _ ?_ fun v A=>?_
 ·rw[LN f _ u j];unfold uK SC;rw[decide_eq_true w,decide_eq_true x,decide_eq_true rfl]; rfl
 ·rw[LN f _ u j];unfold uK SC;rw[decide_eq_false (show ¬ zG f l[k]=v from fun e=>A e.symm),aUU,aUU];simp
theorem aBY {f:aD} (hV:VF f) {room:List Int} {a:bF} (ha:a∈fR f room) (h:bL f 0≤a.dst):∃ v d,v<f.aRW.length∧d<f.aRU.length∧a=dZ f v d:=by
 unfold fR at ha;rcases aUR.1 ha with ha | ha
 ·obtain⟨v,e,ha⟩:=List.mem_flatMap.1 ha;have e:=aUD.1 e;unfold eN at ha;rcases aTW.1 ha with rfl | ha
  ·have:=(iJ hV e hV.root.1).2;simp only[cP,if_true] at this;simp only at h;omega
  ·rcases aUR.1 ha with ha | ha
   ·obtain⟨i,hi,rfl⟩:=aUK.1 ha;have:=aUD.1 hi;have:=(iJ (i:=i+1) hV e Om).2;simp only[iR] at h;omega
   ·obtain⟨d,j,rfl⟩:=aUK.1 ha;exact⟨v,d,e,aUD.1 (aWW.1 j).1,rfl⟩
 ·obtain⟨d,j,rfl⟩:=aUK.1 ha;simp only[lF,bL] at h;omega
theorem La {f:aD} (hV:VF f) {d:Nat} (u:d<f.aRU.length):0<eU f d∧eU f d<f.aRX.length:=by
 have j:=hV.drive d u;refine⟨?_,j.2.2.2.1⟩;rcases aVP (eU f d) with e | e
 ·have l:=j.2.2.2.2;rw[e,hV.root.2.1] at l;omega
 ·exact e
theorem aGT {f:aD} (hV:VF f) {v d:Nat} (e:d<f.aRU.length):2+f.aRW.length≤(dZ f v d).src:=by
 have:=La hV e;simp only[dZ,cP];rw[if_neg Om];omega
theorem aM.aOR {H:PH} {B:List BX} {L:List LI} {o s:Nat} {rows:List (List PV)} (h:aM H ((o,.rows s rows)::B) L):aM H B ((.osl o s 0 rows.length,s,rows)::L):=by
 refine⟨fun b hb=>h.box b (aWV _ hb),fun x hx=>?_,?_⟩
 ·rcases aTW.1 hx with rfl | hx
  ·exact .inr ⟨o,rows,rfl,h.box _ (List.mem_cons_self ..),aTO _,aUS⟩
  ·exact h.lst x hx
 ·have e:dP ((.osl o s 0 rows.length,s,rows)::L)=o::dP L:=rfl;rw[e];exact (List.perm_middle.nodup_iff).2 h.nd
theorem aM.aMO {H:PH} {B:List BX} (h:aM H B []) (N:Nat):aM H B (hJ (aTK N ((.aB,[]):PV × List Int))):=by
 have j:=h.ajB N;have e:hJ (aTK N ((.aB,[]):PV × List Int))=[]++aTK N (.aB,1,[]):=by unfold hJ;rw[List.map_replicate]; rfl
 rw[e]; exact j
theorem Ax {res:List dY} {R A:PV→PH→Prop} {e:kT} {F:PF} {H:PH} (B:∀ r H',R r H'→A r H') (h:aR res R e F H):aR res A e F H:=by
 cases e with
 | exit=>exact h
 | normal =>obtain⟨vs,u,j,l,H2,w,x,v,y,h5⟩:=h;exact⟨vs,u,j,l,H2,w,x,v,y,B _ _ h5⟩
 | ret =>obtain⟨vs,u,j,l,H2,w,x,v,y,h5⟩:=h;exact⟨vs,u,j,l,H2,w,x,v,y,B _ _ h5⟩
def GH (f:aD) (room:List Int) (ws:List (List Int)) (c:Int):Prop :=
 (dA f=false∧ws=[]∧c=1)∨(dA f=true∧(∃ u,tL f room u∧ws=sK f u)∧c=0)∨(dA f=true∧¬ AI f room∧ws=[]∧c=12)
def Ep (f:aD) (room:List Int) (r:PV) (H:PH):Prop:=∃ ws c,GH f room ws c∧cB (.tup [lists ws,.int .i64 c]) r H
def amA (f:aD) (room:List Int) (r:PV) (H:PH):Prop:=∃ ws c,GH f room ws c∧r=.tup [lists ws,.int .i64 c]∧H=PH.nil
theorem aG.place {C:Ctx} {name:Nat} {args:List PV} {f:aD} {room:List Int} (h:aG C name args .nil (Ep f room)):aG C name args .nil (amA f room) :=
 h.post fun r H' ⟨ws,c,e,j,l⟩=>⟨_,j,ws,c,e,rfl,l⟩
structure OR (C:Ctx):Prop extends mF C where
 net:∀ (f:aD) (room:List Int),f.Ok→aG C 286 [.agg f.cells,ints room] .nil (aI (uF f room))
 solve:∀ n:cJ,fU n→aG C 298 [.agg n.cells] .nil (Eu n)
 demand:∀ f:aD,VF f→aG C 287 [.agg f.cells] .nil (aI (.int .i64 ((nY f:Nat):Int)))
theorem Pp (f:aD) (v:Nat):∀ (l:List bF) (xs:List Nat),(kN f v l xs).length≤l.length
 | [],_=>by simp[kN]
 | _::_,[]=>by simp[kN]
 | a::l,x::xs=>by
  have e:=Pp f v l xs;have j:(uK f v a x).length≤1:=by unfold uK; split<;>simp
  rw[kN,aTM,aVA];omega
def plF (f:aD) (n:cJ) (xs:List Nat) (e j k:Nat):PF:=((((((PF.nil.set 8 (.sl 1 (gS xs))).set 12 (.ptr e 2 0 0)).set 13 (.osl j 1 0 f.aRW.length)).set 49 (rk n.arcs)).set 50 (.int .i64 (n.arcs.length:Nat))).set 51 (.int .i64 (k:Nat)))
theorem Ub {C:Ctx} (Lb:OR C) {K:cE} [Up K] (f:aD) (hV:VF f) (room:List Int) (xs:List Nat) (hx:tN (eE f room) xs) (e I:Nat) {F:PF} {H:PH}
  (hH:aM H [(I,.rows 1 (dS (aTK f.aRW.length (.aB,[])))),(e,fI f)] (hJ (aTK f.aRW.length (.aB,[])))) (hF:(plF f (eE f room) xs e I 0).le F)
  (hK:∀ ps H',aM H' [(e,fI f)] (pQ (.osl I 1 0 f.aRW.length) ps)→wls ps=s8 f (fR f room) xs→K (.exit 0) ((PF.nil.set 13 (.osl I 1 0 f.aRW.length))) H'):aC.wp C (.loop II) K F H:=by
 have hs:=hV.small;have hr:=hV.root;have hn:=GZ hV room;have hm:=hn.num;have ρ:=hn.few;have Y:xs.length=(fR f room).length:=hx.len;refine wp_loop (α:=Nat × WPs × PH) (fun s=>plF f (eE f room) xs e I s.1) (fun s=>s.2.2) (fun s=>s.1≤(eE f room).arcs.length∧wls s.2.1=oG f (fR f room) xs s.1∧aM s.2.2 [(I,.rows 1 (dS s.2.1)),(e,fI f)] (hJ s.2.1)) (fun s=>(eE f room).arcs.length-s.1) (0,aTK f.aRW.length (.aB,[]),H) ⟨aTQ _,?_,hH⟩ hF b_ ?_
 ·rw[anV];unfold wls;simp only[List.map_replicate]
 rintro⟨k,ps,H0⟩ ⟨hk,j,hH⟩;simp only at hk j hH;have ξ:ps.length=f.aRW.length:=by have:=congrArg List.length j;rw[avQ] at this;unfold wls at this;rw[aTJ] at this;exact this
 simp only[go_sem,II,i0,plF];by_cases hlt:k<(eE f room).arcs.length
 ·have J:(k:Int)<((eE f room).arcs.length:Nat):=Om;have V:=wZz k;have U:k<(fR f room).length:=hlt;have μ:k<xs.length:=Om;have γ:=vE hlt;have ι:dV (eE f room) k=(fR f room)[k]:=(sV hlt).symm;rw[ι] at γ;have κ:=aTN U;obtain⟨z1,z2,z3⟩:=hn.ends _ (aTN hlt);have z1:((fR f room)[k]).src<(eE f room).nodes:=z1;have z2:((fR f room)[k]).dst<(eE f room).nodes:=z2;have τ:bL f 0≤(eE f room).nodes:=by show bL f 0≤bL f f.aRU.length; unfold bL; omega
  have W:=anU (f:=f) (l:=fR f room) (xs:=xs) Y U;have A:=avR (f:=f) (l:=fR f room) (xs:=xs) Y U;have δ:=aBY hV (room:=room) κ;generalize (fR f room)[k]=a at *
  simp only[go_sem,J,i5,γ];refine hH.vG fun q H1 h1=>?_;have q1:=h1.mG;have O:=h1.rG (.rows 4 [a.cells]);simp only[go_sem,q1];generalize H1.set q (.rows 4 [[.int .i64 a.src,.int .i64 a.dst,.int .i64 a.cap,.int .i64 0]])=H2 at *
  have E:H2 q=some (.rows 4 [a.cells]):=O.mG;have N:H2 e=some (fI f):=O.at 1 rfl;have β:H2 I=some (.rows 1 (dS ps)):=O.at 0 rfl;have S:(a.dst<bL f 0∨xs.getD k 0=0)→fN (fun s:Nat × WPs × PH=>plF f (eE f room) xs e I s.1) (fun s=>s.2.2) (fun s=>s.1≤(eE f room).arcs.length∧wls s.2.1=oG f (fR f room) xs s.1∧aM s.2.2 [(I,.rows 1 (dS s.2.1)),(e,fI f)] (hJ s.2.1)) (fun s=>(eE f room).arcs.length-s.1) ((eE f room).arcs.length-k) K .normal (plF f (eE f room) xs e I (k+1)) H2:=fun h =>
   aH (k+1,ps,H2) ⟨hlt,by rw[W h]; exact j,aM.dropLast (B:=[(I,.rows 1 (dS ps)),(e,fI f)]) O⟩ (by simp only; omega) (fun _ _ h=>h) b_
  refine bC (PH.nil.set q (.rows 4 [a.cells])) (AN f [] (fun _ _=>True)) (e_ a_ E) ?_;by_cases c1:a.dst<bL f 0
  ·have M:(a.dst:Int)<((bL f 0:Nat):Int):=Om;simp only[go_sem,IJ,N];refine AQ Lb.tomF hs (i:=0) (by decide) (by simp only[go_sem]; rfl) (e_ a_ E) ?_;simp only[go_sem,M,yH,V];exact Up.up (by unfold plF; exact Lq) (S (.inl c1))
  ·have M:¬ (a.dst:Int)<((bL f 0:Nat):Int):=Om;simp only[go_sem,IJ,N];refine AQ Lb.tomF hs (i:=0) (by decide) (by simp only[go_sem]; rfl) (e_ a_ E) ?_;have θ:=BH μ;by_cases c2:xs.getD k 0=0
   ·simp only[go_sem,M,θ,bP (Om:((xs.getD k 0:Nat):Int)=0),yH,V];exact Up.up (by unfold plF; exact Lq) (S (.inr c2))
   ·obtain⟨v,d,hv,hd,rfl⟩:=δ Om;have X:=Sp hV (v:=v) hd;have A:=A Om c2 (by rw[X]; exact hv);rw[X] at A;have σ:=aGT hV (v:=v) hd;have υ:=La hV hd;have φ:=hs.aRX;have χ:=hs.aRW;have w1:IntKind.i64.wrap (((dZ f v d).src:Int)-2)=(((dZ f v d).src-2:Nat):Int):=by rw[wrap_i64 Om Om]; omega
    have w2:IntKind.i64.wrap ((((dZ f v d).src-2:Nat):Int)-(f.aRW.length:Nat))=(((dZ f v d).src-2-f.aRW.length:Nat):Int):=by rw[wrap_i64 Om Om]; omega
    have w3:IntKind.i64.wrap ((f.aRX.length:Int)-1)=((f.aRX.length-1:Nat):Int):=by rw[wrap_i64 Om Om]; omega
    have w4:¬ ((f.aRX.length-1:Nat):Int)=0:=Om;have w5:Int.tdiv (((dZ f v d).src-2-f.aRW.length:Nat):Int) ((f.aRX.length-1:Nat):Int)=((v:Nat):Int):=by exact (Int.ofNat_tdiv _ _).symm.trans (congrArg (fun x:Nat=>(x:Int)) X)
    have w6:IntKind.i64.wrap ((v:Nat):Int)=((v:Nat):Int):=wrap_i64 Om Om;have w7:IntKind.i64.wrap (((dZ f v d).dst:Int)-((bL f 0:Nat):Int))=(d:Int):=by
     have:(dZ f v d).dst=bL f 0+d:=by simp only[dZ,bL]; omega
     rw[wrap_i64 Om Om,this]; omega
    simp only[go_sem,M,θ,bE (Om:¬ ((xs.getD k 0:Nat):Int)=0),i6,E,N,w1,w2,w3,w4,w5,w6];have ζ:v<ps.length:=Om;obtain⟨u,w,R⟩:∃ u w,ps[v]?=some (u,w):=⟨(ps[v]).1,(ps[v]).2,aTP ζ⟩;have η:(wls ps).getD v []=w:=vq R;have ε:(v:Int)<(f.aRW.length:Nat):=Om;have ο:¬ I=q:=O.ne 0 2 rfl rfl (by decide);obtain⟨Hs,s1,s2,Z⟩:=jj (x:=.rows 1 (dS ps)) (y:=.rows 4 [(dZ f v d).cells]) ο;refine bC Hs (AN f [] (fun _ _=>True)) (Z _ β E) ?_;simp only[go_sem,i7,N,ε,s1,s2,aUF,BE R];refine AQ Lb.tomF hs (i:=0) (by decide) (by simp only[go_sem]; rfl) (Z _ β E) ?_;simp only[go_sem,w7];have ω:w.length≤k:=by
     have h9:w=(oG f (fR f room) xs k).getD v []:=by rw[← j,η]
     rw[h9];unfold oG;rw[aTR,aUG,aWL hv];exact aWI (Pp f v _ _) (by rw[aUA]; omega)
    refine O.append v (GQ R) (src:=cQ [(d:Int)]) rfl (by unfold roomFor; rw[hY,hY]; simp only[aTT,maxLen]; omega) fun u' H3 h3 hu=>?_;obtain⟨q',rfl⟩:=hu (by simp[cQ]);rw[← QH] at h3 ⊢;refine⟨Z _ (h3.at 0 rfl) (h3.at 2 rfl),?_⟩;simp only[go_sem,ε];refine bC .nil cX a_ ?_;have e3:=h3.at 0 rfl;have ν:v<(dS ps).length:=by rw[RZ]; exact ζ
    simp only[go_sem,i8,e3,aUF,BE R,ν];refine⟨a_,?_⟩;simp only[go_sem,yH,V];have h4:=h3.set 0 rfl (.rows 1 ((dS ps).set v [.osl q' 1 0 (cQ (w++[(d:Int)])).length]));generalize ψ:PV.osl q' 1 0 (cQ (w++[(d:Int)])).length=u' at *
    refine aH (k+1,ps.set v (u',w++[(d:Int)]),_) ⟨hlt,?_,?_⟩ (by simp only; omega) Lq b_
    ·simp only;rw[vr,← A,j,← η,j];have:((dZ f v d).dst-bL f 0:Nat)=d:=by simp only[dZ,bL]; omega
     rw[this]
    ·simp only;have e5:dS (ps.set v (u',w++[(d:Int)]))=(dS ps).set v [u']:=List.map_set ..;have e6:hJ (ps.set v (u',w++[(d:Int)]))=(hJ ps).set v (u',1,cQ (w++[(d:Int)])):=List.map_set ..;rw[e5,e6];exact aM.dropLast (B:=[(I,.rows 1 ((dS ps).set v [u'])),(e,fI f)]) h4
 ·have J:¬ (k:Int)<((eE f room).arcs.length:Nat):=Om;have:k=(eE f room).arcs.length:=Om;subst this;simp only[go_sem,J];have O:=hH.aOR;rw[RZ,ξ] at O;refine Up.up Lq (hK ps H0 O ?_);rw[j];exact avP Y
theorem Oq {res:List dY} {f:aD} {room:List Int} {ws:List (List Int)} {c:Int} {e:kT} {F:PF} {H:PH} (j:GH f room ws c) (h:aR res (cB (.tup [lists ws,.int .i64 c])) e F H):aR res (Ep f room) e F H :=
 Ax (fun r H' l=>⟨ws,c,j,l⟩) h
theorem mw {f:aD} (hV:VF f) {room:List Int} {xs:List Nat} {S:Nat→Bool} (u:gP (eE f room) xs) (e:jB (eE f room) xs=dO S (eE f room).arcs) (j:S (eE f room).source=true) (l:S (eE f room).sink=false):¬ jB (eE f room) xs<(nY f:Int)↔AI f room:=by
 rw[Int.not_lt];exact wb hV u j l e
theorem amV {f:aD} (hV:VF f) {room:List Int} {xs:List Nat} (e:gP (eE f room) xs) (h:¬ jB (eE f room) xs<(nY f:Int)):∃ u,tL f room u∧s8 f (fR f room) xs=sK f u:=by
 obtain⟨s,g,j,t,rfl⟩:=ir f room e.len;exact⟨lH f j,Gg hV e (Int.not_lt.1 h),avS hV room s g j t⟩
theorem anB {C:Ctx} (x:OR C) (f:aD) (hf:f.Ok) (room:List Int) :
  DP.wp C (aR G9.res (Ep f room)) (PF.args [.agg f.cells,ints room]) .nil:=by
 simp only[go_sem,DP,we,G9,wg];refine aA (x.net f room hf) Sq ?_;simp only[go_sem,uF];refine aO fun q hq=>?_;have R:aM (PH.nil.set q fX) [(q,fX)] []:=aM.nil.new hq fX;generalize (PH.nil.set q fX)=Y at *
 have q1:=R.at 0 rfl;have l:=R.set 0 rfl (pR (vQ f room));simp only[go_sem,q1];generalize Y.set q (.rows 4 [(vQ f room).cells])=H2 at *
 have X:=l.at 0 rfl;cases e:dA f with
 | false =>simp only[go_sem,PU,GY e,wh];refine Oq (ws:=[]) (c:=1) (.inl ⟨e,rfl,rfl⟩) ?_;exact SH (.inr rfl) Sq (aM.aBQ (l.wI 0))
 | true =>
  have hV:=VF.of e;have W:=hV.small;have hn:=GZ hV room;have E:(f.aRW.length:Int)*((24:Nat):Int)≤140737488355328:=by have:=W.aRW; omega
  have F:(f.aRW.length:Int)≤9223372036854775807:=by have:=W.aRW; omega
  have I:(0:Int)≤(f.aRW.length:Int):=Om;rw[AC e] at X l;simp only[go_sem,PU,tA e,wi,X];refine eO (x.solve _ hn) Sq a_ ?_;rintro r H' ⟨xs,S,y,w,A,B,rfl,rfl⟩ -;rw[PH.nJ];have J:=mw hV y w A B;simp only[go_sem,wj];refine aA (x.demand f hV) Sq ?_;by_cases hlt:jB (eE f room) xs<((nY f:Nat):Int)
  ·simp only[go_sem,hlt,wk];refine Oq (ws:=[]) (c:=12) (.inr (.inr ⟨e,fun h=>J.2 h hlt,rfl,rfl⟩)) ?_;exact SH (.inr rfl) Sq (aM.aBQ (l.wI 0))
  ·obtain⟨u,hA,K⟩:=amV hV y hlt;simp only[go_sem,hlt,wm,aTJ];refine l.vG fun j Z U=>?_;have g3:=U.at 1 rfl;have h4:=U.set 1 rfl (fI f);simp only[go_sem,g3];generalize Z.set j (.rows 2 [[.int .i64 (f.aRW.length:Nat),.int .i64 (f.aRX.length:Nat)]])=H4 at *
   simp only[go_sem,wn,aTJ,E,F,I,Int.le_refl,aWN];refine aO fun N M=>?_;have h5:=h4.new M (.rows 1 (aTK f.aRW.length [.aB]));generalize H4.set N (.rows 1 (aTK f.aRW.length [.aB]))=O at *
   have V:aM O [(N,.rows 1 (aTK f.aRW.length [.aB])),(j,fI f),(q,pR (eE f room))] []:=by refine h5.perm ?_ (aVX.refl _);exact (List.reverse_perm _).symm
   have q5:=V.at 2 rfl;have eo:dS (aTK f.aRW.length ((.aB,[]):PV × List Int))=aTK f.aRW.length [.aB]:=by unfold dS; rw[List.map_replicate]
   simp only[go_sem,wq,q5];refine Ub x f hV room xs y.in j N (H:=O) (by rw[eo]; exact (V.wI 2).aMO _) (by unfold plF; (repeat' (first|exact c_|refine d_ ?_ ?_))<;>first|(simp only[go_sem,aTJ]<;>rfl)|rfl) fun ps H6 h7 hw=>?_;simp only[go_sem,i9];refine Oq (ws:=wls ps) (c:=0) (.inr (.inl ⟨e,⟨u,hA,by rw[hw,K]⟩,rfl⟩)) ?_;exact SH (.inr rfl) Sq (h7.wI 0)
theorem aM.ahK:∀ (L:List LI) {H:PH} {B:List BX},aM H B L→(∀ x∈L,Flat x.2.2)→(∀ b∈B,∀ q s rs,bO.frz q s rs b.2=b.2) →
  ∃ (φ:PV→PV) (y:PH),(∀ x∈L,Seen x.2.1 (φ x.1) x.2.2)∧(∀ u,u.oid=none→φ u=u)∧aM y B []∧∀ cs (b:Bool) R,oR (.tup [.agg (cs.map φ),.bool b]) y R→oR (.tup [.agg cs,.bool b]) H R
 | [],H,B,h,_,_=>⟨id,H,by simp,fun _ _=>rfl,h,fun cs b R F=>by rwa [List.map_id] at F⟩
 | (w,s,rows)::L,H,B,h,E,hB=>by
  have l:∀ q z rs,(L.map fun x=>(x.1,x.2.1,x.2.2.map fun r=>r.map (PV.cH q z rs)))=L:=fun q z rs=>by
   conv=>rhs; rw[← List.map_id L]
   refine aVN fun x hx=>?_;rw[E x (by simp[hx]) q z rs]; rfl
  rcases h.own 0 rfl with ⟨A,O⟩ | ⟨q,rs,A,_⟩
  ·obtain⟨φ,y,k1,k2,I,J⟩:=aM.ahK L (h.ik 0) (fun x hx=>E x (by simp[hx])) hB;refine⟨φ,y,fun x hx=>?_,k2,I,J⟩;rw[aTW] at hx;rcases hx with rfl | hx
   ·exact .inl ⟨A,by simp only; rw[O]; exact k2 _ rfl⟩
   ·exact k1 x hx
  ·subst A;obtain⟨rs,U,V,Y,W,M⟩:=h.frz 0 rfl;have X:aM (H.frz q s rs) B L:=by
    have N:(B.map fun b=>(b.1,b.2.frz q s rs))=B:=by
     conv=>rhs; rw[← List.map_id B]
     refine aVN fun b hb=>?_;rw[hB b hb q s rs]; rfl
    rw[N] at M;have:=M;simp only[List.eraseIdx_cons_zero] at this
    rwa [l q s rs] at this
   obtain⟨φ,y,k1,k2,I,J⟩:=aM.ahK L X (fun x hx=>E x (by simp[hx])) hB;refine⟨fun u=>φ (PV.cH q s rs u),y,fun x hx=>?_,fun u K=>?_,I,fun cs b R F=>?_⟩
   ·rw[aTW] at hx;rcases hx with rfl | hx
    ·simp only;rw[V];exact .inr (k2 _ rfl)
    ·obtain⟨j,S⟩:=List.mem_iff_getElem?.1 hx;have:=W (j+1) x Om (by simpa using S);simp only;rw[this];exact k1 x hx
   ·simp only;rw[IL K,k2 u K]
   ·refine .step U ?_;have e:PV.frz q s rs (.tup [.agg cs,.bool b])=.tup [.agg (cs.map (PV.cH q s rs)),.bool b]:=rfl;rw[e];refine J _ b R ?_;rw[aWO];exact F
def pB (e:List (List PV)) (ws:List (List Bool)):Prop:=e.length=ws.length∧∀ (i:Nat) r w,e[i]?=some r→ws[i]?=some w→r=[lD w]∨(r=[.aB]∧w=[])
theorem pB.nil:pB [] []:=⟨rfl,fun i r w h=>by cases h⟩
theorem pB.snoc {l:List (List PV)} {ws:List (List Bool)} {u:PV} {w:List Bool} (h:pB l ws) (y:u=lD w∨(u=.aB∧w=[])):pB (l++[[u]]) (ws++[w]):=by
 refine⟨by simp[h.1],fun i r x e j=>?_⟩;rcases Nat.lt_trichotomy i l.length with c | c | c
 ·rw[aVI c] at e;rw[aVI (by rw[← h.1]; exact c)] at j;exact h.2 i r x e j
 ·subst c;rw[aVG (aTO _),Nat.sub_self] at e;rw[h.1,aVG (aTO _),Nat.sub_self] at j;cases e; cases j;rcases y with rfl | ⟨rfl,rfl⟩
  ·exact .inl rfl
  ·exact .inr ⟨rfl,rfl⟩
 ·rw[aVG Om,aUW (by simp; omega)] at e;cases e
theorem pB.flat {j:List (List PV)} {ws:List (List Bool)} (h:pB j ws):Flat j:=Flat.of fun r u c e q s rs=>by
 obtain⟨i,hi⟩:=List.mem_iff_getElem?.1 u;have l:=(aUN.1 hi).1;rcases h.2 i r _ hi (aTP (by rw[← h.1]; exact l)) with rfl | ⟨rfl,-⟩
 ·rw[aUY] at e; subst e; rfl
 ·rw[aUY] at e; subst e; rfl
abbrev gw (ws:List (List Bool)):PV:=.sl 1 (ws.map fun w=>[lD w])
theorem pB.co {y:List (List PV)} {ws:List (List Bool)} (h:pB y ws):Co (.sl 1 y) (gw ws):=by
 have x:∀ (i:Nat) r t,y[i]?=some r→(ws.map fun w=>[lD w])[i]?=some t→∃ w,t=[lD w]∧(r=[lD w]∨(r=[.aB]∧w=[])):=fun i r t u e=>by
  rw[aUG] at e;cases B:ws[i]? with
  | none=>rw[B] at e; cases e
  | some w =>rw[B] at e;cases e;exact⟨w,rfl,h.2 i r w u B⟩
 refine .sl (by rw[aTJ,h.1]) (fun i r t u e=>?_) (fun i j p q l hq=>?_)
 ·obtain⟨w,rfl,A | ⟨A,-⟩⟩:=x i r t u e<;>subst A<;>rfl
 ·unfold at2 at l hq;cases u:y[i]? with
  | none=>rw[u] at l; cases l
  | some r =>
   cases e:(ws.map fun w=>[lD w])[i]? with
   | none=>rw[e] at hq; cases hq
   | some t =>
    rw[u] at l;rw[e] at hq;obtain⟨w,rfl,A⟩:=x i r t u e;rcases A with rfl | ⟨rfl,rfl⟩
    ·have:some p=some q:=l.symm.trans hq;cases this;exact .refl _
    ·cases j with
     | zero=>cases l; cases hq; exact .nil 1
     | succ j=>cases l
abbrev fS.cells (c:fS):List PV:=[lD c.vols,gw c.aSE,lD c.aSO]
theorem HQ (l:List Bool):Flat (bK l):=Flat.map l fun x c e q s rs=>by rw[aUY] at e; subst e; rfl
theorem Pm {res:List dY} {F:PF} {H:PH} {y u w:PV} {V R:List Bool} {A:List (List PV)} {ws:List (List Bool)} {b:Bool} {e:kT} (he:e=.normal∨e=.ret) (h:dY.evs F H res=some [.agg [y,u,w],.bool b])
  (B:pB A ws) (N:aM H [] [(y,1,bK V),(u,1,A),(w,1,bK R)]):aR res (cB (.tup [.agg (fS.cells ⟨V,ws,R⟩),.bool b])) e F H:=by
 obtain⟨φ,S,k1,-,-,O⟩:=aM.ahK _ N (fun x I=>by
  simp only[aTW,aUJ,or_false] at I;rcases I with rfl | rfl | rfl
  ·exact HQ V
  ·exact B.flat
  ·exact HQ R) (fun b hb=>by cases hb)
 refine oH he h ?_;refine O [y,u,w] b _ (.done (H2:=.nil) ⟨?_,rfl⟩ a_);have J:=(k1 (y,1,bK V) (by simp)).co;have K:Co (φ u) (gw ws):=by
  rcases k1 (u,1,A) (by simp) with ⟨E,h2⟩ | h2
  ·simp only at E h2;rw[h2];have:ws=[]:=List.length_eq_zero_iff.1 (by rw[← B.1,E]; rfl);subst this;exact .nil 1
  ·simp only at h2;rw[h2]; exact B.co
 have M:=(k1 (w,1,bK R) (by simp)).co;refine .tup rfl fun j p q l hq=>?_
 match j with
 | 0 =>
  cases l; cases hq;refine .agg rfl fun j p q l hq=>?_
  match j with
  | 0=>cases l; cases hq; exact J
  | 1=>cases l; cases hq; exact K
  | 2=>cases l; cases hq; exact M
  | j+3=>cases l
 | 1=>cases l; cases hq; exact .refl _
 | j+2=>cases l
def Fd:fS:=⟨[],[],[]⟩
def D2 (f:aD) (room:List Int) (c:fS) (b:Bool):Prop :=
 (dA f=false∧c=Fd∧b=false)∨(dA f=true∧AI f room∧c=Fd∧b=false)∨(dA f=true∧¬ AI f room∧qA f room c=true∧b=true)
def asZ (f:aD) (room:List Int) (r:PV) (H:PH):Prop:=∃ c b,D2 f room c b∧cB (.tup [.agg c.cells,.bool b]) r H
def aIN (f:aD) (room:List Int) (r:PV) (H:PH):Prop:=∃ c b,D2 f room c b∧r=.tup [.agg c.cells,.bool b]∧H=PH.nil
theorem aG.why {C:Ctx} {name:Nat} {args:List PV} {f:aD} {room:List Int} (h:aG C name args .nil (asZ f room)):aG C name args .nil (aIN f room) :=
 h.post fun r H' ⟨ws,c,e,j,l⟩=>⟨_,j,ws,c,e,rfl,l⟩
theorem aAT {res:List dY} {f:aD} {room:List Int} {c:fS} {b:Bool} {e:kT} {F:PF} {H:PH} (j:D2 f room c b) (h:aR res (cB (.tup [.agg c.cells,.bool b])) e F H):aR res (asZ f room) e F H :=
 Ax (fun r H' l=>⟨c,b,j,l⟩) h
abbrev gV (l e j:PV):bO:=.rows 3 [[l,e,j]]
def DN (f:aD) (S:Nat→Bool) (k:Nat):List Bool:=(aTI k).map fun v=>S (cP f v 0)
def tV (f:aD) (S:Nat→Bool) (v k:Nat):List Bool:=(aTI k).map fun i=>S (cP f v (i+1))
def UB (f:aD) (S:Nat→Bool) (k:Nat):List (List Bool):=(aTI k).map fun v=>tV f S v (f.aRX.length-1)
def PE (f:aD) (S:Nat→Bool) (k:Nat):List Bool:=(aTI k).map fun d=>S (bL f d)
theorem qV {α:Type} (g:Nat→α) (k:Nat):(aTI (k+1)).map g=(aTI k).map g++[g k]:=by rw[aWA,aUX]; rfl
theorem HR (l:List Bool) (b:Bool):bK l++[[.bool b]]=bK (l++[b]):=by simp[bK]
theorem atN (f:aD) (S:Nat→Bool):wH f S=⟨DN f S f.aRW.length,UB f S f.aRW.length,PE f S f.aRU.length⟩:=rfl
theorem ep {S:Nat→Bool} {N i:Nat} (h:i<N):(bK ((aTI N).map S))[i]?=some [.bool (S i)]:=by
 rw[jM (by simp[h])];rw[aTR,aUG,aWL h]; rfl
def D1 (v:PV):Prop:=∀ (E e:Env) (u:Value),aX E v u→aX e v u
theorem D1.pair (n:Int) (b:Bool):D1 (.tup [.int .i64 n,.bool b]):=fun E y u h=>by
 cases h with
 | tup vs l w =>
  refine .tup vs l fun j p v e x=>?_;have:=w j p v e x
  match j with
  | 0=>cases e; cases this; exact .int _ _
  | 1=>cases e; cases this; exact .bool _
  | j+2=>cases e
theorem aG.aMM {C:Ctx} {name o s:Nat} {rs:List (List PV)} {args:List PV} {v:PV} (V:D1 v) (h:aG C name (args.map (PV.frz o s rs)) .nil (aI v)) :
  aG C name args (PH.nil.set o (.rows s rs)) (fun r H'=>r=v∧H'=PH.nil.set o (.rows s rs)):=by
 refine⟨h.1,fun E w vs M hW F=>?_⟩;have W:jE (PF.args args) (PH.nil.set o (.rows s rs)) _ _:=.step o (s:=s) (rs:=rs) (by simp only[aT,if_true]) (.refl _ _);obtain⟨J,k1,k2,X⟩:=W.sound hW;rw[sg] at k1 k2;have B:=F.len;have I:eX J (args.map (PV.frz o s rs)) vs.toList:=by
  refine eX.of _ _ (by rw[aTJ]; exact B) fun i p u R U=>?_;have:=X (fun i=>(vs.toList[i]?).getD undef) (fun j q K=>by have O:=(aUN.1 K).1;have A:j<vs.toList.length:=Om;simp only[aTP A,aWE];exact F.at_ j q _ K (aTP A)) i p (by rw[oF,args_at,← aUG]; exact R)
  simp only[U,aWE] at this;exact this
 refine (h.2 J w vs (k2.env.num.trans M) k1 I).mono fun e Y he=>?_;obtain⟨u,pv,Z,H2,rfl,N,S,y,rfl,rfl⟩:=he;have l:∀ b,b<w.heap.size→Y.heap[b]?=w.heap[b]?:=fun b hb=>y.block b hb rfl;exact⟨u,pv,E,_,rfl,hW.same y.size (fun b hb _=>l b hb) (fun q x hq=>l q (hW.h q x hq).1),V _ _ _ S,⟨.refl E,y.os,y.tape,y.output,y.size,fun b hb _=>l b hb,fun q x hq=>.inl ⟨x,hq⟩,fun b cs hb=>.inl hb⟩,rfl,rfl⟩
def aIV (name:Nat) (v:PV):Spec:=fun e vs=>if e=name then match vs with
 | [_,.osl o _ _ _]=>some ([o],fun G r H'=>r=v∧H'=G)
 | _=>none
 else none
def GK (f:aD) (room:List Int) (c:fS):Bool:=dA f&&qA f room c
def ajU (f:aD) (c:fS) (k:Nat):Prop:=∀ r∈c.aSE.take k,r.length=f.aRX.length-1
theorem aqJ {f:aD} {c:fS} {k:Nat} (h:ajU f c k):(c.aSE.take k).flatten.length≤k*(f.aRX.length-1):=by
 rw[xC h];exact aUM _ (by rw[aUA]; omega)
theorem ayU {f:aD} {c:fS} {k:Nat} (e:k<c.aSE.length) (h:c.aSE[k].length≠f.aRX.length-1):c.shape f=false:=by
 cases j:c.shape f with
 | false=>rfl
 | true=>exact absurd ((CZ.1 j).r _ (aTN e)) h
def atI (f:aD) (c:fS) (o7:Nat) (v:PV) (k:Nat):PF:=(((((((PF.nil.set 3 (.bN f.cells)).set 5 (.bN c.cells)).set 7 (.ptr o7 4 0 0)).set 9 (v)).set 54 (gw c.aSE)).set 55 (.int .i64 (c.aSE.length:Nat))).set 56 (.int .i64 (k:Nat)))
theorem aCX {C:Ctx} (Lb:OR C) (I:∀ (n:cJ) (cut:List Bool),fU n→afO n cut→aG C 293 [.agg n.cells,lD cut] .nil (aI (.tup [.int .i64 ((dO (fun w=>cut.getD w false) n.arcs:Nat):Int),.bool true])))
  (f:aD) (hf:f.Ok) (room:List Int) (c:fS) (hc:c.vols.length≤1000000∧c.aSE.length≤1000000∧c.aSO.length≤1000000) :
  PN.wp C (aR auB.res (aI (.bool (GK f room c)))) (PF.args [.agg f.cells,ints room,.agg c.cells]) .nil:=by
 have B:GK f room c=(dA f&&(c.shape f&&decide (dO (HT c) (fR f room)<nY f))):=rfl;obtain⟨δ,ε,ζ⟩:=hc;simp only[go_sem,PN,V0,auB,V1];refine aA (Lb.net f room hf) Ev ?_;simp only[go_sem,uF];refine aO fun q hq=>?_;have h1:aM (PH.nil.set q fX) [(q,fX)] []:=aM.nil.new hq fX;generalize (PH.nil.set q fX)=H1 at *
 have q1:=h1.at 0 rfl;have h2:=h1.set 0 rfl (pR (vQ f room));simp only[go_sem,q1];generalize H1.set q (.rows 4 [(vQ f room).cells])=H2 at *
 cases A:dA f with
 | false =>simp only[go_sem,zR,GY A,GM];exact sY (b:=false) Sq (by rw[B,A]; rfl)
 | true =>
  have hV:=VF.of A;have hs:=hV.small;have hr:=hV.root;have θ:=hs.aRX;have ι:=hs.aRU;have κ:=hs.aRW;have hn:=GZ hV room;rw[AC A] at h2;rw[A,aTY] at B;by_cases c1:c.vols.length=f.aRW.length
  ·by_cases c2:c.aSE.length=f.aRW.length
   ·by_cases c3:c.aSO.length=f.aRU.length
    ·simp only[go_sem,zR,tA A,fS.cells,aTJ,bV (Om:(c.vols.length:Int)=(f.aRW.length:Nat)),bV (Om:(c.aSE.length:Int)=(f.aRW.length:Nat)),bV (Om:(c.aSO.length:Int)=(f.aRU.length:Nat)),V2];refine aO fun o ho=>?_;have h3:=h2.t6 (s:=1) (rows:=[[.bool true],[.bool false]]) ho;generalize H2.set o (.rows 1 [[.bool true],[.bool false]])=H3 at *
     simp only[go_sem];refine h3.append 0 (src:=bK c.vols) rfl Sq (by unfold roomFor; rw[jO]; simp only[aVA,aVR,maxLen]; omega) fun v4 H4 h4 _=>?_;simp only[go_sem,V3,aTJ];refine wp_loop (α:=Nat × PV × PH) (fun s=>atI f c q s.2.1 s.1) (fun s=>s.2.2) (fun s=>s.1≤c.aSE.length∧ajU f c s.1∧aM s.2.2 [(q,pR (eE f room))] [(s.2.1,1,bK (true::false::(c.vols++(c.aSE.take s.1).flatten)))]) (fun s=>c.aSE.length-s.1) (0,v4,H4) ⟨aTQ _,fun r h=>by simp at h,by simpa using h4⟩ (by unfold atI; (repeat' (first|exact c_|refine d_ ?_ ?_))<;>first|(simp only[go_sem,aTJ,fS.cells]<;>rfl)|rfl) b_ ?_;rintro⟨k,v,H5⟩ ⟨hk,y,F⟩;simp only at hk y F;have Y:=aqJ y;have η:k*(f.aRX.length-1)≤12*40:=aWT Om Om;simp only[go_sem,Fw,V4,atI];by_cases hlt:k<c.aSE.length
     ·have l:(k:Int)<(c.aSE.length:Nat):=Om;have β:=wZz k;have W:(c.aSE.map fun w=>[lD w])[k]?=some [lD c.aSE[k]]:=by simp[hlt]
      have hw:IntKind.i64.wrap ((f.aRX.length:Int)-1)=((f.aRX.length-1:Nat):Int):=by rw[wrap_i64 Om Om]; omega
      have J:c.aSE.take (k+1)=c.aSE.take k++[c.aSE[k]]:=aVS hlt;have γ:=ayU (f:=f) hlt;generalize c.aSE[k]=row at *
      simp only[go_sem,l,V5,W,V6,aTJ,hw];by_cases cr:row.length=f.aRX.length-1
      ·simp only[go_sem,bV (Om:(row.length:Int)=((f.aRX.length-1:Nat):Int)),Fy];refine F.append 0 (src:=bK row) rfl Sq (by unfold roomFor; rw[jO,jO]; simp only[aVA,aTM,maxLen]; omega) fun v' H' S _=>?_;simp only[go_sem,F0,β];refine aH (k+1,v',H') ⟨hlt,?_,?_⟩ (by simp only; omega) Lq b_
       ·intro r hr;simp only at hr;rw[J] at hr;rcases aUR.1 hr with hr | hr
        ·exact y r hr
        ·rw[aUY] at hr; subst hr; exact cr
       ·simp only;have O:bK (true::false::(c.vols++(c.aSE.take (k+1)).flatten))=bK (true::false::(c.vols++(c.aSE.take k).flatten))++bK row:=by rw[J];simp[bK]
        show aM H' _ [(v',1,bK (true::false::(c.vols++(c.aSE.take (k+1)).flatten)))];rw[O];exact S
      ·simp only[go_sem,dK (Om:¬ (row.length:Int)=((f.aRX.length-1:Nat):Int)),V7];exact sY (b:=false) Sq (by rw[B,γ cr]; rfl)
     ·have l:¬ (k:Int)<(c.aSE.length:Nat):=Om;have Z:k=c.aSE.length:=Om;subst Z;have e:Shape f c:=⟨c1,c2,c3,by have:=y; unfold ajU at this; rwa [aUS] at this⟩;rw[aUS] at F Y;have E:H5 q=some (pR (eE f room)):=F.at 0 rfl;have j:oA c=true::false::(c.vols++(c.aSE.flatten++c.aSO)):=rfl;have U:afO (eE f room) (oA c):=⟨atM hV e,rfl,rfl⟩;have X:=I (eE f room) (oA c) hn U;simp only[go_sem,l];refine bC (PH.nil.set q (pR (eE f room))) (aIV 293 (.tup [.int .i64 ((dO (fun w=>(oA c).getD w false) (eE f room).arcs:Nat):Int),.bool true])) (e_ a_ E) ?_;simp only[go_sem,F6,E];refine F.append 0 (src:=bK c.aSO) rfl Sq (by unfold roomFor; rw[jO,jO]; simp only[aVA,aTM,maxLen]; omega) fun v' H' S _=>?_;have O:bK (true::false::(c.vols++c.aSE.flatten))++bK c.aSO=bK (oA c):=by rw[j];simp[bK]
      have u:aM H' [(q,pR (eE f room))] [(v',1,bK (oA c))]:=by rw[← O]; exact S
      obtain⟨p,rfl⟩:=(u.own 0 rfl).one (by rw[jO,j]; simp);obtain⟨rs,r1,r2,r3,r4⟩:=(u.own 0 rfl).id rfl;refine⟨e_ a_ (u.at 0 rfl),?_⟩;refine HV (o:=p) (x:=.rows 1 rs) (v:=.tup [.int .i64 ((dO (fun w=>(oA c).getD w false) (eE f room).arcs:Nat):Int),.bool true]) (vs:=[.agg (eE f room).cells,.osl p 1 0 (bK (oA c)).length]) (R:=fun G r H'=>r=(.tup [.int .i64 ((dO (fun w=>(oA c).getD w false) (eE f room).arcs:Nat):Int),.bool true])∧H'=G) (by unfold aIV; rw[if_pos rfl]) r1 (aG.aMM (D1.pair _ _) ?_) ⟨rfl,rfl⟩ (fun r H' h=>h) Sq (e_ a_ (u.at 0 rfl)) ?_
      ·have e3:([.agg (eE f room).cells,.osl p 1 0 (bK (oA c)).length]:List PV).map (PV.frz p 1 rs)=[.agg (eE f room).cells,lD (oA c)]:=by show [PV.agg _,PV.frz p 1 rs (.osl p 1 0 (bK (oA c)).length)]=_;rw[vK r3,r4]; rfl
       rw[e3];exact X
      ·rw[CZ.2 e,aTY] at B;have V:GK f room c=decide (((dO (fun w=>(oA c).getD w false) (eE f room).arcs:Nat):Int)<((nY f:Nat):Int)):=by rw[B];exact decide_eq_decide.2 ⟨fun h=>Int.ofNat_lt.2 h,fun h=>Int.ofNat_lt.1 h⟩
       generalize dO (fun w=>(oA c).getD w false) (eE f room).arcs=cp at *
       simp only[go_sem,F7];refine aA (Lb.demand f hV) Ev ?_;simp only[go_sem];exact sY Sq V.symm
    ·have N:¬ (c.aSO.length:Int)=(f.aRU.length:Nat):=Om;simp only[go_sem,zR,tA A,fS.cells,aTJ,bV (Om:(c.vols.length:Int)=(f.aRW.length:Nat)),bV (Om:(c.aSE.length:Int)=(f.aRW.length:Nat)),dK N,GM];exact sY (b:=false) Sq (by rw[B,fS.shape,decide_eq_false c3]; simp)
   ·have M:¬ (c.aSE.length:Int)=(f.aRW.length:Nat):=Om;simp only[go_sem,zR,tA A,fS.cells,aTJ,bV (Om:(c.vols.length:Int)=(f.aRW.length:Nat)),dK M,GM];exact sY (b:=false) Sq (by rw[B,fS.shape,decide_eq_false c2]; simp)
  ·have K:¬ (c.vols.length:Int)=(f.aRW.length:Nat):=Om;simp only[go_sem,zR,tA A,fS.cells,aTJ,dK K,GM];exact sY (b:=false) Sq (by rw[B,fS.shape,decide_eq_false c1]; simp)
theorem mu:fB.aRW.length=1∧fB.aRU.length=1:=by decide +kernel
theorem akA:sB fB [[0]]:=⟨by decide +kernel,by decide +kernel,by decide +kernel⟩
theorem mq:AI fB []:=(auE kE).2 ⟨_,akA,Uv⟩
theorem mr:¬ AI fB [0]:=by
 rintro⟨u,A⟩;obtain⟨j,l⟩:=mu;have e:(0:Nat)<fB.aRW.length:=Om;have w:(0:Nat)<fB.aRU.length:=Om;have a1:=A.num 0 e;have a2:=A.room 0 w;have a3:=(kG (VF.of kE) e).2.1;have a4:LM fB [0] 0=0:=by decide +kernel
 rw[l] at a1;rw[j,a4] at a2;have x:fH (u 0) 1=one (u 0 0):=by simp[fH,cK]
 have y:fH (fun v=>u v 0) 1=one (u 0 0):=by simp[fH,cK]
 omega
theorem aqV {u:Nat→Nat→Bool} (A:tL fB [] u):sK fB u=[[0]]:=by
 obtain⟨w,e⟩:=mu;have j:(0:Nat)<fB.aRW.length:=Om;have a1:=A.num 0 j;have a3:=(kG (VF.of kE) j).2.1;rw[e] at a1;have l:fH (u 0) 1=one (u 0 0):=by simp[fH,cK]
 have x:u 0 0=true:=by
  cases h:u 0 0 with
  | true=>rfl
  | false=>rw[l,h,wQ] at a1; omega
 unfold sK oJ;rw[w,e];simp[x,M0,aWA]
theorem Uw {ws:List (List Int)} {c:Int} (h:GH fB [] ws c):ws=[[0]]∧c=0:=by
 rcases h with ⟨h,-⟩ | ⟨-,⟨u,A,rfl⟩,rfl⟩ | ⟨-,h,-⟩
 ·rw[kE] at h; cases h
 ·exact⟨aqV A,rfl⟩
 ·exact absurd mq h
theorem akB {ws:List (List Int)} {c:Int} (h:GH fB [0] ws c):ws=[]∧c=12:=by
 rcases h with ⟨h,-⟩ | ⟨-,⟨u,A,-⟩,-⟩ | ⟨-,-,h⟩
 ·rw[kE] at h; cases h
 ·exact absurd ⟨u,A⟩ mr
 ·exact h
def vD (c:fS):Prop:=c.vols.length≤1000000∧c.aSE.length≤1000000∧c.aSO.length≤1000000
theorem vD.of {f:aD} (hV:VF f) {c:fS} (h:Shape f c):vD c:=by
 have e:=h.v;have j:=h.i;have l:=h.d;have u:=hV.small.aRW;have h5:=hV.small.aRU;unfold vD;omega
theorem T7 {f:aD} {room:List Int} {c:fS} (h:qA f room c=true):Shape f c:=by
 unfold qA at h;rw[aUC] at h;exact CZ.1 h.1
theorem aqW {c:fS} {b:Bool} (h:D2 fB [0] c b):b=true∧qA fB [0] c=true∧qA fB [] c=false∧vD c:=by
 have hV:=VF.of kE;rcases h with ⟨h,-⟩ | ⟨-,h,-⟩ | ⟨-,-,h,rfl⟩
 ·rw[kE] at h; cases h
 ·exact absurd h mr
 ·refine⟨rfl,h,?_,.of hV (T7 h)⟩;cases e:qA fB [] c with
  | false=>rfl
  | true=>exact absurd mq (check_sound hV e)
structure alX (C:Ctx):Prop where
 fleet:∀ (l:List Nat),(∀ x∈l,x<256)→l.length≤9223372036854775807→∀ aRU aRW:Nat,aRU≤60→aRW≤50 →
  aG C 27 [.sl 1 (kU l),.int .i64 aRU,.int .i64 aRW] .nil (aI (.agg (jQ (l.take 400) aRU aRW 0).1.cells))
 place:∀ (f:aD) (room:List Int),f.Ok→aG C 288 [.agg f.cells,ints room] .nil (amA f room)
 why:∀ (f:aD) (room:List Int),f.Ok→aG C 289 [.agg f.cells,ints room] .nil (aIN f room)
 chk:∀ (f:aD) (room:List Int) (c:fS),f.Ok→vD c→aG C 290 [.agg f.cells,ints room,.agg c.cells] .nil (aI (.bool (GK f room c)))
theorem asI {C:Ctx} (L:alX C):FY.wp C (aR Ta.res (aI (.bool true))) (PF.args []) .nil:=by
 have h:=L.fleet [] (fun x I=>by cases I) (by decide) 1 0 (by decide) (by decide);have J:=(L.place fB [] tE).args (args:=[.agg fB.cells,.aB]) (.CA (.refl _) (.CA (.nil 1) .axJ));have K:=L.place fB [0] tE;have M:=L.why fB [0] tE;simp only[go_sem,FY,Cs,Ct,Ta];refine aA (h.args (.CA (.nil 1) (.CA (.refl _) (.CA (.refl _) .axJ)))) (by simp only[go_sem]; rfl) ?_;simp only[go_sem];refine aO fun o V=>?_;simp only[go_sem,Cu,aTW,aUJ,or_false,forall_eq];show wpOps C TQ _ _ (PH.nil.set o (.rows 7 [fB.cells]));have u:(PH.nil.set o (.rows 7 [fB.cells])) o=some (.rows 7 [fB.cells]):=by rw[cL]
 generalize U:(PH.nil.set o (.rows 7 [fB.cells]))=S at *
 have F:=tE;have w:=kE;have N:=fun ws c h=>Uw (ws:=ws) (c:=c) h;have O:=fun ws c h=>akB (ws:=ws) (c:=c) h;have R:=fun c b h=>aqW (c:=c) (b:=b) h;have B:=fun c=>L.chk fB [0] c tE;have E:=fun c (h:vD c)=>(L.chk fB [] c tE h).args (args:=[.agg fB.cells,.aB,.agg c.cells]) (.CA (.refl _) (.CA (.nil 1) (.CA (.refl _) .axJ)));generalize fB=f at *
 simp only[go_sem,TQ,u];refine eO J Sq a_ ?_;rintro r H' ⟨ws,c,A,rfl,rfl⟩ -;rw[PH.nJ];obtain⟨rfl,rfl⟩:=N _ _ A;simp only[go_sem,Cv,u];refine eO K (by simp only[go_sem]; rfl) a_ ?_;rintro r H' ⟨ws,c,A,rfl,rfl⟩ -;rw[PH.nJ];obtain⟨rfl,rfl⟩:=O _ _ A;simp only[go_sem,Cw,u];refine eO M (by simp only[go_sem]; rfl) a_ ?_;rintro r H' ⟨ct,b,A,rfl,rfl⟩ -;rw[PH.nJ];obtain⟨rfl,g1,g2,g3⟩:=R _ _ A;have k1:=B ct g3;have k2:=E ct g3;rw[GK,w,aTY,g1] at k1;rw[GK,w,aTY,g2] at k2;simp only[go_sem];refine aO fun o2 y=>?_;have l:¬ o=o2:=fun e=>by rw[← e,u] at y; cases y
 have j:¬ o2=o:=fun e=>l e.symm;simp only[go_sem,Cx,u,l,j,bP (show (0:Int)=0 from rfl),bP (show (12:Int)=12 from rfl),bP (show ((1:Nat):Int)=1 from rfl),aTJ,aVA,aVR];refine aA k1 (by simp only[go_sem]; rfl) ?_;simp only[go_sem,u,l,j];refine aA k2 Sq ?_;simp only[go_sem];refine aQ (.inr rfl) Ev ?_;rfl
structure alW (C:Ctx):Prop where
 fleet:∀ (l:List Nat),(∀ x∈l,x<256)→l.length≤9223372036854775807→∀ aRU aRW:Nat,aRU≤60→aRW≤50 →
  aG C 27 [.sl 1 (kU l),.int .i64 aRU,.int .i64 aRW] .nil (aI (.agg (jQ (l.take 400) aRU aRW 0).1.cells))
 awake:aG C 312 [] .nil (aI (.bool true))
 net:∀ (f:aD) (room:List Int),f.Ok→aG C 286 [.agg f.cells,ints room] .nil (aI (uF f room))
 ut:∀ (f:aD) (room:List Int),f.Ok→aG C 307 [.agg f.cells,ints room] .nil (aI (uF f room))
 same:∀ n:cJ,n.arcs.length≤2500→aG C 313 [.agg n.cells,.agg n.cells] .nil (aI (.bool true))
theorem axH (f:aD) (room:List Int):(vQ f room).arcs.length≤2500:=by
 cases e:dA f with
 | false=>rw[tx e]; exact aTQ _
 | true=>rw[AC e]; exact (GZ (VF.of e) room).num
theorem U5 {C:Ctx} (j:alW C) (l:List Nat) (hb:∀ x∈l,x<256) (K:l.length≤9223372036854775807) (room:List Int) :
  yA.wp C (aR NK.res (aI (.bool true))) (PF.args [.sl 1 (kU l),ints room]) .nil:=by
 obtain⟨-,E⟩:=atZ l (d:=10) (v:=4) (by decide) (by decide);have F:=j.fleet l hb K 10 4 (by decide) (by decide);have I:aG C 27 [.sl 1 (kU l),.int .i64 (10:Nat),.int .i64 (4:Nat)] .nil (aI (.agg (fT l 10 4).cells)):=F;have A:=j.net (fT l 10 4) room E;have B:=j.ut (fT l 10 4) room E;have J:=j.same (vQ (fT l 10 4) room) (axH _ _);unfold uF at A B;generalize vQ (fT l 10 4) room=n at *
 generalize aiY (fT l 10 4)=e at *
 generalize fT l 10 4=f at *
 simp only[go_sem,yA,XT,XU,NK];refine aA I (by simp only[go_sem]; rfl) ?_;simp only[go_sem];refine aO fun o S=>?_;have y:(PH.nil.set o (.rows 7 [f.cells])) o=some (.rows 7 [f.cells]):=by rw[cL]
 simp only[go_sem,XV,aTJ];generalize (PH.nil.set o (.rows 7 [f.cells]))=R at *
 by_cases c:(room.length:Int)>30
 ·simp only[go_sem,c,XW];refine aA j.awake Ev ?_;simp only[go_sem];refine aQ (.inr rfl) Ev ?_;rfl
 ·simp only[go_sem,c,XY,y];refine aA A Sq ?_;simp only[go_sem];refine aO fun o2 u=>?_;have M:¬ o=o2:=fun e=>by rw[← e,y] at u; cases u
  simp only[go_sem,XZ,y,M];refine aA B Sq ?_;simp only[go_sem];refine aO fun O w=>?_;have N:¬ o2=O:=fun e=>by rw[← e,cL] at w; cases w
  simp only[go_sem,YA,N,bP (show e=e from rfl)];refine aA J Sq ?_;simp only[go_sem];refine aA j.awake Ev ?_;simp only[go_sem];refine aQ (.inr rfl) Ev ?_;rfl
structure OT (C:Ctx):Prop where
 node:∀ (f:aD),Small f→0<f.aRX.length→∀ v i:Nat,v≤100→i≤100→aG C 304 [.agg f.cells,.int .i64 (v:Nat),.int .i64 (i:Nat)] .nil (aI (.int .i64 ((cP f v i:Nat):Int)))
 drv:∀ (f:aD),Small f→∀ d:Nat,d≤100→aG C 305 [.agg f.cells,.int .i64 (d:Nat)] .nil (aI (.int .i64 ((bL f d:Nat):Int)))
 total:∀ f:aD,VF f→aG C 306 [.agg f.cells] .nil (aI (.int .i64 ((nY f:Nat):Int)))
 qvalid:∀ f:aD,f.Ok→aG C 67 [.agg f.cells] .nil (aI (.bool (dA f)))
 allowed:∀ (f:aD) (p:dD) (d:Nat),VF f→Fits p.aRV→d<f.aRU.length→aG C 77 [.agg p.cells,.agg f.cells,.int .i64 d] .nil (aI (.bool (p.aRV.contains ((mdl f d:Nat):Int))))
 qroom:∀ (f:aD) (room:List Int),f.Ok→aG C 85 [.agg f.cells,ints room] .nil (aI (ints (CV f room)))
def quS (f:aD):Spec:=fun name vs=>match name,vs with
 | 304,[_,.int _ v,.int _ i]=>some ([],fun _=>aI (.int .i64 ((cP f v.toNat i.toNat:Nat):Int)))
 | 305,[_,.int _ d]=>some ([],fun _=>aI (.int .i64 ((bL f d.toNat:Nat):Int)))
 | _,_=>none
section
variable {C:Ctx} {F:PF} {H Hs:PH} {st:Bool} {f:aD} {args:List aN} {d:Option Nat} {K:PF→PH→Prop}
theorem CB (j:OT C) (x:Small f) (l:0<f.aRX.length) {v i:Nat} (y:v≤100) (hi:i≤100) (u:aN.evs F args=some [.agg f.cells,.int .i64 (v:Nat),.int .i64 (i:Nat)]) (e:Hs.le H) (w:K (F.put d (.int .i64 ((cP f v i:Nat):Int))) H):dOp C Hs (quS f) st (.call 304 args) d K F H :=
 bX (v:=.int .i64 ((cP f v i:Nat):Int)) (by rfl) (j.node f x l v i y hi) u e w
theorem Ff (j:OT C) (w:Small f) {i:Nat} (hi:i≤100) (l:aN.evs F args=some [.agg f.cells,.int .i64 (i:Nat)]) (e:Hs.le H) (u:K (F.put d (.int .i64 ((bL f i:Nat):Int))) H):dOp C Hs (quS f) st (.call 305 args) d K F H :=
 bX (v:=.int .i64 ((bL f i:Nat):Int)) (by rfl) (j.drv f w i hi) l e u
end
theorem yC {H:PH} {B:List BX} {v:PV} {l:List bF} {K:PV→PH→Prop} (a:bF) (h:aM H B [(v,4,l.map bF.cells)]) (w:l.length≤1000000) (u:∀ q n H',aM H' B [(.osl q 4 0 n,4,(l++[a]).map bF.cells)]→K (.osl q 4 0 n) H'):lM H 4 32 v (.sl 4 [a.cells]) K:=by
 refine h.append 0 (src:=[a.cells]) rfl rfl (by unfold roomFor; rw[aTJ]; simp only[aTT,maxLen]; omega) fun v' H' j e=>?_;obtain⟨q,hq⟩:=e (by simp);generalize ((l.map bF.cells++[a.cells]).length)=n at hq;subst hq;refine u q n H' ?_;rw[aUX];exact j
structure QO where
 o:Nat
 z:Nat
 p:Nat
def lI (f:aD) (room:List Int) (e:QO) (k:Nat):PF:=(((((PF.nil.set 1 (ints room)).set 2 (.bN f.cells)).set 4 (.ptr e.z 4 0 0)).set 6 (.ptr e.o 4 0 0)).set 7 (.int .i64 (k:Nat)))
def BG (f:aD) (room:List Int) (e:QO) (k i:Nat):PF:=((lI f room e k).set 8 (.ptr e.p 17 0 0)).set 9 (.int .i64 ((i+1:Nat):Int))
def dc (f:aD) (room:List Int) (e:QO) (k i:Nat):PF:=((lI f room e k).set 8 (.ptr e.p 17 0 0)).set 11 (.int .i64 (i:Nat))
theorem Uo {C:Ctx} (f:aD) (p:dD) {i:Nat} (hi:i<f.aRX.length) (I:0≤lvl f i) (J:lvl f i<5) {op:Nat} (K:PF→PH→Prop) (F:PF) (H:PH) (x:F 2=some (.bN f.cells)) (y:F 9=some (.int .i64 (i:Nat))) (h8:F 8=some (.ptr op 17 0 0)) (u:H op=some (nK p))
  (w:∀ e:PF,e 10=some (.int .i64 (p.spread (lvl f i).toNat))→(∀ G:PF,G.le F→(∀ j,62≤j→j<71→G j=none)→G 10=none→G.le e)→K e H):wpOps C dh K F H:=by
 have h5:lvl f i<((5:Nat):Int):=Om;simp only[go_sem,dh,x,y,h8,lW hi,K8 hi,I,h5,Nat.mul_one];have B:lvl f i=0∨lvl f i=1∨lvl f i=2∨lvl f i=3∨lvl f i=4:=Om;have fin:∀ e:PF,e 10=some (.int .i64 (p.spread (lvl f i).toNat))→(∀ G:PF,G.le F→(∀ j,62≤j→j<71→G j=none)→G 10=none→G.le e)→K e H:=w;clear w;rcases B with h | h | h | h | h
 all_goals
  rw[h] at fin ⊢;simp only[go_sem,u];refine fin _ (by simp only[go_sem]; rfl) fun G A E l=>?_
  repeat' (first | exact A | exact l | (exact E _ (by decide) (by decide)) | refine GU ?_ ?_)
theorem apY {C:Ctx} (Lb:OT C) {K:cE} [Up K] (f:aD) (hV:VF f) (room:List Int) (e:QO) (N k:Nat) (hk:k<f.aRW.length) (pre:List bF) (δ:pre.length≤900000) {F:PF} {H:PH} {B:List BX} (v:PV)
  (E:B[0]?=some (e.p,nK (bZ f k)))
  (w:aM H ((e.o,bY N v)::B) [(v,4,pre.map bF.cells)]) (hF:(BG f room e k 0).le F)
  (hK:∀ v' H',aM H' ((e.o,bY N v')::B) [(v',4,(pre++(aTI (f.aRX.length-1)).map (iR f k)).map bF.cells)]→K (.exit 2) ((lI f room e k).set 8 (.ptr e.p 17 0 0)) H'):aC.wp C (.loop dd) K F H:=by
 have S:=hV.small;have hr:=hV.root;have ζ:=S.aRX;have η:=S.aRW;have ε:¬ e.o=e.p:=w.ne 0 1 rfl E (by decide);refine wp_loop (α:=Nat × PV × PH) (fun s=>BG f room e k s.1) (fun s=>s.2.2) (fun s=>s.1+1≤f.aRX.length∧aM s.2.2 ((e.o,bY N s.2.1)::B) [(s.2.1,4,(pre++(aTI s.1).map (iR f k)).map bF.cells)]) (fun s=>f.aRX.length-s.1) (0,v,H) ⟨by have:=hr.1; omega,by simpa using w⟩ hF b_ ?_;rintro⟨i,v,M⟩ ⟨hi,w⟩;simp only at hi w;simp only[go_sem,dd,Ow,BG,lI,aTJ];by_cases hlt:i+1<f.aRX.length
 ·have u:((i+1:Nat):Int)<(f.aRX.length:Nat):=Om;have β:=dM (Om:i+1<9223372036854775807);obtain⟨d1,d2,d3,d4,d5⟩:=hV.dom (i+1) Om hlt;have γ:=hV.uq (Om:0<i+1) hlt;have A:M e.p=some (nK (bZ f k)):=w.at 1 E;have W:M e.o=some (bY N v):=w.at 0 rfl;obtain⟨b1,b2,b3,b4⟩:=kG hV hk;obtain⟨hp,he⟩:=nL hV hk;have x:=hV.aSH _ (aTN hp);rw[he] at x;have V:IntKind.i64.wrap ((bZ f k).k+(bZ f k).m)=((eJ f k:Nat):Int):=by rw[b3]; exact wrap_i64 Om Om
  have θ:=x.2.2.2.2.2.2.1 (lvl f (i+1)).toNat;have l:((qW f k (i+1):Nat):Int)=if (bZ f k).spread (lvl f (i+1)).toNat=0 then ((eJ f k:Nat):Int) else (bZ f k).spread (lvl f (i+1)).toNat:=by
   unfold qW fD;split
   ·rfl
   ·omega
  simp only[go_sem,u];refine Uo f (bZ f k) hlt Om Om (op:=e.p) _ _ _ Sq Sq Sq A fun F1 y J=>?_;have Z:=J (BG f room e k i) (by (repeat' (first|exact c_|refine d_ ?_ ?_))<;>first|(simp only[go_sem,BG,lI]<;>rfl)|rfl) (fun j R h2=>by have:j=62∨j=63∨j=64∨j=65∨j=66∨j=67∨j=68∨j=69∨j=70:=Om;rcases this with rfl | rfl | rfl | rfl | rfl | rfl | rfl | rfl | rfl<;>rfl) rfl
  clear J;have I:∀ U:PF,((BG f room e k i).set 10 (.int .i64 ((qW f k (i+1):Nat):Int))).le U →
    aC.wp C (.draw dj) (jV C (aC.wp C (.draw dl)) (fA 3 (jV C (aC.wp C (.region dp)) (fN (fun s:Nat × PV × PH=>BG f room e k s.1) (fun s=>s.2.2) (fun s=>s.1+1≤f.aRX.length∧aM s.2.2 ((e.o,bY N s.2.1)::B) [(s.2.1,4,(pre++(aTI s.1).map (iR f k)).map bF.cells)]) (fun s=>f.aRX.length-s.1) (f.aRX.length-i) K)))) U M:=by
   intro U Y;refine sA _ (fun _ _ _ _ a b=>Up.up a b) Y ?_;refine bC (PH.nil.set e.o (bY N v)) (quS f) (e_ a_ W) ?_;simp only[go_sem,dj,BG,lI,lW hlt,Ol hlt,γ];refine CB Lb S hr.1 (v:=k) (i:=gX f (i+1)) Om Om Sq (e_ a_ W) ?_;simp only[go_sem];refine CB Lb S hr.1 (v:=k) (i:=i+1) Om Om Sq (e_ a_ W) ?_;simp only[go_sem];refine yC (iR f k i) w (by rw[aTM,aTJ,aVY]; omega) fun q n H1 R=>?_;refine⟨e_ a_ (R.at 0 rfl),?_⟩;have X:=R.at 0 rfl;refine bC .nil cX a_ ?_;simp only[go_sem,dl,X];refine⟨a_,?_⟩;have h2:=R.set 0 rfl (bY N (.osl q 4 0 n));simp only[go_sem,dp,β];refine aH (i+1,.osl q 4 0 n,_) ⟨hlt,?_⟩ (by simp only; omega) (by (repeat' (first|exact c_|refine d_ ?_ ?_))<;>first|(simp only[go_sem,BG,lI]<;>rfl)|rfl) b_;simp only;rw[HP];exact h2
  by_cases O:(bZ f k).spread (lvl f (i+1)).toNat=0
  ·rw[if_pos O] at l;have f8:=Z 8 _ rfl;simp only[go_sem,di,y,bP O,Ox,f8,A,V];refine I _ (d_ ?_ (by simp only[go_sem,l]))
   repeat' (first | exact Z | refine GU ?_ rfl)
  ·rw[if_neg O] at l;simp only[go_sem,di,y,bE O];refine I _ (d_ ?_ (by simp only[go_sem,y,l]))
   repeat' (first | exact Z | refine GU ?_ rfl)
 ·have u:¬ ((i+1:Nat):Int)<(f.aRX.length:Nat):=Om;have:i=f.aRX.length-1:=Om;subst this;simp only[go_sem,u];exact Up.up (by (repeat' (first|exact c_|refine d_ ?_ ?_))<;>first|(simp only[go_sem,BG,lI]<;>rfl)|rfl) (hK v M w)
theorem apZ {C:Ctx} (E:OT C) {K:cE} [Up K] (f:aD) (hV:VF f) (room:List Int) (e:QO) (N k:Nat) (hk:k<f.aRW.length) (w:Fits (bZ f k).aRV) (pre:List bF) (V:pre.length≤900000) {F:PF} {H:PH} {B:List BX} (v:PV)
  (R:B[0]?=some (e.p,nK (bZ f k)))
  (l:aM H ((e.o,bY N v)::B) [(v,4,pre.map bF.cells)]) (Y:(dc f room e k 0).le F)
  (Z:∀ v' H',aM H' ((e.o,bY N v')::B) [(v',4,(pre++((aTI f.aRU.length).filter (okD f k)).map (dZ f k)).map bF.cells)]→K (.exit 4) (lI f room e k) H'):aC.wp C (.loop de) K F H:=by
 have y:=hV.small;have hr:=hV.root;have β:=y.aRX;have γ:=y.aRU;have δ:=y.aRW;refine wp_loop (α:=Nat × PV × PH) (fun s=>dc f room e k s.1) (fun s=>s.2.2) (fun s=>s.1≤f.aRU.length∧aM s.2.2 ((e.o,bY N s.2.1)::B) [(s.2.1,4,(pre++((aTI s.1).filter (okD f k)).map (dZ f k)).map bF.cells)]) (fun s=>f.aRU.length-s.1) (0,v,H) ⟨aTQ _,by simpa using l⟩ Y b_ ?_;rintro⟨i,v,A⟩ ⟨hi,l⟩;simp only at hi l;simp only[go_sem,de,Oz,dc,lI,aTJ];by_cases hlt:i<f.aRU.length
 ·have j:(i:Int)<(f.aRU.length:Nat):=Om;have x:=wZz i;obtain⟨d1,d2,d3,d4,d5⟩:=hV.drive i hlt;have U:okD f k i=(bZ f k).aRV.contains ((mdl f i:Nat):Int):=rfl;have I:A e.p=some (nK (bZ f k)):=l.at 1 R;have J:A e.o=some (bY N v):=l.at 0 rfl;have u:=VJ (okD f k) i;simp only[go_sem,j,O0,I];refine aA (E.allowed f (bZ f k) i hV w hlt) Ev ?_;rw[← U];cases hb:okD f k i with
  | false =>rw[hb,if_neg (by decide),aVC] at u;rw[← u] at l;simp only[go_sem,dr,x];exact aH (i+1,v,A) ⟨hlt,l⟩ (by simp only; omega) (by (repeat' (first|exact c_|refine d_ ?_ ?_))<;>first|(simp only[go_sem,dc,lI]<;>rfl)|rfl) b_
  | true =>
   rw[hb,if_pos rfl] at u;have S:=List.length_filter_le (okD f k) (aTI i);rw[aVY] at S;simp only[go_sem];refine bC (PH.nil.set e.o (bY N v)) (quS f) (e_ a_ J) ?_;simp only[go_sem,O1,oO hlt,hV.ta hlt];refine CB E y hr.1 (v:=k) (i:=eU f i) Om Om Sq (e_ a_ J) ?_;simp only[go_sem];refine Ff E y (i:=i) Om Sq (e_ a_ J) ?_;simp only[go_sem];refine yC (dZ f k i) l (by rw[aTM,aTJ]; omega) fun q n H1 O=>?_;refine⟨e_ a_ (O.at 0 rfl),?_⟩;have M:=O.at 0 rfl;refine bC .nil cX a_ ?_;simp only[go_sem,O2,M];refine⟨a_,?_⟩;have X:=O.set 0 rfl (bY N (.osl q 4 0 n));simp only[go_sem,dr,x];refine aH (i+1,.osl q 4 0 n,_) ⟨hlt,?_⟩ (by simp only; omega) (by (repeat' (first|exact c_|refine d_ ?_ ?_))<;>first|(simp only[go_sem,dc,lI]<;>rfl)|rfl) b_;simp only;have W:pre++((aTI (i+1)).filter (okD f k)).map (dZ f k)=pre++((aTI i).filter (okD f k)).map (dZ f k)++[dZ f k i]:=by rw[u,aUX,← aUP]; rfl
   rw[W];exact X
 ·have j:¬ (i:Int)<(f.aRU.length:Nat):=Om;have:i=f.aRU.length:=Om;subst this;simp only[go_sem,j];exact Up.up (by (repeat' (first|exact c_|refine d_ ?_ ?_))<;>first|(simp only[go_sem,dc,lI]<;>rfl)|rfl) (Z v A l)
theorem aqA {C:Ctx} (J:OT C) {K:cE} [Up K] (f:aD) (hf:f.Ok) (hV:VF f) (room:List Int) (o z:Nat) (N:Nat) {F:PF} {H:PH}
  (u:aM H [(o,bY N .aB),(z,fX)] [(.aB,4,[])]) (hF:(lI f room ⟨o,z,0⟩ 0).le F)
  (hK:∀ v' H',aM H' [(o,bY N v'),(z,fX)] [(v',4,((aTI f.aRW.length).flatMap (eN f)).map bF.cells)]→K (.exit 0) (lI f room ⟨o,z,0⟩ f.aRW.length) H'):aC.wp C (.loop df) K F H:=by
 have A:=hV.small;have hr:=hV.root;have γ:=A.aRX;have δ:=A.aRU;have ε:=A.aRW;refine wp_loop (α:=Nat × PV × PH) (fun s=>lI f room ⟨o,z,0⟩ s.1) (fun s=>s.2.2) (fun s=>s.1≤f.aRW.length∧aM s.2.2 [(o,bY N s.2.1),(z,fX)] [(s.2.1,4,((aTI s.1).flatMap (eN f)).map bF.cells)]) (fun s=>f.aRW.length-s.1) (0,.aB,H) ⟨aTQ _,by simpa using u⟩ hF b_ ?_;rintro⟨k,v,Z⟩ ⟨hk,u⟩;simp only at hk u;simp only[go_sem,df,abR,lI,aTJ];by_cases hlt:k<f.aRW.length
 ·have e:(k:Int)<(f.aRW.length:Nat):=Om;have S:=wZz k;obtain⟨V,he⟩:=nL hV hlt;have j:=(hf.aSH _ (aTN V)).aRV;rw[he] at j;have w:=hV.aSH _ (aTN V);rw[he] at w;obtain⟨b1,b2,b3,b4⟩:=kG hV hlt;have M:IntKind.i64.wrap ((bZ f k).k+(bZ f k).m)=((eJ f k:Nat):Int):=by rw[b3]; exact wrap_i64 Om Om
  have β:=xM A k;simp only[go_sem,e];refine bC .nil cX a_ ?_;simp only[go_sem,abS,uT hlt,hV.SB hlt,pI V,he];refine u.vG fun p H1 Y=>?_;have g1:=Y.mG;have h2:=Y.rG (nK (bZ f k));simp only[go_sem,g1];refine⟨a_,?_⟩;generalize H1.set p (.rows 17 [(bZ f k).cells])=H2 at *
  have E:aM H2 [(o,bY N v),(p,nK (bZ f k)),(z,fX)] [(v,4,((aTI k).flatMap (eN f)).map bF.cells)]:=by refine h2.perm ?_ (aVX.refl _);exact .cons _ (.swap _ _ _)
  have W:H2 o=some (bY N v):=E.at 0 rfl;have X:H2 p=some (nK (bZ f k)):=E.at 1 rfl;have U:¬ o=p:=E.ne 0 1 rfl rfl (by decide);obtain⟨Hs,so,sp,l⟩:=jj (x:=bY N v) (y:=nK (bZ f k)) U;refine bC Hs (quS f) (l _ W X) ?_;simp only[go_sem,abT,so];refine CB J A hr.1 (v:=k) (i:=0) Om Om Ev (l _ W X) ?_;simp only[go_sem,sp,M];refine yC (⟨0,cP f k 0,eJ f k⟩:bF) E Om fun q n H3 I=>?_;refine⟨l _ (I.at 0 rfl) (I.at 1 rfl),?_⟩;have O:=I.at 0 rfl;refine bC .nil cX a_ ?_;simp only[go_sem,abU,O];refine⟨a_,?_⟩;have h5:=I.set 0 rfl (bY N (.osl q 4 0 n));simp only[go_sem,abV];refine apY J f hV room ⟨o,z,p⟩ N k hlt ((aTI k).flatMap (eN f)++[(⟨0,cP f k 0,eJ f k⟩:bF)]) (by rw[aTM,aTT]; omega) (.osl q 4 0 n) (B:=[(p,nK (bZ f k)),(z,fX)]) rfl h5 (by (repeat' (first|exact c_|refine d_ ?_ ?_))<;>first|(simp only[go_sem,BG,lI]<;>rfl)|rfl) fun v2 H8 h9=>?_;simp only[go_sem,Oy,lI];refine apZ J f hV room ⟨o,z,p⟩ N k hlt j ((aTI k).flatMap (eN f)++[(⟨0,cP f k 0,eJ f k⟩:bF)]++(aTI (f.aRX.length-1)).map (iR f k)) (by rw[aTM,aTM,aTT,aTJ,aVY]; omega) (B:=[(p,nK (bZ f k)),(z,fX)]) v2 rfl h9 (by (repeat' (first|exact c_|refine d_ ?_ ?_))<;>first|(simp only[go_sem,dc,lI]<;>rfl)|rfl) fun v3 H9 R=>?_;simp only[go_sem,O3,lI,S];refine aH (k+1,v3,H9) ⟨hlt,?_⟩ (by simp only; omega) (by (repeat' (first|exact c_|refine d_ ?_ ?_))<;>first|(simp only[go_sem,lI]<;>rfl)|rfl) b_;simp only;have ev:(aTI (k+1)).flatMap (eN f)=(aTI k).flatMap (eN f)++[(⟨0,cP f k 0,eJ f k⟩:bF)]++(aTI (f.aRX.length-1)).map (iR f k)++((aTI f.aRU.length).filter (okD f k)).map (dZ f k):=by rw[MW];unfold eN;simp[cP]
  rw[ev];exact R.wI 1
 ·have e:¬ (k:Int)<(f.aRW.length:Nat):=Om;have:k=f.aRW.length:=Om;subst this;simp only[go_sem,e];exact Up.up (by (repeat' (first|exact c_|refine d_ ?_ ?_))<;>first|(simp only[go_sem,lI]<;>rfl)|rfl) (hK v Z u)
theorem ajO {C:Ctx} (J:OT C) {K:cE} [Up K] (f:aD) (hV:VF f) (room:List Int) (o z N:Nat) (pre:List bF) (B:pre.length≤900000) {F:PF} {H:PH} (v:PV)
  (j:aM H [(o,bY N v),(z,fX)] [(v,4,pre.map bF.cells)])
  (O:((((((PF.nil.set 2 (.bN f.cells)).set 4 (.ptr z 4 0 0)).set 6 (.ptr o 4 0 0)).set 12 (.sl 1 (cQ (kM f room)))).set 13 (.int .i64 0))).le F)
  (R:∀ v' H',aM H' [(o,bY N v'),(z,fX)] [(v',4,(pre++(aTI f.aRU.length).map (lF f room)).map bF.cells)]→K (.exit 6) (((PF.nil.set 4 (.ptr z 4 0 0)).set 6 (.ptr o 4 0 0))) H'):aC.wp C (.loop dg) K F H:=by
 have E:=hV.small;have S:=E.aRU;refine wp_loop (α:=Nat × PV × PH) (fun s=>(((((PF.nil.set 2 (.bN f.cells)).set 4 (.ptr z 4 0 0)).set 6 (.ptr o 4 0 0)).set 12 (.sl 1 (cQ (kM f room)))).set 13 (.int .i64 (s.1:Nat)))) (fun s=>s.2.2) (fun s=>s.1≤f.aRU.length∧aM s.2.2 [(o,bY N s.2.1),(z,fX)] [(s.2.1,4,(pre++(aTI s.1).map (lF f room)).map bF.cells)]) (fun s=>f.aRU.length-s.1) (0,v,H) ⟨aTQ _,by simpa using j⟩ O b_ ?_;rintro⟨i,v,I⟩ ⟨hi,j⟩;simp only at hi j;simp only[go_sem,dg,O6,aTJ];by_cases hlt:i<f.aRU.length
 ·have e:(i:Int)<(f.aRU.length:Nat):=Om;have x:=wZz i;have y:i<(kM f room).length:=by rw[oP]; exact hlt
  have l:=JG y;obtain⟨r1,r2⟩:=uN hV room hlt;rw[LL,← r2] at l;have A:=j.at 0 rfl;simp only[go_sem,e];refine bC (PH.nil.set o (bY N v)) (quS f) (e_ a_ A) ?_;simp only[go_sem,O7];refine Ff J E (i:=i) Om Sq (e_ a_ A) ?_;simp only[go_sem,l,hY,oP,e];refine yC (lF f room i) j (by rw[aTM,aTJ,aVY]; omega) fun q n U w=>?_;refine⟨e_ a_ (w.at 0 rfl),?_⟩;have u:=w.at 0 rfl;refine bC .nil cX a_ ?_;simp only[go_sem,O8,u];refine⟨a_,?_⟩;have M:=w.set 0 rfl (bY N (.osl q 4 0 n));simp only[go_sem,O9,x];refine aH (i+1,.osl q 4 0 n,_) ⟨hlt,?_⟩ (by simp only; omega) Lq b_;simp only;rw[HP];exact M
 ·have e:¬ (i:Int)<(f.aRU.length:Nat):=Om;have:i=f.aRU.length:=Om;subst this;simp only[go_sem,e];exact Up.up Lq (R v I j)
theorem aGH {C:Ctx} (l:OT C) (f:aD) (y:f.Ok) (room:List Int) :
  SE.wp C (aR ut.res (cB (uF f room))) (PF.args [.agg f.cells,ints room]) .nil:=by
 simp only[go_sem,SE,abM,ut];refine aO fun z N=>?_;simp only[go_sem,abN];refine aA (l.qvalid f y) Sq ?_;have x:aM (PH.nil.set z fX) [(z,fX)] []:=aM.nil.new N fX;generalize (PH.nil.set z fX)=R at *
 have I:=x.at 0 rfl;cases j:dA f with
 | false =>simp only[go_sem,aTZ,abO,I];rw[uF,tx j,GY j];have J:=(x.set 0 rfl fX).kS 4;refine oH (vs:=[.agg [.int .i64 0,.int .i64 0,.int .i64 0,.aB],.int .i64 1]) (.inr rfl) Sq ?_;exact UG J
 | true =>
  have hV:=VF.of j;have w:=hV.small;rw[uF,AC j,tA j];simp only[go_sem,aTV,abP,aTJ];refine aA (l.drv f w f.aRU.length (by have:=w.aRU; omega)) Sq ?_;simp only[go_sem];refine x.vG fun o E A=>?_;have g4:=A.at 1 rfl;have h5:=A.set 1 rfl (bY (bL f f.aRU.length) .aB);simp only[go_sem,g4];generalize E.set o (.rows 4 [[.int .i64 ((bL f f.aRU.length:Nat):Int),.int .i64 0,.int .i64 1,.aB]])=F at *
  have K:aM F [(o,bY (bL f f.aRU.length) .aB),(z,fX)] [(.aB,4,[])]:=by refine (h5.kS 4).perm ?_ (aVX.refl _);exact (List.reverse_perm _).symm
  simp only[go_sem,abQ];refine aqA l f y hV room o z _ K (by (repeat' (first|exact c_|refine d_ ?_ ?_))<;>first|(simp only[go_sem,lI]<;>rfl)|rfl) fun O S h7=>?_;have u:=l.qroom f room y;rw[CV,if_pos j] at u;simp only[go_sem,O4,lI];refine aA u Sq ?_;simp only[go_sem,O5];refine ajO l f hV room o z _ ((aTI f.aRW.length).flatMap (eN f)) (by have:=xM w f.aRW.length; have:=w.aRW; omega) O h7 Lq fun B U h8=>?_;have a7:=h8.at 0 rfl;have a4:=h8.at 1 rfl;have M:=h8.set 1 rfl (bY (bL f f.aRU.length) B);simp only[go_sem,Pa,a7,a4];refine⟨_,if_pos ?_,?_⟩
  ·rcases h8.own 0 rfl with ⟨_,e⟩ | ⟨q,rs,e,_⟩<;>rw[e]
  refine oH (vs:=[.agg [.int .i64 ((bL f f.aRU.length:Nat):Int),.int .i64 0,.int .i64 1,B],.int .i64 0]) (.inr rfl) Sq ?_;exact UG M
theorem aBC {C:Ctx} (n:cJ) (u:n.arcs.length≤2500):NL.wp C (aR alR.res (aI (.bool true))) (PF.args [.agg n.cells,.agg n.cells]) .nil:=by
 have a1:=bV (show (n.nodes:Int)=n.nodes from rfl);have a2:=bV (show (n.source:Int)=n.source from rfl);have a3:=bV (show (n.sink:Int)=n.sink from rfl);have a4:=bV (show (n.arcs.length:Int)=n.arcs.length from rfl);simp only[go_sem,NL,Tt,alR,Tu,a1,a2,a3,aTJ,a4,Tv];refine wp_loop (α:=Nat) (fun k=>(((PF.nil.set 2 (.bN n.cells)).set 3 (.bN n.cells)).set 5 (.int .i64 (k:Nat)))) (fun _=>.nil) (fun k=>k≤n.arcs.length) (fun k=>n.arcs.length-k) 0 (aTQ _) Lq a_ ?_;intro k l;simp only[go_sem,Ts,Tw,aTJ];by_cases hlt:k<n.arcs.length
 ·have e:(k:Int)<(n.arcs.length:Nat):=Om;have j:∀ x:Nat,(((x:Nat):Int)==((x:Nat):Int))=true:=fun x=>bP rfl;simp only[go_sem,e];refine bC .nil cX a_ ?_;simp only[go_sem,Tx,TY hlt,j,beq_self_eq_true,Bool.and_self,aVK,aTV];simp only[go_sem,Tz,wZz k];exact aH (k+1) hlt Om Lq a_
 ·have e:¬ (k:Int)<(n.arcs.length:Nat):=Om;simp only[go_sem,e,T0];refine aQ (.inr rfl) Ev ?_;rfl
structure WO where
 z:Nat
 n:Nat
 c:Nat
def sS (f:aD) (S:Nat→Bool) (e:WO) (k:Nat):PF:=(((((((PF.nil.set 2 (.bN f.cells)).set 4 (.ptr e.z 3 0 0)).set 10 (.sl 1 (bK ((aTI (bL f f.aRU.length)).map S)))).set 12 (.ptr e.n 2 0 0)).set 13 (.ptr e.c 3 0 0)).set 48 (.int .i64 (f.aRW.length:Nat))).set 49 (.int .i64 (k:Nat)))
def vl (f:aD) (S:Nat→Bool) (e:WO) (k:Nat) (w:PV) (i:Nat):PF:=(((sS f S e k).set 14 (.int .i64 (k:Nat))).set 15 w).set 16 (.int .i64 ((i+1:Nat):Int))
def TO (f:aD) (S:Nat→Bool) (e:WO) (k:Nat):PF:=((((((PF.nil.set 4 (.ptr e.z 3 0 0)).set 10 (.sl 1 (bK ((aTI (bL f f.aRU.length)).map S)))).set 12 (.ptr e.n 2 0 0)).set 13 (.ptr e.c 3 0 0)).set 93 (.int .i64 (f.aRU.length:Nat))).set 94 (.int .i64 (k:Nat)))
theorem auL {C:Ctx} (U:mF C) {K:cE} [Up K] (f:aD) (hV:VF f) (S:Nat→Bool) (e:WO) (k:Nat) (hk:k<f.aRW.length) (y L1:LI) (B:List BX) (w:PV) (x:∃ q n,w=.osl q 1 0 n) {F:PF} {H:PH}
  (Z:B[0]?=some (e.n,fI f)) (l:aM H B [y,L1,(w,1,[])]) (hF:(vl f S e k w 0).le F)
  (hK:∀ u H',(∃ q n,u=.osl q 1 0 n)→aM H' B [y,L1,(u,1,bK (tV f S k (f.aRX.length-1)))]→K (.exit 2) ((sS f S e k).set 15 u) H'):aC.wp C (.loop ZD) K F H:=by
 have E:=hV.small;have R:=hV.root;have β:=E.aRX;have γ:=E.aRW;refine wp_loop (α:=Nat × PV × PH) (fun s=>vl f S e k s.2.1 s.1) (fun s=>s.2.2) (fun s=>s.1+1≤f.aRX.length∧(∃ q n,s.2.1=.osl q 1 0 n)∧aM s.2.2 B [y,L1,(s.2.1,1,bK (tV f S k s.1))]) (fun s=>f.aRX.length-s.1) (0,w,H) ⟨by have:=R.1; omega,x,l⟩ hF b_ ?_;rintro⟨i,w,N⟩ ⟨hi,x,l⟩;simp only at hi x l;simp only[go_sem,ZD,Hn,vl,sS,aTJ];by_cases hlt:i+1<f.aRX.length
 ·have j:((i+1:Nat):Int)<(f.aRX.length:Nat):=Om;have A:=dM (Om:i+1<9223372036854775807);have Y:N e.n=some (fI f):=l.at 0 Z;obtain⟨d1,V⟩:=iJ hV hk hlt;have W:cP f k (i+1)<bL f f.aRU.length:=Nat.lt_of_lt_of_le V (by unfold bL; omega);have X:((cP f k (i+1):Nat):Int)<((bL f f.aRU.length:Nat):Int):=Om;have I:=ep (S:=S) W;have M:(tV f S k i).length=i:=by simp[tV]
  simp only[go_sem,j,Ho,Y];refine aA (U.dom f E R.1 k (i+1) Om Om) Sq ?_;simp only[go_sem,aTJ,aVY,X,I];refine l.append 2 (src:=[[.bool (S (cP f k (i+1)))]]) rfl Sq (by unfold roomFor; rw[jO,M]; simp only[aTT,maxLen]; omega) fun u H' O J=>?_;obtain⟨q,hq⟩:=J (by simp);rw[HR,show tV f S k i++[S (cP f k (i+1))]=tV f S k (i+1) from (qV _ _).symm] at O;simp only[go_sem,Hp,A];exact aH (i+1,u,H') ⟨hlt,⟨q,_,hq⟩,O⟩ (by simp only; omega) (by (repeat' (first|exact c_|refine d_ ?_ ?_))<;>first|(simp only[go_sem,vl,sS]<;>rfl)|rfl) b_
 ·have j:¬ ((i+1:Nat):Int)<(f.aRX.length:Nat):=Om;have:i=f.aRX.length-1:=Om;subst this;simp only[go_sem,j];exact Up.up (by (repeat' (first|exact c_|refine d_ ?_ ?_))<;>first|(simp only[go_sem,vl,sS]<;>rfl)|rfl) (hK w N x l)
theorem anJ {C:Ctx} (Lb:mF C) {K:cE} [Up K] (f:aD) (hV:VF f) (S:Nat→Bool) (e:WO) {F:PF} {H:PH}
  (I:aM H [(e.n,fI f),(e.c,gV .aB .aB .aB),(e.z,gV .aB .aB .aB)] [(.aB,1,[]),(.aB,1,[])]) (hF:(sS f S e 0).le F)
  (hK:∀ M A j H',pB j (UB f S f.aRW.length)→aM H' [(e.n,fI f),(e.c,gV M A .aB),(e.z,gV .aB .aB .aB)] [(M,1,bK (DN f S f.aRW.length)),(A,1,j)]→K (.exit 0) (sS f S e f.aRW.length) H'):aC.wp C (.loop ZE) K F H:=by
 have hs:=hV.small;have hr:=hV.root;have ξ:=hs.aRX;have ο:=hs.aRW;have Z:(f.aRX.length:Int)*((1:Nat):Int)≤140737488355328:=Om;have β:(f.aRX.length:Int)≤9223372036854775807:=Om;have γ:(0:Int)≤(f.aRX.length:Int):=Om;refine wp_loop (α:=Nat × PV × PV × List (List PV) × PH) (fun s=>sS f S e s.1) (fun s=>s.2.2.2.2) (fun s=>s.1≤f.aRW.length∧pB s.2.2.2.1 (UB f S s.1)∧aM s.2.2.2.2 [(e.n,fI f),(e.c,gV s.2.1 s.2.2.1 .aB),(e.z,gV .aB .aB .aB)] [(s.2.1,1,bK (DN f S s.1)),(s.2.2.1,1,s.2.2.2.1)]) (fun s=>f.aRW.length-s.1) (0,.aB,.aB,[],H) ⟨aTQ _,.nil,I⟩ hF b_ ?_;rintro⟨k,M,A,j,U⟩ ⟨hk,u,I⟩;simp only at hk u I;simp only[go_sem,ZE,Hh,sS];by_cases hlt:k<f.aRW.length
 ·have l:(k:Int)<(f.aRW.length:Nat):=Om;have ε:=wZz k;have d2:=(iJ hV hlt hr.1).2;have d3:2+k<bL f f.aRU.length:=by rw[amL] at d2; exact Nat.lt_of_lt_of_le d2 (by unfold bL; omega)
  have d4:((2+k:Nat):Int)<((bL f f.aRU.length:Nat):Int):=Om;have η:=ep (S:=S) d3;have θ:(DN f S k).length=k:=by simp[DN]
  have δ:j.length=k:=by rw[u.1]; simp[UB]
  have e6:U e.n=some (fI f):=I.at 0 rfl;have ec:U e.c=some (gV M A .aB):=I.at 1 rfl;simp only[go_sem,l,Hi];refine bC (PH.nil.set e.c (gV M A .aB)) (AN f [] (fun _ _=>True)) (e_ a_ ec) ?_;simp only[go_sem,Hj,e6];refine Fe Lb (v:=k) Om Sq (e_ a_ ec) ?_;simp only[go_sem,aTJ,aVY,d4,η];refine I.append 0 (src:=[[.bool (S (2+k))]]) rfl Sq (by unfold roomFor; rw[jO,θ]; simp only[aTT,maxLen]; omega) fun ρ H1 R J=>?_;obtain⟨y,N⟩:=J (by simp);rw[HR,show DN f S k++[S (2+k)]=DN f S (k+1) from (qV _ _).symm] at R;refine⟨e_ a_ (R.at 1 rfl),?_⟩;refine bC .nil cX a_ ?_;have V:=R.at 1 rfl;generalize μ:((bK (DN f S k)++[[PV.bool (S (2+k))]]).length)=w at N;subst N;simp only[go_sem,Hk,V];refine⟨a_,?_⟩;have h2:=R.set 1 rfl (gV (.osl y 1 0 w) A .aB);generalize H1.set e.c (.rows 3 [[.osl y 1 0 w,A,.aB]])=H2 at *
  simp only[go_sem,Hl,aTJ,Z,β,γ,Int.le_refl,aWN];refine aO fun qr ζ=>?_;have h3:=h2.t6 (s:=1) (rows:=[]) ζ;simp only[go_sem,Hm];refine auL Lb f hV S e k hlt _ _ _ (.osl qr 1 0 0) ⟨_,_,rfl⟩ rfl h3 (by (repeat' (first|exact c_|refine d_ ?_ ?_))<;>first|(simp only[go_sem,vl,sS]<;>rfl)|rfl) fun w' H4 ι Y=>?_;obtain⟨q,n,rfl⟩:=ι;have W:=Y.at 1 rfl;have hn:n=(bK (tV f S k (f.aRX.length-1))).length:=by obtain⟨rs,-,e2,-⟩:=(Y.own 2 rfl).id rfl;injection e2
  simp only[go_sem,Hq,sS,W];refine Y.append 1 (src:=[[.osl q 1 0 n]]) rfl Sq (by unfold roomFor; rw[δ]; simp only[aTT,maxLen]; omega) fun κ H5 h5 J=>?_;obtain⟨E,O⟩:=J (by simp);have X:=h5.at 1 rfl;generalize ν:(j++[[PV.osl q 1 0 n]]).length=B at O;subst O;have h6:=h5.set 1 rfl (gV (.osl y 1 0 w) (.osl E 1 0 B) .aB);simp only[go_sem,X];generalize H5.set e.c (.rows 3 [[.osl y 1 0 w,.osl E 1 0 B,.aB]])=H6 at *
  refine⟨_,if_pos (fun x hx=>by rw[aUY] at hx; subst hx; rfl),?_⟩;subst hn;obtain⟨rs,z1,z2,z3,z4,z5⟩:=h6.frz 2 rfl;have y0:=z4 0 _ (by decide) rfl;have y1:=z4 1 _ (by decide) rfl;simp only at y0 y1;simp only[go_sem,Hr,ε];refine QK (k+1,PV.osl y 1 0 w,PV.osl E 1 0 B,j++[[lD (tV f S k (f.aRX.length-1))]],H6.frz q 1 rs) z1 ⟨hlt,?_,?_⟩ (by simp only; omega) (by (repeat' (first|exact c_|refine d_ ?_ ?_))<;>first|(simp only[go_sem,sS]<;>rfl)|rfl) b_
  ·simp only;rw[show UB f S (k+1)=UB f S k++[tV f S k (f.aRX.length-1)] from qV _ _];exact u.snoc (.inl rfl)
  ·simp only;have eB:([(e.n,fI f),(e.c,gV (.osl y 1 0 w) (.osl E 1 0 B) .aB),(e.z,gV .aB .aB .aB)]:List BX).map (fun b=>(b.1,b.2.frz q 1 rs))=[(e.n,fI f),(e.c,gV (.osl y 1 0 w) (.osl E 1 0 B) .aB),(e.z,gV .aB .aB .aB)]:=by show [(e.n,fI f),(e.c,bO.rows 3 [[PV.cH q 1 rs (.osl y 1 0 w),PV.cH q 1 rs (.osl E 1 0 B),.aB]]),(e.z,gV .aB .aB .aB)]=_;rw[y0,y1]
   have e5:(j++[[PV.osl q 1 0 (bK (tV f S k (f.aRX.length-1))).length]]).map (fun r=>r.map (PV.cH q 1 rs))=j++[[lD (tV f S k (f.aRX.length-1))]]:=by rw[aUX,u.flat];show j++[[PV.cH q 1 rs (.osl q 1 0 (bK (tV f S k (f.aRX.length-1))).length)]]=_;rw[z2]
   have z6:aM (H6.frz q 1 rs) ([(e.n,fI f),(e.c,gV (.osl y 1 0 w) (.osl E 1 0 B) .aB),(e.z,gV .aB .aB .aB)].map (fun b=>(b.1,b.2.frz q 1 rs))) [(.osl y 1 0 w,1,(bK (DN f S (k+1))).map fun r=>r.map (PV.cH q 1 rs)),(.osl E 1 0 B,1,(j++[[PV.osl q 1 0 (bK (tV f S k (f.aRX.length-1))).length]]).map fun r=>r.map (PV.cH q 1 rs))]:=z5;rw[eB,e5,HQ] at z6;exact z6
 ·have l:¬ (k:Int)<(f.aRW.length:Nat):=Om;have:k=f.aRW.length:=Om;subst this;simp only[go_sem,l];exact Up.up (by (repeat' (first|exact c_|refine d_ ?_ ?_))<;>first|(simp only[go_sem,sS]<;>rfl)|rfl) (hK M A j U u I)
theorem anI {C:Ctx} (Y:mF C) {K:cE} [Up K] (f:aD) (hV:VF f) (S:Nat→Bool) (e:WO) (E:LI) (l x:PV) (J:List (List PV)) {F:PF} {H:PH}
  (u:aM H [(e.n,fI f),(e.c,gV x l .aB),(e.z,gV .aB .aB .aB)] [E,(l,1,J),(.aB,1,[])]) (hF:(TO f S e 0).le F)
  (hK:∀ w H',aM H' [(e.n,fI f),(e.c,gV x l w),(e.z,gV .aB .aB .aB)] [E,(l,1,J),(w,1,bK (PE f S f.aRU.length))]→K (.exit 4) (TO f S e f.aRU.length) H'):aC.wp C (.loop ZF) K F H:=by
 have V:=hV.small;have γ:=V.aRU;refine wp_loop (α:=Nat × PV × PH) (fun s=>TO f S e s.1) (fun s=>s.2.2) (fun s=>s.1≤f.aRU.length∧aM s.2.2 [(e.n,fI f),(e.c,gV x l s.2.1),(e.z,gV .aB .aB .aB)] [E,(l,1,J),(s.2.1,1,bK (PE f S s.1))]) (fun s=>f.aRU.length-s.1) (0,.aB,H) ⟨aTQ _,u⟩ hF b_ ?_;rintro⟨k,w,B⟩ ⟨hk,u⟩;simp only at hk u;simp only[go_sem,ZF,Hu,TO];by_cases hlt:k<f.aRU.length
 ·have j:(k:Int)<(f.aRU.length:Nat):=Om;have M:=wZz k;have Z:bL f k<bL f f.aRU.length:=by unfold bL; omega
  have d4:((bL f k:Nat):Int)<((bL f f.aRU.length:Nat):Int):=Om;have N:=ep (S:=S) Z;have R:(PE f S k).length=k:=by simp[PE]
  have e6:B e.n=some (fI f):=u.at 0 rfl;have U:B e.c=some (gV x l w):=u.at 1 rfl;simp only[go_sem,j,Hv];refine bC (PH.nil.set e.c (gV x l w)) (AN f [] (fun _ _=>True)) (e_ a_ U) ?_;simp only[go_sem,Hw,e6];refine AQ Y V (i:=k) Om Sq (e_ a_ U) ?_;simp only[go_sem,aTJ,aVY,d4,N];refine u.append 2 (src:=[[.bool (S (bL f k))]]) rfl Sq (by unfold roomFor; rw[jO,R]; simp only[aTT,maxLen]; omega) fun δ H1 A O=>?_;obtain⟨X,y⟩:=O (by simp);rw[HR,show PE f S k++[S (bL f k)]=PE f S (k+1) from (qV _ _).symm] at A;refine⟨e_ a_ (A.at 1 rfl),?_⟩;refine bC .nil cX a_ ?_;have I:=A.at 1 rfl;generalize β:((bK (PE f S k)++[[PV.bool (S (bL f k))]]).length)=W at y;subst y;simp only[go_sem,Hx,I];refine⟨a_,?_⟩;have h2:=A.set 1 rfl (gV x l (.osl X 1 0 W));simp only[go_sem,Hy,M];exact aH (k+1,.osl X 1 0 W,_) ⟨hlt,h2⟩ (by simp only; omega) (by (repeat' (first|exact c_|refine d_ ?_ ?_))<;>first|(simp only[go_sem,TO]<;>rfl)|rfl) b_
 ·have j:¬ (k:Int)<(f.aRU.length:Nat):=Om;have:k=f.aRU.length:=Om;subst this;simp only[go_sem,j];exact Up.up (by (repeat' (first|exact c_|refine d_ ?_ ?_))<;>first|(simp only[go_sem,TO]<;>rfl)|rfl) (hK w B u)
theorem aDL {C:Ctx} (x:OR C) (f:aD) (hf:f.Ok) (room:List Int) :
  PX.wp C (aR auK.res (asZ f room)) (PF.args [.agg f.cells,ints room]) .nil:=by
 simp only[go_sem,PX,W4,auK];refine aO fun z hz=>?_;have h0:aM (PH.nil.set z (gV .aB .aB .aB)) [(z,gV .aB .aB .aB)] []:=aM.nil.new hz (gV .aB .aB .aB);generalize (PH.nil.set z (.rows 3 [[.aB,.aB,.aB]]))=H0 at *
 simp only[go_sem,W5];refine aA (x.net f room hf) Sq ?_;simp only[go_sem,uF];refine h0.vG fun q H1 Y=>?_;have q1:=Y.at 1 rfl;have y:=Y.set 1 rfl (pR (vQ f room));simp only[go_sem,q1];generalize H1.set q (.rows 4 [(vQ f room).cells])=H2 at *
 have q2:=y.at 1 rfl;have z2:=y.at 0 rfl;have no:∀ (F:PF) (H:PH),aM H [(z,gV .aB .aB .aB),(q,pR (vQ f room))] []→F 4=some (.ptr z 3 0 0)→F 5=some (.bool false)→aR [.cell 4 (some 3),.tmp 5] (cB (.tup [.agg (fS.cells Fd),.bool false])) .ret F H:=by intro F H h f4 f5;have e0:=h.at 0 rfl;have h':aM H [] [(.aB,1,bK []),(.aB,1,[]),(.aB,1,bK [])]:=(((h.sub (List.nil_sublist _) (aVO.refl _)).kS 1).kS 1).kS 1;exact Pm (.inr rfl) (by simp only[go_sem,f4,f5,e0]) .nil h'
 cases w:dA f with
 | false =>simp only[go_sem,sm,GY w,W6,z2];refine aAT (c:=Fd) (b:=false) (.inl ⟨w,rfl,rfl⟩) ?_;exact no _ _ (y.set 0 rfl (gV .aB .aB .aB)) Sq Sq
 | true =>
  have hV:=VF.of w;have hs:=hV.small;have hn:=GZ hV room;have O:=q2;rw[AC w] at O;simp only[go_sem,sm,tA w,W7,O];refine eO (x.solve _ hn) Sq a_ ?_;rintro r H' ⟨xs,S,M,u,A,B,rfl,rfl⟩ -;rw[PH.nJ];have I:=mw hV M u A B;have α:=aKD hV M;simp only[go_sem,W8];refine aA (x.demand f hV) Sq ?_;by_cases E:jB (eE f room) xs=((nY f:Nat):Int)
  ·simp only[go_sem,bP E,W9,z2];refine aAT (c:=Fd) (b:=false) (.inr (.inl ⟨w,I.1 Om,rfl,rfl⟩)) ?_;exact no _ _ (y.set 0 rfl (gV .aB .aB .aB)) Sq Sq
  ·have J:¬ AI f room:=fun h=>I.2 h Om;simp only[go_sem,bE E,Xa,aTJ];refine y.vG fun e H3 Z=>?_;have g3:=Z.at 2 rfl;have h4:=Z.set 2 rfl (fI f);simp only[go_sem,g3];generalize H3.set e (.rows 2 [[.int .i64 (f.aRW.length:Nat),.int .i64 (f.aRX.length:Nat)]])=H4 at *
   simp only[go_sem,Xb];refine h4.vG fun j H5 h5=>?_;have h6:aM H5 [(e,fI f),(j,gV .aB .aB .aB),(z,gV .aB .aB .aB)] [(.aB,1,[]),(.aB,1,[])]:=by refine ((((h5.wI 1).kS 1).kS 1).perm ?_ (aVX.refl _));exact List.perm_append_comm (l₁:=[(z,gV .aB .aB .aB)]) (l₂:=[(e,fI f),(j,gV .aB .aB .aB)])
   simp only[go_sem,Xc,aTJ];refine anJ x.tomF f hV S ⟨z,e,j⟩ h6 (by (repeat' (first|exact c_|refine d_ ?_ ?_))<;>first|(simp only[go_sem,sS]<;>rfl)|rfl) fun R U fs H6 N h7=>?_;simp only[go_sem,Ht,sS,aTJ];refine anI x.tomF f hV S ⟨z,e,j⟩ (R,1,bK (DN f S f.aRW.length)) U R fs (h7.kS 1) (by (repeat' (first|exact c_|refine d_ ?_ ?_))<;>first|(simp only[go_sem,TO]<;>rfl)|rfl) fun rv H7 h8=>?_;have ec:=h8.at 1 rfl;have ez:=h8.at 2 rfl;have K:=h8.set 2 rfl (gV R U rv);simp only[go_sem,Hz,TO,ec,ez];have l:=asF hV M (S:=S) A B u J;rw[atN] at l;refine⟨_,if_pos ?_,?_⟩
   ·rcases K.own 0 rfl with ⟨_,V⟩ | ⟨q1,rs1,V,_⟩<;>rcases K.own 1 rfl with ⟨_,W⟩ | ⟨q2,rs2,W,_⟩<;>rcases K.own 2 rfl with ⟨_,X⟩ | ⟨O,rs3,X,_⟩<;>rw[V,W,X]<;>rfl
   refine aAT (b:=true) (.inr (.inr ⟨w,J,l,rfl⟩)) ?_;exact Pm (.inr rfl) Sq N (K.sub (List.nil_sublist _) (aVO.refl _))
theorem aDB {C : Ctx} (f : aD) (hV : VF f) : PP.wp C (aR auD.res (aI (.int .i64 ((nY f : Nat) : Int)))) (PF.args [.agg f.cells]) .nil := by
  have hs := hV.small.aRW;simp only[go_sem,PP,Wd,We,Wf,auD,aTJ];refine wp_loop (α := Nat) (fun k => (((((PF.nil.set 1 (.bN f.cells)).set 3 (.int .i64 ((cK (eJ f) k : Nat) : Int))).set 7 (.sl 2 (f.aRW.map fE.cells))).set 8 (.int .i64 (f.aRW.length : Nat))).set 9 (.int .i64 (k : Nat)))) (fun _ => .nil) (fun k => k ≤ f.aRW.length) (fun k => f.aRW.length - k) 0 (aTQ _) (by (repeat' (first|exact c_|refine d_ ?_ ?_)) <;> first|(simp only[go_sem,cK] <;> rfl)|rfl) a_ ?_;intro k hk;simp only[go_sem,Wc,Wg];by_cases hlt : k < f.aRW.length
  · have aSB : (k : Int) < (f.aRW.length : Nat) := Om
    obtain ⟨b1, b2, b3, -⟩ := kG hV hlt;have b4 := U9 hV k hk;obtain ⟨hp, he⟩ := nL hV hlt;have hpol := hV.aSH _ (aTN hp);rw [he] at hpol;have e0 : IntKind.i64.wrap ((bZ f k).k + (bZ f k).m) = mR f k := wrap_i64 Om Om;have e : IntKind.i64.wrap (((cK (eJ f) k : Nat) : Int) + mR f k) = ((cK (eJ f) (k + 1) : Nat) : Int) := by rw [cK, ← b3, wrap_i64 Om Om]; omega
    simp only[go_sem,aSB,Wh,uT hlt];refine aO fun o ho => ?_;simp only[go_sem];refine bC .nil cX a_ ?_;simp only[go_sem,Wi,hV.SB hlt,pI hp,he,e0,e,se,wZz k]
    first
      | exact aH (k + 1) hlt Om Lq a_
      | (refine ⟨a_, ?_⟩
         simp only[go_sem,se,wZz k];exact aH (k + 1) hlt Om Lq a_)
  · have aSB : ¬ (k : Int) < (f.aRW.length : Nat) := Om
    have : k = f.aRW.length := Om;subst this;simp only[go_sem,aSB,Wj];refine aQ (.inr rfl) Ev ?_;rfl
structure cD (C:Ctx):Prop where
 r0:bG C 0 Lx
 r1:bG C 1 aiJ
 r2:bG C 2 awP
 r4:bG C 4 D8
 r5:bG C 5 awY
 r7:bG C 7 D7
 r27:bG C 27 K9
 r28:bG C 28 awT
 r29:bG C 29 aiM
 r30:bG C 30 azG
 r31:bG C 31 akI
 r32:bG C 32 azJ
 r33:bG C 33 udiv
 r34:bG C 34 azO
 r35:bG C 35 akP
 r36:bG C 36 azR
 r37:bG C 37 azZ
 r38:bG C 38 akT
 r39:bG C 39 va
 r40:bG C 40 akN
 r41:bG C 41 Rr
 r42:bG C 42 Ru
 r43:bG C 43 akR
 r44:bG C 44 R1
 r45:bG C 45 uup
 r46:bG C 46 akU
 r47:bG C 47 aAH
 r48:bG C 48 Sg
 r49:bG C 49 alA
 r50:bG C 50 Ef
 r51:bG C 51 Sr
 r52:bG C 52 vi
 r53:bG C 53 alF
 r54:bG C 54 alG
 r55:bG C 55 aAS
 r56:bG C 56 S3
 r57:bG C 57 akX
 r58:bG C 58 vh
 r59:bG C 59 alH
 r60:bG C 60 S1
 r61:bG C 61 LP
 r62:bG C 62 vn
 r63:bG C 63 S4
 r64:bG C 64 vm
 r65:bG C 65 vp
 r66:bG C 66 aBB
 r67:bG C 67 T3
 r68:bG C 68 aAZ
 r69:bG C 69 aAV
 r70:bG C 70 Tc
 r71:bG C 71 Td
 r72:bG C 72 gg
 r73:bG C 73 T1
 r74:bG C 74 T2
 r75:bG C 75 vw
 r76:bG C 76 VC
 r77:bG C 77 d9
 r82:bG C 82 ajY
 r85:bG C 85 akE
 r88:bG C 88 Pv
 r95:bG C 95 auX
 r96:bG C 96 avI
 r97:bG C 97 Ic
 r98:bG C 98 ahD
 r99:bG C 99 ahE
 r100:bG C 100 ahF
 r101:bG C 101 gone
 r102:bG C 102 ahJ
 r103:bG C 103 I7
 r104:bG C 104 gin
 r105:bG C 105 auY
 r106:bG C 106 auZ
 r107:bG C 107 ahL
 r108:bG C 108 ahM
 r109:bG C 109 Jl
 r110:bG C 110 ahP
 r111:bG C 111 ahH
 r112:bG C 112 avC
 r113:bG C 113 r8
 r114:bG C 114 auC
 r115:bG C 115 D3
 r116:bG C 116 UF
 r117:bG C 117 Hd
 r118:bG C 118 Hg
 r119:bG C 119 auA
 r120:bG C 120 vH
 r121:bG C 121 Hf
 r122:bG C 122 ahB
 r123:bG C 123 D4
 r124:bG C 124 jn
 r125:bG C 125 jp
 r126:bG C 126 UM
 r127:bG C 127 awZ
 r128:bG C 128 aiR
 r129:bG C 129 axD
 r130:bG C 130 axE
 r131:bG C 131 axI
 r132:bG C 132 ajG
 r133:bG C 133 axM
 r134:bG C 134 axO
 r135:bG C 135 ajI
 r136:bG C 136 tu
 r137:bG C 137 Np
 r138:bG C 138 HA
 r139:bG C 139 cq
 r140:bG C 140 N2
 r141:bG C 141 N3
 r142:bG C 142 RJ
 r143:bG C 143 nup
 r152:bG C 152 akH
 r156:bG C 156 akG
 r161:bG C 161 Qy
 r282:bG C 282 axS
 r283:bG C 283 aiX
 r284:bG C 284 axF
 r285:bG C 285 axA
 r286:bG C 286 auI
 r287:bG C 287 auD
 r288:bG C 288 G9
 r289:bG C 289 auK
 r290:bG C 290 auB
 r291:bG C 291 aiN
 r292:bG C 292 Mv
 r293:bG C 293 awC
 r294:bG C 294 D6
 r295:bG C 295 D5
 r296:bG C 296 Mt
 r297:bG C 297 avY
 r298:bG C 298 Mu
 r304:bG C 304 D9
 r305:bG C 305 ayC
 r306:bG C 306 Pd
 r307:bG C 307 ut
 r312:bG C 312 Ta
 r313:bG C 313 alR
namespace Z
theorem qX {C:Ctx} (c:cD C):rT C :=
 have len:∀ xs,Lim xs→xs.length≤35184372087808→aG C 138 [aK xs] .nil (aI (.int .i64 (nl (val xs):Nat))):=fun xs h l=>c.r138.go (ajE xs h l) rfl
 {length:=len
  large:=fun xs h l=>c.r137.go (aoW xs (len xs h l)) rfl
  sized:=fun xs h l=>(c.r141.go (apB xs h (len xs h l)) rfl).seen
  trim:=fun xs h l=>(c.r135.go (axP xs h l (len xs h l)) rfl).seen
  make:=fun v h=>c.r132.go (axK v h len) rfl
  cmp:=fun xs x e j u w=>c.r129.go (aFH xs x e j u w (len xs e u) (len x j w)) rfl }
theorem aFB {C:Ctx} (c:cD C):Dy C :=
 {subtract:=fun A W Z v f o hW u l j w e=>c.r142.go (N9 A W Z v f hW u l j w e o) rfl
  restore:=fun A W Z v o hW u l j=>c.r139.go (Ul A W Z v hW u l j o) rfl }
theorem aiP {C:Ctx} (c:cD C):Eo C :=
 {L:=qX c
  D:=aFB c
  up:=fun a s j x e=>c.r143.go (aJL a s j x e) rfl
  short:=fun a d j l u e=>c.r140.go (aoZ (qX c) a d j l u e) rfl
  lengthO:=fun xs o y w=>c.r138.go (Uk xs y w o) rfl }
theorem ll {C:Ctx} (c:cD C) (A B:Nat) (hB:B≠0) (j:nl A≤900) (e:nl B≤900):aG C 136 [aK (aJ A),aK (aJ B)] .nil (aI (rJ A B)) :=
 (c.r136.go (aiV (aiP c) A B hB j e) rfl).seen
theorem sL {C:Ctx} (c:cD C):tQ C :=
 {qX c with
  bits:=fun xs h l=>c.r128.go (axB xs h l ((qX c).length xs h l)) rfl
  add:=fun xs x e j u w=>(c.r127.go (aFC (qX c) xs x e j u w) rfl).seen
  sub:=fun xs x e j u w=>(c.r134.go (aFV (qX c) xs x e j u w) rfl).seen
  mul:=fun xs x e j u w=>(c.r133.go (aFT (qX c) xs x e j u w) rfl).seen
  gcd:=fun xs x e j u w=>(c.r131.go (aFR (qX c) (ll c) xs x e j u w) rfl).seen
  div:=fun xs x e j u w=>(c.r130.go (aFJ (qX c) (ll c) xs x e j u w) rfl).seen }
theorem zU {C:Ctx} (c:cD C):HL C :=
 {sL c with
  times:=fun a b e hb j l u w=>c.r121.go (anE (sL c) a b e hb j l u w) rfl
  zero:=fun neg a b e j=>c.r122.go (auM (sL c) neg a b e j) rfl
  valid:=fun neg a b e hb j l=>c.r118.go (anG (sL c) neg a b e hb j l) rfl
  abs:=fun v y A=>c.r119.go (aCT (sL c) v y A) rfl
  lowest:=fun neg a b e hb j l u w x=>(c.r120.go (agU (sL c) neg a b e hb j l u w x) rfl).seen }
theorem Ha {C:Ctx} (c:cD C) (x y:RF) (e:x.Ok) (j:y.Ok):aG C 113 [.agg x.cells,.agg y.cells] .nil (aI (frV (iW x.v y.v))) :=
 (c.r113.go (aCV (zU c) x.neg y.neg x.num x.den y.num y.den e.1 e.2.1 j.1 j.2.1 e.2.2.1 e.2.2.2 j.2.2.1 j.2.2.2) rfl).seen
theorem sf {C:Ctx} (c:cD C):Dx C :=
 {zU c with
  frac:=fun n d A u=>(c.r115.go (auG (zU c) n d A.1 A.2 u.1 u.2) rfl).seen
  red:=fun x e=>by rw[← ajQ];exact (c.r116.go (agY (zU c) x.neg x.num x.den e.1 e.2.1 e.2.2.1 e.2.2.2) rfl).seen
  ord:=fun x y e j=>(c.r114.go (aCZ (zU c) x.neg y.neg x.num x.den y.num y.den e.1 e.2.1 j.1 j.2.1 e.2.2.1 e.2.2.2 j.2.2.1 j.2.2.2) rfl).seen
  plus:=Ha c
  tot:=fun l w=>(c.r117.go (aDJ (zU c) (Ha c) l w.all w.fits) rfl).seen }
theorem zT {C:Ctx} (c:cD C):tM C :=
 have inn:∀ n lo hi:Int,aG C 104 [.int .i64 n,.int .i64 lo,.int .i64 hi] .nil (aI (.bool (within n lo hi))):=fun n lo hi=>(c.r104.go (aJB n lo hi) rfl).seen;have rU:∀ x:RF,x.Ok→aG C 97 [.agg x.cells] .nil (aI (.bool (bJ x))):=fun x u=>(c.r97.go (anK (sL c) x u) rfl).seen;have lim:∀ x:RF,x.Ok→aG C 105 [.agg x.cells] .nil (aI (.bool (dB x))):=fun x u=>(c.r105.go (aDR (sf c) x u) rfl).seen;have e:∀ n:Nat,aG C 126 [.int .u8 n] .nil (aI (.bool (fJ n))):=fun n=>c.r126.go (aiE n) rfl;have j:∀ n:Nat,aG C 124 [.int .u8 n] .nil (aI (.bool (mZ n))):=fun n=>c.r124.go (anW n) rfl
 {sf c with
  inn:=inn
  rU:=rU
  lim:=lim
  one:=fun x u=>(c.r101.go (aDV (sf c) x u) rfl).seen
  allf:=fun p fn l w h=>(c.r99.go (auQ p fn l w h) rfl).seen
  alli:=fun p fn l w h=>(c.r100.go (auS p fn l w h) rfl).seen
  allb:=fun p fn l w h=>(c.r98.go (auO p fn l w h) rfl).seen
  ends1:=fun b=>(c.r103.go (anM b) rfl).seen
  num1:=fun n=>(c.r107.go (avA inn n) rfl).seen
  rate1:=fun x u=>(c.r109.go (anP lim rU x u) rfl).seen
  name:=fun s=>c.r123.go (avV e (fun n=>c.r125.go (aoB e j n) rfl) s) rfl }
theorem Ga {C:Ctx} (c:cD C):Ek C :=
 {zT c with
  num:=fun p e=>(c.r106.go (aDT (zT c) p e) rfl).seen
  rate:=fun p e=>(c.r108.go (avD (zT c) p e) rfl).seen
  uniq:=fun l j=>(c.r110.go (avG (zT c) l j) rfl).seen }
theorem Gb {C:Ctx} (c:cD C):gh C :=
 {Ga c with
  ends:=fun l e he=>(c.r102.go (auV (zT c) l e he) rfl).seen }
theorem auF {C:Ctx} (c:cD C):lN C :=
 {Gb c with
  law:=fun l j=>(c.r95.go (aDP (Gb c) l j) rfl).seen
  pol:=fun p n w u=>(c.r112.go (aDX (Ga c) p w n u) rfl).seen
  aSE:=fun f e=>(c.r111.go (aDN (zT c) f e) rfl).seen }
theorem wc {C:Ctx} (c:cD C) (f:aD) (e:f.Ok):aG C 96 [.agg f.cells] .nil (aI (.int .i64 (xZ f))):=(c.r96.go (aEA (auF c) f e) rfl).seen
theorem aGV {C:Ctx} (c:cD C):aBI C :=
 {valid:=fun f e=>(c.r161.go (aqZ (wc c) f e) rfl).seen
  Hb:=fun f v j h=>(c.r156.go (azA f j v h) rfl).seen }
theorem pJ {C:Ctx} (c:cD C):qN C:={ trimM:=fun xs h l=>c.r38.go (aAA xs h l) rfl }
theorem Pe {C:Ctx} (c:cD C):Eq C :=
 {pJ c with
  make:=fun v h=>(c.r35.go (azP (pJ c) v h) rfl).seen
  large:=fun xs h l=>(c.r41.go (arD (pJ c) xs h l) rfl).seen
  cmp:=fun xs x e j u w=>c.r32.go (aGY (pJ c) xs x e j u w) rfl }
theorem Pg {C:Ctx} (c:cD C):Es C :=
 {Pe c with
  minus:=fun a b j hb l w e=>(c.r42.go (arF (pJ c) a b j hb l w e) rfl).seen
  times:=fun a b j hb e u=>(c.r44.go (arH (pJ c) a b j hb e u) rfl).seen }
theorem dz {C:Ctx} (c:cD C):gr C :=
 {Pg c with
  plus:=fun a b l hb e j=>(c.r43.go (azW (pJ c) a b l hb e j) rfl).seen }
theorem ayF {C:Ctx} (c:cD C):OU C :=
 {dz c with
  bits:=fun xs h l=>c.r31.go (azH (pJ c) xs h l) rfl
  upM:=fun a n j e u w=>c.r45.go (aKB (pJ c) a n j e u w) rfl
  down:=fun a n j e u=>(c.r40.go (azM (pJ c) a n j e u) rfl).seen }
theorem dy {C:Ctx} (c:cD C):gp C :=
 {Pe c with
  divide:=fun A B hB j e=>(c.r39.go (akL (ayF c) A B hB j e) rfl).seen }
theorem Pf {C:Ctx} (c:cD C):Er C :=
 {dy c with
  gcd:=fun a b e hb j l=>(c.r34.go (aHC (dy c) a b e hb j l) rfl).seen
  div:=fun a b e hb j l=>(c.r33.go (aHA (dy c) a b e hb j l) rfl).seen }
theorem abW {C:Ctx} (c:cD C):afR C :=
 {Pf c with
  lowest:=fun neg a b l hb u w x y j=>(c.r58.go (alB (Pf c) neg a b l hb u w x y j) rfl).seen
  size:=fun v e=>c.r59.go (aAQ v e.1 e.2) rfl }
theorem LF {C:Ctx} (c:cD C):gq C :=
 {abW c with
  fmk:=fun n d j e=>(c.r50.go (aAK (abW c) n d j e) rfl).seen }
theorem td {C:Ctx} (c:cD C) (hi:AJ C):HM C :=
 {LF c with
  int:=fun n e=>(c.r47.go (aeG (LF c) n e) rfl).seen
  itoa:=hi
  next:=fun l v T o n a e j=>c.r4.go (awU T o n a e j) rfl }
theorem Md {C:Ctx} (c:cD C) (hi:AJ C):Em C :=
 {td c hi with
  frac:=fun l v T o a e=>c.r1.go (awI (td c hi) T o a e) rfl }
theorem Me {C:Ctx} (c:cD C) (hi:AJ C):tP C :=
 {Md c hi with
  rep:=fun l v T o a m j e=>c.r5.go (aEZ (Md c hi) T o a m j e) rfl
  name:=fun s n w u=>c.r29.go (awR (td c hi) s n w u) rfl }
theorem Mf {C:Ctx} (c:cD C) (hi:AJ C):nT C :=
 {Me c hi with
  law:=fun l v T o fD a u e j=>c.r2.go (aEV (Me c hi) T o fD a u e j) rfl }
theorem Mg {C:Ctx} (c:cD C) (hi:AJ C):En C :=
 {Mf c hi with
  grow:=fun l v T mc aRU e j u=>Jr (Mf c hi) T mc aRU e j u (fun args H R w h=>c.r7 args H R (by rw[w]; decide) h) 4 (aTO _) }
theorem awN {C:Ctx} (c:cD C) (hi:AJ C):alY C :=
 {Mg c hi with
  new:=fun l hb w=>c.r28.go (aEX l hb w) rfl
  fleet:=fun l v T o aRU aRW a e j u=>OQ.exact (c.r0.go (aoG (Mg c hi) T o aRU aRW a e j u) rfl) }
theorem uu {C:Ctx} (c:cD C):D0 C :=
 {LF c with
  int:=fun n u=>(c.r47.go (aeG (LF c) n u) rfl).seen
  mul:=fun a b e hb j l=>(c.r36.go (aHE (Pg c) a b e hb j l) rfl).seen
  add:=fun a b e hb j l=>(c.r30.go (aGW (dz c) a b e hb j l) rfl).seen
  sub:=fun a b e hb j l=>(c.r37.go (aHI (dz c) a b e hb j l) rfl).seen }
theorem d6 {C:Ctx} (c:cD C):gs C :=
 {uu c with
  valid:=fun x e=>c.r56.go (asB (uu c) x.neg x.num x.den e.1 e.2.1 e.2.2.1 e.2.2.2) rfl
  big:=fun x=>c.r48.go (arV x.1 (aJ x.2.1) (aJ x.2.2)) rfl }
theorem Ph {C:Ctx} (c:cD C):Et C :=
 {d6 c with
  fits:=fun x=>(c.r57.go (aAE (d6 c) x) rfl).seen
  red:=fun x j=>(c.r52.go (alD (d6 c) x j) rfl).seen
  prod:=fun a b e hb l u w y=>c.r60.go (arZ (uu c) a b e hb l u w y) rfl }
theorem BI {C:Ctx} (c:cD C):AK C :=
 {Ph c with
  order:=fun x y e j l u=>c.r51.go (arX (Ph c) x y e j l u) rfl }
theorem abX {C:Ctx} (c:cD C):afS C :=
 {BI c with
  less:=fun x y e j l u=>c.r49.go (aAI (BI c) x y e j l u) rfl
  same:=fun x y e j l u=>c.r53.go (aAM (BI c) x y e j l u) rfl
  sign:=fun x e l=>c.r54.go (aAO (BI c) x e l) rfl
  plus:=fun x y e j=>(c.r46.go (aHK (BI c) x y e j) rfl).seen }
theorem dw {C:Ctx} (c:cD C):gn C :=
 {abX c with
  sum:=fun l j e=>(c.r55.go (aHO (abX c) l j e) rfl).seen
  inn:=fun n lo hi=>c.r76.go (alU n lo hi) rfl
  code:=fun k m=>c.r61.go (ayM k m) rfl }
theorem Ar {C:Ctx} (c:cD C):rc C :=
 {dw c with
  small:=fun x e=>c.r74.go (asR (dw c) x e) rfl
  nums:=fun k m q s0 s1 s2 s3 s4=>c.r72.go (U7 (dw c) k m q s0 s1 s2 s3 s4) rfl
  sizes:=fun j l u w y A=>c.r73.go (asP j l u w y A) rfl }
theorem As {C:Ctx} (c:cD C):re C :=
 {Ar c with
  smalls:=fun l e n=>c.r75.go (alS (Ar c) l e n) rfl }
theorem At {C:Ctx} (c:cD C):rg C :=
 {As c with
  reps:=fun l e m=>c.r66.go (aHV (As c) l e m) rfl }
theorem Au {C:Ctx} (c:cD C):rh C :=
 have e:∀ n:Nat,aG C 65 [.int .u8 n] .nil (aI (.bool (fJ n))):=fun n=>c.r65.go (alM n) rfl;have j:∀ n:Nat,aG C 63 [.int .u8 n] .nil (aI (.bool (mZ n))):=fun n=>c.r63.go (asD n) rfl
 {At c with
  name:=fun s=>c.r62.go (alK e (fun n=>c.r64.go (alI e j n) rfl) s) rfl
  index:=fun l u s=>c.r71.go (asM l u s) rfl }
theorem Av {C:Ctx} (c:cD C):qM C :=
 {Au c with
  fresh:=fun l j s w H e=>c.r70.go (asK (Au c) l j s w H e) rfl }
theorem aqD {C:Ctx} (c:cD C):sU C :=
 {Av c with
  law:=fun l e=>c.r68.go (aHT (Av c) l e) rfl }
theorem aqE {C:Ctx} (c:cD C):ri C :=
 {aqD c with
  dur:=fun m rep j t h l e=>c.r69.go (aHR (At c) m rep j t h l e) rfl }
theorem dx {C:Ctx} (c:cD C):amB C :=
 {valid:=fun f w=>c.r67.go (asV (aqE c) f w) rfl
  rU:=fun f d level e u j l=>c.r88.go (aqM f e d u level j l) rfl
  Hb:=fun f v e h=>(c.r82.go (ayS f e v h) rfl).seen }
theorem apX {C:Ctx} (c:cD C) (f:aD) (v:Nat) (e:v≤100):aG C 282 [.agg (rY f),.int .i64 (v:Nat)] .nil (aI (.int .i64 ((2+v:Nat):Int))):=c.r282.go (aFY f v e) rfl
theorem Ah {C:Ctx} (c:cD C):mF C :=
 {vol:=apX c
  dom:=fun f j e v i y hi=>c.r283.go (aFL (apX c) f j e v i y hi) rfl
  drv:=fun f j d e=>c.r284.go (aFN f j d e) rfl
  arc:=fun o N a v l x H u=>c.r285.go (aFF o N a.src a.dst a.cap v l x H u) rfl
  valid:=wc c
  roomM:=fun f room w=>c.r152.go (azE (aGV c) f w room) rfl }
theorem abI {C:Ctx} (c:cD C) (n:cJ) (e:fU n):aG C 292 [.agg n.cells] .nil (aI (.bool true)):=c.r292.go (aoQ (fun n o x j=>c.r291.go (awW n o x j) rfl) n e) rfl
theorem abH {C:Ctx} (c:cD C) (n:cJ) (e fo:Nat) (xs:List Nat) (out:PV) (s:cV) (l:fU n) (j:¬ e=fo) (w:tN n xs) (u:s.1<n.arcs.length):aG C 294 [.ptr e 6 0 0,.int .i64 (stI s)] (sH n e fo xs out) (fun r H'=>r=.tup [.int .i64 ((eY n s:Nat):Int),.int .i64 ((eG n xs s:Nat):Int)]∧H'=sH n e fo xs out):=c.r294.go (awD n l e fo j xs w out s u) rfl
theorem ayB {C:Ctx} (c:cD C) (n:cJ) (j:fU n):aG C 298 [.agg n.cells] .nil (Eu n) :=
 c.r298.go (aoN (abI c) (fun n u fo xs y l j e I w B=>c.r296.go (aoL (abH c) n j u fo e xs I y l w B) rfl)
  (fun n u fo xs out Q way j e A E x=>c.r297.go (aEP (abH c) (fun n u fo xs out s j e F=>c.r295.go (awA n j u fo e xs out s F) rfl) n j u fo e xs A out Q way E x) rfl) n j) rfl
theorem mj {C:Ctx} (c:cD C):OR C :=
 {Ah c with
  net:=fun f room e=>(c.r286.go (aDF (Ah c) f e room) rfl).ayQ
  solve:=ayB c
  demand:=fun f hV=>c.r287.go (aDB f hV) rfl }
theorem abJ {C:Ctx} (c:cD C) (hi:AJ C):alX C :=
 {fleet:=fun l hb y aRU aRW j w=>(c.r27.go (aoD (awN c hi) l hb y aRU aRW j w) rfl).seen
  place:=fun f room e=>(c.r288.go (anB (mj c) f e room) rfl).place
  why:=fun f room e=>(c.r289.go (aDL (mj c) f e room) rfl).why
  chk:=fun f room ct e u=>c.r290.go (aCX (mj c) (fun n cut A x=>c.r293.go (aES (abI c) n A cut x) rfl) f e room ct u) rfl }
theorem ayA {C:Ctx} (c:cD C) (hi:AJ C):aG C 312 [] .nil (aI (.bool true)):=c.r312.go (asI (abJ c hi)) rfl
theorem aJR {C:Ctx} (c:cD C):OT C :=
 {node:=fun f j e v i w hi=>c.r304.go (ayD f j e v i w hi) rfl
  drv:=fun f j d e=>c.r305.go (aGF f j d e) rfl
  total:=fun f hV=>c.r306.go (aqB (dx c).Hb f hV) rfl
  qvalid:=(dx c).valid
  allowed:=fun f p d hV u e=>c.r77.go (Ur f hV p u d e) rfl
  qroom:=fun f room l=>(c.r85.go (ayW (dx c) f l room) rfl).seen }
theorem aGE {C:Ctx} (c:cD C) (f:aD) (room:List Int) (e:f.Ok):aG C 307 [.agg f.cells,ints room] .nil (aI (uF f room)):=(c.r307.go (aGH (aJR c) f e room) rfl).ayQ
theorem aJQ {C:Ctx} (c:cD C) (hi:AJ C):alW C :=
 {fleet:=(abJ c hi).fleet
  awake:=ayA c hi
  net:=(mj c).net
  ut:=aGE c
  same:=fun n e=>c.r313.go (aBC n e) rfl }
end Z
theorem T9 {C:Ctx} (c:cD C) (hi:AJ C) (r:bG C 316 NK) (l:List Nat) (hb:∀ x∈l,x<256) (e:l.length≤9223372036854775807) (room:List Int):aG C 316 [.sl 1 (kU l),ints room] .nil (aI (.bool true)):=r.go (U5 (Z.aJQ c hi) l hb e room) rfl
end Go.PM
