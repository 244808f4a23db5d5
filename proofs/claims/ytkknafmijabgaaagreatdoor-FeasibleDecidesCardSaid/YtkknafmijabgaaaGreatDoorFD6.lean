/-
  Texts of ours, joined. No condition.
-/
import Derived.Test.YtkknafmijabgaaaGreatDoorFD1
import Derived.Test.YtkknafmijabgaaaGreatDoorFD2
import Derived.Test.YtkknafmijabgaaaGreatDoorFD3
import Derived.Test.YtkknafmijabgaaaGreatDoorFD4
import Derived.Test.YtkknafmijabgaaaGreatDoorFD5
import Derived.Shelf.Sort.Plain
import Derived.Shelf.Slices.CompactI
import Derived.Shelf.Slices.In.SortNone
set_option linter.unusedSimpArgs false
set_option linter.unusedVariables false
open Nat renaming reduceEqDiff→γ,reduceAdd→δ,reduceSub→ε,reduceMul→ζ,reduceLT→η,reduceLeDiff→θ,reduceBEq→τ
open Int renaming reduceLT→ι,reduceLE→κ,reduceEq→μ,reduceToNat→ν,reduceAdd→ξ,reduceNeg→ο,reduceBEq→ρ,reduceBNe→σ
open List renaming reduceReplicate→υ
open List renaming length_map→bfY,range→bfZ,replicate→bgA,length_append→bgB,getElem_mem→bgD,getD_eq_getElem?_getD→bgF,getElem?_eq_getElem→bgH,length_singleton→bgI,mem_cons→bgN,length_take→bgP,take_of_length_le→bgR,getElem?_map→bgT,mem_range→bgW,append_assoc→bgX,not_mem_nil→bgZ,take_length→bhA,mem_map→bhC,getElem?_eq_some_iff→bhG,append_nil→bhH,mem_singleton→bhI,map_cons→bhJ,mem_append→bhK,map_append→bhM,getElem?_eq_none→bhQ,length_drop→bhR,length_cons→bhT,length_set→bhU,take_succ_eq_append_getElem→bhW,mem_of_getElem?→bhX,getElem?_append_left→biA,getElem?_append_right→biB,getElem?_range→biH,map_congr_left→biI,Sublist→biK,length_nil→biM,range_succ→biO,Perm→biT,length_range→biU,getElem?_take→biY,nodup_append→bjA,map_map→bjF,mem_cons_of_mem→bjG,nil_append→bjH,ext_getElem→bjN,getElem?_drop→bjO,length_replicate→bjP,mem_append_left→bjQ,cons_append→bjR,mem_filter→bjS,getElem?_set→bjT,contains_iff_mem→bjZ,flatMap_append→bkB,getElem?_replicate→bkC,sublist_append_left→bkD
open Nat renaming gcd→bgC,zero_le→bgE,le_refl→bgG,zero_add→bgL,lt_or_ge→bgV,mul_le_mul_right→bhF,add_zero→bhL,eq_zero_or_pos→biC,le_trans→biJ,succ_mul→biN,mul_one→bjB,div_le_self→bjJ,mul_le_mul→bjL
open Bool renaming not_true→bgJ,true_and→bgO,not_false→bgS,and_eq_true→bgU,and_false→bhO,false_eq_true→bjE
open Option renaming map_some→bhD,getD_some→biE,some→biQ
open Int renaming toNat_natCast→biR
open List renaming length→Z'
set_option maxRecDepth 100000
set_option maxHeartbeats 800000
noncomputable section
namespace Go.PM
open Go Go.Na
abbrev jJ(f:aD):cI:=.rows 2 [yQ f]
abbrev iW:cI:=.rows 4 [[.int .i64 0,.int .i64 0,.int .i64 0,.aH]]
abbrev tC(p:dV):cI:=.rows 17 [p.cells]
def Gg(o N:Nat)(l:List bY)(a:bY)(r:PV)(H':PH):Prop:=∃(B':List BX)(L':List LI),(r=.tup []∧∃v',B'=[(o,cZ N v')]∧L'=[(v',4,(l++[a]).map bY.cells)])∧aO H' B' L'
structure rM(C:Ctx):Prop where
 vol:∀(f:aD)(v:Nat),v≤100→aI C 282 [.agg (yQ f),.int .i64 (v:Nat)] .nil (aK (.int .i64 ((2+v:Nat):Int)))
 dom:∀(f:aD),Small f→0<Z' f.beN→∀v i:Nat,v≤100→i≤100→aI C 283 [.agg (yQ f),.int .i64 (v:Nat),.int .i64 (i:Nat)] .nil (aK (.int .i64 ((cR f v i:Nat):Int)))
 drv:∀(f:aD),Small f→∀d:Nat,d≤100→aI C 284 [.agg (yQ f),.int .i64 (d:Nat)] .nil (aK (.int .i64 ((bG f d:Nat):Int)))
 arc:∀(o N:Nat)(a:bY)(v:PV)(l:List bY),Z' l≤1000000→∀H,aO H [(o,cZ N v)] [(v,4,l.map bY.cells)]→aI C 285 [.int .i64 (a.src:Nat),.int .i64 (a.dst:Nat),.int .i64 (a.cap:Nat),.ptr o 4 0 0] H (Gg o N l a)
 valid:∀f:aD,f.Ok→aI C 96 [.agg f.cells] .nil (aK (.int .i64 (FJ f)))
 roomM:∀(f:aD)(room:List Int),f.Ok→aI C 152 [.agg f.cells,ints room] .nil (tH 1 (bS (uR f room)))
theorem a4Z(o N:Nat)(l:List bY)(a:bY)(G A:PH)(D:List Nat)(hD:o∈D)(J:∃x,A o=some x):∃r H',Gg o N l a r H'∧qM G (A.only D) H':=by
 obtain⟨q,u,w⟩:=PH.aTM G o;have I:=(aO.nil.new (H:=PH.nil) (o:=o) rfl (cZ N (.osl q 4 0 ((l++[a]).map bY.cells).length))).Ib (s:=4) (rows:=(l++[a]).map bY.cells) (o:=q) (by rw[aR,aE w];rfl);refine⟨.tup [],_,⟨_,_,⟨rfl,_,rfl,rfl⟩,I⟩,λp x j E=>?_⟩;rw[aR]at j;by_cases e:p=q
 ·subst e;exact u
 ·rw[aE e,aR]at j;by_cases B:p=o
  ·subst B;obtain⟨y,M⟩:=J;rw[xL,aL hD,M]at E;cases E
  ·rw[aE B]at j;cases j
def IQ(f:aD)(D:List Nat)(Q:PV→PH→Prop):Spec:=λname vs=>match name,vs with
 |285,_=>some (D,λ_=>Q)
 |282,[_,.int _ v]=>some ([],λ_=>aK (.int .i64 ((2+v.toNat:Nat):Int)))
 |283,[_,.int _ v,.int _ i]=>some ([],λ_=>aK (.int .i64 ((cR f v.toNat i.toNat:Nat):Int)))
 |284,[_,.int _ d]=>some ([],λ_=>aK (.int .i64 ((bG f d.toNat:Nat):Int)))
 |_,_=>none
section
variable {C:Ctx} {F:PF} {H Hs:PH} {st:Bool} {f:aD} {D:List Nat} {Q:PV→PH→Prop} {args:List aS} {d:Option Nat} {K:PF→PH→Prop}
theorem V3(j:rM C){v:Nat}(w:v≤100)(l:aS.evs F args=some [.agg (yQ f),.int .i64 (v:Nat)])(e:Hs.le H)(u:K (F.put d (.int .i64 ((2+v:Nat):Int))) H):dOp C Hs (IQ f D Q) st (.call 282 args) d K F H:=
 cO (v:=.int .i64 ((2+v:Nat):Int)) (by rfl) (j.vol f v w) l e u
theorem qn(j:rM C)(x:Small f)(l:0<Z' f.beN){v i:Nat}(y:v≤100)(hi:i≤100)(u:aS.evs F args=some [.agg (yQ f),.int .i64 (v:Nat),.int .i64 (i:Nat)])(e:Hs.le H)(w:K (F.put d (.int .i64 ((cR f v i:Nat):Int))) H):dOp C Hs (IQ f D Q) st (.call 283 args) d K F H:=
 cO (v:=.int .i64 ((cR f v i:Nat):Int)) (by rfl) (j.dom f x l v i y hi) u e w
theorem IU(j:rM C)(w:Small f){i:Nat}(hi:i≤100)(l:aS.evs F args=some [.agg (yQ f),.int .i64 (i:Nat)])(e:Hs.le H)(u:K (F.put d (.int .i64 ((bG f i:Nat):Int))) H):dOp C Hs (IQ f D Q) st (.call 284 args) d K F H:=
 cO (v:=.int .i64 ((bG f i:Nat):Int)) (by rfl) (j.drv f w i hi) l e u
theorem Gx(y:rM C){o N:Nat}{v:PV}{l:List bY}(a:bY)(E:Z' l≤1000000){B2:List BX}(h:aO H ((o,cZ N v)::B2) [(v,4,l.map bY.cells)]){x:aS}(J:x.ev F=some (.fn 285 [.ptr o 4 0 0]))
  (A:aS.evs F args=some [.int .i64 (a.src:Nat),.int .i64 (a.dst:Nat),.int .i64 (a.cap:Nat)])
  (B:∀v' H',aO H' ((o,cZ N v')::B2) [(v',4,(l++[a]).map bY.cells)]→Hs.le H'∧K (F.put d (.tup [])) H') :
  dOp C Hs (IQ f (fW [(o,cZ N v)]++fB [(v,4,l.map bY.cells)]) (Gg o N l a)) st (.bfO x args) d K F H:=by
 have w:aO H ([(o,cZ N v)]++B2) ([(v,4,l.map bY.cells)]++[]):=h;have I:H o=some (cZ N v):=h.at 0 rfl;have e:POp.kind (.bfO x args) F=.call 285 (some [.int .i64 (a.src:Nat),.int .i64 (a.dst:Nat),.int .i64 (a.cap:Nat),.ptr o 4 0 0]):=by simp only[POp.kind,J,A,bhD,bjR,bjH]
 unfold dOp;rw[e];refine⟨_,_,_,rfl,rfl,λq hq=>?_,y.arc o N a v l E _ (w.only (bkD ..) (bkD ..)),λG=>a4Z o N l a G H _ (by simp[fW]) ⟨_,I⟩,?_⟩
 ·rcases bhK.1 hq with hq|hq
  ·exact h.IJ (.inl (by simp only[fW,bhJ,bgN];left;simpa[fW]using hq))
  ·exact h.IJ (.inr hq)
 ·rintro r H' ⟨B',L',⟨rfl,v',rfl,rfl⟩,j⟩ u;exact B v' _ (w.frame j u)
theorem aLD(e:rM C){o N:Nat}{v:PV}{l:List bY}(a:bY)(y:Z' l≤1000000){B2:List BX}(h:aO H ((o,cZ N v)::B2) [(v,4,l.map bY.cells)])
  (w:aS.evs F args=some [.int .i64 (a.src:Nat),.int .i64 (a.dst:Nat),.int .i64 (a.cap:Nat)])
  (x:∀v' H',aO H' ((o,cZ N v')::B2) [(v',4,(l++[a]).map bY.cells)]→K (F.put d (.tup [])) H'):kF C 285 args [.ptr o 4 0 0] d K F H:=by
 refine apC (B1:=[(o,cZ N v)]) (B2:=B2) (L1:=[(v,4,l.map bY.cells)]) (L2:=[]) h (Q:=λr B' L'=>r=.tup []∧∃v',B'=[(o,cZ N v')]∧L'=[(v',4,(l++[a]).map bY.cells)]) (λH0 u=>e.arc o N a v l y H0 u) w ?_;rintro r B' L' H' ⟨rfl,v',rfl,rfl⟩ j;exact x v' H' j
end
theorem Af{a b:Nat}{x y:cI}(h:¬a=b):∃Hs:PH,Hs a=some x∧Hs b=some y∧∀H':PH,H' a=some x→H' b=some y→Hs.le H':=
 ⟨(PH.nil.set a x).set b y,by rw[aR,aE h,cB],cB _ _,λH' e j=>e_ (e_ a_ e) j⟩
structure NO where
 o:Nat
 n:Nat
 z:Nat
 p:Nat
 m:Nat
def kU(f:aD)(room:List Int)(e:NO)(k:Nat):PF:=(((((((((PF.nil.set 1 (ints room)).set 2 (.bE f.cells)).set 4 (.ptr e.z 4 0 0)).set 6 (.ptr e.n 2 0 0)).set 7 (.ptr e.o 4 0 0)).set 8 (.fn 285 [.ptr e.o 4 0 0])).set 41 (.sl 2 (f.beM.map iY.cells))).set 42 (.int .i64 (Z' f.beM:Nat))).set 43 (.int .i64 (k:Nat)))
def sU(f:aD)(room:List Int)(e:NO)(k:Nat):PF:=(((kU f room e k).set 9 (.int .i64 (k:Nat))).set 11 (.ptr e.p 17 0 0)).set 12 (.osl e.m 1 0 f.beL.length)
def jw(f:aD)(room:List Int)(e:NO)(k:Nat)(p:dV)(j:Nat):PF:=(((sU f room e k).set 59 (ints p.beL)).set 60 (.int .i64 (Z' p.beL:Nat))).set 61 (.int .i64 (j:Nat))
def yP(f:aD)(room:List Int)(e:NO)(k i:Nat):PF:=(((sU f room e k).set 80 (.sl 7 (f.beN.map dQ.cells))).set 81 (.int .i64 (Z' f.beN:Nat))).set 82 (.int .i64 (i:Nat))
def UQ(f:aD)(room:List Int)(e:NO)(k i:Nat):PF:=((((((kU f room e k).set 9 (.int .i64 (k:Nat))).set 12 (.osl e.m 1 0 f.beL.length))).set 115 (.sl 3 (f.beK.map fC.cells))).set 116 (.int .i64 (Z' f.beK:Nat))).set 117 (.int .i64 (i:Nat))
theorem aGQ{C:Ctx}{K:cQ}[Up K](f:aD)(room:List Int)(e:NO)(k:Nat)(p:dV)(Z:∀m∈p.beL,0≤m∧m<Z' f.beL)(U:Z' p.beL≤9223372036854775807){F:PF}{H:PH}{B:List BX}{L:List LI}(b:Nat)
  (hb:B[b]?=some (e.m,.rows 1 (bK (marks f.beL.length [])))) (w:aO H B L) (W:(jw f room e k p 0).le F)
  (X:∀H',aO H' (B.set b (e.m,.rows 1 (bK (marks f.beL.length p.beL)))) L→K (.exit 2) (sU f room e k) H'):aC.wp C (.loop qt) K F H:=by
 refine wp_loop (α:=Nat × PH) (λs=>jw f room e k p s.1) (λs=>s.2) (λs=>s.1≤Z' p.beL∧aO s.2 (B.set b (e.m,.rows 1 (bK (marks f.beL.length (p.beL.take s.1))))) L) (λs=>Z' p.beL-s.1) (0,H) ⟨bgE _,?_⟩ W b_ ?_
 ·rw[List.take_zero];have V:B.set b (e.m,.rows 1 (bK (marks f.beL.length [])))=B:=by obtain⟨h1,A⟩:=bhG.1 hb;rw[←A,List.set_getElem_self]
  rw[V];exact w
 rintro⟨j,H0⟩ ⟨Y,w⟩;simp only at Y w;have E:b<Z' B:=(bhG.1 hb).1;have x:(B.set b (e.m,cI.rows 1 (bK (marks f.beL.length (p.beL.take j)))))[b]?=some (e.m,.rows 1 (bK (marks f.beL.length (p.beL.take j)))):=List.getElem?_set_self E;simp only[go_sem,qt,W4,jw,sU,kU];by_cases hlt:j<Z' p.beL
 ·have u:(j:Int)<(Z' p.beL:Nat):=Om;have N:(p.beL.map λn=>[PV.int .i64 n])[j]?=some [.int .i64 p.beL[j]]:=by simp[hlt]
  obtain⟨R,S⟩:=Z _ (bgD hlt);have O:p.beL.take (j+1)=p.beL.take j++[p.beL[j]]:=bhW hlt;have J:(p.beL[j]).toNat<(bK (marks f.beL.length (p.beL.take j))).length:=by rw[jZ,Lf];omega
  have I:(bK (marks f.beL.length (p.beL.take j)))[(p.beL[j]).toNat]?=some [.bool ((p.beL.take j).contains p.beL[j])]:=by unfold bK;rw[bgT,JH R S];rfl
  have M:=w.at b x;have A:=w.set b x (.rows 1 (bK (marks f.beL.length (p.beL.take (j+1)))));rw[List.set_set]at A;have y:=bs (l:=p.beL.take j) R S;rw[←O]at y;simp only[go_sem,u,W5,N,W6,R,S,bgL,M,I,J,jM,y,W7,wZz j];exact aG (j+1,H0.set e.m (.rows 1 (bK (marks f.beL.length (p.beL.take (j+1)))))) ⟨hlt,A⟩ (by simp only;omega) (by(repeat' (first|exact c_|refine d_ ?_ ?_))<;>first|(simp only[go_sem,jw,sU,kU]<;>rfl)|rfl) b_
 ·have u:¬(j:Int)<(Z' p.beL:Nat):=Om;have:j=Z' p.beL:=Om;subst this;rw[bhA]at w;simp only[go_sem,u];exact Up.up (by(repeat' (first|exact c_|refine d_ ?_ ?_))<;>first|(simp only[go_sem,jw,sU,kU]<;>rfl)|rfl) (X H0 w)
theorem RU(pre:List bY)(g:Nat→bY)(k:Nat):pre++(bfZ (k+1)).map g=pre++(bfZ k).map g++[g k]:=by
 rw[biO,bhM,bgX];rfl
theorem QW{G F:PF}{i:Nat}{v:PV}(h:G.le F)(hi:G i=none):G.le (F.set i v):=λj x l=>by
 rw[qK];by_cases e:j=i
 ·subst e;rw[hi]at l;cases l
 ·rw[aE e];exact h j x l
theorem aIR{C:Ctx}(f:aD)(p:dV){i:Nat}(hi:i<Z' f.beN)(I:0≤lvl f i)(J:lvl f i<5){q op:Nat}(K:PF→PH→Prop)(F:PF)(H:PH)(u:F 16=some (.ptr q 7 0 0))(hq:H q=some (.rows 7 [(f.beN[i]).cells]))(l:F 11=some (.ptr op 17 0 0))(x:H op=some (tC p))
  (y:∀e:PF,e 17=some (.int .i64 (p.spread (lvl f i).toNat))→(∀G:PF,G.le F→(∀j,89≤j→j<94→G j=none)→G 17=none→G.le e)→K e H):wpOps C q9 K F H:=by
 have h5:lvl f i<((5:Nat):Int):=Om;simp only[go_sem,q9,u,hq,l,QX hi,I,h5,bjB];have B:lvl f i=0∨lvl f i=1∨lvl f i=2∨lvl f i=3∨lvl f i=4:=Om;have fin:∀e:PF,e 17=some (.int .i64 (p.spread (lvl f i).toNat))→(∀G:PF,G.le F→(∀j,89≤j→j<94→G j=none)→G 17=none→G.le e)→K e H:=y;clear y;rcases B with h|h|h|h|h
 all_goals
  rw[h]at fin ⊢;simp only[go_sem,x];refine fin _ rfl λG A E w=>?_
  repeat' (first|exact A|exact w|(exact E _ aV aV)|refine QW ?_ ?_)
theorem aMO{C:Ctx}(Lb:rM C){K:cQ}[Up K](f:aD)(hV:VF f)(room:List Int)(e:NO)(N k:Nat)(hk:k<Z' f.beM)(pre:List bY)(η:Z' pre≤900000){F:PF}{H:PH}{B:List BX}(v:PV)
  (h6:B[0]?=some (e.n,jJ f)) (M:B[1]?=some (e.p,tC (cL f k)))
  (R:aO H ((e.o,cZ N v)::B) [(v,4,pre.map bY.cells)]) (hF:(yP f room e k 0).le F)
  (hK:∀v' H',aO H' ((e.o,cZ N v')::B) [(v',4,(pre++(bfZ (Z' f.beN-1)).map (lY f k)).map bY.cells)]→K (.exit 4) (sU f room e k) H'):aC.wp C (.loop qu) K F H:=by
 have Y:=hV.small;have hr:=hV.root;have θ:=Y.beN;have ι:=Y.beM;have ε:¬e.n=e.p:=R.ne 1 2 h6 M aV;obtain⟨Hs,s6,μ,E⟩:=Af (x:=jJ f) (y:=tC (cL f k)) ε;refine wp_loop (α:=Nat × PV × PH) (λs=>yP f room e k s.1) (λs=>s.2.2) (λs=>s.1≤Z' f.beN∧aO s.2.2 ((e.o,cZ N s.2.1)::B) [(s.2.1,4,(pre++(bfZ (s.1-1)).map (lY f k)).map bY.cells)]) (λs=>Z' f.beN-s.1) (0,v,H) ⟨bgE _,by simpa using R⟩ hF b_ ?_;rintro⟨i,v,H0⟩ ⟨hi,R⟩;simp only at hi R;simp only[go_sem,qu,Xa,yP,sU,kU];by_cases hlt:i<Z' f.beN
 ·have A:(i:Int)<(Z' f.beN:Nat):=Om;have δ:=wZz i;simp only[go_sem,A,Xb,lZ hlt];refine R.yW λq H1 h1=>?_;have q1:=h1.rP;have O:=h1.xR (.rows 7 [(f.beN[i]).cells]);simp only[go_sem,q1];generalize H1.set q (.rows 7 [(f.beN[i]).cells])=H2 at *
  have S:=O.rP;by_cases h0:i=0
  ·subst h0;simp only[go_sem,qz,Int.natCast_zero,bT (show(0:Int)=0 from rfl),SM];exact aG (1,v,H2) ⟨hr.1,O.dropLast⟩ (by simp only;omega) (by(repeat' (first|exact c_|refine d_ ?_ ?_))<;>first|(simp only[go_sem,yP,sU,kU]<;>rfl)|rfl) b_
  ·have c0:=bD (Om:¬((i:Nat):Int)=0);obtain⟨l,rfl⟩:∃l,i=l+1:=⟨i-1,by omega⟩;obtain⟨d1,d2,d3,d4,d5⟩:=hV.dom (l+1) Om hlt;have ζ:=hV.j5 (Om:0<l+1) hlt;have h5:lvl f (l+1)<((5:Nat):Int):=Om;have l0:(0:Int)≤lvl f (l+1):=Om;have w:H2 e.p=some (tC (cL f k)):=O.box _ (by refine bjQ _ (bjG _ (bhX M)))
   have X:H2 e.n=some (jJ f):=O.box _ (by refine bjQ _ (bjG _ (bhX h6)));obtain⟨b1,b2,b3,b4⟩:=oI hV hk;obtain⟨hp,he⟩:=qB hV hk;have I:=hV.beX _ (bgD hp);rw[he]at I;have β:IntKind.i64.wrap ((cL f k).k+(cL f k).m)=((gP f k:Nat):Int):=by rw[b3];exact wrap_i64 Om Om
   have κ:=I.2.2.2.2.2.2.1 (lvl f (l+1)).toNat;have u:((xH f k (l+1):Nat):Int)=if(cL f k).spread (lvl f (l+1)).toNat=0 then((gP f k:Nat):Int)else(cL f k).spread (lvl f (l+1)).toNat:=by
    unfold xH fK;split
    ·rfl
    ·omega
   simp only[go_sem,qz,c0];refine aIR f (cL f k) hlt l0 Om (q:=q) (op:=e.p) _ _ _ rfl S rfl w λF1 J V=>?_;have hG:=V (((yP f room e k (l+1)).set 15 (.int .i64 ((l+1:Nat):Int))).set 16 (.ptr q 7 0 0)) (by(repeat' (first|exact c_|refine d_ ?_ ?_))<;>first|(simp only[go_sem,yP,sU,kU]<;>rfl)|rfl) (λj h1 O=>by have:j=89∨j=90∨j=91∨j=92∨j=93:=Om;rcases this with rfl|rfl|rfl|rfl|rfl<;>rfl) rfl
   clear V;have U:∀Z:PF,((((yP f room e k (l+1)).set 15 (.int .i64 ((l+1:Nat):Int))).set 16 (.ptr q 7 0 0)).set 17 (.int .i64 ((xH f k (l+1):Nat):Int))).le Z →
     aC.wp C (.draw re) (fN 5 (kJ C (aC.wp C (.region SM)) (fZ (λs:Nat × PV × PH=>yP f room e k s.1) (λs=>s.2.2) (λs=>s.1≤Z' f.beN∧aO s.2.2 ((e.o,cZ N s.2.1)::B) [(s.2.1,4,(pre++(bfZ (s.1-1)).map (lY f k)).map bY.cells)]) (λs=>Z' f.beN-s.1) (Z' f.beN-(l+1)) K))) Z H2:=by
    intro Z γ;refine uW _ (λ_ _ _ _ a b=>Up.up a b) γ ?_;refine bA Hs (IQ f (fW [(e.o,cZ N v)]++fB [(v,4,(pre++(bfZ l).map (lY f k)).map bY.cells)]) (Gg e.o N (pre++(bfZ l).map (lY f k)) (lY f k l))) (E _ X w) ?_;simp only[go_sem,re,yP,sU,kU,X,S,s6];refine qn Lb Y hr.1 (v:=k) (i:=lF f (l+1)) Om Om (by simp only[go_sem,C8 hlt,ζ]) (E _ X w) ?_;simp only[go_sem,s6];refine qn Lb Y hr.1 (v:=k) (i:=l+1) Om Om rfl (E _ X w) ?_;simp only[go_sem];refine Gx Lb (lY f k l) (v:=v) (B2:=B++[(q,.rows 7 [(f.beN[l+1]).cells])]) (by rw[bgB,bfY,biU];omega) O rfl rfl λv' H' h'=>⟨E _ (h'.box _ (bjG _ (bjQ _ (bhX h6)))) (h'.box _ (bjG _ (bjQ _ (bhX M)))),?_⟩;simp only[go_sem,SM,δ];refine aG (l+1+1,v',H') ⟨hlt,?_⟩ (by simp only;omega) (by(repeat' (first|exact c_|refine d_ ?_ ?_))<;>first|(simp only[go_sem,yP,sU,kU]<;>rfl)|rfl) b_;simp only;rw[show l+1+1-1=l+1 from rfl,RU];exact aO.dropLast (B:=(e.o,cZ N v')::B) h'
   by_cases W:(cL f k).spread (lvl f (l+1)).toNat=0
   ·rw[aL W]at u;have f11:=hG 11 _ rfl;simp only[go_sem,rc,J,bT W,Xc,f11,w,β];refine U _ (d_ ?_ (by simp only[go_sem,u]))
    repeat' (first|exact hG|refine QW ?_ rfl)
   ·rw[aE W]at u;simp only[go_sem,rc,J,bD W];refine U _ (d_ ?_ (by simp only[go_sem,J,u]))
    repeat' (first|exact hG|refine QW ?_ rfl)
 ·have A:¬(i:Int)<(Z' f.beN:Nat):=Om;have:i=Z' f.beN:=Om;subst this;simp only[go_sem,A];exact Up.up (by(repeat' (first|exact c_|refine d_ ?_ ?_))<;>first|(simp only[go_sem,yP,sU,kU]<;>rfl)|rfl) (hK v H0 R)
theorem kw(p:Nat→Bool)(k:Nat):(bfZ (k+1)).filter p=(bfZ k).filter p++if p k=true then[k]else[]:=by
 rw[biO,List.filter_append,List.filter_cons,List.filter_nil]
theorem aMP{C:Ctx}(J:rM C){K:cQ}[Up K](f:aD)(hV:VF f)(room:List Int)(e:NO)(N k:Nat)(hk:k<Z' f.beM)(pre:List bY)(Z:Z' pre≤900000){F:PF}{H:PH}{B:List BX}(v:PV)
  (Y:B[0]?=some (e.n,jJ f)) (O:B[1]?=some (e.m,.rows 1 (bK (marks f.beL.length (cL f k).beL))))
  (y:aO H ((e.o,cZ N v)::B) [(v,4,pre.map bY.cells)]) (hF:(UQ f room e k 0).le F)
  (hK:∀v' H',aO H' ((e.o,cZ N v')::B) [(v',4,(pre++((bfZ f.beK.length).filter (okD f k)).map (fD f k)).map bY.cells)]→K (.exit 6) (kU f room e k) H'):aC.wp C (.loop qw) K F H:=by
 have E:=hV.small;have hr:=hV.root;have β:=E.beN;have γ:=E.beK;have δ:=E.beM;refine wp_loop (α:=Nat × PV × PH) (λs=>UQ f room e k s.1) (λs=>s.2.2) (λs=>s.1≤Z' f.beK∧aO s.2.2 ((e.o,cZ N s.2.1)::B) [(s.2.1,4,(pre++((bfZ s.1).filter (okD f k)).map (fD f k)).map bY.cells)]) (λs=>Z' f.beK-s.1) (0,v,H) ⟨bgE _,by simpa using y⟩ hF b_ ?_;rintro⟨i,v,H0⟩ ⟨hi,y⟩;simp only at hi y;simp only[go_sem,qw,Xe,UQ,kU];by_cases hlt:i<Z' f.beK
 ·have j:(i:Int)<(Z' f.beK:Nat):=Om;have A:=wZz i;obtain⟨d1,d2,d3,d4,d5⟩:=hV.drive i hlt;have S:(bK (marks f.beL.length (cL f k).beL))[mdl f i]?=some [.bool ((cL f k).beL.contains ((mdl f i:Nat):Int))]:=by have:=JH (n:=Z' f.beL) (l:=(cL f k).beL) (m:=((mdl f i:Nat):Int)) Om Om;rw[biR]at this;unfold bK;rw[bgT,this];rfl
  have V:okD f k i=(cL f k).beL.contains ((mdl f i:Nat):Int):=rfl;have U:((mdl f i:Nat):Int)<(Z' f.beL:Nat):=Om;simp only[go_sem,j,Xf,oO hlt];refine y.yW λq H1 X=>?_;have q1:=X.rP;have w:=X.xR (.rows 3 [(f.beK[i]).cells]);simp only[go_sem,q1];generalize H1.set q (.rows 3 [(f.beK[i]).cells])=H2 at *
  have x:=w.rP;have M:H2 e.m=some _:=w.box _ (bjQ _ (bjG _ (bhX O)));have I:H2 e.n=some (jJ f):=w.box _ (bjQ _ (bjG _ (bhX Y)));have u:=kw (okD f k) i;simp only[go_sem,Xg,x,hV.JI hlt,U,M,bgL,S];rw[←V];cases hb:okD f k i with
  |false =>rw[hb,aE aV,bhH]at u;rw[←u]at w;simp only[go_sem,rg,A];exact aG (i+1,v,H2) ⟨hlt,w.dropLast⟩ (by simp only;omega) (by(repeat' (first|exact c_|refine d_ ?_ ?_))<;>first|(simp only[go_sem,UQ,kU]<;>rfl)|rfl) b_
  |true=>
   rw[hb,aL rfl]at u;simp only[go_sem];refine bA (PH.nil.set e.n (jJ f)) (IQ f (fW [(e.o,cZ N v)]++fB [(v,4,(pre++((bfZ i).filter (okD f k)).map (fD f k)).map bY.cells)]) (Gg e.o N (pre++((bfZ i).filter (okD f k)).map (fD f k)) (fD f k i))) (e_ a_ I) ?_;have R:=List.length_filter_le (okD f k) (bfZ i);rw[biU]at R;simp only[go_sem,Xh,I,x];refine qn J E hr.1 (v:=k) (i:=eO f i) Om Om (by simp only[go_sem,hV.QY hlt]) (e_ a_ I) ?_;simp only[go_sem];refine IU J E (i:=i) Om rfl (e_ a_ I) ?_;simp only[go_sem];refine Gx J (fD f k i) (v:=v) (B2:=B++[(q,.rows 3 [(f.beK[i]).cells])]) (by rw[bgB,bfY];omega) w rfl rfl λv' H' W=>⟨e_ a_ (W.box _ (bjG _ (bjQ _ (bhX Y)))),?_⟩;simp only[go_sem,rg,A];refine aG (i+1,v',H') ⟨hlt,?_⟩ (by simp only;omega) (by(repeat' (first|exact c_|refine d_ ?_ ?_))<;>first|(simp only[go_sem,UQ,kU]<;>rfl)|rfl) b_;simp only;have e2:pre++((bfZ (i+1)).filter (okD f k)).map (fD f k)=pre++((bfZ i).filter (okD f k)).map (fD f k)++[fD f k i]:=by rw[u,bhM,←bgX];rfl
   rw[e2];exact aO.dropLast (B:=(e.o,cZ N v')::B) W
 ·have j:¬(i:Int)<(Z' f.beK:Nat):=Om;have:i=Z' f.beK:=Om;subst this;simp only[go_sem,j];exact Up.up (by(repeat' (first|exact c_|refine d_ ?_ ?_))<;>first|(simp only[go_sem,UQ,kU]<;>rfl)|rfl) (hK v H0 y)
theorem XN(f:aD)(k:Nat):(bfZ (k+1)).flatMap (gS f)=(bfZ k).flatMap (gS f)++gS f k:=by
 rw[biO,bkB,List.flatMap_cons,List.flatMap_nil,bhH]
theorem ES{f:aD}(e:Small f):∀k,((bfZ k).flatMap (gS f)).length≤k*65
 |0=>bgG _
 |k+1=>by have j:=ES e k;have l:=aoM f k;have u:=e.beN;have w:=e.beK;rw[XN,bgB];omega
theorem aMQ{C:Ctx}(S:rM C){K:cQ}[Up K](f:aD)(hf:f.Ok)(hV:VF f)(room:List Int)(o n z:Nat)(N:Nat){F:PF}{H:PH}
  (J:aO H [(o,cZ N .aH),(n,jJ f),(z,iW)] [(.aH,4,[])]) (hF:(kU f room ⟨o,n,z,0,0⟩ 0).le F)
  (hK:∀v' H',aO H' [(o,cZ N v'),(n,jJ f),(z,iW)] [(v',4,((bfZ f.beM.length).flatMap (gS f)).map bY.cells)]→K (.exit 0) (kU f room ⟨o,n,z,0,0⟩ f.beM.length) H'):aC.wp C (.loop qx) K F H:=by
 have I:=hV.small;have hr:=hV.root;have η:=I.beN;have θ:=I.beK;have ι:=I.beM;have Z:(Z' f.beL:Int)*((1:Nat):Int)≤140737488355328:=by have:=I.beL;omega
 have β:(Z' f.beL:Int)≤9223372036854775807:=by have:=I.beL;omega
 have γ:(0:Int)≤(Z' f.beL:Int):=Om;refine wp_loop (α:=Nat × PV × PH) (λs=>kU f room ⟨o,n,z,0,0⟩ s.1) (λs=>s.2.2) (λs=>s.1≤Z' f.beM∧aO s.2.2 [(o,cZ N s.2.1),(n,jJ f),(z,iW)] [(s.2.1,4,((bfZ s.1).flatMap (gS f)).map bY.cells)]) (λs=>Z' f.beM-s.1) (0,.aH,H) ⟨bgE _,by simpa using J⟩ hF b_ ?_;rintro⟨k,v,H0⟩ ⟨hk,J⟩;simp only at hk J;simp only[go_sem,qx,atN,kU];by_cases hlt:k<Z' f.beM
 ·have u:(k:Int)<(Z' f.beM:Nat):=Om;have δ:=wZz k;obtain⟨hp,he⟩:=qB hV hlt;have A:=hV.beX _ (bgD hp);have l:=(hf.beX _ (bgD hp)).beL;rw[he]at A l;have l:(cL f k).beL.length≤9223372036854775807:=by first|exact l|(have:=l;omega)
  obtain⟨b1,b2,b3,b4⟩:=oI hV hlt;have X:IntKind.i64.wrap ((cL f k).k+(cL f k).m)=((gP f k:Nat):Int):=by rw[b3];exact wrap_i64 Om Om
  have ζ:=ES I k;simp only[go_sem,u,atO,uV hlt];refine J.yW λO H1 h1=>?_;have g1:=h1.rP;have h2:=h1.xR (.rows 2 [(f.beM[k]).cells]);simp only[go_sem,g1];generalize H1.set O (.rows 2 [(f.beM[k]).cells])=H2 at *
  have V:=h2.rP;simp only[go_sem,atP,V,hV.JL hlt,rD hp,he];refine h2.yW λe H3 h3=>?_;have g2:=h3.rP;have h4:=h3.xR (tC (cL f k));simp only[go_sem,g2];generalize H3.set e (.rows 17 [(cL f k).cells])=H4 at *
  simp only[go_sem,W2,bfY,Z,β,γ,Int.le_refl,biR];refine aQ λj M=>?_;rw[ZQ];have h5:=h4.new M (.rows 1 (bK (marks f.beL.length [])));generalize H4.set j (.rows 1 (bK (marks f.beL.length [])))=H5 at *
  have w:=h5.at 4 rfl;simp only[go_sem,W3,w];refine aGQ f room ⟨o,n,z,e,j⟩ k (cL f k) A.2.2.2.2.2.2.2 l 5 rfl h5 (by(repeat' (first|exact c_|refine d_ ?_ ?_))<;>first|(simp only[go_sem,jw,sU,kU]<;>rfl)|rfl) λH6 U=>?_;have U:aO H6 [(o,cZ N v),(n,jJ f),(z,iW),(O,.rows 2 [(f.beM[k]).cells]),(e,tC (cL f k)),(j,.rows 1 (bK (marks f.beL.length (cL f k).beL)))] [(v,4,((bfZ k).flatMap (gS f)).map bY.cells)]:=U;have h7:aO H6 [(o,cZ N v),(n,jJ f),(e,tC (cL f k)),(j,.rows 1 (bK (marks f.beL.length (cL f k).beL))),(z,iW)] [(v,4,((bfZ k).flatMap (gS f)).map bY.cells)]:=by refine(U.yN 3).perm ?_ (biT.refl _);show biT [_,_,_,_,_] _;exact .cons _ (.cons _ (((List.perm_append_comm (l₁:=[(z,iW)]) (l₂:=[(e,tC (cL f k)),(j,.rows 1 (bK (marks f.beL.length (cL f k).beL)))])))))
  clear U;have W:=h7.at 1 rfl;have w:=h7.at 2 rfl;have ε:¬n=e:=h7.ne 1 2 rfl rfl aV;obtain⟨Hs,s6,R,E⟩:=Af (x:=jJ f) (y:=tC (cL f k)) ε;simp only[go_sem];refine bA Hs (IQ f (fW [(o,cZ N v)]++fB [(v,4,((bfZ k).flatMap (gS f)).map bY.cells)]) (Gg o N ((bfZ k).flatMap (gS f)) ⟨0,2+k,gP f k⟩)) (E _ W w) ?_;simp only[go_sem,W8,sU,kU,W,R];refine V3 S (v:=k) Om rfl (E _ W w) ?_;simp only[go_sem,R,X];refine Gx S ⟨0,2+k,gP f k⟩ (v:=v) (B2:=[(n,jJ f),(e,tC (cL f k)),(j,.rows 1 (bK (marks f.beL.length (cL f k).beL))),(z,iW)]) Om h7 rfl rfl λv1 H7 h8=>⟨E _ (h8.at 1 rfl) (h8.at 2 rfl),?_⟩;simp only[go_sem,W9];refine aMO S f hV room ⟨o,n,z,e,j⟩ N k hlt ((bfZ k).flatMap (gS f)++[(⟨0,2+k,gP f k⟩:bY)]) (by rw[bgB,bgI];omega) v1 rfl rfl h8 (by(repeat' (first|exact c_|refine d_ ?_ ?_))<;>first|(simp only[go_sem,yP,sU,kU]<;>rfl)|rfl) λv2 H8 h9=>?_;simp only[go_sem,Xd,sU,kU];refine aMP S f hV room ⟨o,n,z,e,j⟩ N k hlt ((bfZ k).flatMap (gS f)++[(⟨0,2+k,gP f k⟩:bY)]++(bfZ (Z' f.beN-1)).map (lY f k)) (by rw[bgB,bgB,bgI,bfY,biU];omega) (B:=[(n,jJ f),(j,.rows 1 (bK (marks f.beL.length (cL f k).beL))),(z,iW)]) v2 rfl rfl (h9.yN 2) (by(repeat' (first|exact c_|refine d_ ?_ ?_))<;>first|(simp only[go_sem,UQ,kU]<;>rfl)|rfl) λv3 H9 Y=>?_;simp only[go_sem,Xi,kU,δ];refine aG (k+1,v3,H9) ⟨hlt,?_⟩ (by simp only;omega) (by(repeat' (first|exact c_|refine d_ ?_ ?_))<;>first|(simp only[go_sem,kU]<;>rfl)|rfl) b_;simp only;have ev:(bfZ (k+1)).flatMap (gS f)=(bfZ k).flatMap (gS f)++[(⟨0,2+k,gP f k⟩:bY)]++(bfZ (Z' f.beN-1)).map (lY f k)++((bfZ f.beK.length).filter (okD f k)).map (fD f k):=by rw[XN];unfold gS;simp
  rw[ev];exact Y.yN 2
 ·have u:¬(k:Int)<(Z' f.beM:Nat):=Om;have:k=Z' f.beM:=Om;subst this;simp only[go_sem,u];exact Up.up (by(repeat' (first|exact c_|refine d_ ?_ ?_))<;>first|(simp only[go_sem,kU]<;>rfl)|rfl) (hK v H0 J)
def CQ(f:aD)(room:List Int):cN:=if dU f=true then cY f room else⟨0,0,0,[]⟩
def aVP(f:aD):Int:=if dU f=true then 0 else 1
def BC(f:aD)(room:List Int):PV:=.tup [.agg (CQ f room).cells,.int .i64 (aVP f)]
theorem CR{f:aD}(h:dU f=true)(room:List Int):CQ f room=cY f room:=aL h
theorem rK{f:aD}(h:dU f=true):aVP f=0:=aL h
theorem CP{f:aD}(h:dU f=false):aVP f=1:=aE (by rw[h];decide)
theorem ayN{f:aD}(h:dU f=false)(room:List Int):CQ f room=⟨0,0,0,[]⟩:=aE (by rw[h];decide)
theorem coL{a b:PV}(h:Co a b)(x y z w:PV):Co (.tup [.agg [x,y,z,a],w]) (.tup [.agg [x,y,z,b],w]):=by
 refine .tup rfl λj p q e hq=>?_
 match j with
 |0=>
  cases e;cases hq;refine .agg rfl λj p q e hq=>?_
  match j with
  |0=>cases e;cases hq;exact .refl _
  |1=>cases e;cases hq;exact .refl _
  |2=>cases e;cases hq;exact .refl _
  |3=>cases e;cases hq;exact h
  |j+4=>cases e
 |1=>cases e;cases hq;exact .refl _
 |j+2=>cases e
theorem jh{H:PH}{B:List BX}{v:PV}{rows:List (List PV)}{a b c e:Int}(h:aO H B [(v,4,rows)]):uH (.tup [.agg [.int .i64 a,.int .i64 b,.int .i64 c,v],.int .i64 e]) H (cT (.tup [.agg [.int .i64 a,.int .i64 b,.int .i64 c,.sl 4 rows],.int .i64 e])):=by
 rcases h.own 0 rfl with⟨j,rfl⟩|⟨q,rs,rfl,_⟩
 ·subst j;exact .done (H2:=.nil) ⟨coL (.nil 4) _ _ _ _,rfl⟩ a_
 ·obtain⟨rs,l,u,-,-,-⟩:=h.frz 0 rfl;refine .step l ?_;show uH (.tup [.agg [.int .i64 a,.int .i64 b,.int .i64 c,PV.dM q 4 rs (.osl q 4 0 rows.length)],.int .i64 e]) _ _;rw[u];exact .done (H2:=.nil) ⟨.refl _,rfl⟩ a_
theorem aGR{C:Ctx}(x:rM C){K:cQ}[Up K](f:aD)(hV:VF f)(room:List Int)(o n z N:Nat)(pre:List bY)(y:Z' pre≤900000){F:PF}{H:PH}(v:PV)
  (j:aO H [(o,cZ N v),(n,jJ f),(z,iW)] [(v,4,pre.map bY.cells)])
  (I:((((((((PF.nil.set 4 (.ptr z 4 0 0)).set 6 (.ptr n 2 0 0)).set 7 (.ptr o 4 0 0)).set 8 (.fn 285 [.ptr o 4 0 0])).set 141 (.sl 1 (bS (jG f room)))).set 142 (.int .i64 (Z' f.beK:Nat))).set 143 (.int .i64 0))).le F)
  (J:∀v' H',aO H' [(o,cZ N v'),(n,jJ f),(z,iW)] [(v',4,(pre++(bfZ f.beK.length).map (pW f room)).map bY.cells)]→K (.exit 8) (((PF.nil.set 4 (.ptr z 4 0 0)).set 7 (.ptr o 4 0 0))) H'):aC.wp C (.loop qy) K F H:=by
 have A:=hV.small;have M:=A.beK;refine wp_loop (α:=Nat × PV × PH) (λs=>(((((((PF.nil.set 4 (.ptr z 4 0 0)).set 6 (.ptr n 2 0 0)).set 7 (.ptr o 4 0 0)).set 8 (.fn 285 [.ptr o 4 0 0])).set 141 (.sl 1 (bS (jG f room)))).set 142 (.int .i64 (Z' f.beK:Nat))).set 143 (.int .i64 (s.1:Nat)))) (λs=>s.2.2) (λs=>s.1≤Z' f.beK∧aO s.2.2 [(o,cZ N s.2.1),(n,jJ f),(z,iW)] [(s.2.1,4,(pre++(bfZ s.1).map (pW f room)).map bY.cells)]) (λs=>Z' f.beK-s.1) (0,v,H) ⟨bgE _,by simpa using j⟩ I b_ ?_;rintro⟨i,v,H0⟩ ⟨hi,j⟩;simp only at hi j;simp only[go_sem,qy,Xk];by_cases hlt:i<Z' f.beK
 ·have e:(i:Int)<(Z' f.beK:Nat):=Om;have u:=wZz i;have w:i<(jG f room).length:=by rw[pS];exact hlt
  have l:=rU w;obtain⟨r1,r2⟩:=BO hV room hlt;rw[VT,←r2]at l;have B:=j.at 1 rfl;simp only[go_sem,e,Xl,l,Xm,B];refine aB (x.drv f A i Om) rfl ?_;simp only[go_sem];refine aLD x (pW f room i) (by rw[bgB,bfY,biU];omega) j rfl λv' H' E=>?_;simp only[go_sem,Xn,u];refine aG (i+1,v',H') ⟨hlt,?_⟩ (by simp only;omega) Lq b_;simp only;rw[RU];exact E
 ·have e:¬(i:Int)<(Z' f.beK:Nat):=Om;have:i=Z' f.beK:=Om;subst this;simp only[go_sem,e];exact Up.up Lq (J v H0 j)
theorem a0T{C:Ctx}(l:rM C)(f:aD)(A:f.Ok)(room:List Int) :
  ao.wp C (aW aTL.res (cT (BC f room))) (PF.args [.agg f.cells,ints room]) .nil:=by
 simp only[go_sem,ao,atG,aTL];refine aQ λz S=>?_;simp only[go_sem,atH];refine aB (l.valid f A) rfl ?_;have y:aO (PH.nil.set z iW) [(z,iW)] []:=aO.nil.new S iW;generalize(PH.nil.set z iW)=V at *
 have M:=y.at 0 rfl;cases j:dU f with
 |false =>simp only[go_sem,Ea j,atI,M];rw[BC,ayN j,CP j];have w:=(y.set 0 rfl iW).oV 4;refine pU (vs:=[.agg [.int .i64 0,.int .i64 0,.int .i64 0,.aH],.int .i64 1]) (.inr rfl) Sq ?_;exact jh w
 |true=>
  have hV:=VF.of j;have x:=hV.small;have B:FJ f=0:=by rw[FJ,j];rfl
  rw[BC,CR j,rK j];simp only[go_sem,B,atJ,bfY];refine y.yW λn H2 w=>?_;have g2:=w.at 1 rfl;have E:=w.set 1 rfl (jJ f);simp only[go_sem,g2];generalize H2.set n (.rows 2 [[.int .i64 (Z' f.beM:Nat),.int .i64 (Z' f.beN:Nat)]])=W at *
  have N:=E.at 1 rfl;simp only[go_sem,atK,N,bfY];refine aB (l.drv f x f.beK.length (by have:=x.beK;omega)) rfl ?_;simp only[go_sem];refine E.yW λo J F=>?_;have g4:=F.at 2 rfl;have h5:=F.set 2 rfl (cZ (bG f f.beK.length) .aH);simp only[go_sem,g4];generalize J.set o (.rows 4 [[.int .i64 ((bG f f.beK.length:Nat):Int),.int .i64 0,.int .i64 1,.aH]])=K at *
  have O:aO K [(o,cZ (bG f f.beK.length) .aH),(n,jJ f),(z,iW)] [(.aH,4,[])]:=by refine(h5.oV 4).perm ?_ (biT.refl _);exact(List.reverse_perm _).symm
  simp only[go_sem,atL,atM];refine aMQ l f A hV room o n z _ O (by(repeat' (first|exact c_|refine d_ ?_ ?_))<;>first|(simp only[go_sem,kU]<;>rfl)|rfl) λU X h7=>?_;have u:=(l.roomM f room A).freeze;rw[uR,aL j]at u;simp only[go_sem,Xj,kU];refine aB u rfl ?_;simp only[go_sem,gV,pS];refine aGR l f hV room o n z _ ((bfZ f.beM.length).flatMap (gS f)) (by have:=ES x f.beM.length;have:=x.beM;omega) U h7 (by(repeat' (first|exact c_|refine d_ ?_ ?_))<;>first|(simp only[go_sem,gV,pS]<;>rfl)|rfl) λI Y h8=>?_;have a7:=h8.at 0 rfl;have a4:=h8.at 2 rfl;have R:=h8.set 2 rfl (cZ (bG f f.beK.length) I);simp only[go_sem,Xo,a7,a4];refine⟨_,aL ?_,?_⟩
  ·rcases h8.own 0 rfl with⟨_,e⟩|⟨q,rs,e,_⟩<;>rw[e]
  refine pU (vs:=[.agg [.int .i64 ((bG f f.beK.length:Nat):Int),.int .i64 0,.int .i64 1,I],.int .i64 0]) (.inr rfl) Sq ?_;exact jh R
theorem aOS{C:Ctx}(n:cN)(j:fM n):OG.wp C (aW agE.res (aK (.bool true))) (PF.args [.agg n.cells]) .nil:=by
 have a1:¬(n.nodes:Int)<2:=by have:=j.two;omega
 have a2:¬(n.nodes:Int)>700:=by have:=j.few;omega
 have a3:¬(Z' n.arcs:Int)>2500:=by have:=j.num;omega
 have a4:¬(n.source:Int)=n.sink:=by have:=j.apart;omega
 have a5:¬(n.source:Int)<0:=Om;have a6:¬(n.source:Int)≥n.nodes:=by have:=j.source;omega
 have a7:¬(n.sink:Int)<0:=Om;have a8:¬(n.sink:Int)≥n.nodes:=by have:=j.sink;omega
 have J:=j.num;simp only[go_sem,OG,N5,agE,N6,a1,a2,a3,a5,a6,a7,a8,bD a4,N7,bfY];refine wp_loop (α:=Nat) (λk=>((PF.nil.set 1 (.bE n.cells)).set 3 (.int .i64 (k:Nat)))) (λ_=>.nil) (λk=>k≤Z' n.arcs) (λk=>Z' n.arcs-k) 0 (bgE _) Lq a_ ?_;intro k B;simp only[go_sem,N4,N8,bfY];by_cases hlt:k<Z' n.arcs
 ·have e:(k:Int)<(Z' n.arcs:Nat):=Om;obtain⟨E,F,I⟩:=j.ends _ (bgD hlt);have l:¬((n.arcs[k]).src:Int)<0:=Om;have u:¬((n.arcs[k]).src:Int)≥n.nodes:=Om;have w:¬((n.arcs[k]).dst:Int)<0:=Om;have x:¬((n.arcs[k]).dst:Int)≥n.nodes:=Om;have y:¬((n.arcs[k]).cap:Int)<0:=Om;have A:¬((n.arcs[k]).cap:Int)>2147483647:=Om;simp only[go_sem,e,N9,CF hlt];refine aQ λp K=>?_;simp only[go_sem,Oa,l,u,w,x,y,A,Ob,wZz k];exact aG (k+1) hlt Om Lq a_
 ·have e:¬(k:Int)<(Z' n.arcs:Nat):=Om;simp only[go_sem,e,C0];refine aU (.inr rfl) Ev ?_;rfl
theorem a2P{C:Ctx}(O:∀n:cN,fM n→aI C 299 [.agg n.cells] .nil (aK (.bool true)))(n:cN)(u:fM n)(cut:List Bool)(l:i5 n cut) :
  dg.wp C (aW aVZ.res (aK (.tup [.int .i64 ((eH (λw=>cut.getD w false) n.arcs:Nat):Int),.bool true]))) (PF.args [.agg n.cells,lL cut]) .nil:=by
 have a1:(Z' cut:Int)=n.nodes:=by have:=l.len;omega
 have I:n.source<Z' cut:=by rw[l.len];exact u.source
 have J:n.sink<Z' cut:=by rw[l.len];exact u.sink
 have U:=u.num;have x:lL cut=.sl 1 (bK cut):=rfl;rw[x];simp only[go_sem,dg,azN,aVZ,azO];refine aB (O n u) Ev ?_;simp only[go_sem,jZ,bR a1,fI I,fI J,l.src,l.snk,azP,azQ];refine wp_loop (α:=Nat) (λk=>((((PF.nil.set 1 (.sl 1 (bK cut))).set 2 (.bE n.cells)).set 6 (.int .i64 ((eH (λw=>cut.getD w false) (n.arcs.take k):Nat):Int))).set 7 (.int .i64 (k:Nat)))) (λ_=>.nil) (λk=>k≤Z' n.arcs) (λk=>Z' n.arcs-k) 0 (bgE _) Lq a_ ?_;intro k R;simp only[go_sem,azM,azR,bfY];by_cases hlt:k<Z' n.arcs
 ·have j:(k:Int)<(Z' n.arcs:Nat):=Om;obtain⟨M,N,S⟩:=u.ends _ (bgD hlt);have K:(n.arcs[k]).src<Z' cut:=by rw[l.len];exact M
  have B:(n.arcs[k]).dst<Z' cut:=by rw[l.len];exact N
  have y:=Jr (λw=>cut.getD w false) n.arcs hlt;have hb:=Js u (λw=>cut.getD w false) (k+1);simp only[go_sem,j,azS,CF hlt,fI K,fI B];cases E:cut.getD (n.arcs[k]).src false with
  |false =>rw[aE (by rw[E];rintro⟨h,-⟩;cases h),bhL]at y;simp only[go_sem,jy,wZz k];exact aG (k+1) hlt Om (by(repeat' (first|exact c_|refine d_ ?_ ?_))<;>first|(simp only[go_sem,y]<;>rfl)|rfl) a_
  |true=>
   simp only[go_sem,CF hlt,fI B];cases F:cut.getD (n.arcs[k]).dst false with
   |true =>rw[aE (by rw[F];rintro⟨-,h⟩;cases h),bhL]at y;simp only[go_sem,jy,wZz k];exact aG (k+1) hlt Om (by(repeat' (first|exact c_|refine d_ ?_ ?_))<;>first|(simp only[go_sem,y]<;>rfl)|rfl) a_
   |false=>
    rw[aL ⟨E,F⟩]at y;have e:IntKind.i64.wrap (((eH (λw=>cut.getD w false) (n.arcs.take k):Nat):Int)+((n.arcs[k]).cap:Int))=((eH (λw=>cut.getD w false) (n.arcs.take (k+1)):Nat):Int):=by rw[wrap_i64 Om Om];omega
    simp only[go_sem,azT,CF hlt,e,jy,wZz k];exact aG (k+1) hlt Om Lq a_
 ·have j:¬(k:Int)<(Z' n.arcs:Nat):=Om;have A:n.arcs.take k=n.arcs:=bgR Om;simp only[go_sem,j,afX,A];refine aU (.inr rfl) Ev ?_;rfl
abbrev dE:=Nat × Bool
def noA:bY:=⟨0,0,0⟩
def cD(n:cN)(i:Nat):bY:=n.arcs.getD i noA
def hC(n:cN)(s:dE):Nat:=if s.2=true then(cD n s.1).dst else(cD n s.1).src
def eC(n:cN)(s:dE):Nat:=if s.2=true then(cD n s.1).src else(cD n s.1).dst
def eF(n:cN)(xs:List Nat)(s:dE):Nat:=if s.2=true then(cD n s.1).cap-xs.getD s.1 0 else xs.getD s.1 0
structure sJ(n:cN)(xs:List Nat)(Q:List Nat)(way:Nat→dE):Prop where
 first:∃t,Q=n.source::t
 nd:Q.Nodup
 lt:∀v∈Q,v<n.nodes
 way:∀v∈Q,v≠n.source→(way v).1<Z' n.arcs∧hC n (way v)=v∧0<eF n xs (way v)∧eC n (way v)∈Q∧Q.idxOf (eC n (way v))<Q.idxOf v
def IL(n:cN)(xs:List Nat)(Q:List Nat)(k:Nat):Prop:=∀v∈Q.take k,∀s:dE,s.1<Z' n.arcs→eC n s=v→0<eF n xs s→hC n s∈Q
theorem yV{n:cN}{i:Nat}{a:bY}(h:n.arcs[i]?=some a):cD n i=a:=by unfold cD;rw[bgF,h];rfl
theorem aiT{n:cN}(B:fM n){xs:List Nat}(w:jY n xs){Q:List Nat}{way:Nat→dE}(y:sJ n xs Q way)(hD:IL n xs Q Q.length)(E:n.sink ∉ Q):kT n xs=eH (λv=>Q.contains v) n.arcs:=by
 obtain⟨t,F⟩:=y.first;refine w.full B (by rw[F];simp) (by simpa using E) λi a x e u=>⟨λj l=>?_,λj l=>?_⟩
 ·have hi:=(bhG.1 e).1;have j:a.src∈Q:=by simpa using j
  have l:a.dst ∉ Q:=by simpa using l
  have A:=w.le i a x e u;rcases bgV x a.cap with c|c
  ·refine absurd (hD a.src (by rw[bhA];exact j) (i,true) hi ?_ ?_) ?_
   ·unfold eC;rw[aL rfl,yV e]
   ·unfold eF;rw[aL rfl,yV e,bgF,u];simp only[biE];omega
   ·unfold hC;rw[aL rfl,yV e];exact l
  ·omega
 ·have hi:=(bhG.1 e).1;have j:a.src ∉ Q:=by simpa using j
  have l:a.dst∈Q:=by simpa using l
  rcases biC x with c|c
  ·exact c
  ·refine absurd (hD a.dst (by rw[bhA];exact l) (i,false) hi ?_ ?_) ?_
   ·unfold eC;rw[aE (show ¬(false=true) by decide),yV e]
   ·unfold eF;rw[aE (show ¬(false=true) by decide),bgF,u];exact c
   ·unfold hC;rw[aE (show ¬(false=true) by decide),yV e];exact j
inductive xV (n:cN) (Q:List Nat) (way:Nat→dE):Nat→List dE→Prop
 |nil:xV n Q way n.source []
 |cons {v:Nat} {L:List dE} (hv:v∈Q) (hne:v≠n.source) (h:xV n Q way (eC n (way v)) L):xV n Q way v (way v::L)
theorem Jq{n:cN}{xs Q:List Nat}{way:Nat→dE}(w:sJ n xs Q way):∀(m v:Nat),Q.idxOf v=m→v∈Q→∃L,xV n Q way v L∧Z' L≤m:=by
 intro m
 induction m using Nat.strongRecOn with
 |ind m x=>
  intro v F j;by_cases e:v=n.source
  ·subst e;exact⟨[],.nil,bgE _⟩
  ·obtain⟨y,A,B,l,h5⟩:=w.way v j e;obtain⟨L,u,E⟩:=x _ Om (eC n (way v)) rfl l;exact⟨way v::L,.cons j e u,by simp;omega⟩
theorem xV.bbV{n:cN}{xs Q:List Nat}{way:Nat→dE}(x:sJ n xs Q way):∀{v:Nat}{L:List dE},xV n Q way v L→v∈Q→∀s∈L,s.1<Z' n.arcs∧0<eF n xs s∧Q.idxOf (eC n s)<Q.idxOf (hC n s)∧Q.idxOf (hC n s)≤Q.idxOf v:=by
 intro v L h
 induction h with
 |nil=>intro _ s hs;cases hs
 |@cons v L y e h A=>
  intro _ s hs;obtain⟨l,j,u,w,h5⟩:=x.way v y e;rcases bgN.1 hs with rfl|hs
  ·exact⟨l,u,by rw[j];exact h5,by rw[j];exact bgG _⟩
  ·obtain⟨g1,g2,g3,g4⟩:=A w s hs;exact⟨g1,g2,g3,by omega⟩
theorem xV.apart{n:cN}{xs Q:List Nat}{way:Nat→dE}(w:sJ n xs Q way){v:Nat}{s:dE}{L:List dE}(h:xV n Q way v (s::L))(B:v∈Q):∀s'∈L,s'.1≠s.1:=by
 intro s' u e;cases h with
 |cons _ l h=>
  obtain⟨E,y,F,A,h5⟩:=w.way v B l;obtain⟨g1,g2,g3,g4⟩:=h.bbV w A s' u;have x:Q.idxOf (eC n (way v))<Q.idxOf (hC n (way v)):=by rw[y];exact h5
  unfold hC eC at x g3 g4;rw[e]at g3 g4;have I:=g4;cases hb:(way v).2<;>cases j:s'.2<;>simp only[hb,j,bjE,if_true,if_false]at x g3 g4<;>omega
def push(e:Nat)(j:List Nat)(s:dE):List Nat:=j.set s.1 (if s.2=true then j.getD s.1 0+e else j.getD s.1 0-e)
theorem ve(e:Nat)(j:List Nat)(s:dE):(push e j s).length=Z' j:=by unfold push;rw[bhU]
structure i7(n:cN)(xs ys:List Nat)(amt v:Nat)(L:List dE):Prop where
 len:Z' ys=Z' n.arcs
 le:∀(i:Nat) a x,n.arcs[i]?=some a→ys[i]?=some x→x≤a.cap
 net:∀w,jC n.arcs ys w=jC n.arcs xs w-(if w=n.sink then(amt:Int)else 0)+(if w=v then(amt:Int)else 0)
 same:∀s∈L,ys.getD s.1 0=xs.getD s.1 0
theorem Lx{n:cN}{xs:List Nat}(j:jY n xs)(e:Nat)(L:List dE):i7 n xs xs e n.sink L:=⟨j.len,j.le,λw=>by split<;>omega,λ_ _=>rfl⟩
theorem acT{n:cN}{xs K Q:List Nat}{way:Nat→dE}(R:sJ n xs Q way){j v:Nat}{s:dE}{L:List dE}(l:i7 n xs K j v (s::L))(hB:xV n Q way v (s::L))(U:v∈Q)(E:j≤eF n xs s) :
  eC n s∈Q∧xV n Q way (eC n s) L∧i7 n xs (push j K s) j (eC n s) L:=by
 have M:=hB.apart R U;cases hB with
 |cons _ N hB=>
  obtain⟨O,B,W,V,h5⟩:=R.way v U N;generalize way v=s at *
  have u:n.arcs[s.1]?=some (cD n s.1):=by unfold cD;rw[bgF,bgH O];rfl
  have I:s.1<Z' K:=by rw[l.len];exact O
  have F:K[s.1]?=some (K.getD s.1 0):=by rw[bgF,bgH I];rfl
  have y:=l.same s aY;have S:=l.le _ _ _ u F;unfold eF at E;rw[←y]at E;refine⟨V,hB,by rw[ve];exact l.len,λi a x hi A=>?_,λw=>?_,λs' J=>?_⟩
  ·unfold push at A;by_cases e:i=s.1
   ·subst e;rw[List.getElem?_set_self I]at A;rw[u]at hi;cases hi;simp only[biQ.injEq]at A;subst A;cases hb:s.2 with
    |true=>rw[hb,aL rfl]at E;rw[aL rfl];omega
    |false=>rw[aE aV];omega
   ·rw[List.getElem?_set_ne (λh=>e h.symm)]at A;exact l.le i a x hi A
  ·unfold push;rw[ayO _ u F,l.net];unfold hC at B;unfold eC;cases hb:s.2 with
   |true =>rw[hb,aL rfl]at E B;simp only[if_true];rw[B];split<;>split<;>split<;>split<;>omega
   |false =>rw[hb,aE aV]at E B;simp only[bjE,if_false];rw[B];split<;>split<;>split<;>split<;>omega
  ·unfold push;have:=M s' J;rw[bgF,List.getElem?_set_ne (λh=>this h.symm),←bgF];exact l.same s' (bjG _ J)
theorem acS{n:cN}(y:fM n){xs l:List Nat}(x:jY n xs){e:Nat}{L:List dE}(j:i7 n xs l e n.source L):jY n l∧kT n l=kT n xs+e:=by
 refine⟨⟨j.len,j.le,λv A u w=>?_⟩,?_⟩
 ·rw[j.net,x.node v A u w,aE w,aE u];rfl
 ·unfold kT;rw[j.net,aE y.apart,aL rfl];omega
abbrev fP(xs:List Nat):List (List PV):=xs.map λx=>[PV.int .i64 ((x:Nat):Int)]
theorem lG{xs:List Nat}{i:Nat}(h:i<Z' xs):(fP xs)[i]?=some [.int .i64 ((xs.getD i 0:Nat):Int)]:=by
 rw[bgT,bgH h,bgF,bgH h];rfl
abbrev zL(n:cN)(fo m:Nat)(out:PV):cI:=.rows 6 [[.int .i64 (n.nodes:Nat),.int .i64 (n.source:Nat),.int .i64 (n.sink:Nat),Gq n.arcs,.osl fo 1 0 m,out]]
abbrev sH(n:cN)(e fo:Nat)(xs:List Nat)(out:PV):PH:=(PH.nil.set e (zL n fo xs.length out)).set fo (.rows 1 (fP xs))
def stI(s:dE):Int:=if s.2=true then(s.1:Int)else -1-(s.1:Int)
structure rL(n:cN)(xs:List Nat):Prop where
 len:Z' xs=Z' n.arcs
 le:∀i,i<Z' n.arcs→xs.getD i 0≤(cD n i).cap
theorem pE{n:cN}{i:Nat}(h:i<Z' n.arcs):n.arcs[i]=cD n i:=(yV (bgH h)).symm
theorem mF{n:cN}{i:Nat}(h:i<Z' n.arcs):(n.arcs.map bY.cells)[i]?=some (cD n i).cells:=by rw[CF h,pE h]
theorem aUU{C:Ctx}(n:cN)(K:fM n)(w fo:Nat)(u:¬w=fo)(xs:List Nat)(M:rL n xs)(out:PV)(s:dE)(l:s.1<Z' n.arcs) :
  GA.wp C (aW Uv.res (λr H'=>r=.tup [.int .i64 ((hC n s:Nat):Int),.int .i64 ((eF n xs s:Nat):Int)]∧H'=sH n w fo xs out)) (PF.args [.ptr w 6 0 0,.int .i64 (stI s)]) (sH n w fo xs out):=by
 have j:¬fo=w:=λe=>u e.symm;obtain⟨i,b⟩:=s;have l:i<Z' n.arcs:=l;have A:i<Z' xs:=by rw[M.len];exact l
 have y:(i:Int)<(Z' xs:Nat):=Om;have N:=M.le i l;have x:=(K.ends _ (bgD l)).2.2;rw[pE l]at x;have O:=K.num;cases b with
 |true=>
  have E:stI (i,true)=(i:Int):=rfl;have F:hC n (i,true)=(cD n i).dst:=rfl;have I:eF n xs (i,true)=(cD n i).cap-xs.getD i 0:=rfl;rw[E,F,I];have B:(i:Int)≥0:=Om;have J:IntKind.i64.wrap (((cD n i).cap:Int)-((xs.getD i 0:Nat):Int))=(((cD n i).cap-xs.getD i 0:Nat):Int):=by rw[wrap_i64 Om Om];omega
  simp only[go_sem,GA,ti,Uv,tj,B];refine bA .nil cK a_ ?_;simp only[go_sem,acC,u,j,mF l,y,lG A,J];exact bB (vs:=[.int .i64 (((cD n i).dst:Nat):Int),.int .i64 (((cD n i).cap-xs.getD i 0:Nat):Int)]) (.inr rfl) (sH n w fo xs out) rfl (λ_ _ h=>h) ⟨rfl,rfl⟩
 |false=>
  have E:stI (i,false)=-1-(i:Int):=rfl;have F:hC n (i,false)=(cD n i).src:=rfl;have I:eF n xs (i,false)=xs.getD i 0:=rfl;rw[E,F,I];have B:¬(-1-(i:Int))≥0:=Om;have J:IntKind.i64.wrap (-1-(-1-(i:Int)))=(i:Int):=by rw[wrap_i64 Om Om];omega
  simp only[go_sem,GA,ti,Uv,tj,B];refine bA .nil cK a_ ?_;simp only[go_sem,acD,u,j,J,mF l,y,lG A];exact bB (vs:=[.int .i64 (((cD n i).src:Nat):Int),.int .i64 ((xs.getD i 0:Nat):Int)]) (.inr rfl) (sH n w fo xs out) rfl (λ_ _ h=>h) ⟨rfl,rfl⟩
theorem aUS{C:Ctx}(n:cN)(E:fM n)(u fo:Nat)(l:¬u=fo)(xs:List Nat)(out:PV)(s:dE)(w:s.1<Z' n.arcs) :
  FY.wp C (aW Uu.res (λr H'=>r=.int .i64 ((eC n s:Nat):Int)∧H'=sH n u fo xs out)) (PF.args [.ptr u 6 0 0,.int .i64 (stI s)]) (sH n u fo xs out):=by
 have j:¬fo=u:=λe=>l e.symm;obtain⟨i,b⟩:=s;have w:i<Z' n.arcs:=w;have F:=E.num;cases b with
 |true =>have y:stI (i,true)=(i:Int):=rfl;have A:eC n (i,true)=(cD n i).src:=rfl;rw[y,A];have x:(i:Int)≥0:=Om;simp only[go_sem,FY,tg,Uu,th,x,abY,l,j,mF w];exact bB (vs:=[.int .i64 (((cD n i).src:Nat):Int)]) (.inr rfl) (sH n u fo xs out) rfl (λ_ _ h=>h) ⟨rfl,rfl⟩
 |false=>
  have y:stI (i,false)=-1-(i:Int):=rfl;have A:eC n (i,false)=(cD n i).dst:=rfl;rw[y,A];have x:¬(-1-(i:Int))≥0:=Om;have B:IntKind.i64.wrap (-1-(-1-(i:Int)))=(i:Int):=by rw[wrap_i64 Om Om];omega
  simp only[go_sem,FY,tg,Uu,th,x,abZ,l,j,B,mF w];exact bB (vs:=[.int .i64 (((cD n i).dst:Nat):Int)]) (.inr rfl) (sH n u fo xs out) rfl (λ_ _ h=>h) ⟨rfl,rfl⟩
def KC(way:Nat→dE)(v:Nat)(s:dE):Nat→dE:=λw=>if w=v then s else way w
theorem Dg{n:cN}(l:fM n)(xs:List Nat)(way:Nat→dE):sJ n xs [n.source] way:=by
 refine⟨⟨[],rfl⟩,by simp,λv e=>?_,λv e j=>?_⟩
 ·rw[bhI]at e;subst e;exact l.source
 ·exact absurd (bhI.1 e) j
theorem sy{Q:List Nat}{v a:Nat}(h:v∈Q):(Q++[a]).idxOf v=Q.idxOf v:=by
 rw[List.idxOf_append,aL h]
theorem aQC{n:cN}(N:fM n){xs Q:List Nat}{way:Nat→dE}(j:sJ n xs Q way){s:dE}(w:s.1<Z' n.arcs)(l:eC n s∈Q)(x:hC n s ∉ Q)(O:0<eF n xs s) :
  sJ n xs (Q++[hC n s]) (KC way (hC n s) s):=by
 obtain⟨t,K⟩:=j.first;have y:hC n s<n.nodes:=by have:=N.ends _ (bgD w);rw[show n.arcs[s.1]=cD n s.1 from(yV (bgH w)).symm]at this;unfold hC;split<;>omega
 refine⟨⟨t++[hC n s],by rw[K];rfl⟩,?_,λv A=>?_,λv A u=>?_⟩
 ·rw[bjA];refine⟨j.nd,by simp,λa M b hb=>?_⟩;rw[bhI]at hb;subst hb;rintro rfl;exact x M
 ·rcases bhK.1 A with h|h
  ·exact j.lt v h
  ·rw[bhI]at h;subst h;exact y
 ·rcases bhK.1 A with h|h
  ·have B:v≠hC n s:=λe=>x (e ▸ h);obtain⟨E,I,J,F,h5⟩:=j.way v h u;unfold KC;rw[aE B];exact⟨E,I,J,bjQ _ F,by rw[sy F,sy h];exact h5⟩
  ·rw[bhI]at h;subst h;unfold KC;rw[aL rfl];refine⟨w,rfl,O,bjQ _ l,?_⟩;rw[sy l];have E:=List.idxOf_lt_length_of_mem l;rw[List.idxOf_append,aE x];omega
theorem abK:∀(n:Nat)(Q:List Nat),Q.Nodup→(∀v∈Q,v<n)→Z' Q≤n
 |0,[],_,_=>bgG _
 |0,v::Q,_,h=>absurd (h v aY) Om
 |n+1,Q,l,h=>by
  by_cases e:n∈Q
  ·have u:=abK n (Q.erase n) (l.erase n) λv j=>by have x:=(l.mem_erase_iff).1 j;have:=h v x.2;omega
   rw[List.length_erase_of_mem e]at u;omega
  ·have u:=abK n Q l λv j=>by have:=h v j;have:v≠n:=λw=>e (w ▸ j);omega
   omega
theorem JQ{n:cN}{xs Q:List Nat}{way:Nat→dE}(e:sJ n xs Q way):Z' Q≤n.nodes:=abK _ _ e.nd e.lt
theorem Jw(n:cN)(xs Q:List Nat):IL n xs Q 0:=λv e=>by simp at e
theorem aMF{n:cN}{xs Q:List Nat}{k:Nat}(h:IL n xs Q k)(w:k≤Z' Q)(a:Nat):IL n xs (Q++[a]) k:=λv e s j l u=>by
 rw[List.take_append_of_le_length w]at e;exact bjQ _ (h v e s j l u)
theorem Jv{n:cN}{xs Q:List Nat}{k v:Nat}(h:IL n xs Q k)(B:Q[k]?=some v)(j:∀s:dE,s.1<Z' n.arcs→eC n s=v→0<eF n xs s→hC n s∈Q):IL n xs Q (k+1):=λw y s l u x=>by
 obtain⟨A,e⟩:=bhG.1 B;rw[bhW A,e]at y;rcases bhK.1 y with g|g
 ·exact h w g s l u x
 ·rw[bhI]at g;subst g;exact j s l u x
structure Uq(n:cN)(outL:List (List Int)):Prop where
 len:Z' outL=n.nodes
 all:∀s:dE,s.1<Z' n.arcs→stI s∈outL.getD (eC n s) []
 only:∀v c,c∈outL.getD v []→∃s:dE,s.1<Z' n.arcs∧eC n s=v∧c=stI s
 few:∀v,(outL.getD v []).length≤1000000
def byL(cd:dE→Int)(n:cN)(Q:List Nat)(way:Nat→dE):List Int:=(bfZ n.nodes).map λv=>if v∈Q∧v≠n.source then cd (way v)else 0
def seL(n:cN)(Q:List Nat):List Bool:=(bfZ n.nodes).map λv=>Q.contains v
theorem sG{α:Type}(g h:Nat→α)(N t:Nat)(x:α)(w:h t=x)(u:∀v,v≠t→h v=g v):((bfZ N).map g).set t x=(bfZ N).map h:=by
 refine List.ext_getElem? λi=>?_;rw[bjT,bfY,biU,bgT,bgT];by_cases e:t=i
 ·subst e;rw[aL rfl];by_cases l:t<N
  ·rw[aL l,biH l,←w];rfl
  ·rw[aE l,bhQ (by simpa using l)];rfl
 ·rw[aE e];by_cases l:i<N
  ·rw[biH l,bhD,bhD,u i λj=>e j.symm]
  ·rw[bhQ (by simpa using l)];rfl
theorem Gt{cd:dE→Int}{n:cN}{Q:List Nat}{way:Nat→dE}{t:Nat}{s:dE}(l:n.source∈Q)(u:t ∉ Q):(byL cd n Q way).set t (cd s)=byL cd n (Q++[t]) (KC way t s):=by
 refine sG _ _ _ _ _ ?_ λv j=>?_
 ·have:t≠n.source:=λe=>u (e ▸ l);rw[aL ⟨by simp,this⟩,KC,aL rfl]
 ·rw[KC,aE j];have:(v∈Q++[t])↔v∈Q:=by simp[j]
  simp only[this]
theorem Iz(n:cN)(Q:List Nat)(t:Nat):(seL n Q).set t true=seL n (Q++[t]):=by
 refine sG _ _ _ _ _ ?_ λv e=>?_
 ·simp
 ·simp[e]
theorem Vz(cd:dE→Int)(n:cN)(way:Nat→dE):bgA n.nodes [PV.int .i64 0]=bS (byL cd n [n.source] way):=by
 refine List.ext_getElem? λi=>?_;unfold bS byL;rw[bkC,bgT,bgT];by_cases l:i<n.nodes
 ·rw[aL l,biH l,bhD,bhD,aE aY]
 ·rw[aE l,bhQ (by simpa using l)];rfl
theorem aiR(n:cN):(bgA n.nodes [PV.bool false]).set n.source [PV.bool true]=bK (seL n [n.source]):=by
 have w:bgA n.nodes [PV.bool false]=(bfZ n.nodes).map λ_=>[PV.bool false]:=by
  refine List.ext_getElem? λi=>?_;rw[bkC,bgT];by_cases l:i<n.nodes
  ·rw[aL l,biH l];rfl
  ·rw[aE l,bhQ (by simpa using l)];rfl
 have j:[n.source].contains n.source=true:=by simp
 have u:∀v,v≠n.source→[n.source].contains v=false:=by intro v e;simp[e]
 have x:=sG (λ_=>[PV.bool false]) (λv=>[PV.bool ([n.source].contains v)]) n.nodes n.source [PV.bool true] (by rw[j]) (λv e=>by rw[u v e]);rw[w,x];unfold bK seL;rw[bjF];rfl
theorem QM(cd:dE→Int)(n:cN)(Q:List Nat)(way:Nat→dE):(byL cd n Q way).length=n.nodes:=by simp[byL]
theorem CZ(n:cN)(Q:List Nat):(seL n Q).length=n.nodes:=by simp[seL]
theorem RL{n:cN}{Q:List Nat}{v:Nat}(h:v<n.nodes):(seL n Q).getD v false=Q.contains v:=by
 unfold seL;rw[bgF,bgT,biH h];rfl
structure RS where
 Q:List Nat
 k:Nat
 way:Nat→dE
 v:PV
 q:Nat
 H:PH
 d:Nat
structure rN(n:cN)(xs:List Nat)(X:PH)(cd:dE→Int)(b e:Nat)(a:RS):Prop where
 seen:sJ n xs a.Q a.way
 done:IL n xs a.Q a.d
 dk:a.d≤a.k
 k:a.k≤Z' a.Q
 base:X.le a.H
 hb:a.H b=some (.rows 1 (bS (byL cd n a.Q a.way)))
 he:a.H e=some (.rows 1 (bK (seL n a.Q)))
 hq:wV a.H 1 a.q a.v (fP (a.Q.drop a.k))
 ne:X a.q=none∧a.q≠b∧a.q≠e
theorem uN{X H:PH}{o:Nat}{y:cI}(h:X.le H)(j:X o=none):X.le (H.set o y):=λq x hq=>by
 rw[aR,aE (λe=>by subst e;rw[j]at hq;cases hq)];exact h q x hq
def aLR(n:cN)(e fo:Nat)(xs:List Nat)(out:PV)(r:PV)(H:PH):Prop:=
 ∃Q way,sJ n xs Q way∧IL n xs Q Q.length∧r=.tup [ints (byL stI n Q way),.sl 1 (bK (seL n Q))]∧H=sH n e fo xs out
theorem rN.step{n:cN}(U:fM n){xs:List Nat}{X:PH}{cd:dE→Int}{b e:Nat}{a:RS}(h:rN n xs X cd b e a)(hd:X b=none∧X e=none∧¬b=e){s:dE}(hs:s.1<Z' n.arcs)(hf:eC n s∈a.Q)(ht:hC n s ∉ a.Q)(hr:0<eF n xs s)
  {K:PV→PH→Prop} (hK:∀w:RS,rN n xs X cd b e w→w.Q=a.Q++[hC n s]→w.k=a.k→w.d=a.d→K w.v w.H) :
  pF ((a.H.set e (.rows 1 (bK (seL n (a.Q++[hC n s]))))).set b (.rows 1 (bS (byL cd n (a.Q++[hC n s]) (KC a.way (hC n s) s))))) 1 8 a.v (.sl 1 [[.int .i64 ((hC n s:Nat):Int)]]) K:=by
 obtain⟨W,Y,Z⟩:=hd;obtain⟨V,N,O⟩:=h.ne;have R:=aQC U h.seen hs hf ht hr;have y:=JQ R;rw[bgB,bgI]at y;have S:=U.few;have hq:wV ((a.H.set e (.rows 1 (bK (seL n (a.Q++[hC n s]))))).set b (.rows 1 (bS (byL cd n (a.Q++[hC n s]) (KC a.way (hC n s) s))))) 1 a.q a.v (fP (a.Q.drop a.k)):=h.hq.ext λx j=>by rw[aR,aE N,aR,aE O];exact j
 refine hq.append (src:=[[.int .i64 ((hC n s:Nat):Int)]]) rfl ?_ λE v' H' g1 g2 g3 g4=>?_
 ·unfold roomFor;rw[bfY,bhR,bgI];simp only[maxLen];omega
 have J:∀o x,o≠a.q→a.H o=some x→o≠b→o≠e→H' o=some x:=λo x hq M hb he=>g3 o x hq (by rw[aR,aE hb,aR,aE he];exact M);have I:fP (a.Q.drop a.k)++[[PV.int .i64 ((hC n s:Nat):Int)]]=fP ((a.Q++[hC n s]).drop a.k):=by rw[List.drop_append_of_le_length h.k,show ∀A B:List Nat,fP (A++B)=fP A++fP B from λA B=>bhM];rfl
 rw[I]at g1;have u:∀o x,a.H o=some x→o≠a.q→E≠o:=λo x M hq l=>by
  subst l;rcases g2 with g|g
  ·exact hq g
  ·rw[aR]at g;split at g
   ·cases g
   ·rw[aR]at g;split at g
    ·cases g
    ·rw[M]at g;cases g
 have F:X E=none:=by
  cases j:X E with
  |none=>rfl
  |some x=>exact absurd rfl (u E x (h.base _ _ j) λl=>by rw[l,V]at j;cases j)
 refine hK ⟨a.Q++[hC n s],a.k,KC a.way (hC n s) s,v',E,H',a.d⟩ ⟨R,aMF h.done (biJ h.dk h.k) _,h.dk,?_,λo x j=>J o x (λl=>by rw[l,V]at j;cases j) (h.base _ _ j) (λl=>by rw[l,W]at j;cases j) (λl=>by rw[l,Y]at j;cases j),?_,?_,g1,?_⟩ rfl rfl rfl
 ·have:=h.k;show a.k≤(a.Q++[hC n s]).length;rw[bgB];omega
 ·exact g3 b _ N.symm (by rw[cB])
 ·exact g3 e _ O.symm (by rw[aR,aE (λl=>Z l.symm),cB])
 ·exact⟨F,u _ _ h.hb N.symm,u _ _ h.he O.symm⟩

def aZL(c:UInt8)(n:Nat):List UInt8:=[c,UInt8.ofNat (97+n/26%26),UInt8.ofNat (97+n%26)]
def V9(ds:List dQ)(level parent bfF:Nat):List dQ:=ds++[⟨aZL 110 ds.length,(level:Nat),(parent:Nat),(bfF:Nat),pB⟩]
theorem aUZ(a b:Nat)(l:a<4294967296)(hb:b<4294967296):(mkT (a:Int) (b:Int)).Ok:=by
 rw[awR];have e:=bjJ a (bgC a b);have j:=bjJ b (bgC a b);have k1:nl (a/bgC a b)≤1:=(nJ _ _).2 Om;have k2:nl (b/bgC a b)≤1:=(nJ _ _).2 Om;refine⟨bC _,bC _,?_,?_⟩
 ·show(aM _).length≤_;rw[bJ];omega
 ·show(aM _).length≤_;rw[bJ];omega
theorem aaQ{n:Nat}(h:n≤1000000):eX (n:Int):=by unfold eX;omega
def Vb(ds:List dQ):Prop:=∀x∈ds,x.bfA.Ok∧eX x.level∧eX x.parent
theorem Vb.dom{ds:List dQ}(h:Vb ds){level parent bfF:Nat}(j:level≤1000)(l:parent≤1000):Vb (V9 ds level parent bfF):=λx e=>by
 unfold V9 at e;rw[bhK,bhI]at e;rcases e with e|rfl
 ·exact h x e
 ·exact⟨aUZ 0 1 aV aV,aaQ Om,aaQ Om⟩
structure FM(f:aD):Prop where
 ok:f.Ok
 km:∀p∈f.beO,1≤p.k∧p.k≤2∧0≤p.m∧p.m≤2
 beK:Z' f.beK≤9
 pols:1≤Z' f.beO∧Z' f.beO≤2
 vols:∀x∈f.beM,0≤x.beX∧x.beX<Z' f.beO
theorem FM.pol{f:aD}(h:FM f){v:Nat}(j:v<Z' f.beM):FH f v<Z' f.beO∧cL f v∈f.beO:=by
 have l:=h.vols _ (bgD j);have u:FH f v=(f.beM[v]).beX.toNat:=by rw[FH,getD_at j]
 have e:FH f v<Z' f.beO:=Om;refine⟨e,?_⟩;unfold cL;rw[bgF,bgH e,biE];exact bgD e
theorem FM.ri{f:aD}(h:FM f){v:Nat}(e:v<Z' f.beM):1≤nI f v∧nI f v≤4:=by
 have:=h.km _ (h.pol e).2;unfold nI;omega
abbrev a8Y(l:List Int)(a:Nat):cI:=.rows 2 [[ints l,.int .i64 (a:Nat)]]
section
variable {C:Ctx} {F:PF} {H Hs:PH} {l:List Int} {o a:Nat}
end
structure ME where
 o:Nat
 o4:Nat
 o5:Nat
 vols:Nat
abbrev ME.boxes(E:ME)(l:List Int)(ext e j u w wp wv:PV)(a:Nat):List BX:=[(E.o5,flB ext e j u w wp wv),(E.o,a8Y l a),(E.o4,flZ)]





def baX(ds:List dQ)(i:Nat)(d:dQ):Prop:=∃lev p u:Nat,d.name=aZL 110 (i+1)∧d.level=lev∧1≤lev∧lev≤4∧d.parent=p∧p≤i∧(lvs ds)[p]?=some ((lev:Int)-1)∧d.bfF=u∧1≤u∧u≤64∧d.bfA=pB
structure DV(ds:List dQ):Prop where
 root:ds[0]?=some sC
 dom:∀i (hi:i+1<Z' ds),baX ds i ds[i+1]
theorem DV.new{ds:List dQ}(h:DV ds){level parent up:Nat}(x:1≤level)(y:level≤4)(e:(lvs ds)[parent]?=some ((level:Int)-1))(B:1≤up)(E:up≤64) :
  DV (V9 ds level parent up)∧(lvs (V9 ds level parent up))[Z' ds]?=some (level:Int):=by
 have A:parent<Z' ds:=by
  have:=(bhG.1 e).1
  rwa[bfY]at this
 unfold V9;refine⟨⟨by rw[biA Om];exact h.root,λi hi=>?_⟩,?_⟩
 ·simp only[bgB,bgI]at hi;by_cases hlt:i+1<Z' ds
  ·rw[List.getElem_append_left hlt];obtain⟨lev,p,v,g1,g2,g3,g4,j,l,u,w⟩:=h.dom i hlt;exact⟨lev,p,v,g1,g2,g3,g4,j,l,ID u,w⟩
  ·have:i+1=Z' ds:=Om;rw[List.getElem_append_right Om];simp only[List.getElem_singleton];exact⟨level,parent,up,by rw[this],rfl,x,y,rfl,by omega,ID e,rfl,B,E,rfl⟩
 ·unfold lvs;rw[bhM,biB (by rw[bfY];exact bgG _),bfY,Nat.sub_self];rfl




theorem aO.store{H:PH}{B:List BX}{L:List LI}(h:aO H B L)(i:Nat){q s n:Nat}{rows:List (List PV)}(hi:L[i]?=some (.osl q s 0 n,s,rows))(k:Nat)(c:List PV) :
  ∃rs,H q=some (.rows s rs)∧n≤Z' rs∧rs.take n=rows∧aO (H.set q (.rows s (rs.set k c))) B (L.set i (.osl q s 0 n,s,rows.set k c)):=by
 obtain⟨rs,u,w,j,l⟩:=(h.own i hi).id rfl;injection w with _ _ _ x
 subst x;refine⟨rs,u,j,l,h.WU i hi (.inr ⟨q,rs.set k c,by rw[bhU],by rw[cB],by rw[bhU,bhU];exact j,by rw[bhU,List.take_set,l]⟩) (λp e=>.inl e) λp _ e=>?_⟩;have:p≠q:=e q rfl;rw[aR,aE this]

open Go Go.RowKit Go.Sort Go.Shelf Go.Proofs
section
variable {E:Env} {H:PH} {w:World}
end
section
variable {C:Ctx} {ρ:Ren} {name:Nat}
end
abbrev lists(ws:List (List Int)):PV:=.sl 1 (ws.map λw=>[ints w])
abbrev WPs:=List (PV × List Int)
def eI(ps:WPs):List (List PV):=ps.map λp=>[p.1]
def jW(ps:WPs):List LI:=ps.map λp=>(p.1,1,bS p.2)
def wls(ps:WPs):List (List Int):=ps.map (·.2)
def uO(e:PV)(ps:WPs):List LI:=(e,1,eI ps)::jW ps
section
variable {H:PH} {B:List BX}
theorem EN(ps:WPs):(eI ps).length=Z' ps:=bfY _
theorem IB{ps:WPs}{i:Nat}{v:PV}{w:List Int}(hi:ps[i]?=some (v,w)):(jW ps)[i]?=some (v,1,bS w):=by
 unfold jW;rw[bgT,hi];rfl
theorem zH{ps:WPs}{i:Nat}{v:PV}{w:List Int}(hi:ps[i]?=some (v,w)):(eI ps)[i]?=some [v]:=by
 unfold eI;rw[bgT,hi];rfl
theorem aO.Uy(h:aO H B []):aO H B (uO .aH []):=h.oV 1
theorem aO.inner{e:PV}{ps:WPs}(h:aO H B (uO e ps)){i:Nat}{v:PV}{w:List Int}(hi:ps[i]?=some (v,w)):bH H 1 v (bS w):=h.own (i+1) (IB hi)
theorem aO.outer{e:PV}{ps:WPs}(h:aO H B (uO e ps)):bH H 1 e (eI ps):=h.own 0 rfl
theorem JF(a b:List Int):bS (a++b)=bS a++bS b:=bhM
theorem aO.aZO{x:PV}{ps:WPs}(h:aO H B (uO x ps)){i b:Nat}{v y:PV}{w src:List Int}{K:PV→PH→Prop}(hi:ps[i]?=some (v,w))(I:fA H 1 y=some (bS src))(E:roomFor w.length src.length b)(l:src≠[])
  (A:∀q H',aO H' B ((x,1,eI ps)::(jW ps).set i (.osl q 1 0 (w++src).length,1,bS (w++src)))→K (.osl q 1 0 (w++src).length) H'):pF H 1 b v y K:=by
 have j:bS src≠[]:=λe=>l (List.map_eq_nil_iff.1 e);refine h.append (i+1) (IB hi) I (by rw[gV,gV];exact E) λv' H' u F=>?_;obtain⟨q,rfl⟩:=F j;rw[←JF,gV]at u ⊢;exact A q H' u
theorem aO.aQF{j n i:Nat}{ps:WPs}{v':PV}{l:List Int}(h:aO H B ((.osl j 1 0 n,1,eI ps)::(jW ps).set i (v',1,bS l))) :
  ∃rs,H j=some (.rows 1 rs)∧n≤Z' rs∧rs.take n=eI ps∧aO (H.set j (.rows 1 (rs.set i [v']))) B (uO (.osl j 1 0 n) (ps.set i (v',l))):=by
 obtain⟨rs,u,w,x,y⟩:=h.store 0 rfl i [v'];refine⟨rs,u,w,x,?_⟩;have e:uO (.osl j 1 0 n) (ps.set i (v',l))=((.osl j 1 0 n,1,eI ps)::(jW ps).set i (v',1,bS l)).set 0 (.osl j 1 0 n,1,(eI ps).set i [v']):=by unfold uO eI jW;rw[List.map_set,List.map_set];rfl
 rw[e];exact y
def qJ(e:List (List PV))(ws:List (List Int)):Prop:=Z' e=Z' ws∧∀(i:Nat) r w,e[i]?=some r→ws[i]?=some w→r=[ints w]∨(r=[.aH]∧w=[])
theorem qJ.nil:qJ [] []:=⟨rfl,λi r w h=>by cases h⟩
theorem qJ.snoc{l:List (List PV)}{ws:List (List Int)}{u:PV}{w:List Int}(h:qJ l ws)(y:u=ints w∨(u=.aH∧w=[])):qJ (l++[[u]]) (ws++[w]):=by
 refine⟨by simp[h.1],λi r x e j=>?_⟩;rcases Nat.lt_trichotomy i l.length with c|c|c
 ·rw[biA c]at e;rw[biA (by rw[←h.1];exact c)]at j;exact h.2 i r x e j
 ·subst c;rw[biB (bgG _),Nat.sub_self]at e;rw[h.1,biB (bgG _),Nat.sub_self]at j;cases e;cases j;rcases y with rfl|⟨rfl,rfl⟩
  ·exact .inl rfl
  ·exact .inr ⟨rfl,rfl⟩
 ·rw[biB Om,bhQ (by simp;omega)]at e;cases e
theorem qJ.flat{j:List (List PV)}{ws:List (List Int)}(h:qJ j ws):Flat j:=Flat.of λr u c e q s rs=>by
 obtain⟨i,hi⟩:=List.mem_iff_getElem?.1 u;have l:=(bhG.1 hi).1;rcases h.2 i r _ hi (bgH (by rw[←h.1];exact l))with rfl|⟨rfl,-⟩
 ·rw[bhI]at e;subst e;rfl
 ·rw[bhI]at e;subst e;rfl
theorem qJ.co{y:List (List PV)}{ws:List (List Int)}(h:qJ y ws):Co (.sl 1 y) (lists ws):=by
 have x:∀(i:Nat) r t,y[i]?=some r→(ws.map λw=>[ints w])[i]?=some t→∃w,t=[ints w]∧(r=[ints w]∨(r=[.aH]∧w=[])):=λi r t u e=>by
  rw[bgT]at e;cases E:ws[i]? with
  |none=>rw[E]at e;cases e
  |some w =>rw[E]at e;cases e;exact⟨w,rfl,h.2 i r w u E⟩
 refine .sl (by rw[bfY,h.1]) (λi r t u e=>?_) (λi j p q l hq=>?_)
 ·obtain⟨w,rfl,A|⟨A,-⟩⟩:=x i r t u e<;>subst A<;>rfl
 ·unfold at2 at l hq;cases u:y[i]? with
  |none=>rw[u]at l;cases l
  |some r=>
   cases e:(ws.map λw=>[ints w])[i]? with
   |none=>rw[e]at hq;cases hq
   |some t=>
    rw[u]at l;rw[e]at hq;obtain⟨w,rfl,A⟩:=x i r t u e;rcases A with rfl|⟨rfl,rfl⟩
    ·have:some p=some q:=l.symm.trans hq;cases this;exact .refl _
    ·cases j with
     |zero=>cases l;cases hq;exact .nil 1
     |succ j=>cases l
end
def Fx(u:PV):Prop:=∀q s rs,PV.frz q s rs u=u
theorem Fx.int(k:IntKind)(n:Int):Fx (.int k n):=λ_ _ _=>rfl
theorem Fx.bool(b:Bool):Fx (.bool b):=λ_ _ _=>rfl
theorem Fx.sl(n:Nat)(r:List (List PV)):Fx (.sl n r):=λ_ _ _=>rfl
theorem Fx.aH:Fx .aH:=λ_ _ _=>rfl
theorem Fx.ptr(q z i c:Nat):Fx (.ptr q z i c):=λ_ _ _=>rfl
theorem Fx.bE(c:List PV):Fx (.bE c):=λ_ _ _=>rfl
theorem bH.dM{H:PH}{s:Nat}{v:PV}{rows:List (List PV)}(h:bH H s v rows)(q z:Nat)(rs:List (List PV)):PV.frz q z rs v=PV.dM q z rs v:=by
 rcases h with⟨-,rfl⟩|⟨p,rs',rfl,-⟩<;>rfl
def PN(φ:PV→PV)(F:PF):PF:=λi=>(F i).map φ
theorem xS(φ:PV→PV)(F:PF)(i:Nat):PN φ F i=(F i).map φ:=rfl
theorem UP:∀(ps:WPs){H:PH}{B:List BX}{A:PV}(y:List (List PV)) (l:List (List Int)),qJ y l→aO H B ((A,1,y++eI ps)::jW ps)→(∀b∈B,∀q s rs,cI.frz q s rs b.2=b.2) →
  ∃(φ:PV→PV)(E:PH),Co (φ A) (lists (l++wls ps))∧(∀u,Fx u→φ u=u)∧(∀e:Int,φ (.tup [A,.int .i64 e])=.tup [φ A,.int .i64 e])∧aO E B []∧(∀F:PF,mP F H (PN φ F) E)∧∀o,(H o=none∨A.oid=some o∨∃p∈ps,p.1.oid=some o)→E o=none
 |[],H,B,A,y,l,J,h,hB=>by
  have M:y++eI []=y:=bhH y;have e1:l++wls []=l:=bhH l;rw[M]at h;rw[e1];rcases h.own 0 rfl with⟨R,rfl⟩|⟨q,rs,rfl,_⟩
  ·refine⟨id,H,?_,λ_ _=>rfl,λ_=>rfl,h.za 0,λF=>?_,λo ho=>?_⟩
   ·subst R;have:l=[]:=List.length_eq_zero_iff.1 J.1.symm;subst this;exact .nil 1
   ·have:PN id F=F:=funext λi=>by rw[xS];simp
    rw[this];exact .refl _ _
   ·rcases ho with ho|ho|⟨p,hp,-⟩
    ·exact ho
    ·cases ho
    ·cases hp
  ·obtain⟨rs,X,Y,Z,z4,K⟩:=h.frz 0 rfl;refine⟨PV.frz q 1 rs,H.frz q 1 rs,?_,λu N=>N _ _ _,λe=>?_,?_,λF=>.step q X (.refl _ _),λo ho=>?_⟩
   ·rw[Z];exact J.co
   ·show PV.tup [PV.dM q 1 rs (.osl q 1 0 y.length),.int .i64 e]=_;rw[Y,Z]
   ·have O:(B.map λb=>(b.1,b.2.frz q 1 rs))=B:=by
     conv=>rhs;rw[←List.map_id B]
     refine biI λb hb=>?_;rw[hB b hb q 1 rs];rfl
    rw[O]at K;exact K
   ·rw[IA];rcases ho with ho|ho|⟨p,hp,-⟩
    ·rw[ho];split<;>rfl
    ·have:q=o:=by injection ho
     rw[aL this.symm]
    ·cases hp
 |(v,w)::ps,H,B,A,y,l,J,h,hB=>by
  have eo:∀u:PV,y++[[u]]++eI ps=y++[u]::eI ps:=λu=>by rw[bgX];rfl
  have ew:l++[w]++wls ps=l++wls ((v,w)::ps):=by rw[bgX];rfl
  have ho:bH H 1 v (bS w):=h.own 1 rfl;rcases ho with⟨R,rfl⟩|⟨q,rs,rfl,_⟩
  ·have hw:w=[]:=List.map_eq_nil_iff.1 R;have h2:=h.za 1;obtain⟨φ,E,k1,k2,S,U,V,W⟩:=UP ps (y++[[.aH]]) (l++[w]) (J.snoc (.inr ⟨rfl,hw⟩)) (by rw[eo];exact h2) hB;rw[ew]at k1;refine⟨φ,E,k1,k2,S,U,V,λo ho=>W o ?_⟩;rcases ho with ho|ho|⟨p,hp,ho⟩
   ·exact .inl ho
   ·exact .inr (.inl ho)
   ·rcases bgN.1 hp with rfl|hp
    ·cases ho
    ·exact .inr (.inr ⟨p,hp,ho⟩)
  ·obtain⟨rs,X,Y,Z,z4,K⟩:=h.frz 1 rfl;have O:(B.map λb=>(b.1,b.2.frz q 1 rs))=B:=by
    conv=>rhs;rw[←List.map_id B]
    refine biI λb hb=>?_;rw[hB b hb q 1 rs];rfl
   have y0:PV.dM q 1 rs A=A:=z4 0 _ aV rfl;have I:PV.frz q 1 rs A=A:=((h.own 0 rfl).dM q 1 rs).trans y0;have yp:∀p∈ps,PV.dM q 1 rs p.1=p.1:=λp hp=>by obtain⟨j,hj⟩:=List.mem_iff_getElem?.1 hp;exact z4 (j+2) (p.1,1,bS p.2) Om (IB hj)
   have er:(y++eI ((.osl q 1 0 (bS w).length,w)::ps)).map (λr=>r.map (PV.dM q 1 rs))=y++[[ints w]]++eI ps:=by
    rw[bhM,J.flat,bgX];congr 1;show[PV.dM q 1 rs (.osl q 1 0 (bS w).length)]::(eI ps).map _=_;rw[Y];have:(eI ps).map (λr=>r.map (PV.dM q 1 rs))=eI ps:=by unfold eI;rw[bjF];refine biI λp hp=>?_;show[PV.dM q 1 rs p.1]=_;rw[yp p hp]
    rw[this];rfl
   have ei:(jW ps).map (λx=>(x.1,x.2.1,x.2.2.map λr=>r.map (PV.dM q 1 rs)))=jW ps:=by unfold jW;rw[bjF];refine biI λp _=>?_;show(p.1,1,(bS p.2).map λr=>r.map (PV.dM q 1 rs))=_;rw[show(bS p.2).map (λr=>r.map (PV.dM q 1 rs))=bS p.2 from Flat.map p.2 (λx c hc q s rs=>by rw[bhI]at hc;subst hc;rfl) q 1 rs]
   have z6:aO (H.frz q 1 rs) B ((A,1,y++[[ints w]]++eI ps)::jW ps):=by rw[O]at K;have z7:aO (H.frz q 1 rs) B ((A,1,(y++eI ((.osl q 1 0 (bS w).length,w)::ps)).map (λr=>r.map (PV.dM q 1 rs)))::(jW ps).map (λx=>(x.1,x.2.1,x.2.2.map λr=>r.map (PV.dM q 1 rs)))):=K;rw[er,ei]at z7;exact z7
   obtain⟨φ,E,k1,k2,S,U,V,W⟩:=UP ps (y++[[ints w]]) (l++[w]) (J.snoc (.inl rfl)) z6 hB;rw[ew]at k1;refine⟨λu=>φ (PV.frz q 1 rs u),E,?_,λu N=>?_,λe=>?_,U,λF=>.step q X ?_,λo ho=>W o ?_⟩
   ·simp only;rw[I];exact k1
   ·simp only;rw[N,k2 u N]
   ·simp only;rw[I];have yt:PV.frz q 1 rs (.tup [A,.int .i64 e])=.tup [PV.frz q 1 rs A,.int .i64 e]:=by rcases h.own 0 rfl with⟨-,M⟩|⟨p,rs',M,-⟩<;>(subst M;rfl)
    rw[yt,I,S]
   ·have:PN (λu=>φ (PV.frz q 1 rs u)) F=PN φ (F.frz q 1 rs):=funext λi=>by rw[xS,xS,tT,Option.map_map];rfl
    rw[this];exact V _
   ·rw[IA];rcases ho with ho|ho|⟨p,hp,ho⟩
    ·left;rw[ho];split<;>rfl
    ·exact .inr (.inl ho)
    ·rcases bgN.1 hp with rfl|hp
     ·have:q=o:=by injection ho
      left;rw[aL this.symm]
     ·exact .inr (.inr ⟨p,hp,ho⟩)
theorem EO{res:List fL}{F:PF}{H:PH}{l:PV}{ps:WPs}{c:Int}{e:oW}(he:e=.normal∨e=.ret)(h:fL.evs F H res=some [l,.int .i64 c])(w:aO H [] (uO l ps)):aW res (cT (.tup [lists (wls ps),.int .i64 c])) e F H:=by
 obtain⟨φ,A,k1,-,x,-,y,-⟩:=UP ps [] [] .nil w (λb hb=>by cases hb);refine pU he h ⟨_,_,.nil,y _,a_,φ (cF [l,.int .i64 c]),?_,?_⟩
 ·rw[xS,qK,aL rfl];rfl
 ·show cT _ (φ (.tup [l,.int .i64 c])) .nil;rw[x];refine⟨.tup rfl λj p q u hq=>?_,rfl⟩
  match j with
  |0=>cases u;cases hq;exact k1
  |1=>cases u;cases hq;exact .refl _
  |j+2=>cases u
theorem zD{H:PH}{o q s:Nat}{rs:List (List PV)}{x:cI}(h:H o=some x)(e:¬o=q)(j:cI.frz q s rs x=x):(H.frz q s rs) o=some x:=by
 show(if o=q then none else(H o).map (cI.frz q s rs))=some x;rw[aE e,h,bhD,j]
theorem zC{q s:Nat}{rs r:List (List PV)}(h:Flat r)(z:Nat):cI.frz q s rs (.rows z r)=.rows z r:=by
 show cI.rows z (r.map λc=>c.map (PV.dM q s rs))=_;rw[h]
theorem Kf{H H2:PH}{b e m:Nat}{j l:List (List PV)}{R:PV→PH→Prop}(hb:H b=some (.rows 1 j))(he:H e=some (.rows 1 l))(u:¬e=b)(x:Flat l)(A:Z' j=m)(le:Z' l=m)
  (w:H2.le ((H.frz b 1 j).frz e 1 l)) (y:R (.tup [.sl 1 j,.sl 1 l]) H2):uH (.tup [.osl b 1 0 m,.osl e 1 0 m]) H R:=by
 have B:PV.frz b 1 j (.tup [.osl b 1 0 m,.osl e 1 0 m])=.tup [.sl 1 j,.osl e 1 0 m]:=by simp[PV.frz,PV.wE,PV.dM,u,←A]
 have E:PV.frz e 1 l (.tup [.sl 1 j,.osl e 1 0 m])=.tup [.sl 1 j,.sl 1 l]:=by simp[PV.frz,PV.wE,PV.dM,←le]
 refine .step hb ?_;rw[B];refine .step (zD he u (zC x 1)) ?_;rw[E];exact .done y w
theorem aGO(l:List Bool):Flat (bK l):=Flat.map l λx c e q s rs=>by
 rw[bhI]at e;subst e;rfl
abbrev nY(e:List (List PV)):PV:=.sl 1 e
theorem qJ.at{j:List (List PV)}{ws:List (List Int)}(h:qJ j ws){i:Nat}(hi:i<Z' ws):∃u,j[i]?=some [u]∧(u=ints (ws.getD i [])∨(u=.aH∧ws.getD i []=[])):=by
 have l:i<Z' j:=by rw[h.1];exact hi
 have w:ws.getD i []=ws[i]:=by rw[bgF,bgH hi];rfl
 rw[w];rcases h.2 i j[i] ws[i] (bgH l) (bgH hi)with e|⟨e,e2⟩
 ·exact⟨_,by rw[bgH l,e],.inl rfl⟩
 ·exact⟨_,by rw[bgH l,e],.inr ⟨rfl,e2⟩⟩
theorem aNM {C : Ctx} (hends : ∀ (n : cN) (so fo : Nat) (xs : List Nat) (out : PV) (s : dE), fM n → ¬ so = fo → rL n xs → s.1 < n.arcs.length → aI C 294 [.ptr so 6 0 0, .int .i64 (stI s)] (sH n so fo xs out) (fun r H' => r = .tup [.int .i64 ((hC n s : Nat) : Int), .int .i64 ((eF n xs s : Nat) : Int)] ∧ H' = sH n so fo xs out))
    (n : cN) (hn : fM n) (so fo : Nat) (hne : ¬ so = fo) (xs : List Nat) (hx : rL n xs) (fs : List (List PV)) (outL : List (List Int)) (hSh : qJ fs outL) (hO : Uq n outL) :
    NL.wp C (aW adK.res (aLR n so fo xs (nY fs))) (PF.args [.ptr so 6 0 0]) (sH n so fo xs (nY fs)) := by
  have bfK : ¬ fo = so := fun e => hne e.symm;have hfew := hn.few;have hsrc := hn.source;have hb1 : (n.nodes : Int) * ((8 : Nat) : Int) ≤ 140737488355328 := Om;have hb2 : (n.nodes : Int) ≤ 9223372036854775807 := Om;have hb3 : (n.nodes : Int) * ((1 : Nat) : Int) ≤ 140737488355328 := Om;have hs1 : (n.source : Int) < (n.nodes : Nat) := Om;simp only[go_sem,NL,Lz,adK];refine bA .nil cK a_ ?_;simp only[go_sem,L3,hne,bfK,hb1,hb2,hb3];refine aQ fun b hb => ?_;simp only[go_sem];have b1 : ¬ so = b := fun e => by rw [← e, aR, aE hne, cB] at hb; cases hb
  have b2 : ¬ fo = b := fun e => by rw [← e, cB] at hb; cases hb
  have b1' : ¬ b = so := fun e => b1 e.symm;have b2' : ¬ b = fo := fun e => b2 e.symm;simp only[go_sem,hne,bfK,b1,b2,hb1,hb2,hb3];refine aQ fun e he => ?_;have e1 : ¬ so = e := fun e0 => by rw [← e0, aR, aE b1, aR, aE hne, cB] at he; cases he
  have e2 : ¬ fo = e := fun e0 => by rw [← e0, aR, aE b2, cB] at he; cases he
  have e3 : ¬ b = e := fun e0 => by rw [← e0, cB] at he; cases he
  have e1' : ¬ e = so := fun e0 => e1 e0.symm;have e2' : ¬ e = fo := fun e0 => e2 e0.symm;have e3' : ¬ e = b := fun e0 => e3 e0.symm;have hrl : n.source < (bgA n.nodes [PV.bool false]).length := by simpa using hsrc
  simp only[go_sem,L4,hne,bfK,b1,b2,e1,e2,e3,hs1,bkC,bjP,hsrc,bgL];have hsoX : (sH n so fo xs (nY fs)) so = some (zL n fo xs.length (nY fs)) := by rw [aR, aE hne, cB]
  have hfoX : (sH n so fo xs (nY fs)) fo = some (.rows 1 (fP xs)) := by rw [cB]
  have hXe : (sH n so fo xs (nY fs)) e = none := by rw [aR, aE e3'] at he; exact he
  simp only[go_sem,L5,hne,bfK,b1,b2,e1,e2,e3];refine aQ fun q hq => ?_;have q1 : ¬ so = q := fun e0 => by rw [← e0, aR, aE e1, aR, aE b1, aR, aE hne, cB] at hq; cases hq
  have q2 : ¬ fo = q := fun e0 => by rw [← e0, aR, aE e2, aR, aE b2, cB] at hq; cases hq
  have q3 : ¬ b = q := fun e0 => by rw [← e0, aR, aE e3, cB] at hq; cases hq
  have q4 : ¬ e = q := fun e0 => by rw [← e0, cB] at hq; cases hq
  have hXq : (sH n so fo xs (nY fs)) q = none := by rw [aR, aE (fun h => q4 h.symm), aR, aE (fun h => q3 h.symm)] at hq; exact hq
  simp only[go_sem];rw [Vz stI n (fun _ => (0, true)), aiR];refine wp_loop (α := RS) (fun a => ((((PF.nil.set 0 (.ptr so 6 0 0)).set 4 (.osl b 1 0 n.nodes)).set 5 (.osl e 1 0 n.nodes)).set 6 (a.v))) (fun a => a.H) (fun a => rN n xs (sH n so fo xs (nY fs)) stI b e a ∧ a.d = a.k) (fun a => n.nodes - a.k)
    ⟨[n.source], 0, fun _ => (0, true), .osl q 1 0 1, q, (((sH n so fo xs (nY fs)).set b (.rows 1 (bS (byL stI n [n.source] (fun _ => (0, true)))))).set e (.rows 1 (bK (seL n [n.source])))).set q (.rows 1 [[.int .i64 (n.source : Nat)]]), 0⟩
    ⟨⟨Dg hn xs _, Jw n xs _, bgG _, bgE _, uN (uN (uN (fun _ _ h => h) hb) hXe) hXq,
      by rw [aR, aE q3, aR, aE e3, cB], by rw [aR, aE q4, cB], ⟨[[.int .i64 (n.source : Nat)]], 0, rfl, by rw [cB], by simp, rfl⟩, hXq, fun h => q3 h.symm, fun h => q4 h.symm⟩, rfl⟩ Lq (fun _ _ h => h) ?_
  rintro a ⟨hI, hdk⟩;obtain ⟨rs, off, hv, hq1, hq2, hq3⟩ := hI.hq;rw [bfY, bhR] at hv hq2 hq3;simp only[go_sem,Bg,L6,hv];by_cases hk : a.k < a.Q.length
  · have c0 : ((a.Q.length - a.k : Nat) : Int) > 0 := Om
    have hw : a.Q[a.k] < n.nodes := hI.seen.lt _ (bgD hk);have hwo : a.Q[a.k] < outL.length := by rw [hO.len]; exact hw
    have hwi : ((a.Q[a.k] : Nat) : Int) < (outL.length : Nat) := Om;have hc0 : (0 : Int) < ((a.Q.length - a.k : Nat) : Int) := c0;have hrs : rs[off]? = some [.int .i64 ((a.Q[a.k] : Nat) : Int)] := by
      have h5 : ((rs.drop off).take (a.Q.length - a.k))[0]? = (fP (a.Q.drop a.k))[0]? := by rw [hq3]
      rw [biY, aL Om, bjO, bhL, bgT, bjO, bhL, bgH hk] at h5;exact h5
    obtain ⟨lv, hol, hlv⟩ := hSh.at hwo;have hlen : PV.AW lv = some (.int .i64 ((outL.getD a.Q[a.k] []).length : Nat)) := by
      rcases hlv with rfl | ⟨rfl, e⟩
      · simp [PV.AW]
      · rw [e]; rfl
    simp only[go_sem,c0];refine bA .nil cK a_ ?_;simp only[go_sem,L7,(hI.base _ _ hsoX),hc0,hq1,bhL,hrs,hol,hlen];have hLf := hO.few a.Q[a.k];have hLo := hO.only a.Q[a.k];have hLa := fun s h => hO.all s h;generalize hL : outL.getD a.Q[a.k] [] = L at *
    have hkn := JQ hI.seen;refine wp_loop (α := RS × Nat) (fun c => (((((((PF.nil.set 0 (.ptr so 6 0 0)).set 4 (.osl b 1 0 n.nodes)).set 5 (.osl e 1 0 n.nodes)).set 6 (c.1.v)).set 49 (lv)).set 50 (.int .i64 (L.length : Nat))).set 51 (.int .i64 (c.2 : Nat)))) (fun c => c.1.H)
      (fun c => rN n xs (sH n so fo xs (nY fs)) stI b e c.1 ∧ c.1.d = a.k ∧ c.1.k = a.k ∧ c.1.Q[a.k]? = some a.Q[a.k] ∧ c.2 ≤ L.length ∧ ∀ s : dE, s.1 < n.arcs.length → stI s ∈ L.take c.2 → 0 < eF n xs s → hC n s ∈ c.1.Q) (fun c => L.length - c.2) (a, 0)
      ⟨hI, hdk, rfl, bgH hk, bgE _, fun s _ h => by simp at h⟩ (by (repeat' (first|exact c_|refine d_ ?_ ?_)) <;> first|(simp only[go_sem,hv] <;> rfl)|rfl) (fun _ _ h => h) ?_
    rintro ⟨a', j⟩ ⟨hI', hd', hk', hQk, hj, bfR⟩;dsimp only at hI' hd' hk' hQk hj bfR;simp only[go_sem,Bf,L8];by_cases hlt : j < L.length
    · have beR : (j : Int) < (L.length : Nat) := Om
      obtain ⟨s, hs1, hs2, hs3⟩ := hLo L[j] (bgD hlt);have hLj : (L.map fun n => [PV.int .i64 n])[j]? = some [.int .i64 (stI s)] := by rw [bgT, bgH hlt, hs3]; rfl
      have htake : L.take (j + 1) = L.take j ++ [stI s] := by rw [bhW hlt, hs3]
      have hwQ : a.Q[a.k] ∈ a'.Q := bhX hQk;have hto : hC n s < n.nodes := by have := hn.ends _ (bgD hs1);rw [pE hs1] at this;unfold hC;split <;> omega
      have hto' : ((hC n s : Nat) : Int) < (n.nodes : Nat) := Om;have hstI : ∀ s2 : dE, stI s2 = stI s → s2 = s := fun s2 h => by
        obtain ⟨i2, b2⟩ := s2;obtain ⟨i1, b1⟩ := s;unfold stI at h;cases b1 <;> cases b2 <;> simp only [reduceIte, reduceCtorEq] at h ⊢
        · rw [show i2 = i1 by omega]
        · omega
        · omega
        · rw [show i2 = i1 by omega]
      have hlv' : lv = ints L := by
        rcases hlv with e | ⟨_, e⟩
        · exact e
        · rw [e] at hlt; exact absurd hlt (Nat.not_lt_zero _)
      subst hlv';simp only[go_sem,beR,L9,hLj,Ma];refine eR (hends n so fo xs (nY fs) s hn hne hx hs1) Ev (hI'.base) ?_;rintro r H' ⟨rfl, rfl⟩ -;rw [PH.over_self _ (hI'.base)];have hmore : ∀ Q2 : List Nat, (∀ v ∈ a'.Q, v ∈ Q2) → (0 < eF n xs s → hC n s ∈ Q2) → ∀ s2 : dE, s2.1 < n.arcs.length → stI s2 ∈ L.take (j + 1) → 0 < eF n xs s2 → hC n s2 ∈ Q2 := fun Q2 g1 g2 s2 g3 g4 g5 => by
        rw [htake] at g4;rcases bhK.1 g4 with g | g
        · exact g1 _ (bfR s2 g3 g g5)
        · have := hstI s2 (bhI.1 g)
          subst this;exact g2 g5
      have hjw := wZz j;by_cases hr : 0 < eF n xs s
      · have hr' : ((eF n xs s : Nat) : Int) > 0 := Om
        have hsel : hC n s < (seL n a'.Q).length := by rw [CZ]; exact hto
        have hbyl : hC n s < (byL stI n a'.Q a'.way).length := by rw [QM]; exact hto
        have hbr := fI hsel;rw [RL hto] at hbr;have hir := rU hbyl;cases hc : a'.Q.contains (hC n s) with
        | true =>rw [hc] at hbr;have hin : hC n s ∈ a'.Q := bjZ.1 hc;simp only[go_sem,LG,hr',hto',hI'.he,hbr,bgL,GM,hjw];exact aG (a', j + 1) ⟨hI', hd', hk', hQk, hlt, hmore _ (fun _ h => h) fun _ => hin⟩ (by dsimp only; omega) Lq (fun _ _ h => h)
        | false =>
          rw [hc] at hbr;have hnin : hC n s ∉ a'.Q := fun h => by rw [bjZ.2 h] at hc; cases hc
          have hsQ : n.source ∈ a'.Q := by obtain ⟨t, ht⟩ := hI'.seen.first; rw [ht]; simp
          simp only[go_sem,LG,hr',hto',hI'.he,hI'.hb,hbr,hir,bgL,e3,e3',Bh,Bi,jM,oS,Iz,Gt hsQ hnin];refine rN.step hn hI' ⟨hb, hXe, e3⟩ hs1 (by rw [hs2]; exact hwQ) hnin hr fun a2 hI2 hQ2 hk2 hd2 => ?_;simp only[go_sem,GM,hjw];have hQk2 : a2.Q[a.k]? = some a.Q[a.k] := by obtain ⟨l1, l2⟩ := bhG.1 hQk;rw [hQ2, biA l1];exact hQk
          exact aG (a2, j + 1) ⟨hI2, hd2.trans hd', hk2.trans hk', hQk2, hlt, hmore _ (fun v h => by rw [hQ2]; exact bjQ _ h) fun _ => by rw [hQ2]; simp⟩ (by dsimp only; omega) Lq (fun _ _ h => h)
      · have hr' : ¬ ((eF n xs s : Nat) : Int) > 0 := Om
        simp only[go_sem,LG,hr',GM,hjw];exact aG (a', j + 1) ⟨hI', hd', hk', hQk, hlt, hmore _ (fun _ h => h) fun h => absurd h hr⟩ (by dsimp only; omega) Lq (fun _ _ h => h)
    · have beR : ¬ (j : Int) < (L.length : Nat) := Om
      obtain ⟨rs', off', hv', hq1', hq2', hq3'⟩ := hI'.hq;obtain ⟨l1, l2⟩ := bhG.1 hQk;rw [bfY, bhR, hk'] at hv' hq2' hq3';have hc1 : (1 : Int) ≤ ((a'.Q.length - a.k : Nat) : Int) := Om;simp only[go_sem,beR,Bj,hv',hc1,Int.le_refl];have hLt : L.take j = L := bgR Om;have hdn : IL n xs a'.Q (a.k + 1) := Jv (by rw [← hd']; exact hI'.done) hQk fun s g1 g2 g3 => by refine bfR s g1 ?_ g3;have := hLa s g1;rw [g2, hL] at this;rw [hLt];exact this
      have hfl : (fP (a'.Q.drop (a.k + 1))).length = a'.Q.length - a.k - 1 := by rw [bfY, bhR, Nat.sub_sub]
      have hsl := JQ hI'.seen;refine aG ⟨a'.Q, a.k + 1, a'.way, .osl a'.q 1 (off' + 1) (a'.Q.length - a.k - 1), a'.q, a'.H, a.k + 1⟩ ⟨⟨hI'.seen, hdn, bgG _, by dsimp only; omega, hI'.base, hI'.hb, hI'.he, ⟨rs', off' + 1, by rw [hfl], hq1', by rw [hfl]; omega, ?_⟩, hI'.ne⟩, rfl⟩ (by dsimp only; omega) Lq (fun _ _ h => h);rw [hfl];have h7 := congrArg (List.drop 1) hq3';rw [List.drop_take, List.drop_drop] at h7;rw [h7];show List.drop 1 (List.map _ _) = _;rw [← List.map_drop, List.drop_drop]
  · have c0 : ¬ ((a.Q.length - a.k : Nat) : Int) > 0 := Om
    have hkk : a.k = a.Q.length := by have := hI.k; omega
    simp only[go_sem,c0,Bk];have hfo : ∀ q, ¬ fo = q → ∀ rs, cI.frz q 1 rs (zL n fo xs.length (nY fs)) = zL n fo xs.length (nY fs) := fun q hq rs => by simp [cI.frz, PV.dM, hq]
    refine pU (vs := [.osl b 1 0 n.nodes, .osl e 1 0 n.nodes]) (.inr rfl) Ev ?_;refine Kf (H2 := sH n so fo xs (nY fs)) hI.hb hI.he e3' (aGO _) (by unfold bS; rw [bfY, QM]) (by rw [jZ, CZ]) ?_ ⟨a.Q, a.way, hI.seen, by rw [← hkk, ← hdk]; exact hI.done, rfl, rfl⟩;have flx : Flat (fP xs) := Flat.map xs fun x c hc q s rs => by rw [bhI] at hc;subst hc;rfl
    exact e_ (e_ a_ (zD (zD (hI.base _ _ hsoX) b1 (hfo b b2 _)) e1 (hfo e e2 _))) (zD (zD (hI.base _ _ hfoX) b2 (zC flx 1)) e2 (zC flx 1))
theorem aZH{n:cN}{Q:List Nat}{way:Nat→dE}{v:Nat}(h:v<n.nodes)(j:v∈Q)(e:v≠n.source):((byL stI n Q way).map λx=>[PV.int .i64 x])[v]?=some [.int .i64 (stI (way v))]:=by
 unfold byL;rw[bgT,bgT,biH h,bhD,bhD,aL ⟨j,e⟩]
theorem room_le{n:cN}(l:fM n){xs:List Nat}(u:rL n xs){s:dE}(e:s.1<Z' n.arcs):eF n xs s≤2147483647:=by
 have j:=(l.ends _ (bgD e)).2.2;rw[pE e]at j;have w:=u.le _ e;unfold eF;split<;>omega
theorem LN(xs:List Nat)(i x:Nat):(fP xs).set i [.int .i64 (x:Nat)]=fP (xs.set i x):=by
 exact(List.map_set ..).symm
theorem jY.in{n:cN}{xs:List Nat}(h:jY n xs):rL n xs:=⟨h.len,λi hi=>by
 have e:i<Z' xs:=by rw[h.len];exact hi
 have:=h.le i n.arcs[i] xs[i] (bgH hi) (bgH e);rw[pE hi]at this;rw[bgF,bgH e];exact this⟩
def a4Q(n:cN)(l fo:Nat)(xs:List Nat)(out:PV)(r:PV)(H:PH):Prop:=
 ∃(j:List Nat)(e:Nat),0<e∧jY n j∧kT n j=kT n xs+e∧r=.int .i64 (e:Nat)∧H=sH n l fo j out
theorem a1T{C:Ctx}(Z:∀(n:cN)(l fo:Nat)(xs:List Nat)(out:PV)(s:dE),fM n→¬l=fo→rL n xs→s.1<Z' n.arcs→aI C 294 [.ptr l 6 0 0,.int .i64 (stI s)] (sH n l fo xs out) (λr H'=>r=.tup [.int .i64 ((hC n s:Nat):Int),.int .i64 ((eF n xs s:Nat):Int)]∧H'=sH n l fo xs out))
  (y:∀(n:cN)(l fo:Nat)(xs:List Nat)(out:PV)(s:dE),fM n→¬l=fo→s.1<Z' n.arcs→aI C 295 [.ptr l 6 0 0,.int .i64 (stI s)] (sH n l fo xs out) (λr H'=>r=.int .i64 ((eC n s:Nat):Int)∧H'=sH n l fo xs out))
  (n:cN) (I:fM n) (l fo:Nat) (w:¬l=fo) (xs:List Nat) (hF:jY n xs) (out:PV) (Q:List Nat) (way:Nat→dE) (hS:sJ n xs Q way) (γ:n.sink∈Q) :
  bv.wp C (aW aUQ.res (a4Q n l fo xs out)) (PF.args [.ptr l 6 0 0,ints (byL stI n Q way)]) (sH n l fo xs out):=by
 have A:¬fo=l:=λe=>w e.symm;have hx:=hF.in;obtain⟨L0,W,-⟩:=Jq hS _ n.sink rfl γ;simp only[go_sem,bv,awB,aUQ,awC,awD,w,A];refine wp_loop (α:=Nat × List dE × List dE × Int) (λc=>((((PF.nil.set 0 (.ptr l 6 0 0)).set 1 (ints (byL stI n Q way))).set 5 (.int .i64 c.2.2.2)).set 6 (.int .i64 (c.1:Nat)))) (λ_=>sH n l fo xs out)
  (λc=>c.1∈Q∧xV n Q way c.1 c.2.1∧c.2.2.1++c.2.1=L0∧(c.2.2.1=[]→c.2.2.2=-1)∧(c.2.2.1≠[]→0<c.2.2.2∧c.2.2.2≤2147483647∧∀s∈c.2.2.1,c.2.2.2≤eF n xs s)) (λc=>c.2.1.length) (n.sink,L0,[],-1)
  ⟨γ,W,rfl,λ_=>rfl,λh=>absurd rfl h⟩ Lq (λ_ _ h=>h) ?_
 rintro⟨v,L,P,z⟩ ⟨hv,hB,O,κ,δ⟩;dsimp only at hv hB O κ δ;simp only[go_sem,awA,awE,w,A];have σ:=hS.lt v hv;have χ:(v:Int)<(n.nodes:Nat):=Om;by_cases R:v=n.source
 ·have hL:L=[]:=by
   cases hB with
   |nil=>rfl
   |cons _ h _=>exact absurd R h
  subst hL;rw[bhH]at O;subst O;have Y:(v:Int)=n.source:=Om;have ξ:P≠[]:=by
   rintro rfl;have:=I.apart;generalize hk:n.sink=k at *
   cases W;exact this rfl
  obtain⟨z0,z1,F⟩:=δ ξ;obtain⟨j,rfl⟩:∃j:Nat,z=j:=⟨z.toNat,by omega⟩;simp only[go_sem,bR Y,awG,w,A];refine wp_loop (α:=Nat × List dE × List Nat) (λc=>((((PF.nil.set 0 (.ptr l 6 0 0)).set 1 (ints (byL stI n Q way))).set 5 (.int .i64 (j:Nat))).set 9 (.int .i64 (c.1:Nat)))) (λc=>sH n l fo c.2.2 out)
   (λc=>c.1∈Q∧xV n Q way c.1 c.2.1∧i7 n xs c.2.2 j c.1 c.2.1∧∀s∈c.2.1,j≤eF n xs s) (λc=>c.2.1.length) (n.sink,P,xs)
   ⟨γ,W,Lx hF j P,λs M=>by have:=F s M;omega⟩ Lq (λ_ _ h=>h) ?_
  rintro⟨u,L,x⟩ ⟨hu,J,hM,E⟩;dsimp only at hu J hM E;simp only[go_sem,abT,abU,w,A];have ρ:=hS.lt u hu;have φ:(u:Int)<(n.nodes:Nat):=Om;by_cases N:u=n.source
  ·have hL:L=[]:=by
    cases J with
    |nil=>rfl
    |cons _ h _=>exact absurd N h
   subst hL;subst N;obtain⟨k1,k2⟩:=acS I hF hM;simp only[go_sem,bR (show(n.source:Int)=n.source from rfl),abX];exact bB (vs:=[.int .i64 (j:Nat)]) (.inr rfl) (sH n l fo x out) rfl (λ_ _ h=>h) ⟨x,j,by omega,k1,k2,rfl,rfl⟩
  ·have ε:¬(u:Int)=n.source:=Om;have ν:=J;cases J with
   |nil=>exact absurd rfl N
   |@cons _ L _ _ J=>
   have ο:=E _ (List.mem_cons_self ..);obtain⟨g1,g2,g3⟩:=acT hS hM ν hu ο;obtain⟨s1,s2,s3,s4,s5⟩:=hS.way u hu N;have β:=hM.same _ (List.mem_cons_self ..);have B:=aZH (way:=way) ρ hu N;generalize M:way u=s at *
   obtain⟨i,S⟩:=s;have s1:i<Z' n.arcs:=s1;have ι:i<Z' x:=by rw[hM.len];exact s1
   have θ:(i:Int)<(Z' x:Nat):=Om;have τ:=room_le I hx (s:=(i,S)) s1;have ψ:=hx.le i s1;have X:=(I.ends _ (bgD s1)).2.2;rw[pE s1]at X;have hk:=I.num;dsimp only at β;have η:((sH n l fo x out).set fo (.rows 1 (fP (push j x (i,S)))))=sH n l fo (push j x (i,S)) out:=by show(((PH.nil.set l (zL n fo x.length out)).set fo _).set fo _)=(PH.nil.set l (zL n fo (push j x (i,S)).length out)).set fo _;rw[PH.set_set,ve]
   have V:((PH.nil.set l (zL n fo x.length out)).set fo (.rows 1 (fP (push j x (i,S)))))=sH n l fo (push j x (i,S)) out:=by show _=(PH.nil.set l (zL n fo (push j x (i,S)).length out)).set fo _;rw[ve]
   have U:∀s∈L,j≤eF n xs s:=λs M=>E s (bjG _ M);cases S with
   |true=>
    have e0:stI (i,true)=(i:Int):=rfl;have hp:push j x (i,true)=x.set i (x.getD i 0+j):=rfl;have e2:eF n xs (i,true)=(cD n i).cap-xs.getD i 0:=rfl;have ew:IntKind.i64.wrap (((x.getD i 0:Nat):Int)+((j:Nat):Int))=((x.getD i 0+j:Nat):Int):=by rw[wrap_i64 Om Om];omega
    simp only[go_sem,cP ε,td,B,te,e0,show(i:Int)≥0 by omega,abV,w,A,θ,lG ι,ew,LN,bgL];rw[←hp]
    first|rw[η]|rw[V]
    simp only[go_sem,tf,B];refine eR (y n l fo _ out (i,true) I w s1) rfl (λ_ _ h=>h) ?_;rintro r H' ⟨rfl,rfl⟩ -;rw[PH.over_self _ (λ_ _ h=>h)];simp only[go_sem];exact aG (eC n (i,true),L,push j x (i,true)) ⟨g1,g2,g3,U⟩ aY Lq (λ_ _ h=>h)
   |false=>
    have e0:stI (i,false)=-1-(i:Int):=rfl;have hp:push j x (i,false)=x.set i (x.getD i 0-j):=rfl;have e2:eF n xs (i,false)=xs.getD i 0:=rfl;have ei:IntKind.i64.wrap (-1-(-1-(i:Int)))=(i:Int):=by rw[wrap_i64 Om Om];omega
    have ew:IntKind.i64.wrap (((x.getD i 0:Nat):Int)-((j:Nat):Int))=((x.getD i 0-j:Nat):Int):=by rw[wrap_i64 Om Om];omega
    simp only[go_sem,cP ε,td,B,te,e0,show ¬(-1-(i:Int))≥0 by omega,abW,ei,w,A,θ,lG ι,ew,LN,bgL];rw[←hp]
    first|rw[η]|rw[V]
    simp only[go_sem,tf,B,←e0];refine eR (y n l fo _ out (i,false) I w s1) rfl (λ_ _ h=>h) ?_;rintro r H' ⟨rfl,rfl⟩ -;rw[PH.over_self _ (λ_ _ h=>h)];simp only[go_sem];exact aG (eC n (i,false),L,push j x (i,false)) ⟨g1,g2,g3,U⟩ aY Lq (λ_ _ h=>h)
 ·have Y:¬(v:Int)=n.source:=Om;cases hB with
  |nil=>exact absurd rfl R
  |@cons _ L _ _ hB=>
  obtain⟨s1,s2,s3,s4,s5⟩:=hS.way v hv R;have B:=aZH (way:=way) σ hv R;have υ:=room_le I hx s1;simp only[go_sem,cP Y,awF,B];refine eR (Z n l fo xs out (way v) I w hx s1) rfl (λ_ _ h=>h) ?_;rintro r H' ⟨rfl,rfl⟩ -;rw[PH.over_self _ (λ_ _ h=>h)];have K:∀F:Int,0<F→F≤eF n xs (way v)→(∀s∈P,F≤eF n xs s)→eC n (way v)∈Q∧xV n Q way (eC n (way v)) L∧(P++[way v])++L=L0∧(P++[way v]=[]→F=-1)∧(P++[way v]≠[]→0<F∧F≤2147483647∧∀s∈P++[way v],F≤eF n xs s):=λF h0 h1 h2=>
   ⟨s4,hB,by rw[bgX];exact O,λh=>by simp at h,λ_=>⟨h0,by omega,λs M=>by
    rcases bhK.1 M with g|g
    ·exact h2 s g
    ·rw[bhI]at g;subst g;exact h1⟩⟩
  by_cases hP:P=[]
  ·have hz:=κ hP;subst hz;simp only[go_sem,jo,Hj,jp,B];refine eR (y n l fo xs out (way v) I w s1) rfl (λ_ _ h=>h) ?_;rintro r H' ⟨rfl,rfl⟩ -;rw[PH.over_self _ (λ_ _ h=>h)];simp only[go_sem];exact aG (eC n (way v),L,P++[way v],((eF n xs (way v):Nat):Int)) (K ((eF n xs (way v):Nat):Int) Om (Int.le_refl _) λs M=>by rw[hP]at M;cases M) aY Lq (λ_ _ h=>h)
  ·obtain⟨z0,z1,F⟩:=δ hP;have μ:¬z<0:=Om;by_cases ζ:((eF n xs (way v):Nat):Int)<z
   ·simp only[go_sem,jo,μ,ζ,Hj,jp,B];refine eR (y n l fo xs out (way v) I w s1) rfl (λ_ _ h=>h) ?_;rintro r H' ⟨rfl,rfl⟩ -;rw[PH.over_self _ (λ_ _ h=>h)];simp only[go_sem];exact aG (eC n (way v),L,P++[way v],((eF n xs (way v):Nat):Int)) (K ((eF n xs (way v):Nat):Int) Om (Int.le_refl _) λs M=>by have:=F s M;omega) aY Lq (λ_ _ h=>h)
   ·simp only[go_sem,jo,μ,ζ,jp,B];refine eR (y n l fo xs out (way v) I w s1) rfl (λ_ _ h=>h) ?_;rintro r H' ⟨rfl,rfl⟩ -;rw[PH.over_self _ (λ_ _ h=>h)];simp only[go_sem];exact aG (eC n (way v),L,P++[way v],z) (K z z0 Om F) aY Lq (λ_ _ h=>h)
theorem Mw:∀{l:List bY}{xs:List Nat}(a:bY)(x w:Nat),Z' l=Z' xs→jC (l++[a]) (xs++[x]) w=jC l xs w+(if a.src=w then(x:Int)else 0)-(if a.dst=w then(x:Int)else 0)
 |[],[],a,x,w,_=>by show(if a.src=w then(x:Int)else 0)-(if a.dst=w then(x:Int)else 0)+0=0+(if a.src=w then(x:Int)else 0)-(if a.dst=w then(x:Int)else 0);omega
 |b::l,y::xs,a,x,w,h=>by rw[bjR,bjR,jC,jC,Mw (l:=l) (xs:=xs) a x w (by simpa using h)];omega
def uP(n:cN)(xs:List Nat)(k w:Nat):Int:=jC (n.arcs.take k) (xs.take k) w
def JK(n:cN)(xs:List Nat)(k:Nat):List Int:=(bfZ n.nodes).map (uP n xs k)
theorem Mx{n:cN}{xs:List Nat}(l:rL n xs){k:Nat}(j:k<Z' n.arcs)(w:Nat):uP n xs (k+1) w=uP n xs k w+(if(cD n k).src=w then((xs.getD k 0:Nat):Int)else 0)-(if(cD n k).dst=w then((xs.getD k 0:Nat):Int)else 0):=by
 have e:k<Z' xs:=by rw[l.len];exact j
 unfold uP;rw[bhW j,bhW e,Mw _ _ _ (by rw[bgP,bgP,l.len]),pE j];rw[bgF,bgH e];rfl
theorem UR{n:cN}(l:fM n){xs:List Nat}(j:rL n xs)(w:Nat):∀(k:Nat),k≤Z' n.arcs→-((k:Int)*2147483647)≤uP n xs k w∧uP n xs k w≤(k:Int)*2147483647
 |0,_=>by have:uP n xs 0 w=0:=rfl;omega
 |k+1,h=>by have x:=UR l j w k Om;have e:k<Z' n.arcs:=Om;have y:=j.le k e;have u:=(l.ends _ (bgD e)).2.2;rw[pE e]at u;rw[Mx j e w];split<;>split<;>omega
theorem aOV{C:Ctx}(hc:∀n:cN,fM n→aI C 299 [.agg n.cells] .nil (aK (.bool true)))(n:cN)(M:fM n)(xs:List Nat)(hF:jY n xs) :
  OH.wp C (aW agF.res (aK (.tup [.int .i64 (kT n xs),.bool true]))) (PF.args [.agg n.cells,.sl 1 (fP xs)]) .nil:=by
 have N:=hF.in;have ο:=M.few;have hk:=M.num;have Z:(n.nodes:Int)*((8:Nat):Int)≤140737488355328:=Om;have β:(n.nodes:Int)≤9223372036854775807:=Om;have hl:(Z' xs:Int)=(Z' n.arcs:Nat):=by have:=N.len;omega
 have hz:bgA n.nodes [PV.int .i64 0]=bS (JK n xs 0):=by
  refine List.ext_getElem? λi=>?_;unfold bS JK;rw[bkC,bgT,bgT];by_cases l:i<n.nodes
  ·rw[aL l,biH l];rfl
  ·rw[aE l,bhQ (by simpa using l)];rfl
 simp only[go_sem,OH,Oc,agF,Od];refine aB (hc n M) rfl ?_;simp only[go_sem,bfY,bR hl,Oe,Z,β];refine aQ λb hb=>?_;simp only[go_sem,Of];rw[hz];refine wp_loop (α:=Nat) (λk=>((((PF.nil.set 1 (.sl 1 (fP xs))).set 2 (.bE n.cells)).set 6 (.osl b 1 0 n.nodes)).set 7 (.int .i64 (k:Nat)))) (λk=>PH.nil.set b (.rows 1 (bS (JK n xs k)))) (λk=>k≤Z' n.arcs) (λk=>Z' n.arcs-k) 0 (bgE _) Lq (λ_ _ h=>h) ?_;intro k O;simp only[go_sem,C1,Og,bfY];by_cases hlt:k<Z' n.arcs
 ·have R:k<Z' xs:=by rw[N.len];exact hlt
  have E:(k:Int)<(Z' xs:Nat):=Om;obtain⟨e1,e2,e3⟩:=M.ends _ (bgD hlt);rw[pE hlt]at e1 e2 e3;have ε:=N.le k hlt;have S:¬((xs.getD k 0:Nat):Int)<0:=Om;have U:¬((xs.getD k 0:Nat):Int)>((cD n k).cap:Int):=Om;have V:(((cD n k).src:Nat):Int)<(n.nodes:Nat):=Om;have W:(((cD n k).dst:Nat):Int)<(n.nodes:Nat):=Om;simp only[go_sem,E,Oh,mF hlt];refine aQ λp hp=>?_;have F:¬p=b:=λe=>by rw[e,cB]at hp;cases hp
  have y:¬b=p:=λe=>F e.symm;simp only[go_sem,F,y];refine bA .nil cK a_ ?_;simp only[go_sem,Oi,F,y,lG R,S,U];obtain⟨r1,r2⟩:=UR M N (cD n k).src k O;obtain⟨r3,r4⟩:=UR M N (cD n k).dst k O;have I:=Mx N hlt;have ξ:=ε;generalize μ:xs.getD k 0=x at *
  generalize ν:cD n k=a at *
  have A:∀(g:Nat→Int)(t:Nat),t<n.nodes→(bS ((bfZ n.nodes).map g))[t]?=some [.int .i64 (g t)]:=λg t ht=>by unfold bS;rw[bgT,bgT,biH ht];rfl
  let g1:Nat→Int:=λw=>uP n xs k w+(if a.src=w then(x:Int)else 0)
  have γ:g1 a.src=uP n xs k a.src+x:=by show _+(if a.src=a.src then(x:Int)else 0)=_;rw[aL rfl]
  have η:(bS (JK n xs k)).set a.src [.int .i64 (uP n xs k a.src+x)]=bS ((bfZ n.nodes).map g1):=by rw[oS];unfold JK;rw[sG (uP n xs k) g1 n.nodes a.src _ γ λv hv=>by show _+(if a.src=v then(x:Int)else 0)=_;rw[aE λe=>hv e.symm,Int.add_zero]]
  have θ:(bS ((bfZ n.nodes).map g1)).set a.dst [.int .i64 (g1 a.dst-x)]=bS (JK n xs (k+1)):=by rw[oS];unfold JK;rw[sG g1 (uP n xs (k+1)) n.nodes a.dst (g1 a.dst-x) (by rw[I,aL rfl]) λv hv=>by rw[I,aE (c:=a.dst=v) (λe=>hv e.symm),Int.sub_zero]]
  have X:(bS (JK n xs k))[a.src]?=some [.int .i64 (uP n xs k a.src)]:=A _ _ e1;have Y:(bS ((bfZ n.nodes).map g1))[a.dst]?=some [.int .i64 (g1 a.dst)]:=A _ _ e2;have ρ:g1 a.dst=uP n xs k a.dst∨g1 a.dst=uP n xs k a.dst+x:=by
   show _+(if a.src=a.dst then(x:Int)else 0)=_∨_+(if a.src=a.dst then(x:Int)else 0)=_;split
   ·exact .inr rfl
   ·exact .inl (Int.add_zero _)
  have ι:IntKind.i64.wrap (uP n xs k a.src+(x:Int))=uP n xs k a.src+x:=wrap_i64 Om Om;have κ:IntKind.i64.wrap (g1 a.dst-(x:Int))=g1 a.dst-x:=wrap_i64 Om Om;have B:=wZz k;have J:=lG R;rw[μ]at J;generalize g1=g2 at *
  refine bA .nil cK a_ ?_;simp only[go_sem,Oj,F,y,V,bgL,X,J,ι,η];refine⟨a_,?_⟩;refine bA .nil cK a_ ?_;simp only[go_sem,C3,F,y,W,bgL,Y,J,κ,θ];refine⟨a_,?_⟩;simp only[go_sem,C4,B];exact aG (k+1) hlt Om Lq (e_ a_ (by rw[cB]))
 ·have E:¬(k:Int)<(Z' xs:Nat):=Om;have δ:k=Z' n.arcs:=Om;subst δ;simp only[go_sem,E,C5];have K:∀w,uP n xs n.arcs.length w=jC n.arcs xs w:=λw=>by unfold uP;rw[bgR (bgG _),bgR (by rw[N.len];exact bgG _)]
  have A:∀t,t<n.nodes→(bS (JK n xs n.arcs.length))[t]?=some [.int .i64 (jC n.arcs xs t)]:=λt ht=>by unfold bS JK;rw[bgT,bgT,biH ht,←K];rfl
  refine wp_loop (α:=Nat) (λi=>((((PF.nil.set 1 (.sl 1 (fP xs))).set 2 (.bE n.cells)).set 6 (.osl b 1 0 n.nodes)).set 9 (.int .i64 (i:Nat)))) (λ_=>PH.nil.set b (.rows 1 (bS (JK n xs n.arcs.length)))) (λi=>i≤n.nodes) (λi=>n.nodes-i) 0 (bgE _) Lq (λ_ _ h=>h) ?_;intro i hi;simp only[go_sem,C2,C6];by_cases u:i<n.nodes
  ·have j:(i:Int)<(n.nodes:Nat):=Om;have B:=wZz i;by_cases S:i=n.source
   ·simp only[go_sem,j,GP,bR (Om:((i:Nat):Int)=n.source),GQ,B];exact aG (i+1) u Om Lq (λ_ _ h=>h)
   ·by_cases U:i=n.sink
    ·simp only[go_sem,j,GP,cP (Om:¬((i:Nat):Int)=n.source),bR (Om:((i:Nat):Int)=n.sink),GQ,B];exact aG (i+1) u Om Lq (λ_ _ h=>h)
    ·have h0:=A i u;rw[hF.node i u S U]at h0;simp only[go_sem,j,GP,cP (Om:¬((i:Nat):Int)=n.source),cP (Om:¬((i:Nat):Int)=n.sink),bgL,h0,GQ,B];exact aG (i+1) u Om Lq (λ_ _ h=>h)
  ·have j:¬(i:Int)<(n.nodes:Nat):=Om;have hs:=M.source;have ζ:(n.source:Int)<(n.nodes:Nat):=Om;simp only[go_sem,j,C7,ζ,bgL,A n.source hs];refine aU (.inr rfl) rfl ?_;rfl
theorem wp_cut{C:Ctx}{a c:aC}{K:cQ}[Up K]{F:PF}{H:PH}{α:Type}(u:α→PF)(Hs:α→PH)(P:α→Prop)(w:a.wp C (λe l H'=>e=.normal∧∃x,P x∧(u x).le l∧Hs x=H') F H)
  (y:∀x,P x→c.wp C K (u x) (Hs x)):a.wp C (kJ C (c.wp C) K) F H:=by
 refine uW a (λe I J H' j B=>?_) (λi v h=>h) w;obtain⟨rfl,x,E,A,rfl⟩:=B;exact uW c (λe F l H a h=>Up.up a h) (PF.le_trans A j) (y x E)
def stO(m:Nat)(s:dE):Int:=if s.2=true then(s.1:Int)else((m+s.1:Nat):Int)
abbrev oX(fo:Nat)(xs:List Nat):PH:=PH.nil.set fo (.rows 1 (fP xs))
def aLQ(n:cN)(fo:Nat)(xs:List Nat)(r:PV)(H:PH):Prop:=
 ∃Q way,sJ n xs Q way∧IL n xs Q Q.length∧r=.tup [.sl 1 (bK (seL n Q)),ints (byL (stO n.arcs.length) n Q way)]∧H=oX fo xs
theorem rN.new{n:cN}{xs:List Nat}{X:PH}{cd:dE→Int}{b e:Nat}{a:RS}(h:rN n xs X cd b e a){p:Nat}(w:a.H p=none)(y:cI):rN n xs X cd b e { a with H:=a.H.set p y }:=by
 have l:∀o x,a.H o=some x→(a.H.set p y) o=some x:=λo x j=>by rw[aR,aE (λu=>by subst u;rw[w]at j;cases j)];exact j
 exact⟨h.seen,h.done,h.dk,h.k,λo x j=>l o x (h.base o x j),l _ _ h.hb,l _ _ h.he,h.hq.ext λx A=>l _ x A,h.ne⟩
theorem rN.box{n:cN}{xs:List Nat}{X:PH}{cd:dE→Int}{b e:Nat}{a:RS}(h:rN n xs X cd b e a){p:Nat}(A:a.H p=none)(y:cI):rN n xs (X.set p y) cd b e { a with H:=a.H.set p y }:=by
 have u:∀o x,a.H o=some x→(a.H.set p y) o=some x:=λo x j=>by rw[aR,aE (λl=>by subst l;rw[A]at j;cases j)];exact j
 have hq:a.q≠p:=λl=>by obtain⟨rs,E,_,w,_⟩:=h.hq;rw[l,A]at w;cases w
 refine⟨h.seen,h.done,h.dk,h.k,λo x j=>?_,u _ _ h.hb,u _ _ h.he,h.hq.ext λx B=>u _ x B,?_,h.ne.2⟩
 ·show(a.H.set p y) o=some x;rw[aR]at j ⊢;by_cases l:o=p
  ·rw[aL l]at j ⊢;exact j
  ·rw[aE l]at j ⊢;exact h.base o x j
 ·rw[aR,aE hq];exact h.ne.1
theorem rN.unbox{n:cN}{xs:List Nat}{X:PH}{cd:dE→Int}{b e:Nat}{a:RS}{p:Nat}{y:cI}(h:rN n xs (X.set p y) cd b e a)(w:X p=none):rN n xs X cd b e a:=by
 have u:∀o x,X o=some x→(X.set p y) o=some x:=λo x j=>by rw[aR,aE (λl=>by subst l;rw[w]at j;cases j)];exact j
 refine⟨h.seen,h.done,h.dk,h.k,λo x j=>h.base o x (u o x j),h.hb,h.he,h.hq,?_,h.ne.2⟩;have:=h.ne.1;rw[aR]at this;split at this
 ·cases this
 ·exact this
theorem a4E{C:Ctx}{a1 a2 c:aC}{K:cQ}[Up K]{F:PF}{H:PH}{α:Type}(j:α→PF)(Hs:α→PH)(P:α→Prop)(u:a1.wp C (kJ C (a2.wp C) (λe l H'=>e=.normal∧∃x,P x∧(j x).le l∧Hs x=H')) F H)
  (w:∀x,P x→c.wp C K (j x) (Hs x)):a1.wp C (kJ C (a2.wp C) (kJ C (c.wp C) K)) F H:=wp_cut (a:=.seq a1 a2) j Hs P u w
theorem aOP {C : Ctx} (n : cN) (hn : fM n) (fo : Nat) (xs : List Nat) (hx : rL n xs) :
    OE.wp C (aW agD.res (aLQ n fo xs)) (PF.args [.agg n.cells, .osl fo 1 0 xs.length]) (oX fo xs) := by
  have hfew := hn.few;have hsrc := hn.source;have hmany := hn.num;have hb1 : (n.nodes : Int) * ((8 : Nat) : Int) ≤ 140737488355328 := Om;have hb2 : (n.nodes : Int) ≤ 9223372036854775807 := Om;have hb3 : (n.nodes : Int) * ((1 : Nat) : Int) ≤ 140737488355328 := Om;have hs1 : (n.source : Int) < (n.nodes : Nat) := Om;simp only[go_sem,OE,Nm,agD];refine bA .nil cK a_ ?_;simp only[go_sem,Nn,hb1,hb2,hb3];refine aQ fun e he => ?_;have e1 : ¬ fo = e := fun e0 => by rw [← e0, cB] at he; cases he
  have e1' : ¬ e = fo := fun e0 => e1 e0.symm;simp only[go_sem,hb1,hb2,hb3];refine aQ fun b hb => ?_;have b1 : ¬ fo = b := fun e0 => by rw [← e0, aR, aE e1, cB] at hb; cases hb
  have b2 : ¬ e = b := fun e0 => by rw [← e0, cB] at hb; cases hb
  have b2' : ¬ b = e := fun e0 => b2 e0.symm;have hXb : (oX fo xs) b = none := by rw [aR, aE b2'] at hb; exact hb
  simp only[go_sem,No,b2,b2',hs1,bkC,bjP,hsrc,bgL,Np];refine aQ fun q hq => ?_;have q3 : ¬ b = q := fun e0 => by rw [← e0, aR, aE b2', cB] at hq; cases hq
  have q4 : ¬ e = q := fun e0 => by rw [← e0, cB] at hq; cases hq
  have hXq : (oX fo xs) q = none := by rw [aR, aE (fun h => q4 h.symm), aR, aE (fun h => q3 h.symm), aR, aE (fun h => q4 h.symm)] at hq; exact hq
  have hfoX : (oX fo xs) fo = some (.rows 1 (fP xs)) := by rw [cB]
  simp only[go_sem];rw [Vz (stO n.arcs.length) n (fun _ => (0, true)), aiR];refine wp_loop (α := RS) (fun a => (((((PF.nil.set 1 (.osl fo 1 0 xs.length)).set 2 (.bE n.cells)).set 6 (.osl e 1 0 n.nodes)).set 7 (.osl b 1 0 n.nodes)).set 8 (a.v))) (fun a => a.H) (fun a => rN n xs (oX fo xs) (stO n.arcs.length) b e a ∧ a.d = a.k) (fun a => n.nodes - a.k)
    ⟨[n.source], 0, fun _ => (0, true), .osl q 1 0 1, q, ((((oX fo xs).set e (.rows 1 (bgA n.nodes [.bool false]))).set b (.rows 1 (bS (byL (stO n.arcs.length) n [n.source] (fun _ => (0, true)))))).set e (.rows 1 (bK (seL n [n.source])))).set q (.rows 1 [[.int .i64 (n.source : Nat)]]), 0⟩
    ⟨⟨Dg hn xs _, Jw n xs _, bgG _, bgE _, uN (uN (uN (uN (fun _ _ h => h) he) hXb) he) hXq,
      by rw [aR, aE q3, aR, aE b2', cB], by rw [aR, aE q4, cB], ⟨[[.int .i64 (n.source : Nat)]], 0, rfl, by rw [cB], by simp, rfl⟩, hXq, fun h => q3 h.symm, fun h => q4 h.symm⟩, rfl⟩ Lq (fun _ _ h => h) ?_
  rintro a ⟨hI, hdk⟩;obtain ⟨rs, off, hv, hq1, hq2, hq3⟩ := hI.hq;rw [bfY, bhR] at hv hq2 hq3;simp only[go_sem,Cg,Nq,hv];by_cases hk : a.k < a.Q.length
  · have c0 : ((a.Q.length - a.k : Nat) : Int) > 0 := Om
    have hc0 : (0 : Int) < ((a.Q.length - a.k : Nat) : Int) := c0;have hc1 : (1 : Int) ≤ ((a.Q.length - a.k : Nat) : Int) := Om;have hrs : rs[off]? = some [.int .i64 ((a.Q[a.k] : Nat) : Int)] := by
      have h5 : ((rs.drop off).take (a.Q.length - a.k))[0]? = (fP (a.Q.drop a.k))[0]? := by rw [hq3]
      rw [biY, aL Om, bjO, bhL, bgT, bjO, bhL, bgH hk] at h5;exact h5
    simp only[go_sem,c0,Nr,hc0,hq1,bhL,hrs,Ns,hc1,Int.le_refl,Nt];have hkn := JQ hI.seen;have hI0 : rN n xs (oX fo xs) (stO n.arcs.length) b e ⟨a.Q, a.k + 1, a.way, .osl a.q 1 (off + 1) (a.Q.length - a.k - 1), a.q, a.H, a.d⟩ := by
      have hfl : (fP (a.Q.drop (a.k + 1))).length = a.Q.length - a.k - 1 := by rw [bfY, bhR, Nat.sub_sub]
      refine ⟨hI.seen, hI.done, Nat.le_succ_of_le hI.dk, hk, hI.base, hI.hb, hI.he, ⟨rs, off + 1, by rw [hfl], hq1, by rw [hfl]; omega, ?_⟩, hI.ne⟩;rw [hfl];have h7 := congrArg (List.drop 1) hq3;rw [List.drop_take, List.drop_drop] at h7;rw [h7];show List.drop 1 (List.map _ _) = _;rw [← List.map_drop, List.drop_drop]
    refine wp_loop (α := RS × Nat) (fun c => (((((((PF.nil.set 1 (.osl fo 1 0 xs.length)).set 2 (.bE n.cells)).set 6 (.osl e 1 0 n.nodes)).set 7 (.osl b 1 0 n.nodes)).set 8 (c.1.v)).set 9 (.int .i64 ((a.Q[a.k] : Nat) : Int))).set 10 (.int .i64 (c.2 : Nat)))) (fun c => c.1.H)
      (fun c => rN n xs (oX fo xs) (stO n.arcs.length) b e c.1 ∧ c.1.d = a.k ∧ c.1.k = a.k + 1 ∧ c.1.Q[a.k]? = some a.Q[a.k] ∧ c.2 ≤ n.arcs.length ∧ ∀ s : dE, s.1 < c.2 → eC n s = a.Q[a.k] → 0 < eF n xs s → hC n s ∈ c.1.Q) (fun c => n.arcs.length - c.2) (⟨a.Q, a.k + 1, a.way, .osl a.q 1 (off + 1) (a.Q.length - a.k - 1), a.q, a.H, a.d⟩, 0)
      ⟨hI0, hdk, rfl, bgH hk, bgE _, fun s h => by omega⟩ Lq (fun _ _ h => h) ?_
    rintro ⟨a', j⟩ ⟨hI', hd', hk', hQk, hj, bfR⟩;dsimp only at hI' hd' hk' hQk hj bfR;simp only[go_sem,Cf,Nu,bfY];by_cases hlt : j < n.arcs.length
    · have beR : (j : Int) < (n.arcs.length : Nat) := Om
      have hjx : j < xs.length := by rw [hx.len]; exact hlt
      have hjx' : (j : Int) < (xs.length : Nat) := Om;have hm := hn.num;obtain ⟨z1, z2, z3⟩ := hn.ends _ (bgD hlt);rw [pE hlt] at z1 z2 z3;have z1' : (((cD n j).src : Nat) : Int) < (n.nodes : Nat) := Om;have z2' : (((cD n j).dst : Nat) : Int) < (n.nodes : Nat) := Om;have hxle := hx.le j hlt;have hjw := wZz j;have hmw : IntKind.i64.wrap ((n.arcs.length : Int) + (j : Int)) = ((n.arcs.length + j : Nat) : Int) := by rw [wrap_i64 Om Om]; omega
      have hwQ : a.Q[a.k] ∈ a'.Q := bhX hQk;simp only[go_sem,beR,Nv,mF hlt];refine aQ fun p hp => ?_;have hXp : (oX fo xs) p = none := by
        cases hxp : (oX fo xs) p with
        | none => rfl
        | some y => rw [hI'.base _ _ hxp] at hp; cases hp
      have p1 : ¬ p = fo := fun e0 => by rw [e0, hfoX] at hXp; cases hXp
      have p1' : ¬ fo = p := fun e0 => p1 e0.symm;have p2 : ¬ p = e := fun e0 => by rw [e0, hI'.he] at hp; cases hp
      have p2' : ¬ e = p := fun e0 => p2 e0.symm;have p3 : ¬ p = b := fun e0 => by rw [e0, hI'.hb] at hp; cases hp
      have p3' : ¬ b = p := fun e0 => p3 e0.symm;simp only[go_sem];have hI1 := hI'.box hp (.rows 4 [(cD n j).cells]);have hQk1 : ({ a' with H := a'.H.set p (.rows 4 [(cD n j).cells]) } : RS).Q[a.k]? = some a.Q[a.k] := hQk;have hd1 : ({ a' with H := a'.H.set p (.rows 4 [(cD n j).cells]) } : RS).d = a.k := hd';have hk1 : ({ a' with H := a'.H.set p (.rows 4 [(cD n j).cells]) } : RS).k = a.k + 1 := hk';have hX1 : ((oX fo xs).set p (.rows 4 [(cD n j).cells])) b = none ∧ ((oX fo xs).set p (.rows 4 [(cD n j).cells])) e = none ∧ ¬ b = e := ⟨by rw [aR, aE p3']; exact hXb, by rw [aR, aE p2']; exact he, b2'⟩;have hQs : ∀ Q : List Nat, Q[a.k]? = some a.Q[a.k] → ∀ t, (Q ++ [t])[a.k]? = some a.Q[a.k] := fun Q h t => by obtain ⟨l1, l2⟩ := bhG.1 h;rw [biA l1]; exact h
      have hsrcQ : ∀ c : RS, rN n xs ((oX fo xs).set p (.rows 4 [(cD n j).cells])) (stO n.arcs.length) b e c → n.source ∈ c.Q := fun c h => by obtain ⟨t, ht⟩ := h.seen.first; rw [ht]; simp
      refine a4E (α := RS) (fun c => ((((((((PF.nil.set 1 (.osl fo 1 0 xs.length)).set 2 (.bE n.cells)).set 6 (.osl e 1 0 n.nodes)).set 7 (.osl b 1 0 n.nodes)).set 8 (c.v)).set 9 (.int .i64 ((a.Q[a.k] : Nat) : Int))).set 10 (.int .i64 (j : Nat))).set 11 (.ptr p 4 0 0))) (fun c => c.H)
        (fun c => rN n xs ((oX fo xs).set p (.rows 4 [(cD n j).cells])) (stO n.arcs.length) b e c ∧ c.d = a.k ∧ c.k = a.k + 1 ∧ c.Q[a.k]? = some a.Q[a.k] ∧ (∀ v ∈ a'.Q, v ∈ c.Q) ∧ ((cD n j).src = a.Q[a.k] → xs.getD j 0 < (cD n j).cap → (cD n j).dst ∈ c.Q)) ?_ ?_
      · have hel : (cD n j).dst < (seL n a'.Q).length := by rw [CZ]; exact z2
        have hbl : (cD n j).dst < (byL (stO n.arcs.length) n a'.Q a'.way).length := by rw [QM]; exact z2
        have hbr := fI hel;rw [RL z2] at hbr;have hir := rU hbl;by_cases c1 : (cD n j).src = a.Q[a.k]
        · have c1' : ((((cD n j).src : Nat) : Int) == ((a.Q[a.k] : Nat) : Int)) = true := bT Om
          cases hc : a'.Q.contains (cD n j).dst with
          | true =>rw [hc] at hbr;refine bA .nil cK a_ ?_;simp only[go_sem,BG,c1',p2,p2',z2',hI'.he,bgL,hbr];exact ⟨_, ⟨hI1, hd1, hk1, hQk1, fun _ h => h, fun _ _ => bjZ.1 hc⟩, by exact Lq, rfl⟩
          | false =>
            rw [hc] at hbr;have hnin : (cD n j).dst ∉ a'.Q := fun h => by rw [bjZ.2 h] at hc; cases hc
            by_cases c3 : xs.getD j 0 < (cD n j).cap
            · have c3' : ((xs.getD j 0 : Nat) : Int) < ((cD n j).cap : Int) := Om
              have hs1 : (bS (byL (stO n.arcs.length) n a'.Q a'.way)).set (cD n j).dst [.int .i64 (j : Int)] = bS (byL (stO n.arcs.length) n (a'.Q ++ [(cD n j).dst]) (KC a'.way (cD n j).dst (j, true))) := by rw [oS]; exact congrArg bS (Gt (s := (j, true)) (by obtain ⟨t, ht⟩ := hI'.seen.first; rw [ht]; simp) hnin)
              refine bA .nil cK a_ ?_;simp only[go_sem,BG,c1',p2,p2',z2',hI'.he,bgL,hbr,p1,p1',hI'.base _ _ hfoX,hjx',lG hjx,c3'];refine bA (PH.nil.set p (.rows 4 [(cD n j).cells])) cK (e_ a_ (by rw [cB])) ?_;simp only[go_sem,Ch,p2,p2',z2',hI'.he,bgL,hbr];refine ⟨e_ a_ (by rw [aR, aE p2, cB]), ?_⟩;refine bA .nil cK a_ ?_;simp only[go_sem,Cj,b2,b2',p3,p3',hI'.hb,bgL,hir,hs1,jM,Iz];refine ⟨a_, ?_⟩;simp only[go_sem,Ck,p2,p2',p3,p3'];refine rN.step hn hI1 hX1 (s := (j, true)) hlt (by rw [show eC n (j, true) = (cD n j).src from rfl, c1]; exact hwQ) hnin (by show 0 < (cD n j).cap - xs.getD j 0; omega) fun a2 g1 g2 g3 g4 => ?_;exact ⟨a2, ⟨g1, g4.trans hd', g3.trans hk', by rw [g2]; exact hQs _ hQk _, fun v h => by rw [g2]; exact bjQ _ h, fun _ _ => by rw [g2]; exact List.mem_append_right _ (bhI.2 rfl)⟩, by exact Lq, rfl⟩
            · have c3' : ¬ ((xs.getD j 0 : Nat) : Int) < ((cD n j).cap : Int) := Om
              refine bA .nil cK a_ ?_;simp only[go_sem,BG,c1',p2,p2',z2',hI'.he,bgL,hbr,p1,p1',hI'.base _ _ hfoX,hjx',lG hjx,c3'];exact ⟨_, ⟨hI1, hd1, hk1, hQk1, fun _ h => h, fun _ h => absurd h c3⟩, by exact Lq, rfl⟩
        · have c1' : ((((cD n j).src : Nat) : Int) == ((a.Q[a.k] : Nat) : Int)) = false := bD Om
          refine bA .nil cK a_ ?_;simp only[go_sem,BG,c1'];exact ⟨_, ⟨hI1, hd1, hk1, hQk1, fun _ h => h, fun h => absurd h c1⟩, by exact Lq, rfl⟩
      · rintro a2 ⟨hI2, hd2, hk2, hQk2, hup, hf⟩
        have hpp : a2.H p = some (.rows 4 [(cD n j).cells]) := hI2.base _ _ (by rw [cB]);have hfo2 : a2.H fo = some (.rows 1 (fP xs)) := hI2.base _ _ (by rw [aR, aE p1']; exact hfoX);have hel : (cD n j).src < (seL n a2.Q).length := by rw [CZ]; exact z1
        have hbl : (cD n j).src < (byL (stO n.arcs.length) n a2.Q a2.way).length := by rw [QM]; exact z1
        have hbr := fI hel;rw [RL z1] at hbr;have hir := rU hbl;have hend : ∀ c : RS, rN n xs ((oX fo xs).set p (.rows 4 [(cD n j).cells])) (stO n.arcs.length) b e c → (∀ v ∈ a2.Q, v ∈ c.Q) → ((cD n j).dst = a.Q[a.k] → 0 < xs.getD j 0 → (cD n j).src ∈ c.Q) → ∀ s : dE, s.1 < j + 1 → eC n s = a.Q[a.k] → 0 < eF n xs s → hC n s ∈ c.Q := fun c _ g2 g3 s g4 g5 g6 => by
          rcases bgV s.1 j with h | h
          · exact g2 _ (hup _ (bfR s h g5 g6))
          · obtain ⟨i, bb⟩ := s
            have hij : i = j := by have : i < j + 1 := g4; have : j ≤ i := h; omega
            subst hij;cases bb with
            | true => exact g2 _ (hf g5 (by have : 0 < (cD n i).cap - xs.getD i 0 := g6; omega))
            | false => exact g3 g5 g6
        by_cases c1 : (cD n j).dst = a.Q[a.k]
        · have c1' : ((((cD n j).dst : Nat) : Int) == ((a.Q[a.k] : Nat) : Int)) = true := bT Om
          cases hc : a2.Q.contains (cD n j).src with
          | true =>rw [hc] at hbr;simp only[go_sem,BH,c1',hpp,z1',hI2.he,bgL,hbr,BI,hjw];exact aG (a2, j + 1) ⟨hI2.unbox hXp, hd2, hk2, hQk2, hlt, hend a2 hI2 (fun _ h => h) fun _ _ => bjZ.1 hc⟩ (by dsimp only; omega) Lq (fun _ _ h => h)
          | false =>
            rw [hc] at hbr;have hnin : (cD n j).src ∉ a2.Q := fun h => by rw [bjZ.2 h] at hc; cases hc
            by_cases c3 : 0 < xs.getD j 0
            · have c3' : ((xs.getD j 0 : Nat) : Int) > 0 := Om
              have hs1 : (bS (byL (stO n.arcs.length) n a2.Q a2.way)).set (cD n j).src [.int .i64 ((n.arcs.length + j : Nat) : Int)] = bS (byL (stO n.arcs.length) n (a2.Q ++ [(cD n j).src]) (KC a2.way (cD n j).src (j, false))) := by rw [oS]; exact congrArg bS (Gt (s := (j, false)) (hsrcQ _ hI2) hnin)
              simp only[go_sem,BH,c1',hpp,z1',hI2.he,bgL,hbr,hfo2,hjx',lG hjx,c3'];refine bA (PH.nil.set p (.rows 4 [(cD n j).cells])) cK (e_ a_ hpp) ?_;simp only[go_sem,Cl,p2,p2',hpp,z1',hI2.he,bgL,hbr,bfY,hmw];refine ⟨e_ a_ (by rw [aR, aE p2]; exact hpp), ?_⟩;refine bA .nil cK a_ ?_;simp only[go_sem,Cm,b2,b2',p3,p3',hI2.hb,bgL,hir,hs1,jM,Iz];refine ⟨a_, ?_⟩;simp only[go_sem,Cn,p2,p2',p3,p3',hpp];refine rN.step hn hI2 hX1 (s := (j, false)) hlt (by rw [show eC n (j, false) = (cD n j).dst from rfl, c1]; exact bhX hQk2) hnin c3 fun a3 g1 g2 g3 g4 => ?_;simp only[go_sem,BI,hjw];exact aG (a3, j + 1) ⟨g1.unbox hXp, g4.trans hd2, g3.trans hk2, by rw [g2]; exact hQs _ hQk2 _, hlt, hend a3 g1 (fun v h => by rw [g2]; exact bjQ _ h) fun _ _ => by rw [g2]; exact List.mem_append_right _ (bhI.2 rfl)⟩ (by dsimp only; omega) Lq (fun _ _ h => h)
            · have c3' : ¬ ((xs.getD j 0 : Nat) : Int) > 0 := Om
              simp only[go_sem,BH,c1',hpp,z1',hI2.he,bgL,hbr,hfo2,hjx',lG hjx,c3',BI,hjw];exact aG (a2, j + 1) ⟨hI2.unbox hXp, hd2, hk2, hQk2, hlt, hend a2 hI2 (fun _ h => h) fun _ h => absurd h c3⟩ (by dsimp only; omega) Lq (fun _ _ h => h)
        · have c1' : ((((cD n j).dst : Nat) : Int) == ((a.Q[a.k] : Nat) : Int)) = false := bD Om
          simp only[go_sem,BH,c1',hpp,BI,hjw];exact aG (a2, j + 1) ⟨hI2.unbox hXp, hd2, hk2, hQk2, hlt, hend a2 hI2 (fun _ h => h) fun h => absurd h c1⟩ (by dsimp only; omega) Lq (fun _ _ h => h)
    · have beR : ¬ (j : Int) < (n.arcs.length : Nat) := Om
      have hdn : IL n xs a'.Q (a.k + 1) := Jv (by rw [← hd']; exact hI'.done) hQk fun s g1 g2 g3 => bfR s Om g2 g3;have hsl := JQ hI'.seen;obtain ⟨l1, l2⟩ := bhG.1 hQk;simp only[go_sem,beR];exact aG { a' with d := a.k + 1 } ⟨⟨hI'.seen, hdn, by show a.k + 1 ≤ a'.k; omega, hI'.k, hI'.base, hI'.hb, hI'.he, hI'.hq, hI'.ne⟩, hk'.symm⟩ (by show n.nodes - a'.k < n.nodes - a.k; omega) Lq (fun _ _ h => h)
  · have c0 : ¬ ((a.Q.length - a.k : Nat) : Int) > 0 := Om
    have hkk : a.k = a.Q.length := by have := hI.k; omega
    simp only[go_sem,c0,Cp];refine pU (vs := [.osl e 1 0 n.nodes, .osl b 1 0 n.nodes]) (.inr rfl) rfl ?_;refine Kf (H2 := oX fo xs) hI.he hI.hb b2' (Flat.map _ fun x c hc q s rs => by rw [bhI] at hc; subst hc; rfl) (by rw [jZ, CZ]) (by unfold bS; rw [bfY, QM]) ?_ ⟨a.Q, a.way, hI.seen, by rw [← hkk, ← hdk]; exact hI.done, rfl, rfl⟩;have flx : Flat (fP xs) := Flat.map xs fun x c hc q s rs => by rw [bhI] at hc;subst hc;rfl
    exact e_ a_ (zD (zD (hI.base _ _ hfoX) e1 (zC flx 1)) b1 (zC flx 1))
theorem aLV{cd:dE→Int}{n:cN}{Q:List Nat}{way:Nat→dE}{v:Nat}(h:v<n.nodes)(j:v∈Q)(e:v≠n.source):((byL cd n Q way).map λx=>[PV.int .i64 x])[v]?=some [.int .i64 (cd (way v))]:=by
 unfold byL;rw[bgT,bgT,biH h,bhD,bhD,aL ⟨j,e⟩]
def ZK(n:cN)(r:PV)(H:PH):Prop:=
 ∃xs S,jY n xs∧kT n xs=eH S n.arcs∧S n.source=true∧S n.sink=false∧r=.tup [.sl 1 (fP xs),.int .i64 (kT n xs),.sl 1 (bK ((bfZ n.nodes).map S)),.int .i64 0]∧H=PH.nil
def aGC(n:cN):Nat:=eH (λv=>decide (v=n.source)) n.arcs
theorem anY{n:cN}(j:fM n){xs:List Nat}(h:jY n xs):kT n xs≤aGC n:=h.aNE j aY (by simpa using λe=>j.apart e.symm)
theorem GU(m:Nat):bgA m [PV.int .i64 0]=fP (bgA m 0):=by
 show _=List.map _ (bgA m 0);rw[List.map_replicate];rfl
theorem aOQ{C:Ctx}(S:∀n:cN,fM n→aI C 299 [.agg n.cells] .nil (aK (.bool true)))
  (U:∀(n:cN)(xs:List Nat),fM n→jY n xs→aI C 300 [.agg n.cells,.sl 1 (fP xs)] .nil (aK (.tup [.int .i64 (kT n xs),.bool true])))
  (O:∀(n:cN)(fo:Nat)(xs:List Nat),fM n→rL n xs→aI C 302 [.agg n.cells,.osl fo 1 0 n.arcs.length] (oX fo xs) (aLQ n fo xs))
  (n:cN) (x:fM n):OF.wp C (aW RD.res (ZK n)) (PF.args [.agg n.cells]) .nil:=by
 have hm:=x.num;have ο:(Z' n.arcs:Int)*((8:Nat):Int)≤140737488355328:=Om;have ρ:(Z' n.arcs:Int)≤9223372036854775807:=Om;have Θ:(n.sink:Int)<(n.nodes:Nat):=by have:=x.sink;omega
 simp only[go_sem,OF,Nw,RD,Nx];refine aB (S n x) rfl ?_;simp only[go_sem,Ny,bfY,ο,ρ];refine aQ λfo ω=>?_;simp only[go_sem];rw[GU];refine wp_loop (α:=List Nat) (λ_=>((PF.nil.set 1 (.bE n.cells)).set 6 (.osl fo 1 0 n.arcs.length))) (λxs=>oX fo xs) (λxs=>jY n xs) (λxs=>(aGC n-kT n xs).toNat) (bgA n.arcs.length 0) (KQ n).1 Lq (λ_ _ h=>h) ?_;intro xs Z;have hx:=Z.in;have κ:=Z.len;simp only[go_sem,Cs,Nz];refine eR (O n fo xs x hx) rfl (λ_ _ h=>h) ?_;rintro r H' ⟨Q,way,W,hD,rfl,rfl⟩ -;rw[PH.over_self _ (λ_ _ h=>h)];have I:=fI (R:=seL n Q) (i:=n.sink) (by rw[CZ];exact x.sink);rw[RL x.sink]at I;cases hc:Q.contains n.sink with
 |false=>
  rw[hc]at I;simp only[go_sem,dl,I,N0];have ι:n.sink ∉ Q:=λh=>by rw[bjZ.2 h]at hc;cases hc
  have hT:(fP xs).take n.arcs.length=fP xs:=bgR (by rw[bfY,κ];exact bgG _);have θ:Z' n.arcs≤Z' xs:=Om;refine vM (o:=fo) (s:=1) (rs:=fP xs) (U n xs x Z) Sq (by simp only[go_sem,hT,θ];rfl) ?_;simp only[go_sem,N1,hT,θ];refine bB (vs:=[.sl 1 (fP xs),.int .i64 (kT n xs),.sl 1 (bK (seL n Q)),.int .i64 0]) (.inr rfl) .nil rfl a_ ⟨xs,λv=>Q.contains v,Z,aiT x Z W hD ι,?_,hc,rfl,rfl⟩;obtain⟨t,ht⟩:=W.first;rw[ht];simp
 |true=>
  rw[hc]at I;have J:n.sink∈Q:=bjZ.1 hc;simp only[go_sem,dl,I,N2,N3];obtain⟨L0,ζ,-⟩:=Jq W _ n.sink rfl J;refine wp_loop (α:=Nat × List dE × List dE × Int) (λc=>(((((PF.nil.set 1 (.bE n.cells)).set 6 (.osl fo 1 0 n.arcs.length)).set 8 (ints (byL (stO n.arcs.length) n Q way))).set 11 (.int .i64 c.2.2.2)).set 12 (.int .i64 (c.1:Nat)))) (λ_=>oX fo xs)
   (λc=>c.1∈Q∧xV n Q way c.1 c.2.1∧c.2.2.1++c.2.1=L0∧0<c.2.2.2∧c.2.2.2≤2147483647∧∀s∈c.2.2.1,c.2.2.2≤eF n xs s) (λc=>c.2.1.length) (n.sink,L0,[],2147483647)
   ⟨J,ζ,rfl,(show(0:Int)<2147483647 by decide),(show(2147483647:Int)≤2147483647 by decide),λs h=>by cases h⟩ Lq (λ_ _ h=>h) ?_
  rintro⟨v,L,P,z⟩ ⟨hv,hB,M,δ,φ,ε⟩;dsimp only at hv hB M δ φ ε;have υ:=W.lt v hv;have Ξ:(v:Int)<(n.nodes:Nat):=Om;simp only[go_sem,Cq,Ct];by_cases V:v=n.source
  ·have hL:L=[]:=by
    cases hB with
    |nil=>rfl
    |cons _ h _=>exact absurd V h
   subst hL;rw[bhH]at M;subst M;have N:(v:Int)=n.source:=Om;obtain⟨e,rfl⟩:∃e:Nat,z=e:=⟨z.toNat,by omega⟩;simp only[go_sem,bR N,Cu];refine wp_loop (α:=Nat × List dE × List Nat) (λc=>(((((PF.nil.set 1 (.bE n.cells)).set 6 (.osl fo 1 0 n.arcs.length)).set 8 (ints (byL (stO n.arcs.length) n Q way))).set 11 (.int .i64 (e:Nat))).set 14 (.int .i64 (c.1:Nat)))) (λc=>oX fo c.2.2)
    (λc=>c.1∈Q∧xV n Q way c.1 c.2.1∧i7 n xs c.2.2 e c.1 c.2.1∧∀s∈c.2.1,e≤eF n xs s) (λc=>c.2.1.length) (n.sink,P,xs)
    ⟨J,ζ,Lx Z e P,λs hs=>by have:=ε s hs;omega⟩ Lq (λ_ _ h=>h) ?_
   rintro⟨u,L,A⟩ ⟨hu,E,hM,l⟩;dsimp only at hu E hM l;simp only[go_sem,Cr,Cv];have τ:=W.lt u hu;have Λ:(u:Int)<(n.nodes:Nat):=Om;by_cases K:u=n.source
   ·have hL:L=[]:=by
     cases E with
     |nil=>rfl
     |cons _ h _=>exact absurd K h
    subst hL;subst K;obtain⟨k1,k2⟩:=acS x Z hM;have ψ:=anY x k1;simp only[go_sem,bR (show(n.source:Int)=n.source from rfl)];exact aG A k1 Om Lq (λ_ _ h=>h)
   ·have η:¬(u:Int)=n.source:=Om;have ξ:=E;cases E with
    |nil=>exact absurd rfl K
    |@cons _ L _ _ E=>
    have σ:=l _ (List.mem_cons_self ..);obtain⟨g1,g2,g3⟩:=acT W hM ξ hu σ;obtain⟨s1,s2,s3,s4,s5⟩:=W.way u hu K;have γ:=hM.same _ (List.mem_cons_self ..);have F:=aLV (cd:=stO n.arcs.length) (way:=way) τ hu K;generalize hs:way u=s at *
    obtain⟨i,bb⟩:=s;have s1:i<Z' n.arcs:=s1;have ν:i<Z' A:=by rw[hM.len];exact s1
    have μ:(i:Int)<(Z' n.arcs:Nat):=Om;have χ:=room_le x hx (s:=(i,bb)) s1;have B:=hx.le i s1;have j:=(x.ends _ (bgD s1)).2.2;rw[pE s1]at j;dsimp only at γ;have X:∀s∈L,e≤eF n xs s:=λs hs=>l s (bjG _ hs);cases bb with
    |true=>
     have Y:stO n.arcs.length (i,true)=(i:Int):=rfl;have hp:push e A (i,true)=A.set i (A.getD i 0+e):=rfl;have e2:eF n xs (i,true)=(cD n i).cap-xs.getD i 0:=rfl;have ew:IntKind.i64.wrap (((A.getD i 0:Nat):Int)+((e:Nat):Int))=((A.getD i 0+e:Nat):Int):=by rw[wrap_i64 Om Om];omega
     simp only[go_sem,cP η,VJ,F,Y,VK,bfY,μ,Cw,lG ν,bgL,ew,LN,PH.set_set,Cx,mF s1];rw[←hp];exact aG (eC n (i,true),L,push e A (i,true)) ⟨g1,g2,g3,X⟩ aY Lq (λ_ _ h=>h)
    |false=>
     have Y:stO n.arcs.length (i,false)=((Z' n.arcs+i:Nat):Int):=rfl;have hp:push e A (i,false)=A.set i (A.getD i 0-e):=rfl;have e2:eF n xs (i,false)=xs.getD i 0:=rfl;have β:¬((Z' n.arcs+i:Nat):Int)<(Z' n.arcs:Nat):=Om;have ei:IntKind.i64.wrap (((Z' n.arcs+i:Nat):Int)-(Z' n.arcs:Int))=(i:Int):=by rw[wrap_i64 Om Om];omega
     have ew:IntKind.i64.wrap (((A.getD i 0:Nat):Int)-((e:Nat):Int))=((A.getD i 0-e:Nat):Int):=by rw[wrap_i64 Om Om];omega
     simp only[go_sem,cP η,VJ,F,Y,VK,bfY,β];refine bA .nil cK a_ ?_;simp only[go_sem,Cy,bfY,ei,μ,lG ν,bgL,ew,LN,PH.set_set];rw[←hp];refine⟨a_,?_⟩;simp only[go_sem,Cz,bfY,ei,mF s1];exact aG (eC n (i,false),L,push e A (i,false)) ⟨g1,g2,g3,X⟩ aY Lq (λ_ _ h=>h)
  ·have N:¬(v:Int)=n.source:=Om;cases hB with
   |nil=>exact absurd rfl V
   |@cons _ L _ _ hB=>
   obtain⟨s1,s2,s3,s4,s5⟩:=W.way v hv V;have F:=aLV (cd:=stO n.arcs.length) (way:=way) υ hv V;have Δ:=room_le x hx s1;have w:∀z2:Int,0<z2→z2≤z→z2≤eF n xs (way v)→eC n (way v)∈Q∧xV n Q way (eC n (way v)) L∧(P++[way v])++L=L0∧0<z2∧z2≤2147483647∧∀s∈P++[way v],z2≤eF n xs s:=λz2 h0 h1 h2=>
    ⟨s4,hB,by rw[bgX];exact M,h0,by omega,λs hs=>by
     rcases bhK.1 hs with g|g
     ·have:=ε s g;omega
     ·rw[bhI]at g;subst g;exact h2⟩
   generalize hs:way v=s at *
   obtain⟨i,bb⟩:=s;have s1:i<Z' n.arcs:=s1;have y:i<Z' xs:=by rw[κ];exact s1
   have B:(i:Int)<(Z' n.arcs:Nat):=Om;have Γ:=hx.le i s1;have j:=(x.ends _ (bgD s1)).2.2;rw[pE s1]at j;cases bb with
   |true=>
    have Y:stO n.arcs.length (i,true)=(i:Int):=rfl;have e2:eF n xs (i,true)=(cD n i).cap-xs.getD i 0:=rfl;have ew:IntKind.i64.wrap (((cD n i).cap:Int)-((xs.getD i 0:Nat):Int))=((eF n xs (i,true):Nat):Int):=by rw[wrap_i64 Om Om,e2];omega
    simp only[go_sem,cP N,VE,F,Y,VG,bfY,B];refine bA .nil cK a_ ?_;by_cases hlt:((eF n xs (i,true):Nat):Int)<z
    ·simp only[go_sem,VH,mF s1,B,lG y,bgL,ew,hlt];exact aG (eC n (i,true),L,P++[(i,true)],((eF n xs (i,true):Nat):Int)) (w ((eF n xs (i,true):Nat):Int) Om Om (Int.le_refl _)) aY Lq (λ_ _ h=>h)
    ·simp only[go_sem,VH,mF s1,B,lG y,bgL,ew,hlt];exact aG (eC n (i,true),L,P++[(i,true)],z) (w z δ (Int.le_refl _) Om) aY Lq (λ_ _ h=>h)
   |false=>
    have Y:stO n.arcs.length (i,false)=((Z' n.arcs+i:Nat):Int):=rfl;have e2:eF n xs (i,false)=xs.getD i 0:=rfl;have β:¬((Z' n.arcs+i:Nat):Int)<(Z' n.arcs:Nat):=Om;have ei:IntKind.i64.wrap (((Z' n.arcs+i:Nat):Int)-(Z' n.arcs:Int))=(i:Int):=by rw[wrap_i64 Om Om];omega
    simp only[go_sem,cP N,VE,F,Y,VG,bfY,β];refine bA .nil cK a_ ?_;by_cases hlt:((xs.getD i 0:Nat):Int)<z
    ·simp only[go_sem,VI,bfY,ei,mF s1,B,lG y,bgL,hlt];exact aG (eC n (i,false),L,P++[(i,false)],((xs.getD i 0:Nat):Int)) (w ((xs.getD i 0:Nat):Int) Om Om (Int.le_refl _)) aY Lq (λ_ _ h=>h)
    ·simp only[go_sem,VI,bfY,ei,mF s1,B,lG y,bgL,hlt];exact aG (eC n (i,false),L,P++[(i,false)],z) (w z δ (Int.le_refl _) Om) aY Lq (λ_ _ h=>h)
theorem uo:∀(ps:WPs){H:PH}{B:List BX}{J:PV}(y:List (List PV)) (l:List (List Int)),qJ y l→aO H B ((J,1,y++eI ps)::jW ps)→(∀b∈B,∀q∈fB (jW ps),∀s rs,cI.frz q s rs b.2=b.2) →
  ∃(φ:PV→PV)(I:PH)(A:List (List PV)),qJ A (l++wls ps)∧aO I B [(J,1,A)]∧(∀u,Fx u→φ u=u)∧∀F,mP F H (PN φ F) I
 |[],H,B,J,y,l,K,h,_=>⟨id,H,y,by rw[show wls []=[]from rfl,bhH];exact K,by rw[show y++eI []=y from bhH _]at h;exact h,λ_ _=>rfl,λF=>by
   have:PN id F=F:=funext λi=>by rw[xS,Option.map_id];rfl
   rw[this];exact .refl _ _⟩
 |(v,w)::ps,H,B,J,y,l,K,h,hB=>by
  have eo:∀u:PV,y++[[u]]++eI ps=y++[u]::eI ps:=λu=>by rw[bgX];rfl
  have S:l++[w]++wls ps=l++wls ((v,w)::ps):=by rw[bgX];rfl
  have ho:bH H 1 v (bS w):=h.own 1 rfl;have E:∀q,q∈fB (jW ps)→q∈fB (jW ((v,w)::ps)):=λq hq=>by obtain⟨x,hx,e⟩:=List.mem_filterMap.1 hq;exact List.mem_filterMap.2 ⟨x,bjG _ hx,e⟩
  rcases ho with⟨h1,rfl⟩|⟨q,rs,rfl,_⟩
  ·have hw:w=[]:=List.map_eq_nil_iff.1 h1;have h2:=h.za 1;obtain⟨φ,I,A,k1,k2,O,R⟩:=uo ps (y++[[.aH]]) (l++[w]) (K.snoc (.inr ⟨rfl,hw⟩)) (by rw[eo];exact h2) (λb hb q hq=>hB b hb q (E q hq));rw[S]at k1;exact⟨φ,I,A,k1,k2,O,R⟩
  ·obtain⟨rs,z1,z2,z3,z4,W⟩:=h.frz 1 rfl;have N:q∈fB (jW ((.osl q 1 0 (bS w).length,w)::ps)):=List.mem_filterMap.2 ⟨_,List.mem_cons_self ..,rfl⟩;have Y:(B.map λb=>(b.1,b.2.frz q 1 rs))=B:=by
    conv=>rhs;rw[←List.map_id B]
    refine biI λb hb=>?_;rw[hB b hb q N 1 rs];rfl
   have yp:∀p∈ps,PV.dM q 1 rs p.1=p.1:=λp M=>by obtain⟨j,hj⟩:=List.mem_iff_getElem?.1 M;exact z4 (j+2) (p.1,1,bS p.2) Om (IB hj)
   have er:(y++eI ((.osl q 1 0 (bS w).length,w)::ps)).map (λr=>r.map (PV.dM q 1 rs))=y++[[ints w]]++eI ps:=by
    rw[bhM,K.flat,bgX];congr 1;show[PV.dM q 1 rs (.osl q 1 0 (bS w).length)]::(eI ps).map _=_;rw[z2];have:(eI ps).map (λr=>r.map (PV.dM q 1 rs))=eI ps:=by unfold eI;rw[bjF];refine biI λp M=>?_;show[PV.dM q 1 rs p.1]=_;rw[yp p M]
    rw[this];rfl
   have Z:(jW ps).map (λx=>(x.1,x.2.1,x.2.2.map λr=>r.map (PV.dM q 1 rs)))=jW ps:=by unfold jW;rw[bjF];refine biI λp _=>?_;show(p.1,1,(bS p.2).map λr=>r.map (PV.dM q 1 rs))=_;rw[show(bS p.2).map (λr=>r.map (PV.dM q 1 rs))=bS p.2 from Flat.map p.2 (λx c U q s rs=>by rw[bhI]at U;subst U;rfl) q 1 rs]
   have z6:aO (H.frz q 1 rs) B ((J,1,y++[[ints w]]++eI ps)::jW ps):=by rw[Y]at W;have X:aO (H.frz q 1 rs) B ((J,1,(y++eI ((.osl q 1 0 (bS w).length,w)::ps)).map (λr=>r.map (PV.dM q 1 rs)))::(jW ps).map (λx=>(x.1,x.2.1,x.2.2.map λr=>r.map (PV.dM q 1 rs)))):=W;rw[er,Z]at X;exact X
   obtain⟨φ,I,A,k1,k2,O,R⟩:=uo ps (y++[[ints w]]) (l++[w]) (K.snoc (.inl rfl)) z6 (λb hb q hq=>hB b hb q (E q hq));rw[S]at k1;refine⟨λu=>φ (PV.frz q 1 rs u),I,A,k1,k2,λu V=>?_,λF=>.step q z1 ?_⟩
   ·simp only;rw[V,O u V]
   ·have:PN (λu=>φ (PV.frz q 1 rs u)) F=PN φ (F.frz q 1 rs):=funext λi=>by rw[xS,xS,tT,Option.map_map];rfl
    rw[this];exact R _
theorem arC{C:Ctx}{c:aC}{K:cQ}{F l:PF}{H u:PH}(B:mP F H l u)(h:aC.wp C (.loop c) K l u):aC.wp C (.loop c) K F H:=by
 obtain⟨α,x,Hs,y,m,A,w,H2,j,e⟩:=h;exact⟨α,x,Hs,y,m,A,w,H2,B.trans j,e⟩
theorem aKS{φ:PV→PV}(j:∀u,Fx u→φ u=u){F:PF}{i o s:Nat}{rs:List (List PV)}{u:PV}(h:F i=some u)(e:Fx u):((PN φ F).frz o s rs) i=some u:=by
 rw[tT,xS,h,bhD,bhD,j u e,e]
theorem aO.aIS{H:PH}{B:List BX}{L:List LI}(h:aO H B L):∀N:Nat,aO H B (L++bgA N (.aH,1,[]))
 |0=>by rw[List.replicate_zero,bhH];exact h
 |N+1=>by rw[List.replicate_succ',←bgX];exact(h.aIS N).oV 1
structure EZ(n:cN)(T:dE→Prop)(c:Nat)(ws:List (List Int)):Prop where
 len:Z' ws=n.nodes
 all:∀s:dE,T s→stI s∈ws.getD (eC n s) []
 only:∀v c,c∈ws.getD v []→∃s:dE,T s∧eC n s=v∧c=stI s
 few:∀v,(ws.getD v []).length≤c
theorem EZ.add{n:cN}{T:dE→Prop}{c:Nat}{ws:List (List Int)}(h:EZ n T c ws){s0:dE}(l:eC n s0<n.nodes) :
  EZ n (λs=>T s∨s=s0) (c+1) (ws.set (eC n s0) (ws.getD (eC n s0) []++[stI s0])):=by
 have E:eC n s0<Z' ws:=by rw[h.len];exact l
 have j:∀v,(ws.set (eC n s0) (ws.getD (eC n s0) []++[stI s0])).getD v []=if v=eC n s0 then ws.getD v []++[stI s0]else ws.getD v []:=λv=>by
  rw[bgF,bjT];by_cases e:v=eC n s0
  ·subst e;rw[aL rfl,aL E,aL rfl];rfl
  ·rw[aE (λB=>e B.symm),aE e,←bgF]
 refine⟨by rw[bhU];exact h.len,λs l=>?_,λv x u=>?_,λv=>?_⟩
 ·rw[j];rcases l with l|rfl
  ·split
   ·exact bjQ _ (h.all s l)
   ·exact h.all s l
  ·rw[aL rfl];simp
 ·rw[j]at u;split at u
  ·rename_i e;rcases bhK.1 u with g|g
   ·obtain⟨s,w,y,A⟩:=h.only v x g;exact⟨s,.inl w,y,A⟩
   ·rw[bhI]at g;exact⟨s0,.inr rfl,e.symm,g⟩
  ·obtain⟨s,w,y,A⟩:=h.only v x u;exact⟨s,.inl w,y,A⟩
 ·have:=h.few v;rw[j];split
  ·rw[bgB,bgI];omega
  ·omega
theorem EZ.zero(n:cN):EZ n (λs=>s.1<0) 0 (bgA n.nodes []):=by
 have:∀v,(bgA n.nodes ([]:List Int)).getD v []=[]:=λv=>by rw[bgF,bkC];split<;>rfl
 exact⟨by simp,λs j=>absurd j (Nat.not_lt_zero _),λv c e=>(by rw[this]at e;cases e),λv=>by rw[this];exact bgG _⟩
theorem EZ.ok{n:cN}(e:fM n){ws:List (List Int)}(h:EZ n (λs=>s.1<Z' n.arcs) (2*Z' n.arcs) ws):Uq n ws:=
 ⟨h.len,h.all,h.only,λv=>by have:=h.few v;have:=e.num;omega⟩
theorem ki(ps:WPs)(i:Nat)(p:PV × List Int):wls (ps.set i p)=(wls ps).set i p.2:=List.map_set ..
theorem kh{ps:WPs}{i:Nat}{p:PV × List Int}(h:ps[i]?=some p):(wls ps).getD i []=p.2:=by
 unfold wls;rw[bgF,bgT,h];rfl
theorem aZZ{n:cN}(e:fM n):aGC n≤2500*2147483647:=by
 have j:=Gv (λv=>decide (v=n.source)) (M:=2147483647) (l:=n.arcs) λa u=>(e.ends a u).2.2;exact biJ j (bhF 2147483647 e.num)
structure a4U where
 k:Nat
 ps:WPs
 H:PH
abbrev aZJ(n:cN)(j fo e:Nat):List BX:=[(fo,.rows 1 (fP (bgA n.arcs.length 0))),(j,zL n fo n.arcs.length (.osl e 1 0 n.nodes))]
structure a7P(n:cN)(so fo oo:Nat)(a:a4U):Prop where
 k:a.k≤Z' n.arcs
 len:Z' a.ps=n.nodes
 heap:aO a.H (aZJ n so fo oo) (uO (.osl oo 1 0 n.nodes) a.ps)
 out:EZ n (λs=>s.1<a.k) (2*a.k) (wls a.ps)
theorem ayM{H:PH}{B:List BX}{u N:Nat}{ps:WPs}(h:aO H B (uO (.osl u 1 0 N) ps))(E:Z' ps=N){i:Nat}(hi:i<N):∃rs v w,H u=some (.rows 1 rs)∧ps[i]?=some (v,w)∧rs[i]?=some [v]:=by
 obtain⟨rs,x,y,A,j⟩:=h.outer.id rfl;rw[EN]at y A j;have e:i<Z' ps:=Om;refine⟨rs,(ps[i]).1,(ps[i]).2,x,bgH e,?_⟩;have h5:=congrArg (λl=>l[i]?) j
 try simp only at h5
 rw[biY,aL e]at h5;rw[h5];exact zH (bgH e)
theorem aNN{C:Ctx}(Y:∀n:cN,fM n→aI C 292 [.agg n.cells] .nil (aK (.bool true)))
  (X:∀(n:cN)(j fo:Nat)(xs:List Nat)(y:List (List PV)) (ε:List (List Int)),fM n→¬j=fo→rL n xs→qJ y ε→Uq n ε→aI C 296 [.ptr j 6 0 0] (sH n j fo xs (nY y)) (aLR n j fo xs (nY y)))
  (κ:∀(n:cN)(j fo:Nat)(xs:List Nat)(out:PV)(Q:List Nat)(way:Nat→dE),fM n→¬j=fo→jY n xs→sJ n xs Q way→n.sink∈Q→aI C 297 [.ptr j 6 0 0,ints (byL stI n Q way)] (sH n j fo xs out) (a4Q n j fo xs out))
  (n:cN) (J:fM n):NM.wp C (aW adW.res (ZK n)) (PF.args [.agg n.cells]) .nil:=by
 have hm:=J.num;have j':=J.few;have μ:(Z' n.arcs:Int)*((8:Nat):Int)≤140737488355328:=Om;have ν:(Z' n.arcs:Int)≤9223372036854775807:=Om;have ξ:(n.nodes:Int)*((24:Nat):Int)≤140737488355328:=Om;have ο:(n.nodes:Int)≤9223372036854775807:=Om;have o':(n.sink:Int)<(n.nodes:Nat):=by have:=J.sink;omega
 simp only[go_sem,NM,Mb,adW,Mc];refine aB (Y n J) rfl ?_;simp only[go_sem];refine bA .nil cK a_ ?_;simp only[go_sem,Md,bfY,μ,ν,ξ,ο];refine aQ λfo Ω=>?_;simp only[go_sem,μ,ν,ξ,ο];refine aQ λu τ=>?_;simp only[go_sem];refine aQ λj A=>?_;have V:¬j=fo:=λe=>by
  rw[e,aR]at A;split at A
  ·cases A
  ·rw[cB]at A;cases A
 simp only[go_sem,Me,bfY];rw[GU];have h0:aO PH.nil ([]:List BX) ([]:List LI):=aO.nil;have h1:=(h0.new Ω (.rows 1 (fP (bgA n.arcs.length 0))));rw[GU]at τ;have S:=(h1.Ib (s:=1) (rows:=bgA n.nodes [.aH]) τ);rw[GU]at A;have h3:=(S.new A (zL n fo n.arcs.length (.osl u 1 0 n.nodes)));have h4:=h3.aIS n.nodes;have e4:([]++[((.osl u 1 0 (bgA n.nodes [PV.aH]).length:PV),1,bgA n.nodes [PV.aH])]:List LI)++bgA n.nodes (.aH,1,[])=uO (.osl u 1 0 n.nodes) (bgA n.nodes (.aH,[])):=by unfold uO eI jW;rw[List.map_replicate,List.map_replicate,bjP];rfl
 rw[e4]at h4;refine wp_loop (α:=a4U) (λa=>(((((PF.nil.set 1 (.bE n.cells)).set 6 (.ptr j 6 0 0)).set 26 (Gq n.arcs)).set 27 (.int .i64 (Z' n.arcs:Nat))).set 28 (.int .i64 (a.k:Nat)))) (λa=>a.H) (a7P n j fo u) (λa=>Z' n.arcs-a.k) ⟨0,bgA n.nodes (.aH,[]),_⟩
  ⟨bgE _,bjP,h4,by
   have:wls (bgA n.nodes ((.aH,[]):PV × List Int))=bgA n.nodes []:=by unfold wls;rw[List.map_replicate]
   show EZ n _ _ (wls (bgA n.nodes ((.aH,[]):PV × List Int)));rw[this];exact EZ.zero n⟩ Lq (λ_ _ h=>h) ?_
 rintro⟨k,ps,H⟩ ⟨hk,ζ,hH,hO⟩;dsimp only at hk ζ hH hO;simp only[go_sem,Bl,Mf];by_cases hlt:k<Z' n.arcs
 ·have M:(k:Int)<(Z' n.arcs:Nat):=Om;obtain⟨z1,z2,z3⟩:=J.ends _ (bgD hlt);rw[pE hlt]at z1 z2 z3;have Δ:(((cD n k).src:Nat):Int)<(n.nodes:Nat):=Om;have Θ:(((cD n k).dst:Nat):Int)<(n.nodes:Nat):=Om;have b':=wZz k;have c':IntKind.i64.wrap (-1-(k:Int))=-1-(k:Int):=wrap_i64 Om Om;simp only[go_sem,M,Mg,mF hlt];refine aQ λp hp=>?_;have k':H fo=some _:=hH.at 0 rfl;have O:H j=some _:=hH.at 1 rfl;have p1:¬j=p:=λe0=>by rw[e0,hp]at O;cases O
  have Γ:¬p=j:=λe0=>p1 e0.symm;have F:=hH.new hp (.rows 4 [(cD n k).cells]);obtain⟨rs,v,w,g1,g2,g3⟩:=ayM F ζ z1;have I:(wls ps).getD (cD n k).src []=w:=kh g2;have Z:=hO.few (cD n k).src;rw[I]at Z;have ω:(H.set p (.rows 4 [(cD n k).cells])) j=some _:=F.at 1 rfl;have υ:(H.set p (.rows 4 [(cD n k).cells])) p=some _:=F.at 2 rfl;have op:¬u=p:=λe0=>by rw[e0,υ]at g1;injection g1 with g1;injection g1 with g1;cases g1
  simp only[go_sem];refine bA ((PH.nil.set j (zL n fo n.arcs.length (.osl u 1 0 n.nodes))).set p (.rows 4 [(cD n k).cells])) cK (e_ (e_ a_ ω) υ) ?_;rw[aR,aE op]at g1;simp only[go_sem,Mh,p1,Γ,op,O,Δ,g1,bgL,g3];refine F.aZO (src:=[(k:Int)]) g2 (by simp[fA,bS]) (by unfold roomFor;simp only[bgI,maxLen];omega) aY λq H2 S=>?_;refine⟨e_ (e_ a_ (S.at 1 rfl)) (S.at 2 rfl),?_⟩
  try simp only[go_sem,Δ]
  refine bA .nil cK a_ ?_;obtain⟨rs2,j1,j2,j3,j4⟩:=S.aQF;have W:rs2[(cD n k).src]?=some [v]:=by
   have h5:=congrArg (λl=>l[(cD n k).src]?) j3
   try simp only at h5
   rw[biY,aL z1]at h5;rw[h5];exact zH g2
  simp only[go_sem,Mi,j1,bgL,W];refine⟨a_,?_⟩;generalize γ:ps.set (cD n k).src (.osl q 1 0 (w++[(k:Int)]).length,w++[(k:Int)])=K at *
  have β:Z' K=n.nodes:=by rw[←γ,bhU];exact ζ
  have θ:EZ n (λs=>s.1<k∨s=(k,true)) (2*k+1) (wls K):=by have:=hO.add (s0:=(k,true)) z1;rw[show eC n (k,true)=(cD n k).src from rfl,I]at this;rw[←γ,ki];exact this
  generalize H2.set u (.rows 1 (rs2.set (cD n k).src [.osl q 1 0 (w++[(k:Int)]).length]))=H3 at *
  clear j1 j2 j3 W S g1 g2 g3 I Z;obtain⟨rs,v2,w2,g1,g2,g3⟩:=ayM j4 β z2;have I:(wls K).getD (cD n k).dst []=w2:=kh g2;have Z:=θ.few (cD n k).dst;rw[I]at Z;have δ:H3 j=some _:=j4.at 1 rfl;have χ:H3 p=some _:=j4.at 2 rfl;refine bA ((PH.nil.set j (zL n fo n.arcs.length (.osl u 1 0 n.nodes))).set p (.rows 4 [(cD n k).cells])) cK (e_ (e_ a_ δ) χ) ?_;simp only[go_sem,Mj,p1,Γ,op,δ,χ,Θ,g1,bgL,g3,c'];refine j4.aZO (src:=[-1-(k:Int)]) g2 (by simp[fA,bS]) (by unfold roomFor;simp only[bgI,maxLen];omega) aY λq2 H4 h4=>?_;refine⟨e_ (e_ a_ (h4.at 1 rfl)) (h4.at 2 rfl),?_⟩
  try simp only[go_sem,Θ]
  refine bA .nil cK a_ ?_;obtain⟨rs2,i1,i2,i3,i4⟩:=h4.aQF;have W:rs2[(cD n k).dst]?=some [v2]:=by
   have h5:=congrArg (λl=>l[(cD n k).dst]?) i3
   try simp only at h5
   rw[biY,aL z2]at h5;rw[h5];exact zH g2
  simp only[go_sem,Bn,i1,bgL,W];refine⟨a_,?_⟩;simp only[go_sem,Bo,b'];have U:EZ n (λs=>(s.1<k∨s=(k,true))∨s=(k,false)) (2*k+1+1) (wls (K.set (cD n k).dst (.osl q2 1 0 (w2++[-1-(k:Int)]).length,w2++[-1-(k:Int)]))):=by have:=θ.add (s0:=(k,false)) z2;rw[show eC n (k,false)=(cD n k).dst from rfl,I]at this;rw[ki];exact this
  refine aG ⟨k+1,K.set (cD n k).dst (.osl q2 1 0 (w2++[-1-(k:Int)]).length,w2++[-1-(k:Int)]),_⟩ ⟨hlt,by show(K.set _ _).length=_;rw[bhU];exact β,aO.dropLast (B:=aZJ n j fo u) i4,⟨U.len,λs hs=>U.all s ?_,λv c E=>?_,λv=>by have:=U.few v;show _≤2*(k+1);omega⟩⟩ (by show n.arcs.length-(k+1)<Z' n.arcs-k;omega) Lq (λ_ _ h=>h)
  ·obtain⟨i,b⟩:=s;have hs:i<k+1:=hs;rcases bgV i k with c|c
   ·exact .inl (.inl c)
   ·have:i=k:=Om;subst this;cases b
    ·exact .inr rfl
    ·exact .inl (.inr rfl)
  ·obtain⟨s,h1,S,h3⟩:=U.only v c E;refine⟨s,?_,S,h3⟩;rcases h1 with(h1|rfl)|rfl
   ·exact Nat.lt_succ_of_lt h1
   ·exact Nat.lt_succ_self _
   ·exact Nat.lt_succ_self _
 ·have M:¬(k:Int)<(Z' n.arcs:Nat):=Om;have a':k=Z' n.arcs:=Om;subst a';have Ψ:Uq n (wls ps):=hO.ok J;have e':∀q∈fB (jW ps),¬fo=q∧¬u=q:=λq hq=>by refine⟨hH.ndX (o:=fo) (by simp[fW]) (by show q∈u::fB (jW ps);exact bjG _ hq),λe=>?_⟩;have h5:(u::fB (jW ps)).Nodup:=hH.ndL;exact(List.nodup_cons.1 h5).1 (e ▸ hq)
  obtain⟨φ,H1,y,ι,F,g',hz⟩:=uo ps [] [] .nil (show aO H _ ((.osl u 1 0 n.nodes,1,[]++eI ps)::jW ps)from hH) (λb hb q hq s rs=>by
   obtain⟨q1,q2⟩:=e' q hq;rcases bgN.1 hb with rfl|hb
   ·exact zC (Flat.map _ λx c E q s rs=>by rw[bhI]at E;subst E;rfl) 1
   ·rw[bhI]at hb;subst hb;simp[cI.frz,PV.dM,q1,q2])
  rw[bjH]at ι;obtain⟨rs,y1,y2,y3,y4,y5⟩:=F.frz 0 rfl;have of:¬fo=u:=λe=>by have:=hH.ndX (o:=fo) (q:=u) (by simp[fW]) (by simp[fB,uO,PV.oid]);exact this e
  have Ξ:cI.frz u 1 rs (.rows 1 (fP (bgA n.arcs.length 0)))=.rows 1 (fP (bgA n.arcs.length 0)):=zC (Flat.map _ λx c E q s rs=>by rw[bhI]at E;subst E;rfl) 1;have Φ:cI.frz u 1 rs (zL n fo n.arcs.length (.osl u 1 0 n.nodes))=zL n fo n.arcs.length (nY y):=by show cI.rows 6 [[_,_,_,_,PV.dM u 1 rs (.osl fo 1 0 n.arcs.length),PV.dM u 1 rs (.osl u 1 0 n.nodes)]]=_;rw[y2];simp[PV.dM,of]
  have h':(H1.frz u 1 rs) fo=some (.rows 1 (fP (bgA n.arcs.length 0))):=by have:=y5.at 0 rfl;rw[Ξ]at this;exact this
  have i':(H1.frz u 1 rs) j=some (zL n fo n.arcs.length (nY y)):=by have:=y5.at 1 rfl;rw[Φ]at this;exact this
  simp only[go_sem,M,Bp];refine arC ((hz _).trans (.step u y1 (.refl _ _))) ?_;refine wp_loop (α:=List Nat) (λxs=>(((PF.nil.set 1 (.bE n.cells)).set 6 (.ptr j 6 0 0)).set 9 (.int .i64 (kT n xs)))) (λxs=>sH n j fo xs (nY y)) (λxs=>jY n xs∧0≤kT n xs) (λxs=>(aGC n-kT n xs).toNat) (bgA n.arcs.length 0) ⟨(KQ n).1,by rw[(KQ n).2];decide⟩
   (d_ (d_ (d_ c_ (aKS g' rfl (Fx.bE _))) (aKS g' rfl (Fx.ptr _ _ _ _))) (aKS g' (by simp only[go_sem,(KQ n).2]) (Fx.int _ _))) (e_ (e_ a_ (by rw[bjP];exact i')) h') ?_
  rintro xs ⟨hF,p'⟩;have hx:=hF.in;have q':=hF.len;simp only[go_sem,Bm,Bq];refine eR (X n j fo xs y (wls ps) J V hx ι Ψ) rfl (λ_ _ h=>h) ?_;rintro r H' ⟨Q,way,hS,hD,rfl,rfl⟩ -;rw[PH.over_self _ (λ_ _ h=>h)];have N:=fI (R:=seL n Q) (i:=n.sink) (by rw[CZ];exact J.sink);rw[RL J.sink]at N;have ρ:¬fo=j:=λe=>V e.symm;cases E:Q.contains n.sink with
  |false=>
   rw[E]at N;simp only[go_sem,UN,N,Br,V,ρ];have σ:n.sink ∉ Q:=λh=>by rw[bjZ.2 h]at E;cases E
   refine pU (vs:=[.osl fo 1 0 xs.length,.int .i64 (kT n xs),.sl 1 (bK (seL n Q)),.int .i64 0]) (.inr rfl) rfl ?_;refine uH.step (q:=fo) (s:=1) (rs:=fP xs) (by rw[cB]) ?_;have ev:PV.frz fo 1 (fP xs) (cF [.osl fo 1 0 xs.length,.int .i64 (kT n xs),.sl 1 (bK (seL n Q)),.int .i64 0])=.tup [.sl 1 (fP xs),.int .i64 (kT n xs),.sl 1 (bK (seL n Q)),.int .i64 0]:=by have hT:(fP xs).take xs.length=fP xs:=bgR (by rw[bfY];exact bgG _);simp[cF,PV.frz,PV.wE,PV.dM,hT]
   rw[ev];refine uH.done (H2:=.nil) ⟨xs,λv=>Q.contains v,hF,aiT J hF hS hD σ,?_,E,rfl,rfl⟩ a_;obtain⟨t,ht⟩:=hS.first;rw[ht];simp
  |true=>
   rw[E]at N;have ψ:n.sink∈Q:=bjZ.1 E;simp only[go_sem,UN,N,Bs];refine eR (κ n j fo xs (nY y) Q way J V hF hS ψ) rfl (λ_ _ h=>h) ?_;rintro r H' ⟨ys,Λ,ha,η,hv,rfl,rfl⟩ l';have d':(sH n j fo xs (nY y)).over (sH n j fo xs (nY y)) (sH n j fo ys (nY y))=sH n j fo ys (nY y):=PH.ext λo=>by
    show(match(sH n j fo ys (nY y)) o with|some x=>some x|none=>match(sH n j fo xs (nY y)) o with|some _=>some .dead|none=>(sH n j fo xs (nY y)) o)=(sH n j fo ys (nY y)) o;have e1:∀(zs:List Nat),¬o=fo→¬o=j→(sH n j fo zs (nY y)) o=none:=λzs h1 S=>by rw[aR,aE h1,aR,aE S];rfl
    by_cases c1:o=fo
    ·subst c1;rw[cB]
    ·by_cases c2:o=j
     ·subst c2;rw[aR,aE c1,cB]
     ·rw[e1 ys c1 c2,e1 xs c1 c2]
   rw[d'];have m':=anY J η;have n':=aZZ J;have f':IntKind.i64.wrap (kT n xs+((Λ:Nat):Int))=kT n ys:=by rw[wrap_i64 Om Om,hv]
   simp only[go_sem,f'];exact aG ys ⟨η,by omega⟩ Om Lq (λ_ _ h=>h)
def pO(f:aD)(l:List bY)(xs:List Nat)(k:Nat):List (List Int):=(bfZ f.beM.length).map λv=>oZ f v (l.take k) (xs.take k)
theorem s9(f:aD)(l:List bY)(xs:List Nat)(k:Nat):(pO f l xs k).length=Z' f.beM:=by simp[pO]
theorem K6(f:aD)(l:List bY)(xs:List Nat):pO f l xs 0=bgA f.beM.length []:=by
 refine bjN (by simp[pO]) λi e j=>?_;simp[pO,oZ]
theorem aaU{f:aD}{l:List bY}{xs:List Nat}(h:Z' xs=Z' l):pO f l xs l.length=FC f l xs:=by
 unfold pO FC;rw[bhA,bgR Om]
theorem VW(f:aD)(v:Nat){l:List bY}{xs:List Nat}(u:Z' xs=Z' l){k:Nat}(j:k<Z' l):oZ f v (l.take (k+1)) (xs.take (k+1))=oZ f v (l.take k) (xs.take k)++BL f v l[k] (xs.getD k 0):=by
 have e:k<Z' xs:=Om;rw[bhW j,bhW e,wN f v _ _ (by rw[bgP,bgP,u])];rw[show xs.getD k 0=xs[k] by simp[bgF,e]];simp[oZ]
theorem K5{f:aD}{l:List bY}{xs:List Nat}(j:Z' xs=Z' l){k:Nat}(e:k<Z' l)(h:l[k].dst<bG f 0∨xs.getD k 0=0):pO f l xs (k+1)=pO f l xs k:=by
 unfold pO;refine biI λv _=>?_;rw[VW f v j e];have:BL f v l[k] (xs.getD k 0)=[]:=by
  unfold BL dr;rcases h with h|h
  ·rw[bV Om];rfl
  ·rw[h];simp
 rw[this,bhH]
theorem aaV{f:aD}{l:List bY}{xs:List Nat}(u:Z' xs=Z' l){k:Nat}(j:k<Z' l)(w:bG f 0≤l[k].dst)(x:xs.getD k 0≠0)(B:HH f l[k]<Z' f.beM) :
  (pO f l xs k).set (HH f l[k]) ((pO f l xs k).getD (HH f l[k]) []++[((l[k].dst-bG f 0:Nat):Int)])=pO f l xs (k+1):=by
 have y:(pO f l xs k).getD (HH f l[k]) []=oZ f (HH f l[k]) (l.take k) (xs.take k):=by unfold pO;rw[bgF,bgT,biH B];rfl
 rw[y];unfold pO;refine sG _ _ _ _ _ ?_ λv A=>?_
 ·rw[VW f _ u j];unfold BL dr;rw[bX w,bX x,bX rfl];rfl
 ·rw[VW f _ u j];unfold BL dr;rw[bV (show ¬HH f l[k]=v from λe=>A e.symm),bhO,bhO];simp
theorem arK{f:aD}(hV:VF f){room:List Int}{a:bY}(ha:a∈eZ f room)(h:bG f 0≤a.dst):∃v d,v<Z' f.beM∧d<Z' f.beK∧a=fD f v d:=by
 unfold eZ at ha;rcases bhK.1 ha with ha|ha
 ·obtain⟨v,e,ha⟩:=List.mem_flatMap.1 ha;have e:=bgW.1 e;unfold gS at ha;rcases bgN.1 ha with rfl|ha
  ·have:=(kV hV e hV.root.1).2;simp only[cR,if_true]at this;simp only at h;omega
  ·rcases bhK.1 ha with ha|ha
   ·obtain⟨i,hi,rfl⟩:=bhC.1 ha;have:=bgW.1 hi;have:=(kV (i:=i+1) hV e Om).2;simp only[lY]at h;omega
   ·obtain⟨d,j,rfl⟩:=bhC.1 ha;exact⟨v,d,e,bgW.1 (bjS.1 j).1,rfl⟩
 ·obtain⟨d,j,rfl⟩:=bhC.1 ha;simp only[pW,bG]at h;omega
theorem tc{f:aD}(hV:VF f){d:Nat}(u:d<Z' f.beK):0<eO f d∧eO f d<Z' f.beN:=by
 have j:=hV.drive d u;refine⟨?_,j.2.2.2.1⟩;rcases biC (eO f d)with e|e
 ·have l:=j.2.2.2.2;rw[e,hV.root.2.1]at l;omega
 ·exact e
theorem a3N{f:aD}(hV:VF f){v d:Nat}(e:d<Z' f.beK):2+Z' f.beM≤(fD f v d).src:=by
 have:=tc hV e;simp only[fD,cR];rw[aE Om];omega
theorem aO.a5D{H:PH}{B:List BX}{L:List LI}{o s:Nat}{rows:List (List PV)}(h:aO H ((o,.rows s rows)::B) L):aO H B ((.osl o s 0 rows.length,s,rows)::L):=by
 refine⟨λb hb=>h.box b (bjG _ hb),λx hx=>?_,?_⟩
 ·rcases bgN.1 hx with rfl|hx
  ·exact .inr ⟨o,rows,rfl,h.box _ (List.mem_cons_self ..),bgG _,bhA⟩
  ·exact h.lst x hx
 ·have e:fB ((.osl o s 0 rows.length,s,rows)::L)=o::fB L:=rfl;rw[e];exact(List.perm_middle.nodup_iff).2 h.nd
theorem aO.aZM{H:PH}{B:List BX}(h:aO H B [])(N:Nat):aO H B (jW (bgA N ((.aH,[]):PV × List Int))):=by
 have j:=h.aIS N;have e:jW (bgA N ((.aH,[]):PV × List Int))=[]++bgA N (.aH,1,[]):=by unfold jW;rw[List.map_replicate];rfl
 rw[e];exact j
theorem Pg{res:List fL}{R A:PV→PH→Prop}{e:oW}{F:PF}{H:PH}(B:∀r H',R r H'→A r H')(h:aW res R e F H):aW res A e F H:=by
 cases e with
 |exit=>exact h
 |normal =>obtain⟨vs,u,j,l,H2,w,x,v,y,h5⟩:=h;exact⟨vs,u,j,l,H2,w,x,v,y,B _ _ h5⟩
 |ret =>obtain⟨vs,u,j,l,H2,w,x,v,y,h5⟩:=h;exact⟨vs,u,j,l,H2,w,x,v,y,B _ _ h5⟩
def CD(f:aD)(room:List Int)(ws:List (List Int))(c:Int):Prop:=
 (dU f=false∧ws=[]∧c=1)∨(dU f=true∧(∃u,AI f room u∧ws=zF f u)∧c=0)∨(dU f=true∧¬EX f room∧ws=[]∧c=12)
def yg(f:aD)(room:List Int)(r:PV)(H:PH):Prop:=∃ws c,CD f room ws c∧cT (.tup [lists ws,.int .i64 c]) r H
def yf(f:aD)(room:List Int)(r:PV)(H:PH):Prop:=∃ws c,CD f room ws c∧r=.tup [lists ws,.int .i64 c]∧H=PH.nil
theorem aI.place{C:Ctx}{name:Nat}{args:List PV}{f:aD}{room:List Int}(h:aI C name args .nil (yg f room)):aI C name args .nil (yf f room):=
 h.post λr H' ⟨ws,c,e,j,l⟩=>⟨_,j,ws,c,e,rfl,l⟩
structure ZG(C:Ctx):Prop extends rM C where
 net:∀(f:aD)(room:List Int),f.Ok→aI C 286 [.agg f.cells,ints room] .nil (aK (BC f room))
 solve:∀n:cN,fM n→aI C 298 [.agg n.cells] .nil (ZK n)
 demand:∀f:aD,VF f→aI C 287 [.agg f.cells] .nil (aK (.int .i64 ((rO f:Nat):Int)))
theorem wm(f:aD)(v:Nat):∀(l:List bY)(xs:List Nat),(oZ f v l xs).length≤Z' l
 |[],_=>by simp[oZ]
 |_::_,[]=>by simp[oZ]
 |a::l,x::xs=>by
  have e:=wm f v l xs;have j:(BL f v a x).length≤1:=by unfold BL;split<;>simp
  rw[oZ,bgB,bhT];omega
def plF(f:aD)(n:cN)(xs:List Nat)(e j k:Nat):PF:=((((((PF.nil.set 8 (.sl 1 (fP xs))).set 12 (.ptr e 2 0 0)).set 13 (.osl j 1 0 f.beM.length)).set 49 (Gq n.arcs)).set 50 (.int .i64 (Z' n.arcs:Nat))).set 51 (.int .i64 (k:Nat)))
theorem aqG{C:Ctx}(Lb:ZG C){K:cQ}[Up K](f:aD)(hV:VF f)(room:List Int)(xs:List Nat)(hx:rL (cY f room) xs)(e I:Nat){F:PF}{H:PH}
  (hH:aO H [(I,.rows 1 (eI (bgA f.beM.length (.aH,[])))),(e,jJ f)] (jW (bgA f.beM.length (.aH,[])))) (hF:(plF f (cY f room) xs e I 0).le F)
  (hK:∀ps H',aO H' [(e,jJ f)] (uO (.osl I 1 0 f.beM.length) ps)→wls ps=FC f (eZ f room) xs→K (.exit 0) ((PF.nil.set 13 (.osl I 1 0 f.beM.length))) H'):aC.wp C (.loop SN) K F H:=by
 have hs:=hV.small;have hr:=hV.root;have hn:=EL hV room;have hm:=hn.num;have ρ:=hn.few;have Y:Z' xs=(eZ f room).length:=hx.len;refine wp_loop (α:=Nat × WPs × PH) (λs=>plF f (cY f room) xs e I s.1) (λs=>s.2.2) (λs=>s.1≤(cY f room).arcs.length∧wls s.2.1=pO f (eZ f room) xs s.1∧aO s.2.2 [(I,.rows 1 (eI s.2.1)),(e,jJ f)] (jW s.2.1)) (λs=>(cY f room).arcs.length-s.1) (0,bgA f.beM.length (.aH,[]),H) ⟨bgE _,?_,hH⟩ hF b_ ?_
 ·rw[K6];unfold wls;simp only[List.map_replicate]
 rintro⟨k,ps,H0⟩ ⟨hk,j,hH⟩;simp only at hk j hH;have ξ:Z' ps=Z' f.beM:=by have:=congrArg List.length j;rw[s9]at this;unfold wls at this;rw[bfY]at this;exact this
 simp only[go_sem,SN,zm,plF];by_cases hlt:k<(cY f room).arcs.length
 ·have J:(k:Int)<((cY f room).arcs.length:Nat):=Om;have V:=wZz k;have U:k<(eZ f room).length:=hlt;have μ:k<Z' xs:=Om;have γ:=mF hlt;have ι:cD (cY f room) k=(eZ f room)[k]:=(pE hlt).symm;rw[ι]at γ;have κ:=bgD U;obtain⟨z1,z2,z3⟩:=hn.ends _ (bgD hlt);have z1:((eZ f room)[k]).src<(cY f room).nodes:=z1;have z2:((eZ f room)[k]).dst<(cY f room).nodes:=z2;have τ:bG f 0≤(cY f room).nodes:=by show bG f 0≤bG f f.beK.length;unfold bG;omega
  have W:=K5 (f:=f) (l:=eZ f room) (xs:=xs) Y U;have A:=aaV (f:=f) (l:=eZ f room) (xs:=xs) Y U;have δ:=arK hV (room:=room) κ;generalize(eZ f room)[k]=a at *
  simp only[go_sem,J,zn,γ];refine hH.yW λq H1 h1=>?_;have q1:=h1.rP;have O:=h1.xR (.rows 4 [a.cells]);simp only[go_sem,q1];generalize H1.set q (.rows 4 [[.int .i64 a.src,.int .i64 a.dst,.int .i64 a.cap,.int .i64 0]])=H2 at *
  have E:H2 q=some (.rows 4 [a.cells]):=O.rP;have N:H2 e=some (jJ f):=O.at 1 rfl;have β:H2 I=some (.rows 1 (eI ps)):=O.at 0 rfl;have S:(a.dst<bG f 0∨xs.getD k 0=0)→fZ (λs:Nat × WPs × PH=>plF f (cY f room) xs e I s.1) (λs=>s.2.2) (λs=>s.1≤(cY f room).arcs.length∧wls s.2.1=pO f (eZ f room) xs s.1∧aO s.2.2 [(I,.rows 1 (eI s.2.1)),(e,jJ f)] (jW s.2.1)) (λs=>(cY f room).arcs.length-s.1) ((cY f room).arcs.length-k) K .normal (plF f (cY f room) xs e I (k+1)) H2:=λh=>
   aG (k+1,ps,H2) ⟨hlt,by rw[W h];exact j,aO.dropLast (B:=[(I,.rows 1 (eI ps)),(e,jJ f)]) O⟩ (by simp only;omega) (λ_ _ h=>h) b_
  refine bA (PH.nil.set q (.rows 4 [a.cells])) (IQ f [] (λ_ _=>True)) (e_ a_ E) ?_;by_cases c1:a.dst<bG f 0
  ·have M:(a.dst:Int)<((bG f 0:Nat):Int):=Om;simp only[go_sem,SO,N];refine IU Lb.torM hs (i:=0) aV rfl (e_ a_ E) ?_;simp only[go_sem,M,FU,V];exact Up.up (by unfold plF;exact Lq) (S (.inl c1))
  ·have M:¬(a.dst:Int)<((bG f 0:Nat):Int):=Om;simp only[go_sem,SO,N];refine IU Lb.torM hs (i:=0) aV rfl (e_ a_ E) ?_;have θ:=lG μ;by_cases c2:xs.getD k 0=0
   ·simp only[go_sem,M,θ,bT (Om:((xs.getD k 0:Nat):Int)=0),FU,V];exact Up.up (by unfold plF;exact Lq) (S (.inr c2))
   ·obtain⟨v,d,hv,hd,rfl⟩:=δ Om;have X:=Ej hV (v:=v) hd;have A:=A Om c2 (by rw[X];exact hv);rw[X]at A;have σ:=a3N hV (v:=v) hd;have υ:=tc hV hd;have φ:=hs.beN;have χ:=hs.beM;have w1:IntKind.i64.wrap (((fD f v d).src:Int)-2)=(((fD f v d).src-2:Nat):Int):=by rw[wrap_i64 Om Om];omega
    have w2:IntKind.i64.wrap ((((fD f v d).src-2:Nat):Int)-(Z' f.beM:Nat))=(((fD f v d).src-2-Z' f.beM:Nat):Int):=by rw[wrap_i64 Om Om];omega
    have w3:IntKind.i64.wrap ((Z' f.beN:Int)-1)=((Z' f.beN-1:Nat):Int):=by rw[wrap_i64 Om Om];omega
    have w4:¬((Z' f.beN-1:Nat):Int)=0:=Om;have w5:Int.tdiv (((fD f v d).src-2-Z' f.beM:Nat):Int) ((Z' f.beN-1:Nat):Int)=((v:Nat):Int):=by exact(Int.ofNat_tdiv _ _).symm.trans (congrArg (λx:Nat=>(x:Int)) X)
    have w6:IntKind.i64.wrap ((v:Nat):Int)=((v:Nat):Int):=wrap_i64 Om Om;have w7:IntKind.i64.wrap (((fD f v d).dst:Int)-((bG f 0:Nat):Int))=(d:Int):=by
     have:(fD f v d).dst=bG f 0+d:=by simp only[fD,bG];omega
     rw[wrap_i64 Om Om,this];omega
    simp only[go_sem,M,θ,bD (Om:¬((xs.getD k 0:Nat):Int)=0),zo,E,N,w1,w2,w3,w4,w5,w6];have ζ:v<Z' ps:=Om;obtain⟨u,w,R⟩:∃u w,ps[v]?=some (u,w):=⟨(ps[v]).1,(ps[v]).2,bgH ζ⟩;have η:(wls ps).getD v []=w:=kh R;have ε:(v:Int)<(Z' f.beM:Nat):=Om;have ο:¬I=q:=O.ne 0 2 rfl rfl aV;obtain⟨Hs,s1,s2,Z⟩:=Af (x:=.rows 1 (eI ps)) (y:=.rows 4 [(fD f v d).cells]) ο;refine bA Hs (IQ f [] (λ_ _=>True)) (Z _ β E) ?_;simp only[go_sem,zp,N,ε,s1,s2,bgL,zH R];refine IU Lb.torM hs (i:=0) aV rfl (Z _ β E) ?_;simp only[go_sem,w7];have ω:Z' w≤k:=by
     have h9:w=(pO f (eZ f room) xs k).getD v []:=by rw[←j,η]
     rw[h9];unfold pO;rw[bgF,bgT,biH hv];exact biJ (wm f v _ _) (by rw[bgP];omega)
    refine O.append v (IB R) (src:=bS [(d:Int)]) rfl (by unfold roomFor;rw[gV,gV];simp only[bgI,maxLen];omega) λu' H3 h3 hu=>?_;obtain⟨q',rfl⟩:=hu (by simp[bS]);rw[←JF]at h3 ⊢;refine⟨Z _ (h3.at 0 rfl) (h3.at 2 rfl),?_⟩;simp only[go_sem,ε];refine bA .nil cK a_ ?_;have e3:=h3.at 0 rfl;have ν:v<(eI ps).length:=by rw[EN];exact ζ
    simp only[go_sem,zq,e3,bgL,zH R,ν];refine⟨a_,?_⟩;simp only[go_sem,FU,V];have h4:=h3.set 0 rfl (.rows 1 ((eI ps).set v [.osl q' 1 0 (bS (w++[(d:Int)])).length]));generalize ψ:PV.osl q' 1 0 (bS (w++[(d:Int)])).length=u' at *
    refine aG (k+1,ps.set v (u',w++[(d:Int)]),_) ⟨hlt,?_,?_⟩ (by simp only;omega) Lq b_
    ·simp only;rw[ki,←A,j,←η,j];have:((fD f v d).dst-bG f 0:Nat)=d:=by simp only[fD,bG];omega
     rw[this]
    ·simp only;have e5:eI (ps.set v (u',w++[(d:Int)]))=(eI ps).set v [u']:=List.map_set ..;have e6:jW (ps.set v (u',w++[(d:Int)]))=(jW ps).set v (u',1,bS (w++[(d:Int)])):=List.map_set ..;rw[e5,e6];exact aO.dropLast (B:=[(I,.rows 1 ((eI ps).set v [u'])),(e,jJ f)]) h4
 ·have J:¬(k:Int)<((cY f room).arcs.length:Nat):=Om;have:k=(cY f room).arcs.length:=Om;subst this;simp only[go_sem,J];have O:=hH.a5D;rw[EN,ξ]at O;refine Up.up Lq (hK ps H0 O ?_);rw[j];exact aaU Y
theorem RE{res:List fL}{f:aD}{room:List Int}{ws:List (List Int)}{c:Int}{e:oW}{F:PF}{H:PH}(j:CD f room ws c)(h:aW res (cT (.tup [lists ws,.int .i64 c])) e F H):aW res (yg f room) e F H:=
 Pg (λr H' l=>⟨ws,c,j,l⟩) h
theorem WF{f:aD}(hV:VF f){room:List Int}{xs:List Nat}{S:Nat→Bool}(u:jY (cY f room) xs)(e:kT (cY f room) xs=eH S (cY f room).arcs)(j:S (cY f room).source=true)(l:S (cY f room).sink=false):¬kT (cY f room) xs<(rO f:Int)↔EX f room:=by
 rw[Int.not_lt];exact J0 hV u j l e
theorem J1{f:aD}(hV:VF f){room:List Int}{xs:List Nat}(e:jY (cY f room) xs)(h:¬kT (cY f room) xs<(rO f:Int)):∃u,AI f room u∧FC f (eZ f room) xs=zF f u:=by
 obtain⟨s,g,j,t,rfl⟩:=zf f room e.len;exact⟨pZ f j,Wx hV e (Int.not_lt.1 h),aUL hV room s g j t⟩
theorem aMR{C:Ctx}(x:ZG C)(f:aD)(hf:f.Ok)(room:List Int) :
  MZ.wp C (aW Xp.res (yg f room)) (PF.args [.agg f.cells,ints room]) .nil:=by
 simp only[go_sem,MZ,J4,Xp,J5];refine aB (x.net f room hf) rfl ?_;simp only[go_sem,BC];refine aQ λq hq=>?_;have R:aO (PH.nil.set q iW) [(q,iW)] []:=aO.nil.new hq iW;generalize(PH.nil.set q iW)=Y at *
 have q1:=R.at 0 rfl;have l:=R.set 0 rfl (tK (CQ f room));simp only[go_sem,q1];generalize Y.set q (.rows 4 [(CQ f room).cells])=H2 at *
 have X:=l.at 0 rfl;cases e:dU f with
 |false =>simp only[go_sem,ap,CP e,J6];refine RE (ws:=[]) (c:=1) (.inl ⟨e,rfl,rfl⟩) ?_;exact EO (.inr rfl) rfl (aO.Uy (l.yN 0))
 |true=>
  have hV:=VF.of e;have W:=hV.small;have hn:=EL hV room;have E:(Z' f.beM:Int)*((24:Nat):Int)≤140737488355328:=by have:=W.beM;omega
  have F:(Z' f.beM:Int)≤9223372036854775807:=by have:=W.beM;omega
  have I:(0:Int)≤(Z' f.beM:Int):=Om;rw[CR e]at X l;simp only[go_sem,ap,rK e,J7,X];refine eR (x.solve _ hn) rfl a_ ?_;rintro r H' ⟨xs,S,y,w,A,B,rfl,rfl⟩ -;rw[PH.nZ];have J:=WF hV y w A B;simp only[go_sem,J8];refine aB (x.demand f hV) rfl ?_;by_cases hlt:kT (cY f room) xs<((rO f:Nat):Int)
  ·simp only[go_sem,hlt,J9];refine RE (ws:=[]) (c:=12) (.inr (.inr ⟨e,λh=>J.2 h hlt,rfl,rfl⟩)) ?_;exact EO (.inr rfl) rfl (aO.Uy (l.yN 0))
  ·obtain⟨u,hA,K⟩:=J1 hV y hlt;simp only[go_sem,hlt,Ka,bfY];refine l.yW λj Z U=>?_;have g3:=U.at 1 rfl;have h4:=U.set 1 rfl (jJ f);simp only[go_sem,g3];generalize Z.set j (.rows 2 [[.int .i64 (Z' f.beM:Nat),.int .i64 (Z' f.beN:Nat)]])=H4 at *
   simp only[go_sem,Kb,bfY,E,F,I,Int.le_refl,biR];refine aQ λN M=>?_;have h5:=h4.new M (.rows 1 (bgA f.beM.length [.aH]));generalize H4.set N (.rows 1 (bgA f.beM.length [.aH]))=O at *
   have V:aO O [(N,.rows 1 (bgA f.beM.length [.aH])),(j,jJ f),(q,tK (cY f room))] []:=by refine h5.perm ?_ (biT.refl _);exact(List.reverse_perm _).symm
   have q5:=V.at 2 rfl;have eo:eI (bgA f.beM.length ((.aH,[]):PV × List Int))=bgA f.beM.length [.aH]:=by unfold eI;rw[List.map_replicate]
   simp only[go_sem,Kc,q5];refine aqG x f hV room xs y.in j N (H:=O) (by rw[eo];exact(V.yN 2).aZM _) (by unfold plF;(repeat' (first|exact c_|refine d_ ?_ ?_))<;>first|(simp only[go_sem,bfY]<;>rfl)|rfl) λps H6 h7 hw=>?_;simp only[go_sem,zr];refine RE (ws:=wls ps) (c:=0) (.inr (.inl ⟨e,⟨u,hA,by rw[hw,K]⟩,rfl⟩)) ?_;exact EO (.inr rfl) rfl (h7.yN 0)
theorem aO.aHD:∀(L:List LI){H:PH}{B:List BX},aO H B L→(∀x∈L,Flat x.2.2)→(∀b∈B,∀q s rs,cI.frz q s rs b.2=b.2) →
  ∃(φ:PV→PV)(y:PH),(∀x∈L,Seen x.2.1 (φ x.1) x.2.2)∧(∀u,u.oid=none→φ u=u)∧aO y B []∧∀cs (b:Bool) R,uH (.tup [.agg (cs.map φ),.bool b]) y R→uH (.tup [.agg cs,.bool b]) H R
 |[],H,B,h,_,_=>⟨id,H,by simp,λ_ _=>rfl,h,λcs b R F=>by rwa[List.map_id]at F⟩
 |(w,s,rows)::L,H,B,h,E,hB=>by
  have l:∀q z rs,(L.map λx=>(x.1,x.2.1,x.2.2.map λr=>r.map (PV.dM q z rs)))=L:=λq z rs=>by
   conv=>rhs;rw[←List.map_id L]
   refine biI λx hx=>?_;rw[E x (by simp[hx]) q z rs];rfl
  rcases h.own 0 rfl with⟨A,O⟩|⟨q,rs,A,_⟩
  ·obtain⟨φ,y,k1,k2,I,J⟩:=aO.aHD L (h.za 0) (λx hx=>E x (by simp[hx])) hB;refine⟨φ,y,λx hx=>?_,k2,I,J⟩;rw[bgN]at hx;rcases hx with rfl|hx
   ·exact .inl ⟨A,by simp only;rw[O];exact k2 _ rfl⟩
   ·exact k1 x hx
  ·subst A;obtain⟨rs,U,V,Y,W,M⟩:=h.frz 0 rfl;have X:aO (H.frz q s rs) B L:=by
    have N:(B.map λb=>(b.1,b.2.frz q s rs))=B:=by
     conv=>rhs;rw[←List.map_id B]
     refine biI λb hb=>?_;rw[hB b hb q s rs];rfl
    rw[N]at M;have:=M;simp only[List.eraseIdx_cons_zero]at this
    rwa[l q s rs]at this
   obtain⟨φ,y,k1,k2,I,J⟩:=aO.aHD L X (λx hx=>E x (by simp[hx])) hB;refine⟨λu=>φ (PV.dM q s rs u),y,λx hx=>?_,λu K=>?_,I,λcs b R F=>?_⟩
   ·rw[bgN]at hx;rcases hx with rfl|hx
    ·simp only;rw[V];exact .inr (k2 _ rfl)
    ·obtain⟨j,S⟩:=List.mem_iff_getElem?.1 hx;have:=W (j+1) x Om (by simpa using S);simp only;rw[this];exact k1 x hx
   ·simp only;rw[SQ K,k2 u K]
   ·refine .step U ?_;have e:PV.frz q s rs (.tup [.agg cs,.bool b])=.tup [.agg (cs.map (PV.dM q s rs)),.bool b]:=rfl;rw[e];refine J _ b R ?_;rw[bjF];exact F
def uY(e:List (List PV))(ws:List (List Bool)):Prop:=Z' e=Z' ws∧∀(i:Nat) r w,e[i]?=some r→ws[i]?=some w→r=[lL w]∨(r=[.aH]∧w=[])
theorem uY.nil:uY [] []:=⟨rfl,λi r w h=>by cases h⟩
theorem uY.snoc{l:List (List PV)}{ws:List (List Bool)}{u:PV}{w:List Bool}(h:uY l ws)(y:u=lL w∨(u=.aH∧w=[])):uY (l++[[u]]) (ws++[w]):=by
 refine⟨by simp[h.1],λi r x e j=>?_⟩;rcases Nat.lt_trichotomy i l.length with c|c|c
 ·rw[biA c]at e;rw[biA (by rw[←h.1];exact c)]at j;exact h.2 i r x e j
 ·subst c;rw[biB (bgG _),Nat.sub_self]at e;rw[h.1,biB (bgG _),Nat.sub_self]at j;cases e;cases j;rcases y with rfl|⟨rfl,rfl⟩
  ·exact .inl rfl
  ·exact .inr ⟨rfl,rfl⟩
 ·rw[biB Om,bhQ (by simp;omega)]at e;cases e
theorem uY.flat{j:List (List PV)}{ws:List (List Bool)}(h:uY j ws):Flat j:=Flat.of λr u c e q s rs=>by
 obtain⟨i,hi⟩:=List.mem_iff_getElem?.1 u;have l:=(bhG.1 hi).1;rcases h.2 i r _ hi (bgH (by rw[←h.1];exact l))with rfl|⟨rfl,-⟩
 ·rw[bhI]at e;subst e;rfl
 ·rw[bhI]at e;subst e;rfl
abbrev yr(ws:List (List Bool)):PV:=.sl 1 (ws.map λw=>[lL w])
theorem uY.co{y:List (List PV)}{ws:List (List Bool)}(h:uY y ws):Co (.sl 1 y) (yr ws):=by
 have x:∀(i:Nat) r t,y[i]?=some r→(ws.map λw=>[lL w])[i]?=some t→∃w,t=[lL w]∧(r=[lL w]∨(r=[.aH]∧w=[])):=λi r t u e=>by
  rw[bgT]at e;cases B:ws[i]? with
  |none=>rw[B]at e;cases e
  |some w =>rw[B]at e;cases e;exact⟨w,rfl,h.2 i r w u B⟩
 refine .sl (by rw[bfY,h.1]) (λi r t u e=>?_) (λi j p q l hq=>?_)
 ·obtain⟨w,rfl,A|⟨A,-⟩⟩:=x i r t u e<;>subst A<;>rfl
 ·unfold at2 at l hq;cases u:y[i]? with
  |none=>rw[u]at l;cases l
  |some r=>
   cases e:(ws.map λw=>[lL w])[i]? with
   |none=>rw[e]at hq;cases hq
   |some t=>
    rw[u]at l;rw[e]at hq;obtain⟨w,rfl,A⟩:=x i r t u e;rcases A with rfl|⟨rfl,rfl⟩
    ·have:some p=some q:=l.symm.trans hq;cases this;exact .refl _
    ·cases j with
     |zero=>cases l;cases hq;exact .nil 1
     |succ j=>cases l
abbrev fV.cells(c:fV):List PV:=[lL c.vols,yr c.beU,lL c.bfE]
theorem RV(l:List Bool):Flat (bK l):=Flat.map l λx c e q s rs=>by rw[bhI]at e;subst e;rfl
theorem aiH{res:List fL}{F:PF}{H:PH}{y u w:PV}{V R:List Bool}{A:List (List PV)}{ws:List (List Bool)}{b:Bool}{e:oW}(he:e=.normal∨e=.ret)(h:fL.evs F H res=some [.agg [y,u,w],.bool b])
  (B:uY A ws) (N:aO H [] [(y,1,bK V),(u,1,A),(w,1,bK R)]):aW res (cT (.tup [.agg (fV.cells ⟨V,ws,R⟩),.bool b])) e F H:=by
 obtain⟨φ,S,k1,-,-,O⟩:=aO.aHD _ N (λx I=>by
  simp only[bgN,bgZ,or_false]at I;rcases I with rfl|rfl|rfl
  ·exact RV V
  ·exact B.flat
  ·exact RV R) (λb hb=>by cases hb)
 refine pU he h ?_;refine O [y,u,w] b _ (.done (H2:=.nil) ⟨?_,rfl⟩ a_);have J:=(k1 (y,1,bK V) aY).co;have K:Co (φ u) (yr ws):=by
  rcases k1 (u,1,A) aY with⟨E,h2⟩|h2
  ·simp only at E h2;rw[h2];have:ws=[]:=List.length_eq_zero_iff.1 (by rw[←B.1,E];rfl);subst this;exact .nil 1
  ·simp only at h2;rw[h2];exact B.co
 have M:=(k1 (w,1,bK R) aY).co;refine .tup rfl λj p q l hq=>?_
 match j with
 |0=>
  cases l;cases hq;refine .agg rfl λj p q l hq=>?_
  match j with
  |0=>cases l;cases hq;exact J
  |1=>cases l;cases hq;exact K
  |2=>cases l;cases hq;exact M
  |j+3=>cases l
 |1=>cases l;cases hq;exact .refl _
 |j+2=>cases l
def V2:fV:=⟨[],[],[]⟩
def yo(f:aD)(room:List Int)(c:fV)(b:Bool):Prop:=
 (dU f=false∧c=V2∧b=false)∨(dU f=true∧EX f room∧c=V2∧b=false)∨(dU f=true∧¬EX f room∧wB f room c=true∧b=true)
def aSG(f:aD)(room:List Int)(r:PV)(H:PH):Prop:=∃c b,yo f room c b∧cT (.tup [.agg c.cells,.bool b]) r H
def aSF(f:aD)(room:List Int)(r:PV)(H:PH):Prop:=∃c b,yo f room c b∧r=.tup [.agg c.cells,.bool b]∧H=PH.nil
theorem aI.why{C:Ctx}{name:Nat}{args:List PV}{f:aD}{room:List Int}(h:aI C name args .nil (aSG f room)):aI C name args .nil (aSF f room):=
 h.post λr H' ⟨ws,c,e,j,l⟩=>⟨_,j,ws,c,e,rfl,l⟩
theorem aYR{res:List fL}{f:aD}{room:List Int}{c:fV}{b:Bool}{e:oW}{F:PF}{H:PH}(j:yo f room c b)(h:aW res (cT (.tup [.agg c.cells,.bool b])) e F H):aW res (aSG f room) e F H:=
 Pg (λr H' l=>⟨c,b,j,l⟩) h
abbrev lD(l e j:PV):cI:=.rows 3 [[l,e,j]]
def MX(f:aD)(S:Nat→Bool)(k:Nat):List Bool:=(bfZ k).map λv=>S (cR f v 0)
def AP(f:aD)(S:Nat→Bool)(v k:Nat):List Bool:=(bfZ k).map λi=>S (cR f v (i+1))
def jc(f:aD)(S:Nat→Bool)(k:Nat):List (List Bool):=(bfZ k).map λv=>AP f S v (Z' f.beN-1)
def ZV(f:aD)(S:Nat→Bool)(k:Nat):List Bool:=(bfZ k).map λd=>S (bG f d)
theorem xG{α:Type}(g:Nat→α)(k:Nat):(bfZ (k+1)).map g=(bfZ k).map g++[g k]:=by rw[biO,bhM];rfl
theorem RW(l:List Bool)(b:Bool):bK l++[[.bool b]]=bK (l++[b]):=by simp[bK]
theorem aSS(f:aD)(S:Nat→Bool):DH f S=⟨MX f S f.beM.length,jc f S f.beM.length,ZV f S f.beK.length⟩:=rfl
theorem wt{S:Nat→Bool}{N i:Nat}(h:i<N):(bK ((bfZ N).map S))[i]?=some [.bool (S i)]:=by
 rw[fI (by simp[h])];rw[bgF,bgT,biH h];rfl
def ym(v:PV):Prop:=∀(E e:Env)(u:Value),bF E v u→bF e v u
theorem ym.pair(n:Int)(b:Bool):ym (.tup [.int .i64 n,.bool b]):=λE y u h=>by
 cases h with
 |tup vs l w=>
  refine .tup vs l λj p v e x=>?_;have:=w j p v e x
  match j with
  |0=>cases e;cases this;exact .int _ _
  |1=>cases e;cases this;exact .bool _
  |j+2=>cases e
theorem aI.aZI{C:Ctx}{name o s:Nat}{rs:List (List PV)}{args:List PV}{v:PV}(V:ym v)(h:aI C name (args.map (PV.frz o s rs)) .nil (aK v)) :
  aI C name args (PH.nil.set o (.rows s rs)) (λr H'=>r=v∧H'=PH.nil.set o (.rows s rs)):=by
 refine⟨h.1,λE w vs M hW F=>?_⟩;have W:mP (PF.args args) (PH.nil.set o (.rows s rs)) _ _:=.step o (s:=s) (rs:=rs) (by simp only[aR,if_true]) (.refl _ _);obtain⟨J,k1,k2,X⟩:=W.sound hW;rw[G5]at k1 k2;have B:=F.len;have I:iH J (args.map (PV.frz o s rs)) vs.toList:=by
  refine iH.of _ _ (by rw[bfY];exact B) λi p u R U=>?_;have:=X (λi=>(vs.toList[i]?).getD undef) (λj q K=>by have O:=(bhG.1 K).1;have A:j<Z' vs.toList:=Om;simp only[bgH A,biE];exact F.at_ j q _ K (bgH A)) i p (by rw[tT,args_at,←bgT];exact R)
  simp only[U,biE]at this;exact this
 refine(h.2 J w vs (k2.env.num.trans M) k1 I).mono λe Y he=>?_;obtain⟨u,pv,Z,H2,rfl,N,S,y,rfl,rfl⟩:=he;have l:∀b,b<w.heap.size→Y.heap[b]?=w.heap[b]?:=λb hb=>y.block b hb rfl;exact⟨u,pv,E,_,rfl,hW.same y.size (λb hb _=>l b hb) (λq x hq=>l q (hW.h q x hq).1),V _ _ _ S,⟨.refl E,y.os,y.tape,y.output,y.size,λb hb _=>l b hb,λq x hq=>.inl ⟨x,hq⟩,λb cs hb=>.inl hb⟩,rfl,rfl⟩
def a5E(name:Nat)(v:PV):Spec:=λe vs=>if e=name then match vs with
 |[_,.osl o _ _ _]=>some ([o],λG r H'=>r=v∧H'=G)
 |_=>none
 else none
def tO(f:aD)(room:List Int)(c:fV):Bool:=dU f&&wB f room c
def Dd(f:aD)(c:fV)(k:Nat):Prop:=∀r∈c.beU.take k,Z' r=Z' f.beN-1
theorem aPS{f:aD}{c:fV}{k:Nat}(h:Dd f c k):(c.beU.take k).flatten.length≤k*(Z' f.beN-1):=by
 rw[ED h];exact bhF _ (by rw[bgP];omega)
theorem aiY{f:aD}{c:fV}{k:Nat}(e:k<Z' c.beU)(h:c.beU[k].length≠Z' f.beN-1):c.shape f=false:=by
 cases j:c.shape f with
 |false=>rfl
 |true=>exact absurd ((EP.1 j).r _ (bgD e)) h
def aSM(f:aD)(c:fV)(o7:Nat)(v:PV)(k:Nat):PF:=(((((((PF.nil.set 3 (.bE f.cells)).set 5 (.bE c.cells)).set 7 (.ptr o7 4 0 0)).set 9 (v)).set 54 (yr c.beU)).set 55 (.int .i64 (Z' c.beU:Nat))).set 56 (.int .i64 (k:Nat)))
theorem a0O{C:Ctx}(Lb:ZG C)(I:∀(n:cN)(cut:List Bool),fM n→i5 n cut→aI C 293 [.agg n.cells,lL cut] .nil (aK (.tup [.int .i64 ((eH (λw=>cut.getD w false) n.arcs:Nat):Int),.bool true])))
  (f:aD) (hf:f.Ok) (room:List Int) (c:fV) (hc:Z' c.vols≤1000000∧Z' c.beU≤1000000∧Z' c.bfE≤1000000) :
  ac.wp C (aW aTF.res (aK (.bool (tO f room c)))) (PF.args [.agg f.cells,ints room,.agg c.cells]) .nil:=by
 have B:tO f room c=(dU f&&(c.shape f&&decide (eH (xW c) (eZ f room)<rO f))):=rfl;obtain⟨δ,ε,ζ⟩:=hc;simp only[go_sem,ac,asM,aTF,asN];refine aB (Lb.net f room hf) rfl ?_;simp only[go_sem,BC];refine aQ λq hq=>?_;have h1:aO (PH.nil.set q iW) [(q,iW)] []:=aO.nil.new hq iW;generalize(PH.nil.set q iW)=H1 at *
 have q1:=h1.at 0 rfl;have h2:=h1.set 0 rfl (tK (CQ f room));simp only[go_sem,q1];generalize H1.set q (.rows 4 [(CQ f room).cells])=H2 at *
 cases A:dU f with
 |false =>simp only[go_sem,HT,CP A,QQ];exact mJ (b:=false) rfl (by rw[B,A];rfl)
 |true=>
  have hV:=VF.of A;have hs:=hV.small;have hr:=hV.root;have θ:=hs.beN;have ι:=hs.beK;have κ:=hs.beM;have hn:=EL hV room;rw[CR A]at h2;rw[A,bgO]at B;by_cases c1:Z' c.vols=Z' f.beM
  ·by_cases c2:Z' c.beU=Z' f.beM
   ·by_cases c3:Z' c.bfE=Z' f.beK
    ·simp only[go_sem,HT,rK A,fV.cells,bfY,bR (Om:(Z' c.vols:Int)=(Z' f.beM:Nat)),bR (Om:(Z' c.beU:Int)=(Z' f.beM:Nat)),bR (Om:(Z' c.bfE:Int)=(Z' f.beK:Nat)),asO];refine aQ λo ho=>?_;have h3:=h2.Ib (s:=1) (rows:=[[.bool true],[.bool false]]) ho;generalize H2.set o (.rows 1 [[.bool true],[.bool false]])=H3 at *
     simp only[go_sem];refine h3.append 0 (src:=bK c.vols) rfl rfl (by unfold roomFor;rw[jZ];simp only[bhT,biM,maxLen];omega) λv4 H4 h4 _=>?_;simp only[go_sem,asP,bfY];refine wp_loop (α:=Nat × PV × PH) (λs=>aSM f c q s.2.1 s.1) (λs=>s.2.2) (λs=>s.1≤Z' c.beU∧Dd f c s.1∧aO s.2.2 [(q,tK (cY f room))] [(s.2.1,1,bK (true::false::(c.vols++(c.beU.take s.1).flatten)))]) (λs=>Z' c.beU-s.1) (0,v4,H4) ⟨bgE _,λr h=>by simp at h,by simpa using h4⟩ (by unfold aSM;(repeat' (first|exact c_|refine d_ ?_ ?_))<;>first|(simp only[go_sem,bfY,fV.cells]<;>rfl)|rfl) b_ ?_;rintro⟨k,v,H5⟩ ⟨hk,y,F⟩;simp only at hk y F;have Y:=aPS y;have η:k*(Z' f.beN-1)≤12*40:=bjL Om Om;simp only[go_sem,Wj,asQ,aSM];by_cases hlt:k<Z' c.beU
     ·have l:(k:Int)<(Z' c.beU:Nat):=Om;have β:=wZz k;have W:(c.beU.map λw=>[lL w])[k]?=some [lL c.beU[k]]:=by simp[hlt]
      have hw:IntKind.i64.wrap ((Z' f.beN:Int)-1)=((Z' f.beN-1:Nat):Int):=by rw[wrap_i64 Om Om];omega
      have J:c.beU.take (k+1)=c.beU.take k++[c.beU[k]]:=bhW hlt;have γ:=aiY (f:=f) hlt;generalize c.beU[k]=row at *
      simp only[go_sem,l,asR,W,asS,bfY,hw];by_cases cr:Z' row=Z' f.beN-1
      ·simp only[go_sem,bR (Om:(Z' row:Int)=((Z' f.beN-1:Nat):Int)),Wk];refine F.append 0 (src:=bK row) rfl rfl (by unfold roomFor;rw[jZ,jZ];simp only[bhT,bgB,maxLen];omega) λv' H' S _=>?_;simp only[go_sem,Wl,β];refine aG (k+1,v',H') ⟨hlt,?_,?_⟩ (by simp only;omega) Lq b_
       ·intro r hr;simp only at hr;rw[J]at hr;rcases bhK.1 hr with hr|hr
        ·exact y r hr
        ·rw[bhI]at hr;subst hr;exact cr
       ·simp only;have O:bK (true::false::(c.vols++(c.beU.take (k+1)).flatten))=bK (true::false::(c.vols++(c.beU.take k).flatten))++bK row:=by rw[J];simp[bK]
        show aO H' _ [(v',1,bK (true::false::(c.vols++(c.beU.take (k+1)).flatten)))];rw[O];exact S
      ·simp only[go_sem,cP (Om:¬(Z' row:Int)=((Z' f.beN-1:Nat):Int)),asT];exact mJ (b:=false) rfl (by rw[B,γ cr];rfl)
     ·have l:¬(k:Int)<(Z' c.beU:Nat):=Om;have Z:k=Z' c.beU:=Om;subst Z;have e:Shape f c:=⟨c1,c2,c3,by have:=y;unfold Dd at this;rwa[bhA]at this⟩;rw[bhA]at F Y;have E:H5 q=some (tK (cY f room)):=F.at 0 rfl;have j:tP c=true::false::(c.vols++(c.beU.flatten++c.bfE)):=rfl;have U:i5 (cY f room) (tP c):=⟨aSR hV e,rfl,rfl⟩;have X:=I (cY f room) (tP c) hn U;simp only[go_sem,l];refine bA (PH.nil.set q (tK (cY f room))) (a5E 293 (.tup [.int .i64 ((eH (λw=>(tP c).getD w false) (cY f room).arcs:Nat):Int),.bool true])) (e_ a_ E) ?_;simp only[go_sem,Wm,E];refine F.append 0 (src:=bK c.bfE) rfl rfl (by unfold roomFor;rw[jZ,jZ];simp only[bhT,bgB,maxLen];omega) λv' H' S _=>?_;have O:bK (true::false::(c.vols++c.beU.flatten))++bK c.bfE=bK (tP c):=by rw[j];simp[bK]
      have u:aO H' [(q,tK (cY f room))] [(v',1,bK (tP c))]:=by rw[←O];exact S
      obtain⟨p,rfl⟩:=(u.own 0 rfl).one (by rw[jZ,j];simp);obtain⟨rs,r1,r2,r3,r4⟩:=(u.own 0 rfl).id rfl;refine⟨e_ a_ (u.at 0 rfl),?_⟩;refine SA (o:=p) (x:=.rows 1 rs) (v:=.tup [.int .i64 ((eH (λw=>(tP c).getD w false) (cY f room).arcs:Nat):Int),.bool true]) (vs:=[.agg (cY f room).cells,.osl p 1 0 (bK (tP c)).length]) (R:=λG r H'=>r=(.tup [.int .i64 ((eH (λw=>(tP c).getD w false) (cY f room).arcs:Nat):Int),.bool true])∧H'=G) (by unfold a5E;rw[aL rfl]) r1 (aI.aZI (ym.pair _ _) ?_) ⟨rfl,rfl⟩ (λr H' h=>h) rfl (e_ a_ (u.at 0 rfl)) ?_
      ·have e3:([.agg (cY f room).cells,.osl p 1 0 (bK (tP c)).length]:List PV).map (PV.frz p 1 rs)=[.agg (cY f room).cells,lL (tP c)]:=by show[PV.agg _,PV.frz p 1 rs (.osl p 1 0 (bK (tP c)).length)]=_;rw[zV r3,r4];rfl
       rw[e3];exact X
      ·rw[EP.2 e,bgO]at B;have V:tO f room c=decide (((eH (λw=>(tP c).getD w false) (cY f room).arcs:Nat):Int)<((rO f:Nat):Int)):=by rw[B];exact decide_eq_decide.2 ⟨λh=>Int.ofNat_lt.2 h,λh=>Int.ofNat_lt.1 h⟩
       generalize eH (λw=>(tP c).getD w false) (cY f room).arcs=cp at *
       simp only[go_sem,Wn];refine aB (Lb.demand f hV) rfl ?_;simp only[go_sem];exact mJ rfl V.symm
    ·have N:¬(Z' c.bfE:Int)=(Z' f.beK:Nat):=Om;simp only[go_sem,HT,rK A,fV.cells,bfY,bR (Om:(Z' c.vols:Int)=(Z' f.beM:Nat)),bR (Om:(Z' c.beU:Int)=(Z' f.beM:Nat)),cP N,QQ];exact mJ (b:=false) rfl (by rw[B,fV.shape,bV c3];simp)
   ·have M:¬(Z' c.beU:Int)=(Z' f.beM:Nat):=Om;simp only[go_sem,HT,rK A,fV.cells,bfY,bR (Om:(Z' c.vols:Int)=(Z' f.beM:Nat)),cP M,QQ];exact mJ (b:=false) rfl (by rw[B,fV.shape,bV c2];simp)
  ·have K:¬(Z' c.vols:Int)=(Z' f.beM:Nat):=Om;simp only[go_sem,HT,rK A,fV.cells,bfY,cP K,QQ];exact mJ (b:=false) rfl (by rw[B,fV.shape,bV c1];simp)
theorem Dn:Z' iU.beM=1∧Z' iU.beK=1:=by decide +kernel
theorem aJU:yS iU [[0]]:=⟨by decide +kernel,by decide +kernel,by decide +kernel⟩
theorem Dl:EX iU []:=(aTI oE).2 ⟨_,aJU,aqV⟩
theorem Dm:¬EX iU [0]:=by
 rintro⟨u,A⟩;obtain⟨j,l⟩:=Dn;have e:(0:Nat)<Z' iU.beM:=Om;have w:(0:Nat)<Z' iU.beK:=Om;have a1:=A.num 0 e;have a2:=A.room 0 w;have a3:=(oI (VF.of oE) e).2.1;have a4:VU iU [0] 0=0:=by decide +kernel
 rw[l]at a1;rw[j,a4]at a2;have x:jH (u 0) 1=one (u 0 0):=by simp[jH,dO]
 have y:jH (λv=>u v 0) 1=one (u 0 0):=by simp[jH,dO]
 omega
theorem aQJ{u:Nat→Nat→Bool}(A:AI iU [] u):zF iU u=[[0]]:=by
 obtain⟨w,e⟩:=Dn;have j:(0:Nat)<Z' iU.beM:=Om;have a1:=A.num 0 j;have a3:=(oI (VF.of oE) j).2.1;rw[e]at a1;have l:jH (u 0) 1=one (u 0 0):=by simp[jH,dO]
 have x:u 0 0=true:=by
  cases h:u 0 0 with
  |true=>rfl
  |false=>rw[l,h,DP]at a1;omega
 unfold zF tW;rw[w,e];simp[x,aeC,biO]
theorem aqW{ws:List (List Int)}{c:Int}(h:CD iU [] ws c):ws=[[0]]∧c=0:=by
 rcases h with⟨h,-⟩|⟨-,⟨u,A,rfl⟩,rfl⟩|⟨-,h,-⟩
 ·rw[oE]at h;cases h
 ·exact⟨aQJ A,rfl⟩
 ·exact absurd Dl h
theorem aJV{ws:List (List Int)}{c:Int}(h:CD iU [0] ws c):ws=[]∧c=12:=by
 rcases h with⟨h,-⟩|⟨-,⟨u,A,-⟩,-⟩|⟨-,-,h⟩
 ·rw[oE]at h;cases h
 ·exact absurd ⟨u,A⟩ Dm
 ·exact h
def sZ(c:fV):Prop:=Z' c.vols≤1000000∧Z' c.beU≤1000000∧Z' c.bfE≤1000000
theorem sZ.of{f:aD}(hV:VF f){c:fV}(h:Shape f c):sZ c:=by
 have e:=h.v;have j:=h.i;have l:=h.d;have u:=hV.small.beM;have h5:=hV.small.beK;unfold sZ;omega
theorem kp{f:aD}{room:List Int}{c:fV}(h:wB f room c=true):Shape f c:=by
 unfold wB at h;rw[bgU]at h;exact EP.1 h.1
theorem aQK{c:fV}{b:Bool}(h:yo iU [0] c b):b=true∧wB iU [0] c=true∧wB iU [] c=false∧sZ c:=by
 have hV:=VF.of oE;rcases h with⟨h,-⟩|⟨-,h,-⟩|⟨-,-,h,rfl⟩
 ·rw[oE]at h;cases h
 ·exact absurd h Dm
 ·refine⟨rfl,h,?_,.of hV (kp h)⟩;cases e:wB iU [] c with
  |false=>rfl
  |true=>exact absurd Dl (check_sound hV e)
structure aLK(C:Ctx):Prop where
 fleet:∀(l:List Nat),(∀x∈l,x<256)→Z' l≤9223372036854775807→∀beK beM:Nat,beK≤60→beM≤50 →
  aI C 27 [.sl 1 (pA l),.int .i64 beK,.int .i64 beM] .nil (aK (.agg (lO (l.take 400) beK beM 0).1.cells))
 place:∀(f:aD)(room:List Int),f.Ok→aI C 288 [.agg f.cells,ints room] .nil (yf f room)
 why:∀(f:aD)(room:List Int),f.Ok→aI C 289 [.agg f.cells,ints room] .nil (aSF f room)
 chk:∀(f:aD)(room:List Int)(c:fV),f.Ok→sZ c→aI C 290 [.agg f.cells,ints room,.agg c.cells] .nil (aK (.bool (tO f room c)))
theorem aRT{C:Ctx}(L:aLK C):PZ.wp C (aW apG.res (aK (.bool true))) (PF.args []) .nil:=by
 have h:=L.fleet [] (λx I=>by cases I) aV 1 0 aV aV;have J:=(L.place iU [] AA).args (args:=[.agg iU.cells,.aH]) (.KM (.refl _) (.KM (.nil 1) .aVR));have K:=L.place iU [0] AA;have M:=L.why iU [0] AA;simp only[go_sem,PZ,Te,Tf,apG];refine aB (h.args (.KM (.nil 1) (.KM (.refl _) (.KM (.refl _) .aVR)))) rfl ?_;simp only[go_sem];refine aQ λo V=>?_;simp only[go_sem,Tg,bgN,bgZ,or_false,forall_eq];show wpOps C ip _ _ (PH.nil.set o (.rows 7 [iU.cells]));have u:(PH.nil.set o (.rows 7 [iU.cells])) o=some (.rows 7 [iU.cells]):=by rw[cB]
 generalize U:(PH.nil.set o (.rows 7 [iU.cells]))=S at *
 have F:=AA;have w:=oE;have N:=λws c h=>aqW (ws:=ws) (c:=c) h;have O:=λws c h=>aJV (ws:=ws) (c:=c) h;have R:=λc b h=>aQK (c:=c) (b:=b) h;have B:=λc=>L.chk iU [0] c AA;have E:=λc (h:sZ c)=>(L.chk iU [] c AA h).args (args:=[.agg iU.cells,.aH,.agg c.cells]) (.KM (.refl _) (.KM (.nil 1) (.KM (.refl _) .aVR)));generalize iU=f at *
 simp only[go_sem,ip,u];refine eR J rfl a_ ?_;rintro r H' ⟨ws,c,A,rfl,rfl⟩ -;rw[PH.nZ];obtain⟨rfl,rfl⟩:=N _ _ A;simp only[go_sem,Th,u];refine eR K rfl a_ ?_;rintro r H' ⟨ws,c,A,rfl,rfl⟩ -;rw[PH.nZ];obtain⟨rfl,rfl⟩:=O _ _ A;simp only[go_sem,Ti,u];refine eR M rfl a_ ?_;rintro r H' ⟨ct,b,A,rfl,rfl⟩ -;rw[PH.nZ];obtain⟨rfl,g1,g2,g3⟩:=R _ _ A;have k1:=B ct g3;have k2:=E ct g3;rw[tO,w,bgO,g1]at k1;rw[tO,w,bgO,g2]at k2;simp only[go_sem];refine aQ λo2 y=>?_;have l:¬o=o2:=λe=>by rw[←e,u]at y;cases y
 have j:¬o2=o:=λe=>l e.symm;simp only[go_sem,Tj,u,l,j,bT (show(0:Int)=0 from rfl),bT (show(12:Int)=12 from rfl),bT (show((1:Nat):Int)=1 from rfl),bfY,bhT,biM];refine aB k1 rfl ?_;simp only[go_sem,u,l,j];refine aB k2 rfl ?_;simp only[go_sem];refine aU (.inr rfl) rfl ?_;rfl

theorem aOZ{f:aD}{room:List Int}{w A:List (List Int)}{j l:Int}(x:CD f room w j)(y:CD f room A l):j=l∧(j=0∨Z' w=0):=by
 rcases x with⟨a,rfl,rfl⟩|⟨a,⟨u,b,-⟩,rfl⟩|⟨a,b,rfl,rfl⟩<;>rcases y with⟨e,-,rfl⟩|⟨e,⟨u',b',-⟩,rfl⟩|⟨e,b',-,rfl⟩
 ·exact⟨rfl,.inr rfl⟩
 ·rw[a]at e;cases e
 ·rw[a]at e;cases e
 ·rw[a]at e;cases e
 ·exact⟨rfl,.inl rfl⟩
 ·exact absurd ⟨u,b⟩ b'
 ·rw[a]at e;cases e
 ·exact absurd ⟨u',b'⟩ b
 ·exact⟨rfl,.inr rfl⟩


structure aLL(C:Ctx):Prop where
 new:∀(l:List Nat),(∀x∈l,x<256)→Z' l≤9223372036854775807→aI C 28 [.sl 1 (pA l)] .nil (Gh l)
 tfleet:∀(l:List Nat)(v:PV),Tp l v→∀(o beK beM a:Nat),beK≤60→beM≤50→a≤Z' l →
  aI C 0 [.ptr o 2 0 0,.int .i64 beK,.int .i64 beM] (PH.nil.set o (bU v a)) (λr H=>r=.agg (lO l beK beM a).1.cells∧H=PH.nil.set o (bU v (lO l beK beM a).2))
 kc:∀(l:List Nat)(v:PV),Tp l v→∀(o a:Nat)(f:aD),Z' f.beK≤1000→a≤Z' l→aI C 6 [.ptr o 2 0 0,.agg f.cells] (PH.nil.set o (bU v a)) (λr H=>r=ints (qX l f a).1∧H=PH.nil.set o (bU v (qX l f a).2))
theorem aO.a8Z{C:Ctx}{F:PF}{H:PH}{B:List BX}{L:List LI}{args:List aS}{d:Option Nat}{K:PF→PH→Prop}(h:aO H B L){l:List Nat}(w:aI C 28 [.sl 1 (pA l)] .nil (Gh l))(j:aS.evs F args=some [.sl 1 (pA l)])(u:∀o v H',Tp (l.take 400) v→aO H' (B++[(o,bU v 0)]) L→K (F.put d (.ptr o 2 0 0)) H'):kF C 28 args [] d K F H:=by
 refine eR w j a_ ?_;rintro r H' ⟨o,v,rfl,T,rfl⟩ e;rw[PH.tU];exact u o v _ T (h.new (e o (bU v 0) (by rw[cB]) rfl) _)
theorem aYS{f:aD}{room:List Int}{c:fV}{b:Bool}(h:yo f room c b)(e:EX f room):b=false:=by
 rcases h with⟨-,-,rfl⟩|⟨-,-,-,rfl⟩|⟨-,g,-⟩
 ·rfl
 ·rfl
 ·exact absurd e g
structure aLJ(C:Ctx):Prop extends aLL C where
 awake:aI C 312 [] .nil (aK (.bool true))
 place:∀(f:aD)(room:List Int),f.Ok→aI C 288 [.agg f.cells,ints room] .nil (yf f room)
 why:∀(f:aD)(room:List Int),f.Ok→aI C 289 [.agg f.cells,ints room] .nil (aSF f room)
 RH:∀(f:aD)(room:List Int),f.Ok→aI C 309 [.agg f.cells,ints room] .nil (yf f room)
 holds:∀(f:aD)(l:List (List Int)) (room:List Int),f.Ok→qO l→aI C 150 [.agg f.cells,lay l,ints room] .nil (aK (.bool (sS f l room)))
 qholds:∀(f:aD)(l:List (List Int)) (room:List Int),f.Ok→qO l→aI C 83 [.agg f.cells,lay l,ints room] .nil (aK (.bool (sS f l room)))
 chk:∀(f:aD)(room:List Int)(c:fV),f.Ok→sZ c→aI C 290 [.agg f.cells,ints room,.agg c.cells] .nil (aK (.bool (tO f room c)))
 Is:∀(f:aD)(room:List Int)(c:fV),f.Ok→sZ c→aI C 311 [.agg f.cells,ints room,.agg c.cells] .nil (aK (.bool (tO f room c)))
theorem arE{C:Ctx}(e:aLJ C)(l:List Nat)(hb:∀x∈l,x<256)(hl:Z' l≤9223372036854775807) :
  FK.wp C (aW XY.res (aK (.bool true))) (PF.args [.sl 1 (pA l)]) .nil:=by
 obtain⟨B,j⟩:=aTD l (d:=10) (v:=4) aV aV;have hV:=VF.of B;have hd:=hV.small.beK;have a1:=aMN (l.take 400) 10 4 (bgE _);have k0:∀v,Tp (l.take 400) v→∀o,aI C 0 [.ptr o 2 0 0,.int .i64 (10:Nat),.int .i64 (4:Nat)] (PH.nil.set o (bU v 0)) (λr H=>r=.agg (fT l 10 4).cells∧H=PH.nil.set o (bU v (faT l 10 4))):=λv T o=>e.tfleet (l.take 400) v T o 10 4 0 aV aV (bgE _);have k2:=λv T o=>e.kc (l.take 400) v T o (faT l 10 4) (fT l 10 4) Om a1;have k3:=e.place (fT l 10 4) (qX (l.take 400) (fT l 10 4) (faT l 10 4)).1 j;have k4:=e.why (fT l 10 4) (qX (l.take 400) (fT l 10 4) (faT l 10 4)).1 j;have k5:=e.RH (fT l 10 4) (qX (l.take 400) (fT l 10 4) (faT l 10 4)).1 j;have k6:=λL M=>e.holds (fT l 10 4) L (qX (l.take 400) (fT l 10 4) (faT l 10 4)).1 j M;have k7:=λL M=>e.qholds (fT l 10 4) L (qX (l.take 400) (fT l 10 4) (faT l 10 4)).1 j M;have k8:=λc O=>e.chk (fT l 10 4) (qX (l.take 400) (fT l 10 4) (faT l 10 4)).1 c j O;have k9:=λc O=>e.Is (fT l 10 4) (qX (l.take 400) (fT l 10 4) (faT l 10 4)).1 c j O;generalize(qX (l.take 400) (fT l 10 4) (faT l 10 4))=rt at *
 generalize faT l 10 4=α at *
 generalize fT l 10 4=f at *
 simp only[go_sem,FK,pq,pt,XY];refine aO.nil.a8Z (e.new l hb hl) rfl λo v H1 T K=>?_;have K:aO H1 [(o,bU v 0)] []:=K;simp only[go_sem,pu];refine K.a6K 0 rfl (k0 v T o) rfl λH2 h2=>?_;simp only[go_sem];refine h2.yW λq H3 V=>?_;have e3:=V.at 1 rfl;have W:=V.set 1 rfl (.rows 7 [f.cells]);simp only[go_sem,e3];generalize H3.set q (.rows 7 [f.cells])=H4 at *
 have e4:=W.at 1 rfl;simp only[go_sem,pw,e4];refine W.a6K 0 rfl (k2 v T o) rfl λH6 X=>?_;have S:=X.at 1 rfl;simp only[go_sem,p4,S];refine eR k3 rfl a_ ?_;rintro r H' ⟨ws,p,Z,rfl,rfl⟩ -;rw[PH.nZ];simp only[go_sem,p5,S];refine eR k4 rfl a_ ?_;rintro r H' ⟨x,b,hy,rfl,rfl⟩ -;rw[PH.nZ];simp only[go_sem];refine X.yW λo9 H7 h7=>?_;have e7:=h7.at 2 rfl;have h8:=h7.set 2 rfl (.rows 3 [x.cells]);simp only[go_sem,e7];generalize H7.set o9 (.rows 3 [x.cells])=H8 at *
 have w:=h8.at 1 rfl;have U:=h8.at 2 rfl;simp only[go_sem,p6,w];refine eR k5 rfl a_ ?_;rintro r H' ⟨β,p2,R,rfl,rfl⟩ -;rw[PH.nZ];obtain⟨rfl,-⟩:=aOZ Z R;have n1:=bR (show p=p from rfl);rcases Z with⟨a,-⟩|⟨-,⟨u,A,rfl⟩,rfl⟩|⟨-,hnf,rfl,rfl⟩
 ·rw[B]at a;cases a
 ·have N:=aYS hy ⟨u,A⟩;subst N;obtain⟨Y,hh⟩:=arM B A;have E:=k6 _ (Y.ok hV);have F:=k7 _ (Y.ok hV);rw[hh]at E F;simp only[go_sem,QA,n1,bD (show ¬(0:Int)=12 by decide),beq_self_eq_true,bgJ,QB,bT (show(0:Int)=0 from rfl),iq,w];refine aB E rfl ?_;simp only[go_sem,w];refine aB F rfl ?_;simp only[go_sem];refine aB e.awake rfl ?_;simp only[go_sem];exact mJ rfl rfl
 ·rcases hy with⟨a,-⟩|⟨-,b,-⟩|⟨-,-,hck,rfl⟩
  ·rw[B]at a;cases a
  ·exact absurd b hnf
  ·have y:=sZ.of hV (kp hck);have I:=k8 x y;have J:=k9 x y;rw[tO,B,hck]at I J;simp only[go_sem,QA,n1,bT (show(12:Int)=12 from rfl),beq_self_eq_true,bgJ,QB,bD (show ¬(12:Int)=0 by decide),ir,w,U,bfY,biM,bT (show((0:Nat):Int)=0 from rfl)];refine aB I rfl ?_;simp only[go_sem,w,U];refine aB J rfl ?_;simp only[go_sem];refine aB e.awake rfl ?_;simp only[go_sem];exact mJ rfl rfl
structure CE(C:Ctx):Prop where
 node:∀(f:aD),Small f→0<Z' f.beN→∀v i:Nat,v≤100→i≤100→aI C 304 [.agg f.cells,.int .i64 (v:Nat),.int .i64 (i:Nat)] .nil (aK (.int .i64 ((cR f v i:Nat):Int)))
 drv:∀(f:aD),Small f→∀d:Nat,d≤100→aI C 305 [.agg f.cells,.int .i64 (d:Nat)] .nil (aK (.int .i64 ((bG f d:Nat):Int)))
 total:∀f:aD,VF f→aI C 306 [.agg f.cells] .nil (aK (.int .i64 ((rO f:Nat):Int)))
 qvalid:∀f:aD,f.Ok→aI C 67 [.agg f.cells] .nil (aK (.bool (dU f)))
 allowed:∀(f:aD)(p:dV)(d:Nat),VF f→Fits p.beL→d<Z' f.beK→aI C 77 [.agg p.cells,.agg f.cells,.int .i64 d] .nil (aK (.bool (p.beL.contains ((mdl f d:Nat):Int))))
 qroom:∀(f:aD)(room:List Int),f.Ok→aI C 85 [.agg f.cells,ints room] .nil (aK (ints (uR f room)))
def quS(f:aD):Spec:=λname vs=>match name,vs with
 |304,[_,.int _ v,.int _ i]=>some ([],λ_=>aK (.int .i64 ((cR f v.toNat i.toNat:Nat):Int)))
 |305,[_,.int _ d]=>some ([],λ_=>aK (.int .i64 ((bG f d.toNat:Nat):Int)))
 |_,_=>none
section
variable {C:Ctx} {F:PF} {H Hs:PH} {st:Bool} {f:aD} {args:List aS} {d:Option Nat} {K:PF→PH→Prop}
theorem wC(j:CE C)(x:Small f)(l:0<Z' f.beN){v i:Nat}(y:v≤100)(hi:i≤100)(u:aS.evs F args=some [.agg f.cells,.int .i64 (v:Nat),.int .i64 (i:Nat)])(e:Hs.le H)(w:K (F.put d (.int .i64 ((cR f v i:Nat):Int))) H):dOp C Hs (quS f) st (.call 304 args) d K F H:=
 cO (v:=.int .i64 ((cR f v i:Nat):Int)) (by rfl) (j.node f x l v i y hi) u e w
theorem RZ(j:CE C)(w:Small f){i:Nat}(hi:i≤100)(l:aS.evs F args=some [.agg f.cells,.int .i64 (i:Nat)])(e:Hs.le H)(u:K (F.put d (.int .i64 ((bG f i:Nat):Int))) H):dOp C Hs (quS f) st (.call 305 args) d K F H:=
 cO (v:=.int .i64 ((bG f i:Nat):Int)) (by rfl) (j.drv f w i hi) l e u
end
theorem FN{H:PH}{B:List BX}{v:PV}{l:List bY}{K:PV→PH→Prop}(a:bY)(h:aO H B [(v,4,l.map bY.cells)])(w:Z' l≤1000000)(u:∀q n H',aO H' B [(.osl q 4 0 n,4,(l++[a]).map bY.cells)]→K (.osl q 4 0 n) H'):pF H 4 32 v (.sl 4 [a.cells]) K:=by
 refine h.append 0 (src:=[a.cells]) rfl rfl (by unfold roomFor;rw[bfY];simp only[bgI,maxLen];omega) λv' H' j e=>?_;obtain⟨q,hq⟩:=e aY;generalize((l.map bY.cells++[a.cells]).length)=n at hq;subst hq;refine u q n H' ?_;rw[bhM];exact j
structure QO where
 o:Nat
 z:Nat
 p:Nat
def qC(f:aD)(room:List Int)(e:QO)(k:Nat):PF:=(((((PF.nil.set 1 (ints room)).set 2 (.bE f.cells)).set 4 (.ptr e.z 4 0 0)).set 6 (.ptr e.o 4 0 0)).set 7 (.int .i64 (k:Nat)))
def JN(f:aD)(room:List Int)(e:QO)(k i:Nat):PF:=((qC f room e k).set 8 (.ptr e.p 17 0 0)).set 9 (.int .i64 ((i+1:Nat):Int))
def vn(f:aD)(room:List Int)(e:QO)(k i:Nat):PF:=((qC f room e k).set 8 (.ptr e.p 17 0 0)).set 11 (.int .i64 (i:Nat))
theorem aqR{C:Ctx}(f:aD)(p:dV){i:Nat}(hi:i<Z' f.beN)(I:0≤lvl f i)(J:lvl f i<5){op:Nat}(K:PF→PH→Prop)(F:PF)(H:PH)(x:F 2=some (.bE f.cells))(y:F 9=some (.int .i64 (i:Nat)))(h8:F 8=some (.ptr op 17 0 0))(u:H op=some (tC p))
  (w:∀e:PF,e 10=some (.int .i64 (p.spread (lvl f i).toNat))→(∀G:PF,G.le F→(∀j,62≤j→j<71→G j=none)→G 10=none→G.le e)→K e H):wpOps C vw K F H:=by
 have h5:lvl f i<((5:Nat):Int):=Om;simp only[go_sem,vw,x,y,h8,lZ hi,QX hi,I,h5,bjB];have B:lvl f i=0∨lvl f i=1∨lvl f i=2∨lvl f i=3∨lvl f i=4:=Om;have fin:∀e:PF,e 10=some (.int .i64 (p.spread (lvl f i).toNat))→(∀G:PF,G.le F→(∀j,62≤j→j<71→G j=none)→G 10=none→G.le e)→K e H:=w;clear w;rcases B with h|h|h|h|h
 all_goals
  rw[h]at fin ⊢;simp only[go_sem,u];refine fin _ rfl λG A E l=>?_
  repeat' (first|exact A|exact l|(exact E _ aV aV)|refine QW ?_ ?_)
theorem aPF{C:Ctx}(Lb:CE C){K:cQ}[Up K](f:aD)(hV:VF f)(room:List Int)(e:QO)(N k:Nat)(hk:k<Z' f.beM)(pre:List bY)(γ:Z' pre≤900000){F:PF}{H:PH}{B:List BX}(v:PV)
  (E:B[0]?=some (e.p,tC (cL f k)))
  (w:aO H ((e.o,cZ N v)::B) [(v,4,pre.map bY.cells)]) (hF:(JN f room e k 0).le F)
  (hK:∀v' H',aO H' ((e.o,cZ N v')::B) [(v',4,(pre++(bfZ (Z' f.beN-1)).map (lY f k)).map bY.cells)]→K (.exit 2) ((qC f room e k).set 8 (.ptr e.p 17 0 0)) H'):aC.wp C (.loop vq) K F H:=by
 have R:=hV.small;have hr:=hV.root;have ε:=R.beN;have ζ:=R.beM;have δ:¬e.o=e.p:=w.ne 0 1 rfl E aV;refine wp_loop (α:=Nat × PV × PH) (λs=>JN f room e k s.1) (λs=>s.2.2) (λs=>s.1+1≤Z' f.beN∧aO s.2.2 ((e.o,cZ N s.2.1)::B) [(s.2.1,4,(pre++(bfZ s.1).map (lY f k)).map bY.cells)]) (λs=>Z' f.beN-s.1) (0,v,H) ⟨by have:=hr.1;omega,by simpa using w⟩ hF b_ ?_;rintro⟨i,v,H0⟩ ⟨hi,w⟩;simp only at hi w;simp only[go_sem,vq,ahH,JN,qC,bfY];by_cases hlt:i+1<Z' f.beN
 ·have u:((i+1:Nat):Int)<(Z' f.beN:Nat):=Om;have Z:=eT (Om:i+1<9223372036854775807);obtain⟨d1,d2,d3,d4,d5⟩:=hV.dom (i+1) Om hlt;have β:=hV.j5 (Om:0<i+1) hlt;have A:H0 e.p=some (tC (cL f k)):=w.at 1 E;have V:H0 e.o=some (cZ N v):=w.at 0 rfl;obtain⟨b1,b2,b3,b4⟩:=oI hV hk;obtain⟨hp,he⟩:=qB hV hk;have x:=hV.beX _ (bgD hp);rw[he]at x;have U:IntKind.i64.wrap ((cL f k).k+(cL f k).m)=((gP f k:Nat):Int):=by rw[b3];exact wrap_i64 Om Om
  have η:=x.2.2.2.2.2.2.1 (lvl f (i+1)).toNat;have l:((xH f k (i+1):Nat):Int)=if(cL f k).spread (lvl f (i+1)).toNat=0 then((gP f k:Nat):Int)else(cL f k).spread (lvl f (i+1)).toNat:=by
   unfold xH fK;split
   ·rfl
   ·omega
  simp only[go_sem,u];refine aqR f (cL f k) hlt Om Om (op:=e.p) _ _ _ rfl rfl rfl A λF1 y J=>?_;have Y:=J (JN f room e k i) (by(repeat' (first|exact c_|refine d_ ?_ ?_))<;>first|(simp only[go_sem,JN,qC]<;>rfl)|rfl) (λj O h2=>by have:j=62∨j=63∨j=64∨j=65∨j=66∨j=67∨j=68∨j=69∨j=70:=Om;rcases this with rfl|rfl|rfl|rfl|rfl|rfl|rfl|rfl|rfl<;>rfl) rfl
  clear J;have I:∀S:PF,((JN f room e k i).set 10 (.int .i64 ((xH f k (i+1):Nat):Int))).le S →
    aC.wp C (.draw v6) (kJ C (aC.wp C (.draw v8)) (fN 3 (kJ C (aC.wp C (.region wa)) (fZ (λs:Nat × PV × PH=>JN f room e k s.1) (λs=>s.2.2) (λs=>s.1+1≤Z' f.beN∧aO s.2.2 ((e.o,cZ N s.2.1)::B) [(s.2.1,4,(pre++(bfZ s.1).map (lY f k)).map bY.cells)]) (λs=>Z' f.beN-s.1) (Z' f.beN-i) K)))) S H0:=by
   intro S X;refine uW _ (λ_ _ _ _ a b=>Up.up a b) X ?_;refine bA (PH.nil.set e.o (cZ N v)) (quS f) (e_ a_ V) ?_;simp only[go_sem,v6,JN,qC,lZ hlt,C8 hlt,β];refine wC Lb R hr.1 (v:=k) (i:=lF f (i+1)) Om Om rfl (e_ a_ V) ?_;simp only[go_sem];refine wC Lb R hr.1 (v:=k) (i:=i+1) Om Om rfl (e_ a_ V) ?_;simp only[go_sem];refine FN (lY f k i) w (by rw[bgB,bfY,biU];omega) λq n H1 O=>?_;refine⟨e_ a_ (O.at 0 rfl),?_⟩;have W:=O.at 0 rfl;refine bA .nil cK a_ ?_;simp only[go_sem,v8,W];refine⟨a_,?_⟩;have h2:=O.set 0 rfl (cZ N (.osl q 4 0 n));simp only[go_sem,wa,Z];refine aG (i+1,.osl q 4 0 n,_) ⟨hlt,?_⟩ (by simp only;omega) (by(repeat' (first|exact c_|refine d_ ?_ ?_))<;>first|(simp only[go_sem,JN,qC]<;>rfl)|rfl) b_;simp only;rw[RU];exact h2
  by_cases M:(cL f k).spread (lvl f (i+1)).toNat=0
  ·rw[aL M]at l;have f8:=Y 8 _ rfl;simp only[go_sem,vz,y,bT M,ahI,f8,A,U];refine I _ (d_ ?_ (by simp only[go_sem,l]))
   repeat' (first|exact Y|refine QW ?_ rfl)
  ·rw[aE M]at l;simp only[go_sem,vz,y,bD M];refine I _ (d_ ?_ (by simp only[go_sem,y,l]))
   repeat' (first|exact Y|refine QW ?_ rfl)
 ·have u:¬((i+1:Nat):Int)<(Z' f.beN:Nat):=Om;have:i=Z' f.beN-1:=Om;subst this;simp only[go_sem,u];exact Up.up (by(repeat' (first|exact c_|refine d_ ?_ ?_))<;>first|(simp only[go_sem,JN,qC]<;>rfl)|rfl) (hK v H0 w)
theorem aPG{C:Ctx}(A:CE C){K:cQ}[Up K](f:aD)(hV:VF f)(room:List Int)(e:QO)(N k:Nat)(hk:k<Z' f.beM)(w:Fits (cL f k).beL)(pre:List bY)(U:Z' pre≤900000){F:PF}{H:PH}{B:List BX}(v:PV)
  (O:B[0]?=some (e.p,tC (cL f k)))
  (l:aO H ((e.o,cZ N v)::B) [(v,4,pre.map bY.cells)]) (X:(vn f room e k 0).le F)
  (Y:∀v' H',aO H' ((e.o,cZ N v')::B) [(v',4,(pre++((bfZ f.beK.length).filter (okD f k)).map (fD f k)).map bY.cells)]→K (.exit 4) (qC f room e k) H'):aC.wp C (.loop vr) K F H:=by
 have y:=hV.small;have Z:=hV.root;have β:=y.beN;have γ:=y.beK;have δ:=y.beM;refine wp_loop (α:=Nat × PV × PH) (λs=>vn f room e k s.1) (λs=>s.2.2) (λs=>s.1≤Z' f.beK∧aO s.2.2 ((e.o,cZ N s.2.1)::B) [(s.2.1,4,(pre++((bfZ s.1).filter (okD f k)).map (fD f k)).map bY.cells)]) (λs=>Z' f.beK-s.1) (0,v,H) ⟨bgE _,by simpa using l⟩ X b_ ?_;rintro⟨i,v,H0⟩ ⟨hi,l⟩;simp only at hi l;simp only[go_sem,vr,ahK,vn,qC,bfY];by_cases hlt:i<Z' f.beK
 ·have j:(i:Int)<(Z' f.beK:Nat):=Om;have x:=wZz i;obtain⟨d1,d2,d3,d4,d5⟩:=hV.drive i hlt;have S:okD f k i=(cL f k).beL.contains ((mdl f i:Nat):Int):=rfl;have E:H0 e.p=some (tC (cL f k)):=l.at 1 O;have I:H0 e.o=some (cZ N v):=l.at 0 rfl;have u:=kw (okD f k) i;simp only[go_sem,j,ahL,E];refine aB (A.allowed f (cL f k) i hV w hlt) rfl ?_;rw[←S];cases hb:okD f k i with
  |false =>rw[hb,aE aV,bhH]at u;rw[←u]at l;simp only[go_sem,wb,x];exact aG (i+1,v,H0) ⟨hlt,l⟩ (by simp only;omega) (by(repeat' (first|exact c_|refine d_ ?_ ?_))<;>first|(simp only[go_sem,vn,qC]<;>rfl)|rfl) b_
  |true=>
   rw[hb,aL rfl]at u;have R:=List.length_filter_le (okD f k) (bfZ i);rw[biU]at R;simp only[go_sem];refine bA (PH.nil.set e.o (cZ N v)) (quS f) (e_ a_ I) ?_;simp only[go_sem,ahM,oO hlt,hV.QY hlt];refine wC A y Z.1 (v:=k) (i:=eO f i) Om Om rfl (e_ a_ I) ?_;simp only[go_sem];refine RZ A y (i:=i) Om rfl (e_ a_ I) ?_;simp only[go_sem];refine FN (fD f k i) l (by rw[bgB,bfY];omega) λq n H1 M=>?_;refine⟨e_ a_ (M.at 0 rfl),?_⟩;have J:=M.at 0 rfl;refine bA .nil cK a_ ?_;simp only[go_sem,ahN,J];refine⟨a_,?_⟩;have W:=M.set 0 rfl (cZ N (.osl q 4 0 n));simp only[go_sem,wb,x];refine aG (i+1,.osl q 4 0 n,_) ⟨hlt,?_⟩ (by simp only;omega) (by(repeat' (first|exact c_|refine d_ ?_ ?_))<;>first|(simp only[go_sem,vn,qC]<;>rfl)|rfl) b_;simp only;have V:pre++((bfZ (i+1)).filter (okD f k)).map (fD f k)=pre++((bfZ i).filter (okD f k)).map (fD f k)++[fD f k i]:=by rw[u,bhM,←bgX];rfl
   rw[V];exact W
 ·have j:¬(i:Int)<(Z' f.beK:Nat):=Om;have:i=Z' f.beK:=Om;subst this;simp only[go_sem,j];exact Up.up (by(repeat' (first|exact c_|refine d_ ?_ ?_))<;>first|(simp only[go_sem,vn,qC]<;>rfl)|rfl) (Y v H0 l)
theorem aPH{C:Ctx}(J:CE C){K:cQ}[Up K](f:aD)(hf:f.Ok)(hV:VF f)(room:List Int)(o z:Nat)(N:Nat){F:PF}{H:PH}
  (u:aO H [(o,cZ N .aH),(z,iW)] [(.aH,4,[])]) (hF:(qC f room ⟨o,z,0⟩ 0).le F)
  (hK:∀v' H',aO H' [(o,cZ N v'),(z,iW)] [(v',4,((bfZ f.beM.length).flatMap (gS f)).map bY.cells)]→K (.exit 0) (qC f room ⟨o,z,0⟩ f.beM.length) H'):aC.wp C (.loop vt) K F H:=by
 have A:=hV.small;have hr:=hV.root;have γ:=A.beN;have δ:=A.beK;have ε:=A.beM;refine wp_loop (α:=Nat × PV × PH) (λs=>qC f room ⟨o,z,0⟩ s.1) (λs=>s.2.2) (λs=>s.1≤Z' f.beM∧aO s.2.2 [(o,cZ N s.2.1),(z,iW)] [(s.2.1,4,((bfZ s.1).flatMap (gS f)).map bY.cells)]) (λs=>Z' f.beM-s.1) (0,.aH,H) ⟨bgE _,by simpa using u⟩ hF b_ ?_;rintro⟨k,v,H0⟩ ⟨hk,u⟩;simp only at hk u;simp only[go_sem,vt,aBA,qC,bfY];by_cases hlt:k<Z' f.beM
 ·have e:(k:Int)<(Z' f.beM:Nat):=Om;have S:=wZz k;obtain⟨V,he⟩:=qB hV hlt;have j:=(hf.beX _ (bgD V)).beL;rw[he]at j;have w:=hV.beX _ (bgD V);rw[he]at w;obtain⟨b1,b2,b3,b4⟩:=oI hV hlt;have M:IntKind.i64.wrap ((cL f k).k+(cL f k).m)=((gP f k:Nat):Int):=by rw[b3];exact wrap_i64 Om Om
  have β:=ES A k;simp only[go_sem,e];refine bA .nil cK a_ ?_;simp only[go_sem,aBB,uV hlt,hV.JL hlt,rD V,he];refine u.yW λp Z Y=>?_;have g1:=Y.rP;have h2:=Y.xR (tC (cL f k));simp only[go_sem,g1];refine⟨a_,?_⟩;generalize Z.set p (.rows 17 [(cL f k).cells])=H2 at *
  have E:aO H2 [(o,cZ N v),(p,tC (cL f k)),(z,iW)] [(v,4,((bfZ k).flatMap (gS f)).map bY.cells)]:=by refine h2.perm ?_ (biT.refl _);exact .cons _ (.swap _ _ _)
  have W:H2 o=some (cZ N v):=E.at 0 rfl;have X:H2 p=some (tC (cL f k)):=E.at 1 rfl;have U:¬o=p:=E.ne 0 1 rfl rfl aV;obtain⟨Hs,so,sp,l⟩:=Af (x:=cZ N v) (y:=tC (cL f k)) U;refine bA Hs (quS f) (l _ W X) ?_;simp only[go_sem,aBC,so];refine wC J A hr.1 (v:=k) (i:=0) Om Om rfl (l _ W X) ?_;simp only[go_sem,sp,M];refine FN (⟨0,cR f k 0,gP f k⟩:bY) E Om λq n H3 I=>?_;refine⟨l _ (I.at 0 rfl) (I.at 1 rfl),?_⟩;have O:=I.at 0 rfl;refine bA .nil cK a_ ?_;simp only[go_sem,aBD,O];refine⟨a_,?_⟩;have h5:=I.set 0 rfl (cZ N (.osl q 4 0 n));simp only[go_sem,aBE];refine aPF J f hV room ⟨o,z,p⟩ N k hlt ((bfZ k).flatMap (gS f)++[(⟨0,cR f k 0,gP f k⟩:bY)]) (by rw[bgB,bgI];omega) (.osl q 4 0 n) (B:=[(p,tC (cL f k)),(z,iW)]) rfl h5 (by(repeat' (first|exact c_|refine d_ ?_ ?_))<;>first|(simp only[go_sem,JN,qC]<;>rfl)|rfl) λv2 H8 h9=>?_;simp only[go_sem,ahJ,qC];refine aPG J f hV room ⟨o,z,p⟩ N k hlt j ((bfZ k).flatMap (gS f)++[(⟨0,cR f k 0,gP f k⟩:bY)]++(bfZ (Z' f.beN-1)).map (lY f k)) (by rw[bgB,bgB,bgI,bfY,biU];omega) (B:=[(p,tC (cL f k)),(z,iW)]) v2 rfl h9 (by(repeat' (first|exact c_|refine d_ ?_ ?_))<;>first|(simp only[go_sem,vn,qC]<;>rfl)|rfl) λv3 H9 R=>?_;simp only[go_sem,ahO,qC,S];refine aG (k+1,v3,H9) ⟨hlt,?_⟩ (by simp only;omega) (by(repeat' (first|exact c_|refine d_ ?_ ?_))<;>first|(simp only[go_sem,qC]<;>rfl)|rfl) b_;simp only;have ev:(bfZ (k+1)).flatMap (gS f)=(bfZ k).flatMap (gS f)++[(⟨0,cR f k 0,gP f k⟩:bY)]++(bfZ (Z' f.beN-1)).map (lY f k)++((bfZ f.beK.length).filter (okD f k)).map (fD f k):=by rw[XN];unfold gS;simp[cR]
  rw[ev];exact R.yN 1
 ·have e:¬(k:Int)<(Z' f.beM:Nat):=Om;have:k=Z' f.beM:=Om;subst this;simp only[go_sem,e];exact Up.up (by(repeat' (first|exact c_|refine d_ ?_ ?_))<;>first|(simp only[go_sem,qC]<;>rfl)|rfl) (hK v H0 u)
theorem aJF{C:Ctx}(I:CE C){K:cQ}[Up K](f:aD)(hV:VF f)(room:List Int)(o z N:Nat)(pre:List bY)(B:Z' pre≤900000){F:PF}{H:PH}(v:PV)
  (j:aO H [(o,cZ N v),(z,iW)] [(v,4,pre.map bY.cells)])
  (M:((((((PF.nil.set 2 (.bE f.cells)).set 4 (.ptr z 4 0 0)).set 6 (.ptr o 4 0 0)).set 12 (.sl 1 (bS (jG f room)))).set 13 (.int .i64 0))).le F)
  (O:∀v' H',aO H' [(o,cZ N v'),(z,iW)] [(v',4,(pre++(bfZ f.beK.length).map (pW f room)).map bY.cells)]→K (.exit 6) (((PF.nil.set 4 (.ptr z 4 0 0)).set 6 (.ptr o 4 0 0))) H'):aC.wp C (.loop vu) K F H:=by
 have E:=hV.small;have R:=E.beK;refine wp_loop (α:=Nat × PV × PH) (λs=>(((((PF.nil.set 2 (.bE f.cells)).set 4 (.ptr z 4 0 0)).set 6 (.ptr o 4 0 0)).set 12 (.sl 1 (bS (jG f room)))).set 13 (.int .i64 (s.1:Nat)))) (λs=>s.2.2) (λs=>s.1≤Z' f.beK∧aO s.2.2 [(o,cZ N s.2.1),(z,iW)] [(s.2.1,4,(pre++(bfZ s.1).map (pW f room)).map bY.cells)]) (λs=>Z' f.beK-s.1) (0,v,H) ⟨bgE _,by simpa using j⟩ M b_ ?_;rintro⟨i,v,H0⟩ ⟨hi,j⟩;simp only at hi j;simp only[go_sem,vu,ahR,bfY];by_cases hlt:i<Z' f.beK
 ·have e:(i:Int)<(Z' f.beK:Nat):=Om;have x:=wZz i;have y:i<(jG f room).length:=by rw[pS];exact hlt
  have l:=rU y;obtain⟨r1,r2⟩:=BO hV room hlt;rw[VT,←r2]at l;have A:=j.at 0 rfl;simp only[go_sem,e];refine bA (PH.nil.set o (cZ N v)) (quS f) (e_ a_ A) ?_;simp only[go_sem,ahS];refine RZ I E (i:=i) Om rfl (e_ a_ A) ?_;simp only[go_sem,l,gV,pS,e];refine FN (pW f room i) j (by rw[bgB,bfY,biU];omega) λq n S w=>?_;refine⟨e_ a_ (w.at 0 rfl),?_⟩;have u:=w.at 0 rfl;refine bA .nil cK a_ ?_;simp only[go_sem,ahT,u];refine⟨a_,?_⟩;have J:=w.set 0 rfl (cZ N (.osl q 4 0 n));simp only[go_sem,ahU,x];refine aG (i+1,.osl q 4 0 n,_) ⟨hlt,?_⟩ (by simp only;omega) Lq b_;simp only;rw[RU];exact J
 ·have e:¬(i:Int)<(Z' f.beK:Nat):=Om;have:i=Z' f.beK:=Om;subst this;simp only[go_sem,e];exact Up.up Lq (O v H0 j)
theorem a3B{C:Ctx}(l:CE C)(f:aD)(y:f.Ok)(room:List Int) :
  dy.wp C (aW vp.res (cT (BC f room))) (PF.args [.agg f.cells,ints room]) .nil:=by
 simp only[go_sem,dy,aAV,vp];refine aQ λz N=>?_;simp only[go_sem,aAW];refine aB (l.qvalid f y) rfl ?_;have x:aO (PH.nil.set z iW) [(z,iW)] []:=aO.nil.new N iW;generalize(PH.nil.set z iW)=R at *
 have I:=x.at 0 rfl;cases j:dU f with
 |false =>simp only[go_sem,bgS,aAX,I];rw[BC,ayN j,CP j];have J:=(x.set 0 rfl iW).oV 4;refine pU (vs:=[.agg [.int .i64 0,.int .i64 0,.int .i64 0,.aH],.int .i64 1]) (.inr rfl) Sq ?_;exact jh J
 |true=>
  have hV:=VF.of j;have w:=hV.small;rw[BC,CR j,rK j];simp only[go_sem,bgJ,aAY,bfY];refine aB (l.drv f w f.beK.length (by have:=w.beK;omega)) rfl ?_;simp only[go_sem];refine x.yW λo E A=>?_;have g4:=A.at 1 rfl;have h5:=A.set 1 rfl (cZ (bG f f.beK.length) .aH);simp only[go_sem,g4];generalize E.set o (.rows 4 [[.int .i64 ((bG f f.beK.length:Nat):Int),.int .i64 0,.int .i64 1,.aH]])=F at *
  have K:aO F [(o,cZ (bG f f.beK.length) .aH),(z,iW)] [(.aH,4,[])]:=by refine(h5.oV 4).perm ?_ (biT.refl _);exact(List.reverse_perm _).symm
  simp only[go_sem,aAZ];refine aPH l f y hV room o z _ K (by(repeat' (first|exact c_|refine d_ ?_ ?_))<;>first|(simp only[go_sem,qC]<;>rfl)|rfl) λO S h7=>?_;have u:=l.qroom f room y;rw[uR,aL j]at u;simp only[go_sem,ahP,qC];refine aB u rfl ?_;simp only[go_sem,ahQ];refine aJF l f hV room o z _ ((bfZ f.beM.length).flatMap (gS f)) (by have:=ES w f.beM.length;have:=w.beM;omega) O h7 Lq λB U h8=>?_;have a7:=h8.at 0 rfl;have a4:=h8.at 1 rfl;have M:=h8.set 1 rfl (cZ (bG f f.beK.length) B);simp only[go_sem,ahV,a7,a4];refine⟨_,aL ?_,?_⟩
  ·rcases h8.own 0 rfl with⟨_,e⟩|⟨q,rs,e,_⟩<;>rw[e]
  refine pU (vs:=[.agg [.int .i64 ((bG f f.beK.length:Nat):Int),.int .i64 0,.int .i64 1,B],.int .i64 0]) (.inr rfl) Sq ?_;exact jh M
theorem aJJ{res:List fL}{F:PF}{H:PH}{j:PV}{ps:WPs}{e:oW}(he:e=.normal∨e=.ret)(h:fL.evs F H res=some [j])(l:aO H [] (uO j ps)):aW res (cT (lists (wls ps))) e F H:=by
 obtain⟨φ,w,k1,-,-,-,u,-⟩:=UP ps [] [] .nil l (λb hb=>by cases hb);refine pU he h ⟨_,_,.nil,u _,a_,φ (cF [j]),?_,?_⟩
 ·rw[xS,qK,aL rfl];rfl
 ·exact⟨k1,rfl⟩
theorem aMA{f:aD}{v w i:Nat}(e:0<i)(hi:i<Z' f.beN)(h:cR f v i=cR f w i):v=w:=by
 unfold cR at h;rw[aE Om,aE Om]at h;rcases Nat.lt_trichotomy v w with c|c|c
 ·have:=bhF (Z' f.beN-1) (Om:v+1≤w);rw[biN]at this;omega
 ·exact c
 ·have:=bhF (Z' f.beN-1) (Om:w+1≤v);rw[biN]at this;omega
def yA(f:aD)(n:cN)(xs:List Nat)(e k:Nat):PF:=(((((PF.nil.set 2 (.sl 1 (fP xs))).set 3 (.bE f.cells)).set 4 (.bE n.cells)).set 7 (.osl e 1 0 f.beM.length)).set 8 (.int .i64 (k:Nat)))
def vi(f:aD)(n:cN)(xs:List Nat)(e k:Nat)(d j:Nat):PF:=((yA f n xs e k).set 9 (.int .i64 (d:Nat))).set 10 (.int .i64 (j:Nat))
theorem aWL{C:Ctx}(Lb:CE C){K:cQ}[Up K](f:aD)(hV:VF f)(room:List Int)(xs:List Nat)(M k v d:Nat)(hk:k<(cY f room).arcs.length)(hv:v<Z' f.beM)(hd:d<Z' f.beK)(ha:cD (cY f room) k=fD f v d)(W Y:List (List Int))(hW:Z' W=Z' f.beM)(δ:(W.getD v []).length≤1000000)
  (R:W.set v (W.getD v []++[(d:Int)])=Y) (ps:WPs) (l:wls ps=W) {F:PF} {H:PH} (E:aO H [(M,.rows 1 (eI ps))] (jW ps)) (hF:(vi f (cY f room) xs M k d 0).le F)
  (hK:∀J H',wls J=Y→aO H' [(M,.rows 1 (eI J))] (jW J)→K (.exit 2) (yA f (cY f room) xs M k) H'):aC.wp C (.loop vk) K F H:=by
 have hs:=hV.small;have hr:=hV.root;have θ:=hs.beN;have ι:=hs.beM;have X:=tc hV hd;refine wp_loop (α:=Nat × WPs × PH) (λs=>vi f (cY f room) xs M k d s.1) (λs=>s.2.2) (λs=>s.1≤Z' f.beM∧wls s.2.1=(if v<s.1 then Y else W)∧aO s.2.2 [(M,.rows 1 (eI s.2.1))] (jW s.2.1)) (λs=>Z' f.beM-s.1) (0,ps,H) ⟨bgE _,by simpa using l,E⟩ hF b_ ?_;rintro⟨j,ps,H0⟩ ⟨hj,l,E⟩;simp only at hj l E;have O:Z' Y=Z' f.beM:=by rw[←R,bhU,hW]
 have η:Z' ps=Z' f.beM:=by
  have:=congrArg List.length l;unfold wls at this;rw[bfY]at this;rw[this];split
  ·exact O
  ·exact hW
 simp only[go_sem,vk,aAS,vi,yA,bfY];by_cases hlt:j<Z' f.beM
 ·have y:(j:Int)<(Z' f.beM:Nat):=Om;have V:=wZz j;have S:=mF hk;rw[ha]at S;have ζ:(k:Int)<((cY f room).arcs.length:Nat):=Om;have ε:(d:Int)<(Z' f.beK:Nat):=Om;simp only[go_sem,y];refine bA .nil (quS f) a_ ?_;simp only[go_sem,aAT,S,oO hd,hV.QY hd];refine wC Lb hs hr.1 (v:=j) (i:=eO f d) Om Om rfl a_ ?_;have B:(fD f v d).src=cR f v (eO f d):=rfl;by_cases c:j=v
  ·subst c;rw[aE (Nat.lt_irrefl _)]at l;have U:j<Z' ps:=Om;obtain⟨u,w,A⟩:∃u w,ps[j]?=some (u,w):=⟨(ps[j]).1,(ps[j]).2,bgH U⟩;have I:(wls ps).getD j []=w:=kh A;rw[l]at I;have Z:=E.at 0 rfl;simp only[go_sem,bT (show(((fD f j d).src:Nat):Int)=((cR f j (eO f d):Nat):Int) by rw[B]),aAU,y,Z,bgL,zH A];refine E.append j (IB A) (src:=bS [(d:Int)]) rfl (by unfold roomFor;rw[gV,gV,←I];simp only[bgI,maxLen];omega) λN H3 h3 hu=>?_;obtain⟨q',rfl⟩:=hu (by simp[bS]);rw[←JF]at h3 ⊢;have e3:=h3.at 0 rfl;have γ:j<(eI ps).length:=by rw[EN];exact U
   have h4:=h3.set 0 rfl (.rows 1 ((eI ps).set j [.osl q' 1 0 (bS (w++[(d:Int)])).length]));generalize(bS (w++[(d:Int)])).length=nn at *
   simp only[go_sem,y,e3,bgL,zH A,γ];refine⟨_,aL (λx hx=>by rw[bhI]at hx;subst hx;rfl),?_⟩;generalize κ:PV.osl q' 1 0 nn=N at *
   simp only[go_sem,vl,V];refine aG (j+1,ps.set j (N,w++[(d:Int)]),_) ⟨hlt,?_,?_⟩ (by simp only;omega) (by(repeat' (first|exact c_|refine d_ ?_ ?_))<;>first|(simp only[go_sem,vi,yA]<;>rfl)|rfl) b_
   ·simp only;rw[aL (Nat.lt_succ_self _),ki,l,←I];exact R
   ·simp only;have e5:eI (ps.set j (N,w++[(d:Int)]))=(eI ps).set j [N]:=List.map_set ..;have e6:jW (ps.set j (N,w++[(d:Int)]))=(jW ps).set j (N,1,bS (w++[(d:Int)])):=List.map_set ..;rw[e5,e6];exact h4
  ·have β:¬(((fD f v d).src:Nat):Int)=((cR f j (eO f d):Nat):Int):=by rw[B];intro e;exact c (aMA X.1 X.2 Om).symm
   simp only[go_sem,bD β,vl,V];refine aG (j+1,ps,H0) ⟨hlt,?_,E⟩ (by simp only;omega) (by(repeat' (first|exact c_|refine d_ ?_ ?_))<;>first|(simp only[go_sem,vi,yA]<;>rfl)|rfl) b_;simp only;rw[l];by_cases c2:v<j
   ·rw[aL c2,aL Om]
   ·rw[aE c2,aE Om]
 ·have y:¬(j:Int)<(Z' f.beM:Nat):=Om;rw[aL Om]at l;simp only[go_sem,y];exact Up.up (by(repeat' (first|exact c_|refine d_ ?_ ?_))<;>first|(simp only[go_sem,vi,yA]<;>rfl)|rfl) (hK ps H0 l E)
theorem a3A{C:Ctx}(Lb:CE C)(f:aD)(hV:VF f)(room:List Int)(xs:List Nat)(hx:rL (cY f room) xs) :
  dx.wp C (aW vj.res (cT (lists (FC f (eZ f room) xs)))) (PF.args [.agg f.cells,.agg (cY f room).cells,.sl 1 (fP xs)]) .nil:=by
 have hs:=hV.small;have ι:=hs.beM;have hn:=EL hV room;have hm:=hn.num;have η:=hn.few;have F:Z' xs=(eZ f room).length:=hx.len;have V:(Z' f.beM:Int)*((24:Nat):Int)≤140737488355328:=Om;have W:(Z' f.beM:Int)≤9223372036854775807:=Om;have X:(0:Int)≤(Z' f.beM:Int):=Om;have eo:eI (bgA f.beM.length ((.aH,[]):PV × List Int))=bgA f.beM.length [.aH]:=by unfold eI;rw[List.map_replicate]
 simp only[go_sem,dx,aAM,vj,aAN,bfY,V,W,X,Int.le_refl,biR];refine aQ λI γ=>?_;have h1:=(aO.nil.new γ (.rows 1 (bgA f.beM.length [.aH]))).aZM f.beM.length;generalize PH.nil.set I (.rows 1 (bgA f.beM.length [.aH]))=H1 at *
 rw[←eo]at h1;simp only[go_sem,aAO];refine wp_loop (α:=Nat × WPs × PH) (λs=>yA f (cY f room) xs I s.1) (λs=>s.2.2) (λs=>s.1≤(cY f room).arcs.length∧wls s.2.1=pO f (eZ f room) xs s.1∧aO s.2.2 [(I,.rows 1 (eI s.2.1))] (jW s.2.1)) (λs=>(cY f room).arcs.length-s.1) (0,bgA f.beM.length (.aH,[]),H1) ⟨bgE _,?_,h1⟩ (by(repeat' (first|exact c_|refine d_ ?_ ?_))<;>first|(simp only[go_sem,yA]<;>rfl)|rfl) b_ ?_
 ·rw[K6];unfold wls;simp only[List.map_replicate]
 rintro⟨k,ps,H0⟩ ⟨hk,x,U⟩;simp only at hk x U;have δ:Z' ps=Z' f.beM:=by have:=congrArg List.length x;rw[s9]at this;unfold wls at this;rw[bfY]at this;exact this
 simp only[go_sem,ahG,aAP,yA,bfY];by_cases hlt:k<(cY f room).arcs.length
 ·have w:(k:Int)<((cY f room).arcs.length:Nat):=Om;have B:=wZz k;have A:k<(eZ f room).length:=hlt;have β:k<Z' xs:=Om;have K:=mF hlt;have J:cD (cY f room) k=(eZ f room)[k]:=(pE hlt).symm;rw[J]at K;have Z:=bgD A;obtain⟨z1,z2,z3⟩:=hn.ends _ (bgD hlt);have z1:((eZ f room)[k]).src<(cY f room).nodes:=z1;have z2:((eZ f room)[k]).dst<(cY f room).nodes:=z2;have θ:bG f 0≤(cY f room).nodes:=by show bG f 0≤bG f f.beK.length;unfold bG;omega
  have E:=K5 (f:=f) (l:=eZ f room) (xs:=xs) F A;have j:=aaV (f:=f) (l:=eZ f room) (xs:=xs) F A;have N:=arK hV (room:=room) Z;generalize(eZ f room)[k]=a at *
  have y:(a.dst<bG f 0∨xs.getD k 0=0)→fZ (λs:Nat × WPs × PH=>yA f (cY f room) xs I s.1) (λs=>s.2.2) (λs=>s.1≤(cY f room).arcs.length∧wls s.2.1=pO f (eZ f room) xs s.1∧aO s.2.2 [(I,.rows 1 (eI s.2.1))] (jW s.2.1)) (λs=>(cY f room).arcs.length-s.1) ((cY f room).arcs.length-k) (fN 0 (kJ C (aC.wp C (.seq (.region vm) .ret)) (aW vj.res (cT (lists (FC f (eZ f room) xs)))))) .normal (yA f (cY f room) xs I (k+1)) H0:=λh=>
   aG (k+1,ps,H0) ⟨hlt,by rw[E h];exact x,U⟩ (by simp only;omega) (λ_ _ h=>h) b_
  have w7:IntKind.i64.wrap ((a.dst:Int)-((bG f 0:Nat):Int))=(a.dst:Int)-((bG f 0:Nat):Int):=wrap_i64 Om Om;simp only[go_sem,w];refine bA .nil (quS f) a_ ?_;simp only[go_sem,aAQ,K];refine RZ Lb hs (i:=0) aV rfl a_ ?_;by_cases c1:a.dst<bG f 0
  ·have u:(a.dst:Int)-((bG f 0:Nat):Int)<0:=Om;simp only[go_sem,w7,j7,u,VO,B];exact Up.up (by unfold yA;exact Lq) (y (.inl c1))
  ·have u:¬(a.dst:Int)-((bG f 0:Nat):Int)<0:=Om;have S:=lG β;by_cases c2:xs.getD k 0=0
   ·simp only[go_sem,w7,j7,u,S,bT (Om:((xs.getD k 0:Nat):Int)=0),VO,B];exact Up.up (by unfold yA;exact Lq) (y (.inr c2))
   ·obtain⟨v,d,hv,hd,rfl⟩:=N Om;have R:=Ej hV (v:=v) hd;have j:=j Om c2 (by rw[R];exact hv);rw[R]at j;have Y:((fD f v d).dst-bG f 0:Nat)=d:=by simp only[fD,bG];omega
    have M:((fD f v d).dst:Int)-((bG f 0:Nat):Int)=(d:Int):=Om;rw[Y]at j;rw[M]at u;have ε:((pO f (eZ f room) xs k).getD v []).length≤1000000:=by unfold pO;rw[bgF,bgT,biH hv];exact biJ (wm f v _ _) (by rw[bgP];omega)
    have w8:IntKind.i64.wrap (d:Int)=(d:Int):=wrap_i64 Om Om;simp only[go_sem,M,w8,j7,u,S,bD (Om:¬((xs.getD k 0:Nat):Int)=0),aAR];refine aWL Lb f hV room xs I k v d hlt hv hd J (pO f (eZ f room) xs k) (pO f (eZ f room) xs (k+1)) (s9 ..) ε j ps x U (by(repeat' (first|exact c_|refine d_ ?_ ?_))<;>first|(simp only[go_sem,vi,yA]<;>rfl)|rfl) λζ H' O h'=>?_;simp only[go_sem,VO,yA,B];exact aG (k+1,ζ,H') ⟨hlt,O,h'⟩ (by simp only;omega) (by(repeat' (first|exact c_|refine d_ ?_ ?_))<;>first|(simp only[go_sem,yA]<;>rfl)|rfl) b_
 ·have w:¬(k:Int)<((cY f room).arcs.length:Nat):=Om;have:k=(cY f room).arcs.length:=Om;subst this;have h2:=U.a5D;rw[EN,δ]at h2;have e:FC f (eZ f room) xs=wls ps:=by rw[x];exact(aaU F).symm
  rw[e];simp only[go_sem,w,vm];exact aJJ (.inr rfl) rfl h2
structure aSE(C:Ctx):Prop extends CE C where
 vp:∀(f:aD)(room:List Int),f.Ok→aI C 307 [.agg f.cells,ints room] .nil (aK (BC f room))
 RD:∀n:cN,fM n→aI C 303 [.agg n.cells] .nil (ZK n)
 vj:∀(f:aD)(room:List Int)(xs:List Nat),VF f→rL (cY f room) xs→aI C 308 [.agg f.cells,.agg (cY f room).cells,.sl 1 (fP xs)] .nil (aK (lists (FC f (eZ f room) xs)))
theorem aPI{C:Ctx}(l:aSE C)(f:aD)(M:f.Ok)(room:List Int) :
  OI.wp C (aW RH.res (yg f room)) (PF.args [.agg f.cells,ints room]) .nil:=by
 simp only[go_sem,OI,Ou,RH,Ov];refine aB (l.vp f room M) rfl ?_;simp only[go_sem,BC];refine aQ λq hq=>?_;have I:aO (PH.nil.set q iW) [(q,iW)] []:=aO.nil.new hq iW;generalize(PH.nil.set q iW)=J at *
 have O:=I.at 0 rfl;have w:=I.set 0 rfl (tK (CQ f room));simp only[go_sem,O];generalize J.set q (.rows 4 [(CQ f room).cells])=H2 at *
 have F:=w.at 0 rfl;cases e:dU f with
 |false =>simp only[go_sem,dz,CP e,Ow];refine RE (ws:=[]) (c:=1) (.inl ⟨e,rfl,rfl⟩) ?_;exact EO (.inr rfl) rfl (aO.Uy (w.yN 0))
 |true=>
  have hV:=VF.of e;have R:=hV.small;have N:=EL hV room;rw[CR e]at F w;simp only[go_sem,dz,rK e,Ox,F];refine eR (l.RD _ N) rfl a_ ?_;rintro r H' ⟨xs,S,x,j,y,A,rfl,rfl⟩ -;rw[PH.nZ];have B:=WF hV x j y A;simp only[go_sem,Oy];refine aB (l.total f hV) rfl ?_;by_cases hlt:kT (cY f room) xs<((rO f:Nat):Int)
  ·simp only[go_sem,hlt,Oz];refine RE (ws:=[]) (c:=12) (.inr (.inr ⟨e,λh=>B.2 h hlt,rfl,rfl⟩)) ?_;exact EO (.inr rfl) rfl (aO.Uy (w.yN 0))
  ·obtain⟨u,K,E⟩:=J1 hV x hlt;simp only[go_sem,hlt,O0,F];refine aB (l.vj f room xs hV x.in) rfl ?_;simp only[go_sem];refine RE (ws:=FC f (eZ f room) xs) (c:=0) (.inr (.inl ⟨e,⟨u,K,E⟩,rfl⟩)) ?_;exact bB (vs:=[lists (FC f (eZ f room) xs),.int .i64 0]) (.inr rfl) .nil rfl a_ ⟨.refl _,rfl⟩
def uZ(c:fV)(L:List Bool)(Q:Nat→Prop):Prop:=∀x,Q x→L.getD x false=xW c x
theorem uZ.set{c:fV}{L:List Bool}{Q:Nat→Prop}(h:uZ c L Q){x:Nat}(l:x<Z' L){b:Bool}(hb:b=xW c x):uZ c (L.set x b) (λy=>Q y∨y=x):=λy u=>by
 rw[bgF,bjT];by_cases e:x=y
 ·subst e;rw[aL rfl,aL l];exact hb
 ·rw[aE e,←bgF];exact h y (u.resolve_right λj=>e j.symm)
def qN(f:aD)(k:Nat)(x:Nat):Prop:=x=0∨x=1∨∃v i,v<k∧i<Z' f.beN∧x=cR f v i
def qR(f:aD)(k:Nat)(x:Nat):Prop:=qN f f.beM.length x∨∃d,d<k∧x=bG f d
def JM(f:aD)(c:fV)(o7 e N k:Nat):PF:=(((((PF.nil.set 3 (.bE f.cells)).set 5 (.bE c.cells)).set 7 (.ptr o7 4 0 0)).set 9 (.osl e 1 0 N)).set 10 (.int .i64 (k:Nat)))
def Ir(f:aD)(c:fV)(o7 e N k i:Nat):PF:=(JM f c o7 e N k).set 11 (.int .i64 ((i+1:Nat):Int))
def dt(f:aD)(c:fV)(o7 e N k:Nat):PF:=(((((PF.nil.set 3 (.bE f.cells)).set 5 (.bE c.cells)).set 7 (.ptr o7 4 0 0)).set 9 (.osl e 1 0 N)).set 12 (.int .i64 (k:Nat)))
def qcH(n:cN)(o7 e:Nat)(L:List Bool):PH:=(PH.nil.set o7 (tK n)).set e (.rows 1 (bK L))
theorem aWJ{C:Ctx}(Lb:CE C){K:cQ}[Up K](f:aD)(hV:VF f)(n:cN)(c:fV)(o7 e:Nat)(β:¬o7=e)(N:Nat)(hN:N=bG f f.beK.length)(k:Nat)(Y:k<Z' f.beM)(row:List Bool)(y:c.beU[k]?=some row)(δ:Z' row=Z' f.beN-1)(γ:Z' c.beU=Z' f.beM)(L:List Bool)(B:Z' L=N)(Q:Nat→Prop)(E:Shape f c→uZ c L Q){F:PF}
  (hF:(Ir f c o7 e N k 0).le F)
  (hK:∀L',Z' L'=N→(Shape f c→uZ c L' (λx=>Q x∨∃i,i<Z' f.beN-1∧x=cR f k (i+1)))→K (.exit 2) (JM f c o7 e N k) (qcH n o7 e L')):aC.wp C (.loop vg) K F (qcH n o7 e L):=by
 have X:=hV.small;have Z:=hV.root;have ε:=X.beN;have ζ:=X.beM;refine wp_loop (α:=Nat × List Bool) (λs=>Ir f c o7 e N k s.1) (λs=>qcH n o7 e s.2) (λs=>s.1+1≤Z' f.beN∧s.2.length=N∧(Shape f c→uZ c s.2 (λx=>Q x∨∃i,i<s.1∧x=cR f k (i+1)))) (λs=>Z' f.beN-s.1) (0,L) ⟨by have:=Z.1;omega,B,λh x A=>E h x (A.resolve_right λ⟨i,hi,_⟩=>by omega)⟩ hF b_ ?_;rintro⟨i,L⟩ ⟨hi,B,E⟩;simp only at hi B E;simp only[go_sem,vg,agU,Ir,JM,bfY];by_cases hlt:i+1<Z' f.beN
 ·have u:((i+1:Nat):Int)<(Z' f.beN:Nat):=Om;have V:=eT (Om:i+1<9223372036854775807);have I:IntKind.i64.wrap (((i+1:Nat):Int)-1)=(i:Int):=by rw[wrap_i64 Om Om];omega
  obtain⟨d1,d2⟩:=kV hV Y hlt;have d3:cR f k (i+1)<N:=Nat.lt_of_lt_of_le d2 (by rw[hN];unfold bG;omega);have d4:((cR f k (i+1):Nat):Int)<(N:Nat):=Om;have d5:=fI (R:=L) (i:=cR f k (i+1)) Om;have J:(c.beU.map λw=>[lL w])[k]?=some [lL row]:=by rw[bgT,y];rfl
  have W:(k:Int)<(Z' c.beU:Nat):=Om;have U:i<Z' row:=Om;have S:(i:Int)<(Z' row:Nat):=Om;have M:(row.map λb=>[PV.bool b])[i]?=some [.bool (row.getD i false)]:=fI U;simp only[go_sem,u];refine bA .nil (quS f) a_ ?_;simp only[go_sem,agV];refine wC Lb X Z.1 (v:=k) (i:=i+1) Om Om rfl a_ ?_;simp only[go_sem,bfY,W,J,I,S,M,d4];refine bA .nil cK a_ ?_;have e9:(qcH n o7 e L) e=some (.rows 1 (bK L)):=by unfold qcH;rw[cB]
  have O:(qcH n o7 e L).set e (.rows 1 ((bK L).set (cR f k (i+1)) [.bool (row.getD i false)]))=qcH n o7 e (L.set (cR f k (i+1)) (row.getD i false)):=by unfold qcH;rw[PH.set_set,jM]
  simp only[go_sem,agW,e9,bgL,d5,O];refine⟨a_,?_⟩;simp only[go_sem,agX,V];refine aG (i+1,L.set (cR f k (i+1)) (row.getD i false)) ⟨hlt,by simp only[bhU];exact B,λh x A=>?_⟩ (by simp only;omega) (by(repeat' (first|exact c_|refine d_ ?_ ?_))<;>first|(simp only[go_sem,Ir,JM]<;>rfl)|rfl) b_;refine(E h).set Om ?_ x ?_
  ·rw[arQ h Y Om,bgF (l:=c.beU),y];rfl
  ·rcases A with A|⟨j,hj,A⟩
   ·exact .inl (.inl A)
   ·simp only at hj;rcases bgV j i with c1|c1
    ·exact .inl (.inr ⟨j,c1,A⟩)
    ·have:j=i:=Om;subst this;exact .inr A
 ·have u:¬((i+1:Nat):Int)<(Z' f.beN:Nat):=Om;have:i=Z' f.beN-1:=Om;subst this;simp only[go_sem,u];exact Up.up (by(repeat' (first|exact c_|refine d_ ?_ ?_))<;>first|(simp only[go_sem,Ir,JM]<;>rfl)|rfl) (hK L B E)
theorem aPE{C:Ctx}(O:CE C){K:cQ}[Up K](f:aD)(hV:VF f)(n:cN)(c:fV)(A:Shape f c)(o7 e:Nat)(W:¬o7=e)(N:Nat)(Z:N=bG f f.beK.length)(L:List Bool)(w:Z' L=N)(y:uZ c L (qN f f.beM.length)){F:PF}
  (X:(dt f c o7 e N 0).le F)
  (Y:∀L',Z' L'=N→uZ c L' (qR f f.beK.length)→K (.exit 4) (dt f c o7 e N f.beK.length) (qcH n o7 e L')):aC.wp C (.loop vh) K F (qcH n o7 e L):=by
 have M:=hV.small;have γ:=M.beK;refine wp_loop (α:=Nat × List Bool) (λs=>dt f c o7 e N s.1) (λs=>qcH n o7 e s.2) (λs=>s.1≤Z' f.beK∧s.2.length=N∧uZ c s.2 (qR f s.1)) (λs=>Z' f.beK-s.1) (0,L) ⟨bgE _,w,λx u=>y x (u.resolve_right λ⟨i,hi,_⟩=>by omega)⟩ X b_ ?_;rintro⟨i,L⟩ ⟨hi,w,y⟩;simp only at hi w y;simp only[go_sem,vh,ahA,dt,bfY];by_cases hlt:i<Z' f.beK
 ·have l:(i:Int)<(Z' f.beK:Nat):=Om;have J:=wZz i;have d3:bG f i<N:=by rw[Z];unfold bG;omega
  have S:((bG f i:Nat):Int)<(N:Nat):=Om;have U:=fI (R:=L) (i:=bG f i) Om;have β:=A.d;have I:(i:Int)<(Z' c.bfE:Nat):=Om;have B:(c.bfE.map λb=>[PV.bool b])[i]?=some [.bool (c.bfE.getD i false)]:=fI Om;simp only[go_sem,l];refine bA .nil (quS f) a_ ?_;simp only[go_sem,ahB];refine RZ O M (i:=i) Om rfl a_ ?_;simp only[go_sem,bfY,I,B,S];refine bA .nil cK a_ ?_;have V:(qcH n o7 e L) e=some (.rows 1 (bK L)):=by unfold qcH;rw[cB]
  have E:(qcH n o7 e L).set e (.rows 1 ((bK L).set (bG f i) [.bool (c.bfE.getD i false)]))=qcH n o7 e (L.set (bG f i) (c.bfE.getD i false)):=by unfold qcH;rw[PH.set_set,jM]
  simp only[go_sem,ahC,V,bgL,U,E];refine⟨a_,?_⟩;simp only[go_sem,ahD,J];refine aG (i+1,L.set (bG f i) (c.bfE.getD i false)) ⟨hlt,by simp only[bhU];exact w,λx u=>?_⟩ (by simp only;omega) (by(repeat' (first|exact c_|refine d_ ?_ ?_))<;>first|(simp only[go_sem,dt]<;>rfl)|rfl) b_;refine y.set Om (arR hV A).symm x ?_;rcases u with u|⟨j,hj,u⟩
  ·exact .inl (.inl u)
  ·simp only at hj;rcases bgV j i with c1|c1
   ·exact .inl (.inr ⟨j,c1,u⟩)
   ·have:j=i:=Om;subst this;exact .inr u
 ·have l:¬(i:Int)<(Z' f.beK:Nat):=Om;have:i=Z' f.beK:=Om;subst this;simp only[go_sem,l];exact Up.up (by(repeat' (first|exact c_|refine d_ ?_ ?_))<;>first|(simp only[go_sem,dt]<;>rfl)|rfl) (Y L w y)
theorem aqB(n:Nat):bgA n [PV.bool false]=bK (bgA n false):=by
 show _=List.map _ (bgA n false);rw[List.map_replicate]
theorem a2Y{C:Ctx}(N:aSE C)(U:∀(n:cN)(cut:List Bool),fM n→i5 n cut→aI C 301 [.agg n.cells,lL cut] .nil (aK (.tup [.int .i64 ((eH (λw=>cut.getD w false) n.arcs:Nat):Int),.bool true])))
  (f:aD) (hf:f.Ok) (room:List Int) (c:fV) (hc:Z' c.vols≤1000000∧Z' c.beU≤1000000∧Z' c.bfE≤1000000) :
  du.wp C (aW Is.res (aK (.bool (tO f room c)))) (PF.args [.agg f.cells,ints room,.agg c.cells]) .nil:=by
 have J:tO f room c=(dU f&&(c.shape f&&decide (eH (xW c) (eZ f room)<rO f))):=rfl;obtain⟨Φ,Ψ,Ω⟩:=hc;simp only[go_sem,du,aAC,Is,aAD];refine aB (N.vp f room hf) rfl ?_;simp only[go_sem,BC];refine aQ λq hq=>?_;have h1:aO (PH.nil.set q iW) [(q,iW)] []:=aO.nil.new hq iW;cases E:dU f with
 |false=>
  generalize(PH.nil.set q iW)=H1 at *
  have q1:=h1.at 0 rfl;simp only[go_sem,q1];generalize H1.set q (.rows 4 [(CQ f room).cells])=H2 at *
  simp only[go_sem,IH,CP E,RG];exact mJ (b:=false) rfl (by rw[J,E];rfl)
 |true=>
  have hV:=VF.of E;have hs:=hV.small;have hr:=hV.root;have a':=hs.beN;have b':=hs.beK;have c':=hs.beM;have hn:=EL hV room;have Λ:=hn.few;have Ξ:=hn.two;have ψ:(cY f room).nodes=bG f f.beK.length:=rfl;rw[E,bgO]at J;have Γ:=CR E room;simp only[go_sem,Γ];by_cases c1:Z' c.vols=Z' f.beM
  ·by_cases Z:Z' c.beU=Z' f.beM
   ·by_cases c3:Z' c.bfE=Z' f.beK
    ·have μ:((bG f f.beK.length:Nat):Int)*((1:Nat):Int)≤140737488355328:=Om;have ν:((bG f f.beK.length:Nat):Int)≤9223372036854775807:=Om;have ξ:(0:Int)≤((bG f f.beK.length:Nat):Int):=Om;simp only[go_sem,IH,rK E,bfY,bR (Om:(Z' c.vols:Int)=(Z' f.beM:Nat)),bR (Om:(Z' c.beU:Int)=(Z' f.beM:Nat)),bR (Om:(Z' c.bfE:Int)=(Z' f.beK:Nat)),aAE,ψ,μ,ν,ξ,Int.le_refl,biR];refine aQ λo ho=>?_;rw[aqB];have I:¬q=o:=λe=>by rw[←e,cB]at ho;cases ho
     have ε:(0:Int)<((bG f f.beK.length:Nat):Int):=Om;have Θ:=fI (R:=bgA (bG f f.beK.length) false) (i:=0) (by rw[bjP];omega);generalize A:(bgA (bG f f.beK.length) false).set 0 true=M;have S:Z' M=bG f f.beK.length:=by rw[←A,bhU,bjP]
     have O:uZ c M (qN f 0):=λx hx=>by
      rcases hx with rfl|rfl|⟨v,i,E,_⟩
      ·rw[←A,bgF,List.getElem?_set_self (by rw[bjP];omega)];rfl
      ·rw[←A,bgF,List.getElem?_set_ne aV,bkC];split<;>rfl
      ·omega
     have η:((PH.nil.set q (.rows 4 [(cY f room).cells])).set o (.rows 1 ((bK (bgA (bG f f.beK.length) false)).set 0 [.bool true])))=qcH (cY f room) q o M:=by unfold qcH;rw[jM,A]
     simp only[go_sem,aAF,ε,bgL,Θ];have χ:(qcH (cY f room) q o M).le ((PH.nil.set q (.rows 4 [(cY f room).cells])).set o (.rows 1 ((bK (bgA (bG f f.beK.length) false)).set 0 [.bool true]))):=by rw[η];exact b_
     simp only[go_sem,aAG];refine wp_loop (α:=Nat × List Bool) (λs=>JM f c q o (bG f f.beK.length) s.1) (λs=>qcH (cY f room) q o s.2) (λs=>s.1≤Z' f.beM∧Dd f c s.1∧s.2.length=bG f f.beK.length∧(Shape f c→uZ c s.2 (qN f s.1))) (λs=>Z' f.beM-s.1) (0,M) ⟨bgE _,λr h=>by simp at h,S,λ_=>O⟩ (by(repeat' (first|exact c_|refine d_ ?_ ?_))<;>first|(simp only[go_sem,JM]<;>rfl)|rfl) (by first|exact χ|(unfold qcH;exact e_ (e_ a_ (by simp only[go_sem,I])) (by simp only[go_sem,jM,A]))) ?_;rintro⟨k,L⟩ ⟨hk,K,hL,hQ⟩;simp only at hk K hL hQ;simp only[go_sem,agQ,aAH,JM,bfY];by_cases hlt:k<Z' f.beM
     ·have B:(k:Int)<(Z' f.beM:Nat):=Om;have φ:=wZz k;have F:k<Z' c.beU:=Om;have X:(k:Int)<(Z' c.beU:Nat):=Om;have κ:(c.beU.map λw=>[lL w])[k]?=some [lL c.beU[k]]:=by simp[F]
      have W:c.beU[k]?=some c.beU[k]:=bgH F;have hw:IntKind.i64.wrap ((Z' f.beN:Int)-1)=((Z' f.beN-1:Nat):Int):=by rw[wrap_i64 Om Om];omega
      have Δ:c.beU.take (k+1)=c.beU.take k++[c.beU[k]]:=bhW F;have ω:=aiY (f:=f) F;generalize c.beU[k]=row at *
      simp only[go_sem,B];refine bA .nil cK a_ ?_;simp only[go_sem,aAI,bfY,X,κ,hw];by_cases cr:Z' row=Z' f.beN-1
      ·simp only[go_sem,bR (Om:(Z' row:Int)=((Z' f.beN-1:Nat):Int))];have d2:=(kV hV hlt hr.1).2;have d3:cR f k 0<bG f f.beK.length:=Nat.lt_of_lt_of_le d2 (by unfold bG;omega);have d4:((cR f k 0:Nat):Int)<((bG f f.beK.length:Nat):Int):=Om;have d5:=fI (R:=L) (i:=cR f k 0) Om;have υ:(k:Int)<(Z' c.vols:Nat):=Om;have ο:(c.vols.map λb=>[PV.bool b])[k]?=some [.bool (c.vols.getD k false)]:=fI Om;have e9:(qcH (cY f room) q o L) o=some (.rows 1 (bK L)):=by unfold qcH;rw[cB]
       have σ:(qcH (cY f room) q o L).set o (.rows 1 ((bK L).set (cR f k 0) [.bool (c.vols.getD k false)]))=qcH (cY f room) q o (L.set (cR f k 0) (c.vols.getD k false)):=by unfold qcH;rw[PH.set_set,jM]
       refine bA .nil (quS f) a_ ?_;simp only[go_sem,agR];refine wC N.toCE hs hr.1 (v:=k) (i:=0) Om Om rfl a_ ?_;simp only[go_sem,bfY,υ,ο,d4];refine bA .nil cK a_ ?_;simp only[go_sem,agS,e9,bgL,d5,σ];refine⟨a_,?_⟩;have ι:Shape f c→uZ c (L.set (cR f k 0) (c.vols.getD k false)) (λy=>qN f k y∨y=cR f k 0):=λh=>(hQ h).set Om (arS h hlt).symm;simp only[go_sem,agT];refine aWJ N.toCE f hV (cY f room) c q o I _ rfl k hlt row W cr Z (L.set (cR f k 0) (c.vols.getD k false)) (by rw[bhU];exact hL) _ ι (by(repeat' (first|exact c_|refine d_ ?_ ?_))<;>first|(simp only[go_sem,Ir,JM]<;>rfl)|rfl) λL' u l=>?_;simp only[go_sem,agY,JM,φ];refine aG (k+1,L') ⟨hlt,?_,u,λh x hx=>l h x ?_⟩ (by simp only;omega) (by(repeat' (first|exact c_|refine d_ ?_ ?_))<;>first|(simp only[go_sem,JM]<;>rfl)|rfl) b_
       ·intro r hr;simp only at hr;rw[Δ]at hr;rcases bhK.1 hr with hr|hr
        ·exact K r hr
        ·rw[bhI]at hr;subst hr;exact cr
       ·simp only at hx;rcases hx with hx|hx|⟨v,i,g1,g2,g3⟩
        ·exact .inl (.inl (.inl hx))
        ·exact .inl (.inl (.inr (.inl hx)))
        ·rcases bgV v k with c4|c4
         ·exact .inl (.inl (.inr (.inr ⟨v,i,c4,g2,g3⟩)))
         ·have:v=k:=Om;subst this;cases i with
          |zero=>exact .inl (.inr g3)
          |succ i=>exact .inr ⟨i,by omega,g3⟩
      ·simp only[go_sem,cP (Om:¬(Z' row:Int)=((Z' f.beN-1:Nat):Int)),aAJ];exact mJ (b:=false) rfl (by rw[J,ω cr];rfl)
     ·have B:¬(k:Int)<(Z' f.beM:Nat):=Om;have τ:k=Z' f.beM:=Om;subst τ;have j:Shape f c:=⟨c1,Z,c3,by have:=K;unfold Dd at this;rwa[←Z,bhA]at this⟩;simp only[go_sem,B,agZ];refine aPE N.toCE f hV (cY f room) c j q o I _ rfl L hL (hQ j) (by(repeat' (first|exact c_|refine d_ ?_ ?_))<;>first|(simp only[go_sem,dt]<;>rfl)|rfl) λL' u l=>?_;have ζ:i5 (cY f room) L':=⟨u,l 0 (.inl (.inl rfl)),l 1 (.inl (.inr (.inl rfl)))⟩;have V:=U (cY f room) L' hn ζ;have ρ:eH (λw=>L'.getD w false) (cY f room).arcs=eH (xW c) (eZ f room):=V1 hV room (l 0 (.inl (.inl rfl))) (l 1 (.inl (.inr (.inl rfl)))) (λv i g1 g2=>l _ (.inl (.inr (.inr ⟨v,i,g1,g2,rfl⟩)))) λd g1=>l _ (.inr ⟨d,g1,rfl⟩);rw[ρ]at V;have e7:(qcH (cY f room) q o L') q=some (.rows 4 [(cY f room).cells]):=by unfold qcH;rw[aR,aE I,cB]
      have e9:(qcH (cY f room) q o L') o=some (.rows 1 (bK L')):=by unfold qcH;rw[cB]
      have Y:PH.le (PH.nil.set o (.rows 1 (bK L'))) (qcH (cY f room) q o L'):=e_ a_ e9;simp only[go_sem,ahE,dt,e7];refine eR (H0:=PH.nil.set o (.rows 1 (bK L'))) (vs:=[.agg (cY f room).cells,.osl o 1 0 (bG f f.beK.length)]) (aI.aZI (ym.pair _ _) (v:=.tup [.int .i64 ((eH (xW c) (eZ f room):Nat):Int),.bool true]) ?_) rfl Y ?_
      ·have e3:([.agg (cY f room).cells,.osl o 1 0 (bG f f.beK.length)]:List PV).map (PV.frz o 1 (bK L'))=[.agg (cY f room).cells,lL L']:=by show[PV.agg _,PV.frz o 1 (bK L') (.osl o 1 0 (bG f f.beK.length))]=_;rw[zV (by rw[jZ,u];exact bgG _),bgR (by rw[jZ,u];exact bgG _)];rfl
       rw[e3];exact V
      ·rintro r H' ⟨rfl,rfl⟩ -;rw[PH.over_self _ Y];rw[EP.2 j,bgO]at J;have θ:tO f room c=decide (((eH (xW c) (eZ f room):Nat):Int)<((rO f:Nat):Int)):=by rw[J];exact decide_eq_decide.2 ⟨λh=>Int.ofNat_lt.2 h,λh=>Int.ofNat_lt.1 h⟩
       generalize eH (xW c) (eZ f room)=cp at *
       simp only[go_sem,ahF];refine aB (N.total f hV) rfl ?_;simp only[go_sem];exact mJ rfl θ.symm
    ·have δ:¬(Z' c.bfE:Int)=(Z' f.beK:Nat):=Om;simp only[go_sem,IH,rK E,bfY,bR (Om:(Z' c.vols:Int)=(Z' f.beM:Nat)),bR (Om:(Z' c.beU:Int)=(Z' f.beM:Nat)),cP δ,RG];exact mJ (b:=false) rfl (by rw[J,fV.shape,bV c3];simp)
   ·have γ:¬(Z' c.beU:Int)=(Z' f.beM:Nat):=Om;simp only[go_sem,IH,rK E,bfY,bR (Om:(Z' c.vols:Int)=(Z' f.beM:Nat)),cP γ,RG];exact mJ (b:=false) rfl (by rw[J,fV.shape,bV Z];simp)
  ·have β:¬(Z' c.vols:Int)=(Z' f.beM:Nat):=Om;simp only[go_sem,IH,rK E,bfY,cP β,RG];exact mJ (b:=false) rfl (by rw[J,fV.shape,bV c1];simp)
structure WO where
 z:Nat
 n:Nat
 c:Nat
def zP(f:aD)(S:Nat→Bool)(e:WO)(k:Nat):PF:=(((((((PF.nil.set 2 (.bE f.cells)).set 4 (.ptr e.z 3 0 0)).set 10 (.sl 1 (bK ((bfZ (bG f f.beK.length)).map S)))).set 12 (.ptr e.n 2 0 0)).set 13 (.ptr e.c 3 0 0)).set 48 (.int .i64 (Z' f.beM:Nat))).set 49 (.int .i64 (k:Nat)))
def Ji(f:aD)(S:Nat→Bool)(e:WO)(k:Nat)(w:PV)(i:Nat):PF:=(((zP f S e k).set 14 (.int .i64 (k:Nat))).set 15 w).set 16 (.int .i64 ((i+1:Nat):Int))
def ij(f:aD)(S:Nat→Bool)(e:WO)(k:Nat):PF:=((((((PF.nil.set 4 (.ptr e.z 3 0 0)).set 10 (.sl 1 (bK ((bfZ (bG f f.beK.length)).map S)))).set 12 (.ptr e.n 2 0 0)).set 13 (.ptr e.c 3 0 0)).set 93 (.int .i64 (Z' f.beK:Nat))).set 94 (.int .i64 (k:Nat)))
theorem aTO{C:Ctx}(R:rM C){K:cQ}[Up K](f:aD)(hV:VF f)(S:Nat→Bool)(e:WO)(k:Nat)(hk:k<Z' f.beM)(y L1:LI)(B:List BX)(w:PV)(x:∃q n,w=.osl q 1 0 n){F:PF}{H:PH}
  (Y:B[0]?=some (e.n,jJ f)) (l:aO H B [y,L1,(w,1,[])]) (Z:(Ji f S e k w 0).le F)
  (hK:∀u H',(∃q n,u=.osl q 1 0 n)→aO H' B [y,L1,(u,1,bK (AP f S k (Z' f.beN-1)))]→K (.exit 2) ((zP f S e k).set 15 u) H'):aC.wp C (.loop rp) K F H:=by
 have E:=hV.small;have O:=hV.root;have β:=E.beN;have γ:=E.beM;refine wp_loop (α:=Nat × PV × PH) (λs=>Ji f S e k s.2.1 s.1) (λs=>s.2.2) (λs=>s.1+1≤Z' f.beN∧(∃q n,s.2.1=.osl q 1 0 n)∧aO s.2.2 B [y,L1,(s.2.1,1,bK (AP f S k s.1))]) (λs=>Z' f.beN-s.1) (0,w,H) ⟨by have:=O.1;omega,x,l⟩ Z b_ ?_;rintro⟨i,w,H0⟩ ⟨hi,x,l⟩;simp only at hi x l;simp only[go_sem,rp,X2,Ji,zP,bfY];by_cases hlt:i+1<Z' f.beN
 ·have j:((i+1:Nat):Int)<(Z' f.beN:Nat):=Om;have A:=eT (Om:i+1<9223372036854775807);have X:H0 e.n=some (jJ f):=l.at 0 Y;obtain⟨d1,U⟩:=kV hV hk hlt;have V:cR f k (i+1)<bG f f.beK.length:=Nat.lt_of_lt_of_le U (by unfold bG;omega);have W:((cR f k (i+1):Nat):Int)<((bG f f.beK.length:Nat):Int):=Om;have I:=wt (S:=S) V;have M:(AP f S k i).length=i:=by simp[AP]
  simp only[go_sem,j,X3,X];refine aB (R.dom f E O.1 k (i+1) Om Om) rfl ?_;simp only[go_sem,bfY,biU,W,I];refine l.append 2 (src:=[[.bool (S (cR f k (i+1)))]]) rfl rfl (by unfold roomFor;rw[jZ,M];simp only[bgI,maxLen];omega) λu H' N J=>?_;obtain⟨q,hq⟩:=J aY;rw[RW,show AP f S k i++[S (cR f k (i+1))]=AP f S k (i+1)from(xG _ _).symm]at N;simp only[go_sem,X4,A];exact aG (i+1,u,H') ⟨hlt,⟨q,_,hq⟩,N⟩ (by simp only;omega) (by(repeat' (first|exact c_|refine d_ ?_ ?_))<;>first|(simp only[go_sem,Ji,zP]<;>rfl)|rfl) b_
 ·have j:¬((i+1:Nat):Int)<(Z' f.beN:Nat):=Om;have:i=Z' f.beN-1:=Om;subst this;simp only[go_sem,j];exact Up.up (by(repeat' (first|exact c_|refine d_ ?_ ?_))<;>first|(simp only[go_sem,Ji,zP]<;>rfl)|rfl) (hK w H0 x l)
theorem aMV{C:Ctx}(Lb:rM C){K:cQ}[Up K](f:aD)(hV:VF f)(S:Nat→Bool)(e:WO){F:PF}{H:PH}
  (I:aO H [(e.n,jJ f),(e.c,lD .aH .aH .aH),(e.z,lD .aH .aH .aH)] [(.aH,1,[]),(.aH,1,[])]) (hF:(zP f S e 0).le F)
  (hK:∀M A j H',uY j (jc f S f.beM.length)→aO H' [(e.n,jJ f),(e.c,lD M A .aH),(e.z,lD .aH .aH .aH)] [(M,1,bK (MX f S f.beM.length)),(A,1,j)]→K (.exit 0) (zP f S e f.beM.length) H'):aC.wp C (.loop ru) K F H:=by
 have hs:=hV.small;have hr:=hV.root;have ν:=hs.beN;have ξ:=hs.beM;have Y:(Z' f.beN:Int)*((1:Nat):Int)≤140737488355328:=Om;have Z:(Z' f.beN:Int)≤9223372036854775807:=Om;have β:(0:Int)≤(Z' f.beN:Int):=Om;refine wp_loop (α:=Nat × PV × PV × List (List PV) × PH) (λs=>zP f S e s.1) (λs=>s.2.2.2.2) (λs=>s.1≤Z' f.beM∧uY s.2.2.2.1 (jc f S s.1)∧aO s.2.2.2.2 [(e.n,jJ f),(e.c,lD s.2.1 s.2.2.1 .aH),(e.z,lD .aH .aH .aH)] [(s.2.1,1,bK (MX f S s.1)),(s.2.2.1,1,s.2.2.2.1)]) (λs=>Z' f.beM-s.1) (0,.aH,.aH,[],H) ⟨bgE _,.nil,I⟩ hF b_ ?_;rintro⟨k,M,A,j,H0⟩ ⟨hk,u,I⟩;simp only at hk u I;simp only[go_sem,ru,Xw,zP];by_cases hlt:k<Z' f.beM
 ·have l:(k:Int)<(Z' f.beM:Nat):=Om;have δ:=wZz k;have d2:=(kV hV hlt hr.1).2;have d3:2+k<bG f f.beK.length:=by rw[aMB]at d2;exact Nat.lt_of_lt_of_le d2 (by unfold bG;omega)
  have d4:((2+k:Nat):Int)<((bG f f.beK.length:Nat):Int):=Om;have ζ:=wt (S:=S) d3;have η:(MX f S k).length=k:=by simp[MX]
  have γ:Z' j=k:=by rw[u.1];simp[jc]
  have e6:H0 e.n=some (jJ f):=I.at 0 rfl;have ec:H0 e.c=some (lD M A .aH):=I.at 1 rfl;simp only[go_sem,l,Xx];refine bA (PH.nil.set e.c (lD M A .aH)) (IQ f [] (λ_ _=>True)) (e_ a_ ec) ?_;simp only[go_sem,Xy,e6];refine V3 Lb (v:=k) Om rfl (e_ a_ ec) ?_;simp only[go_sem,bfY,biU,d4,ζ];refine I.append 0 (src:=[[.bool (S (2+k))]]) rfl rfl (by unfold roomFor;rw[jZ,η];simp only[bgI,maxLen];omega) λο H1 R J=>?_;obtain⟨y,N⟩:=J aY;rw[RW,show MX f S k++[S (2+k)]=MX f S (k+1)from(xG _ _).symm]at R;refine⟨e_ a_ (R.at 1 rfl),?_⟩;refine bA .nil cK a_ ?_;have U:=R.at 1 rfl;generalize κ:((bK (MX f S k)++[[PV.bool (S (2+k))]]).length)=w at N;subst N;simp only[go_sem,Xz,U];refine⟨a_,?_⟩;have h2:=R.set 1 rfl (lD (.osl y 1 0 w) A .aH);generalize H1.set e.c (.rows 3 [[.osl y 1 0 w,A,.aH]])=H2 at *
  simp only[go_sem,X0,bfY,Y,Z,β,Int.le_refl,biR];refine aQ λqr ε=>?_;have h3:=h2.Ib (s:=1) (rows:=[]) ε;simp only[go_sem,X1];refine aTO Lb f hV S e k hlt _ _ _ (.osl qr 1 0 0) ⟨_,_,rfl⟩ rfl h3 (by(repeat' (first|exact c_|refine d_ ?_ ?_))<;>first|(simp only[go_sem,Ji,zP]<;>rfl)|rfl) λw' H4 θ X=>?_;obtain⟨q,n,rfl⟩:=θ;have V:=X.at 1 rfl;have hn:n=(bK (AP f S k (Z' f.beN-1))).length:=by obtain⟨rs,-,e2,-⟩:=(X.own 2 rfl).id rfl;injection e2
  simp only[go_sem,X5,zP,V];refine X.append 1 (src:=[[.osl q 1 0 n]]) rfl rfl (by unfold roomFor;rw[γ];simp only[bgI,maxLen];omega) λι H5 h5 J=>?_;obtain⟨E,O⟩:=J aY;have W:=h5.at 1 rfl;generalize μ:(j++[[PV.osl q 1 0 n]]).length=B at O;subst O;have h6:=h5.set 1 rfl (lD (.osl y 1 0 w) (.osl E 1 0 B) .aH);simp only[go_sem,W];generalize H5.set e.c (.rows 3 [[.osl y 1 0 w,.osl E 1 0 B,.aH]])=H6 at *
  refine⟨_,aL (λx hx=>by rw[bhI]at hx;subst hx;rfl),?_⟩;subst hn;obtain⟨rs,z1,z2,z3,z4,z5⟩:=h6.frz 2 rfl;have y0:=z4 0 _ aV rfl;have y1:=z4 1 _ aV rfl;simp only at y0 y1;simp only[go_sem,X6,δ];refine br (k+1,PV.osl y 1 0 w,PV.osl E 1 0 B,j++[[lL (AP f S k (Z' f.beN-1))]],H6.frz q 1 rs) z1 ⟨hlt,?_,?_⟩ (by simp only;omega) (by(repeat' (first|exact c_|refine d_ ?_ ?_))<;>first|(simp only[go_sem,zP]<;>rfl)|rfl) b_
  ·simp only;rw[show jc f S (k+1)=jc f S k++[AP f S k (Z' f.beN-1)]from xG _ _];exact u.snoc (.inl rfl)
  ·simp only;have eB:([(e.n,jJ f),(e.c,lD (.osl y 1 0 w) (.osl E 1 0 B) .aH),(e.z,lD .aH .aH .aH)]:List BX).map (λb=>(b.1,b.2.frz q 1 rs))=[(e.n,jJ f),(e.c,lD (.osl y 1 0 w) (.osl E 1 0 B) .aH),(e.z,lD .aH .aH .aH)]:=by show[(e.n,jJ f),(e.c,cI.rows 3 [[PV.dM q 1 rs (.osl y 1 0 w),PV.dM q 1 rs (.osl E 1 0 B),.aH]]),(e.z,lD .aH .aH .aH)]=_;rw[y0,y1]
   have e5:(j++[[PV.osl q 1 0 (bK (AP f S k (Z' f.beN-1))).length]]).map (λr=>r.map (PV.dM q 1 rs))=j++[[lL (AP f S k (Z' f.beN-1))]]:=by rw[bhM,u.flat];show j++[[PV.dM q 1 rs (.osl q 1 0 (bK (AP f S k (Z' f.beN-1))).length)]]=_;rw[z2]
   have z6:aO (H6.frz q 1 rs) ([(e.n,jJ f),(e.c,lD (.osl y 1 0 w) (.osl E 1 0 B) .aH),(e.z,lD .aH .aH .aH)].map (λb=>(b.1,b.2.frz q 1 rs))) [(.osl y 1 0 w,1,(bK (MX f S (k+1))).map λr=>r.map (PV.dM q 1 rs)),(.osl E 1 0 B,1,(j++[[PV.osl q 1 0 (bK (AP f S k (Z' f.beN-1))).length]]).map λr=>r.map (PV.dM q 1 rs))]:=z5;rw[eB,e5,RV]at z6;exact z6
 ·have l:¬(k:Int)<(Z' f.beM:Nat):=Om;have:k=Z' f.beM:=Om;subst this;simp only[go_sem,l];exact Up.up (by(repeat' (first|exact c_|refine d_ ?_ ?_))<;>first|(simp only[go_sem,zP]<;>rfl)|rfl) (hK M A j H0 u I)
theorem aMU{C:Ctx}(X:rM C){K:cQ}[Up K](f:aD)(hV:VF f)(S:Nat→Bool)(e:WO)(B:LI)(l x:PV)(I:List (List PV)){F:PF}{H:PH}
  (u:aO H [(e.n,jJ f),(e.c,lD x l .aH),(e.z,lD .aH .aH .aH)] [B,(l,1,I),(.aH,1,[])]) (hF:(ij f S e 0).le F)
  (hK:∀w H',aO H' [(e.n,jJ f),(e.c,lD x l w),(e.z,lD .aH .aH .aH)] [B,(l,1,I),(w,1,bK (ZV f S f.beK.length))]→K (.exit 4) (ij f S e f.beK.length) H'):aC.wp C (.loop rx) K F H:=by
 have U:=hV.small;have γ:=U.beK;refine wp_loop (α:=Nat × PV × PH) (λs=>ij f S e s.1) (λs=>s.2.2) (λs=>s.1≤Z' f.beK∧aO s.2.2 [(e.n,jJ f),(e.c,lD x l s.2.1),(e.z,lD .aH .aH .aH)] [B,(l,1,I),(s.2.1,1,bK (ZV f S s.1))]) (λs=>Z' f.beK-s.1) (0,.aH,H) ⟨bgE _,u⟩ hF b_ ?_;rintro⟨k,w,H0⟩ ⟨hk,u⟩;simp only at hk u;simp only[go_sem,rx,X8,ij];by_cases hlt:k<Z' f.beK
 ·have j:(k:Int)<(Z' f.beK:Nat):=Om;have J:=wZz k;have Y:bG f k<bG f f.beK.length:=by unfold bG;omega
  have Z:((bG f k:Nat):Int)<((bG f f.beK.length:Nat):Int):=Om;have M:=wt (S:=S) Y;have O:(ZV f S k).length=k:=by simp[ZV]
  have e6:H0 e.n=some (jJ f):=u.at 0 rfl;have R:H0 e.c=some (lD x l w):=u.at 1 rfl;simp only[go_sem,j,X9];refine bA (PH.nil.set e.c (lD x l w)) (IQ f [] (λ_ _=>True)) (e_ a_ R) ?_;simp only[go_sem,Ya,e6];refine IU X U (i:=k) Om rfl (e_ a_ R) ?_;simp only[go_sem,bfY,biU,Z,M];refine u.append 2 (src:=[[.bool (S (bG f k))]]) rfl rfl (by unfold roomFor;rw[jZ,O];simp only[bgI,maxLen];omega) λδ H1 A N=>?_;obtain⟨W,y⟩:=N aY;rw[RW,show ZV f S k++[S (bG f k)]=ZV f S (k+1)from(xG _ _).symm]at A;refine⟨e_ a_ (A.at 1 rfl),?_⟩;refine bA .nil cK a_ ?_;have E:=A.at 1 rfl;generalize β:((bK (ZV f S k)++[[PV.bool (S (bG f k))]]).length)=V at y;subst y;simp only[go_sem,Yb,E];refine⟨a_,?_⟩;have h2:=A.set 1 rfl (lD x l (.osl W 1 0 V));simp only[go_sem,Yc,J];exact aG (k+1,.osl W 1 0 V,_) ⟨hlt,h2⟩ (by simp only;omega) (by(repeat' (first|exact c_|refine d_ ?_ ?_))<;>first|(simp only[go_sem,ij]<;>rfl)|rfl) b_
 ·have j:¬(k:Int)<(Z' f.beK:Nat):=Om;have:k=Z' f.beK:=Om;subst this;simp only[go_sem,j];exact Up.up (by(repeat' (first|exact c_|refine d_ ?_ ?_))<;>first|(simp only[go_sem,ij]<;>rfl)|rfl) (hK w H0 u)
theorem a0X{C:Ctx}(x:ZG C)(f:aD)(hf:f.Ok)(room:List Int) :
  av.wp C (aW aTN.res (aSG f room)) (PF.args [.agg f.cells,ints room]) .nil:=by
 simp only[go_sem,av,auA,aTN];refine aQ λz hz=>?_;have h0:aO (PH.nil.set z (lD .aH .aH .aH)) [(z,lD .aH .aH .aH)] []:=aO.nil.new hz (lD .aH .aH .aH);generalize(PH.nil.set z (.rows 3 [[.aH,.aH,.aH]]))=H0 at *
 simp only[go_sem,auB];refine aB (x.net f room hf) rfl ?_;simp only[go_sem,BC];refine h0.yW λq H1 Y=>?_;have q1:=Y.at 1 rfl;have y:=Y.set 1 rfl (tK (CQ f room));simp only[go_sem,q1];generalize H1.set q (.rows 4 [(CQ f room).cells])=H2 at *
 have q2:=y.at 1 rfl;have z2:=y.at 0 rfl;have no:∀(F:PF)(H:PH),aO H [(z,lD .aH .aH .aH),(q,tK (CQ f room))] []→F 4=some (.ptr z 3 0 0)→F 5=some (.bool false)→aW [.cell 4 (some 3),.tmp 5] (cT (.tup [.agg (fV.cells V2),.bool false])) .ret F H:=by intro F H h f4 f5;have e0:=h.at 0 rfl;have h':aO H [] [(.aH,1,bK []),(.aH,1,[]),(.aH,1,bK [])]:=(((h.sub (List.nil_sublist _) (biK.refl _)).oV 1).oV 1).oV 1;exact aiH (.inr rfl) (by simp only[go_sem,f4,f5,e0]) .nil h'
 cases w:dU f with
 |false =>simp only[go_sem,G7,CP w,auC,z2];refine aYR (c:=V2) (b:=false) (.inl ⟨w,rfl,rfl⟩) ?_;exact no _ _ (y.set 0 rfl (lD .aH .aH .aH)) rfl rfl
 |true=>
  have hV:=VF.of w;have hs:=hV.small;have hn:=EL hV room;have O:=q2;rw[CR w]at O;simp only[go_sem,G7,rK w,auD,O];refine eR (x.solve _ hn) rfl a_ ?_;rintro r H' ⟨xs,S,M,u,A,B,rfl,rfl⟩ -;rw[PH.nZ];have I:=WF hV M u A B;have α:=a6N hV M;simp only[go_sem,auE];refine aB (x.demand f hV) rfl ?_;by_cases E:kT (cY f room) xs=((rO f:Nat):Int)
  ·simp only[go_sem,bT E,auF,z2];refine aYR (c:=V2) (b:=false) (.inr (.inl ⟨w,I.1 Om,rfl,rfl⟩)) ?_;exact no _ _ (y.set 0 rfl (lD .aH .aH .aH)) rfl rfl
  ·have J:¬EX f room:=λh=>I.2 h Om;simp only[go_sem,bD E,auG,bfY];refine y.yW λe H3 Z=>?_;have g3:=Z.at 2 rfl;have h4:=Z.set 2 rfl (jJ f);simp only[go_sem,g3];generalize H3.set e (.rows 2 [[.int .i64 (Z' f.beM:Nat),.int .i64 (Z' f.beN:Nat)]])=H4 at *
   simp only[go_sem,auH];refine h4.yW λj H5 h5=>?_;have h6:aO H5 [(e,jJ f),(j,lD .aH .aH .aH),(z,lD .aH .aH .aH)] [(.aH,1,[]),(.aH,1,[])]:=by refine((((h5.yN 1).oV 1).oV 1).perm ?_ (biT.refl _));exact List.perm_append_comm (l₁:=[(z,lD .aH .aH .aH)]) (l₂:=[(e,jJ f),(j,lD .aH .aH .aH)])
   simp only[go_sem,auI,bfY];refine aMV x.torM f hV S ⟨z,e,j⟩ h6 (by(repeat' (first|exact c_|refine d_ ?_ ?_))<;>first|(simp only[go_sem,zP]<;>rfl)|rfl) λR U fs H6 N h7=>?_;simp only[go_sem,X7,zP,bfY];refine aMU x.torM f hV S ⟨z,e,j⟩ (R,1,bK (MX f S f.beM.length)) U R fs (h7.oV 1) (by(repeat' (first|exact c_|refine d_ ?_ ?_))<;>first|(simp only[go_sem,ij]<;>rfl)|rfl) λrv H7 h8=>?_;have ec:=h8.at 1 rfl;have ez:=h8.at 2 rfl;have K:=h8.set 2 rfl (lD R U rv);simp only[go_sem,Yd,ij,ec,ez];have l:=aRQ hV M (S:=S) A B u J;rw[aSS]at l;refine⟨_,aL ?_,?_⟩
   ·rcases K.own 0 rfl with⟨_,V⟩|⟨q1,rs1,V,_⟩<;>rcases K.own 1 rfl with⟨_,W⟩|⟨q2,rs2,W,_⟩<;>rcases K.own 2 rfl with⟨_,X⟩|⟨O,rs3,X,_⟩<;>rw[V,W,X]<;>rfl
   refine aYR (b:=true) (.inr (.inr ⟨w,J,l,rfl⟩)) ?_;exact aiH (.inr rfl) Sq N (K.sub (List.nil_sublist _) (biK.refl _))
theorem a0Q {C : Ctx} (f : aD) (hV : VF f) : aj.wp C (aW aTH.res (aK (.int .i64 ((rO f : Nat) : Int)))) (PF.args [.agg f.cells]) .nil := by
  have hs := hV.small.beM;simp only[go_sem,aj,asZ,atA,atB,aTH,bfY];refine wp_loop (α := Nat) (fun k => (((((PF.nil.set 1 (.bE f.cells)).set 3 (.int .i64 ((dO (gP f) k : Nat) : Int))).set 7 (.sl 2 (f.beM.map iY.cells))).set 8 (.int .i64 (f.beM.length : Nat))).set 9 (.int .i64 (k : Nat)))) (fun _ => .nil) (fun k => k ≤ f.beM.length) (fun k => f.beM.length - k) 0 (bgE _) (by (repeat' (first|exact c_|refine d_ ?_ ?_)) <;> first|(simp only[go_sem,dO] <;> rfl)|rfl) a_ ?_;intro k hk;simp only[go_sem,asY,atC];by_cases hlt : k < f.beM.length
  · have beR : (k : Int) < (f.beM.length : Nat) := Om
    obtain ⟨b1, b2, b3, -⟩ := oI hV hlt;have b4 := arI hV k hk;obtain ⟨hp, he⟩ := qB hV hlt;have hpol := hV.beX _ (bgD hp);rw [he] at hpol;have e0 : IntKind.i64.wrap ((cL f k).k + (cL f k).m) = nI f k := wrap_i64 Om Om;have e : IntKind.i64.wrap (((dO (gP f) k : Nat) : Int) + nI f k) = ((dO (gP f) (k + 1) : Nat) : Int) := by rw [dO, ← b3, wrap_i64 Om Om]; omega
    simp only[go_sem,beR,atD,uV hlt];refine aQ fun o ho => ?_;simp only[go_sem];refine bA .nil cK a_ ?_;simp only[go_sem,atE,hV.JL hlt,rD hp,he,e0,e,G3,wZz k]
    first
      | exact aG (k + 1) hlt Om Lq a_
      | (refine ⟨a_, ?_⟩
         simp only[go_sem,G3,wZz k];exact aG (k + 1) hlt Om Lq a_)
  · have beR : ¬ (k : Int) < (f.beM.length : Nat) := Om
    have : k = f.beM.length := Om;subst this;simp only[go_sem,beR,atF];refine aU (.inr rfl) rfl ?_;rfl
structure cH(C:Ctx):Prop where
 r0:bL C 0 acF
 r1:bL C 1 aIB
 r2:bL C 2 aVA
 r4:bL C 4 Ux
 r5:bL C 5 aVG
 r6:bL C 6 aIH
 r7:bL C 7 Uw
 r27:bL C 27 abL
 r28:bL C 28 aVD
 r29:bL C 29 aIE
 r30:bL C 30 aXQ
 r31:bL C 31 aKD
 r32:bL C 32 aXS
 r33:bL C 33 udiv
 r34:bL C 34 aXW
 r35:bL C 35 aKJ
 r36:bL C 36 aXY
 r37:bL C 37 aYF
 r38:bL C 38 aKN
 r39:bL C 39 I8
 r40:bL C 40 aKH
 r41:bL C 41 anG
 r42:bL C 42 anJ
 r43:bL C 43 aKL
 r44:bL C 44 anQ
 r45:bL C 45 uup
 r46:bL C 46 aKO
 r47:bL C 47 aYK
 r48:bL C 48 aoF
 r49:bL C 49 aKU
 r50:bL C 50 U7
 r51:bL C 51 aoO
 r52:bL C 52 Jf
 r53:bL C 53 aKX
 r54:bL C 54 aKY
 r55:bL C 55 aYQ
 r56:bL C 56 aoZ
 r57:bL C 57 aKR
 r58:bL C 58 Je
 r59:bL C 59 aKZ
 r60:bL C 60 aoY
 r61:bL C 61 VY
 r62:bL C 62 Jk
 r63:bL C 63 apA
 r64:bL C 64 Jj
 r65:bL C 65 Jl
 r66:bL C 66 aZA
 r67:bL C 67 apY
 r68:bL C 68 aYY
 r69:bL C 69 aYU
 r70:bL C 70 apI
 r71:bL C 71 apJ
 r72:bL C 72 x9
 r73:bL C 73 apW
 r74:bL C 74 apX
 r75:bL C 75 Jo
 r76:bL C 76 kj
 r77:bL C 77 wq
 r80:bL C 80 aiQ
 r82:bL C 82 aJS
 r83:bL C 83 ajA
 r84:bL C 84 ajC
 r85:bL C 85 aJY
 r87:bL C 87 aJZ
 r88:bL C 88 aiO
 r89:bL C 89 aWY
 r90:bL C 90 aXD
 r95:bL C 95 aTV
 r96:bL C 96 aUD
 r97:bL C 97 Yg
 r98:bL C 98 aGW
 r99:bL C 99 aGX
 r100:bL C 100 aGY
 r101:bL C 101 gone
 r102:bL C 102 aHC
 r103:bL C 103 Zb
 r104:bL C 104 gin
 r105:bL C 105 aTW
 r106:bL C 106 aTX
 r107:bL C 107 aHE
 r108:bL C 108 aHF
 r109:bL C 109 Zq
 r110:bL C 110 aHI
 r111:bL C 111 aHA
 r112:bL C 112 aTZ
 r113:bL C 113 Gy
 r114:bL C 114 aTG
 r115:bL C 115 Us
 r116:bL C 116 jg
 r117:bL C 117 Xs
 r118:bL C 118 Xv
 r119:bL C 119 aTE
 r120:bL C 120 CH
 r121:bL C 121 Xu
 r122:bL C 122 aGU
 r123:bL C 123 Ut
 r124:bL C 124 Ak
 r125:bL C 125 Am
 r126:bL C 126 jn
 r127:bL C 127 aVI
 r128:bL C 128 aIK
 r129:bL C 129 aVL
 r130:bL C 130 aVM
 r131:bL C 131 aVQ
 r132:bL C 132 aIW
 r133:bL C 133 aVT
 r134:bL C 134 aVV
 r135:bL C 135 aIY
 r136:bL C 136 Hx
 r137:bL C 137 aeZ
 r138:bL C 138 RB
 r139:bL C 139 uy
 r140:bL C 140 afM
 r141:bL C 141 afN
 r142:bL C 142 cw
 r143:bL C 143 nup
 r150:bL C 150 akV
 r152:bL C 152 kc
 r154:bL C 154 aKC
 r156:bL C 156 aKB
 r157:bL C 157 akW
 r158:bL C 158 aZP
 r159:bL C 159 alW
 r160:bL C 160 fw
 r161:bL C 161 alM
 r282:bL C 282 aVY
 r283:bL C 283 aIP
 r284:bL C 284 aVN
 r285:bL C 285 aVJ
 r286:bL C 286 aTL
 r287:bL C 287 aTH
 r288:bL C 288 Xp
 r289:bL C 289 aTN
 r290:bL C 290 aTF
 r291:bL C 291 aIF
 r292:bL C 292 adX
 r293:bL C 293 aUT
 r294:bL C 294 Uv
 r295:bL C 295 Uu
 r296:bL C 296 adK
 r297:bL C 297 aUQ
 r298:bL C 298 adW
 r299:bL C 299 agE
 r300:bL C 300 agF
 r301:bL C 301 aVZ
 r302:bL C 302 agD
 r303:bL C 303 RD
 r304:bL C 304 Uz
 r305:bL C 305 aWK
 r306:bL C 306 ahY
 r307:bL C 307 vp
 r308:bL C 308 vj
 r309:bL C 309 RH
 r311:bL C 311 Is
 r312:bL C 312 apG
namespace Z
theorem xI{C:Ctx}(c:cH C):yM C:=
 have len:∀xs,Lim xs→Z' xs≤35184372087808→aI C 138 [aN xs] .nil (aK (.int .i64 (nl (val xs):Nat))):=λxs h l=>c.r138.go (aIV xs h l) rfl
 {length:=len
  large:=λxs h l=>c.r137.go (aNV xs (len xs h l)) rfl
  sized:=λxs h l=>(c.r141.go (aNY xs h (len xs h l)) rfl).seen
  trim:=λxs h l=>(c.r135.go (aVW xs h l (len xs h l)) rfl).seen
  make:=λv h=>c.r132.go (aVS v h len) rfl
  cmp:=λxs x e j u w=>c.r129.go (a2E xs x e j u w (len xs e u) (len x j w)) rfl }
theorem a2A{C:Ctx}(c:cH C):Uo C:=
 {subtract:=λA W Z v f o hW u l j w e=>c.r142.go (afT A W Z v f hW u l j w e o) rfl
  restore:=λA W Z v o hW u l j=>c.r139.go (aqP A W Z v hW u l j o) rfl }
theorem aII{C:Ctx}(c:cH C):Vg C:=
 {L:=xI c
  D:=a2A c
  up:=λa s j x e=>c.r143.go (a5U a s j x e) rfl
  short:=λa d j l u e=>c.r140.go (aNX (xI c) a d j l u e) rfl
  lengthO:=λxs o y w=>c.r138.go (aqO xs y w o) rfl }
theorem Bv{C:Ctx}(c:cH C)(A B:Nat)(hB:B≠0)(j:nl A≤900)(e:nl B≤900):aI C 136 [aN (aM A),aN (aM B)] .nil (aK (xX A B)):=
 (c.r136.go (aIO (aII c) A B hB j e) rfl).seen
theorem zG{C:Ctx}(c:cH C):AM C:=
 {xI c with
  bits:=λxs h l=>c.r128.go (aVK xs h l ((xI c).length xs h l)) rfl
  add:=λxs x e j u w=>(c.r127.go (a2B (xI c) xs x e j u w) rfl).seen
  sub:=λxs x e j u w=>(c.r134.go (a2M (xI c) xs x e j u w) rfl).seen
  mul:=λxs x e j u w=>(c.r133.go (a2L (xI c) xs x e j u w) rfl).seen
  gcd:=λxs x e j u w=>(c.r131.go (a2K (xI c) (Bv c) xs x e j u w) rfl).seen
  div:=λxs x e j u w=>(c.r130.go (a2F (xI c) (Bv c) xs x e j u w) rfl).seen }
theorem HW{C:Ctx}(c:cH C):RR C:=
 {zG c with
  times:=λa b e hb j l u w=>c.r121.go (aMS (zG c) a b e hb j l u w) rfl
  zero:=λneg a b e j=>c.r122.go (aTP (zG c) neg a b e j) rfl
  valid:=λneg a b e hb j l=>c.r118.go (aMT (zG c) neg a b e hb j l) rfl
  abs:=λv y A=>c.r119.go (a0M (zG c) v y A) rfl
  lowest:=λneg a b e hb j l u w x=>(c.r120.go (aGP (zG c) neg a b e hb j l u w x) rfl).seen }
theorem Xq{C:Ctx}(c:cH C)(x y:RF)(e:x.Ok)(j:y.Ok):aI C 113 [.agg x.cells,.agg y.cells] .nil (aK (frV (mE x.v y.v))):=
 (c.r113.go (a0N (HW c) x.neg y.neg x.num x.den y.num y.den e.1 e.2.1 j.1 j.2.1 e.2.2.1 e.2.2.2 j.2.2.1 j.2.2.2) rfl).seen
theorem G4{C:Ctx}(c:cH C):Un C:=
 {HW c with
  frac:=λn d A u=>(c.r115.go (aTK (HW c) n d A.1 A.2 u.1 u.2) rfl).seen
  red:=λx e=>by rw[←aJH];exact(c.r116.go (aGS (HW c) x.neg x.num x.den e.1 e.2.1 e.2.2.1 e.2.2.2) rfl).seen
  ord:=λx y e j=>(c.r114.go (a0P (HW c) x.neg y.neg x.num x.den y.num y.den e.1 e.2.1 j.1 j.2.1 e.2.2.1 e.2.2.2 j.2.2.1 j.2.2.2) rfl).seen
  plus:=Xq c
  tot:=λl w=>(c.r117.go (a0W (HW c) (Xq c) l w.all w.fits) rfl).seen }
theorem HV{C:Ctx}(c:cH C):AJ C:=
 have inn:∀n lo hi:Int,aI C 104 [.int .i64 n,.int .i64 lo,.int .i64 hi] .nil (aK (.bool (within n lo hi))):=λn lo hi=>(c.r104.go (a5K n lo hi) rfl).seen;have wY:∀x:RF,x.Ok→aI C 97 [.agg x.cells] .nil (aK (.bool (cC x))):=λx u=>(c.r97.go (aMW (zG c) x u) rfl).seen;have lim:∀x:RF,x.Ok→aI C 105 [.agg x.cells] .nil (aK (.bool (eG x))):=λx u=>(c.r105.go (a1A (G4 c) x u) rfl).seen;have e:∀n:Nat,aI C 126 [.int .u8 n] .nil (aK (.bool (jK n))):=λn=>c.r126.go (aHX n) rfl;have j:∀n:Nat,aI C 124 [.int .u8 n] .nil (aK (.bool (sM n))):=λn=>c.r124.go (aND n) rfl
 {G4 c with
  inn:=inn
  wY:=wY
  lim:=lim
  one:=λx u=>(c.r101.go (a1C (G4 c) x u) rfl).seen
  allf:=λp fn l w h=>(c.r99.go (aTR p fn l w h) rfl).seen
  alli:=λp fn l w h=>(c.r100.go (aTS p fn l w h) rfl).seen
  allb:=λp fn l w h=>(c.r98.go (aTQ p fn l w h) rfl).seen
  ends1:=λb=>(c.r103.go (aMX b) rfl).seen
  num1:=λn=>(c.r107.go (aTY inn n) rfl).seen
  rate1:=λx u=>(c.r109.go (aMZ lim wY x u) rfl).seen
  name:=λs=>c.r123.go (aUO e (λn=>c.r125.go (aNH e j n) rfl) s) rfl }
theorem Wq{C:Ctx}(c:cH C):Vc C:=
 {HV c with
  num:=λp e=>(c.r106.go (a1B (HV c) p e) rfl).seen
  rate:=λp e=>(c.r108.go (aUA (HV c) p e) rfl).seen
  uniq:=λl j=>(c.r110.go (aUC (HV c) l j) rfl).seen }
theorem Ws{C:Ctx}(c:cH C):ya C:=
 {Wq c with
  ends:=λl e he=>(c.r102.go (aTU (HV c) l e he) rfl).seen }
theorem aTJ{C:Ctx}(c:cH C):qI C:=
 {Ws c with
  law:=λl j=>(c.r95.go (a0Z (Ws c) l j) rfl).seen
  pol:=λp n w u=>(c.r112.go (a1D (Wq c) p w n u) rfl).seen
  beU:=λf e=>(c.r111.go (a0Y (HV c) f e) rfl).seen }
theorem J2{C:Ctx}(c:cH C)(f:aD)(e:f.Ok):aI C 96 [.agg f.cells] .nil (aK (.int .i64 (FJ f))):=(c.r96.go (a1F (aTJ c) f e) rfl).seen
theorem I5{C:Ctx}(c:cH C):aFO C:=
 {valid:=λf e=>(c.r161.go (aQR (J2 c) f e) rfl).seen
  ri:=λf v j h=>(c.r156.go (aXH f j v h) rfl).seen }
theorem akX{C:Ctx}(c:cH C):Vm C:=
 {I5 c with
  room:=λf room j=>(c.r152.go (alB (I5 c) f j room) rfl).freeze
  loads:=λf l e u=>(c.r157.go (aQO f e l u) rfl).seen }
theorem aXI{C:Ctx}(c:cH C):aLS C:=
 {akX c with
  shape:=λf l v hV j u e=>(c.r160.go (aQQ (akX c) f hV l j v u e) rfl).seen }
theorem akY{C:Ctx}(c:cH C):QK C:=
 {aXI c with
  bad:=λo5 v k w=>c.r159.go (aQS o5 v k w) rfl }
theorem akZ{C:Ctx}(c:cH C):Vn C:=
 {akY c with
  row:=λf l v hV e w j u=>(c.r158.go (aXO (akY c) f hV e l v w j u) rfl).seen }
theorem a3R{C:Ctx}(c:cH C):aZE C:=
 {akZ c with
  viol:=λf l room e j=>(c.r154.go (aXN (akZ c) f e l j room) rfl).seen }
theorem vI{C:Ctx}(c:cH C):wX C:={ trimM:=λxs h l=>c.r38.go (aYG xs h l) rfl }
theorem ahZ{C:Ctx}(c:cH C):Vh C:=
 {vI c with
  make:=λv h=>(c.r35.go (aXX (vI c) v h) rfl).seen
  large:=λxs h l=>(c.r41.go (aQV (vI c) xs h l) rfl).seen
  cmp:=λxs x e j u w=>c.r32.go (a3T (vI c) xs x e j u w) rfl }
theorem aiB{C:Ctx}(c:cH C):Vj C:=
 {ahZ c with
  minus:=λa b j hb l w e=>(c.r42.go (aQW (vI c) a b j hb l w e) rfl).seen
  times:=λa b j hb e u=>(c.r44.go (aQX (vI c) a b j hb e u) rfl).seen }
theorem wh{C:Ctx}(c:cH C):yk C:=
 {aiB c with
  plus:=λa b l hb e j=>(c.r43.go (aYD (vI c) a b l hb e j) rfl).seen }
theorem aWO{C:Ctx}(c:cH C):ZJ C:=
 {wh c with
  bits:=λxs h l=>c.r31.go (aXR (vI c) xs h l) rfl
  upM:=λa n j e u w=>c.r45.go (a6M (vI c) a n j e u w) rfl
  down:=λa n j e u=>(c.r40.go (aXV (vI c) a n j e u) rfl).seen }
theorem wg{C:Ctx}(c:cH C):yi C:=
 {ahZ c with
  divide:=λA B hB j e=>(c.r39.go (aKG (aWO c) A B hB j e) rfl).seen }
theorem aiA{C:Ctx}(c:cH C):Vi C:=
 {wg c with
  gcd:=λa b e hb j l=>(c.r34.go (a3V (wg c) a b e hb j l) rfl).seen
  div:=λa b e hb j l=>(c.r33.go (a3U (wg c) a b e hb j l) rfl).seen }
theorem aBF{C:Ctx}(c:cH C):aFM C:=
 {aiA c with
  lowest:=λneg a b l hb u w x y j=>(c.r58.go (aKV (aiA c) neg a b l hb u w x y j) rfl).seen
  size:=λv e=>c.r59.go (aYP v e.1 e.2) rfl }
theorem VP{C:Ctx}(c:cH C):yj C:=
 {aBF c with
  fmk:=λn d j e=>(c.r50.go (aYM (aBF c) n d j e) rfl).seen }
theorem jt{C:Ctx}(c:cH C)(hi:EY C):KL C:=
 {VP c with
  int:=λn e=>(c.r47.go (aED (VP c) n e) rfl).seen
  itoa:=hi
  next:=λl v T o n a e j=>c.r4.go (aVE T o n a e j) rfl }
theorem acU{C:Ctx}(c:cH C)(hi:EY C):Ve C:=
 {jt c hi with
  frac:=λl v T o a e=>c.r1.go (aUY (jt c hi) T o a e) rfl }
theorem acV{C:Ctx}(c:cH C)(hi:EY C):AL C:=
 {acU c hi with
  rep:=λl v T o a m j e=>c.r5.go (a1Z (acU c hi) T o a m j e) rfl
  name:=λs n w u=>c.r29.go (aVC (jt c hi) s n w u) rfl }
theorem acW{C:Ctx}(c:cH C)(hi:EY C):tM C:=
 {acV c hi with
  law:=λl v T o fK a u e j=>c.r2.go (a1X (acV c hi) T o fK a u e j) rfl }
theorem acX{C:Ctx}(c:cH C)(hi:EY C):Vf C:=
 {acW c hi with
  grow:=λl v T mc beK e j u=>Zw (acW c hi) T mc beK e j u (λargs H R w h=>c.r7 args H R (by rw[w];decide) h) 4 (bgG _) }
theorem tq{C:Ctx}(c:cH C)(hi:EY C):aLM C:=
 {acX c hi with
  new:=λl hb w=>c.r28.go (a1Y l hb w) rfl
  fleet:=λl v T o beK beM a e j u=>ZF.exact (c.r0.go (aNJ (acX c hi) T o beK beM a e j u) rfl) }
theorem It{C:Ctx}(c:cH C):Ur C:=
 {VP c with
  int:=λn u=>(c.r47.go (aED (VP c) n u) rfl).seen
  mul:=λa b e hb j l=>(c.r36.go (a3W (aiB c) a b e hb j l) rfl).seen
  add:=λa b e hb j l=>(c.r30.go (a3S (wh c) a b e hb j l) rfl).seen
  sub:=λa b e hb j l=>(c.r37.go (a3Z (wh c) a b e hb j l) rfl).seen }
theorem wi{C:Ctx}(c:cH C):yl C:=
 {It c with
  valid:=λx e=>c.r56.go (aRO (It c) x.neg x.num x.den e.1 e.2.1 e.2.2.1 e.2.2.2) rfl
  big:=λx=>c.r48.go (aRL x.1 (aM x.2.1) (aM x.2.2)) rfl }
theorem aiC{C:Ctx}(c:cH C):Vk C:=
 {wi c with
  fits:=λx=>(c.r57.go (aYI (wi c) x) rfl).seen
  red:=λx j=>(c.r52.go (aKW (wi c) x j) rfl).seen
  prod:=λa b e hb l u w y=>c.r60.go (aRN (It c) a b e hb l u w y) rfl }
theorem JO{C:Ctx}(c:cH C):IM C:=
 {aiC c with
  order:=λx y e j l u=>c.r51.go (aRM (aiC c) x y e j l u) rfl }
theorem aBG{C:Ctx}(c:cH C):aFN C:=
 {JO c with
  less:=λx y e j l u=>c.r49.go (aYL (JO c) x y e j l u) rfl
  same:=λx y e j l u=>c.r53.go (aYN (JO c) x y e j l u) rfl
  sign:=λx e l=>c.r54.go (aYO (JO c) x e l) rfl
  plus:=λx y e j=>(c.r46.go (a4A (JO c) x y e j) rfl).seen }
theorem we{C:Ctx}(c:cH C):yh C:=
 {aBG c with
  sum:=λl j e=>(c.r55.go (a4C (aBG c) l j e) rfl).seen
  inn:=λn lo hi=>c.r76.go (aLI n lo hi) rfl
  code:=λk m=>c.r61.go (aWZ k m) rfl }
theorem O9{C:Ctx}(c:cH C):Gi C:=
 {we c with
  small:=λx e=>c.r74.go (aRZ (we c) x e) rfl
  nums:=λk m q s0 s1 s2 s3 s4=>c.r72.go (arG (we c) k m q s0 s1 s2 s3 s4) rfl
  sizes:=λj l u w y A=>c.r73.go (aRY j l u w y A) rfl }
theorem Pa{C:Ctx}(c:cH C):Gj C:=
 {O9 c with
  smalls:=λl e n=>c.r75.go (aLH (O9 c) l e n) rfl }
theorem Pb{C:Ctx}(c:cH C):Gk C:=
 {Pa c with
  reps:=λl e m=>c.r66.go (a4H (Pa c) l e m) rfl }
theorem Pc{C:Ctx}(c:cH C):Gl C:=
 have e:∀n:Nat,aI C 65 [.int .u8 n] .nil (aK (.bool (jK n))):=λn=>c.r65.go (aLC n) rfl;have j:∀n:Nat,aI C 63 [.int .u8 n] .nil (aK (.bool (sM n))):=λn=>c.r63.go (aRP n) rfl
 {Pb c with
  name:=λs=>c.r62.go (aLB e (λn=>c.r64.go (aLA e j n) rfl) s) rfl
  index:=λl u s=>c.r71.go (aRW l u s) rfl }
theorem Pd{C:Ctx}(c:cH C):wW C:=
 {Pc c with
  fresh:=λl j s w H e=>c.r70.go (aRV (Pc c) l j s w H e) rfl }
theorem aPK{C:Ctx}(c:cH C):zR C:=
 {Pd c with
  law:=λl e=>c.r68.go (a4G (Pd c) l e) rfl }
theorem aPL{C:Ctx}(c:cH C):Gm C:=
 {aPK c with
  dur:=λm rep j t h l e=>c.r69.go (a4F (Pb c) m rep j t h l e) rfl }
theorem wM{C:Ctx}(c:cH C):ZI C:=
 {valid:=λf w=>c.r67.go (aSC (aPL c) f w) rfl
  wY:=λf d level e u j l=>c.r88.go (aPX f e d u level j l) rfl
  ri:=λf v e h=>(c.r82.go (aXB f e v h) rfl).seen }
theorem aPM{C:Ctx}(c:cH C):arH C:=
 {wM c with
  bad:=λf row e=>c.r89.go (a3G f row e) rfl }
theorem aPN{C:Ctx}(c:cH C):i8 C:=
 {aPM c with
  allowed:=λf p d hV l e=>c.r77.go (nc f hV p l d e) rfl
  count:=λf row n hV u j=>c.r80.go (aPY (wM c).toaLP f hV row u n j) rfl }
theorem Pe{C:Ctx}(c:cH C):Gn C:=
 {wM c with
  room:=λf room j=>(c.r85.go (ajF (wM c) f j room) rfl).seen
  loads:=λf l j x=>(c.r84.go (aQI (wM c) f j l x) rfl).seen
  row:=λf v row hV e w u=>(c.r90.go (a3O (aPN c) f hV e v w row u) rfl).seen }
theorem aWN{C:Ctx}(c:cH C):aLO C:=
 {Pe c with
  viol:=λf l room e j=>(c.r87.go (aXF (Pe c) f e l j room) rfl).seen }
theorem aPD{C:Ctx}(c:cH C)(f:aD)(v:Nat)(e:v≤100):aI C 282 [.agg (yQ f),.int .i64 (v:Nat)] .nil (aK (.int .i64 ((2+v:Nat):Int))):=c.r282.go (a2O f v e) rfl
theorem Oq{C:Ctx}(c:cH C):rM C:=
 {vol:=aPD c
  dom:=λf j e v i y hi=>c.r283.go (a2G (aPD c) f j e v i y hi) rfl
  drv:=λf j d e=>c.r284.go (a2H f j d e) rfl
  arc:=λo N a v l x H u=>c.r285.go (a2D o N a.src a.dst a.cap v l x H u) rfl
  valid:=J2 c
  roomM:=λf room w=>c.r152.go (alB (I5 c) f w room) rfl }
theorem aAA{C:Ctx}(c:cH C)(n:cN)(e:fM n):aI C 292 [.agg n.cells] .nil (aK (.bool true)):=c.r292.go (aNP (λn o x j=>c.r291.go (aVF n o x j) rfl) n e) rfl
theorem azZ{C:Ctx}(c:cH C)(n:cN)(e fo:Nat)(xs:List Nat)(out:PV)(s:dE)(l:fM n)(j:¬e=fo)(w:rL n xs)(u:s.1<Z' n.arcs):aI C 294 [.ptr e 6 0 0,.int .i64 (stI s)] (sH n e fo xs out) (λr H'=>r=.tup [.int .i64 ((hC n s:Nat):Int),.int .i64 ((eF n xs s:Nat):Int)]∧H'=sH n e fo xs out):=c.r294.go (aUU n l e fo j xs w out s u) rfl
theorem aWI{C:Ctx}(c:cH C)(n:cN)(j:fM n):aI C 298 [.agg n.cells] .nil (ZK n):=
 c.r298.go (aNN (aAA c) (λn u fo xs y l j e I w B=>c.r296.go (aNM (azZ c) n j u fo e xs I y l w B) rfl)
  (λn u fo xs out Q way j e A E x=>c.r297.go (a1T (azZ c) (λn u fo xs out s j e F=>c.r295.go (aUS n j u fo e xs out s F) rfl) n j u fo e xs A out Q way E x) rfl) n j) rfl
theorem agP{C:Ctx}(c:cH C):ZG C:=
 {Oq c with
  net:=λf room e=>(c.r286.go (a0T (Oq c) f e room) rfl).aJR
  solve:=aWI c
  demand:=λf hV=>c.r287.go (a0Q f hV) rfl }
theorem j6{C:Ctx}(c:cH C)(hi:EY C):aLK C:=
 {fleet:=λl hb y beK beM j w=>(c.r27.go (aNI (tq c hi) l hb y beK beM j w) rfl).seen
  place:=λf room e=>(c.r288.go (aMR (agP c) f e room) rfl).place
  why:=λf room e=>(c.r289.go (a0X (agP c) f e room) rfl).why
  chk:=λf room ct e u=>c.r290.go (a0O (agP c) (λn cut A x=>c.r293.go (a1V (aAA c) n A cut x) rfl) f e room ct u) rfl }
theorem aWH{C:Ctx}(c:cH C)(hi:EY C):aI C 312 [] .nil (aK (.bool true)):=c.r312.go (aRT (j6 c hi)) rfl
theorem a2X{C:Ctx}(c:cH C)(hi:EY C):aLL C:=
 {new:=(tq c hi).new
  tfleet:=(tq c hi).fleet
  kc:=λl v T o a f j e=>exactly (c.r6.go (aVH (jt c hi) T o a f j e) rfl) }
theorem agO{C:Ctx}(c:cH C):CE C:=
 {node:=λf j e v i w hi=>c.r304.go (aWM f j e v i w hi) rfl
  drv:=λf j d e=>c.r305.go (a2Z f j d e) rfl
  total:=λf hV=>c.r306.go (aPJ (wM c).ri f hV) rfl
  qvalid:=(wM c).valid
  allowed:=λf p d hV u e=>c.r77.go (nc f hV p u d e) rfl
  qroom:=λf room l=>(c.r85.go (ajF (wM c) f l room) rfl).seen }
theorem a2W{C:Ctx}(c:cH C)(f:aD)(room:List Int)(e:f.Ok):aI C 307 [.agg f.cells,ints room] .nil (aK (BC f room)):=(c.r307.go (a3B (agO c) f e room) rfl).aJR
theorem Iq{C:Ctx}(c:cH C)(n:cN)(e:fM n):aI C 299 [.agg n.cells] .nil (aK (.bool true)):=c.r299.go (aOS n e) rfl
theorem aAB{C:Ctx}(c:cH C):aSE C:=
 {agO c with
  vp:=a2W c
  RD:=λn e=>c.r303.go (aOQ (Iq c) (λn xs e l=>c.r300.go (aOV (Iq c) n e xs l) rfl) (λn fo xs e j=>by rw[←j.len];exact c.r302.go (aOP n e fo xs j) rfl) n e) rfl
  vj:=λf room xs hV j=>(c.r308.go (a3A (agO c) f hV room xs j) rfl).aJR }
theorem a2V{C:Ctx}(c:cH C)(f:aD)(room:List Int)(ct:fV)(l:f.Ok)(e:sZ ct):aI C 311 [.agg f.cells,ints room,.agg ct.cells] .nil (aK (.bool (tO f room ct))):=c.r311.go (a2Y (aAB c) (λn cut u j=>c.r301.go (a2P (Iq c) n u cut j) rfl) f l room ct e) rfl
theorem a5Y{C:Ctx}(c:cH C)(hi:EY C):aLJ C:=
 {a2X c hi with
  awake:=aWH c hi
  place:=(j6 c hi).place
  why:=(j6 c hi).why
  RH:=λf room e=>(c.r309.go (aPI (aAB c) f e room) rfl).place
  holds:=λf l room e j=>(c.r150.go (aQN (a3R c) f e l j room) rfl).seen
  qholds:=λf l room e j=>c.r83.go (aQE (aWN c) f e l j room) rfl
  chk:=(j6 c hi).chk
  Is:=a2V c }
end Z
theorem aqE{C:Ctx}(c:cH C)(hi:EY C)(r:bL C 321 XY)(l:List Nat)(hb:∀x∈l,x<256)(e:Z' l≤9223372036854775807):aI C 321 [.sl 1 (pA l)] .nil (aK (.bool true)):=r.go (arE (Z.a5Y c hi) l hb e) rfl
end Go.PM
