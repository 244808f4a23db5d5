/-
  Texts of ours, joined. No condition.
-/
import Derived.Test.YtkknafmijabgaaaGreatDoorFS1
import Derived.Test.YtkknafmijabgaaaGreatDoorFS2
import Derived.Test.YtkknafmijabgaaaGreatDoorFS3
import Derived.Test.YtkknafmijabgaaaGreatDoorFS4
import Derived.Test.YtkknafmijabgaaaGreatDoorFS5

set_option linter.unusedSimpArgs false
set_option linter.unusedVariables false
open Nat renaming reduceEqDiff → γ, reduceAdd → δ, reduceSub → ε, reduceMul → ζ, reduceLT → η, reduceLeDiff → θ, reduceBEq → τ
open Int renaming reduceLT → ι, reduceLE → κ, reduceEq → μ, reduceToNat → ν, reduceAdd → ξ, reduceNeg → ο, reduceBEq → ρ, reduceBNe → σ
open List renaming reduceReplicate → υ
open List renaming length_map → aGK, range → aGL, replicate → aGM, length_append → aGO, getElem_mem → aGP, length_singleton → aGR, getElem?_eq_getElem → aGS, getD_eq_getElem?_getD → aGU, mem_cons → aGV, length_take → aGY, getElem?_map → aHF, not_mem_nil → aHH, getElem?_eq_some_iff → aHP, mem_append → aHQ, mem_singleton → aHU, take_length → aHV, map_append → aHX, getElem?_eq_none → aHZ, length_cons → aIF, getElem?_append_right → aIJ, getElem?_append_left → aIK, map_congr_left → aIP, Sublist → aIQ, take_succ_eq_append_getElem → aIR, length_nil → aIV, range_succ → aJA, Perm → aJG, getElem?_range → aJI, length_range → aJO, map_map → aJQ, mem_cons_of_mem → aJW
open Nat renaming le_refl → aGQ, zero_le → aGW, zero_add → aHE, mul_le_mul_right → aHO, le_trans → aJC, mul_le_mul → aJU
open Option renaming getD_some → aJF
open Bool renaming not_true → aHB, and_eq_true → aHC, true_and → aHK, not_false → aHM
open Int renaming toNat_natCast → aJN
namespace Go.PM
open Go Go.Na
theorem aL.aBL {H:PH} {B:List BX} {L:List LI} {o s:Nat} {rows:List (List PV)} (h:aL H ((o,.rows s rows)::B) L):aL H B ((.osl o s 0 rows.length,s,rows)::L):=by
 refine⟨fun b hb=>h.box b (aJW _ hb),fun x hx=>?_,?_⟩
 ·rcases aGV.1 hx with rfl | hx
  ·exact .inr ⟨o,rows,rfl,h.box _ (List.mem_cons_self ..),aGQ _,aHV⟩
  ·exact h.lst x hx
 ·have e:dC ((.osl o s 0 rows.length,s,rows)::L)=o::dC L:=rfl;rw[e];exact (List.perm_middle.nodup_iff).2 h.nd
theorem aL.azH {H:PH} {B:List BX} (h:aL H B []) (N:Nat):aL H B (gX (aGM N ((.aA,[]):PV × List Int))):=by
 have j:=h.Yq N;have e:gX (aGM N ((.aA,[]):PV × List Int))=[]++aGM N (.aA,1,[]):=by unfold gX;rw[List.map_replicate]; rfl
 rw[e]; exact j
theorem uh {res:List dW} {R A:PV→PH→Prop} {e:kE} {F:PF} {H:PH} (B:∀ r H',R r H'→A r H') (h:aT res R e F H):aT res A e F H:=by
 cases e with
 | exit=>exact h
 | normal =>obtain⟨vs,u,j,l,H2,w,x,v,y,h5⟩:=h;exact⟨vs,u,j,l,H2,w,x,v,y,B _ _ h5⟩
 | ret =>obtain⟨vs,u,j,l,H2,w,x,v,y,h5⟩:=h;exact⟨vs,u,j,l,H2,w,x,v,y,B _ _ h5⟩
def zJ (f:aC) (room:List Int) (ws:List (List Int)) (c:Int):Prop :=
 (dE f=false∧ws=[]∧c=1)∨(dE f=true∧(∃ u,tJ f room u∧ws=sK f u)∧c=0)∨(dE f=true∧¬ tK f room∧ws=[]∧c=12)
def zo (f:aC) (room:List Int) (r:PV) (H:PH):Prop:=∃ ws c,zJ f room ws c∧cD (.tup [lists ws,.int .i64 c]) r H
def zn (f:aC) (room:List Int) (r:PV) (H:PH):Prop:=∃ ws c,zJ f room ws c∧r=.tup [lists ws,.int .i64 c]∧H=PH.nil
theorem aG.place {C:Ctx} {name:Nat} {args:List PV} {f:aC} {room:List Int} (h:aG C name args .nil (zo f room)):aG C name args .nil (zn f room) :=
 h.post fun r H' ⟨ws,c,e,j,l⟩=>⟨_,j,ws,c,e,rfl,l⟩
structure MR (C:Ctx):Prop extends mE C where
 net:∀ (f:aC) (room:List Int),f.Ok→aG C 286 [.agg f.cells,ints room] .nil (aM (YT f room))
 solve:∀ n:cC,fU n→aG C 298 [.agg n.cells] .nil (zr n)
 demand:∀ f:aC,VF f→aG C 287 [.agg f.cells] .nil (aM (.int .i64 ((pK f:Nat):Int)))
theorem J6 (f:aC) (v:Nat):∀ (l:List bK) (xs:List Nat),(kA f v l xs).length≤l.length
 | [],_=>by simp[kA]
 | _::_,[]=>by simp[kA]
 | a::l,x::xs=>by
  have e:=J6 f v l xs;have j:(uN f v a x).length≤1:=by unfold uN; split<;>simp
  rw[kA,aGO,aIF];omega
def plF (f:aC) (n:cC) (xs:List Nat) (e j k:Nat):PF:=((((((PF.nil.set 8 (.sl 1 (gP xs))).set 12 (.ptr e 2 0 0)).set 13 (.osl j 1 0 f.aEY.length)).set 49 (jx n.arcs)).set 50 (.int .i64 (n.arcs.length:Nat))).set 51 (.int .i64 (k:Nat)))
theorem N3 {C:Ctx} (Lb:MR C) {K:cG} [Up K] (f:aC) (hV:VF f) (room:List Int) (xs:List Nat) (hx:tM (eD f room) xs) (e I:Nat) {F:PF} {H:PH}
  (hH:aL H [(I,.rows 1 (dM (aGM f.aEY.length (.aA,[])))),(e,fC f)] (gX (aGM f.aEY.length (.aA,[])))) (hF:(plF f (eD f room) xs e I 0).le F)
  (hK:∀ ps H',aL H' [(e,fC f)] (pO (.osl I 1 0 f.aEY.length) ps)→wls ps=ky f (fQ f room) xs→K (.exit 0) ((PF.nil.set 13 (.osl I 1 0 f.aEY.length))) H'):aE.wp C (.loop HP) K F H:=by
 have hs:=hV.small;have hr:=hV.root;have hn:=OZ hV room;have hm:=hn.num;have ρ:=hn.few;have Y:xs.length=(fQ f room).length:=hx.len;refine wp_loop (α:=Nat × WPs × PH) (fun s=>plF f (eD f room) xs e I s.1) (fun s=>s.2.2) (fun s=>s.1≤(eD f room).arcs.length∧wls s.2.1=oG f (fQ f room) xs s.1∧aL s.2.2 [(I,.rows 1 (dM s.2.1)),(e,fC f)] (gX s.2.1)) (fun s=>(eD f room).arcs.length-s.1) (0,aGM f.aEY.length (.aA,[]),H) ⟨aGW _,?_,hH⟩ hF b_ ?_
 ·rw[acJ];unfold wls;simp only[List.map_replicate]
 rintro⟨k,ps,H0⟩ ⟨hk,j,hH⟩;simp only at hk j hH;have ξ:ps.length=f.aEY.length:=by have:=congrArg List.length j;rw[ajL] at this;unfold wls at this;rw[aGK] at this;exact this
 simp only[go_sem,HP,ch,plF];by_cases hlt:k<(eD f room).arcs.length
 ·have J:(k:Int)<((eD f room).arcs.length:Nat):=Om;have V:=wZz k;have U:k<(fQ f room).length:=hlt;have μ:k<xs.length:=Om;have γ:=vC hlt;have ι:dR (eD f room) k=(fQ f room)[k]:=(sS hlt).symm;rw[ι] at γ;have κ:=aGP U;obtain⟨z1,z2,z3⟩:=hn.ends _ (aGP hlt);have z1:((fQ f room)[k]).src<(eD f room).nodes:=z1;have z2:((fQ f room)[k]).dst<(eD f room).nodes:=z2;have τ:bH f 0≤(eD f room).nodes:=by show bH f 0≤bH f f.aEW.length; unfold bH; omega
  have W:=acI (f:=f) (l:=fQ f room) (xs:=xs) Y U;have A:=ajM (f:=f) (l:=fQ f room) (xs:=xs) Y U;have δ:=apI hV (room:=room) κ;generalize (fQ f room)[k]=a at *
  simp only[go_sem,J,ci,γ];refine hH.vE fun q H1 h1=>?_;have q1:=h1.nB;have O:=h1.tA (.rows 4 [a.cells]);simp only[go_sem,q1];generalize H1.set q (.rows 4 [[.int .i64 a.src,.int .i64 a.dst,.int .i64 a.cap,.int .i64 0]])=H2 at *
  have E:H2 q=some (.rows 4 [a.cells]):=O.nB;have N:H2 e=some (fC f):=O.at 1 rfl;have β:H2 I=some (.rows 1 (dM ps)):=O.at 0 rfl;have S:(a.dst<bH f 0∨xs.getD k 0=0)→jE (fun s:Nat × WPs × PH=>plF f (eD f room) xs e I s.1) (fun s=>s.2.2) (fun s=>s.1≤(eD f room).arcs.length∧wls s.2.1=oG f (fQ f room) xs s.1∧aL s.2.2 [(I,.rows 1 (dM s.2.1)),(e,fC f)] (gX s.2.1)) (fun s=>(eD f room).arcs.length-s.1) ((eD f room).arcs.length-k) K .normal (plF f (eD f room) xs e I (k+1)) H2:=fun h =>
   aH (k+1,ps,H2) ⟨hlt,by rw[W h]; exact j,aL.dropLast (B:=[(I,.rows 1 (dM ps)),(e,fC f)]) O⟩ (by simp only; omega) (fun _ _ h=>h) b_
  refine bP (PH.nil.set q (.rows 4 [a.cells])) (AC f [] (fun _ _=>True)) (e_ a_ E) ?_;by_cases c1:a.dst<bH f 0
  ·have M:(a.dst:Int)<((bH f 0:Nat):Int):=Om;simp only[go_sem,HQ,N];refine AF Lb.tomE hs (i:=0) (by decide) (by simp only[go_sem]; rfl) (e_ a_ E) ?_;simp only[go_sem,M,yC,V];exact Up.up (by unfold plF; exact Lq) (S (.inl c1))
  ·have M:¬ (a.dst:Int)<((bH f 0:Nat):Int):=Om;simp only[go_sem,HQ,N];refine AF Lb.tomE hs (i:=0) (by decide) (by simp only[go_sem]; rfl) (e_ a_ E) ?_;have θ:=AW μ;by_cases c2:xs.getD k 0=0
   ·simp only[go_sem,M,θ,bM (Om:((xs.getD k 0:Nat):Int)=0),yC,V];exact Up.up (by unfold plF; exact Lq) (S (.inr c2))
   ·obtain⟨v,d,hv,hd,rfl⟩:=δ Om;have X:=Nj hV (v:=v) hd;have A:=A Om c2 (by rw[X]; exact hv);rw[X] at A;have σ:=auB hV (v:=v) hd;have υ:=Fw hV hd;have φ:=hs.aEZ;have χ:=hs.aEY;have w1:IntKind.i64.wrap (((eO f v d).src:Int)-2)=(((eO f v d).src-2:Nat):Int):=by rw[wrap_i64 Om Om]; omega
    have w2:IntKind.i64.wrap ((((eO f v d).src-2:Nat):Int)-(f.aEY.length:Nat))=(((eO f v d).src-2-f.aEY.length:Nat):Int):=by rw[wrap_i64 Om Om]; omega
    have w3:IntKind.i64.wrap ((f.aEZ.length:Int)-1)=((f.aEZ.length-1:Nat):Int):=by rw[wrap_i64 Om Om]; omega
    have w4:¬ ((f.aEZ.length-1:Nat):Int)=0:=Om;have w5:Int.tdiv (((eO f v d).src-2-f.aEY.length:Nat):Int) ((f.aEZ.length-1:Nat):Int)=((v:Nat):Int):=by exact (Int.ofNat_tdiv _ _).symm.trans (congrArg (fun x:Nat=>(x:Int)) X)
    have w6:IntKind.i64.wrap ((v:Nat):Int)=((v:Nat):Int):=wrap_i64 Om Om;have w7:IntKind.i64.wrap (((eO f v d).dst:Int)-((bH f 0:Nat):Int))=(d:Int):=by
     have:(eO f v d).dst=bH f 0+d:=by simp only[eO,bH]; omega
     rw[wrap_i64 Om Om,this]; omega
    simp only[go_sem,M,θ,bB (Om:¬ ((xs.getD k 0:Nat):Int)=0),cj,E,N,w1,w2,w3,w4,w5,w6];have ζ:v<ps.length:=Om;obtain⟨u,w,R⟩:∃ u w,ps[v]?=some (u,w):=⟨(ps[v]).1,(ps[v]).2,aGS ζ⟩;have η:(wls ps).getD v []=w:=nt R;have ε:(v:Int)<(f.aEY.length:Nat):=Om;have ο:¬ I=q:=O.ne 0 2 rfl rfl (by decide);obtain⟨Hs,s1,s2,Z⟩:=E6 (x:=.rows 1 (dM ps)) (y:=.rows 4 [(eO f v d).cells]) ο;refine bP Hs (AC f [] (fun _ _=>True)) (Z _ β E) ?_;simp only[go_sem,ck,N,ε,s1,s2,aHE,AV R];refine AF Lb.tomE hs (i:=0) (by decide) (by simp only[go_sem]; rfl) (Z _ β E) ?_;simp only[go_sem,w7];have ω:w.length≤k:=by
     have h9:w=(oG f (fQ f room) xs k).getD v []:=by rw[← j,η]
     rw[h9];unfold oG;rw[aGU,aHF,aJI hv];exact aJC (J6 f v _ _) (by rw[aGY]; omega)
    refine O.append v (GF R) (src:=bY [(d:Int)]) rfl (by unfold roomFor; rw[hJ,hJ]; simp only[aGR,maxLen]; omega) fun u' H3 h3 hu=>?_;obtain⟨q',rfl⟩:=hu (by simp[bY]);rw[← OG] at h3 ⊢;refine⟨Z _ (h3.at 0 rfl) (h3.at 2 rfl),?_⟩;simp only[go_sem,ε];refine bP .nil dD a_ ?_;have e3:=h3.at 0 rfl;have ν:v<(dM ps).length:=by rw[PZ]; exact ζ
    simp only[go_sem,cl,e3,aHE,AV R,ν];refine⟨a_,?_⟩;simp only[go_sem,yC,V];have h4:=h3.set 0 rfl (.rows 1 ((dM ps).set v [.osl q' 1 0 (bY (w++[(d:Int)])).length]));generalize ψ:PV.osl q' 1 0 (bY (w++[(d:Int)])).length=u' at *
    refine aH (k+1,ps.set v (u',w++[(d:Int)]),_) ⟨hlt,?_,?_⟩ (by simp only; omega) Lq b_
    ·simp only;rw[nu,← A,j,← η,j];have:((eO f v d).dst-bH f 0:Nat)=d:=by simp only[eO,bH]; omega
     rw[this]
    ·simp only;have e5:dM (ps.set v (u',w++[(d:Int)]))=(dM ps).set v [u']:=List.map_set ..;have e6:gX (ps.set v (u',w++[(d:Int)]))=(gX ps).set v (u',1,bY (w++[(d:Int)])):=List.map_set ..;rw[e5,e6];exact aL.dropLast (B:=[(I,.rows 1 ((dM ps).set v [u'])),(e,fC f)]) h4
 ·have J:¬ (k:Int)<((eD f room).arcs.length:Nat):=Om;have:k=(eD f room).arcs.length:=Om;subst this;simp only[go_sem,J];have O:=hH.aBL;rw[PZ,ξ] at O;refine Up.up Lq (hK ps H0 O ?_);rw[j];exact ajK Y
theorem Js {res:List dW} {f:aC} {room:List Int} {ws:List (List Int)} {c:Int} {e:kE} {F:PF} {H:PH} (j:zJ f room ws c) (h:aT res (cD (.tup [lists ws,.int .i64 c])) e F H):aT res (zo f room) e F H :=
 uh (fun r H' l=>⟨ws,c,j,l⟩) h
theorem ip {f:aC} (hV:VF f) {room:List Int} {xs:List Nat} {S:Nat→Bool} (u:gG (eD f room) xs) (e:jB (eD f room) xs=dB S (eD f room).arcs) (j:S (eD f room).source=true) (l:S (eD f room).sink=false):¬ jB (eD f room) xs<(pK f:Int)↔tK f room:=by
 rw[Int.not_lt];exact n8 hV u j l e
theorem abJ {f:aC} (hV:VF f) {room:List Int} {xs:List Nat} (e:gG (eD f room) xs) (h:¬ jB (eD f room) xs<(pK f:Int)):∃ u,tJ f room u∧ky f (fQ f room) xs=sK f u:=by
 obtain⟨s,g,j,t,rfl⟩:=ca f room e.len;exact⟨kT f j,A8 hV e (Int.not_lt.1 h),ajN hV room s g j t⟩
theorem abO {C:Ctx} (x:MR C) (f:aC) (hf:f.Ok) (room:List Int) :
  DD.wp C (aT B0.res (zo f room)) (PF.args [.agg f.cells,ints room]) .nil:=by
 simp only[go_sem,DD,oe,B0,og];refine aB (x.net f room hf) Sq ?_;simp only[go_sem,YT];refine aQ fun q hq=>?_;have R:aL (PH.nil.set q lC) [(q,lC)] []:=aL.nil.new hq lC;generalize (PH.nil.set q lC)=Y at *
 have q1:=R.at 0 rfl;have l:=R.set 0 rfl (pP (EJ f room));simp only[go_sem,q1];generalize Y.set q (.rows 4 [(EJ f room).cells])=H2 at *
 have X:=l.at 0 rfl;cases e:dE f with
 | false =>simp only[go_sem,NU,SS e,oi];refine Js (ws:=[]) (c:=1) (.inl ⟨e,rfl,rfl⟩) ?_;exact QF (.inr rfl) Sq (aL.aoV (l.BI 0))
 | true =>
  have hV:=VF.of e;have W:=hV.small;have hn:=OZ hV room;have E:(f.aEY.length:Int)*((24:Nat):Int)≤140737488355328:=by have:=W.aEY; omega
  have F:(f.aEY.length:Int)≤9223372036854775807:=by have:=W.aEY; omega
  have I:(0:Int)≤(f.aEY.length:Int):=Om;rw[SU e] at X l;simp only[go_sem,NU,vN e,oj,X];refine dU (x.solve _ hn) Sq a_ ?_;rintro r H' ⟨xs,S,y,w,A,B,rfl,rfl⟩ -;rw[PH.kW];have J:=ip hV y w A B;simp only[go_sem,oq];refine aB (x.demand f hV) Sq ?_;by_cases hlt:jB (eD f room) xs<((pK f:Nat):Int)
  ·simp only[go_sem,hlt,ot];refine Js (ws:=[]) (c:=12) (.inr (.inr ⟨e,fun h=>J.2 h hlt,rfl,rfl⟩)) ?_;exact QF (.inr rfl) Sq (aL.aoV (l.BI 0))
  ·obtain⟨u,hA,K⟩:=abJ hV y hlt;simp only[go_sem,hlt,ou,aGK];refine l.vE fun j Z U=>?_;have g3:=U.at 1 rfl;have h4:=U.set 1 rfl (fC f);simp only[go_sem,g3];generalize Z.set j (.rows 2 [[.int .i64 (f.aEY.length:Nat),.int .i64 (f.aEZ.length:Nat)]])=H4 at *
   simp only[go_sem,ov,aGK,E,F,I,Int.le_refl,aJN];refine aQ fun N M=>?_;have h5:=h4.new M (.rows 1 (aGM f.aEY.length [.aA]));generalize H4.set N (.rows 1 (aGM f.aEY.length [.aA]))=O at *
   have V:aL O [(N,.rows 1 (aGM f.aEY.length [.aA])),(j,fC f),(q,pP (eD f room))] []:=by refine h5.perm ?_ (aJG.refl _);exact (List.reverse_perm _).symm
   have q5:=V.at 2 rfl;have eo:dM (aGM f.aEY.length ((.aA,[]):PV × List Int))=aGM f.aEY.length [.aA]:=by unfold dM; rw[List.map_replicate]
   simp only[go_sem,ow,q5];refine N3 x f hV room xs y.in j N (H:=O) (by rw[eo]; exact (V.BI 2).azH _) (by unfold plF; (repeat' (first|exact d_|refine c_ ?_ ?_))<;>first|(simp only[go_sem,aGK]<;>rfl)|rfl) fun ps H6 h7 hw=>?_;simp only[go_sem,cn];refine Js (ws:=wls ps) (c:=0) (.inr (.inl ⟨e,⟨u,hA,by rw[hw,K]⟩,rfl⟩)) ?_;exact QF (.inr rfl) Sq (h7.BI 0)
theorem aL.Xj:∀ (L:List LI) {H:PH} {B:List BX},aL H B L→(∀ x∈L,Flat x.2.2)→(∀ b∈B,∀ q s rs,bG.frz q s rs b.2=b.2) →
  ∃ (φ:PV→PV) (y:PH),(∀ x∈L,Seen x.2.1 (φ x.1) x.2.2)∧(∀ u,u.oid=none→φ u=u)∧aL y B []∧∀ cs (b:Bool) R,oP (.tup [.agg (cs.map φ),.bool b]) y R→oP (.tup [.agg cs,.bool b]) H R
 | [],H,B,h,_,_=>⟨id,H,by simp,fun _ _=>rfl,h,fun cs b R F=>by rwa [List.map_id] at F⟩
 | (w,s,rows)::L,H,B,h,E,hB=>by
  have l:∀ q z rs,(L.map fun x=>(x.1,x.2.1,x.2.2.map fun r=>r.map (PV.bV q z rs)))=L:=fun q z rs=>by
   conv=>rhs; rw[← List.map_id L]
   refine aIP fun x hx=>?_;rw[E x (by simp[hx]) q z rs]; rfl
  rcases h.own 0 rfl with ⟨A,O⟩ | ⟨q,rs,A,_⟩
  ·obtain⟨φ,y,k1,k2,I,J⟩:=aL.Xj L (h.bu 0) (fun x hx=>E x (by simp[hx])) hB;refine⟨φ,y,fun x hx=>?_,k2,I,J⟩;rw[aGV] at hx;rcases hx with rfl | hx
   ·exact .inl ⟨A,by simp only; rw[O]; exact k2 _ rfl⟩
   ·exact k1 x hx
  ·subst A;obtain⟨rs,U,V,Y,W,M⟩:=h.frz 0 rfl;have X:aL (H.frz q s rs) B L:=by
    have N:(B.map fun b=>(b.1,b.2.frz q s rs))=B:=by
     conv=>rhs; rw[← List.map_id B]
     refine aIP fun b hb=>?_;rw[hB b hb q s rs]; rfl
    rw[N] at M;have:=M;simp only[List.eraseIdx_cons_zero] at this
    rwa [l q s rs] at this
   obtain⟨φ,y,k1,k2,I,J⟩:=aL.Xj L X (fun x hx=>E x (by simp[hx])) hB;refine⟨fun u=>φ (PV.bV q s rs u),y,fun x hx=>?_,fun u K=>?_,I,fun cs b R F=>?_⟩
   ·rw[aGV] at hx;rcases hx with rfl | hx
    ·simp only;rw[V];exact .inr (k2 _ rfl)
    ·obtain⟨j,S⟩:=List.mem_iff_getElem?.1 hx;have:=W (j+1) x Om (by simpa using S);simp only;rw[this];exact k1 x hx
   ·simp only;rw[HS K,k2 u K]
   ·refine .step U ?_;have e:PV.frz q s rs (.tup [.agg cs,.bool b])=.tup [.agg (cs.map (PV.bV q s rs)),.bool b]:=rfl;rw[e];refine J _ b R ?_;rw[aJQ];exact F
def oW (e:List (List PV)) (ws:List (List Bool)):Prop:=e.length=ws.length∧∀ (i:Nat) r w,e[i]?=some r→ws[i]?=some w→r=[kM w]∨(r=[.aA]∧w=[])
theorem oW.nil:oW [] []:=⟨rfl,fun i r w h=>by cases h⟩
theorem oW.snoc {l:List (List PV)} {ws:List (List Bool)} {u:PV} {w:List Bool} (h:oW l ws) (y:u=kM w∨(u=.aA∧w=[])):oW (l++[[u]]) (ws++[w]):=by
 refine⟨by simp[h.1],fun i r x e j=>?_⟩;rcases Nat.lt_trichotomy i l.length with c | c | c
 ·rw[aIK c] at e;rw[aIK (by rw[← h.1]; exact c)] at j;exact h.2 i r x e j
 ·subst c;rw[aIJ (aGQ _),Nat.sub_self] at e;rw[h.1,aIJ (aGQ _),Nat.sub_self] at j;cases e; cases j;rcases y with rfl | ⟨rfl,rfl⟩
  ·exact .inl rfl
  ·exact .inr ⟨rfl,rfl⟩
 ·rw[aIJ Om,aHZ (by simp; omega)] at e;cases e
theorem oW.flat {j:List (List PV)} {ws:List (List Bool)} (h:oW j ws):Flat j:=Flat.of fun r u c e q s rs=>by
 obtain⟨i,hi⟩:=List.mem_iff_getElem?.1 u;have l:=(aHP.1 hi).1;rcases h.2 i r _ hi (aGS (by rw[← h.1]; exact l)) with rfl | ⟨rfl,-⟩
 ·rw[aHU] at e; subst e; rfl
 ·rw[aHU] at e; subst e; rfl
abbrev be (ws:List (List Bool)):PV:=.sl 1 (ws.map fun w=>[kM w])
theorem oW.co {y:List (List PV)} {ws:List (List Bool)} (h:oW y ws):Co (.sl 1 y) (be ws):=by
 have x:∀ (i:Nat) r t,y[i]?=some r→(ws.map fun w=>[kM w])[i]?=some t→∃ w,t=[kM w]∧(r=[kM w]∨(r=[.aA]∧w=[])):=fun i r t u e=>by
  rw[aHF] at e;cases B:ws[i]? with
  | none=>rw[B] at e; cases e
  | some w =>rw[B] at e;cases e;exact⟨w,rfl,h.2 i r w u B⟩
 refine .sl (by rw[aGK,h.1]) (fun i r t u e=>?_) (fun i j p q l hq=>?_)
 ·obtain⟨w,rfl,A | ⟨A,-⟩⟩:=x i r t u e<;>subst A<;>rfl
 ·unfold at2 at l hq;cases u:y[i]? with
  | none=>rw[u] at l; cases l
  | some r =>
   cases e:(ws.map fun w=>[kM w])[i]? with
   | none=>rw[e] at hq; cases hq
   | some t =>
    rw[u] at l;rw[e] at hq;obtain⟨w,rfl,A⟩:=x i r t u e;rcases A with rfl | ⟨rfl,rfl⟩
    ·have:some p=some q:=l.symm.trans hq;cases this;exact .refl _
    ·cases j with
     | zero=>cases l; cases hq; exact .nil 1
     | succ j=>cases l
abbrev fN.cells (c:fN):List PV:=[kM c.vols,be c.aFG,kM c.aFQ]
theorem HA (l:List Bool):Flat (bF l):=Flat.map l fun x c e q s rs=>by rw[aHU] at e; subst e; rfl
theorem J3 {res:List dW} {F:PF} {H:PH} {y u w:PV} {V R:List Bool} {A:List (List PV)} {ws:List (List Bool)} {b:Bool} {e:kE} (he:e=.normal∨e=.ret) (h:dW.evs F H res=some [.agg [y,u,w],.bool b])
  (B:oW A ws) (N:aL H [] [(y,1,bF V),(u,1,A),(w,1,bF R)]):aT res (cD (.tup [.agg (fN.cells ⟨V,ws,R⟩),.bool b])) e F H:=by
 obtain⟨φ,S,k1,-,-,O⟩:=aL.Xj _ N (fun x I=>by
  simp only[aGV,aHH,or_false] at I;rcases I with rfl | rfl | rfl
  ·exact HA V
  ·exact B.flat
  ·exact HA R) (fun b hb=>by cases hb)
 refine oI he h ?_;refine O [y,u,w] b _ (.done (H2:=.nil) ⟨?_,rfl⟩ a_);have J:=(k1 (y,1,bF V) (by simp)).co;have K:Co (φ u) (be ws):=by
  rcases k1 (u,1,A) (by simp) with ⟨E,h2⟩ | h2
  ·simp only at E h2;rw[h2];have:ws=[]:=List.length_eq_zero_iff.1 (by rw[← B.1,E]; rfl);subst this;exact .nil 1
  ·simp only at h2;rw[h2]; exact B.co
 have M:=(k1 (w,1,bF R) (by simp)).co;refine .tup rfl fun j p q l hq=>?_
 match j with
 | 0 =>
  cases l; cases hq;refine .agg rfl fun j p q l hq=>?_
  match j with
  | 0=>cases l; cases hq; exact J
  | 1=>cases l; cases hq; exact K
  | 2=>cases l; cases hq; exact M
  | j+3=>cases l
 | 1=>cases l; cases hq; exact .refl _
 | j+2=>cases l
def Aj:fN:=⟨[],[],[]⟩
def bc (f:aC) (room:List Int) (c:fN) (b:Bool):Prop :=
 (dE f=false∧c=Aj∧b=false)∨(dE f=true∧tK f room∧c=Aj∧b=false)∨(dE f=true∧¬ tK f room∧pX f room c=true∧b=true)
def agU (f:aC) (room:List Int) (r:PV) (H:PH):Prop:=∃ c b,bc f room c b∧cD (.tup [.agg c.cells,.bool b]) r H
def agT (f:aC) (room:List Int) (r:PV) (H:PH):Prop:=∃ c b,bc f room c b∧r=.tup [.agg c.cells,.bool b]∧H=PH.nil
theorem aG.why {C:Ctx} {name:Nat} {args:List PV} {f:aC} {room:List Int} (h:aG C name args .nil (agU f room)):aG C name args .nil (agT f room) :=
 h.post fun r H' ⟨ws,c,e,j,l⟩=>⟨_,j,ws,c,e,rfl,l⟩
theorem aoH {res:List dW} {f:aC} {room:List Int} {c:fN} {b:Bool} {e:kE} {F:PF} {H:PH} (j:bc f room c b) (h:aT res (cD (.tup [.agg c.cells,.bool b])) e F H):aT res (agU f room) e F H :=
 uh (fun r H' l=>⟨c,b,j,l⟩) h
abbrev gR (l e j:PV):bG:=.rows 3 [[l,e,j]]
def DB (f:aC) (S:Nat→Bool) (k:Nat):List Bool:=(aGL k).map fun v=>S (cO f v 0)
def tV (f:aC) (S:Nat→Bool) (v k:Nat):List Bool:=(aGL k).map fun i=>S (cO f v (i+1))
def RZ (f:aC) (S:Nat→Bool) (k:Nat):List (List Bool):=(aGL k).map fun v=>tV f S v (f.aEZ.length-1)
def NE (f:aC) (S:Nat→Bool) (k:Nat):List Bool:=(aGL k).map fun d=>S (bH f d)
theorem qT {α:Type} (g:Nat→α) (k:Nat):(aGL (k+1)).map g=(aGL k).map g++[g k]:=by rw[aJA,aHX]; rfl
theorem HB (l:List Bool) (b:Bool):bF l++[[.bool b]]=bF (l++[b]):=by simp[bF]
theorem ahI (f:aC) (S:Nat→Bool):wE f S=⟨DB f S f.aEY.length,RZ f S f.aEY.length,NE f S f.aEW.length⟩:=rfl
theorem ZR {S:Nat→Bool} {N i:Nat} (h:i<N):(bF ((aGL N).map S))[i]?=some [.bool (S i)]:=by
 rw[mG (by simp[h])];rw[aGU,aHF,aJI h]; rfl
def yv (v:PV):Prop:=∀ (E e:Env) (u:Value),aS E v u→aS e v u
theorem yv.pair (n:Int) (b:Bool):yv (.tup [.int .i64 n,.bool b]):=fun E y u h=>by
 cases h with
 | tup vs l w =>
  refine .tup vs l fun j p v e x=>?_;have:=w j p v e x
  match j with
  | 0=>cases e; cases this; exact .int _ _
  | 1=>cases e; cases this; exact .bool _
  | j+2=>cases e
theorem aG.azF {C:Ctx} {name o s:Nat} {rs:List (List PV)} {args:List PV} {v:PV} (V:yv v) (h:aG C name (args.map (PV.frz o s rs)) .nil (aM v)) :
  aG C name args (PH.nil.set o (.rows s rs)) (fun r H'=>r=v∧H'=PH.nil.set o (.rows s rs)):=by
 refine⟨h.1,fun E w vs M hW F=>?_⟩;have W:jF (PF.args args) (PH.nil.set o (.rows s rs)) _ _:=.step o (s:=s) (rs:=rs) (by simp only[aP,if_true]) (.refl _ _);obtain⟨J,k1,k2,X⟩:=W.sound hW;rw[kh] at k1 k2;have B:=F.len;have I:eR J (args.map (PV.frz o s rs)) vs.toList:=by
  refine eR.of _ _ (by rw[aGK]; exact B) fun i p u R U=>?_;have:=X (fun i=>(vs.toList[i]?).getD undef) (fun j q K=>by have O:=(aHP.1 K).1;have A:j<vs.toList.length:=Om;simp only[aGS A,aJF];exact F.at_ j q _ K (aGS A)) i p (by rw[oF,args_at,← aHF]; exact R)
  simp only[U,aJF] at this;exact this
 refine (h.2 J w vs (k2.env.num.trans M) k1 I).mono fun e Y he=>?_;obtain⟨u,pv,Z,H2,rfl,N,S,y,rfl,rfl⟩:=he;have l:∀ b,b<w.heap.size→Y.heap[b]?=w.heap[b]?:=fun b hb=>y.block b hb rfl;exact⟨u,pv,E,_,rfl,hW.same y.size (fun b hb _=>l b hb) (fun q x hq=>l q (hW.h q x hq).1),V _ _ _ S,⟨.refl E,y.os,y.tape,y.output,y.size,fun b hb _=>l b hb,fun q x hq=>.inl ⟨x,hq⟩,fun b cs hb=>.inl hb⟩,rfl,rfl⟩
def avO (name:Nat) (v:PV):Spec:=fun e vs=>if e=name then match vs with
 | [_,.osl o _ _ _]=>some ([o],fun G r H'=>r=v∧H'=G)
 | _=>none
 else none
def FY (f:aC) (room:List Int) (c:fN):Bool:=dE f&&pX f room c
def Y9 (f:aC) (c:fN) (k:Nat):Prop:=∀ r∈c.aFG.take k,r.length=f.aEZ.length-1
theorem aeQ {f:aC} {c:fN} {k:Nat} (h:Y9 f c k):(c.aFG.take k).flatten.length≤k*(f.aEZ.length-1):=by
 rw[xC h];exact aHO _ (by rw[aGY]; omega)
theorem amN {f:aC} {c:fN} {k:Nat} (e:k<c.aFG.length) (h:c.aFG[k].length≠f.aEZ.length-1):c.shape f=false:=by
 cases j:c.shape f with
 | false=>rfl
 | true=>exact absurd ((CE.1 j).r _ (aGP e)) h
def ahD (f:aC) (c:fN) (o7:Nat) (v:PV) (k:Nat):PF:=(((((((PF.nil.set 3 (.cS f.cells)).set 5 (.cS c.cells)).set 7 (.ptr o7 4 0 0)).set 9 (v)).set 54 (be c.aFG)).set 55 (.int .i64 (c.aFG.length:Nat))).set 56 (.int .i64 (k:Nat)))
theorem aqI {C:Ctx} (Lb:MR C) (I:∀ (n:cC) (cut:List Bool),fU n→Wa n cut→aG C 293 [.agg n.cells,kM cut] .nil (aM (.tup [.int .i64 ((dB (fun w=>cut.getD w false) n.arcs:Nat):Int),.bool true])))
  (f:aC) (hf:f.Ok) (room:List Int) (c:fN) (hc:c.vols.length≤1000000∧c.aFG.length≤1000000∧c.aFQ.length≤1000000) :
  NJ.wp C (aT ahU.res (aM (.bool (FY f room c)))) (PF.args [.agg f.cells,ints room,.agg c.cells]) .nil:=by
 have B:FY f room c=(dE f&&(c.shape f&&decide (dB (HC c) (fQ f room)<pK f))):=rfl;obtain⟨δ,ε,ζ⟩:=hc;simp only[go_sem,NJ,Pn,ahU,Po];refine aB (Lb.net f room hf) Ev ?_;simp only[go_sem,YT];refine aQ fun q hq=>?_;have h1:aL (PH.nil.set q lC) [(q,lC)] []:=aL.nil.new hq lC;generalize (PH.nil.set q lC)=H1 at *
 have q1:=h1.at 0 rfl;have h2:=h1.set 0 rfl (pP (EJ f room));simp only[go_sem,q1];generalize H1.set q (.rows 4 [(EJ f room).cells])=H2 at *
 cases A:dE f with
 | false =>simp only[go_sem,zM,SS A,GA];exact oN (b:=false) Sq (by rw[B,A]; rfl)
 | true =>
  have hV:=VF.of A;have hs:=hV.small;have hr:=hV.root;have θ:=hs.aEZ;have ι:=hs.aEW;have κ:=hs.aEY;have hn:=OZ hV room;rw[SU A] at h2;rw[A,aHK] at B;by_cases c1:c.vols.length=f.aEY.length
  ·by_cases c2:c.aFG.length=f.aEY.length
   ·by_cases c3:c.aFQ.length=f.aEW.length
    ·simp only[go_sem,zM,vN A,fN.cells,aGK,cK (Om:(c.vols.length:Int)=(f.aEY.length:Nat)),cK (Om:(c.aFG.length:Int)=(f.aEY.length:Nat)),cK (Om:(c.aFQ.length:Int)=(f.aEW.length:Nat)),Pp];refine aQ fun o ho=>?_;have h3:=h2.me (s:=1) (rows:=[[.bool true],[.bool false]]) ho;generalize H2.set o (.rows 1 [[.bool true],[.bool false]])=H3 at *
     simp only[go_sem];refine h3.append 0 (src:=bF c.vols) rfl Sq (by unfold roomFor; rw[jC]; simp only[aIF,aIV,maxLen]; omega) fun v4 H4 h4 _=>?_;simp only[go_sem,Pq,aGK];refine wp_loop (α:=Nat × PV × PH) (fun s=>ahD f c q s.2.1 s.1) (fun s=>s.2.2) (fun s=>s.1≤c.aFG.length∧Y9 f c s.1∧aL s.2.2 [(q,pP (eD f room))] [(s.2.1,1,bF (true::false::(c.vols++(c.aFG.take s.1).flatten)))]) (fun s=>c.aFG.length-s.1) (0,v4,H4) ⟨aGW _,fun r h=>by simp at h,by simpa using h4⟩ (by unfold ahD; (repeat' (first|exact d_|refine c_ ?_ ?_))<;>first|(simp only[go_sem,aGK,fN.cells]<;>rfl)|rfl) b_ ?_;rintro⟨k,v,H5⟩ ⟨hk,y,F⟩;simp only at hk y F;have Y:=aeQ y;have η:k*(f.aEZ.length-1)≤12*40:=aJU Om Om;simp only[go_sem,Aw,Ps,ahD];by_cases hlt:k<c.aFG.length
     ·have l:(k:Int)<(c.aFG.length:Nat):=Om;have β:=wZz k;have W:(c.aFG.map fun w=>[kM w])[k]?=some [kM c.aFG[k]]:=by simp[hlt]
      have hw:IntKind.i64.wrap ((f.aEZ.length:Int)-1)=((f.aEZ.length-1:Nat):Int):=by rw[wrap_i64 Om Om]; omega
      have J:c.aFG.take (k+1)=c.aFG.take k++[c.aFG[k]]:=aIR hlt;have γ:=amN (f:=f) hlt;generalize c.aFG[k]=row at *
      simp only[go_sem,l,Pt,W,Pu,aGK,hw];by_cases cr:row.length=f.aEZ.length-1
      ·simp only[go_sem,cK (Om:(row.length:Int)=((f.aEZ.length-1:Nat):Int)),Ax];refine F.append 0 (src:=bF row) rfl Sq (by unfold roomFor; rw[jC,jC]; simp only[aIF,aGO,maxLen]; omega) fun v' H' S _=>?_;simp only[go_sem,Ay,β];refine aH (k+1,v',H') ⟨hlt,?_,?_⟩ (by simp only; omega) Lq b_
       ·intro r hr;simp only at hr;rw[J] at hr;rcases aHQ.1 hr with hr | hr
        ·exact y r hr
        ·rw[aHU] at hr; subst hr; exact cr
       ·simp only;have O:bF (true::false::(c.vols++(c.aFG.take (k+1)).flatten))=bF (true::false::(c.vols++(c.aFG.take k).flatten))++bF row:=by rw[J];simp[bF]
        show aL H' _ [(v',1,bF (true::false::(c.vols++(c.aFG.take (k+1)).flatten)))];rw[O];exact S
      ·simp only[go_sem,dN (Om:¬ (row.length:Int)=((f.aEZ.length-1:Nat):Int)),Pv];exact oN (b:=false) Sq (by rw[B,γ cr]; rfl)
     ·have l:¬ (k:Int)<(c.aFG.length:Nat):=Om;have Z:k=c.aFG.length:=Om;subst Z;have e:Shape f c:=⟨c1,c2,c3,by have:=y; unfold Y9 at this; rwa [aHV] at this⟩;rw[aHV] at F Y;have E:H5 q=some (pP (eD f room)):=F.at 0 rfl;have j:oA c=true::false::(c.vols++(c.aFG.flatten++c.aFQ)):=rfl;have U:Wa (eD f room) (oA c):=⟨ahH hV e,rfl,rfl⟩;have X:=I (eD f room) (oA c) hn U;simp only[go_sem,l];refine bP (PH.nil.set q (pP (eD f room))) (avO 293 (.tup [.int .i64 ((dB (fun w=>(oA c).getD w false) (eD f room).arcs:Nat):Int),.bool true])) (e_ a_ E) ?_;simp only[go_sem,Az,E];refine F.append 0 (src:=bF c.aFQ) rfl Sq (by unfold roomFor; rw[jC,jC]; simp only[aIF,aGO,maxLen]; omega) fun v' H' S _=>?_;have O:bF (true::false::(c.vols++c.aFG.flatten))++bF c.aFQ=bF (oA c):=by rw[j];simp[bF]
      have u:aL H' [(q,pP (eD f room))] [(v',1,bF (oA c))]:=by rw[← O]; exact S
      obtain⟨p,rfl⟩:=(u.own 0 rfl).one (by rw[jC,j]; simp);obtain⟨rs,r1,r2,r3,r4⟩:=(u.own 0 rfl).id rfl;refine⟨e_ a_ (u.at 0 rfl),?_⟩;refine HE (o:=p) (x:=.rows 1 rs) (v:=.tup [.int .i64 ((dB (fun w=>(oA c).getD w false) (eD f room).arcs:Nat):Int),.bool true]) (vs:=[.agg (eD f room).cells,.osl p 1 0 (bF (oA c)).length]) (R:=fun G r H'=>r=(.tup [.int .i64 ((dB (fun w=>(oA c).getD w false) (eD f room).arcs:Nat):Int),.bool true])∧H'=G) (by unfold avO; rw[if_pos rfl]) r1 (aG.azF (yv.pair _ _) ?_) ⟨rfl,rfl⟩ (fun r H' h=>h) Sq (e_ a_ (u.at 0 rfl)) ?_
      ·have e3:([.agg (eD f room).cells,.osl p 1 0 (bF (oA c)).length]:List PV).map (PV.frz p 1 rs)=[.agg (eD f room).cells,kM (oA c)]:=by show [PV.agg _,PV.frz p 1 rs (.osl p 1 0 (bF (oA c)).length)]=_;rw[zQ r3,r4]; rfl
       rw[e3];exact X
      ·rw[CE.2 e,aHK] at B;have V:FY f room c=decide (((dB (fun w=>(oA c).getD w false) (eD f room).arcs:Nat):Int)<((pK f:Nat):Int)):=by rw[B];exact decide_eq_decide.2 ⟨fun h=>Int.ofNat_lt.2 h,fun h=>Int.ofNat_lt.1 h⟩
       generalize dB (fun w=>(oA c).getD w false) (eD f room).arcs=cp at *
       simp only[go_sem,A0];refine aB (Lb.demand f hV) Ev ?_;simp only[go_sem];exact oN Sq V.symm
    ·have N:¬ (c.aFQ.length:Int)=(f.aEW.length:Nat):=Om;simp only[go_sem,zM,vN A,fN.cells,aGK,cK (Om:(c.vols.length:Int)=(f.aEY.length:Nat)),cK (Om:(c.aFG.length:Int)=(f.aEY.length:Nat)),dN N,GA];exact oN (b:=false) Sq (by rw[B,fN.shape,decide_eq_false c3]; simp)
   ·have M:¬ (c.aFG.length:Int)=(f.aEY.length:Nat):=Om;simp only[go_sem,zM,vN A,fN.cells,aGK,cK (Om:(c.vols.length:Int)=(f.aEY.length:Nat)),dN M,GA];exact oN (b:=false) Sq (by rw[B,fN.shape,decide_eq_false c2]; simp)
  ·have K:¬ (c.vols.length:Int)=(f.aEY.length:Nat):=Om;simp only[go_sem,zM,vN A,fN.cells,aGK,dN K,GA];exact oN (b:=false) Sq (by rw[B,fN.shape,decide_eq_false c1]; simp)
theorem io:eU.aEY.length=1∧eU.aEW.length=1:=by decide +kernel
theorem Zh:rD eU [[0]]:=⟨by decide +kernel,by decide +kernel,by decide +kernel⟩
theorem ik:tK eU []:=(A1 jT).2 ⟨_,Zh,Oi⟩
theorem im:¬ tK eU [0]:=by
 rintro⟨u,A⟩;obtain⟨j,l⟩:=io;have e:(0:Nat)<eU.aEY.length:=Om;have w:(0:Nat)<eU.aEW.length:=Om;have a1:=A.num 0 e;have a2:=A.room 0 w;have a3:=(nL (VF.of jT) e).2.1;have a4:KJ eU [0] 0=0:=by decide +kernel
 rw[l] at a1;rw[j,a4] at a2;have x:fB (u 0) 1=one (u 0 0):=by simp[fB,cH]
 have y:fB (fun v=>u v 0) 1=one (u 0 0):=by simp[fB,cH]
 omega
theorem afC {u:Nat→Nat→Bool} (A:tJ eU [] u):sK eU u=[[0]]:=by
 obtain⟨w,e⟩:=io;have j:(0:Nat)<eU.aEY.length:=Om;have a1:=A.num 0 j;have a3:=(nL (VF.of jT) j).2.1;rw[e] at a1;have l:fB (u 0) 1=one (u 0 0):=by simp[fB,cH]
 have x:u 0 0=true:=by
  cases h:u 0 0 with
  | true=>rfl
  | false=>rw[l,h,wP] at a1; omega
 unfold sK oK;rw[w,e];simp[x,Hy,aJA]
theorem Oj {ws:List (List Int)} {c:Int} (h:zJ eU [] ws c):ws=[[0]]∧c=0:=by
 rcases h with ⟨h,-⟩ | ⟨-,⟨u,A,rfl⟩,rfl⟩ | ⟨-,h,-⟩
 ·rw[jT] at h; cases h
 ·exact⟨afC A,rfl⟩
 ·exact absurd ik h
theorem Zi {ws:List (List Int)} {c:Int} (h:zJ eU [0] ws c):ws=[]∧c=12:=by
 rcases h with ⟨h,-⟩ | ⟨-,⟨u,A,-⟩,-⟩ | ⟨-,-,h⟩
 ·rw[jT] at h; cases h
 ·exact absurd ⟨u,A⟩ im
 ·exact h
def uZ (c:fN):Prop:=c.vols.length≤1000000∧c.aFG.length≤1000000∧c.aFQ.length≤1000000
theorem uZ.of {f:aC} (hV:VF f) {c:fN} (h:Shape f c):uZ c:=by
 have e:=h.v;have j:=h.i;have l:=h.d;have u:=hV.small.aEY;have h5:=hV.small.aEW;unfold uZ;omega
theorem Ny {f:aC} {room:List Int} {c:fN} (h:pX f room c=true):Shape f c:=by
 unfold pX at h;rw[aHC] at h;exact CE.1 h.1
theorem afD {c:fN} {b:Bool} (h:bc eU [0] c b):b=true∧pX eU [0] c=true∧pX eU [] c=false∧uZ c:=by
 have hV:=VF.of jT;rcases h with ⟨h,-⟩ | ⟨-,h,-⟩ | ⟨-,-,h,rfl⟩
 ·rw[jT] at h; cases h
 ·exact absurd h im
 ·refine⟨rfl,h,?_,.of hV (Ny h)⟩;cases e:pX eU [] c with
  | false=>rfl
  | true=>exact absurd ik (check_sound hV e)
structure aaE (C:Ctx):Prop where
 fleet:∀ (l:List Nat),(∀ x∈l,x<256)→l.length≤9223372036854775807→∀ aEW aEY:Nat,aEW≤60→aEY≤50 →
  aG C 27 [.sl 1 (kB l),.int .i64 aEW,.int .i64 aEY] .nil (aM (.agg (hC (l.take 400) aEW aEY 0).1.cells))
 place:∀ (f:aC) (room:List Int),f.Ok→aG C 288 [.agg f.cells,ints room] .nil (zn f room)
 why:∀ (f:aC) (room:List Int),f.Ok→aG C 289 [.agg f.cells,ints room] .nil (agT f room)
 chk:∀ (f:aC) (room:List Int) (c:fN),f.Ok→uZ c→aG C 290 [.agg f.cells,ints room,.agg c.cells] .nil (aM (.bool (FY f room c)))
theorem agN {C:Ctx} (L:aaE C):FQ.wp C (aT Nt.res (aM (.bool true))) (PF.args []) .nil:=by
 have h:=L.fleet [] (fun x I=>by cases I) (by decide) 1 0 (by decide) (by decide);have J:=(L.place eU [] tB).args (args:=[.agg eU.cells,.aA]) (.BH (.refl _) (.BH (.nil 1) .alJ));have K:=L.place eU [0] tB;have M:=L.why eU [0] tB;simp only[go_sem,FQ,xu,xv,Nt];refine aB (h.args (.BH (.nil 1) (.BH (.refl _) (.BH (.refl _) .alJ)))) (by simp only[go_sem]; rfl) ?_;simp only[go_sem];refine aQ fun o V=>?_;simp only[go_sem,xw,aGV,aHH,or_false,forall_eq];show wpOps C RW _ _ (PH.nil.set o (.rows 7 [eU.cells]));have u:(PH.nil.set o (.rows 7 [eU.cells])) o=some (.rows 7 [eU.cells]):=by rw[cM]
 generalize U:(PH.nil.set o (.rows 7 [eU.cells]))=S at *
 have F:=tB;have w:=jT;have N:=fun ws c h=>Oj (ws:=ws) (c:=c) h;have O:=fun ws c h=>Zi (ws:=ws) (c:=c) h;have R:=fun c b h=>afD (c:=c) (b:=b) h;have B:=fun c=>L.chk eU [0] c tB;have E:=fun c (h:uZ c)=>(L.chk eU [] c tB h).args (args:=[.agg eU.cells,.aA,.agg c.cells]) (.BH (.refl _) (.BH (.nil 1) (.BH (.refl _) .alJ)));generalize eU=f at *
 simp only[go_sem,RW,u];refine dU J Sq a_ ?_;rintro r H' ⟨ws,c,A,rfl,rfl⟩ -;rw[PH.kW];obtain⟨rfl,rfl⟩:=N _ _ A;simp only[go_sem,xx,u];refine dU K (by simp only[go_sem]; rfl) a_ ?_;rintro r H' ⟨ws,c,A,rfl,rfl⟩ -;rw[PH.kW];obtain⟨rfl,rfl⟩:=O _ _ A;simp only[go_sem,xy,u];refine dU M (by simp only[go_sem]; rfl) a_ ?_;rintro r H' ⟨ct,b,A,rfl,rfl⟩ -;rw[PH.kW];obtain⟨rfl,g1,g2,g3⟩:=R _ _ A;have k1:=B ct g3;have k2:=E ct g3;rw[FY,w,aHK,g1] at k1;rw[FY,w,aHK,g2] at k2;simp only[go_sem];refine aQ fun o2 y=>?_;have l:¬ o=o2:=fun e=>by rw[← e,u] at y; cases y
 have j:¬ o2=o:=fun e=>l e.symm;simp only[go_sem,xz,u,l,j,bM (show (0:Int)=0 from rfl),bM (show (12:Int)=12 from rfl),bM (show ((1:Nat):Int)=1 from rfl),aGK,aIF,aIV];refine aB k1 (by simp only[go_sem]; rfl) ?_;simp only[go_sem,u,l,j];refine aB k2 Sq ?_;simp only[go_sem];refine cE (.inr rfl) Ev ?_;rfl




structure aaF (C:Ctx):Prop where
 new:∀ (l:List Nat),(∀ x∈l,x<256)→l.length≤9223372036854775807→aG C 28 [.sl 1 (kB l)] .nil (jv l)
 tfleet:∀ (l:List Nat) (v:PV),Tp l v→∀ (o aEW aEY a:Nat),aEW≤60→aEY≤50→a≤l.length →
  aG C 0 [.ptr o 2 0 0,.int .i64 aEW,.int .i64 aEY] (PH.nil.set o (aR v a)) (fun r H=>r=.agg (hC l aEW aEY a).1.cells∧H=PH.nil.set o (aR v (hC l aEW aEY a).2))
 TC:∀ (l:List Nat) (v:PV),Tp l v→∀ (o a:Nat) (f:aC),f.aEW.length≤1000→a≤l.length→aG C 6 [.ptr o 2 0 0,.agg f.cells] (PH.nil.set o (aR v a)) (fun r H=>r=ints (pQ l f a).1∧H=PH.nil.set o (aR v (pQ l f a).2))
theorem aL.azL {C:Ctx} {F:PF} {H:PH} {B:List BX} {L:List LI} {args:List aN} {d:Option Nat} {K:PF→PH→Prop} (h:aL H B L) {l:List Nat} (w:aG C 28 [.sl 1 (kB l)] .nil (jv l)) (j:aN.evs F args=some [.sl 1 (kB l)]) (u:∀ o v H',Tp (l.take 400) v→aL H' (B++[(o,aR v 0)]) L→K (F.put d (.ptr o 2 0 0)) H'):gA C 28 args [] d K F H:=by
 refine dU w j a_ ?_;rintro r H' ⟨o,v,rfl,T,rfl⟩ e;rw[PH.oH];exact u o v _ T (h.new (e o (aR v 0) (by rw[cM]) rfl) _)
structure zi (C:Ctx):Prop extends aaF C where
 awake:aG C 312 [] .nil (aM (.bool true))
 tlayout:∀ (l:List Nat) (v:PV),Tp l v→∀ (o a:Nat) (f:aC),VF f→a≤l.length→aG C 3 [.ptr o 2 0 0,.agg f.cells] (PH.nil.set o (aR v a)) (fun r H=>r=lay (cY l f a f.aEY.length).1∧H=PH.nil.set o (aR v (cY l f a f.aEY.length).2))
 place:∀ (f:aC) (room:List Int),f.Ok→aG C 288 [.agg f.cells,ints room] .nil (zn f room)
 why:∀ (f:aC) (room:List Int),f.Ok→aG C 289 [.agg f.cells,ints room] .nil (agT f room)
 holds:∀ (f:aC) (l:List (List Int)) (room:List Int),f.Ok→rR l→aG C 150 [.agg f.cells,lay l,ints room] .nil (aM (.bool (oX f l room)))
theorem Y2 {f:aC} {room:List Int} {ws:List (List Int)} {c:Int} (h:zJ f room ws c) (e:tK f room) (j:dE f=true):c=0:=by
 rcases h with ⟨a,-⟩ | ⟨-,-,rfl⟩ | ⟨-,b,-⟩
 ·rw[j] at a; cases a
 ·rfl
 ·exact absurd e b
theorem aoI {f:aC} {room:List Int} {c:fN} {b:Bool} (h:bc f room c b) (e:tK f room):b=false:=by
 rcases h with ⟨-,-,rfl⟩ | ⟨-,-,-,rfl⟩ | ⟨-,g,-⟩
 ·rfl
 ·rfl
 ·exact absurd e g
theorem agQ {C:Ctx} (e:zi C) (l:List Nat) (hb:∀ x∈l,x<256) (hl:l.length≤9223372036854775807) :
  FS.wp C (aT jt.res (aM (.bool true))) (PF.args [.sl 1 (kB l)]) .nil:=by
 obtain⟨y,w⟩:=ahS l (d:=8) (v:=3) (by decide) (by decide);have hV:=VF.of y;have hd:=hV.small.aEW;have J:=aCD l (d:=8) (v:=3) (by decide) (by decide);have a1:=oc (l.take 400) 8 3 (aGW _);have a2:=(yE (l.take 400) (fT l 8 3) a1 (fT l 8 3).aEY.length).1;have u:=J.ok hV;have k0:∀ v,Tp (l.take 400) v→∀ o,aG C 0 [.ptr o 2 0 0,.int .i64 (8:Nat),.int .i64 (3:Nat)] (PH.nil.set o (aR v 0)) (fun r H=>r=.agg (fT l 8 3).cells∧H=PH.nil.set o (aR v (faT l 8 3))):=fun v T o=>e.tfleet (l.take 400) v T o 8 3 0 (by decide) (by decide) (aGW _);have k1:∀ v,Tp (l.take 400) v→∀ o,aG C 3 [.ptr o 2 0 0,.agg (fT l 8 3).cells] (PH.nil.set o (aR v (faT l 8 3))) (fun r H=>r=lay (lT l 8 3)∧H=PH.nil.set o (aR v (laT l 8 3))):=fun v T o=>e.tlayout (l.take 400) v T o (faT l 8 3) (fT l 8 3) hV a1;have k2:∀ v,Tp (l.take 400) v→∀ o,aG C 6 [.ptr o 2 0 0,.agg (fT l 8 3).cells] (PH.nil.set o (aR v (laT l 8 3))) (fun r H=>r=ints (rT l 8 3)∧H=PH.nil.set o (aR v (pQ (l.take 400) (fT l 8 3) (laT l 8 3)).2)):=fun v T o=>e.TC (l.take 400) v T o (laT l 8 3) (fT l 8 3) Om a2;have k3:=e.place (fT l 8 3) (rT l 8 3) w;have k4:=e.why (fT l 8 3) (rT l 8 3) w;have k5:=e.holds (fT l 8 3) (lT l 8 3) (rT l 8 3) w u;generalize (pQ (l.take 400) (fT l 8 3) (laT l 8 3)).2=R at *
 generalize laT l 8 3=at2 at *
 generalize faT l 8 3=O at *
 generalize lT l 8 3=L at *
 generalize rT l 8 3=room at *
 generalize fT l 8 3=f at *
 simp only[go_sem,FS,x2,x3,jt];refine aL.nil.azL (e.new l hb hl) Sq fun o v K T j=>?_;have j:aL K [(o,aR v 0)] []:=j;simp only[go_sem,x4];refine j.anA 0 rfl (k0 v T o) (by simp only[go_sem]; rfl) fun H2 Z=>?_;simp only[go_sem];refine Z.vE fun q M B=>?_;have S:=B.at 1 rfl;have E:=B.set 1 rfl (.rows 7 [f.cells]);simp only[go_sem,S];generalize M.set q (.rows 7 [f.cells])=H4 at *
 have U:=E.at 1 rfl;simp only[go_sem,x5,U];refine E.anA 0 rfl (k1 v T o) Sq fun H5 h5=>?_;have V:=h5.at 1 rfl;simp only[go_sem,x6,V];refine h5.anA 0 rfl (k2 v T o) Sq fun H6 F=>?_;have A:=F.at 1 rfl;simp only[go_sem,x7,A];refine dU k3 Sq a_ ?_;rintro r H' ⟨ws,p,hp,rfl,rfl⟩ -;rw[PH.kW];simp only[go_sem,x8,A];refine dU k4 Sq a_ ?_;rintro r H' ⟨x,b,hy,rfl,rfl⟩ -;rw[PH.kW];simp only[go_sem];refine F.vE fun o9 N h7=>?_;have W:=h7.at 2 rfl;have h8:=h7.set 2 rfl (.rows 3 [x.cells]);simp only[go_sem,W];generalize N.set o9 (.rows 3 [x.cells])=H8 at *
 have X:=h8.at 1 rfl;simp only[go_sem,x9,X];refine aB k5 Sq ?_;cases hh:oX f L room with
 | false =>simp only[go_sem,aHM];refine aB e.awake Ev ?_;simp only[go_sem];exact oN Sq rfl
 | true =>have I:tK f room:=(A1 y).2 ⟨L,J,hh⟩;have Y:=Y2 hp I y;have h9:=aoI hy I;subst h9;simp only[go_sem,aHB,aHM,bM Y];refine aB e.awake Ev ?_;simp only[go_sem];exact oN Sq rfl
structure WO where
 z:Nat
 n:Nat
 c:Nat
def sQ (f:aC) (S:Nat→Bool) (e:WO) (k:Nat):PF:=(((((((PF.nil.set 2 (.cS f.cells)).set 4 (.ptr e.z 3 0 0)).set 10 (.sl 1 (bF ((aGL (bH f f.aEW.length)).map S)))).set 12 (.ptr e.n 2 0 0)).set 13 (.ptr e.c 3 0 0)).set 48 (.int .i64 (f.aEY.length:Nat))).set 49 (.int .i64 (k:Nat)))
def nr (f:aC) (S:Nat→Bool) (e:WO) (k:Nat) (w:PV) (i:Nat):PF:=(((sQ f S e k).set 14 (.int .i64 (k:Nat))).set 15 w).set 16 (.int .i64 ((i+1:Nat):Int))
def RU (f:aC) (S:Nat→Bool) (e:WO) (k:Nat):PF:=((((((PF.nil.set 4 (.ptr e.z 3 0 0)).set 10 (.sl 1 (bF ((aGL (bH f f.aEW.length)).map S)))).set 12 (.ptr e.n 2 0 0)).set 13 (.ptr e.c 3 0 0)).set 93 (.int .i64 (f.aEW.length:Nat))).set 94 (.int .i64 (k:Nat)))
theorem aiE {C:Ctx} (U:mE C) {K:cG} [Up K] (f:aC) (hV:VF f) (S:Nat→Bool) (e:WO) (k:Nat) (hk:k<f.aEY.length) (y L1:LI) (B:List BX) (w:PV) (x:∃ q n,w=.osl q 1 0 n) {F:PF} {H:PH}
  (Z:B[0]?=some (e.n,fC f)) (l:aL H B [y,L1,(w,1,[])]) (hF:(nr f S e k w 0).le F)
  (hK:∀ u H',(∃ q n,u=.osl q 1 0 n)→aL H' B [y,L1,(u,1,bF (tV f S k (f.aEZ.length-1)))]→K (.exit 2) ((sQ f S e k).set 15 u) H'):aE.wp C (.loop WM) K F H:=by
 have E:=hV.small;have R:=hV.root;have β:=E.aEZ;have γ:=E.aEY;refine wp_loop (α:=Nat × PV × PH) (fun s=>nr f S e k s.2.1 s.1) (fun s=>s.2.2) (fun s=>s.1+1≤f.aEZ.length∧(∃ q n,s.2.1=.osl q 1 0 n)∧aL s.2.2 B [y,L1,(s.2.1,1,bF (tV f S k s.1))]) (fun s=>f.aEZ.length-s.1) (0,w,H) ⟨by have:=R.1; omega,x,l⟩ hF b_ ?_;rintro⟨i,w,N⟩ ⟨hi,x,l⟩;simp only at hi x l;simp only[go_sem,WM,Ch,nr,sQ,aGK];by_cases hlt:i+1<f.aEZ.length
 ·have j:((i+1:Nat):Int)<(f.aEZ.length:Nat):=Om;have A:=dJ (Om:i+1<9223372036854775807);have Y:N e.n=some (fC f):=l.at 0 Z;obtain⟨d1,V⟩:=iH hV hk hlt;have W:cO f k (i+1)<bH f f.aEW.length:=Nat.lt_of_lt_of_le V (by unfold bH; omega);have X:((cO f k (i+1):Nat):Int)<((bH f f.aEW.length:Nat):Int):=Om;have I:=ZR (S:=S) W;have M:(tV f S k i).length=i:=by simp[tV]
  simp only[go_sem,j,Cj,Y];refine aB (U.dom f E R.1 k (i+1) Om Om) Sq ?_;simp only[go_sem,aGK,aJO,X,I];refine l.append 2 (src:=[[.bool (S (cO f k (i+1)))]]) rfl Sq (by unfold roomFor; rw[jC,M]; simp only[aGR,maxLen]; omega) fun u H' O J=>?_;obtain⟨q,hq⟩:=J (by simp);rw[HB,show tV f S k i++[S (cO f k (i+1))]=tV f S k (i+1) from (qT _ _).symm] at O;simp only[go_sem,Ck,A];exact aH (i+1,u,H') ⟨hlt,⟨q,_,hq⟩,O⟩ (by simp only; omega) (by (repeat' (first|exact d_|refine c_ ?_ ?_))<;>first|(simp only[go_sem,nr,sQ]<;>rfl)|rfl) b_
 ·have j:¬ ((i+1:Nat):Int)<(f.aEZ.length:Nat):=Om;have:i=f.aEZ.length-1:=Om;subst this;simp only[go_sem,j];exact Up.up (by (repeat' (first|exact d_|refine c_ ?_ ?_))<;>first|(simp only[go_sem,nr,sQ]<;>rfl)|rfl) (hK w N x l)
theorem abX {C:Ctx} (Lb:mE C) {K:cG} [Up K] (f:aC) (hV:VF f) (S:Nat→Bool) (e:WO) {F:PF} {H:PH}
  (I:aL H [(e.n,fC f),(e.c,gR .aA .aA .aA),(e.z,gR .aA .aA .aA)] [(.aA,1,[]),(.aA,1,[])]) (hF:(sQ f S e 0).le F)
  (hK:∀ M A j H',oW j (RZ f S f.aEY.length)→aL H' [(e.n,fC f),(e.c,gR M A .aA),(e.z,gR .aA .aA .aA)] [(M,1,bF (DB f S f.aEY.length)),(A,1,j)]→K (.exit 0) (sQ f S e f.aEY.length) H'):aE.wp C (.loop WN) K F H:=by
 have hs:=hV.small;have hr:=hV.root;have ξ:=hs.aEZ;have ο:=hs.aEY;have Z:(f.aEZ.length:Int)*((1:Nat):Int)≤140737488355328:=Om;have β:(f.aEZ.length:Int)≤9223372036854775807:=Om;have γ:(0:Int)≤(f.aEZ.length:Int):=Om;refine wp_loop (α:=Nat × PV × PV × List (List PV) × PH) (fun s=>sQ f S e s.1) (fun s=>s.2.2.2.2) (fun s=>s.1≤f.aEY.length∧oW s.2.2.2.1 (RZ f S s.1)∧aL s.2.2.2.2 [(e.n,fC f),(e.c,gR s.2.1 s.2.2.1 .aA),(e.z,gR .aA .aA .aA)] [(s.2.1,1,bF (DB f S s.1)),(s.2.2.1,1,s.2.2.2.1)]) (fun s=>f.aEY.length-s.1) (0,.aA,.aA,[],H) ⟨aGW _,.nil,I⟩ hF b_ ?_;rintro⟨k,M,A,j,U⟩ ⟨hk,u,I⟩;simp only at hk u I;simp only[go_sem,WN,Cb,sQ];by_cases hlt:k<f.aEY.length
 ·have l:(k:Int)<(f.aEY.length:Nat):=Om;have ε:=wZz k;have d2:=(iH hV hlt hr.1).2;have d3:2+k<bH f f.aEW.length:=by rw[aaV] at d2; exact Nat.lt_of_lt_of_le d2 (by unfold bH; omega)
  have d4:((2+k:Nat):Int)<((bH f f.aEW.length:Nat):Int):=Om;have η:=ZR (S:=S) d3;have θ:(DB f S k).length=k:=by simp[DB]
  have δ:j.length=k:=by rw[u.1]; simp[RZ]
  have e6:U e.n=some (fC f):=I.at 0 rfl;have ec:U e.c=some (gR M A .aA):=I.at 1 rfl;simp only[go_sem,l,Cc];refine bP (PH.nil.set e.c (gR M A .aA)) (AC f [] (fun _ _=>True)) (e_ a_ ec) ?_;simp only[go_sem,Cd,e6];refine Ak Lb (v:=k) Om Sq (e_ a_ ec) ?_;simp only[go_sem,aGK,aJO,d4,η];refine I.append 0 (src:=[[.bool (S (2+k))]]) rfl Sq (by unfold roomFor; rw[jC,θ]; simp only[aGR,maxLen]; omega) fun ρ H1 R J=>?_;obtain⟨y,N⟩:=J (by simp);rw[HB,show DB f S k++[S (2+k)]=DB f S (k+1) from (qT _ _).symm] at R;refine⟨e_ a_ (R.at 1 rfl),?_⟩;refine bP .nil dD a_ ?_;have V:=R.at 1 rfl;generalize μ:((bF (DB f S k)++[[PV.bool (S (2+k))]]).length)=w at N;subst N;simp only[go_sem,Ce,V];refine⟨a_,?_⟩;have h2:=R.set 1 rfl (gR (.osl y 1 0 w) A .aA);generalize H1.set e.c (.rows 3 [[.osl y 1 0 w,A,.aA]])=H2 at *
  simp only[go_sem,Cf,aGK,Z,β,γ,Int.le_refl,aJN];refine aQ fun qr ζ=>?_;have h3:=h2.me (s:=1) (rows:=[]) ζ;simp only[go_sem,Cg];refine aiE Lb f hV S e k hlt _ _ _ (.osl qr 1 0 0) ⟨_,_,rfl⟩ rfl h3 (by (repeat' (first|exact d_|refine c_ ?_ ?_))<;>first|(simp only[go_sem,nr,sQ]<;>rfl)|rfl) fun w' H4 ι Y=>?_;obtain⟨q,n,rfl⟩:=ι;have W:=Y.at 1 rfl;have hn:n=(bF (tV f S k (f.aEZ.length-1))).length:=by obtain⟨rs,-,e2,-⟩:=(Y.own 2 rfl).id rfl;injection e2
  simp only[go_sem,Cl,sQ,W];refine Y.append 1 (src:=[[.osl q 1 0 n]]) rfl Sq (by unfold roomFor; rw[δ]; simp only[aGR,maxLen]; omega) fun κ H5 h5 J=>?_;obtain⟨E,O⟩:=J (by simp);have X:=h5.at 1 rfl;generalize ν:(j++[[PV.osl q 1 0 n]]).length=B at O;subst O;have h6:=h5.set 1 rfl (gR (.osl y 1 0 w) (.osl E 1 0 B) .aA);simp only[go_sem,X];generalize H5.set e.c (.rows 3 [[.osl y 1 0 w,.osl E 1 0 B,.aA]])=H6 at *
  refine⟨_,if_pos (fun x hx=>by rw[aHU] at hx; subst hx; rfl),?_⟩;subst hn;obtain⟨rs,z1,z2,z3,z4,z5⟩:=h6.frz 2 rfl;have y0:=z4 0 _ (by decide) rfl;have y1:=z4 1 _ (by decide) rfl;simp only at y0 y1;simp only[go_sem,Cm,ε];refine BT (k+1,PV.osl y 1 0 w,PV.osl E 1 0 B,j++[[kM (tV f S k (f.aEZ.length-1))]],H6.frz q 1 rs) z1 ⟨hlt,?_,?_⟩ (by simp only; omega) (by (repeat' (first|exact d_|refine c_ ?_ ?_))<;>first|(simp only[go_sem,sQ]<;>rfl)|rfl) b_
  ·simp only;rw[show RZ f S (k+1)=RZ f S k++[tV f S k (f.aEZ.length-1)] from qT _ _];exact u.snoc (.inl rfl)
  ·simp only;have eB:([(e.n,fC f),(e.c,gR (.osl y 1 0 w) (.osl E 1 0 B) .aA),(e.z,gR .aA .aA .aA)]:List BX).map (fun b=>(b.1,b.2.frz q 1 rs))=[(e.n,fC f),(e.c,gR (.osl y 1 0 w) (.osl E 1 0 B) .aA),(e.z,gR .aA .aA .aA)]:=by show [(e.n,fC f),(e.c,bG.rows 3 [[PV.bV q 1 rs (.osl y 1 0 w),PV.bV q 1 rs (.osl E 1 0 B),.aA]]),(e.z,gR .aA .aA .aA)]=_;rw[y0,y1]
   have e5:(j++[[PV.osl q 1 0 (bF (tV f S k (f.aEZ.length-1))).length]]).map (fun r=>r.map (PV.bV q 1 rs))=j++[[kM (tV f S k (f.aEZ.length-1))]]:=by rw[aHX,u.flat];show j++[[PV.bV q 1 rs (.osl q 1 0 (bF (tV f S k (f.aEZ.length-1))).length)]]=_;rw[z2]
   have z6:aL (H6.frz q 1 rs) ([(e.n,fC f),(e.c,gR (.osl y 1 0 w) (.osl E 1 0 B) .aA),(e.z,gR .aA .aA .aA)].map (fun b=>(b.1,b.2.frz q 1 rs))) [(.osl y 1 0 w,1,(bF (DB f S (k+1))).map fun r=>r.map (PV.bV q 1 rs)),(.osl E 1 0 B,1,(j++[[PV.osl q 1 0 (bF (tV f S k (f.aEZ.length-1))).length]]).map fun r=>r.map (PV.bV q 1 rs))]:=z5;rw[eB,e5,HA] at z6;exact z6
 ·have l:¬ (k:Int)<(f.aEY.length:Nat):=Om;have:k=f.aEY.length:=Om;subst this;simp only[go_sem,l];exact Up.up (by (repeat' (first|exact d_|refine c_ ?_ ?_))<;>first|(simp only[go_sem,sQ]<;>rfl)|rfl) (hK M A j U u I)
theorem abW {C:Ctx} (Y:mE C) {K:cG} [Up K] (f:aC) (hV:VF f) (S:Nat→Bool) (e:WO) (E:LI) (l x:PV) (J:List (List PV)) {F:PF} {H:PH}
  (u:aL H [(e.n,fC f),(e.c,gR x l .aA),(e.z,gR .aA .aA .aA)] [E,(l,1,J),(.aA,1,[])]) (hF:(RU f S e 0).le F)
  (hK:∀ w H',aL H' [(e.n,fC f),(e.c,gR x l w),(e.z,gR .aA .aA .aA)] [E,(l,1,J),(w,1,bF (NE f S f.aEW.length))]→K (.exit 4) (RU f S e f.aEW.length) H'):aE.wp C (.loop WP) K F H:=by
 have V:=hV.small;have γ:=V.aEW;refine wp_loop (α:=Nat × PV × PH) (fun s=>RU f S e s.1) (fun s=>s.2.2) (fun s=>s.1≤f.aEW.length∧aL s.2.2 [(e.n,fC f),(e.c,gR x l s.2.1),(e.z,gR .aA .aA .aA)] [E,(l,1,J),(s.2.1,1,bF (NE f S s.1))]) (fun s=>f.aEW.length-s.1) (0,.aA,H) ⟨aGW _,u⟩ hF b_ ?_;rintro⟨k,w,B⟩ ⟨hk,u⟩;simp only at hk u;simp only[go_sem,WP,Cp,RU];by_cases hlt:k<f.aEW.length
 ·have j:(k:Int)<(f.aEW.length:Nat):=Om;have M:=wZz k;have Z:bH f k<bH f f.aEW.length:=by unfold bH; omega
  have d4:((bH f k:Nat):Int)<((bH f f.aEW.length:Nat):Int):=Om;have N:=ZR (S:=S) Z;have R:(NE f S k).length=k:=by simp[NE]
  have e6:B e.n=some (fC f):=u.at 0 rfl;have U:B e.c=some (gR x l w):=u.at 1 rfl;simp only[go_sem,j,Cq];refine bP (PH.nil.set e.c (gR x l w)) (AC f [] (fun _ _=>True)) (e_ a_ U) ?_;simp only[go_sem,Cr,e6];refine AF Y V (i:=k) Om Sq (e_ a_ U) ?_;simp only[go_sem,aGK,aJO,d4,N];refine u.append 2 (src:=[[.bool (S (bH f k))]]) rfl Sq (by unfold roomFor; rw[jC,R]; simp only[aGR,maxLen]; omega) fun δ H1 A O=>?_;obtain⟨X,y⟩:=O (by simp);rw[HB,show NE f S k++[S (bH f k)]=NE f S (k+1) from (qT _ _).symm] at A;refine⟨e_ a_ (A.at 1 rfl),?_⟩;refine bP .nil dD a_ ?_;have I:=A.at 1 rfl;generalize β:((bF (NE f S k)++[[PV.bool (S (bH f k))]]).length)=W at y;subst y;simp only[go_sem,Cs,I];refine⟨a_,?_⟩;have h2:=A.set 1 rfl (gR x l (.osl X 1 0 W));simp only[go_sem,Ct,M];exact aH (k+1,.osl X 1 0 W,_) ⟨hlt,h2⟩ (by simp only; omega) (by (repeat' (first|exact d_|refine c_ ?_ ?_))<;>first|(simp only[go_sem,RU]<;>rfl)|rfl) b_
 ·have j:¬ (k:Int)<(f.aEW.length:Nat):=Om;have:k=f.aEW.length:=Om;subst this;simp only[go_sem,j];exact Up.up (by (repeat' (first|exact d_|refine c_ ?_ ?_))<;>first|(simp only[go_sem,RU]<;>rfl)|rfl) (hK w B u)
theorem aqV {C:Ctx} (x:MR C) (f:aC) (hf:f.Ok) (room:List Int) :
  NW.wp C (aT aiD.res (agU f room)) (PF.args [.agg f.cells,ints room]) .nil:=by
 simp only[go_sem,NW,Qs,aiD];refine aQ fun z hz=>?_;have h0:aL (PH.nil.set z (gR .aA .aA .aA)) [(z,gR .aA .aA .aA)] []:=aL.nil.new hz (gR .aA .aA .aA);generalize (PH.nil.set z (.rows 3 [[.aA,.aA,.aA]]))=H0 at *
 simp only[go_sem,Qt];refine aB (x.net f room hf) Sq ?_;simp only[go_sem,YT];refine h0.vE fun q H1 Y=>?_;have q1:=Y.at 1 rfl;have y:=Y.set 1 rfl (pP (EJ f room));simp only[go_sem,q1];generalize H1.set q (.rows 4 [(EJ f room).cells])=H2 at *
 have q2:=y.at 1 rfl;have z2:=y.at 0 rfl;have no:∀ (F:PF) (H:PH),aL H [(z,gR .aA .aA .aA),(q,pP (EJ f room))] []→F 4=some (.ptr z 3 0 0)→F 5=some (.bool false)→aT [.cell 4 (some 3),.tmp 5] (cD (.tup [.agg (fN.cells Aj),.bool false])) .ret F H:=by intro F H h f4 f5;have e0:=h.at 0 rfl;have h':aL H [] [(.aA,1,bF []),(.aA,1,[]),(.aA,1,bF [])]:=(((h.sub (List.nil_sublist _) (aIQ.refl _)).mO 1).mO 1).mO 1;exact J3 (.inr rfl) (by simp only[go_sem,f4,f5,e0]) .nil h'
 cases w:dE f with
 | false =>simp only[go_sem,kj,SS w,Qu,z2];refine aoH (c:=Aj) (b:=false) (.inl ⟨w,rfl,rfl⟩) ?_;exact no _ _ (y.set 0 rfl (gR .aA .aA .aA)) Sq Sq
 | true =>
  have hV:=VF.of w;have hs:=hV.small;have hn:=OZ hV room;have O:=q2;rw[SU w] at O;simp only[go_sem,kj,vN w,Qv,O];refine dU (x.solve _ hn) Sq a_ ?_;rintro r H' ⟨xs,S,M,u,A,B,rfl,rfl⟩ -;rw[PH.kW];have I:=ip hV M u A B;have α:=awW hV M;simp only[go_sem,Qw];refine aB (x.demand f hV) Sq ?_;by_cases E:jB (eD f room) xs=((pK f:Nat):Int)
  ·simp only[go_sem,bM E,Qx,z2];refine aoH (c:=Aj) (b:=false) (.inr (.inl ⟨w,I.1 Om,rfl,rfl⟩)) ?_;exact no _ _ (y.set 0 rfl (gR .aA .aA .aA)) Sq Sq
  ·have J:¬ tK f room:=fun h=>I.2 h Om;simp only[go_sem,bB E,Qy,aGK];refine y.vE fun e H3 Z=>?_;have g3:=Z.at 2 rfl;have h4:=Z.set 2 rfl (fC f);simp only[go_sem,g3];generalize H3.set e (.rows 2 [[.int .i64 (f.aEY.length:Nat),.int .i64 (f.aEZ.length:Nat)]])=H4 at *
   simp only[go_sem,Qz];refine h4.vE fun j H5 h5=>?_;have h6:aL H5 [(e,fC f),(j,gR .aA .aA .aA),(z,gR .aA .aA .aA)] [(.aA,1,[]),(.aA,1,[])]:=by refine ((((h5.BI 1).mO 1).mO 1).perm ?_ (aJG.refl _));exact List.perm_append_comm (l₁:=[(z,gR .aA .aA .aA)]) (l₂:=[(e,fC f),(j,gR .aA .aA .aA)])
   simp only[go_sem,Q0,aGK];refine abX x.tomE f hV S ⟨z,e,j⟩ h6 (by (repeat' (first|exact d_|refine c_ ?_ ?_))<;>first|(simp only[go_sem,sQ]<;>rfl)|rfl) fun R U fs H6 N h7=>?_;simp only[go_sem,Cn,sQ,aGK];refine abW x.tomE f hV S ⟨z,e,j⟩ (R,1,bF (DB f S f.aEY.length)) U R fs (h7.mO 1) (by (repeat' (first|exact d_|refine c_ ?_ ?_))<;>first|(simp only[go_sem,RU]<;>rfl)|rfl) fun rv H7 h8=>?_;have ec:=h8.at 1 rfl;have ez:=h8.at 2 rfl;have K:=h8.set 2 rfl (gR R U rv);simp only[go_sem,Cu,RU,ec,ez];have l:=agK hV M (S:=S) A B u J;rw[ahI] at l;refine⟨_,if_pos ?_,?_⟩
   ·rcases K.own 0 rfl with ⟨_,V⟩ | ⟨q1,rs1,V,_⟩<;>rcases K.own 1 rfl with ⟨_,W⟩ | ⟨q2,rs2,W,_⟩<;>rcases K.own 2 rfl with ⟨_,X⟩ | ⟨O,rs3,X,_⟩<;>rw[V,W,X]<;>rfl
   refine aoH (b:=true) (.inr (.inr ⟨w,J,l,rfl⟩)) ?_;exact J3 (.inr rfl) Sq N (K.sub (List.nil_sublist _) (aIQ.refl _))
theorem aqM {C : Ctx} (f : aC) (hV : VF f) : NL.wp C (aT ahW.res (aM (.int .i64 ((pK f : Nat) : Int)))) (PF.args [.agg f.cells]) .nil := by
  have hs := hV.small.aEY;simp only[go_sem,NL,P1,P2,P3,ahW,aGK];refine wp_loop (α := Nat) (fun k => (((((PF.nil.set 1 (.cS f.cells)).set 3 (.int .i64 ((cH (fW f) k : Nat) : Int))).set 7 (.sl 2 (f.aEY.map iY.cells))).set 8 (.int .i64 (f.aEY.length : Nat))).set 9 (.int .i64 (k : Nat)))) (fun _ => .nil) (fun k => k ≤ f.aEY.length) (fun k => f.aEY.length - k) 0 (aGW _) (by (repeat' (first|exact d_|refine c_ ?_ ?_)) <;> first|(simp only[go_sem,cH] <;> rfl)|rfl) a_ ?_;intro k hk;simp only[go_sem,P0,P4];by_cases hlt : k < f.aEY.length
  · have aFD : (k : Int) < (f.aEY.length : Nat) := Om
    obtain ⟨b1, b2, b3, -⟩ := nL hV hlt;have b4 := apH hV k hk;obtain ⟨hp, he⟩ := mP hV hlt;have hpol := hV.aFJ _ (aGP hp);rw [he] at hpol;have e0 : IntKind.i64.wrap ((cL f k).k + (cL f k).m) = fR f k := wrap_i64 Om Om;have e : IntKind.i64.wrap (((cH (fW f) k : Nat) : Int) + fR f k) = ((cH (fW f) (k + 1) : Nat) : Int) := by rw [cH, ← b3, wrap_i64 Om Om]; omega
    simp only[go_sem,aFD,P5,uV hlt];refine aQ fun o ho => ?_;simp only[go_sem];refine bP .nil dD a_ ?_;simp only[go_sem,P6,hV.QB hlt,rM hp,he,e0,e,kf,wZz k]
    first
      | exact aH (k + 1) hlt Om Lq a_
      | (refine ⟨a_, ?_⟩
         simp only[go_sem,kf,wZz k];exact aH (k + 1) hlt Om Lq a_)
  · have aFD : ¬ (k : Int) < (f.aEY.length : Nat) := Om
    have : k = f.aEY.length := Om;subst this;simp only[go_sem,aFD,P7];refine cE (.inr rfl) Ev ?_;rfl
structure cP (C:Ctx):Prop where
 r0:bO C 0 Gl
 r1:bO C 1 X6
 r2:bO C 2 akK
 r3:bO C 3 lk
 r4:bO C 4 y7
 r5:bO C 5 akW
 r6:bO C 6 Ye
 r7:bO C 7 y6
 r27:bO C 27 Fv
 r28:bO C 28 akR
 r29:bO C 29 Yb
 r31:bO C 31 Zp
 r32:bO C 32 anH
 r33:bO C 33 udiv
 r34:bO C 34 anM
 r35:bO C 35 Zw
 r38:bO C 38 Z1
 r39:bO C 39 ni
 r40:bO C 40 Zu
 r41:bO C 41 Mu
 r42:bO C 42 Mx
 r43:bO C 43 Zy
 r44:bO C 44 M4
 r45:bO C 45 uup
 r47:bO C 47 aoC
 r50:bO C 50 ze
 r58:bO C 58 np
 r59:bO C 59 Z9
 r82:bO C 82 Ze
 r95:bO C 95 aiQ
 r96:bO C 96 ajB
 r97:bO C 97 Cx
 r98:bO C 98 Xc
 r99:bO C 99 Xd
 r100:bO C 100 Xe
 r101:bO C 101 gone
 r102:bO C 102 Xi
 r103:bO C 103 Ds
 r104:bO C 104 gin
 r105:bO C 105 aiR
 r106:bO C 106 aiS
 r107:bO C 107 Xk
 r108:bO C 108 Xl
 r109:bO C 109 D6
 r110:bO C 110 Xo
 r111:bO C 111 Xg
 r112:bO C 112 aiV
 r113:bO C 113 j9
 r114:bO C 114 ahV
 r115:bO C 115 yw
 r116:bO C 116 SF
 r117:bO C 117 B7
 r118:bO C 118 Ca
 r119:bO C 119 ahT
 r120:bO C 120 vF
 r121:bO C 121 B9
 r122:bO C 122 Xa
 r123:bO C 123 yx
 r124:bO C 124 dc
 r125:bO C 125 df
 r126:bO C 126 SL
 r127:bO C 127 akZ
 r128:bO C 128 Yh
 r129:bO C 129 alD
 r130:bO C 130 alE
 r131:bO C 131 alI
 r132:bO C 132 Yv
 r133:bO C 133 alM
 r134:bO C 134 alP
 r135:bO C 135 Yx
 r136:bO C 136 l8
 r137:bO C 137 Iu
 r138:bO C 138 GJ
 r139:bO C 139 ZA
 r140:bO C 140 I6
 r141:bO C 141 I7
 r142:bO C 142 PI
 r143:bO C 143 nup
 r150:bO C 150 Kv
 r152:bO C 152 TC
 r154:bO C 154 Zo
 r156:bO C 156 Zn
 r157:bO C 157 Kw
 r158:bO C 158 aoY
 r159:bO C 159 Lp
 r160:bO C 160 QQ
 r161:bO C 161 Lf
 r282:bO C 282 alT
 r283:bO C 283 Yn
 r284:bO C 284 alF
 r285:bO C 285 alA
 r286:bO C 286 aiA
 r287:bO C 287 ahW
 r288:bO C 288 B0
 r289:bO C 289 aiD
 r290:bO C 290 ahU
 r291:bO C 291 Yc
 r292:bO C 292 Ht
 r293:bO C 293 ajY
 r294:bO C 294 yz
 r295:bO C 295 yy
 r296:bO C 296 Hf
 r297:bO C 297 ajU
 r298:bO C 298 Hr
 r312:bO C 312 Nt
namespace Z
theorem qU {C:Ctx} (c:cP C):rS C :=
 have len:∀ xs,Lim xs→xs.length≤35184372087808→aG C 138 [aJ xs] .nil (aM (.int .i64 (nl (val xs):Nat))):=fun xs h l=>c.r138.go (Yt xs h l) rfl
 {length:=len
  large:=fun xs h l=>c.r137.go (adL xs (len xs h l)) rfl
  sized:=fun xs h l=>(c.r141.go (adQ xs h (len xs h l)) rfl).seen
  trim:=fun xs h l=>(c.r135.go (alQ xs h l (len xs h l)) rfl).seen
  make:=fun v h=>c.r132.go (alK v h len) rfl
  cmp:=fun xs x e j u w=>c.r129.go (asV xs x e j u w (len xs e u) (len x j w)) rfl }
theorem asP {C:Ctx} (c:cP C):yq C :=
 {subtract:=fun A W Z v f o hW u l j w e=>c.r142.go (Jd A W Z v f hW u l j w e o) rfl
  restore:=fun A W Z v o hW u l j=>c.r139.go (Oc A W Z v hW u l j o) rfl }
theorem Yf {C:Ctx} (c:cP C):zm C :=
 {L:=qU c
  D:=asP c
  up:=fun a s j x e=>c.r143.go (awE a s j x e) rfl
  short:=fun a d j l u e=>c.r140.go (adO (qU c) a d j l u e) rfl
  lengthO:=fun xs o y w=>c.r138.go (Ob xs y w o) rfl }
theorem gl {C:Ctx} (c:cP C) (A B:Nat) (hB:B≠0) (j:nl A≤900) (e:nl B≤900):aG C 136 [aJ (aK A),aJ (aK B)] .nil (aM (rE A B)) :=
 (c.r136.go (Yl (Yf c) A B hB j e) rfl).seen
theorem sL {C:Ctx} (c:cP C):tQ C :=
 {qU c with
  bits:=fun xs h l=>c.r128.go (alB xs h l ((qU c).length xs h l)) rfl
  add:=fun xs x e j u w=>(c.r127.go (asQ (qU c) xs x e j u w) rfl).seen
  sub:=fun xs x e j u w=>(c.r134.go (atK (qU c) xs x e j u w) rfl).seen
  mul:=fun xs x e j u w=>(c.r133.go (atI (qU c) xs x e j u w) rfl).seen
  gcd:=fun xs x e j u w=>(c.r131.go (atG (qU c) (gl c) xs x e j u w) rfl).seen
  div:=fun xs x e j u w=>(c.r130.go (asX (qU c) (gl c) xs x e j u w) rfl).seen }
theorem zP {C:Ctx} (c:cP C):GW C :=
 {sL c with
  times:=fun a b e hb j l u w=>c.r121.go (abS (sL c) a b e hb j l u w) rfl
  zero:=fun neg a b e j=>c.r122.go (aiF (sL c) neg a b e j) rfl
  valid:=fun neg a b e hb j l=>c.r118.go (abU (sL c) neg a b e hb j l) rfl
  abs:=fun v y A=>c.r119.go (aqE (sL c) v y A) rfl
  lowest:=fun neg a b e hb j l u w x=>(c.r120.go (W2 (sL c) neg a b e hb j l u w x) rfl).seen }
theorem B5 {C:Ctx} (c:cP C) (x y:RF) (e:x.Ok) (j:y.Ok):aG C 113 [.agg x.cells,.agg y.cells] .nil (aM (frV (kS x.v y.v))) :=
 (c.r113.go (aqG (zP c) x.neg y.neg x.num x.den y.num y.den e.1 e.2.1 j.1 j.2.1 e.2.2.1 e.2.2.2 j.2.2.1 j.2.2.2) rfl).seen
theorem kg {C:Ctx} (c:cP C):yo C :=
 {zP c with
  frac:=fun n d A u=>(c.r115.go (ahY (zP c) n d A.1 A.2 u.1 u.2) rfl).seen
  red:=fun x e=>by rw[← Y5];exact (c.r116.go (W7 (zP c) x.neg x.num x.den e.1 e.2.1 e.2.2.1 e.2.2.2) rfl).seen
  ord:=fun x y e j=>(c.r114.go (aqK (zP c) x.neg y.neg x.num x.den y.num y.den e.1 e.2.1 j.1 j.2.1 e.2.2.1 e.2.2.2 j.2.2.1 j.2.2.2) rfl).seen
  plus:=B5 c
  tot:=fun l w=>(c.r117.go (aqT (zP c) (B5 c) l w.all w.fits) rfl).seen }
theorem zO {C:Ctx} (c:cP C):tL C :=
 have inn:∀ n lo hi:Int,aG C 104 [.int .i64 n,.int .i64 lo,.int .i64 hi] .nil (aM (.bool (within n lo hi))):=fun n lo hi=>(c.r104.go (avT n lo hi) rfl).seen;have wC:∀ x:RF,x.Ok→aG C 97 [.agg x.cells] .nil (aM (.bool (bT x))):=fun x u=>(c.r97.go (abY (sL c) x u) rfl).seen;have lim:∀ x:RF,x.Ok→aG C 105 [.agg x.cells] .nil (aM (.bool (fP x))):=fun x u=>(c.r105.go (arB (kg c) x u) rfl).seen;have e:∀ n:Nat,aG C 126 [.int .u8 n] .nil (aM (.bool (jJ n))):=fun n=>c.r126.go (X1 n) rfl;have j:∀ n:Nat,aG C 124 [.int .u8 n] .nil (aM (.bool (tX n))):=fun n=>c.r124.go (acK n) rfl
 {kg c with
  inn:=inn
  wC:=wC
  lim:=lim
  one:=fun x u=>(c.r101.go (arF (kg c) x u) rfl).seen
  allf:=fun p fn l w h=>(c.r99.go (aiJ p fn l w h) rfl).seen
  alli:=fun p fn l w h=>(c.r100.go (aiL p fn l w h) rfl).seen
  allb:=fun p fn l w h=>(c.r98.go (aiH p fn l w h) rfl).seen
  ends1:=fun b=>(c.r103.go (acA b) rfl).seen
  num1:=fun n=>(c.r107.go (aiT inn n) rfl).seen
  rate1:=fun x u=>(c.r109.go (acD lim wC x u) rfl).seen
  name:=fun s=>c.r123.go (ajQ e (fun n=>c.r125.go (acP e j n) rfl) s) rfl }
theorem A3 {C:Ctx} (c:cP C):zj C :=
 {zO c with
  num:=fun p e=>(c.r106.go (arD (zO c) p e) rfl).seen
  rate:=fun p e=>(c.r108.go (aiW (zO c) p e) rfl).seen
  uniq:=fun l j=>(c.r110.go (aiZ (zO c) l j) rfl).seen }
theorem A4 {C:Ctx} (c:cP C):ao C :=
 {A3 c with
  ends:=fun l e he=>(c.r102.go (aiO (zO c) l e he) rfl).seen }
theorem ahX {C:Ctx} (c:cP C):lD C :=
 {A4 c with
  law:=fun l j=>(c.r95.go (aqZ (A4 c) l j) rfl).seen
  pol:=fun p n w u=>(c.r112.go (arH (A3 c) p w n u) rfl).seen
  aFG:=fun f e=>(c.r111.go (aqX (zO c) f e) rfl).seen }
theorem n9 {C:Ctx} (c:cP C) (f:aC) (e:f.Ok):aG C 96 [.agg f.cells] .nil (aM (.int .i64 (xZ f))):=(c.r96.go (arK (ahX c) f e) rfl).seen
theorem nb {C:Ctx} (c:cP C):Wd C :=
 {valid:=fun f e=>(c.r161.go (afM (n9 c) f e) rfl).seen
  aiB:=fun f v j h=>(c.r156.go (amS f j v h) rfl).seen }
theorem Kx {C:Ctx} (c:cP C):zu C :=
 {nb c with
  room:=fun f room j=>(c.r152.go (K3 (nb c) f j room) rfl).freeze
  loads:=fun f l e u=>(c.r157.go (afH f e l u) rfl).seen }
theorem amU {C:Ctx} (c:cP C):aaM C :=
 {Kx c with
  shape:=fun f l v hV j u e=>(c.r160.go (afK (Kx c) f hV l j v u e) rfl).seen }
theorem Ky {C:Ctx} (c:cP C):FU C :=
 {amU c with
  bad:=fun o5 v k w=>c.r159.go (afO o5 v k w) rfl }
theorem Kz {C:Ctx} (c:cP C):zw C :=
 {Ky c with
  row:=fun f l v hV e w j u=>(c.r158.go (anD (Ky c) f hV e l v w j u) rfl).seen }
theorem auE {C:Ctx} (c:cP C):aoN C :=
 {Kz c with
  viol:=fun f l room e j=>(c.r154.go (anB (Kz c) f e l j room) rfl).seen }
theorem pG {C:Ctx} (c:cP C):qM C:={ trimM:=fun xs h l=>c.r38.go (anW xs h l) rfl }
theorem Jx {C:Ctx} (c:cP C):zp C :=
 {pG c with
  make:=fun v h=>(c.r35.go (anN (pG c) v h) rfl).seen
  large:=fun xs h l=>(c.r41.go (afS (pG c) xs h l) rfl).seen
  cmp:=fun xs x e j u w=>c.r32.go (auF (pG c) xs x e j u w) rfl }
theorem amB {C:Ctx} (c:cP C):aaJ C :=
 {Jx c with
  minus:=fun a b j hb l w e=>(c.r42.go (afU (pG c) a b j hb l w e) rfl).seen
  times:=fun a b j hb e u=>(c.r44.go (afW (pG c) a b j hb e u) rfl).seen }
theorem amC {C:Ctx} (c:cP C):aaK C :=
 {amB c with
  plus:=fun a b l hb e j=>(c.r43.go (anT (pG c) a b l hb e j) rfl).seen }
theorem amD {C:Ctx} (c:cP C):MT C :=
 {amC c with
  bits:=fun xs h l=>c.r31.go (anF (pG c) xs h l) rfl
  upM:=fun a n j e u w=>c.r45.go (awU (pG c) a n j e u w) rfl
  down:=fun a n j e u=>(c.r40.go (anK (pG c) a n j e u) rfl).seen }
theorem ZN {C:Ctx} (c:cP C):ay C :=
 {Jx c with
  divide:=fun A B hB j e=>(c.r39.go (Zs (amD c) A B hB j e) rfl).seen }
theorem Jy {C:Ctx} (c:cP C):zq C :=
 {ZN c with
  gcd:=fun a b e hb j l=>(c.r34.go (auJ (ZN c) a b e hb j l) rfl).seen
  div:=fun a b e hb j l=>(c.r33.go (auH (ZN c) a b e hb j l) rfl).seen }
theorem U7 {C:Ctx} (c:cP C):Wc C :=
 {Jy c with
  lowest:=fun neg a b l hb u w x y j=>(c.r58.go (Z7 (Jy c) neg a b l hb u w x y j) rfl).seen
  size:=fun v e=>c.r59.go (aoF v e.1 e.2) rfl }
theorem Jz {C:Ctx} (c:cP C):ba C :=
 {U7 c with
  fmk:=fun n d j e=>(c.r50.go (aoD (U7 c) n d j e) rfl).seen }
theorem GI {C:Ctx} (c:cP C) (hi:xQ C):tO C :=
 {Jz c with
  int:=fun n e=>(c.r47.go (auN (Jz c) n e) rfl).seen
  itoa:=hi
  next:=fun l v T o n a e j=>c.r4.go (akS T o n a e j) rfl }
theorem Gz {C:Ctx} (c:cP C) (hi:xQ C):zk C :=
 {GI c hi with
  frac:=fun l v T o a e=>c.r1.go (akE (GI c hi) T o a e) rfl }
theorem G0 {C:Ctx} (c:cP C) (hi:xQ C):tP C :=
 {Gz c hi with
  rep:=fun l v T o a m j e=>c.r5.go (asN (Gz c hi) T o a m j e) rfl
  name:=fun s n w u=>c.r29.go (akP (GI c hi) s n w u) rfl }
theorem G1 {C:Ctx} (c:cP C) (hi:xQ C):nU C :=
 {G0 c hi with
  law:=fun l v T o eN a u e j=>c.r2.go (asH (G0 c hi) T o eN a u e j) rfl }
theorem G2 {C:Ctx} (c:cP C) (hi:xQ C):zl C :=
 {G1 c hi with
  grow:=fun l v T mc aEW e j u=>Ec (G1 c hi) T mc aEW e j u (fun args H R w h=>c.r7 args H R (by rw[w]; decide) h) 4 (aGQ _) }
theorem XV {C:Ctx} (c:cP C) (hi:xQ C):aaH C :=
 {G2 c hi with
  new:=fun l hb w=>c.r28.go (asL l hb w) rfl
  fleet:=fun l v T o aEW aEY a e j u=>MQ.exact (c.r0.go (acU (G2 c hi) T o aEW aEY a e j u) rfl) }
theorem aeL {C:Ctx} (c:cP C) (f:aC) (v:Nat) (e:v≤100):aG C 282 [.agg (rZ f),.int .i64 (v:Nat)] .nil (aM (.int .i64 ((2+v:Nat):Int))):=c.r282.go (atM f v e) rfl
theorem ud {C:Ctx} (c:cP C):mE C :=
 {vol:=aeL c
  dom:=fun f j e v i y hi=>c.r283.go (asZ (aeL c) f j e v i y hi) rfl
  drv:=fun f j d e=>c.r284.go (atB f j d e) rfl
  arc:=fun o N a v l x H u=>c.r285.go (asT o N a.src a.dst a.cap v l x H u) rfl
  valid:=n9 c
  roomM:=fun f room w=>c.r152.go (K3 (nb c) f w room) rfl }
theorem U6 {C:Ctx} (c:cP C) (n:cC) (e:fU n):aG C 292 [.agg n.cells] .nil (aM (.bool true)):=c.r292.go (adF (fun n o x j=>c.r291.go (akU n o x j) rfl) n e) rfl
theorem U5 {C:Ctx} (c:cP C) (n:cC) (e fo:Nat) (xs:List Nat) (out:PV) (s:cJ) (l:fU n) (j:¬ e=fo) (w:tM n xs) (u:s.1<n.arcs.length):aG C 294 [.ptr e 6 0 0,.int .i64 (stI s)] (sH n e fo xs out) (fun r H'=>r=.tup [.int .i64 ((eS n s:Nat):Int),.int .i64 ((eF n xs s:Nat):Int)]∧H'=sH n e fo xs out):=c.r294.go (ajZ n l e fo j xs w out s u) rfl
theorem amA {C:Ctx} (c:cP C) (n:cC) (j:fU n):aG C 298 [.agg n.cells] .nil (zr n) :=
 c.r298.go (adC (U6 c) (fun n u fo xs y l j e I w B=>c.r296.go (adA (U5 c) n j u fo e xs I y l w B) rfl)
  (fun n u fo xs out Q way j e A E x=>c.r297.go (asB (U5 c) (fun n u fo xs out s j e F=>c.r295.go (ajW n j u fo e xs out s F) rfl) n j u fo e xs A out Q way E x) rfl) n j) rfl
theorem Jw {C:Ctx} (c:cP C):MR C :=
 {ud c with
  net:=fun f room e=>(c.r286.go (aqP (ud c) f e room) rfl).awN
  solve:=amA c
  demand:=fun f hV=>c.r287.go (aqM f hV) rfl }
theorem my {C:Ctx} (c:cP C) (hi:xQ C):aaE C :=
 {fleet:=fun l hb y aEW aEY j w=>(c.r27.go (acS (XV c hi) l hb y aEW aEY j w) rfl).seen
  place:=fun f room e=>(c.r288.go (abO (Jw c) f e room) rfl).place
  why:=fun f room e=>(c.r289.go (aqV (Jw c) f e room) rfl).why
  chk:=fun f room ct e u=>c.r290.go (aqI (Jw c) (fun n cut A x=>c.r293.go (asD (U6 c) n A cut x) rfl) f e room ct u) rfl }
theorem alZ {C:Ctx} (c:cP C) (hi:xQ C):aG C 312 [] .nil (aM (.bool true)):=c.r312.go (agN (my c hi)) rfl
theorem atQ {C:Ctx} (c:cP C) (hi:xQ C):aaF C :=
 {new:=(XV c hi).new
  tfleet:=(XV c hi).fleet
  TC:=fun l v T o a f j e=>O9 (c.r6.go (akX (GI c hi) T o a f j e) rfl) }
theorem awJ {C:Ctx} (c:cP C) (hi:xQ C):zi C :=
 {atQ c hi with
  awake:=alZ c hi
  tlayout:=fun l v T o a f hV e=>O9 (c.r3.go (X9 (GI c hi) T o a f hV (fun i h=>(c.r82.go (amL f hV i h) rfl).seen) e) rfl)
  place:=(my c hi).place
  why:=(my c hi).why
  holds:=fun f l room j u=>(c.r150.go (afF (auE c) f j l u room) rfl).seen }
end Z
theorem abI {C:Ctx} (c:cP C) (hi:xQ C) (r:bO C 322 jt) (l:List Nat) (hb:∀ x∈l,x<256) (e:l.length≤9223372036854775807):aG C 322 [.sl 1 (kB l)] .nil (aM (.bool true)):=r.go (agQ (Z.awJ c hi) l hb e) rfl
end Go.PM
