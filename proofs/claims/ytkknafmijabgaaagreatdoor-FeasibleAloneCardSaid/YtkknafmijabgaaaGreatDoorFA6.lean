/-
  Texts of ours, joined. No condition.
-/
import Derived.Test.YtkknafmijabgaaaGreatDoorFA1
import Derived.Test.YtkknafmijabgaaaGreatDoorFA2
import Derived.Test.YtkknafmijabgaaaGreatDoorFA3
import Derived.Test.YtkknafmijabgaaaGreatDoorFA4
import Derived.Test.YtkknafmijabgaaaGreatDoorFA5

set_option linter.unusedSimpArgs false
set_option linter.unusedVariables false
open Nat renaming reduceEqDiff → γ, reduceAdd → δ, reduceSub → ε, reduceMul → ζ, reduceLT → η, reduceLeDiff → θ, reduceBEq → τ
open Int renaming reduceLT → ι, reduceLE → κ, reduceEq → μ, reduceToNat → ν, reduceAdd → ξ, reduceNeg → ο, reduceBEq → ρ, reduceBNe → σ
open List renaming reduceReplicate → υ
open List renaming length_map → azT, range → azU, replicate → azV, length_append → azX, getElem_mem → azZ, getElem?_eq_getElem → aAA, length_singleton → aAC, mem_cons → aAD, getD_eq_getElem?_getD → aAG, length_take → aAJ, not_mem_nil → aAP, getElem?_map → aAR, getElem?_eq_some_iff → aAW, mem_append → aBB, mem_singleton → aBF, getElem?_eq_none → aBG, map_append → aBL, take_length → aBM, length_cons → aBO, getElem?_append_right → aBS, getElem?_append_left → aBT, map_congr_left → aBY, Sublist → aCA, length_nil → aCE, take_succ_eq_append_getElem → aCI, Perm → aCM, range_succ → aCO, getElem?_range → aCV, length_range → aCW, map_map → aCY, mem_cons_of_mem → aDE
open Nat renaming le_refl → azY, zero_le → aAH, zero_add → aAU, mul_le_mul_right → aAV, add_zero → aAZ, succ_mul → aCC, le_trans → aCF, mul_le_mul → aDC
open Option renaming getD_some → aCP
open Bool renaming and_eq_true → aAF, false_and → aAI, true_and → aAN, and_false → aBH, and_true → aBZ
open Int renaming toNat_natCast → aDD
namespace Go.PM
open Go Go.Na
theorem aL.auX {H:PH} {B:List BX} {L:List LI} {o s:Nat} {rows:List (List PV)} (h:aL H ((o,.rows s rows)::B) L):aL H B ((.osl o s 0 rows.length,s,rows)::L):=by
 refine⟨fun b hb=>h.box b (aDE _ hb),fun x hx=>?_,?_⟩
 ·rcases aAD.1 hx with rfl | hx
  ·exact .inr ⟨o,rows,rfl,h.box _ (List.mem_cons_self ..),azY _,aBM⟩
  ·exact h.lst x hx
 ·have e:dD ((.osl o s 0 rows.length,s,rows)::L)=o::dD L:=rfl;rw[e];exact (List.perm_middle.nodup_iff).2 h.nd
theorem aL.asS {H:PH} {B:List BX} (h:aL H B []) (N:Nat):aL H B (gU (azV N ((.aA,[]):PV × List Int))):=by
 have j:=h.Uj N;have e:gU (azV N ((.aA,[]):PV × List Int))=[]++azV N (.aA,1,[]):=by unfold gU;rw[List.map_replicate]; rfl
 rw[e]; exact j
theorem qn {res:List dW} {R A:PV→PH→Prop} {e:jZ} {F:PF} {H:PH} (B:∀ r H',R r H'→A r H') (h:aS res R e F H):aS res A e F H:=by
 cases e with
 | exit=>exact h
 | normal =>obtain⟨vs,u,j,l,H2,w,x,v,y,h5⟩:=h;exact⟨vs,u,j,l,H2,w,x,v,y,B _ _ h5⟩
 | ret =>obtain⟨vs,u,j,l,H2,w,x,v,y,h5⟩:=h;exact⟨vs,u,j,l,H2,w,x,v,y,B _ _ h5⟩
def DM (f:aC) (room:List Int) (ws:List (List Int)) (c:Int):Prop :=
 (dB f=false∧ws=[]∧c=1)∨(dB f=true∧(∃ u,qS f room u∧ws=rH f u)∧c=0)∨(dB f=true∧¬ wF f room∧ws=[]∧c=12)
def vg (f:aC) (room:List Int) (r:PV) (H:PH):Prop:=∃ ws c,DM f room ws c∧cK (.tup [lists ws,.int .i64 c]) r H
def vf (f:aC) (room:List Int) (r:PV) (H:PH):Prop:=∃ ws c,DM f room ws c∧r=.tup [lists ws,.int .i64 c]∧H=PH.nil
theorem aG.place {C:Ctx} {name:Nat} {args:List PV} {f:aC} {room:List Int} (h:aG C name args .nil (vg f room)):aG C name args .nil (vf f room) :=
 h.post fun r H' ⟨ws,c,e,j,l⟩=>⟨_,j,ws,c,e,rfl,l⟩
structure JW (C:Ctx):Prop extends lL C where
 net:∀ (f:aC) (room:List Int),f.Ok→aG C 286 [.agg f.cells,ints room] .nil (aM (WB f room))
 solve:∀ n:cF,fO n→aG C 298 [.agg n.cells] .nil (vj n)
 demand:∀ f:aC,VF f→aG C 287 [.agg f.cells] .nil (aM (.int .i64 ((oV f:Nat):Int)))
theorem Gk (f:aC) (v:Nat):∀ (l:List bJ) (xs:List Nat),(jV f v l xs).length≤l.length
 | [],_=>by simp[jV]
 | _::_,[]=>by simp[jV]
 | a::l,x::xs=>by
  have e:=Gk f v l xs;have j:(tK f v a x).length≤1:=by unfold tK; split<;>simp
  rw[jV,azX,aBO];omega
def plF (f:aC) (n:cF) (xs:List Nat) (e j k:Nat):PF:=((((((PF.nil.set 8 (.sl 1 (gG xs))).set 12 (.ptr e 2 0 0)).set 13 (.osl j 1 0 f.ayH.length)).set 49 (ga n.arcs)).set 50 (.int .i64 (n.arcs.length:Nat))).set 51 (.int .i64 (k:Nat)))
theorem Jq {C:Ctx} (Lb:JW C) {K:cN} [Up K] (f:aC) (hV:VF f) (room:List Int) (xs:List Nat) (hx:sK (eC f room) xs) (e I:Nat) {F:PF} {H:PH}
  (hH:aL H [(I,.rows 1 (dK (azV f.ayH.length (.aA,[])))),(e,fA f)] (gU (azV f.ayH.length (.aA,[])))) (hF:(plF f (eC f room) xs e I 0).le F)
  (hK:∀ ps H',aL H' [(e,fA f)] (oY (.osl I 1 0 f.ayH.length) ps)→wls ps=ij f (fL f room) xs→K (.exit 0) ((PF.nil.set 13 (.osl I 1 0 f.ayH.length))) H'):aE.wp C (.loop FG) K F H:=by
 have hs:=hV.small;have hr:=hV.root;have hn:=MK hV room;have hm:=hn.num;have ρ:=hn.few;have Y:xs.length=(fL f room).length:=hx.len;refine wp_loop (α:=Nat × WPs × PH) (fun s=>plF f (eC f room) xs e I s.1) (fun s=>s.2.2) (fun s=>s.1≤(eC f room).arcs.length∧wls s.2.1=nK f (fL f room) xs s.1∧aL s.2.2 [(I,.rows 1 (dK s.2.1)),(e,fA f)] (gU s.2.1)) (fun s=>(eC f room).arcs.length-s.1) (0,azV f.ayH.length (.aA,[]),H) ⟨aAH _,?_,hH⟩ hF b_ ?_
 ·rw[Xq];unfold wls;simp only[List.map_replicate]
 rintro⟨k,ps,H0⟩ ⟨hk,j,hH⟩;simp only at hk j hH;have ξ:ps.length=f.ayH.length:=by have:=congrArg List.length j;rw[adG] at this;unfold wls at this;rw[azT] at this;exact this
 simp only[go_sem,FG,YU,plF];by_cases hlt:k<(eC f room).arcs.length
 ·have J:(k:Int)<((eC f room).arcs.length:Nat):=Om;have V:=wZz k;have U:k<(fL f room).length:=hlt;have μ:k<xs.length:=Om;have γ:=tX hlt;have ι:dR (eC f room) k=(fL f room)[k]:=(rP hlt).symm;rw[ι] at γ;have κ:=azZ U;obtain⟨z1,z2,z3⟩:=hn.ends _ (azZ hlt);have z1:((fL f room)[k]).src<(eC f room).nodes:=z1;have z2:((fL f room)[k]).dst<(eC f room).nodes:=z2;have τ:bF f 0≤(eC f room).nodes:=by show bF f 0≤bF f f.ayF.length; unfold bF; omega
  have W:=Xp (f:=f) (l:=fL f room) (xs:=xs) Y U;have A:=adH (f:=f) (l:=fL f room) (xs:=xs) Y U;have δ:=aiQ hV (room:=room) κ;generalize (fL f room)[k]=a at *
  simp only[go_sem,J,YV,γ];refine hH.tZ fun q H1 h1=>?_;have q1:=h1.mM;have O:=h1.rZ (.rows 4 [a.cells]);simp only[go_sem,q1];generalize H1.set q (.rows 4 [[.int .i64 a.src,.int .i64 a.dst,.int .i64 a.cap,.int .i64 0]])=H2 at *
  have E:H2 q=some (.rows 4 [a.cells]):=O.mM;have N:H2 e=some (fA f):=O.at 1 rfl;have β:H2 I=some (.rows 1 (dK ps)):=O.at 0 rfl;have S:(a.dst<bF f 0∨xs.getD k 0=0)→jT (fun s:Nat × WPs × PH=>plF f (eC f room) xs e I s.1) (fun s=>s.2.2) (fun s=>s.1≤(eC f room).arcs.length∧wls s.2.1=nK f (fL f room) xs s.1∧aL s.2.2 [(I,.rows 1 (dK s.2.1)),(e,fA f)] (gU s.2.1)) (fun s=>(eC f room).arcs.length-s.1) ((eC f room).arcs.length-k) K .normal (plF f (eC f room) xs e I (k+1)) H2:=fun h =>
   aJ (k+1,ps,H2) ⟨hlt,by rw[W h]; exact j,aL.dropLast (B:=[(I,.rows 1 (dK ps)),(e,fA f)]) O⟩ (by simp only; omega) (fun _ _ h=>h) b_
  refine bO (PH.nil.set q (.rows 4 [a.cells])) (yR f [] (fun _ _=>True)) (e_ a_ E) ?_;by_cases c1:a.dst<bF f 0
  ·have M:(a.dst:Int)<((bF f 0:Nat):Int):=Om;simp only[go_sem,FH,N];refine yU Lb.tolL hs (i:=0) (by decide) (by simp only[go_sem]; rfl) (e_ a_ E) ?_;simp only[go_sem,M,wV,V];exact Up.up (by unfold plF; exact Lq) (S (.inl c1))
  ·have M:¬ (a.dst:Int)<((bF f 0:Nat):Int):=Om;simp only[go_sem,FH,N];refine yU Lb.tolL hs (i:=0) (by decide) (by simp only[go_sem]; rfl) (e_ a_ E) ?_;have θ:=zL μ;by_cases c2:xs.getD k 0=0
   ·simp only[go_sem,M,θ,bM (Om:((xs.getD k 0:Nat):Int)=0),wV,V];exact Up.up (by unfold plF; exact Lq) (S (.inr c2))
   ·obtain⟨v,d,hv,hd,rfl⟩:=δ Om;have X:=I5 hV (v:=v) hd;have A:=A Om c2 (by rw[X]; exact hv);rw[X] at A;have σ:=anI hV (v:=v) hd;have υ:=Cg hV hd;have φ:=hs.ayI;have χ:=hs.ayH;have w1:IntKind.i64.wrap (((eN f v d).src:Int)-2)=(((eN f v d).src-2:Nat):Int):=by rw[wrap_i64 Om Om]; omega
    have w2:IntKind.i64.wrap ((((eN f v d).src-2:Nat):Int)-(f.ayH.length:Nat))=(((eN f v d).src-2-f.ayH.length:Nat):Int):=by rw[wrap_i64 Om Om]; omega
    have w3:IntKind.i64.wrap ((f.ayI.length:Int)-1)=((f.ayI.length-1:Nat):Int):=by rw[wrap_i64 Om Om]; omega
    have w4:¬ ((f.ayI.length-1:Nat):Int)=0:=Om;have w5:Int.tdiv (((eN f v d).src-2-f.ayH.length:Nat):Int) ((f.ayI.length-1:Nat):Int)=((v:Nat):Int):=by exact (Int.ofNat_tdiv _ _).symm.trans (congrArg (fun x:Nat=>(x:Int)) X)
    have w6:IntKind.i64.wrap ((v:Nat):Int)=((v:Nat):Int):=wrap_i64 Om Om;have w7:IntKind.i64.wrap (((eN f v d).dst:Int)-((bF f 0:Nat):Int))=(d:Int):=by
     have:(eN f v d).dst=bF f 0+d:=by simp only[eN,bF]; omega
     rw[wrap_i64 Om Om,this]; omega
    simp only[go_sem,M,θ,bB (Om:¬ ((xs.getD k 0:Nat):Int)=0),YW,E,N,w1,w2,w3,w4,w5,w6];have ζ:v<ps.length:=Om;obtain⟨u,w,R⟩:∃ u w,ps[v]?=some (u,w):=⟨(ps[v]).1,(ps[v]).2,aAA ζ⟩;have η:(wls ps).getD v []=w:=j8 R;have ε:(v:Int)<(f.ayH.length:Nat):=Om;have ο:¬ I=q:=O.ne 0 2 rfl rfl (by decide);obtain⟨Hs,s1,s2,Z⟩:=Bo (x:=.rows 1 (dK ps)) (y:=.rows 4 [(eN f v d).cells]) ο;refine bO Hs (yR f [] (fun _ _=>True)) (Z _ β E) ?_;simp only[go_sem,YX,N,ε,s1,s2,aAU,zJ R];refine yU Lb.tolL hs (i:=0) (by decide) (by simp only[go_sem]; rfl) (Z _ β E) ?_;simp only[go_sem,w7];have ω:w.length≤k:=by
     have h9:w=(nK f (fL f room) xs k).getD v []:=by rw[← j,η]
     rw[h9];unfold nK;rw[aAG,aAR,aCV hv];exact aCF (Gk f v _ _) (by rw[aAJ]; omega)
    refine O.append v (DX R) (src:=cO [(d:Int)]) rfl (by unfold roomFor; rw[iU,iU]; simp only[aAC,maxLen]; omega) fun u' H3 h3 hu=>?_;obtain⟨q',rfl⟩:=hu (by simp[cO]);rw[← LN] at h3 ⊢;refine⟨Z _ (h3.at 0 rfl) (h3.at 2 rfl),?_⟩;simp only[go_sem,ε];refine bO .nil dE a_ ?_;have e3:=h3.at 0 rfl;have ν:v<(dK ps).length:=by rw[NG]; exact ζ
    simp only[go_sem,YY,e3,aAU,zJ R,ν];refine⟨a_,?_⟩;simp only[go_sem,wV,V];have h4:=h3.set 0 rfl (.rows 1 ((dK ps).set v [.osl q' 1 0 (cO (w++[(d:Int)])).length]));generalize ψ:PV.osl q' 1 0 (cO (w++[(d:Int)])).length=u' at *
    refine aJ (k+1,ps.set v (u',w++[(d:Int)]),_) ⟨hlt,?_,?_⟩ (by simp only; omega) Lq b_
    ·simp only;rw[j9,← A,j,← η,j];have:((eN f v d).dst-bF f 0:Nat)=d:=by simp only[eN,bF]; omega
     rw[this]
    ·simp only;have e5:dK (ps.set v (u',w++[(d:Int)]))=(dK ps).set v [u']:=List.map_set ..;have e6:gU (ps.set v (u',w++[(d:Int)]))=(gU ps).set v (u',1,cO (w++[(d:Int)])):=List.map_set ..;rw[e5,e6];exact aL.dropLast (B:=[(I,.rows 1 ((dK ps).set v [u'])),(e,fA f)]) h4
 ·have J:¬ (k:Int)<((eC f room).arcs.length:Nat):=Om;have:k=(eC f room).arcs.length:=Om;subst this;simp only[go_sem,J];have O:=hH.auX;rw[NG,ξ] at O;refine Up.up Lq (hK ps H0 O ?_);rw[j];exact adF Y
theorem F7 {res:List dW} {f:aC} {room:List Int} {ws:List (List Int)} {c:Int} {e:jZ} {F:PF} {H:PH} (j:DM f room ws c) (h:aS res (cK (.tup [lists ws,.int .i64 c])) e F H):aS res (vg f room) e F H :=
 qn (fun r H' l=>⟨ws,c,j,l⟩) h
theorem dh {f:aC} (hV:VF f) {room:List Int} {xs:List Nat} {S:Nat→Bool} (u:fY (eC f room) xs) (e:iH (eC f room) xs=dC S (eC f room).arcs) (j:S (eC f room).source=true) (l:S (eC f room).sink=false):¬ iH (eC f room) xs<(oV f:Int)↔wF f room:=by
 rw[Int.not_lt];exact kg hV u j l e
theorem Wx {f:aC} (hV:VF f) {room:List Int} {xs:List Nat} (e:fY (eC f room) xs) (h:¬ iH (eC f room) xs<(oV f:Int)):∃ u,qS f room u∧ij f (fL f room) xs=rH f u:=by
 obtain⟨s,g,j,t,rfl⟩:=YO f room e.len;exact⟨kK f j,xd hV e (Int.not_lt.1 h),adI hV room s g j t⟩
theorem W4 {C:Ctx} (x:JW C) (f:aC) (hf:f.Ok) (room:List Int) :
  BH.wp C (aS x8.res (vg f room)) (PF.args [.agg f.cells,ints room]) .nil:=by
 simp only[go_sem,BH,kj,x8,kk];refine aB (x.net f room hf) Sq ?_;simp only[go_sem,WB];refine aP fun q hq=>?_;have R:aL (PH.nil.set q kO) [(q,kO)] []:=aL.nil.new hq kO;generalize (PH.nil.set q kO)=Y at *
 have q1:=R.at 0 rfl;have l:=R.set 0 rfl (oZ (CG f room));simp only[go_sem,q1];generalize Y.set q (.rows 4 [(CG f room).cells])=H2 at *
 have X:=l.at 0 rfl;cases e:dB f with
 | false =>simp only[go_sem,KY,PW e,kn];refine F7 (ws:=[]) (c:=1) (.inl ⟨e,rfl,rfl⟩) ?_;exact NM (.inr rfl) Sq (aL.aiD (l.zZ 0))
 | true =>
  have hV:=VF.of e;have W:=hV.small;have hn:=MK hV room;have E:(f.ayH.length:Int)*((24:Nat):Int)≤140737488355328:=by have:=W.ayH; omega
  have F:(f.ayH.length:Int)≤9223372036854775807:=by have:=W.ayH; omega
  have I:(0:Int)≤(f.ayH.length:Int):=Om;rw[PY e] at X l;simp only[go_sem,KY,uI e,ko,X];refine eD (x.solve _ hn) Sq a_ ?_;rintro r H' ⟨xs,S,y,w,A,B,rfl,rfl⟩ -;rw[PH.mA];have J:=dh hV y w A B;simp only[go_sem,kp];refine aB (x.demand f hV) Sq ?_;by_cases hlt:iH (eC f room) xs<((oV f:Nat):Int)
  ·simp only[go_sem,hlt,kq];refine F7 (ws:=[]) (c:=12) (.inr (.inr ⟨e,fun h=>J.2 h hlt,rfl,rfl⟩)) ?_;exact NM (.inr rfl) Sq (aL.aiD (l.zZ 0))
  ·obtain⟨u,hA,K⟩:=Wx hV y hlt;simp only[go_sem,hlt,kr,azT];refine l.tZ fun j Z U=>?_;have g3:=U.at 1 rfl;have h4:=U.set 1 rfl (fA f);simp only[go_sem,g3];generalize Z.set j (.rows 2 [[.int .i64 (f.ayH.length:Nat),.int .i64 (f.ayI.length:Nat)]])=H4 at *
   simp only[go_sem,ku,azT,E,F,I,Int.le_refl,aDD];refine aP fun N M=>?_;have h5:=h4.new M (.rows 1 (azV f.ayH.length [.aA]));generalize H4.set N (.rows 1 (azV f.ayH.length [.aA]))=O at *
   have V:aL O [(N,.rows 1 (azV f.ayH.length [.aA])),(j,fA f),(q,oZ (eC f room))] []:=by refine h5.perm ?_ (aCM.refl _);exact (List.reverse_perm _).symm
   have q5:=V.at 2 rfl;have eo:dK (azV f.ayH.length ((.aA,[]):PV × List Int))=azV f.ayH.length [.aA]:=by unfold dK; rw[List.map_replicate]
   simp only[go_sem,kw,q5];refine Jq x f hV room xs y.in j N (H:=O) (by rw[eo]; exact (V.zZ 2).asS _) (by unfold plF; (repeat' (first|exact c_|refine d_ ?_ ?_))<;>first|(simp only[go_sem,azT]<;>rfl)|rfl) fun ps H6 h7 hw=>?_;simp only[go_sem,YZ];refine F7 (ws:=wls ps) (c:=0) (.inr (.inl ⟨e,⟨u,hA,by rw[hw,K]⟩,rfl⟩)) ?_;exact NM (.inr rfl) Sq (h7.zZ 0)
theorem aL.Tc:∀ (L:List LI) {H:PH} {B:List BX},aL H B L→(∀ x∈L,Flat x.2.2)→(∀ b∈B,∀ q s rs,bG.frz q s rs b.2=b.2) →
  ∃ (φ:PV→PV) (y:PH),(∀ x∈L,Seen x.2.1 (φ x.1) x.2.2)∧(∀ u,u.oid=none→φ u=u)∧aL y B []∧∀ cs (b:Bool) R,nU (.tup [.agg (cs.map φ),.bool b]) y R→nU (.tup [.agg cs,.bool b]) H R
 | [],H,B,h,_,_=>⟨id,H,by simp,fun _ _=>rfl,h,fun cs b R F=>by rwa [List.map_id] at F⟩
 | (w,s,rows)::L,H,B,h,E,hB=>by
  have l:∀ q z rs,(L.map fun x=>(x.1,x.2.1,x.2.2.map fun r=>r.map (PV.cA q z rs)))=L:=fun q z rs=>by
   conv=>rhs; rw[← List.map_id L]
   refine aBY fun x hx=>?_;rw[E x (by simp[hx]) q z rs]; rfl
  rcases h.own 0 rfl with ⟨A,O⟩ | ⟨q,rs,A,_⟩
  ·obtain⟨φ,y,k1,k2,I,J⟩:=aL.Tc L (h.YJ 0) (fun x hx=>E x (by simp[hx])) hB;refine⟨φ,y,fun x hx=>?_,k2,I,J⟩;rw[aAD] at hx;rcases hx with rfl | hx
   ·exact .inl ⟨A,by simp only; rw[O]; exact k2 _ rfl⟩
   ·exact k1 x hx
  ·subst A;obtain⟨rs,U,V,Y,W,M⟩:=h.frz 0 rfl;have X:aL (H.frz q s rs) B L:=by
    have N:(B.map fun b=>(b.1,b.2.frz q s rs))=B:=by
     conv=>rhs; rw[← List.map_id B]
     refine aBY fun b hb=>?_;rw[hB b hb q s rs]; rfl
    rw[N] at M;have:=M;simp only[List.eraseIdx_cons_zero] at this
    rwa [l q s rs] at this
   obtain⟨φ,y,k1,k2,I,J⟩:=aL.Tc L X (fun x hx=>E x (by simp[hx])) hB;refine⟨fun u=>φ (PV.cA q s rs u),y,fun x hx=>?_,fun u K=>?_,I,fun cs b R F=>?_⟩
   ·rw[aAD] at hx;rcases hx with rfl | hx
    ·simp only;rw[V];exact .inr (k2 _ rfl)
    ·obtain⟨j,S⟩:=List.mem_iff_getElem?.1 hx;have:=W (j+1) x Om (by simpa using S);simp only;rw[this];exact k1 x hx
   ·simp only;rw[FJ K,k2 u K]
   ·refine .step U ?_;have e:PV.frz q s rs (.tup [.agg cs,.bool b])=.tup [.agg (cs.map (PV.cA q s rs)),.bool b]:=rfl;rw[e];refine J _ b R ?_;rw[aCY];exact F
def oH (e:List (List PV)) (ws:List (List Bool)):Prop:=e.length=ws.length∧∀ (i:Nat) r w,e[i]?=some r→ws[i]?=some w→r=[kF w]∨(r=[.aA]∧w=[])
theorem oH.nil:oH [] []:=⟨rfl,fun i r w h=>by cases h⟩
theorem oH.snoc {l:List (List PV)} {ws:List (List Bool)} {u:PV} {w:List Bool} (h:oH l ws) (y:u=kF w∨(u=.aA∧w=[])):oH (l++[[u]]) (ws++[w]):=by
 refine⟨by simp[h.1],fun i r x e j=>?_⟩;rcases Nat.lt_trichotomy i l.length with c | c | c
 ·rw[aBT c] at e;rw[aBT (by rw[← h.1]; exact c)] at j;exact h.2 i r x e j
 ·subst c;rw[aBS (azY _),Nat.sub_self] at e;rw[h.1,aBS (azY _),Nat.sub_self] at j;cases e; cases j;rcases y with rfl | ⟨rfl,rfl⟩
  ·exact .inl rfl
  ·exact .inr ⟨rfl,rfl⟩
 ·rw[aBS Om,aBG (by simp; omega)] at e;cases e
theorem oH.flat {j:List (List PV)} {ws:List (List Bool)} (h:oH j ws):Flat j:=Flat.of fun r u c e q s rs=>by
 obtain⟨i,hi⟩:=List.mem_iff_getElem?.1 u;have l:=(aAW.1 hi).1;rcases h.2 i r _ hi (aAA (by rw[← h.1]; exact l)) with rfl | ⟨rfl,-⟩
 ·rw[aBF] at e; subst e; rfl
 ·rw[aBF] at e; subst e; rfl
abbrev XZ (ws:List (List Bool)):PV:=.sl 1 (ws.map fun w=>[kF w])
theorem oH.co {y:List (List PV)} {ws:List (List Bool)} (h:oH y ws):Co (.sl 1 y) (XZ ws):=by
 have x:∀ (i:Nat) r t,y[i]?=some r→(ws.map fun w=>[kF w])[i]?=some t→∃ w,t=[kF w]∧(r=[kF w]∨(r=[.aA]∧w=[])):=fun i r t u e=>by
  rw[aAR] at e;cases B:ws[i]? with
  | none=>rw[B] at e; cases e
  | some w =>rw[B] at e;cases e;exact⟨w,rfl,h.2 i r w u B⟩
 refine .sl (by rw[azT,h.1]) (fun i r t u e=>?_) (fun i j p q l hq=>?_)
 ·obtain⟨w,rfl,A | ⟨A,-⟩⟩:=x i r t u e<;>subst A<;>rfl
 ·unfold at2 at l hq;cases u:y[i]? with
  | none=>rw[u] at l; cases l
  | some r =>
   cases e:(ws.map fun w=>[kF w])[i]? with
   | none=>rw[e] at hq; cases hq
   | some t =>
    rw[u] at l;rw[e] at hq;obtain⟨w,rfl,A⟩:=x i r t u e;rcases A with rfl | ⟨rfl,rfl⟩
    ·have:some p=some q:=l.symm.trans hq;cases this;exact .refl _
    ·cases j with
     | zero=>cases l; cases hq; exact .nil 1
     | succ j=>cases l
abbrev fM.cells (c:fM):List PV:=[kF c.vols,XZ c.ayP,kF c.ayZ]
theorem EQ (l:List Bool):Flat (bD l):=Flat.map l fun x c e q s rs=>by rw[aBF] at e; subst e; rfl
theorem Gj {res:List dW} {F:PF} {H:PH} {y u w:PV} {V R:List Bool} {A:List (List PV)} {ws:List (List Bool)} {b:Bool} {e:jZ} (he:e=.normal∨e=.ret) (h:dW.evs F H res=some [.agg [y,u,w],.bool b])
  (B:oH A ws) (N:aL H [] [(y,1,bD V),(u,1,A),(w,1,bD R)]):aS res (cK (.tup [.agg (fM.cells ⟨V,ws,R⟩),.bool b])) e F H:=by
 obtain⟨φ,S,k1,-,-,O⟩:=aL.Tc _ N (fun x I=>by
  simp only[aAD,aAP,or_false] at I;rcases I with rfl | rfl | rfl
  ·exact EQ V
  ·exact B.flat
  ·exact EQ R) (fun b hb=>by cases hb)
 refine oR he h ?_;refine O [y,u,w] b _ (.done (H2:=.nil) ⟨?_,rfl⟩ a_);have J:=(k1 (y,1,bD V) (by simp)).co;have K:Co (φ u) (XZ ws):=by
  rcases k1 (u,1,A) (by simp) with ⟨E,h2⟩ | h2
  ·simp only at E h2;rw[h2];have:ws=[]:=List.length_eq_zero_iff.1 (by rw[← B.1,E]; rfl);subst this;exact .nil 1
  ·simp only at h2;rw[h2]; exact B.co
 have M:=(k1 (w,1,bD R) (by simp)).co;refine .tup rfl fun j p q l hq=>?_
 match j with
 | 0 =>
  cases l; cases hq;refine .agg rfl fun j p q l hq=>?_
  match j with
  | 0=>cases l; cases hq; exact J
  | 1=>cases l; cases hq; exact K
  | 2=>cases l; cases hq; exact M
  | j+3=>cases l
 | 1=>cases l; cases hq; exact .refl _
 | j+2=>cases l
def wa:fM:=⟨[],[],[]⟩
def uk (f:aC) (room:List Int) (c:fM) (b:Bool):Prop :=
 (dB f=false∧c=wa∧b=false)∨(dB f=true∧wF f room∧c=wa∧b=false)∨(dB f=true∧¬ wF f room∧pF f room c=true∧b=true)
def aaR (f:aC) (room:List Int) (r:PV) (H:PH):Prop:=∃ c b,uk f room c b∧cK (.tup [.agg c.cells,.bool b]) r H
def aoP (f:aC) (room:List Int) (r:PV) (H:PH):Prop:=∃ c b,uk f room c b∧r=.tup [.agg c.cells,.bool b]∧H=PH.nil
theorem aG.why {C:Ctx} {name:Nat} {args:List PV} {f:aC} {room:List Int} (h:aG C name args .nil (aaR f room)):aG C name args .nil (aoP f room) :=
 h.post fun r H' ⟨ws,c,e,j,l⟩=>⟨_,j,ws,c,e,rfl,l⟩
theorem ahP {res:List dW} {f:aC} {room:List Int} {c:fM} {b:Bool} {e:jZ} {F:PF} {H:PH} (j:uk f room c b) (h:aS res (cK (.tup [.agg c.cells,.bool b])) e F H):aS res (aaR f room) e F H :=
 qn (fun r H' l=>⟨c,b,j,l⟩) h
abbrev gJ (l e j:PV):bG:=.rows 3 [[l,e,j]]
def BF (f:aC) (S:Nat→Bool) (k:Nat):List Bool:=(azU k).map fun v=>S (cQ f v 0)
def sR (f:aC) (S:Nat→Bool) (v k:Nat):List Bool:=(azU k).map fun i=>S (cQ f v (i+1))
def OX (f:aC) (S:Nat→Bool) (k:Nat):List (List Bool):=(azU k).map fun v=>sR f S v (f.ayI.length-1)
def KK (f:aC) (S:Nat→Bool) (k:Nat):List Bool:=(azU k).map fun d=>S (bF f d)
theorem pY {α:Type} (g:Nat→α) (k:Nat):(azU (k+1)).map g=(azU k).map g++[g k]:=by rw[aCO,aBL]; rfl
theorem ER (l:List Bool) (b:Bool):bD l++[[.bool b]]=bD (l++[b]):=by simp[bD]
theorem abF (f:aC) (S:Nat→Bool):uU f S=⟨BF f S f.ayH.length,OX f S f.ayH.length,KK f S f.ayF.length⟩:=rfl
theorem XC {S:Nat→Bool} {N i:Nat} (h:i<N):(bD ((azU N).map S))[i]?=some [.bool (S i)]:=by
 rw[lN (by simp[h])];rw[aAG,aAR,aCV h]; rfl
def uj (v:PV):Prop:=∀ (E e:Env) (u:Value),aR E v u→aR e v u
theorem uj.pair (n:Int) (b:Bool):uj (.tup [.int .i64 n,.bool b]):=fun E y u h=>by
 cases h with
 | tup vs l w =>
  refine .tup vs l fun j p v e x=>?_;have:=w j p v e x
  match j with
  | 0=>cases e; cases this; exact .int _ _
  | 1=>cases e; cases this; exact .bool _
  | j+2=>cases e
theorem aG.asQ {C:Ctx} {name o s:Nat} {rs:List (List PV)} {args:List PV} {v:PV} (V:uj v) (h:aG C name (args.map (PV.frz o s rs)) .nil (aM v)) :
  aG C name args (PH.nil.set o (.rows s rs)) (fun r H'=>r=v∧H'=PH.nil.set o (.rows s rs)):=by
 refine⟨h.1,fun E w vs M hW F=>?_⟩;have W:iR (PF.args args) (PH.nil.set o (.rows s rs)) _ _:=.step o (s:=s) (rs:=rs) (by simp only[aQ,if_true]) (.refl _ _);obtain⟨J,k1,k2,X⟩:=W.sound hW;rw[gt] at k1 k2;have B:=F.len;have I:eR J (args.map (PV.frz o s rs)) vs.toList:=by
  refine eR.of _ _ (by rw[azT]; exact B) fun i p u R U=>?_;have:=X (fun i=>(vs.toList[i]?).getD undef) (fun j q K=>by have O:=(aAW.1 K).1;have A:j<vs.toList.length:=Om;simp only[aAA A,aCP];exact F.at_ j q _ K (aAA A)) i p (by rw[nJ,args_at,← aAR]; exact R)
  simp only[U,aCP] at this;exact this
 refine (h.2 J w vs (k2.env.num.trans M) k1 I).mono fun e Y he=>?_;obtain⟨u,pv,Z,H2,rfl,N,S,y,rfl,rfl⟩:=he;have l:∀ b,b<w.heap.size→Y.heap[b]?=w.heap[b]?:=fun b hb=>y.block b hb rfl;exact⟨u,pv,E,_,rfl,hW.same y.size (fun b hb _=>l b hb) (fun q x hq=>l q (hW.h q x hq).1),V _ _ _ S,⟨.refl E,y.os,y.tape,y.output,y.size,fun b hb _=>l b hb,fun q x hq=>.inl ⟨x,hq⟩,fun b cs hb=>.inl hb⟩,rfl,rfl⟩
def aoY (name:Nat) (v:PV):Spec:=fun e vs=>if e=name then match vs with
 | [_,.osl o _ _ _]=>some ([o],fun G r H'=>r=v∧H'=G)
 | _=>none
 else none
def DP (f:aC) (room:List Int) (c:fM):Bool:=dB f&&pF f room c
def U1 (f:aC) (c:fM) (k:Nat):Prop:=∀ r∈c.ayP.take k,r.length=f.ayI.length-1
theorem Zd {f:aC} {c:fM} {k:Nat} (h:U1 f c k):(c.ayP.take k).flatten.length≤k*(f.ayI.length-1):=by
 rw[vO h];exact aAV _ (by rw[aAJ]; omega)
theorem agD {f:aC} {c:fM} {k:Nat} (e:k<c.ayP.length) (h:c.ayP[k].length≠f.ayI.length-1):c.shape f=false:=by
 cases j:c.shape f with
 | false=>rfl
 | true=>exact absurd ((AU.1 j).r _ (azZ e)) h
def abA (f:aC) (c:fM) (o7:Nat) (v:PV) (k:Nat):PF:=(((((((PF.nil.set 3 (.cZ f.cells)).set 5 (.cZ c.cells)).set 7 (.ptr o7 4 0 0)).set 9 (v)).set 54 (XZ c.ayP)).set 55 (.int .i64 (c.ayP.length:Nat))).set 56 (.int .i64 (k:Nat)))
theorem ajQ {C:Ctx} (Lb:JW C) (I:∀ (n:cF) (cut:List Bool),fO n→R0 n cut→aG C 293 [.agg n.cells,kF cut] .nil (aM (.tup [.int .i64 ((dC (fun w=>cut.getD w false) n.arcs:Nat):Int),.bool true])))
  (f:aC) (hf:f.Ok) (room:List Int) (c:fM) (hc:c.vols.length≤1000000∧c.ayP.length≤1000000∧c.ayZ.length≤1000000) :
  KP.wp C (aS abR.res (aM (.bool (DP f room c)))) (PF.args [.agg f.cells,ints room,.agg c.cells]) .nil:=by
 have B:DP f room c=(dB f&&(c.shape f&&decide (dC (ES c) (fL f room)<oV f))):=rfl;obtain⟨δ,ε,ζ⟩:=hc;simp only[go_sem,KP,K9,abR,La];refine aB (Lb.net f room hf) Ev ?_;simp only[go_sem,WB];refine aP fun q hq=>?_;have h1:aL (PH.nil.set q kO) [(q,kO)] []:=aL.nil.new hq kO;generalize (PH.nil.set q kO)=H1 at *
 have q1:=h1.at 0 rfl;have h2:=h1.set 0 rfl (oZ (CG f room));simp only[go_sem,q1];generalize H1.set q (.rows 4 [(CG f room).cells])=H2 at *
 cases A:dB f with
 | false =>simp only[go_sem,yB,PW A,DS];exact pJ (b:=false) Sq (by rw[B,A]; rfl)
 | true =>
  have hV:=VF.of A;have hs:=hV.small;have hr:=hV.root;have θ:=hs.ayI;have ι:=hs.ayF;have κ:=hs.ayH;have hn:=MK hV room;rw[PY A] at h2;rw[A,aAN] at B;by_cases c1:c.vols.length=f.ayH.length
  ·by_cases c2:c.ayP.length=f.ayH.length
   ·by_cases c3:c.ayZ.length=f.ayF.length
    ·simp only[go_sem,yB,uI A,fM.cells,azT,cM (Om:(c.vols.length:Int)=(f.ayH.length:Nat)),cM (Om:(c.ayP.length:Int)=(f.ayH.length:Nat)),cM (Om:(c.ayZ.length:Int)=(f.ayF.length:Nat)),Lc];refine aP fun o ho=>?_;have h3:=h2.i9 (s:=1) (rows:=[[.bool true],[.bool false]]) ho;generalize H2.set o (.rows 1 [[.bool true],[.bool false]])=H3 at *
     simp only[go_sem];refine h3.append 0 (src:=bD c.vols) rfl Sq (by unfold roomFor; rw[iY]; simp only[aBO,aCE,maxLen]; omega) fun v4 H4 h4 _=>?_;simp only[go_sem,Ld,azT];refine wp_loop (α:=Nat × PV × PH) (fun s=>abA f c q s.2.1 s.1) (fun s=>s.2.2) (fun s=>s.1≤c.ayP.length∧U1 f c s.1∧aL s.2.2 [(q,oZ (eC f room))] [(s.2.1,1,bD (true::false::(c.vols++(c.ayP.take s.1).flatten)))]) (fun s=>c.ayP.length-s.1) (0,v4,H4) ⟨aAH _,fun r h=>by simp at h,by simpa using h4⟩ (by unfold abA; (repeat' (first|exact c_|refine d_ ?_ ?_))<;>first|(simp only[go_sem,azT,fM.cells]<;>rfl)|rfl) b_ ?_;rintro⟨k,v,H5⟩ ⟨hk,y,F⟩;simp only at hk y F;have Y:=Zd y;have η:k*(f.ayI.length-1)≤12*40:=aDC Om Om;simp only[go_sem,wr,Le,abA];by_cases hlt:k<c.ayP.length
     ·have l:(k:Int)<(c.ayP.length:Nat):=Om;have β:=wZz k;have W:(c.ayP.map fun w=>[kF w])[k]?=some [kF c.ayP[k]]:=by simp[hlt]
      have hw:IntKind.i64.wrap ((f.ayI.length:Int)-1)=((f.ayI.length-1:Nat):Int):=by rw[wrap_i64 Om Om]; omega
      have J:c.ayP.take (k+1)=c.ayP.take k++[c.ayP[k]]:=aCI hlt;have γ:=agD (f:=f) hlt;generalize c.ayP[k]=row at *
      simp only[go_sem,l,Lf,W,Lg,azT,hw];by_cases cr:row.length=f.ayI.length-1
      ·simp only[go_sem,cM (Om:(row.length:Int)=((f.ayI.length-1:Nat):Int)),wt];refine F.append 0 (src:=bD row) rfl Sq (by unfold roomFor; rw[iY,iY]; simp only[aBO,azX,maxLen]; omega) fun v' H' S _=>?_;simp only[go_sem,wu,β];refine aJ (k+1,v',H') ⟨hlt,?_,?_⟩ (by simp only; omega) Lq b_
       ·intro r hr;simp only at hr;rw[J] at hr;rcases aBB.1 hr with hr | hr
        ·exact y r hr
        ·rw[aBF] at hr; subst hr; exact cr
       ·simp only;have O:bD (true::false::(c.vols++(c.ayP.take (k+1)).flatten))=bD (true::false::(c.vols++(c.ayP.take k).flatten))++bD row:=by rw[J];simp[bD]
        show aL H' _ [(v',1,bD (true::false::(c.vols++(c.ayP.take (k+1)).flatten)))];rw[O];exact S
      ·simp only[go_sem,eF (Om:¬ (row.length:Int)=((f.ayI.length-1:Nat):Int)),Lh];exact pJ (b:=false) Sq (by rw[B,γ cr]; rfl)
     ·have l:¬ (k:Int)<(c.ayP.length:Nat):=Om;have Z:k=c.ayP.length:=Om;subst Z;have e:Shape f c:=⟨c1,c2,c3,by have:=y; unfold U1 at this; rwa [aBM] at this⟩;rw[aBM] at F Y;have E:H5 q=some (oZ (eC f room)):=F.at 0 rfl;have j:nG c=true::false::(c.vols++(c.ayP.flatten++c.ayZ)):=rfl;have U:R0 (eC f room) (nG c):=⟨abE hV e,rfl,rfl⟩;have X:=I (eC f room) (nG c) hn U;simp only[go_sem,l];refine bO (PH.nil.set q (oZ (eC f room))) (aoY 293 (.tup [.int .i64 ((dC (fun w=>(nG c).getD w false) (eC f room).arcs:Nat):Int),.bool true])) (e_ a_ E) ?_;simp only[go_sem,ww,E];refine F.append 0 (src:=bD c.ayZ) rfl Sq (by unfold roomFor; rw[iY,iY]; simp only[aBO,azX,maxLen]; omega) fun v' H' S _=>?_;have O:bD (true::false::(c.vols++c.ayP.flatten))++bD c.ayZ=bD (nG c):=by rw[j];simp[bD]
      have u:aL H' [(q,oZ (eC f room))] [(v',1,bD (nG c))]:=by rw[← O]; exact S
      obtain⟨p,rfl⟩:=(u.own 0 rfl).one (by rw[iY,j]; simp);obtain⟨rs,r1,r2,r3,r4⟩:=(u.own 0 rfl).id rfl;refine⟨e_ a_ (u.at 0 rfl),?_⟩;refine EU (o:=p) (x:=.rows 1 rs) (v:=.tup [.int .i64 ((dC (fun w=>(nG c).getD w false) (eC f room).arcs:Nat):Int),.bool true]) (vs:=[.agg (eC f room).cells,.osl p 1 0 (bD (nG c)).length]) (R:=fun G r H'=>r=(.tup [.int .i64 ((dC (fun w=>(nG c).getD w false) (eC f room).arcs:Nat):Int),.bool true])∧H'=G) (by unfold aoY; rw[if_pos rfl]) r1 (aG.asQ (uj.pair _ _) ?_) ⟨rfl,rfl⟩ (fun r H' h=>h) Sq (e_ a_ (u.at 0 rfl)) ?_
      ·have e3:([.agg (eC f room).cells,.osl p 1 0 (bD (nG c)).length]:List PV).map (PV.frz p 1 rs)=[.agg (eC f room).cells,kF (nG c)]:=by show [PV.agg _,PV.frz p 1 rs (.osl p 1 0 (bD (nG c)).length)]=_;rw[yF r3,r4]; rfl
       rw[e3];exact X
      ·rw[AU.2 e,aAN] at B;have V:DP f room c=decide (((dC (fun w=>(nG c).getD w false) (eC f room).arcs:Nat):Int)<((oV f:Nat):Int)):=by rw[B];exact decide_eq_decide.2 ⟨fun h=>Int.ofNat_lt.2 h,fun h=>Int.ofNat_lt.1 h⟩
       generalize dC (fun w=>(nG c).getD w false) (eC f room).arcs=cp at *
       simp only[go_sem,wx];refine aB (Lb.demand f hV) Ev ?_;simp only[go_sem];exact pJ Sq V.symm
    ·have N:¬ (c.ayZ.length:Int)=(f.ayF.length:Nat):=Om;simp only[go_sem,yB,uI A,fM.cells,azT,cM (Om:(c.vols.length:Int)=(f.ayH.length:Nat)),cM (Om:(c.ayP.length:Int)=(f.ayH.length:Nat)),eF N,DS];exact pJ (b:=false) Sq (by rw[B,fM.shape,decide_eq_false c3]; simp)
   ·have M:¬ (c.ayP.length:Int)=(f.ayH.length:Nat):=Om;simp only[go_sem,yB,uI A,fM.cells,azT,cM (Om:(c.vols.length:Int)=(f.ayH.length:Nat)),eF M,DS];exact pJ (b:=false) Sq (by rw[B,fM.shape,decide_eq_false c2]; simp)
  ·have K:¬ (c.vols.length:Int)=(f.ayH.length:Nat):=Om;simp only[go_sem,yB,uI A,fM.cells,azT,eF K,DS];exact pJ (b:=false) Sq (by rw[B,fM.shape,decide_eq_false c1]; simp)
theorem dg:eW.ayH.length=1∧eW.ayF.length=1:=by decide +kernel
theorem U7:qZ eW [[0]]:=⟨by decide +kernel,by decide +kernel,by decide +kernel⟩
theorem de:wF eW []:=(abU jM).2 ⟨_,U7,J8⟩
theorem df:¬ wF eW [0]:=by
 rintro⟨u,A⟩;obtain⟨j,l⟩:=dg;have e:(0:Nat)<eW.ayH.length:=Om;have w:(0:Nat)<eW.ayF.length:=Om;have a1:=A.num 0 e;have a2:=A.room 0 w;have a3:=(lD (VF.of jM) e).2.1;have a4:iW eW [0] 0=0:=by decide +kernel
 rw[l] at a1;rw[j,a4] at a2;have x:cC (u 0) 1=one (u 0 0):=by simp[cC,bR]
 have y:cC (fun v=>u v 0) 1=one (u 0 0):=by simp[cC,bR]
 omega
theorem Zn {u:Nat→Nat→Bool} (A:qS eW [] u):rH eW u=[[0]]:=by
 obtain⟨w,e⟩:=dg;have j:(0:Nat)<eW.ayH.length:=Om;have a1:=A.num 0 j;have a3:=(lD (VF.of jM) j).2.1;rw[e] at a1;have l:cC (u 0) 1=one (u 0 0):=by simp[cC,bR]
 have x:u 0 0=true:=by
  cases h:u 0 0 with
  | true=>rfl
  | false=>rw[l,h,lC] at a1; omega
 unfold rH nN;rw[w,e];simp[x,Ec,aCO]
theorem J9 {ws:List (List Int)} {c:Int} (h:DM eW [] ws c):ws=[[0]]∧c=0:=by
 rcases h with ⟨h,-⟩ | ⟨-,⟨u,A,rfl⟩,rfl⟩ | ⟨-,h,-⟩
 ·rw[jM] at h; cases h
 ·exact⟨Zn A,rfl⟩
 ·exact absurd de h
theorem U8 {ws:List (List Int)} {c:Int} (h:DM eW [0] ws c):ws=[]∧c=12:=by
 rcases h with ⟨h,-⟩ | ⟨-,⟨u,A,-⟩,-⟩ | ⟨-,-,h⟩
 ·rw[jM] at h; cases h
 ·exact absurd ⟨u,A⟩ df
 ·exact h
def tW (c:fM):Prop:=c.vols.length≤1000000∧c.ayP.length≤1000000∧c.ayZ.length≤1000000
theorem tW.of {f:aC} (hV:VF f) {c:fM} (h:Shape f c):tW c:=by
 have e:=h.v;have j:=h.i;have l:=h.d;have u:=hV.small.ayH;have h5:=hV.small.ayF;unfold tW;omega
theorem Jl {f:aC} {room:List Int} {c:fM} (h:pF f room c=true):Shape f c:=by
 unfold pF at h;rw[aAF] at h;exact AU.1 h.1
theorem Zo {c:fM} {b:Bool} (h:uk eW [0] c b):b=true∧pF eW [0] c=true∧pF eW [] c=false∧tW c:=by
 have hV:=VF.of jM;rcases h with ⟨h,-⟩ | ⟨-,h,-⟩ | ⟨-,-,h,rfl⟩
 ·rw[jM] at h; cases h
 ·exact absurd h df
 ·refine⟨rfl,h,?_,.of hV (Jl h)⟩;cases e:pF eW [] c with
  | false=>rfl
  | true=>exact absurd de (check_sound hV e)
structure V3 (C:Ctx):Prop where
 fleet:∀ (l:List Nat),(∀ x∈l,x<256)→l.length≤9223372036854775807→∀ ayF ayH:Nat,ayF≤60→ayH≤50 →
  aG C 27 [.sl 1 (jW l),.int .i64 ayF,.int .i64 ayH] .nil (aM (.agg (gW (l.take 400) ayF ayH 0).1.cells))
 place:∀ (f:aC) (room:List Int),f.Ok→aG C 288 [.agg f.cells,ints room] .nil (vf f room)
 why:∀ (f:aC) (room:List Int),f.Ok→aG C 289 [.agg f.cells,ints room] .nil (aoP f room)
 chk:∀ (f:aC) (room:List Int) (c:fM),f.Ok→tW c→aG C 290 [.agg f.cells,ints room,.agg c.cells] .nil (aM (.bool (DP f room c)))
theorem aaL {C:Ctx} (L:V3 C):DJ.wp C (aS Jf.res (aM (.bool true))) (PF.args []) .nil:=by
 have h:=L.fleet [] (fun x I=>by cases I) (by decide) 1 0 (by decide) (by decide);have J:=(L.place eW [] sA).args (args:=[.agg eW.cells,.aA]) (.zY (.refl _) (.zY (.nil 1) .afA));have K:=L.place eW [0] sA;have M:=L.why eW [0] sA;simp only[go_sem,DJ,s8,s9,Jf];refine aB (h.args (.zY (.nil 1) (.zY (.refl _) (.zY (.refl _) .afA)))) (by simp only[go_sem]; rfl) ?_;simp only[go_sem];refine aP fun o V=>?_;simp only[go_sem,ta,aAD,aAP,or_false,forall_eq];show wpOps C OR _ _ (PH.nil.set o (.rows 7 [eW.cells]));have u:(PH.nil.set o (.rows 7 [eW.cells])) o=some (.rows 7 [eW.cells]):=by rw[cJ]
 generalize U:(PH.nil.set o (.rows 7 [eW.cells]))=S at *
 have F:=sA;have w:=jM;have N:=fun ws c h=>J9 (ws:=ws) (c:=c) h;have O:=fun ws c h=>U8 (ws:=ws) (c:=c) h;have R:=fun c b h=>Zo (c:=c) (b:=b) h;have B:=fun c=>L.chk eW [0] c sA;have E:=fun c (h:tW c)=>(L.chk eW [] c sA h).args (args:=[.agg eW.cells,.aA,.agg c.cells]) (.zY (.refl _) (.zY (.nil 1) (.zY (.refl _) .afA)));generalize eW=f at *
 simp only[go_sem,OR,u];refine eD J Sq a_ ?_;rintro r H' ⟨ws,c,A,rfl,rfl⟩ -;rw[PH.mA];obtain⟨rfl,rfl⟩:=N _ _ A;simp only[go_sem,tb,u];refine eD K (by simp only[go_sem]; rfl) a_ ?_;rintro r H' ⟨ws,c,A,rfl,rfl⟩ -;rw[PH.mA];obtain⟨rfl,rfl⟩:=O _ _ A;simp only[go_sem,tc,u];refine eD M (by simp only[go_sem]; rfl) a_ ?_;rintro r H' ⟨ct,b,A,rfl,rfl⟩ -;rw[PH.mA];obtain⟨rfl,g1,g2,g3⟩:=R _ _ A;have k1:=B ct g3;have k2:=E ct g3;rw[DP,w,aAN,g1] at k1;rw[DP,w,aAN,g2] at k2;simp only[go_sem];refine aP fun o2 y=>?_;have l:¬ o=o2:=fun e=>by rw[← e,u] at y; cases y
 have j:¬ o2=o:=fun e=>l e.symm;simp only[go_sem,td,u,l,j,bM (show (0:Int)=0 from rfl),bM (show (12:Int)=12 from rfl),bM (show ((1:Nat):Int)=1 from rfl),azT,aBO,aCE];refine aB k1 (by simp only[go_sem]; rfl) ?_;simp only[go_sem,u,l,j];refine aB k2 Sq ?_;simp only[go_sem];refine bS (.inr rfl) Ev ?_;rfl


abbrev aoF (C:Ctx):Prop:=∀ (l:List Nat) (v:PV),Tp l v→∀ (o n a:Nat),n≤1000000→a≤l.length→aG C 4 [.ptr o 2 0 0,.int .i64 n] (PH.nil.set o (aX v a)) (OV l v o n a)

structure V4 (C:Ctx):Prop where
 new:∀ (l:List Nat),(∀ x∈l,x<256)→l.length≤9223372036854775807→aG C 28 [.sl 1 (jW l)] .nil (fy l)
 tfleet:∀ (l:List Nat) (v:PV),Tp l v→∀ (o ayF ayH a:Nat),ayF≤60→ayH≤50→a≤l.length →
  aG C 0 [.ptr o 2 0 0,.int .i64 ayF,.int .i64 ayH] (PH.nil.set o (aX v a)) (fun r H=>r=.agg (gW l ayF ayH a).1.cells∧H=PH.nil.set o (aX v (gW l ayF ayH a).2))
 QG:∀ (l:List Nat) (v:PV),Tp l v→∀ (o a:Nat) (f:aC),f.ayF.length≤1000→a≤l.length→aG C 6 [.ptr o 2 0 0,.agg f.cells] (PH.nil.set o (aX v a)) (fun r H=>r=ints (qY l f a).1∧H=PH.nil.set o (aX v (qY l f a).2))
theorem aL.asW {C:Ctx} {F:PF} {H:PH} {B:List BX} {L:List LI} {args:List aN} {d:Option Nat} {K:PF→PH→Prop} (h:aL H B L) {l:List Nat} (w:aG C 28 [.sl 1 (jW l)] .nil (fy l)) (j:aN.evs F args=some [.sl 1 (jW l)]) (u:∀ o v H',Tp (l.take 400) v→aL H' (B++[(o,aX v 0)]) L→K (F.put d (.ptr o 2 0 0)) H'):gD C 28 args [] d K F H:=by
 refine eD w j a_ ?_;rintro r H' ⟨o,v,rfl,T,rfl⟩ e;rw[PH.nL];exact u o v _ T (h.new (e o (aX v 0) (by rw[cJ]) rfl) _)

def fR (f:aC) (p:Nat):aC:={ f with ayH:=[⟨[118,48],(p:Nat)⟩] }
theorem U9 {f:aC} (h:dB f=true) {p:Nat} (I:p<f.ayJ.length):dB (fR f p)=true:=by
 have hV:=VF.of h;have J:=hV.small;have l:oJ (fR f p)=true:=by unfold dB at h;simp only[aAF] at h;have e:=h.1.1.1;unfold oJ at e ⊢;simp only[aAF,decide_eq_true_eq] at e ⊢;exact⟨e.1,(show 1≤12 by decide)⟩
 have u:nA (fR f p)=nA f:=rfl;have w:(fR f p).ayH.all (nT (fR f p))=true:=by
  show ([⟨[118,48],((p:Nat):Int)⟩]:List fV).all (nT (fR f p))=true;rw[List.all_cons,List.all_nil,aBZ];unfold nT;refine within_iff.2 ⟨?_,?_⟩
  ·show (0:Int)≤(p:Nat); omega
  ·show ((p:Nat):Int)≤(f.ayJ.length:Int)-1; omega
 have x:distinct ((fR f p).ayH.map fV.name)=true:=by show distinct [[118,48]]=true;decide +kernel
 unfold dB at h ⊢;simp only[aAF] at h ⊢;obtain⟨⟨⟨-,y⟩,⟨⟨⟨A,B⟩,h5⟩,E⟩,-⟩,⟨⟨⟨h7,h8⟩,F⟩,j⟩,-⟩:=h;exact⟨⟨⟨l,u.trans y⟩,⟨⟨⟨A,B⟩,h5⟩,E⟩,w⟩,⟨⟨⟨h7,h8⟩,F⟩,j⟩,x⟩
theorem anG {f:aC} (h:f.Ok) {p:Nat} (w:p<1000):(fR f p).Ok:=by
 obtain⟨a1,a2,a3,a4,a5,a6,a7,a8,u,j,l⟩:=h;refine⟨a1,a2,a3,a4,a5,?_,a7,a8,u,j,fun x e=>?_⟩
 ·show Fits ([_]:List fV);unfold Fits;simp
 ·have e:x∈([⟨[118,48],((p:Nat):Int)⟩]:List fV):=e;rw[aBF] at e;subst e;show dS ((p:Nat):Int);unfold dS;omega
theorem JU (l:List Nat) (mc a:Nat):∀ k,(dO l mc a k).1.length=k
 | 0=>rfl
 | k+1=>by show ((dO l mc a k).1++[_]).length=k+1;rw[azX,JU l mc a k]; rfl
theorem ajL (l:List Nat) (d v:Nat):0<(fT l d v).ayJ.length:=by
 have:∃ n,(fT l d v).ayJ.length=1+n:=⟨_,JU _ _ _ _⟩;omega
structure u9 (C:Ctx):Prop extends V4 C where
 awake:aG C 312 [] .nil (aM (.bool true))
 next:aoF C
 place:∀ (f:aC) (room:List Int),f.Ok→aG C 288 [.agg f.cells,ints room] .nil (vf f room)
 roomM:∀ (f:aC) (room:List Int),f.Ok→aG C 152 [.agg f.cells,ints room] .nil (mK 1 (cO (QE f room)))
 nest:∀ (f:aC) (room:List Int) (v:Nat),VF f→v<f.ayH.length→Fits (bU f v).ayG→aG C 315 [.agg f.cells,.agg (bU f v).cells,ints (jU f room),.int .i64 ((0:Nat):Int)] .nil (aM (.int .i64 ((jJ f room v f.ayI.length 0:Nat):Int)))
def aoR (n:Nat):Spec:=fun name _=>if name=315 then some ([],fun _=>aM (.int .i64 (n:Nat))) else some ([],fun _=>aM (.bool true))
theorem aaI {C:Ctx} (B:u9 C) (l:List Nat) (hb:∀ x∈l,x<256) (hl:l.length≤9223372036854775807) :
  DI.wp C (aS fm.res (aM (.bool true))) (PF.args [.sl 1 (jW l)]) .nil:=by
 obtain⟨R,α⟩:=abP l (d:=12) (v:=0) (by decide) (by decide);have X:=VF.of R;have I:=ajL l 12 0;have ν:=X.small.ayJ;have a1:=W0 (l.take 400) 12 0 (aAH _);have k0:∀ v,Tp (l.take 400) v→∀ o,aG C 0 [.ptr o 2 0 0,.int .i64 (12:Nat),.int .i64 (0:Nat)] (PH.nil.set o (aX v 0)) (fun r H=>r=.agg (fT l 12 0).cells∧H=PH.nil.set o (aX v (faT l 12 0))):=fun v T o=>B.tfleet (l.take 400) v T o 12 0 0 (by decide) (by decide) (aAH _);have a1:faT l 12 0≤(l.take 400).length:=a1;generalize faT l 12 0=w at *
 generalize fT l 12 0=f0 at *
 have k1:∀ v,Tp (l.take 400) v→∀ o,aG C 4 [.ptr o 2 0 0,.int .i64 (f0.ayJ.length:Nat)] (PH.nil.set o (aX v w)) (fun r H=>r=.int .i64 ((aD (l.take 400) f0.ayJ.length w).1:Nat)∧H=PH.nil.set o (aX v (aD (l.take 400) f0.ayJ.length w).2)):=fun v T o=>B.next (l.take 400) v T o f0.ayJ.length w Om a1;have hlt:=cD (l.take 400) I w;have a2:=bE (l.take 400) f0.ayJ.length a1;generalize κ:aD (l.take 400) f0.ayJ.length w=j at *
 have hv:=U9 R hlt;have Z:=anG α (p:=j.1) Om;have hV:=VF.of hv;have hd:=hV.small.ayF;have W:(fR f0 j.1).ayH.length=1:=rfl;have e:(fR f0 j.1).cells=[.int .i64 f0.azL,.sl 4 (f0.ayN.map cW.cells),.sl 4 (f0.ayG.map dT.cells),.sl 7 (f0.ayI.map cS.cells),.sl 3 (f0.ayF.map dL.cells),.sl 17 (f0.ayJ.map cX.cells),.sl 2 [[.str [118,48],.int .i64 (j.1:Nat)]]]:=rfl;obtain⟨hp,he⟩:=mB hV (v:=0) Om;have γ:tI (fR f0 j.1) 0=j.1:=by unfold tI;show ((([⟨[118,48],(j.1:Int)⟩]:List fV).map fV.ayS).getD 0 0).toNat=j.1;exact aDD _
 have E:=(Z.ayS _ (azZ hp)).ayG;rw[he] at E;obtain⟨b1,b2,b3,b4⟩:=lD hV (v:=0) Om;have O:=hV.ayS _ (azZ hp);rw[he] at O;have U:IntKind.i64.wrap ((bU (fR f0 j.1) 0).k+(bU (fR f0 j.1) 0).m)=((eY (fR f0 j.1) 0:Nat):Int):=by rw[b3]; exact wrap_i64 Om Om
 have k2:=fun v T o=>B.QG (l.take 400) v T o j.2 (fR f0 j.1) Om a2;generalize qY (l.take 400) (fR f0 j.1) j.2=J at *
 have k3:=B.place (fR f0 j.1) J.1 Z;have k4:=(B.roomM (fR f0 j.1) J.1 Z).freeze;rw[QE,if_pos hv] at k4;have k5:=B.nest (fR f0 j.1) J.1 0 hV Om E;have F:=Wd hV J.1 W;have ζ:((jU (fR f0 j.1) J.1).length:Int)=((fR f0 j.1).ayF.length:Nat):=by rw[rX]
 have y:=vE hp;rw[he] at y;generalize β:jJ (fR f0 j.1) J.1 0 (fR f0 j.1).ayI.length 0=nest at *
 simp only[go_sem,DI,sr,ss,fm];refine aL.nil.asW (B.new l hb hl) Sq fun o v H1 T V=>?_;have V:aL H1 [(o,aX v 0)] []:=V;simp only[go_sem,su];refine V.agN 0 rfl (k0 v T o) (by simp only[go_sem]; rfl) fun H2 h2=>?_;simp only[go_sem];refine h2.tZ fun q H3 h3=>?_;have e3:=h3.at 1 rfl;have h4:=h3.set 1 rfl (.rows 7 [f0.cells]);simp only[go_sem,e3];generalize H3.set q (.rows 7 [f0.cells])=H4 at *
 have e4:=h4.at 1 rfl;simp only[go_sem,sv,e4,azT];refine h4.agN 0 rfl (k1 v T o) Sq fun H5 h5=>?_;have e5:=h5.at 1 rfl;have h6:=h5.set 1 rfl (.rows 7 [(fR f0 j.1).cells]);simp only[go_sem,e5,aAD,aAP,or_false,forall_eq];show wpOps C OQ _ _ (H5.set q (.rows 7 [(fR f0 j.1).cells]));generalize H5.set q (.rows 7 [(fR f0 j.1).cells])=H6 at *
 have e6:=h6.at 1 rfl;have δ:(f0.ayJ.map cX.cells)[j.1]?=some (bU (fR f0 j.1) 0).cells:=by rw[γ] at y; exact y
 have ι:(fR f0 j.1).ayF.length=f0.ayF.length:=rfl;generalize θ:(fR f0 j.1).cells=cl at *
 generalize μ:bU (fR f0 j.1) 0=p at *
 have η:∀ K:Prop,(∃ x,some (PV.agg cl)=some x∧K)→K:=fun K ⟨_,_,h⟩=>h;simp only[go_sem,OQ,e6,e];refine h6.agN 0 rfl (k2 v T o) (by simp only[go_sem,e]) fun H7 h7=>?_;have S:=h7.at 1 rfl;simp only[go_sem,sw,S,e];refine aB k4 (by simp only[go_sem,e]) ?_;have Y:((jU (fR f0 j.1) J.1).length:Int)=(f0.ayF.length:Nat):=ζ;simp only[go_sem,sx,S,e,azT,iU,cM Y];have ε:(j.1:Int)<(f0.ayJ.length:Nat):=Om;refine bO .nil dE a_ ?_;simp only[go_sem,sy,S,e,azT,ε,δ];refine h7.tZ fun q2 H8 h8=>?_;have e8:=h8.at 2 rfl;have h9:=h8.set 2 rfl (zK p);simp only[go_sem,e8];refine⟨a_,?_⟩;generalize H8.set q2 (.rows 17 [p.cells])=H9 at *
 have e9:=h9.at 1 rfl;have M:=h9.at 2 rfl;simp only[go_sem,s7,e9,e];refine eD k3 (by simp only[go_sem,e]) a_ ?_;rintro r H' ⟨ws,c,I,rfl,rfl⟩ -;rw[PH.mA];simp only[go_sem];refine bO _ (aoR nest) b_ ?_;simp only[go_sem,fp,e9,M,e];refine dJ (by rfl) k5 (by simp only[go_sem,e]; rfl) b_ ?_;have N:(c==0)=decide (((nest:Nat):Int)≥((eY (fR f0 j.1) 0:Nat):Int)):=by
  rcases I with ⟨a,-⟩ | ⟨-,⟨u,A,-⟩,rfl⟩ | ⟨-,hnf,-,rfl⟩
  ·rw[hv] at a; cases a
  ·rw[decide_eq_true (by have:=F.1 ⟨u,A⟩; omega)]; rfl
  ·rw[decide_eq_false (fun h=>hnf (F.2 Om))]; rfl
 simp only[go_sem,M,U,N,beq_self_eq_true];refine dJ rfl B.awake Ev b_ ?_;simp only[go_sem];exact pJ Sq rfl
theorem Py {f:aC} (hV:VF f) (room:List Int) (v:Nat):∀ (m i:Nat),f.ayI.length-i≤m→i<f.ayI.length→jJ f room v m i≤cC (inD f i) f.ayF.length
 | 0,i,h,hi=>by omega
 | m+1,i,h,hi=>by
  have l:=v8 hV (fun _=>true) hi;have e:∀ j,cC (fun d=>true&&inD f j d) f.ayF.length=cC (inD f j) f.ayF.length:=fun j=>cL fun d _=>by dsimp only; rw[aAN]
  rw[e] at l;have w:∀ s x:Nat,zG s x≤x:=fun s x=>by unfold zG; split<;>omega
  rw[jJ,l];refine aCF (w _ _) (Nat.add_le_add (nP fun k A=>?_) (DQ fun d y u=>?_))
  ·by_cases c:dN f (k+1)=i
   ·have B:=(hV.dom (k+1) Om Om).2.1;rw[if_pos c,if_pos c,e];exact Py hV room v m (k+1) Om Om
   ·rw[if_neg c,if_neg c]; exact azY _
  ·rw[aAF] at u;rw[aAN];exact u.1
theorem gh (p:Nat→Bool) (n:Nat):cC p n≤n:=by
 induction n with
 | zero=>exact azY _
 | succ n l =>
  have e:cC p (n+1)=cC p n+one (p n):=rfl;have j:one (p n)≤1:=by cases p n<;>decide
  omega
def wK (f:aC) (room:List Int) (v m i k:Nat):Nat:=bR (fun k=>if dN f (k+1)=i then jJ f room v m (k+1) else 0) k
def CK (f:aC) (room:List Int) (v i k:Nat):Nat:=cC (fun d=>decide (dX f d=i)&&(decide (0<iW f room d)&&okD f v d)) k
theorem Xm {f:aC} (hV:VF f) (room:List Int) (v m i:Nat) (hi:i<f.ayI.length):wK f room v m i i=0:=by
 unfold wK;rw[cL (h:=fun _=>0) fun k e=>if_neg (by have:=(hV.dom (k+1) Om Om).2.1; omega),kE]
theorem ma {f:aC} (hV:VF f) (room:List Int) (v m i k:Nat) (h:f.ayI.length-i≤m+1) (w:k≤f.ayI.length-1):wK f room v m i k≤k*24:=by
 induction k with
 | zero=>exact aAH _
 | succ k e =>
  have e:=e Om;have j:wK f room v m i (k+1)=wK f room v m i k+(if dN f (k+1)=i then jJ f room v m (k+1) else 0):=rfl;rw[j,aCC];split
  ·rename_i c;have x:=(hV.dom (k+1) Om Om).2.1;have l:=Py hV room v m (k+1) Om Om;have u:=gh (inD f (k+1)) f.ayF.length;have:=hV.small.ayF;omega
  ·omega
theorem aaN {C:Ctx} (hA:∀ (f:aC) (p:cX) (d:Nat),VF f→Fits p.ayG→d<f.ayF.length→aG C 77 [.agg p.cells,.agg f.cells,.int .i64 d] .nil (aM (.bool (p.ayG.contains ((mdl f d:Nat):Int)))))
  (f:aC) (hV:VF f) (room:List Int) (v:Nat) (hv:v<f.ayH.length) (N:Fits (bU f v).ayG) (m i:Nat) (h:f.ayI.length-i≤m+1) (hi:i<f.ayI.length)
  (ih:∀ j:Nat,f.ayI.length-j≤m→j<f.ayI.length→aG C 315 [.agg f.cells,.agg (bU f v).cells,ints (jU f room),.int .i64 (j:Nat)] .nil (aM (.int .i64 ((jJ f room v m j:Nat):Int)))) :
  DK.wp C (aS Jh.res (aM (.int .i64 ((jJ f room v (m+1) i:Nat):Int)))) (PF.args [.agg f.cells,.agg (bU f v).cells,ints (jU f room),.int .i64 (i:Nat)]) .nil:=by
 have ε:=hV.small.ayI;have δ:=hV.small.ayF;have ι:=rX f room;generalize Z:bU f v=p at *
 simp only[go_sem,DK,tf,Jh,tg,th,wZz i];refine wp_loop (α:=Nat) (fun k=>((((((PF.nil.set 2 (ints (jU f room))).set 3 (.int .i64 (i:Nat))).set 4 (.cZ f.cells)).set 5 (.cZ p.cells)).set 9 (.int .i64 ((wK f room v m i k:Nat):Int))).set 10 (.int .i64 ((k+1:Nat):Int)))) (fun _=>.nil) (fun k=>k≤f.ayI.length-1) (fun k=>f.ayI.length-k) i Om (by (repeat' (first|exact c_|refine d_ ?_ ?_))<;>first|(simp only[go_sem,Xm hV room v m i hi,Int.natCast_zero]<;>rfl)|rfl) a_ ?_;intro k hk;simp only[go_sem,te,ti,azT];by_cases hlt:k+1<f.ayI.length
 ·have A:((k+1:Nat):Int)<(f.ayI.length:Nat):=Om;obtain⟨p1,p2,p3,p4,p5⟩:=hV.dom (k+1) Om hlt;have K:=dP (Om:k+1<9223372036854775807);have F:wK f room v m i (k+1)=wK f room v m i k+(if dN f (k+1)=i then jJ f room v m (k+1) else 0):=rfl;have hb:=ma hV room v m i (k+1) h Om;by_cases c:dN f (k+1)=i
  ·have V:par f (k+1)=(i:Int):=by unfold dN at c; omega
   rw[if_pos c] at F;have e:IntKind.i64.wrap (((wK f room v m i k:Nat):Int)+((jJ f room v m (k+1):Nat):Int))=((wK f room v m i (k+1):Nat):Int):=by rw[F,wrap_i64 Om Om]; omega
   simp only[go_sem,A,OS,wT hlt,Fy hlt,bM V,tj];refine aB (ih (k+1) Om hlt) Ev ?_;simp only[go_sem,e,OT,K];exact aJ (k+1) Om Om Lq a_
  ·have V:¬ par f (k+1)=(i:Int):=by unfold dN at c; omega
   rw[if_neg c,aAZ] at F;simp only[go_sem,A,OS,wT hlt,Fy hlt,bB V,OT,K];exact aJ (k+1) Om Om (by (repeat' (first|exact c_|refine d_ ?_ ?_))<;>first|(simp only[go_sem,F]<;>rfl)|rfl) a_
 have A:¬ ((k+1:Nat):Int)<(f.ayI.length:Nat):=Om;have W:k=f.ayI.length-1:=Om;have θ:=ma hV room v m i k h hk;simp only[go_sem,A,tk];have ζ:wK f room v m i k≤960:=by have:k*24≤40*24:=aAV _ Om;omega
 generalize O:wK f room v m i k=y at *
 refine wp_loop (α:=Nat) (fun d=>((((((PF.nil.set 2 (ints (jU f room))).set 3 (.int .i64 (i:Nat))).set 4 (.cZ f.cells)).set 5 (.cZ p.cells)).set 9 (.int .i64 ((y+CK f room v i d:Nat):Int))).set 11 (.int .i64 (d:Nat)))) (fun _=>.nil) (fun d=>d≤f.ayF.length) (fun d=>f.ayF.length-d) 0 (aAH _) (by (repeat' (first|exact c_|refine d_ ?_ ?_))<;>first|(simp only[go_sem,CK,cC,bR,aAZ]<;>rfl)|rfl) a_ ?_;intro d hd;simp only[go_sem,ft,tp,azT];by_cases l:d<f.ayF.length
 ·have w:(d:Int)<(f.ayF.length:Nat):=Om;have K:=wZz d;have u:CK f room v i (d+1)=CK f room v i d+one (decide (dX f d=i)&&(decide (0<iW f room d)&&okD f v d)):=rfl;have B:=gh (fun d=>decide (dX f d=i)&&(decide (0<iW f room d)&&okD f v d)) (d+1);have B:CK f room v i (d+1)≤d+1:=B;have R:((jU f room).map fun x=>[PV.int .i64 x])[d]?=some [.int .i64 (mS f room d)]:=by rw[aAR,aAA Om,WX f room Om]; rfl
  have Y:okD f v d=p.ayG.contains ((mdl f d:Nat):Int):=by unfold okD Wc; rw[Z]; rfl
  have e:IntKind.i64.wrap (((y+CK f room v i d:Nat):Int)+1)=((y+(CK f room v i d+1):Nat):Int):=by rw[wrap_i64 Om Om]; omega
  by_cases c1:dX f d=i
  ·have E:((dX f d:Nat):Int)=(i:Int):=Om;by_cases U:0<iW f room d
   ·have J:mS f room d>0:=by unfold iW at U; omega
    simp only[go_sem,w,xW,pH l,hV.PN l,bM E,R,J];refine aB (hA f p d hV N l) Ev ?_;rw[decide_eq_true c1,decide_eq_true U,Y,aAN,aAN] at u;cases ho:p.ayG.contains ((mdl f d:Nat):Int) with
    | true =>rw[ho,oF] at u;simp only[go_sem,fv,e,tU,K];exact aJ (d+1) l Om (by (repeat' (first|exact c_|refine d_ ?_ ?_))<;>first|(simp only[go_sem,u]<;>rfl)|rfl) a_
    | false =>rw[ho,lC,aAZ] at u;simp only[go_sem,tU,K];exact aJ (d+1) l Om (by (repeat' (first|exact c_|refine d_ ?_ ?_))<;>first|(simp only[go_sem,u]<;>rfl)|rfl) a_
   ·have J:¬ mS f room d>0:=by unfold iW at U; omega
    rw[decide_eq_false U,aAI,aBH,lC,aAZ] at u;simp only[go_sem,w,xW,pH l,hV.PN l,bM E,R,J,tU,K];exact aJ (d+1) l Om (by (repeat' (first|exact c_|refine d_ ?_ ?_))<;>first|(simp only[go_sem,u]<;>rfl)|rfl) a_
  ·have E:¬ ((dX f d:Nat):Int)=(i:Int):=Om;rw[decide_eq_false c1,aAI,lC,aAZ] at u;simp only[go_sem,w,xW,pH l,hV.PN l,bB E,tU,K];exact aJ (d+1) l Om (by (repeat' (first|exact c_|refine d_ ?_ ?_))<;>first|(simp only[go_sem,u]<;>rfl)|rfl) a_
 ·have w:¬ (d:Int)<(f.ayF.length:Nat):=Om;have:d=f.ayF.length:=Om;subst this;have X:=hV.vW hi;have h5:lvl f i<((5:Nat):Int):=Om;have η:(i:Int)<(f.ayI.length:Nat):=Om;simp only[go_sem,w,fw,wT hi,Xy hi,X.1,h5,Nat.mul_one];rw[Zp p _ (Om:(lvl f i).toNat<5)];have hN:jJ f room v (m+1) i=zG (p.spread (lvl f i).toNat).toNat (y+CK f room v i f.ayF.length):=by rw[jJ,Z,← O,W]; rfl
  rw[hN];have B:=gh (fun d=>decide (dX f d=i)&&(decide (0<iW f room d)&&okD f v d)) f.ayF.length;have B:CK f room v i f.ayF.length≤f.ayF.length:=B;generalize CK f room v i f.ayF.length=own at *
  have γ:0≤p.spread (lvl f i).toNat:=by obtain⟨β,he⟩:=mB hV hv;have I:=hV.ayS _ (azZ β);rw[he,Z] at I;exact (I.2.2.2.2.2.2.1 _).1
  generalize p.spread (lvl f i).toNat=M at *
  by_cases cs:M>0
  ·have S:M.toNat≠0:=Om;by_cases cm:M<((y+own:Nat):Int)
   ·simp only[go_sem,xX,cs,JK,xY,cm];refine bS (.inr rfl) Ev ?_;unfold zG;rw[if_neg S,show min (y+own) M.toNat=M.toNat by omega,Int.toNat_of_nonneg γ]; rfl
   ·simp only[go_sem,xX,cs,JK,xY,cm];refine bS (.inr rfl) Ev ?_;unfold zG;rw[if_neg S,show min (y+own) M.toNat=y+own by omega]; rfl
  ·simp only[go_sem,xX,cs,xY];refine bS (.inr rfl) Ev ?_;unfold zG;rw[if_pos Om];rfl
structure WO where
 z:Nat
 n:Nat
 c:Nat
def rN (f:aC) (S:Nat→Bool) (e:WO) (k:Nat):PF:=(((((((PF.nil.set 2 (.cZ f.cells)).set 4 (.ptr e.z 3 0 0)).set 10 (.sl 1 (bD ((azU (bF f f.ayF.length)).map S)))).set 12 (.ptr e.n 2 0 0)).set 13 (.ptr e.c 3 0 0)).set 48 (.int .i64 (f.ayH.length:Nat))).set 49 (.int .i64 (k:Nat)))
def j7 (f:aC) (S:Nat→Bool) (e:WO) (k:Nat) (w:PV) (i:Nat):PF:=(((rN f S e k).set 14 (.int .i64 (k:Nat))).set 15 w).set 16 (.int .i64 ((i+1:Nat):Int))
def OO (f:aC) (S:Nat→Bool) (e:WO) (k:Nat):PF:=((((((PF.nil.set 4 (.ptr e.z 3 0 0)).set 10 (.sl 1 (bD ((azU (bF f f.ayF.length)).map S)))).set 12 (.ptr e.n 2 0 0)).set 13 (.ptr e.c 3 0 0)).set 93 (.int .i64 (f.ayF.length:Nat))).set 94 (.int .i64 (k:Nat)))
theorem acB {C:Ctx} (U:lL C) {K:cN} [Up K] (f:aC) (hV:VF f) (S:Nat→Bool) (e:WO) (k:Nat) (hk:k<f.ayH.length) (y L1:LI) (B:List BX) (w:PV) (x:∃ q n,w=.osl q 1 0 n) {F:PF} {H:PH}
  (Z:B[0]?=some (e.n,fA f)) (l:aL H B [y,L1,(w,1,[])]) (hF:(j7 f S e k w 0).le F)
  (hK:∀ u H',(∃ q n,u=.osl q 1 0 n)→aL H' B [y,L1,(u,1,bD (sR f S k (f.ayI.length-1)))]→K (.exit 2) ((rN f S e k).set 15 u) H'):aE.wp C (.loop TT) K F H:=by
 have E:=hV.small;have R:=hV.root;have β:=E.ayI;have γ:=E.ayH;refine wp_loop (α:=Nat × PV × PH) (fun s=>j7 f S e k s.2.1 s.1) (fun s=>s.2.2) (fun s=>s.1+1≤f.ayI.length∧(∃ q n,s.2.1=.osl q 1 0 n)∧aL s.2.2 B [y,L1,(s.2.1,1,bD (sR f S k s.1))]) (fun s=>f.ayI.length-s.1) (0,w,H) ⟨by have:=R.1; omega,x,l⟩ hF b_ ?_;rintro⟨i,w,N⟩ ⟨hi,x,l⟩;simp only at hi x l;simp only[go_sem,TT,yl,j7,rN,azT];by_cases hlt:i+1<f.ayI.length
 ·have j:((i+1:Nat):Int)<(f.ayI.length:Nat):=Om;have A:=dP (Om:i+1<9223372036854775807);have Y:N e.n=some (fA f):=l.at 0 Z;obtain⟨d1,V⟩:=hC hV hk hlt;have W:cQ f k (i+1)<bF f f.ayF.length:=Nat.lt_of_lt_of_le V (by unfold bF; omega);have X:((cQ f k (i+1):Nat):Int)<((bF f f.ayF.length:Nat):Int):=Om;have I:=XC (S:=S) W;have M:(sR f S k i).length=i:=by simp[sR]
  simp only[go_sem,j,ym,Y];refine aB (U.dom f E R.1 k (i+1) Om Om) Sq ?_;simp only[go_sem,azT,aCW,X,I];refine l.append 2 (src:=[[.bool (S (cQ f k (i+1)))]]) rfl Sq (by unfold roomFor; rw[iY,M]; simp only[aAC,maxLen]; omega) fun u H' O J=>?_;obtain⟨q,hq⟩:=J (by simp);rw[ER,show sR f S k i++[S (cQ f k (i+1))]=sR f S k (i+1) from (pY _ _).symm] at O;simp only[go_sem,yn,A];exact aJ (i+1,u,H') ⟨hlt,⟨q,_,hq⟩,O⟩ (by simp only; omega) (by (repeat' (first|exact c_|refine d_ ?_ ?_))<;>first|(simp only[go_sem,j7,rN]<;>rfl)|rfl) b_
 ·have j:¬ ((i+1:Nat):Int)<(f.ayI.length:Nat):=Om;have:i=f.ayI.length-1:=Om;subst this;simp only[go_sem,j];exact Up.up (by (repeat' (first|exact c_|refine d_ ?_ ?_))<;>first|(simp only[go_sem,j7,rN]<;>rfl)|rfl) (hK w N x l)
theorem Xd {C:Ctx} (Lb:lL C) {K:cN} [Up K] (f:aC) (hV:VF f) (S:Nat→Bool) (e:WO) {F:PF} {H:PH}
  (I:aL H [(e.n,fA f),(e.c,gJ .aA .aA .aA),(e.z,gJ .aA .aA .aA)] [(.aA,1,[]),(.aA,1,[])]) (hF:(rN f S e 0).le F)
  (hK:∀ M A j H',oH j (OX f S f.ayH.length)→aL H' [(e.n,fA f),(e.c,gJ M A .aA),(e.z,gJ .aA .aA .aA)] [(M,1,bD (BF f S f.ayH.length)),(A,1,j)]→K (.exit 0) (rN f S e f.ayH.length) H'):aE.wp C (.loop TU) K F H:=by
 have hs:=hV.small;have hr:=hV.root;have ξ:=hs.ayI;have ο:=hs.ayH;have Z:(f.ayI.length:Int)*((1:Nat):Int)≤140737488355328:=Om;have β:(f.ayI.length:Int)≤9223372036854775807:=Om;have γ:(0:Int)≤(f.ayI.length:Int):=Om;refine wp_loop (α:=Nat × PV × PV × List (List PV) × PH) (fun s=>rN f S e s.1) (fun s=>s.2.2.2.2) (fun s=>s.1≤f.ayH.length∧oH s.2.2.2.1 (OX f S s.1)∧aL s.2.2.2.2 [(e.n,fA f),(e.c,gJ s.2.1 s.2.2.1 .aA),(e.z,gJ .aA .aA .aA)] [(s.2.1,1,bD (BF f S s.1)),(s.2.2.1,1,s.2.2.2.1)]) (fun s=>f.ayH.length-s.1) (0,.aA,.aA,[],H) ⟨aAH _,.nil,I⟩ hF b_ ?_;rintro⟨k,M,A,j,U⟩ ⟨hk,u,I⟩;simp only at hk u I;simp only[go_sem,TU,yf,rN];by_cases hlt:k<f.ayH.length
 ·have l:(k:Int)<(f.ayH.length:Nat):=Om;have ε:=wZz k;have d2:=(hC hV hlt hr.1).2;have d3:2+k<bF f f.ayF.length:=by rw[Wl] at d2; exact Nat.lt_of_lt_of_le d2 (by unfold bF; omega)
  have d4:((2+k:Nat):Int)<((bF f f.ayF.length:Nat):Int):=Om;have η:=XC (S:=S) d3;have θ:(BF f S k).length=k:=by simp[BF]
  have δ:j.length=k:=by rw[u.1]; simp[OX]
  have e6:U e.n=some (fA f):=I.at 0 rfl;have ec:U e.c=some (gJ M A .aA):=I.at 1 rfl;simp only[go_sem,l,yg];refine bO (PH.nil.set e.c (gJ M A .aA)) (yR f [] (fun _ _=>True)) (e_ a_ ec) ?_;simp only[go_sem,yh,e6];refine wb Lb (v:=k) Om Sq (e_ a_ ec) ?_;simp only[go_sem,azT,aCW,d4,η];refine I.append 0 (src:=[[.bool (S (2+k))]]) rfl Sq (by unfold roomFor; rw[iY,θ]; simp only[aAC,maxLen]; omega) fun ρ H1 R J=>?_;obtain⟨y,N⟩:=J (by simp);rw[ER,show BF f S k++[S (2+k)]=BF f S (k+1) from (pY _ _).symm] at R;refine⟨e_ a_ (R.at 1 rfl),?_⟩;refine bO .nil dE a_ ?_;have V:=R.at 1 rfl;generalize μ:((bD (BF f S k)++[[PV.bool (S (2+k))]]).length)=w at N;subst N;simp only[go_sem,yi,V];refine⟨a_,?_⟩;have h2:=R.set 1 rfl (gJ (.osl y 1 0 w) A .aA);generalize H1.set e.c (.rows 3 [[.osl y 1 0 w,A,.aA]])=H2 at *
  simp only[go_sem,yj,azT,Z,β,γ,Int.le_refl,aDD];refine aP fun qr ζ=>?_;have h3:=h2.i9 (s:=1) (rows:=[]) ζ;simp only[go_sem,yk];refine acB Lb f hV S e k hlt _ _ _ (.osl qr 1 0 0) ⟨_,_,rfl⟩ rfl h3 (by (repeat' (first|exact c_|refine d_ ?_ ?_))<;>first|(simp only[go_sem,j7,rN]<;>rfl)|rfl) fun w' H4 ι Y=>?_;obtain⟨q,n,rfl⟩:=ι;have W:=Y.at 1 rfl;have hn:n=(bD (sR f S k (f.ayI.length-1))).length:=by obtain⟨rs,-,e2,-⟩:=(Y.own 2 rfl).id rfl;injection e2
  simp only[go_sem,yo,rN,W];refine Y.append 1 (src:=[[.osl q 1 0 n]]) rfl Sq (by unfold roomFor; rw[δ]; simp only[aAC,maxLen]; omega) fun κ H5 h5 J=>?_;obtain⟨E,O⟩:=J (by simp);have X:=h5.at 1 rfl;generalize ν:(j++[[PV.osl q 1 0 n]]).length=B at O;subst O;have h6:=h5.set 1 rfl (gJ (.osl y 1 0 w) (.osl E 1 0 B) .aA);simp only[go_sem,X];generalize H5.set e.c (.rows 3 [[.osl y 1 0 w,.osl E 1 0 B,.aA]])=H6 at *
  refine⟨_,if_pos (fun x hx=>by rw[aBF] at hx; subst hx; rfl),?_⟩;subst hn;obtain⟨rs,z1,z2,z3,z4,z5⟩:=h6.frz 2 rfl;have y0:=z4 0 _ (by decide) rfl;have y1:=z4 1 _ (by decide) rfl;simp only at y0 y1;simp only[go_sem,yq,ε];refine LQ (k+1,PV.osl y 1 0 w,PV.osl E 1 0 B,j++[[kF (sR f S k (f.ayI.length-1))]],H6.frz q 1 rs) z1 ⟨hlt,?_,?_⟩ (by simp only; omega) (by (repeat' (first|exact c_|refine d_ ?_ ?_))<;>first|(simp only[go_sem,rN]<;>rfl)|rfl) b_
  ·simp only;rw[show OX f S (k+1)=OX f S k++[sR f S k (f.ayI.length-1)] from pY _ _];exact u.snoc (.inl rfl)
  ·simp only;have eB:([(e.n,fA f),(e.c,gJ (.osl y 1 0 w) (.osl E 1 0 B) .aA),(e.z,gJ .aA .aA .aA)]:List BX).map (fun b=>(b.1,b.2.frz q 1 rs))=[(e.n,fA f),(e.c,gJ (.osl y 1 0 w) (.osl E 1 0 B) .aA),(e.z,gJ .aA .aA .aA)]:=by show [(e.n,fA f),(e.c,bG.rows 3 [[PV.cA q 1 rs (.osl y 1 0 w),PV.cA q 1 rs (.osl E 1 0 B),.aA]]),(e.z,gJ .aA .aA .aA)]=_;rw[y0,y1]
   have e5:(j++[[PV.osl q 1 0 (bD (sR f S k (f.ayI.length-1))).length]]).map (fun r=>r.map (PV.cA q 1 rs))=j++[[kF (sR f S k (f.ayI.length-1))]]:=by rw[aBL,u.flat];show j++[[PV.cA q 1 rs (.osl q 1 0 (bD (sR f S k (f.ayI.length-1))).length)]]=_;rw[z2]
   have z6:aL (H6.frz q 1 rs) ([(e.n,fA f),(e.c,gJ (.osl y 1 0 w) (.osl E 1 0 B) .aA),(e.z,gJ .aA .aA .aA)].map (fun b=>(b.1,b.2.frz q 1 rs))) [(.osl y 1 0 w,1,(bD (BF f S (k+1))).map fun r=>r.map (PV.cA q 1 rs)),(.osl E 1 0 B,1,(j++[[PV.osl q 1 0 (bD (sR f S k (f.ayI.length-1))).length]]).map fun r=>r.map (PV.cA q 1 rs))]:=z5;rw[eB,e5,EQ] at z6;exact z6
 ·have l:¬ (k:Int)<(f.ayH.length:Nat):=Om;have:k=f.ayH.length:=Om;subst this;simp only[go_sem,l];exact Up.up (by (repeat' (first|exact c_|refine d_ ?_ ?_))<;>first|(simp only[go_sem,rN]<;>rfl)|rfl) (hK M A j U u I)
theorem Xc {C:Ctx} (Y:lL C) {K:cN} [Up K] (f:aC) (hV:VF f) (S:Nat→Bool) (e:WO) (E:LI) (l x:PV) (J:List (List PV)) {F:PF} {H:PH}
  (u:aL H [(e.n,fA f),(e.c,gJ x l .aA),(e.z,gJ .aA .aA .aA)] [E,(l,1,J),(.aA,1,[])]) (hF:(OO f S e 0).le F)
  (hK:∀ w H',aL H' [(e.n,fA f),(e.c,gJ x l w),(e.z,gJ .aA .aA .aA)] [E,(l,1,J),(w,1,bD (KK f S f.ayF.length))]→K (.exit 4) (OO f S e f.ayF.length) H'):aE.wp C (.loop TV) K F H:=by
 have V:=hV.small;have γ:=V.ayF;refine wp_loop (α:=Nat × PV × PH) (fun s=>OO f S e s.1) (fun s=>s.2.2) (fun s=>s.1≤f.ayF.length∧aL s.2.2 [(e.n,fA f),(e.c,gJ x l s.2.1),(e.z,gJ .aA .aA .aA)] [E,(l,1,J),(s.2.1,1,bD (KK f S s.1))]) (fun s=>f.ayF.length-s.1) (0,.aA,H) ⟨aAH _,u⟩ hF b_ ?_;rintro⟨k,w,B⟩ ⟨hk,u⟩;simp only at hk u;simp only[go_sem,TV,yu,OO];by_cases hlt:k<f.ayF.length
 ·have j:(k:Int)<(f.ayF.length:Nat):=Om;have M:=wZz k;have Z:bF f k<bF f f.ayF.length:=by unfold bF; omega
  have d4:((bF f k:Nat):Int)<((bF f f.ayF.length:Nat):Int):=Om;have N:=XC (S:=S) Z;have R:(KK f S k).length=k:=by simp[KK]
  have e6:B e.n=some (fA f):=u.at 0 rfl;have U:B e.c=some (gJ x l w):=u.at 1 rfl;simp only[go_sem,j,yv];refine bO (PH.nil.set e.c (gJ x l w)) (yR f [] (fun _ _=>True)) (e_ a_ U) ?_;simp only[go_sem,yw,e6];refine yU Y V (i:=k) Om Sq (e_ a_ U) ?_;simp only[go_sem,azT,aCW,d4,N];refine u.append 2 (src:=[[.bool (S (bF f k))]]) rfl Sq (by unfold roomFor; rw[iY,R]; simp only[aAC,maxLen]; omega) fun δ H1 A O=>?_;obtain⟨X,y⟩:=O (by simp);rw[ER,show KK f S k++[S (bF f k)]=KK f S (k+1) from (pY _ _).symm] at A;refine⟨e_ a_ (A.at 1 rfl),?_⟩;refine bO .nil dE a_ ?_;have I:=A.at 1 rfl;generalize β:((bD (KK f S k)++[[PV.bool (S (bF f k))]]).length)=W at y;subst y;simp only[go_sem,yx,I];refine⟨a_,?_⟩;have h2:=A.set 1 rfl (gJ x l (.osl X 1 0 W));simp only[go_sem,yy,M];exact aJ (k+1,.osl X 1 0 W,_) ⟨hlt,h2⟩ (by simp only; omega) (by (repeat' (first|exact c_|refine d_ ?_ ?_))<;>first|(simp only[go_sem,OO]<;>rfl)|rfl) b_
 ·have j:¬ (k:Int)<(f.ayF.length:Nat):=Om;have:k=f.ayF.length:=Om;subst this;simp only[go_sem,j];exact Up.up (by (repeat' (first|exact c_|refine d_ ?_ ?_))<;>first|(simp only[go_sem,OO]<;>rfl)|rfl) (hK w B u)
theorem akD {C:Ctx} (x:JW C) (f:aC) (hf:f.Ok) (room:List Int) :
  LC.wp C (aS acA.res (aaR f room)) (PF.args [.agg f.cells,ints room]) .nil:=by
 simp only[go_sem,LC,Mj,acA];refine aP fun z hz=>?_;have h0:aL (PH.nil.set z (gJ .aA .aA .aA)) [(z,gJ .aA .aA .aA)] []:=aL.nil.new hz (gJ .aA .aA .aA);generalize (PH.nil.set z (.rows 3 [[.aA,.aA,.aA]]))=H0 at *
 simp only[go_sem,Mk];refine aB (x.net f room hf) Sq ?_;simp only[go_sem,WB];refine h0.tZ fun q H1 Y=>?_;have q1:=Y.at 1 rfl;have y:=Y.set 1 rfl (oZ (CG f room));simp only[go_sem,q1];generalize H1.set q (.rows 4 [(CG f room).cells])=H2 at *
 have q2:=y.at 1 rfl;have z2:=y.at 0 rfl;have no:∀ (F:PF) (H:PH),aL H [(z,gJ .aA .aA .aA),(q,oZ (CG f room))] []→F 4=some (.ptr z 3 0 0)→F 5=some (.bool false)→aS [.cell 4 (some 3),.tmp 5] (cK (.tup [.agg (fM.cells wa),.bool false])) .ret F H:=by intro F H h f4 f5;have e0:=h.at 0 rfl;have h':aL H [] [(.aA,1,bD []),(.aA,1,[]),(.aA,1,bD [])]:=(((h.sub (List.nil_sublist _) (aCA.refl _)).mY 1).mY 1).mY 1;exact Gj (.inr rfl) (by simp only[go_sem,f4,f5,e0]) .nil h'
 cases w:dB f with
 | false =>simp only[go_sem,gw,PW w,Ml,z2];refine ahP (c:=wa) (b:=false) (.inl ⟨w,rfl,rfl⟩) ?_;exact no _ _ (y.set 0 rfl (gJ .aA .aA .aA)) Sq Sq
 | true =>
  have hV:=VF.of w;have hs:=hV.small;have hn:=MK hV room;have O:=q2;rw[PY w] at O;simp only[go_sem,gw,uI w,Mm,O];refine eD (x.solve _ hn) Sq a_ ?_;rintro r H' ⟨xs,S,M,u,A,B,rfl,rfl⟩ -;rw[PH.mA];have I:=dh hV M u A B;have α:=aqG hV M;simp only[go_sem,Mn];refine aB (x.demand f hV) Sq ?_;by_cases E:iH (eC f room) xs=((oV f:Nat):Int)
  ·simp only[go_sem,bM E,Mo,z2];refine ahP (c:=wa) (b:=false) (.inr (.inl ⟨w,I.1 Om,rfl,rfl⟩)) ?_;exact no _ _ (y.set 0 rfl (gJ .aA .aA .aA)) Sq Sq
  ·have J:¬ wF f room:=fun h=>I.2 h Om;simp only[go_sem,bB E,Mp,azT];refine y.tZ fun e H3 Z=>?_;have g3:=Z.at 2 rfl;have h4:=Z.set 2 rfl (fA f);simp only[go_sem,g3];generalize H3.set e (.rows 2 [[.int .i64 (f.ayH.length:Nat),.int .i64 (f.ayI.length:Nat)]])=H4 at *
   simp only[go_sem,Mq];refine h4.tZ fun j H5 h5=>?_;have h6:aL H5 [(e,fA f),(j,gJ .aA .aA .aA),(z,gJ .aA .aA .aA)] [(.aA,1,[]),(.aA,1,[])]:=by refine ((((h5.zZ 1).mY 1).mY 1).perm ?_ (aCM.refl _));exact List.perm_append_comm (l₁:=[(z,gJ .aA .aA .aA)]) (l₂:=[(e,fA f),(j,gJ .aA .aA .aA)])
   simp only[go_sem,Mr,azT];refine Xd x.tolL f hV S ⟨z,e,j⟩ h6 (by (repeat' (first|exact c_|refine d_ ?_ ?_))<;>first|(simp only[go_sem,rN]<;>rfl)|rfl) fun R U fs H6 N h7=>?_;simp only[go_sem,yr,rN,azT];refine Xc x.tolL f hV S ⟨z,e,j⟩ (R,1,bD (BF f S f.ayH.length)) U R fs (h7.mY 1) (by (repeat' (first|exact c_|refine d_ ?_ ?_))<;>first|(simp only[go_sem,OO]<;>rfl)|rfl) fun rv H7 h8=>?_;have ec:=h8.at 1 rfl;have ez:=h8.at 2 rfl;have K:=h8.set 2 rfl (gJ R U rv);simp only[go_sem,yz,OO,ec,ez];have l:=aaF hV M (S:=S) A B u J;rw[abF] at l;refine⟨_,if_pos ?_,?_⟩
   ·rcases K.own 0 rfl with ⟨_,V⟩ | ⟨q1,rs1,V,_⟩<;>rcases K.own 1 rfl with ⟨_,W⟩ | ⟨q2,rs2,W,_⟩<;>rcases K.own 2 rfl with ⟨_,X⟩ | ⟨O,rs3,X,_⟩<;>rw[V,W,X]<;>rfl
   refine ahP (b:=true) (.inr (.inr ⟨w,J,l,rfl⟩)) ?_;exact Gj (.inr rfl) Sq N (K.sub (List.nil_sublist _) (aCA.refl _))
theorem ajU {C : Ctx} (f : aC) (hV : VF f) : KR.wp C (aS abT.res (aM (.int .i64 ((oV f : Nat) : Int)))) (PF.args [.agg f.cells]) .nil := by
  have hs := hV.small.ayH;simp only[go_sem,KR,Ln,Lo,Lp,abT,azT];refine wp_loop (α := Nat) (fun k => (((((PF.nil.set 1 (.cZ f.cells)).set 3 (.int .i64 ((bR (eY f) k : Nat) : Int))).set 7 (.sl 2 (f.ayH.map fV.cells))).set 8 (.int .i64 (f.ayH.length : Nat))).set 9 (.int .i64 (k : Nat)))) (fun _ => .nil) (fun k => k ≤ f.ayH.length) (fun k => f.ayH.length - k) 0 (aAH _) (by (repeat' (first|exact c_|refine d_ ?_ ?_)) <;> first|(simp only[go_sem,bR] <;> rfl)|rfl) a_ ?_;intro k hk;simp only[go_sem,Lm,Lr];by_cases hlt : k < f.ayH.length
  · have ayM : (k : Int) < (f.ayH.length : Nat) := Om
    obtain ⟨b1, b2, b3, -⟩ := lD hV hlt;have b4 := aiP hV k hk;obtain ⟨hp, he⟩ := mB hV hlt;have hpol := hV.ayS _ (azZ hp);rw [he] at hpol;have e0 : IntKind.i64.wrap ((bU f k).k + (bU f k).m) = oW f k := wrap_i64 Om Om;have e : IntKind.i64.wrap (((bR (eY f) k : Nat) : Int) + oW f k) = ((bR (eY f) (k + 1) : Nat) : Int) := by rw [bR, ← b3, wrap_i64 Om Om]; omega
    simp only[go_sem,ayM,Ls,JE hlt];refine aP fun o ho => ?_;simp only[go_sem];refine bO .nil dE a_ ?_;simp only[go_sem,Lt,hV.Ga hlt,vE hp,he,e0,e,gr,wZz k]
    first
      | exact aJ (k + 1) hlt Om Lq a_
      | (refine ⟨a_, ?_⟩
         simp only[go_sem,gr,wZz k];exact aJ (k + 1) hlt Om Lq a_)
  · have ayM : ¬ (k : Int) < (f.ayH.length : Nat) := Om
    have : k = f.ayH.length := Om;subst this;simp only[go_sem,ayM,Lu];refine bS (.inr rfl) Ev ?_;rfl
structure cT (C:Ctx):Prop where
 r0:bQ C 0 C0
 r1:bQ C 1 T1
 r2:bQ C 2 aeF
 r4:bQ C 4 uu
 r5:bQ C 5 aeN
 r6:bQ C 6 T7
 r7:bQ C 7 ut
 r27:bQ C 27 Cf
 r28:bQ C 28 aeJ
 r29:bQ C 29 T4
 r31:bQ C 31 Vf
 r32:bQ C 32 agQ
 r33:bQ C 33 udiv
 r34:bQ C 34 agV
 r35:bQ C 35 Vm
 r38:bQ C 38 Vs
 r39:bQ C 39 jy
 r40:bQ C 40 Vk
 r41:bQ C 41 Ii
 r42:bQ C 42 Il
 r43:bQ C 43 Vp
 r44:bQ C 44 Is
 r45:bQ C 45 uup
 r47:bQ C 47 ahK
 r50:bQ C 50 u0
 r58:bQ C 58 j6
 r59:bQ C 59 Vz
 r77:bQ C 77 WZ
 r95:bQ C 95 acN
 r96:bQ C 96 acY
 r97:bQ C 97 y8
 r98:bQ C 98 S5
 r99:bQ C 99 S6
 r100:bQ C 100 S7
 r101:bQ C 101 gone
 r102:bQ C 102 Tb
 r103:bQ C 103 Ae
 r104:bQ C 104 gin
 r105:bQ C 105 acO
 r106:bQ C 106 acP
 r107:bQ C 107 Td
 r108:bQ C 108 Te
 r109:bQ C 109 As
 r110:bQ C 110 Th
 r111:bQ C 111 S9
 r112:bQ C 112 acS
 r113:bQ C 113 gl
 r114:bQ C 114 abS
 r115:bQ C 115 ul
 r116:bQ C 116 PD
 r117:bQ C 117 yb
 r118:bQ C 118 ye
 r119:bQ C 119 abQ
 r120:bQ C 120 uA
 r121:bQ C 121 yd
 r122:bQ C 122 S3
 r123:bQ C 123 um
 r124:bQ C 124 ZL
 r125:bQ C 125 ZO
 r126:bQ C 126 PL
 r127:bQ C 127 aeQ
 r128:bQ C 128 Ua
 r129:bQ C 129 aeU
 r130:bQ C 130 aeV
 r131:bQ C 131 aeZ
 r132:bQ C 132 Uo
 r133:bQ C 133 afD
 r134:bQ C 134 afG
 r135:bQ C 135 Ur
 r136:bQ C 136 i5
 r137:bQ C 137 Ez
 r138:bQ C 138 EA
 r139:bQ C 139 WI
 r140:bQ C 140 Fe
 r141:bQ C 141 Ff
 r142:bQ C 142 MR
 r143:bQ C 143 nup
 r152:bQ C 152 QG
 r156:bQ C 156 Ve
 r161:bQ C 161 Hh
 r282:bQ C 282 afK
 r283:bQ C 283 Ug
 r284:bQ C 284 aeW
 r285:bQ C 285 aeR
 r286:bQ C 286 abY
 r287:bQ C 287 abT
 r288:bQ C 288 x8
 r289:bQ C 289 acA
 r290:bQ C 290 abR
 r291:bQ C 291 T5
 r292:bQ C 292 D7
 r293:bQ C 293 adT
 r294:bQ C 294 uq
 r295:bQ C 295 uo
 r296:bQ C 296 Du
 r297:bQ C 297 adP
 r298:bQ C 298 D6
 r312:bQ C 312 Jf
 r315:bQ C 315 Jh
namespace Z
theorem pZ {C:Ctx} (c:cT C):qT C :=
 have len:∀ xs,Lim xs→xs.length≤35184372087808→aG C 138 [aI xs] .nil (aM (.int .i64 (nl (val xs):Nat))):=fun xs h l=>c.r138.go (Um xs h l) rfl
 {length:=len
  large:=fun xs h l=>c.r137.go (Yj xs (len xs h l)) rfl
  sized:=fun xs h l=>(c.r141.go (Yo xs h (len xs h l)) rfl).seen
  trim:=fun xs h l=>(c.r135.go (afH xs h l (len xs h l)) rfl).seen
  make:=fun v h=>c.r132.go (afB v h len) rfl
  cmp:=fun xs x e j u w=>c.r129.go (amA xs x e j u w (len xs e u) (len x j w)) rfl }
theorem alU {C:Ctx} (c:cT C):uh C :=
 {subtract:=fun A W Z v f o hW u l j w e=>c.r142.go (Fl A W Z v f hW u l j w e o) rfl
  restore:=fun A W Z v o hW u l j=>c.r139.go (J0 A W Z v hW u l j o) rfl }
theorem T8 {C:Ctx} (c:cT C):ve C :=
 {L:=pZ c
  D:=alU c
  up:=fun a s j x e=>c.r143.go (apP a s j x e) rfl
  short:=fun a d j l u e=>c.r140.go (Ym (pZ c) a d j l u e) rfl
  lengthO:=fun xs o y w=>c.r138.go (Jz xs y w o) rfl }
theorem cb {C:Ctx} (c:cT C) (A B:Nat) (hB:B≠0) (j:nl A≤900) (e:nl B≤900):aG C 136 [aI (aK A),aI (aK B)] .nil (aM (qH A B)) :=
 (c.r136.go (Ue (T8 c) A B hB j e) rfl).seen
theorem rI {C:Ctx} (c:cT C):sN C :=
 {pZ c with
  bits:=fun xs h l=>c.r128.go (aeS xs h l ((pZ c).length xs h l)) rfl
  add:=fun xs x e j u w=>(c.r127.go (alV (pZ c) xs x e j u w) rfl).seen
  sub:=fun xs x e j u w=>(c.r134.go (amP (pZ c) xs x e j u w) rfl).seen
  mul:=fun xs x e j u w=>(c.r133.go (amN (pZ c) xs x e j u w) rfl).seen
  gcd:=fun xs x e j u w=>(c.r131.go (amL (pZ c) (cb c) xs x e j u w) rfl).seen
  div:=fun xs x e j u w=>(c.r130.go (amC (pZ c) (cb c) xs x e j u w) rfl).seen }
theorem yE {C:Ctx} (c:cT C):EL C :=
 {rI c with
  times:=fun a b e hb j l u w=>c.r121.go (W8 (rI c) a b e hb j l u w) rfl
  zero:=fun neg a b e j=>c.r122.go (acC (rI c) neg a b e j) rfl
  valid:=fun neg a b e hb j l=>c.r118.go (Xa (rI c) neg a b e hb j l) rfl
  abs:=fun v y A=>c.r119.go (ajM (rI c) v y A) rfl
  lowest:=fun neg a b e hb j l u w x=>(c.r120.go (Su (rI c) neg a b e hb j l u w x) rfl).seen }
theorem x9 {C:Ctx} (c:cT C) (x y:RF) (e:x.Ok) (j:y.Ok):aG C 113 [.agg x.cells,.agg y.cells] .nil (aM (frV (kJ x.v y.v))) :=
 (c.r113.go (ajO (yE c) x.neg y.neg x.num x.den y.num y.den e.1 e.2.1 j.1 j.2.1 e.2.2.1 e.2.2.2 j.2.2.1 j.2.2.2) rfl).seen
theorem gs {C:Ctx} (c:cT C):ug C :=
 {yE c with
  frac:=fun n d A u=>(c.r115.go (abW (yE c) n d A.1 A.2 u.1 u.2) rfl).seen
  red:=fun x e=>by rw[← Ux];exact (c.r116.go (Sz (yE c) x.neg x.num x.den e.1 e.2.1 e.2.2.1 e.2.2.2) rfl).seen
  ord:=fun x y e j=>(c.r114.go (ajS (yE c) x.neg y.neg x.num x.den y.num y.den e.1 e.2.1 j.1 j.2.1 e.2.2.1 e.2.2.2 j.2.2.1 j.2.2.2) rfl).seen
  plus:=x9 c
  tot:=fun l w=>(c.r117.go (akB (yE c) (x9 c) l w.all w.fits) rfl).seen }
theorem yD {C:Ctx} (c:cT C):sJ C :=
 have inn:∀ n lo hi:Int,aG C 104 [.int .i64 n,.int .i64 lo,.int .i64 hi] .nil (aM (.bool (within n lo hi))):=fun n lo hi=>(c.r104.go (apE n lo hi) rfl).seen;have uT:∀ x:RF,x.Ok→aG C 97 [.agg x.cells] .nil (aM (.bool (bT x))):=fun x u=>(c.r97.go (Xe (rI c) x u) rfl).seen;have lim:∀ x:RF,x.Ok→aG C 105 [.agg x.cells] .nil (aM (.bool (fK x))):=fun x u=>(c.r105.go (akJ (gs c) x u) rfl).seen;have e:∀ n:Nat,aG C 126 [.int .u8 n] .nil (aM (.bool (jC n))):=fun n=>c.r126.go (Tv n) rfl;have j:∀ n:Nat,aG C 124 [.int .u8 n] .nil (aM (.bool (sT n))):=fun n=>c.r124.go (Xr n) rfl
 {gs c with
  inn:=inn
  uT:=uT
  lim:=lim
  one:=fun x u=>(c.r101.go (akN (gs c) x u) rfl).seen
  allf:=fun p fn l w h=>(c.r99.go (acG p fn l w h) rfl).seen
  alli:=fun p fn l w h=>(c.r100.go (acI p fn l w h) rfl).seen
  allb:=fun p fn l w h=>(c.r98.go (acE p fn l w h) rfl).seen
  ends1:=fun b=>(c.r103.go (Xg b) rfl).seen
  num1:=fun n=>(c.r107.go (acQ inn n) rfl).seen
  rate1:=fun x u=>(c.r109.go (Xj lim uT x u) rfl).seen
  name:=fun s=>c.r123.go (adL e (fun n=>c.r125.go (Xw e j n) rfl) s) rfl }
theorem wz {C:Ctx} (c:cT C):va C :=
 {yD c with
  num:=fun p e=>(c.r106.go (akL (yD c) p e) rfl).seen
  rate:=fun p e=>(c.r108.go (acT (yD c) p e) rfl).seen
  uniq:=fun l j=>(c.r110.go (acW (yD c) l j) rfl).seen }
theorem w8 {C:Ctx} (c:cT C):XR C :=
 {wz c with
  ends:=fun l e he=>(c.r102.go (acL (yD c) l e he) rfl).seen }
theorem abV {C:Ctx} (c:cT C):kP C :=
 {w8 c with
  law:=fun l j=>(c.r95.go (akH (w8 c) l j) rfl).seen
  pol:=fun p n w u=>(c.r112.go (akP (wz c) p w n u) rfl).seen
  ayP:=fun f e=>(c.r111.go (akF (yD c) f e) rfl).seen }
theorem kh {C:Ctx} (c:cT C) (f:aC) (e:f.Ok):aG C 96 [.agg f.cells] .nil (aM (.int .i64 (wQ f))):=(c.r96.go (akS (abV c) f e) rfl).seen
theorem anL {C:Ctx} (c:cT C):ahU C :=
 {valid:=fun f e=>(c.r161.go (Zs (kh c) f e) rfl).seen
  apC:=fun f v j h=>(c.r156.go (agI f j v h) rfl).seen }
theorem oQ {C:Ctx} (c:cT C):pR C:={ trimM:=fun xs h l=>c.r38.go (ahF xs h l) rfl }
theorem Gd {C:Ctx} (c:cT C):vh C :=
 {oQ c with
  make:=fun v h=>(c.r35.go (agW (oQ c) v h) rfl).seen
  large:=fun xs h l=>(c.r41.go (Zw (oQ c) xs h l) rfl).seen
  cmp:=fun xs x e j u w=>c.r32.go (anM (oQ c) xs x e j u w) rfl }
theorem afT {C:Ctx} (c:cT C):V8 C :=
 {Gd c with
  minus:=fun a b j hb l w e=>(c.r42.go (Zy (oQ c) a b j hb l w e) rfl).seen
  times:=fun a b j hb e u=>(c.r44.go (Z2 (oQ c) a b j hb e u) rfl).seen }
theorem afU {C:Ctx} (c:cT C):V9 C :=
 {afT c with
  plus:=fun a b l hb e j=>(c.r43.go (ahC (oQ c) a b l hb e j) rfl).seen }
theorem afV {C:Ctx} (c:cT C):JY C :=
 {afU c with
  bits:=fun xs h l=>c.r31.go (agO (oQ c) xs h l) rfl
  upM:=fun a n j e u w=>c.r45.go (aqE (oQ c) a n j e u w) rfl
  down:=fun a n j e u=>(c.r40.go (agT (oQ c) a n j e u) rfl).seen }
theorem WW {C:Ctx} (c:cT C):XV C :=
 {Gd c with
  divide:=fun A B hB j e=>(c.r39.go (Vi (afV c) A B hB j e) rfl).seen }
theorem Ge {C:Ctx} (c:cT C):vi C :=
 {WW c with
  gcd:=fun a b e hb j l=>(c.r34.go (anQ (WW c) a b e hb j l) rfl).seen
  div:=fun a b e hb j l=>(c.r33.go (anO (WW c) a b e hb j l) rfl).seen }
theorem Qw {C:Ctx} (c:cT C):R2 C :=
 {Ge c with
  lowest:=fun neg a b l hb u w x y j=>(c.r58.go (Vx (Ge c) neg a b l hb u w x y j) rfl).seen
  size:=fun v e=>c.r59.go (ahN v e.1 e.2) rfl }
theorem Gf {C:Ctx} (c:cT C):XW C :=
 {Qw c with
  fmk:=fun n d j e=>(c.r50.go (ahL (Qw c) n d j e) rfl).seen }
theorem PS {C:Ctx} (c:cT C) (hi:wG C):zX C :=
 {Gf c with
  int:=fun n e=>(c.r47.go (anU (Gf c) n e) rfl).seen
  itoa:=hi
  next:=fun l v T o n a e j=>c.r4.go (Dp T o n a e j) rfl }
theorem Dd {C:Ctx} (c:cT C) (hi:wG C):vb C :=
 {PS c hi with
  frac:=fun l v T o a e=>c.r1.go (adZ (PS c hi) T o a e) rfl }
theorem De {C:Ctx} (c:cT C) (hi:wG C):sM C :=
 {Dd c hi with
  rep:=fun l v T o a m j e=>c.r5.go (alS (Dd c hi) T o a m j e) rfl
  name:=fun s n w u=>c.r29.go (aeH (PS c hi) s n w u) rfl }
theorem Df {C:Ctx} (c:cT C) (hi:wG C):nD C :=
 {De c hi with
  law:=fun l v T o dQ a u e j=>c.r2.go (alO (De c hi) T o dQ a u e j) rfl }
theorem Dg {C:Ctx} (c:cT C) (hi:wG C):vd C :=
 {Df c hi with
  grow:=fun l v T mc ayF e j u=>Ay (Df c hi) T mc ayF e j u (fun args H R w h=>c.r7 args H R (by rw[w]; decide) h) 4 (azY _) }
theorem VD {C:Ctx} (c:cT C) (hi:wG C):V6 C :=
 {Dg c hi with
  new:=fun l hb w=>c.r28.go (alQ l hb w) rfl
  fleet:=fun l v T o ayF ayH a e j u=>JV.exact (c.r0.go (X2 (Dg c hi) T o ayF ayH a e j u) rfl) }
theorem Y8 {C:Ctx} (c:cT C) (f:aC) (v:Nat) (e:v≤100):aG C 282 [.agg (qX f),.int .i64 (v:Nat)] .nil (aM (.int .i64 ((2+v:Nat):Int))):=c.r282.go (amR f v e) rfl
theorem NJ {C:Ctx} (c:cT C):lL C :=
 {vol:=Y8 c
  dom:=fun f j e v i y hi=>c.r283.go (amE (Y8 c) f j e v i y hi) rfl
  drv:=fun f j d e=>c.r284.go (amG f j d e) rfl
  arc:=fun o N a v l x H u=>c.r285.go (alY o N a.src a.dst a.cap v l x H u) rfl
  valid:=kh c
  roomM:=fun f room w=>c.r152.go (agL (anL c) f w room) rfl }
theorem Qt {C:Ctx} (c:cT C) (n:cF) (e:fO n):aG C 292 [.agg n.cells] .nil (aM (.bool true)):=c.r292.go (Yd (fun n o x j=>c.r291.go (aeL n o x j) rfl) n e) rfl
theorem Qs {C:Ctx} (c:cT C) (n:cF) (e fo:Nat) (xs:List Nat) (out:PV) (s:cI) (l:fO n) (j:¬ e=fo) (w:sK n xs) (u:s.1<n.arcs.length):aG C 294 [.ptr e 6 0 0,.int .i64 (stI s)] (sH n e fo xs out) (fun r H'=>r=.tup [.int .i64 ((eS n s:Nat):Int),.int .i64 ((eG n xs s:Nat):Int)]∧H'=sH n e fo xs out):=c.r294.go (adU n l e fo j xs w out s u) rfl
theorem afS {C:Ctx} (c:cT C) (n:cF) (j:fO n):aG C 298 [.agg n.cells] .nil (vj n) :=
 c.r298.go (Ya (Qt c) (fun n u fo xs y l j e I w B=>c.r296.go (X8 (Qs c) n j u fo e xs I y l w B) rfl)
  (fun n u fo xs out Q way j e A E x=>c.r297.go (alI (Qs c) (fun n u fo xs out s j e F=>c.r295.go (adR n j u fo e xs out s F) rfl) n j u fo e xs A out Q way E x) rfl) n j) rfl
theorem Gc {C:Ctx} (c:cT C):JW C :=
 {NJ c with
  net:=fun f room e=>(c.r286.go (ajX (NJ c) f e room) rfl).apX
  solve:=afS c
  demand:=fun f hV=>c.r287.go (ajU f hV) rfl }
theorem Qv {C:Ctx} (c:cT C) (hi:wG C):V3 C :=
 {fleet:=fun l hb y ayF ayH j w=>(c.r27.go (Xz (VD c hi) l hb y ayF ayH j w) rfl).seen
  place:=fun f room e=>(c.r288.go (W4 (Gc c) f e room) rfl).place
  why:=fun f room e=>(c.r289.go (akD (Gc c) f e room) rfl).why
  chk:=fun f room ct e u=>c.r290.go (ajQ (Gc c) (fun n cut A x=>c.r293.go (alK (Qt c) n A cut x) rfl) f e room ct u) rfl }
theorem afR {C:Ctx} (c:cT C) (hi:wG C):aG C 312 [] .nil (aM (.bool true)):=c.r312.go (aaL (Qv c hi)) rfl
theorem amW {C:Ctx} (c:cT C) (hi:wG C):V4 C :=
 {new:=(VD c hi).new
  tfleet:=(VD c hi).fleet
  QG:=fun l v T o a f j e=>ajK (c.r6.go (aeO (PS c hi) T o a f j e) rfl) }
theorem Qu {C:Ctx} (c:cT C) (f:aC) (room:List Int) (v:Nat) (hV:VF f) (u:v<f.ayH.length) (e:Fits (bU f v).ayG):∀ (m i:Nat),f.ayI.length-i≤m→i<f.ayI.length→aG C 315 [.agg f.cells,.agg (bU f v).cells,ints (jU f room),.int .i64 (i:Nat)] .nil (aM (.int .i64 ((jJ f room v m i:Nat):Int)))
 | 0,i,h,hi=>absurd h Om
 | m+1,i,h,hi=>c.r315.go (aaN (fun f p d hV y w=>c.r77.go (J4 f hV p y d w) rfl) f hV room v u e m i h hi fun j x l=>Qu c f room v hV u e m j x l) rfl
theorem apU {C:Ctx} (c:cT C) (hi:wG C):u9 C :=
 {amW c hi with
  awake:=afR c hi
  next:=fun l v T o n a u j=>c.r4.go (Dp T o n a u j) rfl
  place:=(Qv c hi).place
  roomM:=(NJ c).roomM
  nest:=fun f room v hV w e=>Qu c f room v hV w e f.ayI.length 0 Om hV.root.1 }
end Z
theorem Ww {C:Ctx} (c:cT C) (hi:wG C) (r:bQ C 320 fm) (l:List Nat) (hb:∀ x∈l,x<256) (e:l.length≤9223372036854775807):aG C 320 [.sl 1 (jW l)] .nil (aM (.bool true)):=r.go (aaI (Z.apU c hi) l hb e) rfl
end Go.PM
