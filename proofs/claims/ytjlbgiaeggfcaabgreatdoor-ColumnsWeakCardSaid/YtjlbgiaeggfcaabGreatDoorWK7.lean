/-Lemmas for the law. No condition.-/
import Derived.Test.YtjlbgiaeggfcaabGreatDoorWK6

set_option linter.unusedSimpArgs false
set_option linter.unusedVariables false
open Nat renaming reduceEqDiff->γ,reduceAdd->δ,reduceSub->ε,reduceMul->ζ,reduceLT->η,reduceLeDiff->θ
open Int renaming reduceLT->ι,reduceLE->κ,reduceEq->μ,reduceToNat->ν,reduceAdd->ξ,reduceNeg->ο,reduceBEq->ρ
open List renaming length_map->bhO,range->bhP,all_eq_true->biB,mem_cons->biG,mem_map->biJ,mem_range->biM,not_mem_nil->biO,map_append->biV,map_congr_left->bkP,mem_filter->bkU
open Bool renaming and_eq_true->bhQ,false_eq_true->bjW,or_eq_true->blI
open Nat renaming zero_le->bhT,le_refl->bhV,le_trans->biQ,lt_or_ge->biR,beq->bjT
open Option renaming map_some->biP,some->bjV
open List renaming length->Z'
set_option maxRecDepth 100000
set_option maxHeartbeats 800000
noncomputable section
namespace Go.PM
open Go
theorem Nm(r:Nat->Nat):∀n:Nat,∃b,∀j,j<n->r j<b
 |0=>⟨0,λj d=>absurd d (Nat.not_lt_zero j)⟩
 |n+1=>by
  obtain⟨b,hb⟩:=Nm r n;refine⟨b+r n+1,λj d=>?_⟩;rcases Nat.lt_succ_iff_lt_or_eq.1 d with h|h
  ·have:=hb j h;omega
  ·subst h;omega
theorem a6H(r:Nat->Nat)(h:Hp)(hi:∀i j x y,h.ph i=some x->h.ph j=some y->r i=r j->i=j) :
  ∃H:PH,bx r h.ph H/\∀o x,H o=some x->∃i y,h.ph i=some y/\r i=o:=by
 classical
 obtain⟨b,hb⟩:=Nm r h.length;refine⟨⟨λo=>if e:∃i y,h.ph i=some y/\r i=o then some ((Classical.choose (Classical.choose_spec e)).ren r)else none,b,λo w=>?_⟩,λi x d=>?_,λo x d=>?_⟩
 ·rw[dif_neg];rintro⟨i,y,l,p⟩;have:=hb i (nI l).2;omega
 ·have e:∃j y,h.ph j=some y/\r j=r i:=⟨i,x,d,rfl⟩;show(if e:∃j y,h.ph j=some y/\r j=r i then some ((Classical.choose (Classical.choose_spec e)).ren r)else none)=_;rw[dif_pos e];have l:=Classical.choose_spec (Classical.choose_spec e);have p:=hi _ _ _ _ l.1 d l.2;have u:=l.1.symm.trans ((congrArg h.ph.f p).trans d);rw[bjV.inj u]
 ·change(if e:∃j y,h.ph j=some y/\r j=o then some ((Classical.choose (Classical.choose_spec e)).ren r)else none)=some x at d;split at d
  ·rename_i e;exact e
  ·cases d
theorem a0L{r:Nat->Nat}{f:Fr}{h:Hp}{F:PF}{H:PH}(R:Rl r f h F H):∃q:Nat->Nat,∀i x,h.ph i=some x->q (r i)=i:=by
 classical
 refine⟨λo=>if e:∃i y,h.ph i=some y/\r i=o then Classical.choose e else 0,λi x d=>?_⟩;have e:∃j y,h.ph j=some y/\r j=r i:=⟨i,x,d,rfl⟩;show(if e:∃j y,h.ph j=some y/\r j=r i then Classical.choose e else 0)=i;rw[dif_pos e];obtain⟨y,l,p⟩:=Classical.choose_spec e;exact R.inj _ _ _ _ l d p
def W7(q r:Nat->Nat)(M:List Nat)(H:PH):Hp:=M.map λi=>match H (r i)with
 |some x=>x.ren λo=>posOf M (q o)
 |none=>.dead
noncomputable def jf(call:gS)(h0:Hp)(q r:Nat->Nat):Spec:=λname vs=>
 some ((reach h0 1000 (wU (PV.lW q vs) []) []).map r,λe i H'=>∃v d,
  call name (PV.lW (posOf (reach h0 1000 (wU (PV.lW q vs) []) [])) (PV.lW q vs)) (W7 q r (reach h0 1000 (wU (PV.lW q vs) []) []) e)=some (v,d) /\
  Comes (λk=>r (atN (reach h0 1000 (wU (PV.lW q vs) []) []) k)) (reach h0 1000 (wU (PV.lW q vs) []) []).length v d i H')
theorem Comes.agree{r s:Nat->Nat}{n:Nat}{v:PV}{h:Hp}{d:PV}{H:PH}(u:Comes r n v h d H)(p:jA n r s):Comes s n v h d H:=by
 obtain⟨r',e,l⟩:=u;exact⟨r',λi hi=>(p i hi).symm.trans (e i hi),l⟩
theorem aXH{x y:aY}(h:Gy x y=true)(d:x.live=some x):x=y:=by
 cases x with
 |rows s rs =>cases y<;>simp only[Gy,bhQ,bjW]at h;rw[PV.uj _ _ h.2,Nat.eq_of_beq_eq_true h.1]
 |map=>cases d
 |loop=>cases d
 |dead=>cases d
section
variable {C:Ctx} {call:gS} {q r0 r:Nat->Nat} {f f':Fr} {h0 hs h h':Hp} {F:PF} {H Hs:PH} {v:PV} {K:PV->PH->Prop} {st:Bool}
theorem RV(hC:rH C call)(hq:∀i x,h0.ph i=some x->q (r0 i)=i)(θ:jA h0.length r0 r)(R:Rl r f h F H)(D:DI r hs h Hs){name:Nat}{vs:List PV}(e:W0 call h0 hs name vs h=some (v,h'))
  (J:∀r' H',jA h.length r r'->Z' h<=Z' h'->Rl r' f h' F H'->DI r' hs h' Hs->v.bound h'.length=true->K (v.ren r') H') :
  (Kind.call name (some (vs.map (PV.ren r)))).run C Hs (jf call h0 q r0) st K H:=by
 unfold W0 at e;simp only at e;generalize hM:reach h0 1000 (wU vs []) []=M at e;split at e
 ·rename_i β;simp only[bhQ,biB]at β;obtain⟨ξ,ok,hv⟩:=β;replace hv:=XE hv;rw[HC]at e;split at e
  ·rename_i w p e2;split at e
   ·rename_i hb;simp only[bhQ]at hb;obtain⟨⟨κ,Q⟩,μ,ν⟩:=hb;replace Q:=PV.AS Q;rw[PV.XQ]at e;cases e;have ο:Z' M<=Z' p:=Nat.le_of_ble_eq_true κ;have E:∀i,inL M i=true->h0.ph i=some (gtH h0 i):=λi hi=>by rw[uW];exact VP (ξ i (DB hi))
    have N:∀i,inL M i=true->r0 i=r i:=λi hi=>θ i (nI (E i hi)).2;have γ:∀i,inL M i=true->q (r i)=i:=λi hi=>by rw[<-N i hi];exact hq i _ (E i hi)
    have ρ:PV.lW q (vs.map (PV.ren r))=vs:=by rw[<-PV.fC,PV.zZ (L:=inL M) (s:=id) γ vs hv,PV.zY]
    have Z:M.map r0=M.map r:=bkP λi hi=>N i (wZ hi);have X:∀i,inL M i=true->(H.only (M.map r)) (r i)=some ((gtH h i).ren r):=λi hi=>by rw[zC,aG (List.mem_map_of_mem (DB hi))];exact R.hp i _ (vW ok hi)
    have V:HA M h=true:=by simp only[okM,bhQ]at ok;exact ok.1
    have d:W7 q r0 M (H.only (M.map r))=sM h (posOf M) M:=by unfold W7 sM;refine bkP λi hi=>?_;have S:=wZ hi;rw[N i S,X i S];exact aY.a7I (L:=inL M) (λj l=>by rw[γ j l]) (ER R i) (xy V S)
    have A:jA M.length (λk=>r0 (atN M k)) (λk=>r (atN M k)):=λk J=>N _ (vG J);have η:∀x∈p,aY.Bd p.length x:=λx W=>by
     have:=(biB.1 μ) x W;simp only[blI,Bool.not_eq_true']at this;rcases this with h1|h1
     ·cases x<;>first|trivial|cases h1
     ·exact aY.CQ h1
    refine⟨_,M.map r,λH0 rv H'=>∃v p,call name (PV.lW (posOf M) vs) (W7 q r0 M H0)=some (v,p)/\Comes (λk=>r0 (atN M k)) M.length v p rv H',rfl,?_,λo ho=>?_,?_,λG=>?_,λrv H' hr ap=>?_⟩
    ·simp only[jf,ρ,hM,Z]
    ·obtain⟨i,hi,rfl⟩:=biJ.1 ho;exact⟨_,R.hp i _ (vW ok (wZ hi))⟩
    ·exact(D6 hC R ok hv e2).W6 λrv H' hc=>⟨w,p,by rw[d];exact e2,hc.agree λk J=>(A k J).symm⟩
    ·obtain⟨nG,hG⟩:=G.fin;obtain⟨nH,hH⟩:=H.fin;have ε:∀k,k<Z' M->r (atN M k)<nH:=λk J=>by
      rcases biR (r (atN M k)) nH with h1|h1
      ·exact h1
      ·have:=R.hp _ _ (vW ok (vG J));rw[hH _ h1]at this;cases this
     generalize δ:(λj=>if j<M.length then r (atN M j)else nG+nH+j)=r2;have hlt:∀j,j<Z' M->r2 j=r (atN M j):=λj l=>by rw[<-δ];exact aG l
     have B:∀j,¬j<Z' M->r2 j=nG+nH+j:=λj l=>by rw[<-δ];exact aE l
     have O:∀i j x y,p.ph i=some x->p.ph j=some y->r2 i=r2 j->i=j:=λi j x y _ _ Y=>by
      by_cases hi:i<Z' M<;>by_cases l:j<Z' M
      ·rw[hlt i hi,hlt j l]at Y;have:=R.inj _ _ _ _ (vW ok (vG hi)) (vW ok (vG l)) Y;have α:gp M=true:=by simp only[HA,bhQ]at V;exact V.1
       rw[<-FA α hi,this,FA α l]
      ·rw[hlt i hi,B j l]at Y;have:=ε i hi;omega
      ·rw[B i hi,hlt j l]at Y;have:=ε j l;omega
      ·rw[B i hi,B j l]at Y;omega
     obtain⟨H',h1,h3⟩:=a6H r2 p O;refine⟨w.ren r2,H',⟨w,p,by rw[d];exact e2,r2,λk J=>?_,⟨rfl,h1,O,λi u hu=>by simp[Fr.pf]at hu,η⟩,rfl,Q,ο⟩,λo x W h4=>?_⟩
     ·rw[hlt k J];exact A k J
     ·obtain⟨i,y,-,rfl⟩:=h3 o x W;by_cases hi:i<Z' M
      ·rw[hlt i hi,X _ (vG hi)]at h4;cases h4
      ·rw[B i hi];exact hG _ Om
    ·obtain⟨w',h3,e3,hc⟩:=hr;rw[d,e2]at e3;cases e3;obtain⟨r',ha,hn,R',rfl,ι⟩:=afO R ok (hc.agree A) ap;have U:∀i x,hs.ph i=some x->Hp.ph (uC M h p) i=some x:=λi x W=>by
      have ζ:=D.a i x W;have hlt:=(nI ζ).2;by_cases hi:inL M i=true
      ·have h5:=(biB.1 ν) i (DB hi);have h6:=a7D W;have h7:=aXH h5 (by rw[h6.1];exact h6.2);rw[uW,<-h7,h6.1];exact h6.2
      ·rw[uW,wi,aG hlt,aE hi,<-uW];exact ζ
     have D':=D.next R ha U;exact⟨D'.le R',J r' _ ha hn R' D' ι⟩
   ·cases e
  ·cases e
 ·cases e
theorem su(hC:rH C call)(hq:∀i x,h0.ph i=some x->q (r0 i)=i)(M:jA h0.length r0 r){op:POp}(R:Rl r f h F H)(D:DI r hs h Hs)(e:G8 call h0 hs op st f h=some (v,h'))
  (N:∀r' H',jA h.length r r'->Z' h<=Z' h'->Rl r' f h' F H'->DI r' hs h' Hs->v.bound h'.length=true->K (v.ren r') H') :
  (op.kind F).run C Hs (jf call h0 q r0) st K H:=by
 by_cases X:∃name args,op=.call name args
 ·obtain⟨name,args,rfl⟩:=X;simp only[G8]at e;split at e
  ·rename_i p;split at e
   ·rename_i vs E;have U:=HZ (r:=r) p E;rw[<-R.fr]at U;simp only[POp.kind];rw[U];exact RV hC hq M R D e N
   ·cases e
  ·cases e
 by_cases E:∃x args,op=.bhF x args
 ·obtain⟨x,args,rfl⟩:=E;simp only[G8]at e;split at e
  ·rename_i p;simp only[bhQ]at p;split at e
   ·rename_i name cs vs Y U;have h5:=HZ (r:=r) p.2 U;have h6:=cY (r:=r) p.1 Y;rw[<-R.fr]at h5 h6;simp only[POp.kind];rw[h6];simp only[PV.ren,PV.fC];rw[h5];simp only[biP,<-biV];exact RV hC hq M R D e N
   ·cases e
  ·cases e
 have l:(if op.clo&&aIP hs op f then if op.jW then AD op f h else if op.eU then mL op f h else
   match aU op f.pf (if st then hs.ph else h.ph)with|some v=>if v.EK h.length then some (v,h)else none|none=>none else none)=some (v,h'):=by
  cases op<;>first|exact e|exact absurd ⟨_,_,rfl⟩ X|exact absurd ⟨_,_,rfl⟩ E
 split at l
 ·rename_i p;simp only[bhQ]at p;have Q:∀i x,hs.ph i=some x->y8 op f≠some i:=λi x hx ht=>by rw[aIQ p.2 ht]at hx;cases hx
  have Y:¬∃sh x k w,op=.insert sh x k w:=by rintro⟨sh,x,k,w,rfl⟩;simp[POp.clo]at p
  have B:op.kind F=if op.jW then .new (cU op F)else if op.eU then .write (λH K=>cJ op F H K)else .calm (aU op F):=by cases op<;>first|rfl|exact absurd ⟨_,_,rfl⟩ X|exact absurd ⟨_,_,rfl⟩ E|exact absurd ⟨_,_,_,_,rfl⟩ Y
  rw[B];split at l
  ·rename_i O;rw[aG O];have A:Z' h<=Z' h':=YI (op:=op) (f:=f) (v:=v) (by unfold FB;rw[aG p.1,aG O];exact l);obtain⟨mk,x,g1,g2⟩:=bu (d:=some 0) (K:=λF' H'=>∀u,F' 0=some u->K u H') R p.1 l λr' H' J S hb u hu=>by simp only[PF.put,PF.set,aoL]at hu;cases hu;exact N r' H' J A S (D.next R J λi y W=>Wg l (D.a i y W)) hb
   exact⟨mk,x,g1,λo ho=>g2 o ho _ (by simp[PF.put,PF.set,aoL])⟩
  ·rename_i O;rw[aE O];split at l
   ·rename_i V;rw[aG V];have A:Z' h<=Z' h':=YI (op:=op) (f:=f) (v:=v) (by unfold FB;rw[aG p.1,aE O,aG V];exact l);show cJ op F H λZ H'=>Hs.le H'/\K Z H';refine NH (K:=λZ H'=>Hs.le H'/\K Z H') R p.1 l λr' H' J S hb=>?_;have D':=D.next R J λi y W=>Ha l (D.a i y W) (Q i y W);exact⟨D'.le S,N r' H' J A S D' hb⟩
   ·rename_i V;rw[aE V];split at l
    ·rename_i w g1;split at l
     ·rename_i hb;replace hb:=PV.AS hb;cases l;refine⟨v.ren r,?_,N r H (λ_ _=>rfl) (bhV _) R D hb⟩;cases st with
      |true=>
       have:=ir D.c p.1 g1
       rwa[<-R.fr]at this
      |false=>
       have:=ir R.hp p.1 g1
       rwa[<-R.fr]at this
     ·cases l
    ·cases l
 ·cases l
theorem amA(A:rH C call)(B:∀i x,h0.ph i=some x->q (r0 i)=i)(d:jA h0.length r0 r){i:aW}(R:Rl r f h F H)(D:DI r hs h Hs)(e:G9 call h0 hs i st f h=some (v,h'))
  (u:∀r' H',jA h.length r r'->Z' h<=Z' h'->Rl r' f h' F H'->DI r' hs h' Hs->v.bound h'.length=true->K (v.ren r') H') :
  (i.kind F).run C Hs (jf call h0 q r0) st K H:=by
 have l:∀t w,f.pf t=some w->F t=some (w.ren r):=λt w p=>by rw[R.fr];simp only[PF.ren,p,biP]
 unfold G9 at e;unfold aW.kind;split at e
 ·rename_i y;rw[y];exact su A B d R D e u
 ·rename_i t E y;rw[y];simp only;split at e
  ·rename_i b hb;rw[l t _ hb];simp only[PV.ren];split at e
   ·rename_i p;rw[aG p];exact su A B d R D e u
   ·rename_i p;rw[aE p];cases e;exact⟨_,rfl,u r H (λ_ _=>rfl) (bhV _) R D rfl⟩
  ·rename_i hb;rw[l t _ hb];cases e;exact⟨_,rfl,u r H (λ_ _=>rfl) (bhV _) R D rfl⟩
  ·cases e
end
variable{C:Ctx}
theorem Gx{call:gS}(N:rH C call){h0 hs:Hp}{Hs:PH}{q r0:Nat->Nat}(Q:∀i x,h0.ph i=some x->q (r0 i)=i):∀(ops:List (aW × Bool)) {r:Nat->Nat} {f f':Fr} {h h':Hp} {F:PF} {H:PH} {K:PF->PH->Prop},i7 call h0 hs ops f h=some (f',h')->jA h0.length r0 r->Z' h0<=Z' h->Rl r f h F H->DI r hs h Hs ->
  (∀r' M H',jA h.length r r'->Z' h<=Z' h'->Rl r' f' h' M H'->K M H')->wpD C Hs (jf call h0 q r0) ops K F H
 |[],r,f,f',h,h',F,H,K,e,_,_,R,D,A=>by cases e;exact A r F H (λ_ _=>rfl) (bhV _) R
 |i::rest,r,f,f',h,h',F,H,K,e,d,l,R,D,A=>by
  simp only[i7]at e;split at e
  ·rename_i W;split at e
   ·rename_i v X V;refine amA N Q d R D V λr' H' O B U S hb=>?_;exact Gx N Q rest e (d.trans O l) (biQ l B) (U.put W hb) S λJ p u y E w=>A J p u (O.trans y B) (biQ B E) w
   ·cases e
  ·cases e
theorem NC{call:gS}(w:rH C call){hs:Hp}{ops:List (aW × Bool)}{r:Nat->Nat}{f f':Fr}{h h':Hp}{F:PF}{H:PH}{K:PF->PH->Prop}(e:i7 call h hs ops f h=some (f',h'))(R:Rl r f h F H)
  (d:∀i x,hs.ph i=some x->h.ph i=some x) (A:∀r' p H',jA h.length r r'->Z' h<=Z' h'->Rl r' f' h' p H'->K p H'):∃Hs S,PH.le Hs H/\wpD C Hs S ops K F H:=by
 obtain⟨q,E⟩:=a0L R;have D:DI r hs h (H.only (((bhP h.length).filter λi=>(Hp.ph hs i).isSome).map r)):=by
  refine⟨d,λo x l=>?_,λi x l=>?_⟩
  ·rw[zC]at l;split at l
   ·rename_i B;obtain⟨i,hi,rfl⟩:=biJ.1 B;obtain⟨-,hi⟩:=bkU.1 hi;obtain⟨y,u⟩:=Option.isSome_iff_exists.1 hi;refine⟨i,y,u,rfl,?_⟩;have:=R.hp i y (d i y u);rw[this]at l;cases l;rfl
   ·cases l
  ·rw[zC,aG]
   ·exact R.hp i x (d i x l)
   ·exact biJ.2 ⟨i,bkU.2 ⟨biM.2 (nI (d i x l)).2,by rw[l];rfl⟩,rfl⟩
 exact⟨_,_,D.le R,Gx w E ops e (λ_ _=>rfl) (bhV _) R D A⟩
theorem aTK(call:gS)(l:rH C call):Xn C (ln call):=by
 intro ops f h f' h' e r F H R K u;unfold ln at e;split at e
 ·split at e
  ·exact NC l e R (λi x d=>axG d) u
  ·split at e
   ·rename_i p w;cases e;exact NC l w R (λi x d=>d) u
   ·exact NC l e R (λi x d=>axG d) u
 ·exact NC l e R (λi x d=>by simp[Hp.nU]at d) u
theorem aJH{tab:Nat->Option bD}{d:Orc}{fz:Nat->Bool}(i:Ws C d)(l:∀k pf,tab k=some pf->Af C k pf)(m n:Nat):rH C (PX tab d fz ln m n):=aAB i l (λcall e=>aTK call e) m n
theorem aJG{tab:Nat->Option bD}{d:Orc}{fz:Nat->Bool}(i:Ws C d)(l:∀k pf,tab k=some pf->Af C k pf)(m n:Nat){name:Nat}{vs:List PV}{v:PV}(e:Al (PX tab d fz ln m n) name vs=some v):aH C name vs PH.nil (λp _=>p=v):=
 (arB (r:=id) (aJH i l m n) e).2.2.2
open Go Go.Na
def mp:P2_->Option (List Nat)
 |[]=>some []
 |r::rs=>match r with
  |[.int .u32 (.ofNat n)]=>if Nat.blt n 4294967296 then match mp rs with
   |some l=>some (n::l)
   |none=>none
   else none
  |_=>none
def BJ:PV->Option (List Nat)
 | .aK=>some []
 | .sl s rows=>if bjT s 1&&Nat.ble rows.length 1000 then mp rows else none
 |_=>none
def akC:List PV->Option RF
 |[.bool n,a,b]=>match BJ a,BJ b with
  |some x,some y=>some ⟨n,x,y⟩
  |_,_=>none
 |_=>none
theorem Fw:∀{rs:P2_}{l:List Nat},mp rs=some l->rs=l.map (λ(n:Nat)=>[PV.int .u32 (n:Int)])/\Lim l
 |[],l,h=>by cases h;exact⟨rfl,λx d=>by cases d⟩
 |r::rs,l,h=>by
  simp only[mp]at h;split at h
  ·split at h
   ·rename_i n w;split at h
    ·rename_i y i;cases h;obtain⟨p,u⟩:=Fw i;refine⟨by rw[p];rfl,λx d=>?_⟩;rcases biG.1 d with e|e
     ·subst e;exact of_decide_eq_true (by simpa[Nat.blt_eq]using w)
     ·exact u x e
    ·cases h
   ·cases h
  ·cases h
structure a5S(v:PV)(l:List Nat):Prop where
 co:Co v (aN l)
 lim:Lim l
 len:Z' l<=1000
theorem vP{v:PV}{l:List Nat}(h:BJ v=some l):a5S v l:=by
 unfold BJ at h;split at h
 ·cases h;exact⟨.nil 1,λx u=>(biO u).elim,bhT _⟩
 ·split at h
  ·rename_i s rows d;simp only[bhQ]at d;obtain⟨e,p⟩:=Fw h;have i:=Nat.le_of_ble_eq_true d.2;rw[e,bhO]at i;refine⟨?_,p,i⟩;rw[Nat.eq_of_beq_eq_true d.1,e];exact .refl _
  ·cases h
 ·cases h
structure bcR(cs:List PV)(x:RF):Prop where
 co:CoL cs x.cells
 ok:x.Ok
theorem Ml{cs:List PV}{x:RF}(h:akC cs=some x):bcR cs x:=by
 unfold akC at h;split at h
 ·split at h
  ·rename_i a b _ _ d e;cases h;have k1:=vP d;have k2:=vP e;exact⟨.cons (.refl _) (.cons k1.co (.cons k2.co .nil)),k1.lim,k2.lim,biQ k1.len aS,biQ k2.len aS⟩
  ·cases h
 ·cases h
noncomputable def kY:aD:={ aJR with bgF:=[⟨[118,48],0⟩] }
theorem y9:kY.Ok:=a6X (by decide +kernel)
theorem jr:J8 kY 0=[[0]]/\SZ kY 0=0/\uR kY=0:=by decide +kernel
theorem Hd:gP kY 5 1=[[0]]/\gJ kY 5 1=0:=by decide +kernel
theorem asI:dC kY=true:=by decide +kernel
theorem aJS:jZ kY (dW kY 0)=[[0]]:=by decide +kernel
theorem aQK:Z' kY.bgD<=12/\(∀m∈(dW kY 0).bgE,0<=m/\m<Z' kY.bgE)/\(dW kY 0).bgE.length<=99/\1<=(dW kY 0).k/\(dW kY 0).k<=6/\0<=(dW kY 0).m/\(dW kY 0).m<=4:=by decide +kernel
structure Wp(C:Ctx):Prop extends AJ C where
 fleet:∀(l:List Nat),(∀x∈l,x<256)->Z' l<=9223372036854775807->∀bgD bgF:Nat,bgD<=60->bgF<=50 ->
  aH C 27 [.sl 1 (mE l),.int .i64 bgD,.int .i64 bgF] .nil (aI (.agg (kO (l.take 400) bgD bgF 0).1.cells))
 val:∀f:aD,f.Ok->aH C 96 [.agg f.cells] .nil (aI (.int .i64 (uR f)))
 all:∀(f:aD)(bgP:Int),f.Ok->aH C 205 [.agg f.cells,.int .i64 bgP] .nil (aI (.tup [lay (J8 f bgP),.int .i64 (SZ f bgP)]))
 DK:∀(f:aD)(lv cnt:Int),f.Ok->aH C 230 [.agg f.cells,rN lv cnt] .nil (aI (.tup [lay (gP f lv cnt),.int .i64 (gJ f lv cnt)]))
 sets:∀(f:aD)(p:cE),VF f->Z' f.bgD<=12->(∀m∈p.bgE,0<=m/\m<Z' f.bgE)->Fits p.bgE->1<=p.k->p.k<=6->0<=p.m->p.m<=4->aH C 229 [.agg f.cells,.agg p.cells] .nil (aI (lay (jZ f p)))
def or1(g:RF->PV)(vs:List PV):Option PV:=match vs with
 |[.agg x]=>match akC x with
  |some a=>some (g a)
  |none=>none
 |_=>none
def or2(g:RF->RF->PV)(vs:List PV):Option PV:=match vs with
 |[.agg x,.agg y]=>match akC x with
  |some a=>match akC y with
   |some b=>some (g a b)
   |none=>none
  |none=>none
 |_=>none
def orE(vs d:List PV)(v:PV):Option PV:=if PV.NT vs d then some v else none
noncomputable def ajH:Orc:=λname vs=>match name with
 |113=>or2 (λa b=>frV (gY a.v b.v)) vs
 |114=>or2 (λa b=>wQ a.neg (val a.num) (val a.den) b.neg (val b.num) (val b.den)) vs
 |115=>match vs with
  |[.int .i64 n,.int .i64 d]=>if decide (dL n)&&decide (dL d)then some (MS n d)else none
  |_=>none
 |116=>or1 (λa=>frV (oZ a)) vs
 |118=>or1 (λa=>.bool (cC (val a.num) (val a.den))) vs
 |120=>match vs with
  |[.bool neg,x,y]=>match BJ x with
   |some a=>match BJ y with
    |some b=>if decide (nl (val a)<=512)&&(decide (nl (val b)<=512)&&!bjT (val b) 0)then some (DC neg (val a) (val b))else none
    |none=>none
   |none=>none
  |_=>none
 |121=>match vs with
  |[x,y]=>match BJ x with
   |some a=>match BJ y with
    |some b=>if decide (nl (val a)<=256)&&decide (nl (val b)<=256)then some (aN (aL (val a*val b)))else none
    |none=>none
   |none=>none
  |_=>none
 |128=>match vs with
  |[x]=>match BJ x with
   |some a=>some (.int .i64 (cX (val a):Nat))
   |none=>none
  |_=>none
 |27=>orE vs [.aK,.int .i64 1,.int .i64 0] (.agg aJR.cells)
 |96=>orE vs [.agg kY.cells] (.int .i64 0)
 |205=>orE vs [.agg kY.cells,.int .i64 0] (.tup [lay [[0]],.int .i64 0])
 |230=>orE vs [.agg kY.cells,rN 5 1] (.tup [lay [[0]],.int .i64 0])
 |229=>orE vs [.agg kY.cells,.agg (dW kY 0).cells] (lay [[0]])
 |_=>none
section
variable {C:Ctx}
theorem aOU{name:Nat}{g:RF->PV}(h:∀x:RF,x.Ok->aH C name [.agg x.cells] .nil (aI (g x))){vs:List PV}{v:PV}(e:or1 g vs=some v):aH C name vs .nil (aI v):=by
 unfold or1 at e;split at e
 ·split at e
  ·rename_i a d;cases e;have k:=Ml d;exact(h a k.ok).args (.cons (CoL.agg k.co) .nil)
  ·cases e
 ·cases e
theorem aOV{name:Nat}{g:RF->RF->PV}(h:∀x y:RF,x.Ok->y.Ok->aH C name [.agg x.cells,.agg y.cells] .nil (aI (g x y))){vs:List PV}{v:PV}(e:or2 g vs=some v):aH C name vs .nil (aI v):=by
 unfold or2 at e;split at e
 ·split at e
  ·rename_i a d;split at e
   ·rename_i b i;cases e;have k:=Ml d;have k2:=Ml i;exact(h a b k.ok k2.ok).args (.cons (CoL.agg k.co) (.cons (CoL.agg k2.co) .nil))
   ·cases e
  ·cases e
 ·cases e
theorem ip{name:Nat}{vs d:List PV}{v w:PV}(h:aH C name d .nil (aI w))(e:orE vs d w=some v):aH C name vs .nil (aI v):=by
 unfold orE at e;split at e
 ·rename_i i;cases e;rw[PV.CR _ _ i];exact h
 ·cases e
theorem aIS(L:Wp C){name:Nat}{vs:List PV}{v:PV}(e:ajH name vs=some v):aH C name vs .nil (aI v):=by
 unfold ajH at e;split at e
 ·exact aOV L.plus e
 ·exact aOV L.ord e
 ·split at e
  ·split at e
   ·rename_i d;simp only[bhQ,dT_]at d;cases e;exact L.frac _ _ d.1 d.2
   ·cases e
  ·cases e
 ·exact aOU L.red e
 ·exact aOU (λx l=>L.valid x.neg x.num x.den l.1 l.2.1 l.2.2.1 l.2.2.2) e
 ·split at e
  ·split at e
   ·rename_i a i;split at e
    ·rename_i b p;split at e
     ·rename_i d;simp only[bhQ,dT_,Bool.not_eq_true']at d;cases e;have k1:=vP i;have k2:=vP p;exact(L.lowest _ a b k1.lim k2.lim (biQ k1.len aS) (biQ k2.len aS) d.1 d.2.1 (λw=>by rw[w]at d;simp at d)).args (.cons (.refl _) (.cons k1.co (.cons k2.co .nil)))
     ·cases e
    ·cases e
   ·cases e
  ·cases e
 ·split at e
  ·split at e
   ·rename_i a i;split at e
    ·rename_i b p;split at e
     ·rename_i d;simp only[bhQ,dT_]at d;cases e;have k1:=vP i;have k2:=vP p;exact(L.times a b k1.lim k2.lim (biQ k1.len aS) (biQ k2.len aS) d.1 d.2).args (.cons k1.co (.cons k2.co .nil))
     ·cases e
    ·cases e
   ·cases e
  ·cases e
 ·split at e
  ·split at e
   ·rename_i a i;cases e;have k1:=vP i;exact(L.bits a k1.lim (biQ k1.len aS)).args (.cons k1.co .nil)
   ·cases e
  ·cases e
 ·have B:=L.fleet [] (λx l=>by cases l) aS 1 0 aS aS;have u:aH C 27 [.sl 1 (mE []),.int .i64 (1:Nat),.int .i64 (0:Nat)] .nil (aI (.agg aJR.cells)):=B;exact ip (u.args (.aFK (.nil 1) (.aFK (.refl _) (.aFK (.refl _) .bdP)))) e
 ·have h:=L.val kY y9;rw[jr.2.2]at h;exact ip h e
 ·have h:=L.all kY 0 y9;rw[jr.1,jr.2.1]at h;exact ip h e
 ·have h:=L.DK kY 5 1 y9;rw[Hd.1,Hd.2]at h;exact ip h e
 ·obtain⟨i,p,E,y,h5,A,h7⟩:=aQK;have h:=L.sets kY (dW kY 0) (VF.of asI) i p (by unfold Fits;omega) y h5 A h7;rw[aJS]at h;exact ip h e
 ·cases e
theorem a3T(L:Wp C):Ws C ajH:=λ_ _ _ e=>(aIS L e).W6 λ_ _ h=>h.1
theorem aH.bare{name:Nat}{vs:List PV}{H:PH}{v:PV}(h:aH C name vs H (λx _=>x=v)):aH C name vs H (aI v):=by
 refine⟨h.1,λE w y l hW d=>(h.2 E w y l hW d).mono λA B p=>?_⟩;obtain⟨u,pv,e,H',g1,g2,g3,g4,i⟩:=p;exact⟨u,pv,e,.nil,g1,g2.weaken a_,g3,g4.drop a_,i,rfl⟩
theorem aPR(L:Wp C){tab:Nat->Option bD}{fz:Nat->Bool}(d:∀k pf,tab k=some pf->Af C k pf)(m n:Nat){name:Nat}{vs:List PV}{v:PV}(e:Al (PX tab ajH fz ln m n) name vs=some v):aH C name vs .nil (aI v):=
 aH.bare (aJG (a3T L) d m n e)
end
structure bv(C:Ctx):Prop where
 r0:bR C 0 afR
 r1:bR C 1 aHU
 r2:bR C 2 aVP
 r3:bR C 3 Lk
 r4:bR C 4 W5
 r5:bR C 5 aVX
 r6:bR C 6 aIA
 r7:bR C 7 W4
 r27:bR C 27 afG
 r28:bR C 28 aVV
 r29:bR C 29 aHY
 r30:bR C 30 aXX
 r31:bR C 31 aJU
 r32:bR C 32 aXZ
 r33:bR C 33 udiv
 r34:bR C 34 aYD
 r35:bR C 35 aKA
 r36:bR C 36 aYF
 r37:bR C 37 aYN
 r38:bR C 38 aKF
 r39:bR C 39 Mx
 r40:bR C 40 aJY
 r41:bR C 41 aoD
 r42:bR C 42 aoG
 r43:bR C 43 aKD
 r44:bR C 44 aoR
 r45:bR C 45 uup
 r46:bR C 46 aKG
 r47:bR C 47 aYS
 r48:bR C 48 apG
 r49:bR C 49 aKL
 r50:bR C 50 Xf
 r51:bR C 51 apQ
 r52:bR C 52 M6
 r53:bR C 53 aKO
 r54:bR C 54 aKP
 r55:bR C 55 aYX
 r56:bR C 56 aqB
 r57:bR C 57 aKJ
 r58:bR C 58 M5
 r59:bR C 59 aKQ
 r60:bR C 60 aqA
 r61:bR C 61 XW
 r62:bR C 62 Nb
 r63:bR C 63 aqC
 r64:bR C 64 M9
 r65:bR C 65 Nc
 r66:bR C 66 aZI
 r67:bR C 67 aqX
 r68:bR C 68 aZG
 r69:bR C 69 aZC
 r70:bR C 70 aqH
 r71:bR C 71 aqI
 r72:bR C 72 zt
 r73:bR C 73 aqV
 r74:bR C 74 aqW
 r75:bR C 75 Nk
 r76:bR C 76 nu
 r77:bR C 77 yc
 r80:bR C 80 akL
 r82:bR C 82 aJK
 r83:bR C 83 akU
 r84:bR C 84 akW
 r85:bR C 85 W9
 r87:bR C 87 aJO
 r88:bR C 88 akJ
 r89:bR C 89 aXI
 r90:bR C 90 aXQ
 r95:bR C 95 aUE
 r96:bR C 96 aUO
 r97:bR C 97 aaZ
 r98:bR C 98 aGJ
 r99:bR C 99 aGK
 r100:bR C 100 aGL
 r101:bR C 101 gone
 r102:bR C 102 aGP
 r103:bR C 103 acE
 r104:bR C 104 gin
 r105:bR C 105 aUF
 r106:bR C 106 aUG
 r107:bR C 107 aGQ
 r108:bR C 108 aGR
 r109:bR C 109 acT
 r110:bR C 110 aGU
 r111:bR C 111 aGN
 r112:bR C 112 aUI
 r113:bR C 113 Kq
 r114:bR C 114 aTR
 r115:bR C 115 Wz
 r116:bR C 116 l9
 r117:bR C 117 aaT
 r118:bR C 118 aaW
 r119:bR C 119 aTQ
 r120:bR C 120 CU
 r121:bR C 121 aaV
 r122:bR C 122 aGH
 r123:bR C 123 W2
 r124:bR C 124 Ee
 r125:bR C 125 Ef
 r126:bR C 126 mi
 r127:bR C 127 aVZ
 r128:bR C 128 aID
 r129:bR C 129 aWC
 r130:bR C 130 aWD
 r131:bR C 131 aWF
 r132:bR C 132 aIL
 r133:bR C 133 aWH
 r134:bR C 134 aWJ
 r135:bR C 135 aIN
 r136:bR C 136 Lu
 r137:bR C 137 aiC
 r138:bR C 138 SI
 r139:bR C 139 xq
 r140:bR C 140 aiO
 r141:bR C 141 aiP
 r142:bR C 142 gv
 r143:bR C 143 nup
 r152:bR C 152 nn
 r161:bR C 161 anD
 r201:bR C 201 aSK
 r202:bR C 202 aSN
 r203:bR C 203 Yo
 r204:bR C 204 Yk
 r205:bR C 205 call17
 r206:bR C 206 Zu
 r207:bR C 207 Kf
 r208:bR C 208 aFF
 r209:bR C 209 Kg
 r210:bR C 210 aFS
 r211:bR C 211 Zv
 r231:bR C 231 Y4
 r232:bR C 232 Kl
 r278:bR C 278 Kx
 r279:bR C 279 aaP
 r326:bR C 326 Ww
 r327:bR C 327 Le
 r328:bR C 328 Ym
 r330:bR C 330 Km
 r335:bR C 335 Ko
 r336:bR C 336 Ki
 r337:bR C 337 ut
 r338:bR C 338 aFM
 r348:bR C 348 Zr
 r349:bR C 349 aTV
 r229:∃asg bdy,Ag C 229 (aFR asg bdy)
 r230:∃asg bdy,Ag C 230 (aFQ asg bdy)
namespace L
theorem aZY{f:aD}(h:dC f=true):Z' f.bgH<=1000/\Z' f.bgF<=1000/\Z' f.bgD<=1000:=by
 have d:=(VF.of h).small.bgH;have e:=(VF.of h).small.bgF;have i:=(VF.of h).small.bgD;omega
theorem baN{f:aD}(room:List Int)(h:dC f=true):Xu (kW f room)/\(kW f room).length=Z' f.bgD:=by
 rw[kW,aG h];exact⟨aPN (VF.of h) room,mK f room⟩
variable {C:Ctx} (c:bv C)
include c
theorem xA:yL C:=
 have len:∀xs,Lim xs->Z' xs<=35184372087808->aH C 138 [aN xs] .nil (aI (.int .i64 (nl (val xs):Nat))):=λxs h l=>c.r138.go (aIK xs h l) rfl
 {length:=len
  large:=λxs h l=>c.r137.go (aNX xs (len xs h l)) rfl
  sized:=λxs h l=>(c.r141.go (aOA xs h (len xs h l)) rfl).seen
  trim:=λxs h l=>(c.r135.go (aWK xs h l (len xs h l)) rfl).seen
  make:=λv h=>c.r132.go (aWG v h len) rfl
  cmp:=λxs ys d e i p=>c.r129.go (a3G xs ys d e i p (len xs d i) (len ys e p)) rfl }
theorem a3D:Wo C:=
 {subtract:=λA W Z v f o hW l i e p d=>c.r142.go (aiV A W Z v f hW l i e p d o) rfl
  restore:=λA W Z v o hW l i e=>c.r139.go (arT A W Z v hW l i e o) rfl }
theorem aIB:Xt C:=
 {L:=xA c
  D:=a3D c
  up:=λa s i w e=>c.r143.go (a6W a s i w e) rfl
  short:=λa d i l p e=>c.r140.go (aNZ (xA c) a d i l p e) rfl
  lengthO:=λxs o x u=>c.r138.go (arS xs x u o) rfl }
theorem Fu(A B:Nat)(hB:B≠0)(e:nl A<=900)(d:nl B<=900):aH C 136 [aN (aL A),aN (aL B)] .nil (aI (xM A B)):=
 (c.r136.go (aIH (aIB c) A B hB e d) rfl).seen
theorem yZ:AO C:=
 {xA c with
  bits:=λxs h l=>c.r128.go (aWB xs h l ((xA c).length xs h l)) rfl
  add:=λxs ys d e i p=>(c.r127.go (a3E (xA c) xs ys d e i p) rfl).seen
  sub:=λxs ys d e i p=>(c.r134.go (a3M (xA c) xs ys d e i p) rfl).seen
  mul:=λxs ys d e i p=>(c.r133.go (a3L (xA c) xs ys d e i p) rfl).seen
  gcd:=λxs ys d e i p=>(c.r131.go (a3K (xA c) (Fu c) xs ys d e i p) rfl).seen
  div:=λxs ys d e i p=>(c.r130.go (a3H (xA c) (Fu c) xs ys d e i p) rfl).seen }
theorem IC:LO C:=
 {yZ c with
  times:=λa b d hb e i l p=>c.r121.go (aMX (yZ c) a b d hb e i l p) rfl
  zero:=λneg a b d e=>c.r122.go (aTY (yZ c) neg a b d e) rfl
  valid:=λneg a b d hb e i=>c.r118.go (aMY (yZ c) neg a b d hb e i) rfl
  abs:=λv w x=>c.r119.go (a1H (yZ c) v w x) rfl
  lowest:=λneg a b d hb e i l p u=>(c.r120.go (aGD (yZ c) neg a b d hb e i l p u) rfl).seen }
theorem aaQ(x y:RF)(d:x.Ok)(e:y.Ok):aH C 113 [.agg x.cells,.agg y.cells] .nil (aI (frV (gY x.v y.v))):=
 (c.r113.go (a1I (IC c) x.neg y.neg x.num x.den y.num y.den d.1 d.2.1 e.1 e.2.1 d.2.2.1 d.2.2.2 e.2.2.1 e.2.2.2) rfl).seen
theorem qJ:AJ C:=
 {IC c with
  frac:=λn d w p=>(c.r115.go (aTU (IC c) n d w.1 w.2 p.1 p.2) rfl).seen
  red:=λx e=>by rw[<-aJA];exact(c.r116.go (aGE (IC c) x.neg x.num x.den e.1 e.2.1 e.2.2.1 e.2.2.2) rfl).seen
  ord:=λx y e i=>(c.r114.go (a1J (IC c) x.neg y.neg x.num x.den y.num y.den e.1 e.2.1 i.1 i.2.1 e.2.2.1 e.2.2.2 i.2.2.1 i.2.2.2) rfl).seen
  plus:=aaQ c
  tot:=λl u=>(c.r117.go (a1R (IC c) (aaQ c) l u.all u.fits) rfl).seen }
theorem IB:AI C:=
 have inn:∀n lo hi:Int,aH C 104 [.int .i64 n,.int .i64 lo,.int .i64 hi] .nil (aI (.bool (within n lo hi))):=λn lo hi=>(c.r104.go (a6G n lo hi) rfl).seen;have wL:∀x:RF,x.Ok->aH C 97 [.agg x.cells] .nil (aI (.bool (bZ x))):=λx i=>(c.r97.go (aMZ (yZ c) x i) rfl).seen;have lim:∀x:RF,x.Ok->aH C 105 [.agg x.cells] .nil (aI (.bool (dT x))):=λx i=>(c.r105.go (a1U (qJ c) x i) rfl).seen;have d:∀n:Nat,aH C 126 [.int .u8 n] .nil (aI (.bool (gV n))):=λn=>c.r126.go (aHO n) rfl;have e:∀n:Nat,aH C 124 [.int .u8 n] .nil (aI (.bool (rK n))):=λn=>c.r124.go (aNG n) rfl
 {qJ c with
  inn:=inn
  wL:=wL
  lim:=lim
  one:=λx i=>(c.r101.go (a1W (qJ c) x i) rfl).seen
  allf:=λp fn l u h=>(c.r99.go (aUA p fn l u h) rfl).seen
  alli:=λp fn l u h=>(c.r100.go (aUB p fn l u h) rfl).seen
  allb:=λp fn l u h=>(c.r98.go (aTZ p fn l u h) rfl).seen
  ends1:=λb=>(c.r103.go (aNA b) rfl).seen
  num1:=λn=>(c.r107.go (aUH inn n) rfl).seen
  rate1:=λx i=>(c.r109.go (aNC lim wL x i) rfl).seen
  name:=λs=>c.r123.go (aVE d (λn=>c.r125.go (aNK d e n) rfl) s) rfl }
theorem aaH:Xo C:=
 {IB c with
  num:=λp hp=>(c.r106.go (a1V (IB c) p hp) rfl).seen
  rate:=λp hp=>(c.r108.go (aUJ (IB c) p hp) rfl).seen
  uniq:=λl d=>(c.r110.go (aUN (IB c) l d) rfl).seen }
theorem aaI:zw C:=
 {aaH c with
  ends:=λl e d=>(c.r102.go (aUD (IB c) l e d) rfl).seen }
theorem aTT:pO C:=
 {aaI c with
  law:=λl e=>(c.r95.go (a1T (aaI c) l e) rfl).seen
  pol:=λp n hp i=>(c.r112.go (a1X (aaH c) p hp n i) rfl).seen
  bgM:=λf d=>(c.r111.go (a1S (IB c) f d) rfl).seen }
theorem EO(f:aD)(d:f.Ok):aH C 96 [.agg f.cells] .nil (aI (.int .i64 (uR f))):=(c.r96.go (a2A (aTT c) f d) rfl).seen
theorem uK:wK C:={ trimM:=λxs h l=>c.r38.go (aYO xs h l) rfl }
theorem ajU:Xv C:=
 {uK c with
  make:=λv h=>(c.r35.go (aYE (uK c) v h) rfl).seen
  large:=λxs h l=>(c.r41.go (aQQ (uK c) xs h l) rfl).seen
  cmp:=λxs ys d e i p=>c.r32.go (a4U (uK c) xs ys d e i p) rfl }
theorem ajW:Xx C:=
 {ajU c with
  minus:=λa b e hb i p d=>(c.r42.go (aQR (uK c) a b e hb i p d) rfl).seen
  times:=λa b e hb d l=>(c.r44.go (aQV (uK c) a b e hb d l) rfl).seen }
theorem x7:Ad C:=
 {ajW c with
  plus:=λa b i hb d e=>(c.r43.go (aYL (uK c) a b i hb d e) rfl).seen }
theorem aWX:ca C:=
 {x7 c with
  bits:=λxs h l=>c.r31.go (aXY (uK c) xs h l) rfl
  upM:=λa n e d i p=>c.r45.go (a8B (uK c) a n e d i p) rfl
  down:=λa n e d i=>(c.r40.go (aYC (uK c) a n e d i) rfl).seen }
theorem x6:Ab C:=
 {ajU c with
  divide:=λA B hB e d=>(c.r39.go (aJX (aWX c) A B hB e d) rfl).seen }
theorem ajV:Xw C:=
 {x6 c with
  gcd:=λa b d hb e i=>(c.r34.go (a4W (x6 c) a b d hb e i) rfl).seen
  div:=λa b d hb e i=>(c.r33.go (a4V (x6 c) a b d hb e i) rfl).seen }
theorem Mc:aEM C:=
 {ajV c with
  lowest:=λneg a b i hb l p u w e=>(c.r58.go (aKM (ajV c) neg a b i hb l p u w e) rfl).seen
  size:=λv d=>c.r59.go (aYW v d.1 d.2) rfl }
theorem KN:Ac C:=
 {Mc c with
  fmk:=λn d i e=>(c.r50.go (apJ (Mc c) n d i e) rfl).seen }
theorem IJ(hi:IT C):AM C:=
 {KN c with
  int:=λn d=>(c.r47.go (M3 (KN c) n d) rfl).seen
  itoa:=hi
  next:=λl v T o n a d e=>c.r4.go (aVW T o n a d e) rfl }
theorem agE(hi:IT C):Xr C:=
 {IJ c hi with
  frac:=λl v T o a d=>c.r1.go (aVN (IJ c hi) T o a d) rfl }
theorem agF(hi:IT C):AN C:=
 {agE c hi with
  rep:=λl v T o a m e d=>c.r5.go (a3A (agE c hi) T o a m e d) rfl
  name:=λs n p i=>c.r29.go (aVU (IJ c hi) s n p i) rfl }
theorem agG(hi:IT C):sP C:=
 {agF c hi with
  law:=λl v T o eS a i d e=>c.r2.go (a2V (agF c hi) T o eS a i d e) rfl }
theorem agH(hi:IT C):Xs C:=
 {agG c hi with
  grow:=λl v T mc bgD d e i=>acZ (agG c hi) T mc bgD d e i (λargs H R p h=>c.r7 args H R (by rw[p];decide) h) 4 (bhV _) }
theorem wm(hi:IT C):aLD C:=
 {agH c hi with
  new:=λl hb p=>c.r28.go (a2Y l hb p) rfl
  fleet:=λl v T o bgD bgF a d e i=>bw.exact (c.r0.go (aNR (agH c hi) T o bgD bgF a d e i) rfl) }
theorem Me:Wt C:=
 {KN c with
  int:=λn l=>(c.r47.go (M3 (KN c) n l) rfl).seen
  mul:=λa b d hb e i=>(c.r36.go (a4X (ajW c) a b d hb e i) rfl).seen
  add:=λa b d hb e i=>(c.r30.go (a4T (x7 c) a b d hb e i) rfl).seen
  sub:=λa b d hb e i=>(c.r37.go (a5A (x7 c) a b d hb e i) rfl).seen }
theorem x8:Ae C:=
 {Me c with
  valid:=λx d=>c.r56.go (aRL (Me c) x.neg x.num x.den d.1 d.2.1 d.2.2.1 d.2.2.2) rfl
  big:=λx=>c.r48.go (aRI x.1 (aL x.2.1) (aL x.2.2)) rfl }
theorem ajX:Xy C:=
 {x8 c with
  fits:=λx=>(c.r57.go (aYQ (x8 c) x) rfl).seen
  red:=λx e=>(c.r52.go (aKN (x8 c) x e) rfl).seen
  prod:=λa b d hb i l p u=>c.r60.go (aRK (Me c) a b d hb i l p u) rfl }
theorem KO:IW C:=
 {ajX c with
  order:=λx y d e i l=>c.r51.go (aRJ (ajX c) x y d e i l) rfl }
theorem Md:aEN C:=
 {KO c with
  less:=λx y d e i l=>c.r49.go (aYT (KO c) x y d e i l) rfl
  same:=λx y d e i l=>c.r53.go (aYU (KO c) x y d e i l) rfl
  sign:=λx d i=>c.r54.go (aYV (KO c) x d i) rfl
  plus:=λx y d e=>(c.r46.go (a5B (KO c) x y d e) rfl).seen }
theorem x5:Aa C:=
 {Md c with
  sum:=λl e d=>(c.r55.go (a5D (Md c) l e d) rfl).seen
  inn:=λn lo hi=>c.r76.go (aKY n lo hi) rfl
  code:=λk m=>c.r61.go (aXK k m) rfl }
theorem St:J2 C:=
 {x5 c with
  small:=λx d=>c.r74.go (aRW (x5 c) x d) rfl
  nums:=λk m q s0 s1 s2 s3 s4=>c.r72.go (asT (x5 c) k m q s0 s1 s2 s3 s4) rfl
  sizes:=λe i l p u w=>c.r73.go (aRV e i l p u w) rfl }
theorem Su:J3 C:=
 {St c with
  smalls:=λl d n=>c.r75.go (aKX (St c) l d n) rfl }
theorem Sv:J4 C:=
 {Su c with
  reps:=λl d m=>c.r66.go (a5H (Su c) l d m) rfl }
theorem Sw:J5 C:=
 have d:∀n:Nat,aH C 65 [.int .u8 n] .nil (aI (.bool (gV n))):=λn=>c.r65.go (aKT n) rfl;have e:∀n:Nat,aH C 63 [.int .u8 n] .nil (aI (.bool (rK n))):=λn=>c.r63.go (aRM n) rfl
 {Sv c with
  name:=λs=>c.r62.go (aKS d (λn=>c.r64.go (aKR d e n) rfl) s) rfl
  index:=λl i s=>c.r71.go (aRT l i s) rfl }
theorem Sy:wJ C:=
 {Sw c with
  fresh:=λl e s w H d=>c.r70.go (aRS (Sw c) l e s w H d) rfl }
theorem aPE:zM C:=
 {Sy c with
  law:=λl d=>c.r68.go (a5G (Sy c) l d) rfl }
theorem aPF:J6 C:=
 {aPE c with
  dur:=λm rep e t h i d=>c.r69.go (a5F (Sv c) m rep e t h i d) rfl }
theorem KM:b9 C:=
 {valid:=λf u=>c.r67.go (aRZ (aPF c) f u) rfl
  wL:=λf d level e p i l=>c.r88.go (aPS f e d p level i l) rfl
  aTX:=λf v e h=>(c.r82.go (akQ f e v h) rfl).seen }
theorem aPG:asW C:=
 {KM c with
  bad:=λf row d=>c.r89.go (a4G f row d) rfl }
theorem aPH:lf C:=
 {aPG c with
  allowed:=λf p d hV hp e=>c.r77.go (asB f hV p hp d e) rfl
  count:=λf row n hV l i=>c.r80.go (aPT (KM c).toaLF f hV row l n i) rfl }
theorem Sz:J7 C:=
 {KM c with
  room:=λf room e=>(c.r85.go (aXP (KM c) f e room) rfl).seen
  loads:=λf l e u=>(c.r84.go (aQE (KM c) f e l u) rfl).seen
  row:=λf v row hV d p i=>(c.r90.go (a4P (aPH c) f hV d v p row i) rfl).seen }
theorem aWW:aLE C:=
 {Sz c with
  viol:=λf l room d e=>(c.r87.go (aXS (Sz c) f d l e room) rfl).seen }
theorem aRP:aZJ C:=
 {adm:=λf p set hV hp d l=>c.r201.go (a0Q f hV p hp d set l) rfl
  asc:=λset n top i=>c.r202.go (a0T set i n top) rfl
  known:=λf bgP e=>c.r203.go (aLT (EO c) f e bgP) rfl }
theorem aDO:zu C:=
 {aRP c with
  subs:=λn top=>c.r210.go (aTD n top) rfl
  iter:=λl o1 o2 n top J y e i w x u A H p d b1 b2 g1 g2=>c.r211.go (aSQ J y e i w x u p d b1 b2 g1 g2) rfl }
theorem Nf:Xk C:=
 {aDO c with
  sets:=λf p hV w hp d x l y u=>by obtain⟨e,i,r⟩:=c.r229;exact(r.go (aTB (aDO c) e i f hV w p hp d x l y u) rfl).seen }
theorem Ng:Xl C:=
 {Nf c with
  val:=EO c
  units:=λf lv hV d h5=>(c.r206.go (aMC f hV lv d h5) rfl).seen
  choose:=λm n e i=>c.r207.go (aFE m n e i) rfl }
theorem Nh:aLB C:=
 {Ng c with
  DK:=λf lv cnt i=>by obtain⟨d,e,r⟩:=c.r230;exact(r.go (Zb (Ng c) d e f i lv cnt) rfl).seen
  admis:=λf bgP set i x=>c.r204.go (aLP (aRP c) f i bgP set x) rfl
  loss:=λsc set m l p u w=>c.r208.go (aSR sc l p set u w m) rfl }
theorem a2K(f:aD)(lv cnt:Int)(i:f.Ok):aH C 230 [.agg f.cells,rN lv cnt] .nil (aI (.tup [lay (gP f lv cnt),.int .i64 (gJ f lv cnt)])):=by
 obtain⟨d,e,r⟩:=c.r230;exact(r.go (Zb (Ng c) d e f i lv cnt) rfl).seen
theorem baL(hi:IT C):Wp C:=
 {qJ c with
  fleet:=λl hb p bgD bgF d e=>(c.r27.go (aNQ (wm c hi) l hb p bgD bgF d e) rfl).seen
  val:=EO c
  all:=λf bgP i=>(c.r205.go (aLQ (Nf c) f i bgP) rfl).seen
  DK:=a2K c
  sets:=(Nf c).sets }
theorem aZA(x:RF):aH C 279 [.agg x.cells] .nil (aI (.agg x.xk.cells)):=c.r279.go (aMT x) rfl
theorem bbE:aSB C:=
 {Nh c with
  fr:=qJ c
  Kx:=λx y d e=>c.r278.go (a1Q (qJ c) (aZA c) x y d e) rfl
  price1:=λx d=>c.r232.go (aFN (qJ c) x d) rfl }
theorem aZB(f:aD)(bgP lv cnt:Int)(prices:List RF)(l:f.Ok)(d:∀x∈prices,x.Ok)(e:∀x∈prices,nl (val x.num)<=8/\nl (val x.den)<=8)(i:Z' prices<=1000000):aH C 231 [.agg f.cells,.int .i64 bgP,rN lv cnt,frs prices] .nil (aI (vZ f bgP lv cnt prices)):=
 (c.r231.go (aLX (bbE c) f l bgP lv cnt prices d e i) rfl).seen
theorem a8F(n:Int)(h:dL n):aH C 47 [.int .i64 n] .nil (aI (.agg (mkT n 1).cells)):=(c.r47.go (M3 (KN c) n h) rfl).seen
theorem a7C(f:aD)(d:f.Ok):aH C 161 [.agg f.cells] .nil (aI (.bool (dC f))):=(c.r161.go (aQN (EO c) f d) rfl).seen
theorem a3V(f:aD)(room:List Int)(d:f.Ok):aH C 152 [.agg f.cells,ints room] .nil (aI (ints (kW f room))):=(c.r152.go (aQM (a7C c) f d room) rfl).freeze
theorem aZX:aEJ C:=
 {vald:=EO c
  prices:=λl p d n=>c.r335.go (aFP (λx i=>c.r348.go (aMA (qJ c) x i) rfl) l p d n) rfl
  number:=λn e=>c.r336.go (Bg (qJ c) n e) rfl
  demands:=λf hV hp w=>(c.r337.go (arD f hV hp w) rfl).seen
  plus:=λs x u i n e=>c.r338.go (aSX (qJ c) (λn e=>c.r336.go (Bg (qJ c) n e) rfl) (λx y i A=>(c.r349.go (a1M (qJ c).toLO x y i A) rfl).seen) s x u i n e) rfl
  room:=a3V c }
theorem a7A:Xj C:=
 {aZX c with
  DK:=(Nh c).DK
  ord:=(qJ c).ord
  price:=aZB c }
theorem azW(hi:IT C):asU C:=
 {new:=(wm c hi).new
  tfleet:=(wm c hi).fleet
  nn:=λl v T o a f i e=>exactly (c.r6.go (aVY (IJ c hi) T o a f i e) rfl)
  next:=λl v T o n a p e=>(IJ c hi).next l v T o n a p e
  fmk:=λn d p i=>(c.r50.go (apJ (Mc c) n d p i) rfl).seen }
theorem a7B(hi:IT C)(A:aH C 332 [] .nil (aI (.bool true))):aZN C:=
 {read:=λl hb p=>c.r326.go (aSY (azW c hi).toaKZ l hb p 7 3 aS aS) rfl
  prs:=λl v T o n sh a B w d=>exactly (c.r327.go (aHP (azW c hi) l v T o n sh a B w d) rfl)
  tlayout:=λl v T o a f hV d=>exactly (c.r3.go (aHX (IJ c hi) T o a f hV (λi h=>(c.r82.go (akQ f hV i h) rfl).seen) d) rfl)
  priced:=λf lv cnt a b e _ d hb u x y=>c.r330.go (aFO (a7A c) f e lv cnt a b d hb u x y (λh=>by have:=aZY h;omega)) rfl
  rholds:=λf l room e p=>c.r83.go (aQB (aWW c) f e l p room) rfl
  bound:=λf room a b e _ d hb x y=>(c.r328.go (aLS (aZX c) f e room a b d hb Om Om (baN room) (λh=>by have:=aZY h;omega)) rfl).seen
  loss:=λf bgP set lv cnt e p=>c.r209.go (aFH (Nh c) f e bgP set p lv cnt) rfl
  int:=a8F c
  less:=(Md c).less
  lh:=A }
end L
theorem aUX(c:bv C)(hi:IT C)(d:aH C 332 [] .nil (aI (.bool true)))(r:bR C 325 W3)(l:List Nat)(hb:∀x∈l,x<256)(e:Z' l<=9223372036854775807) :
  aH C 325 [.sl 1 (mE l)] .nil (aI (.bool true)):=r.go (aVI (L.a7B c hi d) l hb e) rfl
end Go.PM
