/-Lemmas for the law. No condition.-/
import Derived.Test.YtfeiflgckfjohabGreatDoorIR6

set_option linter.unusedSimpArgs false
set_option linter.unusedVariables false
open Nat renaming reduceEqDiff->γ,reduceAdd->δ,reduceSub->ε,reduceMul->ζ,reduceLT->η,reduceLeDiff->θ
open Int renaming reduceLT->ι,reduceLE->κ,reduceEq->μ,reduceToNat->ν
open List renaming length_map->apP,range->apQ,length_append->apV,getElem_mem->apW,getD_eq_getElem?_getD->apY,getElem?_eq_getElem->apZ,getElem?_map->aqE,all_eq_true->aqM,mem_range->aqN,take_of_length_le->aqR,take_succ_eq_append_getElem->arB,length_set->arD,getElem_of_mem->arF,getElem_map->arI,getElem?_append_right->arS,range_succ->arV,getElem?_append_left->asE,nil_append->atL,all_append->atQ,all_cons->atS,mem_or_eq_of_mem_set->auB
open Nat renaming zero_le->apR,gcd->apS,le_refl->apU,pos_of_ne_zero->atB
open Bool renaming and_eq_true->apT,not_true->aqC,false_and->aqD,not_false->aqI,true_and->aqL,and_true->arY,and_assoc->atG
open Int renaming toNat_natCast->arP
open List renaming length->Z'
set_option maxRecDepth 100000
set_option maxHeartbeats 800000
open Go.IntKind renaming i64->i_,u64->u_
open Go.PM.PF renaming nil->n_
noncomputable section
namespace Go.PM
open Go Go.Na
theorem UX{a b c d e f:Nat}(h:uU a b c d e f=true):a<=4/\b<=4/\c<=40/\d<=24/\e<=4/\f<=12:=by
 simp only[uU,apT,dT_]at h;omega
theorem p6{n:Nat}(h:n<=1000):i_.wrap ((n:Int)-1)=(n:Int)-1:=wrap_i64 Om Om
def inS:Spec:=λname vs=>match name,vs with
 |76,[.int _ n,.int _ lo,.int _ hi]=>some ([],λ_=>aL (.bool (within n lo hi)))
 |_,_=>none
def rr(aoK:Nat)(m:dL):Bool:=within m.aoT 1 16&&(within m.port 1 64&&within m.law 0 ((aoK:Int)-1))
def Ei(pols:Nat)(v:fV):Bool:=within v.aoP 0 ((pols:Int)-1)
def FF(f:aB):Bool:=(apQ f.aoD.length).all (okL [] (f.aoD.map dL.name) λi=>(f.aoD.map (rr f.aoK.length)).getD i false)
variable{C:Ctx}
theorem S0(L:xY C)(f:aB)(hf:f.Ok)(hz:uU f.aoK.length f.aoD.length f.aoF.length f.aoC.length f.aoG.length f.aoE.length=true)(b:Bool)(K:bT)[Up K](F:PF)(H:PH)
  (hF:((((((((n_.set 1 (.aU f.cells)).set 4 (.aG)).set 5 (.aG)).set 6 (.aG)).set 7 (.aG)).set 8 (.bool b)).set 10 (.j 0)):PF).le F)
  (U:∀H',K (.exit 2) ((((((n_.set 1 (.aU f.cells)).set 5 (.aG)).set 6 (.aG)).set 7 (.aG)).set 8 (.bool (b&&FF f)))) H'):aI.wp C (.loop RD) K F H:=by
 obtain⟨β,γ,δ,ε,ζ,η⟩:=UX hz;obtain⟨ok,E⟩:∃ok,okL [] (f.aoD.map dL.name) (λi=>(f.aoD.map (rr f.aoK.length)).getD i false)=ok:=⟨_,rfl⟩;unfold FF at U;rw[E]at U;refine wp_loop (α:=T3_) (λs=>(((((((n_.set 1 (.aU f.cells)).set 4 (s.2.1)).set 5 (.aG)).set 6 (.aG)).set 7 (.aG)).set 8 (.bool (b&&(apQ s.1).all ok))).set 10 (.j s.1))) (λs=>s.2.2) (λs=>s.1<=Z' f.aoD/\kG s.2.2 s.2.1 [] (f.aoD.map dL.name) (b&&(apQ s.1).all ok) s.1) (λs=>Z' f.aoD-s.1)
  (0,.aG,H) ⟨apR _,⟨[],aO.nil.oF 1,λ_=>rfl⟩⟩ (by
   have e:(b&&(apQ 0).all ok)=b:=by cases b<;>rfl
   simp only[e];exact hF) b_ ?_
 rintro⟨i,w,N⟩ ⟨hi,Z⟩;simp only at hi Z ⊢;have fin:∀(c:Bool)(y:PV)(M:PF)(H':PH),i<Z' f.aoD->(b&&(apQ (i+1)).all ok)=c->kG H' y [] (f.aoD.map dL.name) true (i+1) ->
   ((((((((n_.set 1 (.aU f.cells)).set 4 (y)).set 5 (.aG)).set 6 (.aG)).set 7 (.aG)).set 8 (.bool c)).set 10 (.j (i+1:Nat))):PF).le M ->
   fK (λs:T3_=>(((((((n_.set 1 (.aU f.cells)).set 4 (s.2.1)).set 5 (.aG)).set 6 (.aG)).set 7 (.aG)).set 8 (.bool (b&&(apQ s.1).all ok))).set 10 (.j s.1))) (λs=>s.2.2) (λs=>s.1<=Z' f.aoD/\kG s.2.2 s.2.1 [] (f.aoD.map dL.name) (b&&(apQ s.1).all ok) s.1) (λs=>Z' f.aoD-s.1) (Z' f.aoD-i) K .normal M H':=
  λc y M H' hlt hb S R=>aF (i+1,y,H') ⟨hlt,S.s7⟩ sO_ (by simp only;rw[hb];exact R) b_
 have l:=xE (p:=ok) i b;have A:(b&&(apQ i).all ok)=(b&&(apQ f.aoD.length).all ok)->K (.exit 2) ((((((n_.set 1 (.aU f.cells)).set 5 (.aG)).set 6 (.aG)).set 7 (.aG)).set 8 (.bool (b&&(apQ i).all ok)))) N:=λe=>by rw[e];exact U N
 have D:=λh=>xD (p:=ok) (b:=b) hi h;generalize hc:(b&&(apQ i).all ok)=c at *
 simp only[go_sem,RD,apP];by_cases hlt:i<Z' f.aoD
 ·have u:(i:Int)<(Z' f.aoD:Nat):=Om;cases c with
  |false =>simp only[go_sem,u];exact Up.up Lq (A (D rfl).symm)
  |true=>
   obtain⟨Y,g1,g3⟩:=Z.ex;have V:(f.aoD.map dL.cells)[i]?=some (f.aoD[i]).cells:=by simp[hlt]
   have W:i<(f.aoD.map dL.name).length:=by rw[apP];exact hlt
   have J:ok i=(lG ([]++(f.aoD.map dL.name).take i) ((f.aoD.map dL.name).getD i [])&&(rr f.aoK.length) f.aoD[i]):=by rw[<-E];unfold okL;simp[apY,hlt]
   rw[J]at l;have B:rr f.aoK.length f.aoD[i]=(within (f.aoD[i]).aoT 1 16&&(within (f.aoD[i]).port 1 64&&within (f.aoD[i]).law 0 ((Z' f.aoK:Int)-1))):=rfl;rw[B]at l;simp only[go_sem,u,V];refine aQ λo ho=>?_;have g4:=g1.new ho (.rows 4 [(f.aoD[i]).cells]);have g5:=g4.at 0 rfl;simp only[go_sem];generalize N.set o (.rows 4 [(f.aoD[i]).cells])=H2 at *
   try simp only[go_sem,g5]
   refine kG.call L.tovC (ns:=(f.aoD.map dL.name)) g4 (apR _) Om (g3 rfl) W (by simp only[go_sem,arI]) λy H1 h1 x=>?_;have O:=h1.at 0 rfl;generalize lG ([]++(f.aoD.map dL.name).take i) ((f.aoD.map dL.name).getD i [])=fb at *
   cases fb with
   |false =>simp only[go_sem,wZz i];exact fin false y _ _ hlt (l.trans rfl) x Lq
   |true=>
    simp only[go_sem,O];refine aD (L.inn (f.aoD[i]).aoT 1 16) rfl ?_;cases X:within (f.aoD[i]).aoT 1 16 with
    |false =>simp only[go_sem,wZz i];exact fin false y _ _ hlt (by rw[l,X]<;>simp) x Lq
    |true=>
     simp only[go_sem,O];refine aD (L.inn (f.aoD[i]).port 1 64) rfl ?_;cases k1:within (f.aoD[i]).port 1 64 with
     |false =>simp only[go_sem,wZz i];exact fin false y _ _ hlt (by rw[l,X,k1]<;>simp) x Lq
     |true =>simp only[go_sem,O,apP,p6 (Om:Z' f.aoK<=1000)];refine aD (L.inn (f.aoD[i]).law 0 ((Z' f.aoK:Int)-1)) rfl ?_;simp only[go_sem,wZz i];exact fin _ y _ _ hlt (by rw[l,X,k1]<;>simp) x Lq
 have u:¬(i:Int)<(Z' f.aoD:Nat):=Om;have:i=Z' f.aoD:=Om;subst this;simp only[go_sem,u];exact Up.up Lq (A hc.symm)
def yy(f:aB):Bool:=(apQ f.aoE.length).all (okL [] (f.aoE.map fV.name) λi=>(f.aoE.map (Ei f.aoG.length)).getD i false)
theorem acZ(L:xY C)(f:aB)(hf:f.Ok)(hz:uU f.aoK.length f.aoD.length f.aoF.length f.aoC.length f.aoG.length f.aoE.length=true)(b:Bool)(K:bT)[Up K](F:PF)(H:PH)
  (Y:(((((n_.set 1 (.aU f.cells)).set 7 (.aG)).set 8 (.bool b)).set 21 (.j 0)):PF).le F)
  (S:∀H',K (.exit 14) (((n_.set 1 (.aU f.cells)).set 8 (.bool (b&&yy f)))) H'):aI.wp C (.loop EU) K F H:=by
 obtain⟨β,γ,δ,ε,ζ,η⟩:=UX hz;obtain⟨ok,J⟩:∃ok,okL [] (f.aoE.map fV.name) (λi=>(f.aoE.map (Ei f.aoG.length)).getD i false)=ok:=⟨_,rfl⟩;unfold yy at S;rw[J]at S;refine wp_loop (α:=T3_) (λs=>((((n_.set 1 (.aU f.cells)).set 7 (s.2.1)).set 8 (.bool (b&&(apQ s.1).all ok))).set 21 (.j s.1))) (λs=>s.2.2) (λs=>s.1<=Z' f.aoE/\kG s.2.2 s.2.1 [] (f.aoE.map fV.name) (b&&(apQ s.1).all ok) s.1) (λs=>Z' f.aoE-s.1)
  (0,.aG,H) ⟨apR _,⟨[],aO.nil.oF 1,λ_=>rfl⟩⟩ (by
   have e:(b&&(apQ 0).all ok)=b:=by cases b<;>rfl
   simp only[e];exact Y) b_ ?_
 rintro⟨i,w,W⟩ ⟨hi,X⟩;simp only at hi X ⊢;have fin:∀(c:Bool)(A:PV)(N:PF)(H':PH),i<Z' f.aoE->(b&&(apQ (i+1)).all ok)=c->kG H' A [] (f.aoE.map fV.name) true (i+1) ->
   (((((n_.set 1 (.aU f.cells)).set 7 (A)).set 8 (.bool c)).set 21 (.j (i+1:Nat))):PF).le N ->
   fK (λs:T3_=>((((n_.set 1 (.aU f.cells)).set 7 (s.2.1)).set 8 (.bool (b&&(apQ s.1).all ok))).set 21 (.j s.1))) (λs=>s.2.2) (λs=>s.1<=Z' f.aoE/\kG s.2.2 s.2.1 [] (f.aoE.map fV.name) (b&&(apQ s.1).all ok) s.1) (λs=>Z' f.aoE-s.1) (Z' f.aoE-i) K .normal N H':=
  λc A N H' hlt hb R O=>aF (i+1,A,H') ⟨hlt,R.s7⟩ sO_ (by simp only;rw[hb];exact O) b_
 have l:=xE (p:=ok) i b;have x:(b&&(apQ i).all ok)=(b&&(apQ f.aoE.length).all ok)->K (.exit 14) (((n_.set 1 (.aU f.cells)).set 8 (.bool (b&&(apQ i).all ok)))) W:=λe=>by rw[e];exact S W
 have D:=λh=>xD (p:=ok) (b:=b) hi h;generalize Z:(b&&(apQ i).all ok)=c at *
 simp only[go_sem,EU,apP];by_cases hlt:i<Z' f.aoE
 ·have u:(i:Int)<(Z' f.aoE:Nat):=Om;cases c with
  |false =>simp only[go_sem,u];exact Up.up Lq (x (D rfl).symm)
  |true=>
   obtain⟨V,g1,g3⟩:=X.ex;have E:(f.aoE.map fV.cells)[i]?=some (f.aoE[i]).cells:=by simp[hlt]
   have U:i<(f.aoE.map fV.name).length:=by rw[apP];exact hlt
   have M:ok i=(lG ([]++(f.aoE.map fV.name).take i) ((f.aoE.map fV.name).getD i [])&&(Ei f.aoG.length) f.aoE[i]):=by rw[<-J];unfold okL;simp[apY,hlt]
   rw[M]at l;have y:Ei f.aoG.length f.aoE[i]=within (f.aoE[i]).aoP 0 ((Z' f.aoG:Int)-1):=rfl;rw[y]at l;simp only[go_sem,u,E];refine kG.call L.tovC (ns:=(f.aoE.map fV.name)) g1 (apR _) Om (g3 rfl) U (by simp only[go_sem,arI]) λA H1 h1 B=>?_;generalize lG ([]++(f.aoE.map fV.name).take i) ((f.aoE.map fV.name).getD i [])=fb at *
   cases fb with
   |false =>simp only[go_sem];refine bE .nil (inS) a_ ?_;simp only[go_sem,wZz i];exact fin false A _ _ hlt (l.trans rfl) B Lq
   |true =>simp only[go_sem];refine bE .nil (inS) a_ ?_;simp only[go_sem,E,apP,p6 (Om:Z' f.aoG<=1000)];refine cM rfl (L.inn (f.aoE[i]).aoP 0 ((Z' f.aoG:Int)-1)) rfl a_ ?_;simp only[go_sem,wZz i];exact fin _ A _ _ hlt (l.trans rfl) B Lq
 have u:¬(i:Int)<(Z' f.aoE:Nat):=Om;have:i=Z' f.aoE:=Om;subst this;simp only[go_sem,u];exact Up.up Lq (x Z.symm)
def Kr:Spec:=λname vs=>match name,vs with
 |76,[.int _ n,.int _ lo,.int _ hi]=>some ([],λ_=>aL (.bool (within n lo hi)))
 |74,[.agg cs]=>some ([],λ_=>aL (.bool (dO (frD cs))))
 |_,_=>none
theorem Ks(x:RF):Kr 74 [.agg x.cells]=some ([],λ_=>aL (.bool (dO x))):=by
 show some ([],λ_=>aL (.bool (dO (frD x.cells))))=_;rw[tv]
def Am(f:aB)(i:Nat)(d:cQ):Bool:=
 within d.level 1 4&&(within d.parent 0 i&&(((f.aoF.map cQ.level).getD d.parent.toNat 0==i_.wrap (d.level-1))&&(within d.aoX 1 64&&dO d.aoS)))
theorem Zd(f:aB)(i:Nat)(d:cQ):NE f i d=Am f i d:=by
 unfold NE Am;have:decide ((f.aoF.map cQ.level).getD d.parent.toNat 0=i_.wrap (d.level-1))=((f.aoF.map cQ.level).getD d.parent.toNat 0==i_.wrap (d.level-1)):=by generalize(f.aoF.map cQ.level).getD d.parent.toNat 0=u;by_cases h:u=i_.wrap (d.level-1)<;>simp[h]
 rw[this];cases within d.parent 0 i<;>cases within d.level 1 4<;>cases within d.aoX 1 64<;>simp
def kA(f:aB):List (List UInt8):=(f.aoF.drop 1).map cQ.name
def DL(f:aB)(i:Nat):Bool:=match f.aoF[i+1]? with
 |some d=>Am f i d
 |none=>false
def DM(f:aB):Bool:=(apQ (Z' f.aoF-1)).all (okL [] (kA f) (DL f))
theorem Al(f:aB):(kA f).length=Z' f.aoF-1:=by simp[kA]
theorem acW(L:xY C)(f:aB)(hf:f.Ok)(ν:Z' f.aoF<=40)(h0:0<Z' f.aoF)(b:Bool)(K:bT)[Up K](F:PF)(H:PH)
  (hF:(((((((n_.set 1 (.aU f.cells)).set 5 (.aG)).set 6 (.aG)).set 7 (.aG)).set 8 (.bool b)).set 13 (.j 1)):PF).le F)
  (Y:∀w H',kG H' w [] (kA f) (b&&DM f) (Z' f.aoF-1)->K (.exit 4) ((((((n_.set 1 (.aU f.cells)).set 5 (w)).set 6 (.aG)).set 7 (.aG)).set 8 (.bool (b&&DM f)))) H'):aI.wp C (.loop EQ) K F H:=by
 obtain⟨ok,R⟩:∃ok,okL [] (kA f) (DL f)=ok:=⟨_,rfl⟩;unfold DM at Y;rw[R]at Y;obtain⟨n,hn⟩:∃n,Z' f.aoF=n+1:=⟨Z' f.aoF-1,by omega⟩;have θ:=Al f;have η:Z' f.aoF-1=n:=Om;rw[η]at Y θ;refine wp_loop (α:=T3_) (λs=>((((((n_.set 1 (.aU f.cells)).set 5 (s.2.1)).set 6 (.aG)).set 7 (.aG)).set 8 (.bool (b&&(apQ s.1).all ok))).set 13 (.j (s.1+1:Nat)))) (λs=>s.2.2) (λs=>s.1<=n/\kG s.2.2 s.2.1 [] (kA f) (b&&(apQ s.1).all ok) s.1) (λs=>n-s.1)
  (0,.aG,H) ⟨apR _,⟨[],aO.nil.oF 1,λ_=>rfl⟩⟩ (by
   have e:(b&&(apQ 0).all ok)=b:=by cases b<;>rfl
   simp only[e];exact hF) b_ ?_
 rintro⟨i,w,H0⟩ ⟨hi,hG⟩;simp only at hi hG ⊢;have fin:∀(c:Bool)(B:PV)(Z:PF)(H':PH),i<n->(b&&(apQ (i+1)).all ok)=c->kG H' B [] (kA f) true (i+1) ->
   (((((((n_.set 1 (.aU f.cells)).set 5 (B)).set 6 (.aG)).set 7 (.aG)).set 8 (.bool c)).set 13 (.j (i+1+1:Nat))):PF).le Z ->
   fK (λs:T3_=>((((((n_.set 1 (.aU f.cells)).set 5 (s.2.1)).set 6 (.aG)).set 7 (.aG)).set 8 (.bool (b&&(apQ s.1).all ok))).set 13 (.j (s.1+1:Nat)))) (λs=>s.2.2) (λs=>s.1<=n/\kG s.2.2 s.2.1 [] (kA f) (b&&(apQ s.1).all ok) s.1) (λs=>n-s.1) (n-i) K .normal Z H':=
  λc B Z H' hlt hb γ β=>aF (i+1,B,H') ⟨hlt,γ.s7⟩ sO_ (by simp only;rw[hb];exact β) b_
 have l:=xE (p:=ok) i b;have N:=λh=>xD (p:=ok) (b:=b) hi h;have E:(b&&(apQ i).all ok)=(b&&(apQ n).all ok)->((b&&(apQ i).all ok)=true->i=n)->K (.exit 4) ((((((n_.set 1 (.aU f.cells)).set 5 (w)).set 6 (.aG)).set 7 (.aG)).set 8 (.bool (b&&(apQ i).all ok)))) H0:=λe e2=>by
  obtain⟨A,g1,g3⟩:=hG.ex;have:=Y w H0 ⟨A,g1,λh=>by have h':=e.trans h;rw[g3 h',e2 h']⟩
  rwa[<-e]at this
 generalize hc:(b&&(apQ i).all ok)=c at *
 simp only[go_sem,EQ,apP];by_cases hlt:i<n
 ·have x:((i+1:Nat):Int)<(Z' f.aoF:Nat):=Om;cases c with
  |false =>simp only[go_sem,x];exact Up.up Lq (E (N rfl).symm (λh=>by cases h))
  |true=>
   obtain⟨A,g1,g3⟩:=hG.ex;have J:i+1<Z' f.aoF:=Om;have δ:=gD J;have ζ:i<(kA f).length:=Om;have ι:(kA f)[i]=(f.aoF[i+1]).name:=by simp[kA,Nat.add_comm]
   have S:ok i=(lG ([]++(kA f).take i) ((kA f).getD i [])&&Am f i f.aoF[i+1]):=by rw[<-R];unfold okL DL;rw[apZ J]
   have ε:=hf.dom _ (apW J);rw[S]at l;unfold Am at l;have e1:i_.wrap (((i+1:Nat):Int)-1)=(i:Nat):=wO_
   have u:i_.wrap (((i+1:Nat):Int)+1)=((i+1+1:Nat):Int):=fQ Om;have μ:=L.small _ ε.1.ok;simp only[go_sem,x,δ];refine aQ λo ho=>?_;have g4:=g1.new ho (.rows 7 [(f.aoF[i+1]).cells]);have g5:=g4.at 0 rfl;simp only[go_sem];generalize H0.set o (.rows 7 [(f.aoF[i+1]).cells])=H2 at *
   try simp only[go_sem,g5]
   refine kG.call L.tovC (ns:=kA f) g4 (apR _) Om (g3 rfl) ζ (by simp only[go_sem,ι]) λB H1 h1 y=>?_;have M:=h1.at 0 rfl;generalize lG ([]++(kA f).take i) ((kA f).getD i [])=fb at *
   generalize hd:f.aoF[i+1]=D at *
   cases fb with
   |false =>simp only[go_sem];refine bE .nil Kr a_ ?_;simp only[go_sem,u];exact fin false B _ _ hlt (l.trans rfl) y Lq
   |true=>
    simp only[go_sem];refine bE .nil Kr a_ ?_;simp only[go_sem,M];refine cM rfl (L.inn D.level 1 4) Sq a_ ?_;cases W:within D.level 1 4 with
    |false =>simp only[go_sem,u];exact fin false B _ _ hlt (by rw[l,W]<;>simp) y Lq
    |true=>
     simp only[go_sem,M,e1];refine cM rfl (L.inn D.parent 0 (i:Nat)) Sq a_ ?_;cases X:within D.parent 0 (i:Nat)with
     |false =>simp only[go_sem,u];exact fin false B _ _ hlt (by rw[l,W,X]<;>simp) y Lq
     |true=>
      obtain⟨p0,p1⟩:=within_iff.1 X;obtain⟨p,hp⟩:∃p:Nat,D.parent=p:=⟨D.parent.toNat,by omega⟩;have V:p<Z' f.aoF:=Om;obtain⟨lv,O⟩:∃lv,(f.aoF.map cQ.level).getD D.parent.toNat 0=lv:=⟨_,rfl⟩;have κ:(f.aoF[p]).level=lv:=by rw[<-O,hp,arP,getD_at V]
      rw[O]at l;have U:=gD V;simp only[go_sem,M,hp,U,κ];cases k2:lv==i_.wrap (D.level-1)with
      |false =>simp only[go_sem,u];exact fin false B _ _ hlt (by rw[l,W,X,k2]<;>simp) y Lq
      |true=>
       simp only[go_sem,M];refine cM rfl (L.inn D.aoX 1 64) Sq a_ ?_;cases k3:within D.aoX 1 64 with
       |false =>simp only[go_sem,u];exact fin false B _ _ hlt (by rw[l,W,X,k2,k3]<;>simp) y Lq
       |true =>simp only[go_sem,M];refine cM (Ks _) μ Sq a_ ?_;simp only[go_sem,u];exact fin _ B _ _ hlt (by rw[l,W,X,k2,k3]<;>simp) y Lq
 have x:¬((i+1:Nat):Int)<(Z' f.aoF:Nat):=Om;have:i=n:=Om;subst this;simp only[go_sem,x];exact Up.up Lq (E hc.symm (λ_=>rfl))
def Ap(f:aB)(d:eG):Bool:=within d.model 0 ((Z' f.aoD:Int)-1)&&(within d.machine 0 ((Z' f.aoF:Int)-1)&&((f.aoF.map cQ.level).getD d.machine.toNat 0==4))
def pM(f:aB):List (List UInt8):=f.aoC.map eG.name
def BE(f:aB)(i:Nat):Bool:=match f.aoC[i]? with
 |some d=>Ap f d
 |none=>false
def EX(f:aB):Bool:=(apQ f.aoC.length).all (okL (kA f) (pM f) (BE f))
theorem Sz(L:xY C)(f:aB)(hf:f.Ok)(μ:Z' f.aoF<=40)(h0:0<Z' f.aoF)(ν:Z' f.aoC<=24)(κ:Z' f.aoD<=4)(b:Bool)(w0:PV)(K:bT)[Up K](F:PF)(H:PH)
  (γ:kG H w0 [] (kA f) b (Z' f.aoF-1)) (hF:(((((((n_.set 1 (.aU f.cells)).set 5 (w0)).set 6 (.aG)).set 7 (.aG)).set 8 (.bool b)).set 15 (.j 0)):PF).le F)
  (V:∀H',K (.exit 6) (((((n_.set 1 (.aU f.cells)).set 6 (.aG)).set 7 (.aG)).set 8 (.bool (b&&EX f)))) H'):aI.wp C (.loop ER) K F H:=by
 obtain⟨ok,O⟩:∃ok,okL (kA f) (pM f) (BE f)=ok:=⟨_,rfl⟩;unfold EX at V;rw[O]at V;obtain⟨n,hn⟩:∃n,Z' f.aoC=n:=⟨_,rfl⟩;have θ:=Al f;have ι:(pM f).length=n:=by simp[pM,hn]
 rw[hn]at V;refine wp_loop (α:=T3_) (λs=>((((((n_.set 1 (.aU f.cells)).set 5 (s.2.1)).set 6 (.aG)).set 7 (.aG)).set 8 (.bool (b&&(apQ s.1).all ok))).set 15 (.j s.1))) (λs=>s.2.2) (λs=>s.1<=n/\kG s.2.2 s.2.1 (kA f) (pM f) (b&&(apQ s.1).all ok) s.1) (λs=>n-s.1)
  (0,w0,H) ⟨apR _,by
   obtain⟨y,q1,q2⟩:=γ.ex;have e:(b&&(apQ 0).all ok)=b:=by cases b<;>rfl
   refine⟨y,q1,λh=>?_⟩;simp only[e]at h;rw[q2 h,atL,aqR Om];simp⟩ (by
   have e:(b&&(apQ 0).all ok)=b:=by cases b<;>rfl
   simp only[e];exact hF) b_ ?_
 rintro⟨i,w,X⟩ ⟨hi,hG⟩;simp only at hi hG ⊢;have fin:∀(c:Bool)(B:PV)(W:PF)(H':PH),i<n->(b&&(apQ (i+1)).all ok)=c->kG H' B (kA f) (pM f) true (i+1) ->
   (((((((n_.set 1 (.aU f.cells)).set 5 (B)).set 6 (.aG)).set 7 (.aG)).set 8 (.bool c)).set 15 (.j (i+1:Nat))):PF).le W ->
   fK (λs:T3_=>((((((n_.set 1 (.aU f.cells)).set 5 (s.2.1)).set 6 (.aG)).set 7 (.aG)).set 8 (.bool (b&&(apQ s.1).all ok))).set 15 (.j s.1))) (λs=>s.2.2) (λs=>s.1<=n/\kG s.2.2 s.2.1 (kA f) (pM f) (b&&(apQ s.1).all ok) s.1) (λs=>n-s.1) (n-i) K .normal W H':=
  λc B W H' hlt hb β Z=>aF (i+1,B,H') ⟨hlt,β.s7⟩ sO_ (by simp only;rw[hb];exact Z) b_
 have l:=xE (p:=ok) i b;have J:=λh=>xD (p:=ok) (b:=b) hi h;have D:(b&&(apQ i).all ok)=(b&&(apQ n).all ok)->K (.exit 6) (((((n_.set 1 (.aU f.cells)).set 6 (.aG)).set 7 (.aG)).set 8 (.bool (b&&(apQ i).all ok)))) X:=λe=>by rw[e];exact V X
 generalize hc:(b&&(apQ i).all ok)=c at *
 simp only[go_sem,ER,apP];by_cases hlt:i<n
 ·have u:((i:Nat):Int)<(Z' f.aoC:Nat):=Om;cases c with
  |false =>simp only[go_sem,u];exact Up.up Lq (D (J rfl).symm)
  |true=>
   obtain⟨y,g1,g3⟩:=hG.ex;have M:i<Z' f.aoC:=Om;have δ:=kE M;have ε:i<(pM f).length:=Om;have ζ:(pM f)[i]=(f.aoC[i]).name:=by simp[pM]
   have R:ok i=(lG (kA f++(pM f).take i) ((pM f).getD i [])&&Ap f f.aoC[i]):=by rw[<-O];unfold okL BE;rw[apZ M]
   rw[R]at l;unfold Ap at l;have x:i_.wrap ((i:Int)+1)=((i+1:Nat):Int):=fQ Om;have e1:=p6 (Om:Z' f.aoD<=1000);have e2:=p6 (Om:Z' f.aoF<=1000);simp only[go_sem,u,δ];refine aQ λo ho=>?_;have g4:=g1.new ho (.rows 3 [(f.aoC[i]).cells]);have g5:=g4.at 0 rfl;simp only[go_sem];generalize X.set o (.rows 3 [(f.aoC[i]).cells])=H2 at *
   try simp only[go_sem,g5]
   refine kG.call L.tovC (base:=kA f) (ns:=pM f) g4 Om Om (g3 rfl) ε (by simp only[go_sem,ζ]) λB H1 h1 A=>?_;have Y:=h1.at 0 rfl;generalize lG (kA f++(pM f).take i) ((pM f).getD i [])=fb at *
   generalize hd:f.aoC[i]=E at *
   cases fb with
   |false =>simp only[go_sem,x];exact fin false B _ _ hlt (l.trans rfl) A Lq
   |true=>
    simp only[go_sem,Y,apP,e1];refine aD (L.inn E.model 0 ((Z' f.aoD:Int)-1)) rfl ?_;cases k0:within E.model 0 ((Z' f.aoD:Int)-1)with
    |false =>simp only[go_sem,x];exact fin false B _ _ hlt (by rw[l,k0]<;>simp) A Lq
    |true=>
     simp only[go_sem,Y,apP,e2];refine aD (L.inn E.machine 0 ((Z' f.aoF:Int)-1)) rfl ?_;cases k1:within E.machine 0 ((Z' f.aoF:Int)-1)with
     |false =>simp only[go_sem,x];exact fin false B _ _ hlt (by rw[l,k0,k1]<;>simp) A Lq
     |true=>
      obtain⟨p0,p1⟩:=within_iff.1 k1;obtain⟨p,hp⟩:∃p:Nat,E.machine=p:=⟨E.machine.toNat,by omega⟩;have U:p<Z' f.aoF:=Om;obtain⟨lv,N⟩:∃lv,(f.aoF.map cQ.level).getD E.machine.toNat 0=lv:=⟨_,rfl⟩;have η:(f.aoF[p]).level=lv:=by rw[<-N,hp,arP,getD_at U]
      rw[N]at l;have S:=gD U;simp only[go_sem,Y,hp,S,η,x];exact fin _ B _ _ hlt (by rw[l,k0,k1]<;>simp) A Lq
 have u:¬((i:Nat):Int)<(Z' f.aoC:Nat):=Om;have:i=n:=Om;subst this;simp only[go_sem,u];exact Up.up Lq (D hc.symm)
theorem cn{xs:I_}{k:Nat}(h:k<Z' xs):(xs.map λx=>[PV.int .i64 x])[k]?=some [.j xs[k]]:=by simp[h]
def zpF(f:aB)(w:PV)(o i:Nat)(c:Bool)(j:Nat):PF:=(((((((n_.set 1 (.aU f.cells)).set 6 (w)).set 7 (.aG)).set 8 (.bool c)).set 17 (.int .i64 i)).set 18 (.ptr o 17 0 0)).set 19 (.int .i64 j))
theorem X5(f:aB)(w:PV)(o i:Nat)(p:bY)(M:Z' p.aoD<=9223372036854775807)(j:Nat)(E:j<Z' p.aoD)(b:Bool)(K:bT)[Up K](F:PF)(H:PH)(J:H o=some (.rows 17 [p.cells]))(B:((zpF f w o i b j).set 20 (.j 0)).le F)
  (D:K (.exit 12) (zpF f w o i (b&&(p.aoD.take j).all λx=>x != p.aoD[j]) j) H):aI.wp C (.loop RE) K F H:=by
 refine wp_loop (α:=Nat) (λk=>(zpF f w o i (b&&(p.aoD.take k).all λx=>x != p.aoD[j]) j).set 20 (.j k)) (λ_=>H) (λk=>k<=j) (λk=>j-k) 0 (apR _) (by
   have e:(b&&(p.aoD.take 0).all λx=>x != p.aoD[j])=b:=by cases b<;>rfl
   simp only[e];exact B) b_ ?_
 intro k L;have y:∀h:k<Z' p.aoD,(b&&(p.aoD.take (k+1)).all λx=>x != p.aoD[j])=((b&&(p.aoD.take k).all λx=>x != p.aoD[j])&&(p.aoD[k] != p.aoD[j])):=λh=>by rw[arB h,atQ];simp[atG]
 have fin:∀(c:Bool)(A:PF),k<j->(b&&(p.aoD.take (k+1)).all λx=>x != p.aoD[j])=c->((zpF f w o i c j).set 20 (.j (k+1:Nat))).le A->fK (λk:Nat=>(zpF f w o i (b&&(p.aoD.take k).all λx=>x != p.aoD[j]) j).set 20 (.j k)) (λ_=>H) (λk=>k<=j) (λk=>j-k) (j-k) K .normal A H:=
  λc A hlt e h=>aF (k+1) hlt Om (by rw[e];exact h) b_
 unfold zpF at fin;simp only[go_sem,RE,zpF];by_cases hlt:k<j
 ·have l:(k:Int)<(j:Nat):=Om;have u:k<Z' p.aoD:=Om;have y:=y u;generalize(b&&(p.aoD.take k).all λx=>x != p.aoD[j])=c at *
  simp only[go_sem,l];refine bE .nil cO a_ ?_;cases c with
  |false =>simp only[go_sem,wZz k];exact fin false _ hlt (y.trans rfl) Lq
  |true =>simp only[go_sem,J,cn u,cn E,wZz k];exact fin _ _ hlt (y.trans rfl) Lq
 ·have l:¬(k:Int)<(j:Nat):=Om;have:k=j:=Om;subst this;simp only[go_sem,l];exact Up.up (by(repeat' (first|exact d_|refine e_ ?_ ?_))<;>first|(simp only[go_sem,zpF]<;>rfl)|rfl) D
def PD(aoD:Nat)(ms:I_)(j:Nat):Bool:=within (ms.getD j 0) 0 ((aoD:Int)-1)&&(ms.take j).all λx=>x != ms.getD j 0
theorem Sw(L:xY C)(f:aB)(W:Z' f.aoD<=4)(w:PV)(o i:Nat)(p:bY)(V:Z' p.aoD<=9223372036854775807)(b:Bool)(K:bT)[Up K](F:PF)(H:PH)(E:H o=some (.rows 17 [p.cells]))(O:(zpF f w o i b 0).le F)
  (M:K (.exit 10) ((((((n_.set 1 (.aU f.cells)).set 6 (w)).set 7 (.aG)).set 8 (.bool (b&&(apQ p.aoD.length).all (PD f.aoD.length p.aoD)))).set 17 (.j i))) H):aI.wp C (.loop ES) K F H:=by
 obtain⟨ok,B⟩:∃ok,PD f.aoD.length p.aoD=ok:=⟨_,rfl⟩;rw[B]at M;refine wp_loop (α:=Nat) (λj=>zpF f w o i (b&&(apQ j).all ok) j) (λ_=>H) (λj=>j<=Z' p.aoD) (λj=>Z' p.aoD-j) 0 (apR _) (by
   have e:(b&&(apQ 0).all ok)=b:=by cases b<;>rfl
   simp only[e];exact O) b_ ?_
 intro j U;have u:=xE (p:=ok) j b;have A:=λh=>xD (p:=ok) (b:=b) U h;have fin:∀(c:Bool)(D:PF),j<Z' p.aoD->(b&&(apQ (j+1)).all ok)=c->(zpF f w o i c (j+1)).le D->fK (λj:Nat=>zpF f w o i (b&&(apQ j).all ok) j) (λ_=>H) (λj=>j<=Z' p.aoD) (λj=>Z' p.aoD-j) (Z' p.aoD-j) K .normal D H:=
  λc D hlt e h=>aF (j+1) hlt Om (by rw[e];exact h) b_
 unfold zpF at fin;have y:(b&&(apQ j).all ok)=(b&&(apQ p.aoD.length).all ok)->K (.exit 10) ((((((n_.set 1 (.aU f.cells)).set 6 (w)).set 7 (.aG)).set 8 (.bool (b&&(apQ j).all ok))).set 17 (.j i))) H:=λe=>by rw[e];exact M
 generalize R:(b&&(apQ j).all ok)=c at *
 simp only[go_sem,ES,zpF,E,apP];by_cases hlt:j<Z' p.aoD
 ·have l:(j:Int)<(Z' p.aoD:Nat):=Om;cases c with
  |false =>simp only[go_sem,l];exact Up.up Lq (y (A rfl).symm)
  |true=>
   have N:=p6 (Om:Z' f.aoD<=1000);have S:p.aoD.getD j 0=p.aoD[j]:=by simp[apY,hlt]
   have J:ok j=(within p.aoD[j] 0 ((Z' f.aoD:Int)-1)&&(p.aoD.take j).all λx=>x != p.aoD[j]):=by rw[<-B];unfold PD;rw[S]
   rw[J]at u;simp only[go_sem,l];refine bE .nil Kr a_ ?_;simp only[go_sem,E,cn hlt,apP,N];refine cM rfl (L.inn p.aoD[j] 0 ((Z' f.aoD:Int)-1)) Sq a_ ?_;simp only[go_sem];refine X5 f w o i p V j hlt (within p.aoD[j] 0 ((Z' f.aoD:Int)-1)) _ _ _ E (by(repeat' (first|exact d_|refine e_ ?_ ?_))<;>first|(simp only[go_sem,zpF]<;>rfl)|rfl) ?_;simp only[go_sem,zpF,wZz j];exact fin _ _ hlt (u.trans rfl) Lq
 ·have l:¬(j:Int)<(Z' p.aoD:Nat):=Om;have:j=Z' p.aoD:=Om;subst this;simp only[go_sem,l];exact Up.up Lq (y R.symm)
def C3(aoD:Nat)(p:bY):Bool:=OW p.k p.m p.apB p.s0 p.s1 p.s2 p.s3 p.s4&&(TC p.m p.repair p.target p.aoN&&(decide (Z' p.aoD>0)&&(apQ p.aoD.length).all (PD aoD p.aoD)))
theorem abD(aoD:Nat)(p:bY):lH aoD p=C3 aoD p:=by
 unfold lH C3;rw[aaV,adU];have e:decide (Z' p.aoD≠0)=decide (Z' p.aoD>0):=decide_eq_decide.2 Om;have i:(apQ p.aoD.length).all (λj=>within (p.aoD.getD j 0) 0 ((aoD:Int)-1)&&!(p.aoD.take j).contains (p.aoD.getD j 0))=(apQ p.aoD.length).all (PD aoD p.aoD):=by
  congr 1;funext j;unfold PD;congr 1;generalize p.aoD.getD j 0=x
  induction p.aoD.take j with
  |nil=>rfl
  |cons a t l =>rw[List.contains_cons,atS,<-l,Bool.not_or,bne,BEq.comm]
 rw[e,i];cases OW p.k p.m p.apB p.s0 p.s1 p.s2 p.s3 p.s4<;>cases TC p.m p.repair p.target p.aoN<;>cases decide (Z' p.aoD>0)<;>simp
structure qh(C:Ctx):Prop extends xY C where
 dur:∀(m:Int)(rep:List RF),oU rep->∀t h:RF,t.Ok->h.Ok->aJ C 69 [.int .i64 m,frs rep,.agg t.cells,.agg h.cells] .nil (aL (.bool (TC m rep t h)))
def oI(f:aB):List (List UInt8):=f.aoG.map bY.name
def PC(f:aB)(i:Nat):Bool:=match f.aoG[i]? with
 |some p=>C3 f.aoD.length p
 |none=>false
def ma(f:aB):Bool:=(apQ f.aoG.length).all (okL [] (oI f) (PC f))
theorem acY(L:qh C)(f:aB)(hf:f.Ok)(ζ:Z' f.aoG<=4)(γ:Z' f.aoD<=4)(b:Bool)(K:bT)[Up K](F:PF)(H:PH)
  (hF:((((((n_.set 1 (.aU f.cells)).set 6 (.aG)).set 7 (.aG)).set 8 (.bool b)).set 17 (.j 0)):PF).le F)
  (V:∀H',K (.exit 8) ((((n_.set 1 (.aU f.cells)).set 7 (.aG)).set 8 (.bool (b&&ma f)))) H'):aI.wp C (.loop ET) K F H:=by
 obtain⟨ok,J⟩:∃ok,okL [] (oI f) (PC f)=ok:=⟨_,rfl⟩;unfold ma at V;rw[J]at V;have ε:(oI f).length=Z' f.aoG:=by simp[oI]
 refine wp_loop (α:=T3_) (λs=>(((((n_.set 1 (.aU f.cells)).set 6 (s.2.1)).set 7 (.aG)).set 8 (.bool (b&&(apQ s.1).all ok))).set 17 (.j s.1))) (λs=>s.2.2) (λs=>s.1<=Z' f.aoG/\kG s.2.2 s.2.1 [] (oI f) (b&&(apQ s.1).all ok) s.1) (λs=>Z' f.aoG-s.1)
  (0,.aG,H) ⟨apR _,⟨[],aO.nil.oF 1,λ_=>rfl⟩⟩ (by
   have e:(b&&(apQ 0).all ok)=b:=by cases b<;>rfl
   simp only[e];exact hF) b_ ?_
 rintro⟨i,w,R⟩ ⟨hi,hG⟩;simp only at hi hG ⊢;have fin:∀(c:Bool)(A:PV)(B:PF)(H':PH),i<Z' f.aoG->(b&&(apQ (i+1)).all ok)=c->kG H' A [] (oI f) true (i+1) ->
   ((((((n_.set 1 (.aU f.cells)).set 6 (A)).set 7 (.aG)).set 8 (.bool c)).set 17 (.j (i+1:Nat))):PF).le B ->
   fK (λs:T3_=>(((((n_.set 1 (.aU f.cells)).set 6 (s.2.1)).set 7 (.aG)).set 8 (.bool (b&&(apQ s.1).all ok))).set 17 (.j s.1))) (λs=>s.2.2) (λs=>s.1<=Z' f.aoG/\kG s.2.2 s.2.1 [] (oI f) (b&&(apQ s.1).all ok) s.1) (λs=>Z' f.aoG-s.1) (Z' f.aoG-i) K .normal B H':=
  λc A B H' hlt hb S D=>aF (i+1,A,H') ⟨hlt,S.s7⟩ sO_ (by simp only;rw[hb];exact D) b_
 have l:=xE (p:=ok) i b;have E:=λh=>xD (p:=ok) (b:=b) hi h;have y:(b&&(apQ i).all ok)=(b&&(apQ f.aoG.length).all ok)->K (.exit 8) ((((n_.set 1 (.aU f.cells)).set 7 (.aG)).set 8 (.bool (b&&(apQ i).all ok)))) R:=λe=>by rw[e];exact V R
 generalize hc:(b&&(apQ i).all ok)=c at *
 simp only[go_sem,ET,apP];by_cases hlt:i<Z' f.aoG
 ·have u:(i:Int)<(Z' f.aoG:Nat):=Om;cases c with
  |false =>simp only[go_sem,u];exact Up.up Lq (y (E rfl).symm)
  |true=>
   obtain⟨δ,g1,g3⟩:=hG.ex;have W:=mJ hlt;have Z:i<(oI f).length:=Om;have β:(oI f)[i]=(f.aoG[i]).name:=by simp[oI]
   have M:ok i=(lG ([]++(oI f).take i) ((oI f).getD i [])&&C3 f.aoD.length f.aoG[i]):=by rw[<-J];unfold okL PC;rw[apZ hlt]
   have x:=hf.aoP _ (apW hlt);rw[M]at l;unfold C3 at l;have N:i_.wrap ((i:Int)+1)=((i+1:Nat):Int):=fQ Om;simp only[go_sem,u,W];refine aQ λo ho=>?_;have g4:=g1.new ho (.rows 17 [(f.aoG[i]).cells]);have g5:=g4.at 0 rfl;simp only[go_sem];generalize R.set o (.rows 17 [(f.aoG[i]).cells])=H2 at *
   try simp only[go_sem,g5]
   refine kG.call L.tovC (ns:=oI f) g4 (apR _) Om (g3 rfl) Z (by simp only[go_sem,β]) λA H1 h1 U=>?_;have O:=h1.at 0 rfl;generalize lG ([]++(oI f).take i) ((oI f).getD i [])=fb at *
   generalize hd:f.aoG[i]=p at *
   have rest:∀(c:Bool)(B:PF),(zpF f A o i c 0).le B->(c&&(apQ p.aoD.length).all (PD f.aoD.length p.aoD))=(b&&(apQ (i+1)).all ok) ->
     aI.wp C (.loop ES) (fE 10 (fE 9 (gH C (aI.wp C (.region RJ)) (fK (λs:T3_=>(((((n_.set 1 (.aU f.cells)).set 6 (s.2.1)).set 7 (.aG)).set 8 (.bool (b&&(apQ s.1).all ok))).set 17 (.j s.1))) (λs=>s.2.2) (λs=>s.1<=Z' f.aoG/\kG s.2.2 s.2.1 [] (oI f) (b&&(apQ s.1).all ok) s.1) (λs=>Z' f.aoG-s.1) (Z' f.aoG-i) K)))) B H1:=by
    intro c B D X;refine Sw L.toxY f γ A o i p x.aoD c _ _ _ O D ?_;rw[X];simp only[go_sem,RJ,N];exact fin _ A _ _ hlt rfl U Lq
   cases fb with
   |false =>simp only[go_sem];exact rest false _ (by(repeat' (first|exact d_|refine e_ ?_ ?_))<;>first|(simp only[go_sem,zpF]<;>rfl)|rfl) (by rw[l];rfl)
   |true=>
    simp only[go_sem,O];refine aD (L.nums p.k p.m p.apB p.s0 p.s1 p.s2 p.s3 p.s4) Sq ?_;cases k0:OW p.k p.m p.apB p.s0 p.s1 p.s2 p.s3 p.s4 with
    |false =>simp only[go_sem];exact rest false _ (by(repeat' (first|exact d_|refine e_ ?_ ?_))<;>first|(simp only[go_sem,zpF]<;>rfl)|rfl) (by rw[l,k0];rfl)
    |true=>
     simp only[go_sem,O];refine aD (L.dur p.m p.repair x.repair p.target p.aoN x.target.ok x.aoN.ok) Sq ?_;cases k1:TC p.m p.repair p.target p.aoN with
     |false =>simp only[go_sem];exact rest false _ (by(repeat' (first|exact d_|refine e_ ?_ ?_))<;>first|(simp only[go_sem,zpF]<;>rfl)|rfl) (by rw[l,k0,k1];rfl)
     |true =>have Y:decide ((Z' p.aoD:Int)>0)=decide (Z' p.aoD>0):=decide_eq_decide.2 Om;simp only[go_sem,O,apP,Y];exact rest _ _ (by(repeat' (first|exact d_|refine e_ ?_ ?_))<;>first|(simp only[go_sem,zpF]<;>rfl)|rfl) (by rw[l,k0,k1];rfl)
 ·have u:¬(i:Int)<(Z' f.aoG:Nat):=Om;have:i=Z' f.aoG:=Om;subst this;simp only[go_sem,u];exact Up.up Lq (y hc.symm)
def vY(r:cQ):Bool:=(r.name==[])&&((r.level==0)&&((r.parent==-1)&&((r.aoX==0)&&(fT (val r.aoS.num) (val r.aoS.den)&&(xC r.aoS==0)))))
def Lw(f:aB):Bool:=match f.aoF with
 |[]=>false
 |r::_=>vY r
def Wa(f:aB):Bool:=within f.apH 1 4&&(uU f.aoK.length f.aoD.length f.aoF.length f.aoC.length f.aoG.length f.aoE.length&&(decide (0<Z' f.aoF)&&((((((NZ f&&FF f)&&Lw f)&&DM f)&&EX f)&&ma f)&&yy f)))
theorem Gp(n:Nat)(p q:Nat->Bool):(apQ n).all (λi=>p i&&q i)=((apQ n).all p&&(apQ n).all q):=by
 induction n with
 |zero=>rfl
 |succ n e =>simp only[arV,atQ,e,atS,List.all_nil,arY];cases(apQ n).all p<;>cases(apQ n).all q<;>cases p n<;>simp
theorem FW{α:Type}(l:List α)(p:α->Bool):(apQ l.length).all (λi=>(l.map p).getD i false)=l.all p:=by
 refine Bool.eq_iff_iff.2 ?_;rw[aqM,aqM];constructor;intro h x e;obtain⟨i,hi,rfl⟩:=arF e;have:=h i (aqN.2 hi);simpa[apY,hi]using this;intro h i hi;have hi:=aqN.1 hi;simp[apY,hi,h _ (apW hi)]
theorem LZ(ns:List (List UInt8))(n:Nat)(e:Z' ns=n)(P:Nat->Bool):(apQ n).all (okL [] ns P)=(distinct ns&&(apQ n).all P):=by
 subst e;have:okL [] ns P=λi=>(isName (ns.getD i [])&&!(ns.take i).contains (ns.getD i []))&&P i:=by funext i;rfl
 rw[this,Gp];rfl
theorem aaX(base ns:List (List UInt8))(P Q:Nat->Bool):((apQ base.length).all (okL [] base P)&&(apQ ns.length).all (okL base ns Q))=(distinct (base++ns)&&((apQ base.length).all P&&(apQ ns.length).all Q)):=by
 have e:okL base ns Q=λi=>(isName (ns.getD i [])&&!(base++ns.take i).contains (ns.getD i []))&&Q i:=by funext i;rfl
 have e2:distinct (base++ns)=(distinct base&&(apQ ns.length).all λi=>isName (ns.getD i [])&&!(base++ns.take i).contains (ns.getD i [])):=by
  unfold distinct;rw[apV,List.range_add,atQ,List.all_map];congr 1;refine Bool.eq_iff_iff.2 ?_;rw[aqM,aqM];refine forall_congr' λi=>forall_congr' λhi=>?_;have hi:=aqN.1 hi;have a1:(base++ns).getD i []=base.getD i []:=by simp only[apY];rw[asE hi]
  have a2:(base++ns).take i=base.take i:=by rw[List.take_append_of_le_length Om]
  rw[a1,a2];refine Bool.eq_iff_iff.2 ?_;rw[aqM,aqM];refine forall_congr' λi=>forall_congr' λ_=>?_;have a1:(base++ns).getD (Z' base+i) []=ns.getD i []:=by simp only[apY];rw[arS Om];congr 2;omega
  have a2:(base++ns).take (Z' base+i)=base++ns.take i:=by rw[List.take_append,aqR Om];congr 2;omega
  simp only[Function.comp,a1,a2]
 rw[LZ base base.length rfl P,e,Gp,e2];cases distinct base<;>cases(apQ base.length).all P<;>simp
theorem We(r:cQ):(decide (r.name=[])&&decide (r.level=0)&&decide (r.parent=-1)&&decide (r.aoX=0)&&dO r.aoS&&!bR r.aoS)=vY r:=by
 have u:decide (r.name=[])=(r.name==[]):=by cases r.name<;>rfl
 have w:decide (r.level=0)=(r.level==0):=by generalize r.level=x;by_cases h:x=0<;>simp[h]
 have y:decide (r.parent=-1)=(r.parent==-1):=by generalize r.parent=x;by_cases h:x=-1<;>simp[h]
 have A:decide (r.aoX=0)=(r.aoX==0):=by generalize r.aoX=x;by_cases h:x=0<;>simp[h]
 have h5:(dO r.aoS&&!bR r.aoS)=(fT (val r.aoS.num) (val r.aoS.den)&&(xC r.aoS==0)):=by
  rw[PX];by_cases h:val r.aoS.num=0
  ·have i:bR r.aoS=false:=by unfold bR;simp[h]
   rw[i];simp only[aqI,arY];cases e:fT (val r.aoS.num) (val r.aoS.den)with
   |false =>unfold dO DB;rw[e];rfl
   |true=>
    obtain⟨B,-,-⟩:=mN.1 e;unfold dO DB;rw[e,aE rfl,cv e,h];unfold qQ;have hb:val r.aoS.den/apS 0 (val r.aoS.den)=1:=by rw[Nat.gcd_zero_left,Nat.div_self (atB B)]
    have l:fC (0/apS 0 (val r.aoS.den))=0:=by rw[Nat.zero_div];exact rV
    have b1:fC 1=1:=by rw[GA aT,rV]
    simp only[hb,l,b1];simp
  have i:bR r.aoS=true:=by unfold bR;simp[h]
  rw[i];simp
 unfold vY;rw[u,w,y,A];simp only[atG]at h5 ⊢;rw[h5]
theorem Tu(f:aB){r:cQ}{t:List cQ}(h:f.aoF=r::t):IF f r t=(vY r&&(apQ t.length).all (DL f)):=by
 unfold IF;rw[We];congr 2;funext i;unfold DL;rw[h,List.getElem?_cons_succ];cases t[i]? with
 |none=>rfl
 |some d=>exact Zd f i d
theorem Ot(f:aB):f.aoC.all (kP f)=(apQ f.aoC.length).all (BE f):=by
 have:BE f=λi=>(f.aoC.map (kP f)).getD i false:=by
  funext i;unfold BE;rw[apY,aqE];cases f.aoC[i]? with
  |none=>rfl
  |some d=>
   show Ap f d=kP f d;unfold Ap kP;have:decide ((f.aoF.map cQ.level).getD d.machine.toNat 0=4)=((f.aoF.map cQ.level).getD d.machine.toNat 0==4):=by generalize(f.aoF.map cQ.level).getD d.machine.toNat 0=u;by_cases h:u=4<;>simp[h]
   rw[this,atG]
 rw[this,FW]
theorem Qk(f:aB):f.aoG.all (lH f.aoD.length)=(apQ f.aoG.length).all (PC f):=by
 have:PC f=λi=>(f.aoG.map (lH f.aoD.length)).getD i false:=by
  funext i;unfold PC;rw[apY,aqE];cases f.aoG[i]? with
  |none=>rfl
  |some d=>exact(abD _ d).symm
 rw[this,FW]
theorem abK(f:aB):Wa f=cP f:=by
 have M:rr f.aoK.length=mR f:=by funext m;unfold rr mR;rw[atG]
 have B:Ei f.aoG.length=sR f:=rfl;have N:(within f.apH 1 4&&uU f.aoK.length f.aoD.length f.aoF.length f.aoC.length f.aoG.length f.aoE.length)=rN f:=by unfold rN uU;simp only[atG]
 unfold Wa cP NZ FF ma yy;rw[LZ _ _ (by rw[apP]),LZ _ _ (by rw[apP]),LZ _ _ (by rw[oI,apP]),LZ _ _ (by rw[apP]),FW,FW,FW,M,B,Qk,Ot,<-atG,N];unfold sE Lw;cases l:f.aoF with
 |nil=>simp
 |cons r t=>
  have i:decide (0<Z' f.aoF)=true:=by rw[l];simp
  rw[l]at i;rw[i,aqL];simp only;rw[Tu f l];have A:kA f=(f.aoF.drop 1).map cQ.name:=rfl;rw[l]at A;have L:(kA f).length=Z' t:=by rw[A];simp
  have two:=aaX (kA f) (pM f) (DL f) (BE f);rw[L,show(pM f).length=f.aoC.length by simp[pM]]at two;have K:DM f=(apQ t.length).all (okL [] (kA f) (DL f)):=by unfold DM;rw[l];rfl
  have e2:EX f=(apQ f.aoC.length).all (okL (kA f) (pM f) (BE f)):=rfl;rw[K,e2,<-A];rw[show f.aoC.map eG.name=pM f from rfl,show f.aoG.map bY.name=oI f from rfl];generalize(apQ t.length).all (okL [] (kA f) (DL f))=a at *
  generalize(apQ f.aoC.length).all (okL (kA f) (pM f) (BE f))=b at *
  generalize distinct (kA f++pM f)=c at *
  generalize(apQ t.length).all (DL f)=d at *
  generalize(apQ f.aoC.length).all (BE f)=e at *
  generalize rN f=s;generalize vY r=ro;generalize distinct (f.aoK.map cS.name)=u;generalize f.aoK.all mQ=w;generalize distinct (f.aoD.map dL.name)=x;generalize f.aoD.all (mR f)=y;generalize distinct (oI f)=D;generalize(apQ f.aoG.length).all (PC f)=E;generalize distinct (f.aoE.map fV.name)=F;generalize f.aoE.all (sR f)=J;have:(s&&(((((((u&&w)&&(x&&y))&&ro)&&a)&&b)&&(D&&E))&&(F&&J)))=(s&&(ro&&((u&&w)&&((x&&y)&&((a&&b)&&((D&&E)&&(F&&J))))))):=by cases s<;>cases ro<;>cases u<;>cases w<;>cases x<;>cases y<;>simp[atG]
  rw[this,two];cases s<;>cases ro<;>cases u<;>cases w<;>cases x<;>cases y<;>cases c<;>cases d<;>cases e<;>simp;cases D<;>cases E<;>cases F<;>cases J<;>rfl
theorem Wd(f:aB)(h:0<Z' f.aoF):Lw f=vY f.aoF[0]:=by
 obtain⟨a,b,c,d,e,g,i⟩:=f;cases d with
 |nil=>simp at h
 |cons r t=>rfl
theorem S1(L:qh C)(f:aB)(u:f.Ok):aw.wp C (aW dJ.res (aL (.bool (cP f)))) (PF.args [.agg f.cells]) .nil:=by
 have l:=abK f;unfold Wa at l;have fail:∀(F:PF)(H:PH),cP f=false->F 2=some (.bool false)->aW [.tmp 2] (aL (.bool (cP f))) .ret F H:=λF H e h=>by rw[e];exact bK (vs:=[.bool false]) (.inr rfl) .nil (by simp only[go_sem,h]) a_ ⟨rfl,rfl⟩
 simp only[go_sem,aw,dJ];refine aD (L.inn f.apH 1 4) Sq ?_;cases W:within f.apH 1 4 with
 |false =>rw[W,aqD]at l;simp only[go_sem,aqI];exact fail _ _ l.symm Sq
 |true=>
 rw[W,aqL]at l;simp only[go_sem,aqC,apP];refine aD (L.sizes f.aoK.length f.aoD.length f.aoF.length f.aoC.length f.aoG.length f.aoE.length) Sq ?_;cases E:uU f.aoK.length f.aoD.length f.aoF.length f.aoC.length f.aoG.length f.aoE.length with
 |false =>rw[E,aqD]at l;simp only[go_sem,aqI];exact fail _ _ l.symm Sq
 |true=>
 rw[E,aqL]at l;obtain⟨O,B,D,R,S,α⟩:=UX E;by_cases h0:Z' f.aoF=0;rw[bG Om,aqD]at l;simp only[go_sem,aqC,apP,cC (Om:(Z' f.aoF:Int)=0)];exact fail _ _ l.symm Sq;have i:0<Z' f.aoF:=Om;rw[aZ i,aqL]at l;simp only[go_sem,aqC,apP,bJ (Om:(Z' f.aoF:Int)≠0)];refine acX L.toxY f u O _ _ _ Lq λH1=>?_;simp only[go_sem];refine S0 L.toxY f u E (NZ f) _ _ _ Lq λH2=>?_;have M:=gD i;have A:=(u.dom _ (apW i)).1;have N:=Wd f i;rw[N]at l;generalize f.aoF[0]=r at *
 have rest:∀(c:Bool)(F:PF)(H:PH),((((((n_.set 1 (.aU f.cells)).set 5 (.aG)).set 6 (.aG)).set 7 (.aG)).set 8 (.bool c)):PF).le F->c=((NZ f&&FF f)&&vY r) ->
   aI.wp C (.seq (.seq (.region RG) (.block 4 (.loop EQ))) (.seq (.seq (.region RH) (.block 6 (.loop ER))) (.seq (.seq (.region RI) (.block 8 (.loop ET))) (.seq (.seq (.region RK) (.block 14 (.loop EU))) (.seq (.region RL) .ret))))) (aW [.tmp 2] (aL (.bool (cP f)))) F H:=by
  intro c F H Y hc;refine mA _ (λ_ _ _ _ a b=>Up.up a b) Y ?_;simp only[go_sem,RG];refine acW L.toxY f u D i c _ _ _ Lq λw X Z=>?_;simp only[go_sem,RH];refine Sz L.toxY f u D i R B (c&&DM f) w _ _ _ Z Lq λH4=>?_;simp only[go_sem,RI];refine acY L f u S B ((c&&DM f)&&EX f) _ _ _ Lq λH5=>?_;simp only[go_sem,RK];refine acZ L.toxY f u E (((c&&DM f)&&EX f)&&ma f) _ _ _ Lq λH6=>?_;simp only[go_sem,RL];refine bK (vs:=[.bool (cP f)]) (.inr rfl) .nil ?_ a_ ⟨rfl,rfl⟩;rw[<-l,hc];simp only[go_sem]
 simp only[aI.wp,go_sem]at rest;simp only[go_sem,M];refine aQ λo ho=>?_;have g0:(H2.set o (.rows 7 [r.cells])) o=some (.rows 7 [r.cells]):=bL ..;simp only[go_sem];generalize H2.set o (.rows 7 [r.cells])=X at *
 cases x:(NZ f&&FF f)with
 |false =>simp only[go_sem];exact rest false _ _ Lq (by rw[x];rfl)
 |true=>
  simp only[go_sem,g0];cases y:r.name==[]with
  |false =>simp only[go_sem];exact rest false _ _ Lq (by rw[x];unfold vY;rw[y];rfl)
  |true=>
   simp only[go_sem,g0];cases J:r.level==0 with
   |false =>simp only[go_sem];exact rest false _ _ Lq (by rw[x];unfold vY;rw[y,J];rfl)
   |true=>
    simp only[go_sem,g0];cases K:r.parent==-1 with
    |false =>simp only[go_sem];exact rest false _ _ Lq (by rw[x];unfold vY;rw[y,J,K];rfl)
    |true=>
     simp only[go_sem,g0];cases U:r.aoX==0 with
     |false =>simp only[go_sem];exact rest false _ _ Lq (by rw[x];unfold vY;rw[y,J,K,U];rfl)
     |true=>
      simp only[go_sem,g0];refine aD (L.valid _ A.ok) Sq ?_;cases V:fT (val r.aoS.num) (val r.aoS.den)with
      |false =>simp only[go_sem];exact rest false _ _ Lq (by rw[x];unfold vY;rw[y,J,K,U,V];rfl)
      |true =>simp only[go_sem,g0];refine aD (L.sign _ A.ok V) Sq ?_;simp only[go_sem];exact rest _ _ _ Lq (by rw[x];unfold vY;rw[y,J,K,U,V];rfl)

theorem yO.move{f:aB}{L:L2_}(h:yO f L){x k d:Nat}(w:x<Z' L)(A:d<Z' f.aoC):yO f (L.set x (L[x].set k d)):=by
 refine⟨by rw[arD];exact h.len,λv u=>?_,λr i=>?_⟩;rw[arD]at u;have:=h.row v u;rw[List.getElem_set];split;rename_i e;subst e;rw[arD];exact this;exact this;rcases auB i with i|rfl
 exact h.home r i;intro y l;rcases auB l with l|rfl
 exact h.home _ (apW w) y l;omega

theorem Tx(l:I_)(u:Fits l):js.wp C (aW xq.res (aL (.bool true))) (PF.args [ints l,ints l]) .nil:=by
 have w:Z' l<=9223372036854775807:=u;simp only[go_sem,js,xq,apP,bW (show(Z' l:Int)=(Z' l:Nat)from rfl)];refine wp_loop (α:=Nat) (λk=>(((n_.set 0 (ints l)).set 1 (ints l)).set 5 (.j k))) (λ_=>.nil) (λk=>k<=Z' l) (λk=>Z' l-k) 0 (apR _) Lq a_ ?_;intro k y;simp only[go_sem,apP];by_cases hlt:k<Z' l;have e:(k:Int)<(Z' l:Nat):=Om;have i:(l.map λx=>[PV.int .i64 x])[k]?=some [.j l[k]]:=by simp[hlt]
 simp only[go_sem,e];refine bE .nil cO a_ ?_;simp only[go_sem,i,bW (show l[k]=l[k]from rfl),wZz k];exact aF (k+1) hlt Om Lq b_;have e:¬(k:Int)<(Z' l:Nat):=Om;simp only[go_sem,e];refine eD ?_;rfl
structure JT(C:Ctx):Prop where
 fz:Iz C
 r0:bU C 0 eC
 r1:bU C 1 x9
 r2:bU C 2 lC
 r4:bU C 4 EB
 r5:bU C 5 Lc
 r6:bU C 6 yc
 r7:bU C 7 mI
 r27:bU C 27 lg
 r28:bU C 28 di
 r29:bU C 29 ya
 r30:bU C 30 Mp
 r31:bU C 31 ym
 r32:bU C 32 Mq
 r33:bU C 33 udiv
 r34:bU C 34 Mu
 r35:bU C 35 yn
 r36:bU C 36 Mw
 r37:bU C 37 Mz
 r38:bU C 38 JQ
 r39:bU C 39 eE
 r40:bU C 40 sP
 r41:bU C 41 oe
 r42:bU C 42 lK
 r43:bU C 43 qJ
 r44:bU C 44 mV
 r45:bU C 45 uup
 r46:bU C 46 Ed
 r47:bU C 47 M4
 r48:bU C 48 ow
 r49:bU C 49 yx
 r50:bU C 50 pd
 r51:bU C 51 pi
 r52:bU C 52 XR
 r53:bU C 53 yz
 r54:bU C 54 y6
 r55:bU C 55 BB
 r56:bU C 56 pt
 r57:bU C 57 yw
 r58:bU C 58 pS
 r59:bU C 59 y7
 r60:bU C 60 pq
 r61:bU C 61 JA
 r62:bU C 62 XT
 r63:bU C 63 pw
 r64:bU C 64 XS
 r65:bU C 65 XU
 r66:bU C 66 Ni
 r67:bU C 67 dJ
 r68:bU C 68 kC
 r69:bU C 69 Nf
 r70:bU C 70 p8
 r71:bU C 71 p9
 r72:bU C 72 RB
 r73:bU C 73 qa
 r74:bU C 74 qb
 r75:bU C 75 XV
 r76:bU C 76 ML
 r77:bU C 77 PS
 r80:bU C 80 uT
 r82:bU C 82 yi
 r83:bU C 83 mu
 r84:bU C 84 nP
 r85:bU C 85 qY
 r87:bU C 87 mZ
 r88:bU C 88 mo
 r89:bU C 89 Mb
 r90:bU C 90 iT
 r94:bU C 94 xq
 r95:bU C 95 uG
 r96:bU C 96 gF
 r98:bU C 98 xv
 r99:bU C 99 xw
 r100:bU C 100 xx
 r102:bU C 102 oC
 r103:bU C 103 j9
 r104:bU C 104 gin
 r106:bU C 106 Ka
 r107:bU C 107 xy
 r108:bU C 108 xz
 r109:bU C 109 kd
 r110:bU C 110 x5
 r111:bU C 111 A6
 r112:bU C 112 Kb
 r123:bU C 123 kz
 r124:bU C 124 TO
 r125:bU C 125 TT
 r126:bU C 126 LS
 r150:bU C 150 nv
 r151:bU C 151 np
 r152:bU C 152 JI
 r154:bU C 154 kK
 r156:bU C 156 yk
 r157:bU C 157 nQ
 r158:bU C 158 fM
 r159:bU C 159 n6
 r160:bU C 160 MH
 r161:bU C 161 nz
 r201:bU C 201 nE
 r203:bU C 203 jf
 r205:bU C 205 call17
 r206:bU C 206 gJ
 r207:bU C 207 WP
 r210:bU C 210 xp
 r211:bU C 211 kO
 r212:bU C 212 xr
 r299:bU C 299 lz
 r300:bU C 300 l6
 r302:bU C 302 ly
 r303:bU C 303 HC
 r304:bU C 304 mb
 r305:bU C 305 Lo
 r306:bU C 306 mf
 r307:bU C 307 jC
 r308:bU C 308 rH
 r309:bU C 309 me
 r364:bU C 364 dU
 r365:bU C 365 x7
 r367:bU C 367 mH
 r368:bU C 368 WX
 r369:bU C 369 OC
 r370:bU C 370 tN
 r371:bU C 371 jS
 r375:bU C 375 jm
 r229:∃asg bdy,WM C 229 (xo asg bdy)
 r230:∃asg bdy,WM C 230 (Js asg bdy)
namespace L
variable {C:Ctx} (c:JT C)
include c
theorem EZ:yN C:=
 have inn:∀n lo hi:Int,aJ C 104 [.j n,.j lo,.j hi] .nil (aL (.bool (within n lo hi))):=λn lo hi=>(c.r104.go (aeC n lo hi) rfl).seen;have e:∀n:Nat,aJ C 126 [.int .u8 n] .nil (aL (.bool (gO n))):=λn=>c.r126.go (K3 n) rfl;have i:∀n:Nat,aJ C 124 [.int .u8 n] .nil (aL (.bool (pX n))):=λn=>c.r124.go (Pk n) rfl
 {c.fz with
  inn:=inn
  allf:=λp fn l u h=>(c.r99.go (Ua p fn l u h) rfl).seen
  alli:=λp fn l u h=>(c.r100.go (Ub p fn l u h) rfl).seen
  allb:=λp fn l u h=>(c.r98.go (T9 p fn l u h) rfl).seen
  ends1:=λb=>(c.r103.go (O9 b) rfl).seen
  num1:=λn=>(c.r107.go (Ud inn n) rfl).seen
  rate1:=λx w=>(c.r109.go (Pb c.fz.lim c.fz.yR x w) rfl).seen
  name:=λs=>c.r123.go (U6 e (λn=>c.r125.go (Ps e i n) rfl) s) rfl }
theorem Ax:zc C:=
 {EZ c with
  num:=λp hp=>(c.r106.go (Zw (EZ c) p hp) rfl).seen
  rate:=λp hp=>(c.r108.go (Ue (EZ c) p hp) rfl).seen
  uniq:=λl e=>(c.r110.go (Ui (EZ c) l e) rfl).seen }
theorem Ay:ik C:=
 {Ax c with
  ends:=λl e he=>(c.r102.go (Uc (EZ c) l e he) rfl).seen }
theorem T5:nN C:=
 {Ay c with
  law:=λl i=>(c.r95.go (Zv (Ay c) l i) rfl).seen
  pol:=λp n hp u=>(c.r112.go (Zx (Ax c) p hp n u) rfl).seen
  aoM:=λf e=>(c.r111.go (Zu (EZ c) f e) rfl).seen }
theorem IH(f:aB)(e:f.Ok):aJ C 96 [.agg f.cells] .nil (aL (.j (xW f))):=(c.r96.go (Z1 (T5 c) f e) rfl).seen
theorem sr:I5 C:=
 {valid:=λf e=>(c.r161.go (R6 (IH c) f e) rfl).seen
  bu:=λf v i h=>(c.r156.go (W3 f i v h) rfl).seen }
theorem gt:iy C:=
 {sr c with
  room:=λf room i=>(c.r152.go (D4 (sr c) f i room) rfl).freeze
  loads:=λf l e u=>c.r157.go (R2 f e l u) rfl }
theorem W5:Nw C:=
 {gt c with
  shape:=λf l v hV i u e=>(c.r160.go (R5 (gt c) f hV l i v u e) rfl).seen }
theorem D2:LA C:=
 {W5 c with
  bad:=λo5 v k w=>c.r159.go (R7 o5 v k w) rfl }
theorem D3:zo C:=
 {D2 c with
  row:=λf l v hV e w i u=>(c.r158.go (Xc (D2 c) f hV e l v w i u) rfl).seen }
theorem acC:Yb C:=
 {D3 c with
  viol:=λf l room e i=>(c.r154.go (Xb (D3 c) f e l i room) rfl).seen }
theorem tJ:vD C:={ trimM:=λxs h l=>c.r38.go (Xq xs h l) rfl }
theorem C6:zj C:=
 {tJ c with
  make:=λv h=>(c.r35.go (Xi (tJ c) v h) rfl).seen
  large:=λxs h l=>(c.r41.go (Sa (tJ c) xs h l) rfl).seen
  cmp:=λxs ys e i u w=>c.r32.go (acE (tJ c) xs ys e i u w) rfl }
theorem C8:zl C:=
 {C6 c with
  minus:=λa b i hb l w e=>(c.r42.go (Sb (tJ c) a b i hb l w e) rfl).seen
  times:=λa b i hb e u=>(c.r44.go (Sg (tJ c) a b i hb e u) rfl).seen }
theorem fm:iw C:=
 {C8 c with
  plus:=λa b l hb e i=>(c.r43.go (Xo (tJ c) a b l hb e i) rfl).seen }
theorem V8:SC C:=
 {fm c with
  bits:=λxs h l=>c.r31.go (Xe (tJ c) xs h l) rfl
  upM:=λa n i e u w=>c.r45.go (afU (tJ c) a n i e u w) rfl
  down:=λa n i e u=>(c.r40.go (Xh (tJ c) a n i e u) rfl).seen }
theorem fl:iu C:=
 {C6 c with
  divide:=λA B hB i e=>(c.r39.go (Mt (V8 c) A B hB i e) rfl).seen }
theorem C7:zk C:=
 {fl c with
  gcd:=λa b e hb i l=>(c.r34.go (acG (fl c) a b e hb i l) rfl).seen
  div:=λa b e hb i l=>(c.r33.go (acF (fl c) a b e hb i l) rfl).seen }
theorem Ib:I3 C:=
 {C7 c with
  lowest:=λneg a b l hb u w x y i=>(c.r58.go (M6 (C7 c) neg a b l hb u w x y i) rfl).seen
  size:=λv e=>c.r59.go (Xz v e.1 e.2) rfl }
theorem PG:iv C:=
 {Ib c with
  fmk:=λn d i e=>(c.r50.go (Xw (Ib c) n d i e) rfl).seen }
theorem LW(hi:FN C):IA C:=
 {PG c with
  int:=λn e=>(c.r47.go (Io (PG c) n e) rfl).seen
  itoa:=hi
  next:=λl v T o n a e i=>c.r4.go (Vl T o n a e i) rfl }
theorem Cf(hi:FN C):zg C:=
 {LW c hi with
  frac:=λl v T o a e=>c.r1.go (Vf (LW c hi) T o a e) rfl }
theorem Cg(hi:FN C):yQ C:=
 {Cf c hi with
  rep:=λl v T o a m i e=>c.r5.go (aaO (Cf c hi) T o a m i e) rfl
  name:=λs n w u=>c.r29.go (Vk (LW c hi) s n w u) rfl }
theorem Ch(hi:FN C):rA C:=
 {Cg c hi with
  law:=λl v T o dR a u e i=>c.r2.go (aaL (Cg c hi) T o dR a u e i) rfl }
theorem Ci(hi:FN C):zh C:=
 {Ch c hi with
  grow:=λl v T mc aoC e i u=>Be (Ch c hi) T mc aoC e i u (λargs H R w h=>c.r7 args H R (by rw[w];decide) h) 4 (apU _) }
theorem cx(hi:FN C):Nq C:=
 {Ci c hi with
  new:=λl hb w=>c.r28.go (aaM l hb w) rfl
  fleet:=λl v T o aoC aoE a e i u=>RZ.exact (c.r0.go (Pw (Ci c hi) T o aoC aoE a e i u) rfl) }
theorem r8:xm C:=
 {PG c with
  int:=λn u=>(c.r47.go (Io (PG c) n u) rfl).seen
  mul:=λa b e hb i l=>(c.r36.go (acH (C8 c) a b e hb i l) rfl).seen
  add:=λa b e hb i l=>(c.r30.go (acD (fm c) a b e hb i l) rfl).seen
  sub:=λa b e hb i l=>(c.r37.go (acK (fm c) a b e hb i l) rfl).seen }
theorem fp:ix C:=
 {r8 c with
  valid:=λx e=>c.r56.go (Sn (r8 c) x.neg x.num x.den e.1 e.2.1 e.2.2.1 e.2.2.2) rfl
  big:=λx=>c.r48.go (Sk x.1 (aS x.2.1) (aS x.2.2)) rfl }
theorem C9:zm C:=
 {fp c with
  fits:=λx=>(c.r57.go (Xt (fp c) x) rfl).seen
  red:=λx i=>(c.r52.go (M7 (fp c) x i) rfl).seen
  prod:=λa b e hb l u w y=>c.r60.go (Sm (r8 c) a b e hb l u w y) rfl }
theorem HJ:FS C:=
 {C9 c with
  order:=λx y e i l u=>c.r51.go (Sl (C9 c) x y e i l u) rfl }
theorem Ic:I4 C:=
 {HJ c with
  less:=λx y e i l u=>c.r49.go (Xv (HJ c) x y e i l u) rfl
  same:=λx y e i l u=>c.r53.go (Xx (HJ c) x y e i l u) rfl
  sign:=λx e l=>c.r54.go (Xy (HJ c) x e l) rfl
  plus:=λx y e i=>(c.r46.go (acL (HJ c) x y e i) rfl).seen }
theorem fk:it C:=
 {Ic c with
  sum:=λl i e=>(c.r55.go (acN (Ic c) l i e) rfl).seen
  inn:=λn lo hi=>c.r76.go (Nk n lo hi) rfl
  code:=λk m=>c.r61.go (Wp k m) rfl }
theorem vf:qd C:=
 {fk c with
  small:=λx e=>c.r74.go (Sy (fk c) x e) rfl
  nums:=λk m q s0 s1 s2 s3 s4=>c.r72.go (Gj (fk c) k m q s0 s1 s2 s3 s4) rfl
  sizes:=λi l u w y A=>c.r73.go (Sx i l u w y A) rfl }
theorem vh:qe C:=
 {vf c with
  smalls:=λl e n=>c.r75.go (Nj (vf c) l e n) rfl }
theorem vi:qf C:=
 {vh c with
  reps:=λl e m=>c.r66.go (acV (vh c) l e m) rfl }
theorem vj:qg C:=
 have e:∀n:Nat,aJ C 65 [.int .u8 n] .nil (aL (.bool (gO n))):=λn=>c.r65.go (Nb n) rfl;have i:∀n:Nat,aJ C 63 [.int .u8 n] .nil (aL (.bool (pX n))):=λn=>c.r63.go (So n) rfl
 {vi c with
  name:=λs=>c.r62.go (M9 e (λn=>c.r64.go (M8 e i n) rfl) s) rfl
  index:=λl u s=>c.r71.go (Sv l u s) rfl }
theorem vk:vC C:=
 {vj c with
  fresh:=λl i s w H e=>c.r70.go (Su (vj c) l i s w H e) rfl }
theorem Qs:xY C:=
 {vk c with
  law:=λl e=>c.r68.go (acU (vk c) l e) rfl }
theorem Qt:qh C:=
 {Qs c with
  dur:=λm rep i t h l e=>c.r69.go (acT (vi c) m rep i t h l e) rfl }
theorem uQ:SB C:=
 {valid:=λf w=>c.r67.go (S1 (Qt c) f w) rfl
  yR:=λf d level e u i l=>c.r88.go (Q8 f e d u level i l) rfl
  bu:=λf v e h=>(c.r82.go (Wy f e v h) rfl).seen }
theorem Qu:Gm C:=
 {uQ c with
  bad:=λf row e=>c.r89.go (abQ f row e) rfl }
theorem Qv:WK C:=
 {Qu c with
  allowed:=λf p d hV hp e=>c.r77.go (ZI f hV p hp d e) rfl
  count:=λf row n hV l i=>c.r80.go (Ra (uQ c).toNt f hV row l n i) rfl }
theorem vm:qi C:=
 {uQ c with
  room:=λf room i=>(c.r85.go (Du (uQ c) f i room) rfl).seen
  loads:=λf l i x=>(c.r84.go (Rq (uQ c) f i l x) rfl).G5
  row:=λf v row hV e w u=>(c.r90.go (abX (Qv c) f hV e v w row u) rfl).seen }
theorem V7:Ns C:=
 {vm c with
  viol:=λf l room e i=>(c.r87.go (W1 (vm c) f e l i room) rfl).seen }
theorem G7:KY C:=
 {subs:=λn top=>c.r210.go (Ag n top) rfl
  iter:=λl o1 o2 n top J B i u y A x D H w e b1 b2 g1 g2=>c.r211.go (Ac J B i u y A x w e b1 b2 g1 g2) rfl }
theorem Zr:Np C:=
 {G7 c with
  val:=IH c
  units:=λf lv hV e h5=>(c.r206.go (Oc f hV lv e h5) rfl).seen
  choose:=λm n i l=>c.r207.go (Jn m n i l) rfl }
theorem afY:Nm C:=
 {adm:=λf p set hV hp e l=>c.r201.go (Y7 f hV p hp e set l) rfl
  known:=λf aoP i=>c.r203.go (N6 (IH c) f i aoP) rfl }
theorem s9:Nn C:=
 {afY c with
  subs:=λn top=>c.r210.go (Ag n top) rfl
  iter:=λl o1 o2 n top J B i u y A x D H w e b1 b2 g1 g2=>c.r211.go (Ac J B i u y A x w e b1 b2 g1 g2) rfl }
theorem acS:No C:=
 {s9 c with
  sets:=λf p hV x hp e y u A w=>by obtain⟨i,l,r⟩:=c.r229;exact(r.go (Af (s9 c).toKY i l f x p (λset B _=>(s9 c).adm f p set hV hp e B) y u A w) rfl).seen }
theorem rb(f:aB)(lv cnt:Int)(l:f.Ok):aJ C 230 [.agg f.cells,vJ lv cnt] .nil (aL (.tup [lay (gY f lv cnt),.j (gK f lv cnt)])):=by
 obtain⟨e,i,r⟩:=c.r230;exact(r.go (Ti (Zr c) e i f l lv cnt) rfl).seen
theorem C5:FQ C:=
 {node:=λf l e v i w hi=>c.r304.go (V6 f l e v i w hi) rfl
  drv:=λf l d e=>c.r305.go (abH f l d e) rfl
  total:=λf hV=>c.r306.go (Qr (uQ c).bu f hV) rfl
  qvalid:=(uQ c).valid
  allowed:=λf p d hV hp e=>c.r77.go (ZI f hV p hp d e) rfl
  qroom:=λf room u=>(c.r85.go (Du (uQ c) f u room) rfl).seen }
theorem abG(f:aB)(room:I_)(e:f.Ok):aJ C 307 [.agg f.cells,ints room] .nil (aL (ru f room)):=(c.r307.go (abJ (C5 c) f e room) rfl).Me
theorem Ia(n:dK)(e:lE n):aJ C 299 [.agg n.cells] .nil (aL (.bool true)):=c.r299.go (Qh n e) rfl
theorem abF:adJ C:=
 {C5 c with
  jC:=abG c
  HC:=λn e=>c.r303.go (Qg (Ia c) (λn xs e l=>c.r300.go (Qi (Ia c) n e xs l) rfl) (λn fo xs e i=>by rw[<-i.len];exact c.r302.go (Qf n e fo xs i) rfl) n e) rfl
  rH:=λf room xs hV i=>(c.r308.go (abI (C5 c) f hV room xs i) rfl).Me }
theorem j5(B:WN C):X7 C:=
 {ga:=rb c
  holds:=λf l room A e=>(c.r150.go (Rx (acC c) f A l e room) rfl).seen
  srt:=λrow i e=>c.r368.go (K4 B row i e) rfl
  loss:=λsc u w set x y m=>c.r367.go (Td sc u w set x y m) rfl }
theorem Zt(hi:FN C):Nl C:=
 {new:=(cx c hi).new
  tfleet:=(cx c hi).fleet
  JI:=λl v T o a f i e=>exactly (c.r6.go (Vm (LW c hi) T o a f i e) rfl)
  next:=λl v T o n a u e=>(LW c hi).next l v T o n a u e }
theorem G8(hi:FN C):nS C yl:=W4 (λl hb u aoC aoE e i=>(c.r27.go (Pv (cx c hi) l hb u aoC aoE e i) rfl).seen) (IH c) (rb c)
theorem Zs(e:aJ C 201 [.agg eX.cells,.agg (nJ eX 0).cells,ints [0]] .nil (aL (.bool true))):aJ C 229 [.agg eX.cells,.agg (nJ eX 0).cells] .nil (aL (lay [[0]])):=R1 (G7 c) c.r229 e
theorem aeF(f:aB)(aoP:Int)(e:f.Ok):aJ C 205 [.agg f.cells,.j aoP] .nil (aL (.tup [lay (SF f aoP),.j (FU f aoP)])):=(c.r205.go (N4 (acS c) f e aoP) rfl).seen
theorem aiG(w:WN C):X8 C:=
 {loads:=λf l u B=>c.r151.go (Rv (gt c) f u l B) rfl
  fits:=λloads R row set a b d e=>c.r370.go (aaG loads R row set a b d e) rfl
  exch:=λrow set a b d e g h i=>c.r371.go (U3 row set a b d e g h i) rfl
  ga:=rb c
  holds:=(j5 c w).holds
  room:=λf room u=>(c.r152.go (D4 (sr c) f u room) rfl).freeze
  opts:=λf u D x sc y A=>(c.r369.go (Fg ⟨aeF c,(j5 c w).loss⟩ f u D x sc y A) rfl).seen
  srt:=(j5 c w).srt
  loss:=(j5 c w).loss }
theorem aeG(hi:FN C)(u:WN C)(w:aJ C 362 [] .nil (aL (.bool true))):zf C:=
 {read:=λl hb e=>c.r375.go (Tg (Zt c hi) l hb e 7 3 aT aT) rfl
  place:=λf room i y=>(c.r309.go (Lr (abF c) f i y room) rfl).aeV
  imp:=λf lv cnt room l i e=>(c.r364.go (Ff (aiG c u) f i lv cnt room l e) rfl).seen
  cost:=λf lv cnt l i e=>c.r365.go (Uy (j5 c u) f i lv cnt l e) rfl
  rholds:=λf l room i e=>c.r83.go (Rn (V7 c) f i l e room) rfl
  sets:=λa x hb=>c.r212.go (T1 (λl e=>c.r94.go (Tx l e) rfl) a x hb) rfl
  i0:=w }
end L
theorem Kw(c:JT C)(hi:FN C)(u:WN C)(e:aJ C 362 [] .nil (aL (.bool true)))(r:bU C 382 k8)(l:N_)(hb:∀x∈l,x<256)(i:Z' l<=9223372036854775807) :
  aJ C 382 [.sl 1 (kL l)] .nil (aL (.bool true)):=r.go (U8 (L.aeG c hi u e) l hb i) rfl
end Go.PM
