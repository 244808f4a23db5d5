/-Lemmas for the law. No condition.-/
import Derived.Test.YtjnaciiebeflnaaGreatDoorGC5

set_option linter.unusedSimpArgs false
set_option linter.unusedVariables false
open Nat renaming reduceEqDiff->γ,reduceAdd->δ,reduceSub->ε,reduceMul->ζ,reduceLT->η,reduceLeDiff->θ,reduceBEq->τ
open Int renaming reduceLT->ι,reduceLE->κ,reduceEq->μ,reduceToNat->ν,reduceAdd->ξ,reduceNeg->ο,reduceBEq->ρ,reduceBNe->σ
open List renaming length_map->auW,range->auX,length_append->auZ,replicate->avA,getElem?_eq_getElem->avF,mem_cons->avL,getElem?_map->avO,take_of_length_le->avT,map_append->avU,mem_map->avV,not_mem_nil->avY,all_eq_true->awA,append_assoc->awB,getElem?_eq_some_iff->awD,map_cons->awE,mem_range->awG,mem_append->awH,append_nil->awJ,length_cons->awK,mem_singleton->awL,drop_zero->awM,getElem?_eq_none->awN,getElem_of_mem->awR,length_set->awS,length_nil->axC,map_nil->axD,mem_of_getElem?->axF,getElem?_append_right->axR,getElem?_append_left->axU,map_congr_left->ayB,map_map->ayD,map_set->ayE,map_take->ayN,cons_append->ayQ,getElem?_drop->ayR,mem_cons_of_mem->ayT,all_cons->ayX,getElem?_set->ayZ,nil_append->azA,mem_or_eq_of_mem_set->azJ
open Nat renaming zero_le->auY,le_refl->avD,zero_add->avK,lt_or_ge->avX,le_trans->avZ,add_zero->awQ,beq->awX,sub_self->axT
open Bool renaming and_eq_true->avE,false_eq_true->axH,and_true->axP
open Option renaming map_some->avS,some->awV
open List renaming length->Z'
set_option maxRecDepth 100000
set_option maxHeartbeats 800000
open Go.PM.PF renaming nil->n_
noncomputable section
namespace Go.PM
open Go
inductive Fr where
 |nil
 |node (v:Option PV) (l r:Fr)
def Fr.pf:Fr->PF
 | .nil,_=>none
 | .node v l r,i=>cond (awX i 0) v (cond (awX (i%2) 1) (l.pf (i/2)) (r.pf (i/2-1)))
def Fr.set:Fr->Nat->PV->Fr
 | .nil,_,_=>.nil
 | .node v l r,i,x=>cond (awX i 0) (.node (some x) l r) (cond (awX (i%2) 1) (.node v (l.set (i/2) x) r) (.node v l (r.set (i/2-1) x)))
def Fr.has:Fr->Nat->Bool
 | .nil,_=>false
 | .node _ l r,i=>cond (awX i 0) true (cond (awX (i%2) 1) (l.has (i/2)) (r.has (i/2-1)))
def Fr.put(l:Fr)(d:O_)(v:PV):Fr:=match d with
 |none=>l
 |some d=>l.set d v
def Fr.fits(l:Fr)(d:O_):Bool:=match d with
 |none=>true
 |some d=>l.has d
theorem Du(i j:Nat):awX i j=decide (i=j):=by
 rw[Bool.eq_iff_iff,Nat.beq_eq,dT_]
theorem Fr.se:∀{l:Fr}{d:Nat}{v:PV},l.has d=true->(l.set d v).pf=λi=>if i=d then some v else l.pf i
 | .nil,d,v,h=>by cases h
 | .node w l r,d,v,h=>by funext i;simp only[Fr.has,Fr.set,Du]at h ⊢;by_cases y:d=0;subst y;simp only[decide_true,cond_true,Fr.pf,Du];by_cases x:i=0<;>simp[x];simp only[y,decide_false,cond_false]at h ⊢;by_cases A:d%2=1;simp only[A,decide_true,cond_true]at h ⊢;simp only[Fr.pf,Du,Fr.se h];by_cases x:i=0;simp only[x,decide_true,cond_true];rw[aC (λe=>y e.symm)];simp only[x,decide_false,cond_false];by_cases u:i%2=1;simp only[u,decide_true,cond_true];by_cases e:i=d;rw[aF e,aF (by rw[e])];rw[aC e,aC Om];simp only[u,decide_false,cond_false];rw[aC (by intro e;rw[e]at u;exact u A)];simp only[A,decide_false,cond_false]at h ⊢;simp only[Fr.pf,Du,Fr.se h];by_cases x:i=0;simp only[x,decide_true,cond_true];rw[aC (λe=>y e.symm)];simp only[x,decide_false,cond_false];by_cases u:i%2=1;simp only[u,decide_true,cond_true];rw[aC (by intro e;rw[e]at u;exact A u)];simp only[u,decide_false,cond_false];by_cases e:i=d;rw[aF e,aF (by rw[e])];rw[aC e,aC Om]
theorem Fr.Uw{l:Fr}{d:O_}{v:PV}(h:l.fits d=true):(l.put d v).pf=l.pf.put d v:=by
 cases d with
 |none=>rfl
 |some d =>simp only[Fr.put];rw[Fr.se h];rfl
def Fr.empty:Nat->Fr
 |0=>.nil
 |n+1=>.node none (Fr.empty n) (Fr.empty n)
theorem Fr.Ed:∀(n i:Nat),(Fr.empty n).pf i=none
 |0,i=>rfl
 |n+1,i=>by simp only[Fr.empty,Fr.pf,Du];cases decide (i=0)<;>cases decide (i%2=1)<;>simp[Fr.Ed n]
def Fr.args:V_->Nat->Fr->Option Fr
 |[],_,f=>some f
 |v::vs,k,f=>cond (f.has k) (Fr.args vs (k+1) (f.set k v)) none
theorem Fr.Kr:∀{vs:V_}{k:Nat}{f g:Fr},Fr.args vs k f=some g->g.pf=λi=>if i<k then f.pf i else match vs[i-k]? with|some v=>some v|none=>f.pf i
 |[],k,f,g,h=>by cases h;funext i;split<;>simp
 |v::vs,k,f,g,h=>by
  simp only[Fr.args]at h;cases e:f.has k with
  |false=>rw[e]at h;cases h
  |true=>
   rw[e]at h;rw[Fr.Kr h,Fr.se e];funext i;show(if i<k+1 then(if i=k then some v else f.pf i)else match vs[i-(k+1)]? with|some w=>some w|none=>(if i=k then some v else f.pf i))=if i<k then f.pf i else match(v::vs)[i-k]? with|some w=>some w|none=>f.pf i
   rcases Nat.lt_trichotomy i k with c|c|c
   rw[aF Om,aC Om,aF c];subst c;rw[aF Om,aF rfl,aC Om,axT];rfl;rw[aC Om,aC Om,aC Om];obtain⟨d,l⟩:∃d,i-k=d+1:=⟨i-k-1,by omega⟩;rw[l,show i-(k+1)=d by omega];rfl
abbrev Hp:=List aV
def aV.live:aV->Option aV
 | .dead=>none
 | .loop ..=>none
 |x=>some x
def Hp.ph(l:Hp):PH:=⟨λo=>(l[o]?).bind aV.live,Z' l,λo e=>by simp[awN e]⟩
theorem Hp.kV(l:Hp)(o:Nat):l.ph o=(l[o]?).bind aV.live:=rfl
def aV.Bd(n:Nat):aV->Prop
 | .rows _ rs=>PV.eQ n rs=true
 | .map _ g=>∀k v,g k=some v->v.bound 0=true
 |_=>True
def ve(n:Nat)(f:Fr):Prop:=∀i v,f.pf i=some v->v.bound n=true
structure Rl(r:Ren)(f:Fr)(h:Hp)(F:PF)(H:PH):Prop where
 fr:F=f.pf.ren r
 hp:JP r h.ph H
 inj:∀i j x y,h.ph i=some x->h.ph j=some y->(r i).1=(r j).1->i=j
 fb:ve h.length f
 hb:∀x∈h,aV.Bd h.length x
 pc:∀i x,h.ph i=some x->PV.eQ 0 (r i).2=true
def hZ(n:Nat)(r r':Ren):Prop:=∀i,i<n->r i=r' i
mutual
theorem PV.vG{n m:Nat}(h:n<=m):∀v:PV,v.bound n=true->v.bound m=true
 | .osl o s off len,hb=>by simp only[PV.bound,dT_]at hb ⊢;omega
 | .ptr o s i c,hb=>by simp only[PV.bound,dT_]at hb ⊢;omega
 | .map o,hb=>by simp only[PV.bound,dT_]at hb ⊢;omega
 | .sl s rows,hb=>by simp only[PV.bound]at hb ⊢;exact PV.zB h rows hb
 | .aX cs,hb=>by simp only[PV.bound]at hb ⊢;exact PV.qO h cs hb
 | .fn _ cs,hb=>by simp only[PV.bound]at hb ⊢;exact PV.qO h cs hb
 | .agg cs,hb=>by simp only[PV.bound]at hb ⊢;exact PV.qO h cs hb
 | .tup cs,hb=>by simp only[PV.bound]at hb ⊢;exact PV.qO h cs hb
 | .int _ _,_=>rfl
 | .bool _,_=>rfl
 | .str _,_=>rfl
 | .aJ,_=>rfl
 | .lit _,_=>rfl
 | .junk,_=>rfl
theorem PV.qO{n m:Nat}(h:n<=m):∀l:V_,PV.bounds n l=true->PV.bounds m l=true
 |[],_=>rfl
 |v::vs,hb=>by simp only[PV.bounds,avE]at hb ⊢;exact⟨PV.vG h v hb.1,PV.qO h vs hb.2⟩
theorem PV.zB{n m:Nat}(h:n<=m):∀l:P2_,PV.eQ n l=true->PV.eQ m l=true
 |[],_=>rfl
 |v::vs,hb=>by simp only[PV.eQ,avE]at hb ⊢;exact⟨PV.qO h v hb.1,PV.zB h vs hb.2⟩
end
def PV.CA(n:Nat)(v:PV):Bool:=cond (v.bound 0) true (v.bound n)
theorem PV.zA{n:Nat}{v:PV}(h:v.CA n=true):v.bound n=true:=by
 unfold PV.CA at h;cases e:v.bound 0 with
 |true=>exact PV.vG (auY _) v e
 |false=>rw[e]at h;exact h
theorem aV.Bd.mono{n m:Nat}(h:n<=m){x:aV}(hb:x.Bd n):x.Bd m:=by
 cases x with
 |rows s rs=>exact PV.zB h rs hb
 |map sh g=>exact hb
 |loop=>trivial
 |dead=>trivial
theorem aV.oU{n:Nat}{r r':Ren}(h:hZ n r r'){x:aV}(hb:x.Bd n)(pre:P2_):x.ren r pre=x.ren r' pre:=by
 cases x with
 |rows s rs=>simp only[aV.ren,<-PV.kP];rw[PV.KT h rs hb]
 |map sh g=>
  simp only[aV.ren];congr 1;funext k;cases e:g k with
  |none=>rfl
  |some v=>rw[avS,avS,PV.oO (hb k v e),PV.oO (hb k v e)]
 |loop=>rfl
 |dead=>rfl
theorem PF.oU{n:Nat}{r r':Ren}(h:hZ n r r'){f:Fr}(hb:ve n f):f.pf.ren r=f.pf.ren r':=by
 funext i;unfold PF.ren;cases e:f.pf i with
 |none=>rfl
 |some v=>rw[avS,avS,PV.WA h v (hb i v e)]
theorem PF.ahI(r:Ren)(F:PF)(d:O_)(v:PV):(F.put d v).ren r=(F.ren r).put d (v.ren r):=by
 cases d with
 |none=>rfl
 |some d =>funext i;simp only[PF.put,PF.ren,PF.set,upd];split<;>rfl
theorem mC{l:Hp}{o:Nat}{x:aV}(h:l.ph o=some x):l[o]?=some x/\o<Z' l:=by
 rw[Hp.kV]at h;cases e:l[o]? with
 |none=>rw[e]at h;cases h
 |some y=>
  rw[e]at h;have hlt:=(awD.1 e).1;cases y with
  |dead=>cases h
  |loop=>cases h
  |rows=>cases h;exact⟨rfl,hlt⟩
  |map=>cases h;exact⟨rfl,hlt⟩
theorem Hp.HL{l:Hp}{o:Nat}{x:aV}(u:o<Z' l)(q:Nat):Hp.ph (l.set o x) q=if q=o then x.live else l.ph q:=by
 rw[Hp.kV,Hp.kV,ayZ];by_cases e:o=q;subst e;rw[aF rfl,aF u,aF rfl];rfl;rw[aC e,aC (λi=>e i.symm)]
theorem Hp.vT{l:Hp}{x:aV}(q:Nat):Hp.ph (l++[x]) q=if q=l.length then x.live else l.ph q:=by
 rw[Hp.kV,Hp.kV];by_cases e:q=Z' l;subst e;rw[aF rfl,axR (avD _),axT];rfl;rw[aC e];rcases avX q l.length with h|h
 rw[axU h];rw[axR h,awN (show[x].length<=q-l.length by simp;omega),awN h]
theorem aV.CO{x y:aV}(h:x.live=some y):x=y:=by
 cases x<;>first|cases h;done|(cases h;rfl)
section
variable {r:Ren} {f:Fr} {h:Hp} {F:PF} {H:PH}
theorem Rl.push(R:Rl r f h F H){x:aV}(J:x.Bd h.length){o:Nat}(N:H o=none) :
  Rl (λi=>if i=h.length then(o,[])else r i) f (h++[x]) F (H.set o (x.ren r []))/\hZ h.length r (λi=>if i=h.length then(o,[])else r i):=by
 have A:hZ h.length r (λi=>if i=h.length then(o,[])else r i):=λi hi=>by
  show r i=if i=h.length then(o,[])else r i
  rw[aC Om]
 have l:∀i y,h.ph i=some y->(r i).1≠o:=λi y hy e=>by have this:=R.hp i y hy;rw[e,N]at this;cases this
 have E:(h++[x]).length=Z' h+1:=by simp
 refine⟨⟨?_,λi y hy=>?_,λi j y z hy w e=>?_,λi v O=>?_,λy hy=>?_,λi y hy=>?_⟩,A⟩;rw[R.fr];exact PF.oU A R.fb;rw[Hp.vT]at hy;by_cases e:i=Z' h;rw[aF e]at hy;have:=aV.CO hy;subst this;show(H.set o (x.ren r [])) (if i=h.length then((o,[]):Nat × P2_)else r i).1=some (x.ren _ (if i=h.length then((o,[]):Nat × P2_)else r i).2);rw[aF e,aV.oU A J];simp[PH.set,PH.upd,upd];rw[aC e]at hy;have B:=R.hp i y hy;show(H.set o (x.ren r [])) (if i=h.length then((o,[]):Nat × P2_)else r i).1=some (y.ren _ (if i=h.length then((o,[]):Nat × P2_)else r i).2);rw[aC e];have K:=mC hy;rw[aV.oU A (R.hb y (axF K.1))]at B;have M:=l i y hy;simp only[PH.set,PH.upd,upd];rw[aC M];exact B;rw[Hp.vT]at hy w
 try simp only at e
 by_cases u:i=Z' h;by_cases e2:j=Z' h;omega;rw[aF u,aC e2]at e;rw[aC e2]at w;exact absurd e.symm (l j z w);by_cases e2:j=Z' h;rw[aC u,aF e2]at e;rw[aC u]at hy;exact absurd e (l i y hy);rw[aC u,aC e2]at e;rw[aC u]at hy;rw[aC e2]at w;exact R.inj i j y z hy w e;rw[E];exact PV.vG (Nat.le_succ _) v (R.fb i v O);rw[E];rcases awH.1 hy with hy|hy
 exact(R.hb y hy).mono (Nat.le_succ _);rw[awL]at hy;subst hy;exact J.mono (Nat.le_succ _);show PV.eQ 0 (if i=h.length then((o,[]):Nat × P2_)else r i).2=true;by_cases e:i=Z' h;rw[aF e];rfl;rw[aC e];rw[Hp.vT,aC e]at hy;exact R.pc i y hy
theorem Rl.kd(R:Rl r f h F H){o:Nat}{x y:aV}(B:h.ph o=some x)(O:y.Bd h.length):Rl r f (h.set o y) F (H.set (r o).1 (y.ren r (r o).2)):=by
 have hlt:=(mC B).2;refine⟨R.fr,λi z l=>?_,λi j z w l E e=>?_,λi v N=>?_,λz l=>?_,λi z l=>?_⟩;rw[Hp.HL hlt]at l;by_cases e:i=o;rw[aF e]at l;have:=aV.CO l;subst this;subst e;simp[PH.set,PH.upd,upd];rw[aC e]at l;have A:=R.hp i z l;simp only[PH.set,PH.upd,upd];rw[aC (λM=>e (R.inj i o z x l B M))];exact A;rw[Hp.HL hlt]at l E;have h1:∃K,h.ph i=some K:=by by_cases u:i=o;subst u;exact⟨x,B⟩;rw[aC u]at l;exact⟨z,l⟩
 have A:∃J,h.ph j=some J:=by by_cases u:j=o;subst u;exact⟨x,B⟩;rw[aC u]at E;exact⟨w,E⟩
 obtain⟨K,h1⟩:=h1;obtain⟨J,A⟩:=A;exact R.inj i j K J h1 A e;rw[awS];exact R.fb i v N;rw[awS];rcases azJ l with h1|h1
 exact R.hb z h1;subst h1;exact O;rw[Hp.HL hlt]at l;by_cases u:i=o;subst u;exact R.pc i x B;rw[aC u]at l;exact R.pc i z l
theorem Rl.drop(R:Rl r f h F H)(o:Nat):Rl r f (h.set o .dead) F H:=by
 have u:∀i z,Hp.ph (h.set o .dead) i=some z->h.ph i=some z:=λi z l=>by rw[Hp.kV,ayZ]at l;by_cases e:o=i;rw[aF e]at l;split at l<;>cases l;rw[aC e]at l;exact l
 refine⟨R.fr,λi z l=>R.hp i z (u i z l),λi j z w l y e=>R.inj i j z w (u i z l) (u j w y) e,λi v x=>?_,λz l=>?_,λi z l=>R.pc i z (u i z l)⟩;rw[awS];exact R.fb i v x;rw[awS];rcases azJ l with h1|h1
 exact R.hb z h1;subst h1;trivial
theorem Rl.move(R:Rl r f h F H){o:Nat}{x y:aV}(K:h.ph o=some x)(S:y.Bd h.length)(pre:P2_)(B:PV.eQ 0 pre=true) :
  Rl (λi=>if i=h.length then((r o).1,pre)else r i) f (h.set o .dead++[y]) F (H.set (r o).1 (y.ren r pre))/\hZ h.length r (λi=>if i=h.length then((r o).1,pre)else r i):=by
 have hlt:=(mC K).2;have J:hZ h.length r (λi=>if i=h.length then((r o).1,pre)else r i):=λi hi=>by
  show r i=if i=h.length then((r o).1,pre)else r i
  rw[aC Om]
 have E:(h.set o .dead).length=Z' h:=awS ..;have l:∀i z,i≠Z' h->Hp.ph (h.set o .dead++[y]) i=some z->i≠o/\h.ph i=some z:=λi z hi hz=>by rw[Hp.vT,E,aC hi,Hp.HL hlt]at hz;by_cases e:i=o;rw[aF e]at hz;cases hz;rw[aC e]at hz;exact⟨e,hz⟩
 have N:(h.set o .dead++[y]).length=Z' h+1:=by simp
 refine⟨⟨?_,λi z hz=>?_,λi j z w hz O e=>?_,λi v V=>?_,λz hz=>?_,λi z hz=>?_⟩,J⟩;rw[R.fr];exact PF.oU J R.fb;by_cases e:i=Z' h;rw[Hp.vT,E,aF e]at hz;have:=aV.CO hz;subst this;show(H.set (r o).1 (y.ren r pre)) (if i=h.length then(((r o).1,pre):Nat × P2_)else r i).1=some (y.ren _ (if i=h.length then(((r o).1,pre):Nat × P2_)else r i).2);rw[aF e,<-aV.oU J S];simp[PH.set,PH.upd,upd];obtain⟨h1,u⟩:=l i z e hz;have M:=R.hp i z u;show(H.set (r o).1 (y.ren r pre)) (if i=h.length then(((r o).1,pre):Nat × P2_)else r i).1=some (z.ren _ (if i=h.length then(((r o).1,pre):Nat × P2_)else r i).2);rw[aC e];rw[aV.oU J (R.hb z (axF (mC u).1))]at M;simp only[PH.set,PH.upd,upd];rw[aC (λU=>h1 (R.inj i o z x u K U))];exact M
 try simp only at e
 by_cases A:i=Z' h;by_cases e2:j=Z' h;omega;rw[aF A,aC e2]at e;obtain⟨h1,u⟩:=l j w e2 O;exact absurd (R.inj o j x w K u e).symm h1;by_cases e2:j=Z' h;rw[aC A,aF e2]at e;obtain⟨h1,u⟩:=l i z A hz;exact absurd (R.inj i o z x u K e) h1;rw[aC A,aC e2]at e;exact R.inj i j z w (l i z A hz).2 (l j w e2 O).2 e;rw[N];exact PV.vG (Nat.le_succ _) v (R.fb i v V);rw[N];rcases awH.1 hz with hz|hz
 rcases azJ hz with h1|h1
 exact(R.hb z h1).mono (Nat.le_succ _);subst h1;trivial;rw[awL]at hz;subst hz;exact S.mono (Nat.le_succ _);show PV.eQ 0 (if i=h.length then(((r o).1,pre):Nat × P2_)else r i).2=true;by_cases e:i=Z' h;rw[aF e];exact B;rw[aC e];exact R.pc i z (l i z e hz).2
theorem Rl.put(R:Rl r f h F H){d:O_}{v:PV}(l:f.fits d=true)(u:v.bound h.length=true):Rl r (f.put d v) h (F.put d (v.ren r)) H:=by
 refine⟨?_,R.hp,R.inj,λi w e=>?_,R.hb,R.pc⟩;rw[Fr.Uw l,PF.ahI,R.fr]
 ·rw[Fr.Uw l]at e;cases d with
  |none=>exact R.fb i w e
  |some d =>simp only[PF.put,PF.set,upd]at e;split at e;cases e;exact u;exact R.fb i w e
end
end Go.PM
namespace Go.PM
open Go
def aV.bd(n:Nat):aV->Bool
 | .rows _ rs=>PV.eQ n rs
 |_=>false
theorem aV.AI{n:Nat}{x:aV}(h:x.bd n=true):x.Bd n:=by
 cases x<;>first|exact h|cases h
def Ci(n m bytes:Nat):Bool:=decide (n+m<=maxLen)&&decide ((n+m)*bytes<=140737488355328)
theorem cl{n m bytes:Nat}(h:Ci n m bytes=true):roomFor n m bytes:=by
 simp only[Ci,avE,dT_]at h;exact h
def yM(op:POp)(f:Fr)(h:Hp):Option (PV × Hp):=match op with
 | .auR sh=>some (.map h.length,h++[.map sh λ_=>none])
 |op=>match cN op f.pf with
  |some (e,x)=>if x.bd h.length then some (e h.length,h++[x])else none
  |none=>none
def kR(op:POp)(f:Fr)(h:Hp):Option (PV × Hp):=match op with
 | .store n p x=>match p.ev f.pf,x.ev f.pf with
  |some (.ptr o s i c),some v=>match h[o]? with
   |some (.rows s' rs)=>match rs[i]? with
    |some q=>if(decide (Z' v.cells=n)&&(decide (s'=s)&&(decide (c+Z' v.cells<=s)&&v.cells.all PV.one)))&&aV.bd h.length (.rows s' (rs.set i (setCells q c v.cells)))then
      some (.junk,h.set o (.rows s' (rs.set i (setCells q c v.cells))))else none
    |none=>none
   |_=>none
  |_,_=>none
 | .append size bytes x y=>match x.ev f.pf,y.ev f.pf with
  |some .aJ,some b=>match dH h.ph size b with
   |some []=>some (.aJ,h)
   |some (a::src)=>if Ci 0 (a::src).length bytes&&aV.bd h.length (.rows size (a::src))then some (.osl h.length size 0 (a::src).length,h++[.rows size (a::src)])else none
   |none=>none
  |some (.osl o s off len),some b=>match dH h.ph size b,h[o]? with
   |some src,some (.rows s' rs)=>if(decide (s=size)&&(decide (s'=size)&&(decide (off+len<=Z' rs)&&PV.eQ 0 (rs.take off))))&&(Ci len src.length bytes&&aV.bd h.length (.rows size ((rs.drop off).take len++src)))then
     some (.osl h.length size 0 (len+Z' src),h.set o .dead++[.rows size ((rs.drop off).take len++src)])else none
   |_,_=>none
  |_,_=>none
 |_=>none
noncomputable def CU(op:POp)(f:Fr)(h:Hp):Option (PV × Hp):=
 if op.clo then
  if op.iN then yM op f h else if op.eT then kR op f h else
   match bD op f.pf h.ph with
   |some v=>if v.CA h.length then some (v,h)else none
   |none=>none
 else none
section
variable {r:Ren} {f:Fr} {h h':Hp} {F:PF} {H:PH} {K:R_} {v:PV}
theorem I8{F:PF}{op:POp}{B:Nat->PV}{x:aV}(i:op.clo=true)(e:cN op F=some (B,x))(M:∀sh,op≠.auR sh) :
  ∃mk',cN op (F.ren r)=some (mk',x.ren r [])/\(∀(q:Ren) n,(q n).2=[]->mk' (q n).1=(B n).ren q)/\∀n,(B n).bound (n+1)=true:=by
 cases op<;>try (simp[cN]at e;done)
 case alloc cells =>simp only[cN,awV.injEq,Prod.mk.injEq]at e ⊢;obtain⟨rfl,rfl⟩:=e;refine⟨_,⟨rfl,?_⟩,λq n hq=>by simp only[PV.ren,hq,axC,awQ],λn=>by simp[PV.bound]⟩;simp only[aV.ren,awE,axD,PV.mX i,azA]
 case box ro y=>
  cases ro with
  |true=>simp[cN]at e
  |false=>
   simp only[cN]at e ⊢;split at e
   ·rename_i w u;rw[dT i u];simp only[yJ,wV,auW];split at e
    ·rename_i A;rw[aF A];cases e;exact⟨_,rfl,λq n hq=>by simp only[PV.ren,hq,axC,awQ],λn=>by simp[PV.bound]⟩
    ·cases e
   ·cases e
 case atO ro size len zero parts=>
  cases ro with
  |true=>simp[cN]at e
  |false=>
   simp only[POp.clo,avE]at i;simp only[cN]at e ⊢;split at e
   ·rename_i E;rw[aF E];cases u:gY size (avA len zero) F parts with
    |none=>rw[u]at e;cases e
    |some w =>rw[u]at e;have A:=GX (r:=r) i.2 u;rw[List.map_replicate,PV.mX i.1]at A;rw[A];cases e;exact⟨_,rfl,λq n hq=>by simp only[PV.ren,hq,axC,awQ],λn=>by simp[PV.bound]⟩
   ·cases e
 case atS size bytes zero l c=>
  simp only[POp.clo,avE]at i;simp only[cN]at e ⊢;split at e
  ·rename_i k n O m u A;rw[dT i.2.1 u,dT i.2.2 A];simp only[PV.ren];split at e
   ·rename_i J;rw[aF J];cases e;have N:aV.ren r [] (.rows size (avA n.toNat zero))=.rows size (avA n.toNat zero):=by simp only[aV.ren,List.map_replicate,PV.mX i.1,azA]
    rw[N];exact⟨_,rfl,λq n hq=>by simp only[PV.ren,hq,axC,awQ],λn=>by simp[PV.bound]⟩
   ·cases e
  ·cases e
 case auR sh=>exact absurd rfl (M sh)
theorem LZ{n:Nat}:∀{a b:P2_},PV.eQ n a=true->PV.eQ n b=true->PV.eQ n (a++b)=true
 |[],_,_,h=>h
 |x::a,b,e,i=>by simp only[PV.eQ,ayQ,avE]at e ⊢;exact⟨e.1,LZ e.2 i⟩
theorem ZW:∀{l:P2_},PV.eQ 0 l=true->∀r:Ren,l.map (λx=>x.map (PV.ren r))=l
 |[],_,_=>rfl
 |x::l,h,r=>by simp only[PV.eQ,avE]at h;rw[awE,PV.mX h.1,ZW h.2]
theorem ahX{α:Type}(pre l:List α)(off len:Nat):(pre++l).take (off+Z' pre+len)=(pre++l.take off)++(l.drop off).take len:=by
 rw[List.take_append,avT Om,show off+Z' pre+len-Z' pre=off+len by omega,List.take_add,awB]
theorem I2{H:PH}{size bytes o s off len:Nat}{y:PV}{K:R_}{src rs:P2_}(e:dH H size y=some src)(i:s=size)(l:roomFor len src.length bytes)(u:H o=some (.rows size rs))(h5:off+len<=Z' rs)
  (k1:K (.osl o size off (len+Z' src)) (H.set o (.rows size (rs.take (off+len)++src)))) (k2:∀o',H o'=none->K (.osl o' size 0 (len+Z' src)) (H.set o' (.rows size ((rs.drop off).take len++src)))):kJ H size bytes (.osl o s off len) y K:=by
 cases off with
 |zero =>rw[avK]at h5 k1;exact⟨src,e,i,rfl,l,rs,u,h5,k1,k2⟩
 |succ off=>exact⟨src,e,i,l,rs,u,h5,k1,k2⟩
theorem TH{op:POp}{d:O_}{K:K_}(R:Rl r f h F H)(O:op.clo=true)(e:yM op f h=some (v,h'))
  (E:∀r' H',hZ h.length r r'->Rl r' f h' F H'->v.bound h'.length=true->K (F.put d (v.ren r')) H'):oQ (cN op F) d K F H:=by
 by_cases y:∃sh,op=.auR sh;obtain⟨sh,rfl⟩:=y;simp only[yM,awV.injEq,Prod.mk.injEq]at e;obtain⟨rfl,rfl⟩:=e;refine⟨_,_,rfl,λo A=>?_⟩;obtain⟨l,w⟩:=R.push (x:=.map sh λ_=>none) (λk v U=>by cases U) A;have:=E _ _ w l (by simp[PV.bound]);simpa[PV.ren,aV.ren]using this
 ·have i:(match cN op f.pf with|some (J,x)=>if x.bd h.length then some (J h.length,h++[x])else none|none=>none)=some (v,h'):=by cases op<;>first|exact e|exact absurd ⟨_,rfl⟩ y
  cases u:cN op f.pf with
  |none=>rw[u]at i;cases i
  |some p =>obtain⟨J,x⟩:=p;rw[u]at i;simp only at i;split at i;rename_i hb;cases i;obtain⟨mk',B,M,N⟩:=I8 (r:=r) O u (λsh S=>y ⟨sh,S⟩);rw[<-R.fr]at B;refine⟨mk',x.ren r [],B,λo A=>?_⟩;obtain⟨l,w⟩:=R.push (aV.AI hb) A;have:=E _ _ w l (by rw[auZ];exact N _);rw[<-M _ _ aZ]at this;simpa using this;cases i
theorem JE{op:POp}(R:Rl r f h F H)(u:op.clo=true)(e:kR op f h=some (v,h'))
  (V:∀r' H',hZ h.length r r'->Rl r' f h' F H'->v.bound h'.length=true->K (v.ren r') H'):cH op F H K:=by
 have A:=R.fr;cases op<;>try (simp[kR]at e;done)
 case store n p x=>
  simp only[POp.clo,avE]at u;simp only[kR]at e;split at e
  ·rename_i o s i c w O S;split at e
   ·rename_i s' rs J;split at e
    ·rename_i q Y;split at e
     ·rename_i h5;simp only[avE,dT_]at h5;obtain⟨⟨h6,rfl,h7,h8⟩,X⟩:=h5;cases e;simp only[cH,A,dT u.1 O,dT u.2 S];have B:h.ph o=some (.rows s' rs):=by rw[Hp.kV,J];rfl
      obtain⟨pre,l,M,hH⟩:=R.hp.ex B;refine⟨by rw[yJ,auW];exact h6,_,?_,V r _ (λ_ _=>rfl) (R.kd B (aV.AI X)) rfl⟩;rw[M];simp only[aV.ren]at hH;simp only[PV.ren,storeAt,hH,l,Er,Vt,aV.ren,yJ,wV,auW];rw[aF ⟨trivial,h7,h8⟩,avO,Y];simp only[avS,ayE,HT]
     ·cases e
    ·cases e
   ·cases e
  ·cases e
 case append size bytes x y=>
  simp only[POp.clo,avE]at u;simp only[kR]at e;split at e
  ·rename_i b O S;split at e
   ·rename_i J;cases e;simp only[cH,A,dT u.1 O,dT u.2 S];refine⟨[],IB R.hp J,⟨by simp[maxLen],by simp⟩,λ_=>V r H (λ_ _=>rfl) R rfl,λhn=>absurd rfl hn⟩
   ·rename_i a src J;split at e
    ·rename_i h5;simp only[avE]at h5;cases e;simp only[cH,A,dT u.1 O,dT u.2 S];refine⟨_,IB R.hp J,?_⟩;simp only[PV.ren];refine⟨by rw[auW];exact cl h5.1,λhn=>by simp at hn,λ_ o B=>?_⟩;obtain⟨N,U⟩:=R.push (aV.AI h5.2) B;have:=V _ _ U N (by simp[PV.bound]);simpa[PV.ren,aV.ren]using this
    ·cases e
   ·cases e
  ·rename_i o s off len b O S;split at e
   ·rename_i src s' rs J Y;split at e
    ·rename_i h5;simp only[avE,dT_]at h5;obtain⟨⟨rfl,rfl,h6,X⟩,h7,h8⟩:=h5;cases e;have B:h.ph o=some (.rows s' rs):=by rw[Hp.kV,Y];rfl
     simp only[cH,A,dT u.1 O,dT u.2 S];have E:=R.pc o _ B;obtain⟨pre,l,M,W⟩:=R.hp.ex B;rw[M]at E;simp only[aV.ren]at W;simp only[PV.ren];refine I2 (IB R.hp J) rfl (by rw[auW];exact cl h7) W (by rw[l,auZ,auW];omega) ?_ λo' β=>?_
     ·obtain⟨N,U⟩:=R.move B (aV.AI h8) (pre++rs.take off) (LZ E X);have:=V _ _ U N (by simp[PV.bound]);have α:Z' pre+min off rs.length=off+(r o).2.length:=Om;have Z:(rs.take off).map (λx=>x.map (PV.ren r))=rs.take off:=ZW X r;rw[l,ahX,auW,<-l,<-ayN,Z];simpa[PV.ren,aV.ren,α,avU,ayN,List.map_drop,awB]using this
     ·obtain⟨N,U⟩:=(R.drop o).push (x:=.rows s' ((rs.drop off).take len++src)) (by rw[awS];exact aV.AI h8) β;rw[awS]at U N;have:=V _ _ U N (by simp[PV.bound]);rw[l,MD,auW];simpa[PV.ren,aV.ren,avU,ayN,List.map_drop]using this
    ·cases e
   ·cases e
  ·cases e
end
abbrev gK:=Nat->V_->Hp->Option (PV × Hp)
abbrev LO:=List (bX × Bool)->Fr->Hp->Option (Fr × Hp)
noncomputable def ZN(call:gK)(op:POp)(f:Fr)(h:Hp):Option (PV × Hp):=match op with
 | .call name args=>if args.all aR.clo then match aR.evs f.pf args with
  |some vs=>call name vs h
  |none=>none
  else none
 | .auM x args=>if x.clo&&args.all aR.clo then match x.ev f.pf,aR.evs f.pf args with
  |some (.fn name cs),some vs=>call name (vs++cs) h
  |_,_=>none
  else none
 |op=>CU op f h
noncomputable def zW(call:gK):List bX->Fr->Hp->Option (Fr × Hp)
 |[],f,h=>some (f,h)
 |i::rest,f,h=>if f.fits i.dst then match i.guard with
   |none=>match ZN call i.op f h with
    |some (v,h')=>zW call rest (f.put i.dst v) h'
    |none=>none
   |some (t,e)=>match f.pf t with
    |some (.bool b)=>if b=e then match ZN call i.op f h with
      |some (v,h')=>zW call rest (f.put i.dst v) h'
      |none=>none
     else zW call rest (f.put i.dst (.tup [])) h
    |some (.tup [])=>zW call rest (f.put i.dst (.tup [])) h
    |_=>none
  else none
noncomputable def rQ(call:gK)(dr:LO):Nat->aI->Fr->Hp->Option (lG × Fr × Hp)
 |0,_,_,_=>none
 |n+1,c,f,h=>match c with
  | .skip=>some (.normal,f,h)
  | .region ops=>match zW call ops f h with
   |some (f',h')=>some (.normal,f',h')
   |none=>none
  | .draw ops=>match dr ops f h with
   |some (f',h')=>some (.normal,f',h')
   |none=>none
  | .seq a b=>match rQ call dr n a f h with
   |some (.normal,f',h')=>rQ call dr n b f' h'
   |x=>x
  | .cond x a b=>if x.clo then match x.ev f.pf with
   |some (.bool t)=>if t then rQ call dr n a f h else rQ call dr n b f h
   |_=>none
   else none
  | .block id c=>match rQ call dr n c f h with
   |some (.exit e,f',h')=>if e=id then some (.normal,f',h')else some (.exit e,f',h')
   |x=>x
  | .loop c=>match rQ call dr n c f h with
   |some (.normal,f',h')=>rQ call dr n (.loop c) f' h'
   |x=>x
  | .exit id=>some (.exit id,f,h)
  | .ret=>some (.ret,f,h)
def Comes(r:Ren)(n:Nat)(v:PV)(h':Hp)(e:PV)(H':PH):Prop:=
 ∃r',hZ n r r'/\Rl r' .nil h' n_ H'/\e=v.ren r'/\v.bound h'.length=true/\n<=Z' h'
def Exact(r:Ren)(h:Hp)(H:PH):Prop:=∀o x,H o=some x->∃i y,h.ph i=some y/\(r i).1=o
def pX(C:Ctx)(call:gK):Prop:=∀name vs h v h',call name vs h=some (v,h')->∀r H,Rl r .nil h n_ H->Exact r h H->PV.bounds h.length vs=true ->
 aH C name (vs.map (PV.ren r)) H (Comes r h.length v h')
def lh(C:Ctx)(call:gK):Prop:=∀name vs h v h',call name vs h=some (v,h')->∀r f F H d (K:K_),Rl r f h F H->PV.bounds h.length vs=true ->
 (∀r' H',hZ h.length r r'->Z' h<=Z' h'->Rl r' f h' F H'->v.bound h'.length=true->K (F.put d (v.ren r')) H')->uZ C name (some (vs.map (PV.ren r))) d K F H
def C4(C:Ctx)(dr:LO):Prop:=∀ops f h f' h',dr ops f h=some (f',h')->∀r F H,Rl r f h F H->∀K:K_,
 (∀r' e H',hZ h.length r r'->Z' h<=Z' h'->Rl r' f' h' e H'->K e H')->∃Hs S,PH.le Hs H/\wpD C Hs S ops K F H
theorem hZ.trans{n m:Nat}{r r' e:Ren}(h:hZ n r r')(l:hZ m r' e)(u:n<=m):hZ n r e:=
 λi hi=>(h i hi).trans (l i (Nat.lt_of_lt_of_le hi u))
section
variable {C:Ctx} {call:gK} {dr:LO} {r:Ren} {f f':Fr} {h h':Hp} {F:PF} {H:PH} {v:PV}
theorem Rl.heap(R:Rl r f h F H):Rl r .nil h n_ H:=⟨rfl,R.hp,R.inj,λi v e=>by simp[Fr.pf]at e,R.hb,R.pc⟩
theorem UM{n:Nat}(hb:ve n f):∀{l:List aR}{vs:V_},l.all aR.clo=true->aR.evs f.pf l=some vs->PV.bounds n vs=true
 |[],_,_,e=>by cases e;rfl
 |x::xs,vs,i,e=>by
  simp only[ayX,avE]at i;simp only[aR.evs]at e;split at e
  ·rename_i v A w y;cases e;rw[PV.bounds,UM hb i.2 y,axP];cases x with
   |tmp t=>exact hb t v w
   |const u=>cases w;exact PV.vG (auY _) _ i.1
  cases e
theorem SZ{n:Nat}:∀{a b:V_},PV.bounds n a=true->PV.bounds n b=true->PV.bounds n (a++b)=true
 |[],_,_,h=>h
 |x::a,b,e,i=>by simp only[PV.bounds,ayQ,avE]at e ⊢;exact⟨e.1,SZ e.2 i⟩
theorem Ig{op:POp}{d:O_}{K:K_}(R:Rl r f h F H)(e:CU op f h=some (v,h'))
  (x:∀r' H',hZ h.length r r'->Rl r' f h' F H'->v.bound h'.length=true->K (F.put d (v.ren r')) H') :
  if op.iN then oQ (cN op F) d K F H else if op.eT then cH op F H (λr H'=>K (F.put d r) H')else wX (bD op F H) d K F H:=by
 unfold CU at e;split at e;rename_i u;split at e;rename_i i;rw[aF i];exact TH R u e x;rename_i i;rw[aC i];split at e;rename_i l;rw[aF l];exact JE R u e x;rename_i l;rw[aC l];split at e;rename_i w y;split at e;rename_i hb;replace hb:=PV.zA hb;cases e;have:=VW R.hp u y;rw[<-R.fr]at this;exact⟨_,this,x r H (λ_ _=>rfl) R hb⟩;cases e;cases e;cases e
theorem RN{op:POp}(e:CU op f h=some (v,h')):Z' h<=Z' h':=by
 unfold CU at e;split at e
 ·split at e
  ·by_cases l:∃sh,op=.auR sh
   ·obtain⟨sh,rfl⟩:=l;simp only[yM,awV.injEq,Prod.mk.injEq]at e;obtain⟨-,rfl⟩:=e;simp
   ·have i:(match cN op f.pf with|some (u,x)=>if x.bd h.length then some (u h.length,h++[x])else none|none=>none)=some (v,h'):=by cases op<;>first|exact e|exact absurd ⟨_,rfl⟩ l
    split at i
    ·split at i<;>cases i;simp
    ·cases i
  ·split at e
   ·cases op<;>try (simp[kR]at e;done)
    all_goals
     simp only[kR]at e
     (repeat' split at e)<;>cases e<;>simp
   ·split at e
    ·split at e<;>cases e;exact avD _
    ·cases e
 ·cases e
theorem J5(M:lh C call){op:POp}{d:O_}{K:K_}(R:Rl r f h F H)(e:ZN call op f h=some (v,h'))
  (A:∀r' H',hZ h.length r r'->Z' h<=Z' h'->Rl r' f h' F H'->v.bound h'.length=true->K (F.put d (v.ren r')) H'):wpOp C op d K F H:=by
 by_cases y:∃name args,op=.call name args;obtain⟨name,args,rfl⟩:=y;simp only[ZN]at e;split at e;rename_i i;split at e;rename_i vs w;have l:=FN (r:=r) i w;rw[<-R.fr]at l;refine .inl ?_;rw[l];simp only[avS,awJ];exact M _ _ _ _ _ e _ _ _ _ _ _ R (UM R.fb i w) A;cases e;cases e;by_cases w:∃x args,op=.auM x args;obtain⟨x,args,rfl⟩:=w;simp only[ZN]at e;split at e;rename_i i;simp only[avE]at i;split at e
 ·rename_i name cs vs l E;have h5:=FN (r:=r) i.2 E;have J:=dT (r:=r) i.1 l;rw[<-R.fr]at h5 J;show wD C (x.ev F) args d K F H;rw[J];simp only[PV.ren,PV.gF,wD];refine .inl ?_;rw[h5];simp only[avS,<-avU];refine M _ _ _ _ _ e _ _ _ _ _ _ R (SZ (UM R.fb i.2 E) ?_) A;cases x with
  |tmp t=>exact R.fb t _ l
  |const u =>simp only[aR.ev,awV.injEq]at l;subst l;have:=i.1;simp only[aR.clo,PV.bound]at this;exact PV.qO (auY _) _ this
 cases e;cases e;have B:CU op f h=some (v,h'):=by cases op<;>first|exact e|exact absurd ⟨_,_,rfl⟩ y|exact absurd ⟨_,_,rfl⟩ w
 have S:=RN B;have:=Ig (d:=d) (K:=K) R B λr' H' O N hb=>A r' H' O S N hb;cases op<;>first|exact this|exact absurd ⟨_,_,rfl⟩ y|exact absurd ⟨_,_,rfl⟩ w
theorem HU(M:lh C call):∀(ops:List bX){r:Ren}{f f':Fr}{h h':Hp}{F:PF}{H:PH}{K:K_},zW call ops f h=some (f',h')->Rl r f h F H ->
  (∀r' V H',hZ h.length r r'->Z' h<=Z' h'->Rl r' f' h' V H'->K V H')->wpOps C ops K F H
 |[],r,f,f',h,h',F,H,K,e,R,A=>by cases e;exact A r F H (λ_ _=>rfl) (avD _) R
 |i::rest,r,f,f',h,h',F,H,K,e,R,A=>by
  simp only[zW]at e;split at e;rename_i W;have u:∀{e2:(match ZN call i.op f h with|some (v,h')=>zW call rest (f.put i.dst v) h'|none=>none)=some (f',h')},wpOp C i.op i.dst (wpOps C rest K) F H:=by intro e2;split at e2;rename_i v h1 e3;refine J5 M R e3 λr' H' ha X Z hb=>?_;exact HU M rest e2 (Z.put W hb) λU B E N S J=>A U B E (ha.trans N X) (avZ X S) J;cases e2
  have l:∀{e2:zW call rest (f.put i.dst (.tup [])) h=some (f',h')},wpOps C rest K (F.put i.dst (.tup [])) H:=by intro e2;exact HU M rest e2 (R.put (v:=.tup []) W rfl) A
  have x:∀t w,f.pf t=some w->F t=some (w.ren r):=λt w y=>by rw[R.fr];simp only[PF.ren,y,avS]
  simp only[wpOps];split at e;rename_i O;rw[O];exact u (e2:=e);rename_i t Y O;rw[O];simp only;split at e;rename_i b hb;rw[x t _ hb];simp only[PV.ren];split at e;rename_i y;rw[aF y];exact u (e2:=e);rename_i y;rw[aC y];exact l (e2:=e);rename_i hb;rw[x t _ hb];exact l (e2:=e);cases e;cases e
theorem Qf(hC:lh C call)(hD:C4 C dr):∀(n:Nat)(c:aI){r:Ren}{f f':Fr}{h h':Hp}{F:PF}{H:PH}{x:lG}{K:bZ},rQ call dr n c f h=some (x,f',h')->Rl r f h F H ->
  (∀r' i H',hZ h.length r r'->Z' h<=Z' h'->Rl r' f' h' i H'->K x i H')->c.wp C K F H:=by
 intro n
 induction n using Nat.strongRecOn with
 |_ n ih=>
 intro c r f f' h h' F H x K e R l;cases n with
 |zero=>cases e
 |succ n=>
 have M:=ih n (Nat.lt_succ_self n);cases c with
 |skip=>cases e;exact l r F H (λ_ _=>rfl) (avD _) R
 |exit id=>cases e;exact l r F H (λ_ _=>rfl) (avD _) R
 |ret=>cases e;exact l r F H (λ_ _=>rfl) (avD _) R
 |region ops =>simp only[rQ]at e;split at e;rename_i f1 A w;cases e;exact HU hC ops w R l;cases e
 |draw ops =>simp only[rQ]at e;split at e;rename_i f1 A w;cases e;exact hD ops f h _ _ w r F H R _ l;cases e
 |cond c a b=>
  simp only[rQ]at e;split at e;rename_i hc;split at e
  ·rename_i t A;have N:=dT (r:=r) hc A;rw[<-R.fr]at N;simp only[aI.wp,N,PV.ren];cases t with
   |true=>exact M a e R l
   |false=>exact M b e R l
  cases e;cases e
 |seq a b=>
  simp only[rQ]at e;cases A:rQ call dr n a f h with
  |none=>rw[A]at e;cases e
  |some p=>
   obtain⟨y,f1,g1⟩:=p;rw[A]at e;refine M a A R λr' i H' J B E=>?_;cases y with
   |normal=>exact M b e E λβ U V X Z W=>l β U V (J.trans X B) (avZ B Z) W
   |exit id=>cases e;exact l r' i H' J B E
   |ret=>cases e;exact l r' i H' J B E
 |block id c=>
  simp only[rQ]at e;cases A:rQ call dr n c f h with
  |none=>rw[A]at e;cases e
  |some p=>
   obtain⟨y,f1,g1⟩:=p;rw[A]at e;refine M c A R λr' i H' J B E=>?_;cases y with
   |normal=>cases e;exact l r' i H' J B E
   |exit γ =>simp only at e;simp only[fA];split at e;rename_i N;rw[aF N];cases e;exact l r' i H' J B E;rename_i N;rw[aC N];cases e;exact l r' i H' J B E
   |ret=>cases e;exact l r' i H' J B E
 |loop c=>
  let α:=Nat × Fr × Hp × Ren × PF × PH
  refine⟨α,λa=>a.2.2.2.2.1,λa=>a.2.2.2.2.2,λa=>a.1<=n+1/\rQ call dr a.1 (.loop c) a.2.1 a.2.2.1=some (x,f',h')/\Rl a.2.2.2.1 a.2.1 a.2.2.1 a.2.2.2.2.1 a.2.2.2.2.2/\hZ h.length r a.2.2.2.1/\Z' h<=a.2.2.1.length,
   λa=>a.1,(n+1,f,h,r,F,H),F,H,.refl F H,⟨avD _,e,R,λ_ _=>rfl,avD _⟩,λ_ _ S=>S,λ_ _ S=>S,?_⟩
  rintro⟨k,f1,A,r1,F1,H1⟩ ⟨Y,w,R1,O,u⟩;simp only at Y w R1 O u ⊢;cases k with
  |zero=>cases w
  |succ k=>
   simp only[rQ]at w;cases N:rQ call dr k c f1 A with
   |none=>rw[N]at w;cases w
   |some p=>
    obtain⟨y,f2,g2⟩:=p;rw[N]at w;refine ih k Om c N R1 λr' i H' J B E=>?_;cases y with
    |normal=>exact⟨(k,f2,g2,r',i,H'),i,H',.refl i H',⟨by omega,w,E,O.trans J u,avZ u B⟩,Nat.lt_succ_self k,λ_ _ S=>S,λ_ _ S=>S⟩
    |exit id=>cases w;exact l r' i H' (O.trans J u) (avZ u B) E
    |ret=>cases w;exact l r' i H' (O.trans J u) (avZ u B) E
end
mutual
def PV.on(L:Nat->Bool):PV->Bool
 | .osl o _ _ _=>L o
 | .ptr o _ _ _=>L o
 | .map o=>L o
 | .sl _ rows=>PV.rM L rows
 | .aX cs=>PV.ons L cs
 | .fn _ cs=>PV.ons L cs
 | .agg cs=>PV.ons L cs
 | .tup cs=>PV.ons L cs
 | .int _ _=>true
 | .bool _=>true
 | .str _=>true
 | .aJ=>true
 | .lit _=>true
 | .junk=>true
def PV.ons(L:Nat->Bool):V_->Bool
 |[]=>true
 |v::vs=>PV.on L v&&PV.ons L vs
def PV.rM(L:Nat->Bool):P2_->Bool
 |[]=>true
 |v::vs=>PV.ons L v&&PV.rM L vs
end
mutual
theorem PV.Hj{L:Nat->Bool}{r s:Ren}{t:Nat->Nat}(h:∀i,L i=true->r (t i)=s i):∀v:PV,v.on L=true->(v.ren (up t)).ren r=v.ren s
 | .osl o _ _ _,hb=>by simp only[PV.on]at hb;simp only[PV.ren,<-h o hb,up,axC,awQ]
 | .ptr o _ _ _,hb=>by simp only[PV.on]at hb;simp only[PV.ren,<-h o hb,up,axC,awQ]
 | .map o,hb=>by simp only[PV.on]at hb;simp only[PV.ren,<-h o hb,up]
 | .sl _ rows,hb=>by simp only[PV.on]at hb;simp only[PV.ren,PV.js h rows hb]
 | .aX cs,hb=>by simp only[PV.on]at hb;simp only[PV.ren,PV.AU h cs hb]
 | .fn _ cs,hb=>by simp only[PV.on]at hb;simp only[PV.ren,PV.AU h cs hb]
 | .agg cs,hb=>by simp only[PV.on]at hb;simp only[PV.ren,PV.AU h cs hb]
 | .tup cs,hb=>by simp only[PV.on]at hb;simp only[PV.ren,PV.AU h cs hb]
 | .int _ _,_=>rfl
 | .bool _,_=>rfl
 | .str _,_=>rfl
 | .aJ,_=>rfl
 | .lit _,_=>rfl
 | .junk,_=>rfl
theorem PV.AU{L:Nat->Bool}{r s:Ren}{t:Nat->Nat}(h:∀i,L i=true->r (t i)=s i):∀l:V_,PV.ons L l=true->PV.mU r (PV.mU (up t) l)=PV.mU s l
 |[],_=>rfl
 |v::vs,hb=>by simp only[PV.ons,avE]at hb;simp only[PV.mU,PV.Hj h v hb.1,PV.AU h vs hb.2]
theorem PV.js{L:Nat->Bool}{r s:Ren}{t:Nat->Nat}(h:∀i,L i=true->r (t i)=s i):∀l:P2_,PV.rM L l=true->PV.mY r (PV.mY (up t) l)=PV.mY s l
 |[],_=>rfl
 |v::vs,hb=>by simp only[PV.rM,avE]at hb;simp only[PV.mY,PV.AU h v hb.1,PV.js h vs hb.2]
end
mutual
theorem PV.i6{L:Nat->Bool}{t:Ren}{m:Nat}(h:∀i,L i=true->(t i).1<m):∀v:PV,v.on L=true->(v.ren t).bound m=true
 | .osl o _ _ _,hb=>by simp only[PV.on]at hb;simp only[PV.ren,PV.bound,h o hb,decide_true]
 | .ptr o _ _ _,hb=>by simp only[PV.on]at hb;simp only[PV.ren,PV.bound,h o hb,decide_true]
 | .map o,hb=>by simp only[PV.on]at hb;simp only[PV.ren,PV.bound,h o hb,decide_true]
 | .sl _ rows,hb=>by simp only[PV.on]at hb;simp only[PV.ren,PV.bound,PV.QL h rows hb]
 | .aX cs,hb=>by simp only[PV.on]at hb;simp only[PV.ren,PV.bound,PV.uP h cs hb]
 | .fn _ cs,hb=>by simp only[PV.on]at hb;simp only[PV.ren,PV.bound,PV.uP h cs hb]
 | .agg cs,hb=>by simp only[PV.on]at hb;simp only[PV.ren,PV.bound,PV.uP h cs hb]
 | .tup cs,hb=>by simp only[PV.on]at hb;simp only[PV.ren,PV.bound,PV.uP h cs hb]
 | .int _ _,_=>rfl
 | .bool _,_=>rfl
 | .str _,_=>rfl
 | .aJ,_=>rfl
 | .lit _,_=>rfl
 | .junk,_=>rfl
theorem PV.uP{L:Nat->Bool}{t:Ren}{m:Nat}(h:∀i,L i=true->(t i).1<m):∀l:V_,PV.ons L l=true->PV.bounds m (PV.mU t l)=true
 |[],_=>rfl
 |v::vs,hb=>by simp only[PV.ons,avE]at hb;simp only[PV.mU,PV.bounds,PV.i6 h v hb.1,PV.uP h vs hb.2,axP]
theorem PV.QL{L:Nat->Bool}{t:Ren}{m:Nat}(h:∀i,L i=true->(t i).1<m):∀l:P2_,PV.rM L l=true->PV.eQ m (PV.mY t l)=true
 |[],_=>rfl
 |v::vs,hb=>by simp only[PV.rM,avE]at hb;simp only[PV.mY,PV.eQ,PV.uP h v hb.1,PV.QL h vs hb.2,axP]
end
mutual
theorem PV.Ue{L L':Nat->Bool}(h:∀i,L i=true->L' i=true):∀v:PV,v.on L=true->v.on L'=true
 | .osl o _ _ _,hb=>h o hb
 | .ptr o _ _ _,hb=>h o hb
 | .map o,hb=>h o hb
 | .sl _ rows,hb=>by simp only[PV.on]at hb ⊢;exact PV.G2 h rows hb
 | .aX cs,hb=>by simp only[PV.on]at hb ⊢;exact PV.GA h cs hb
 | .fn _ cs,hb=>by simp only[PV.on]at hb ⊢;exact PV.GA h cs hb
 | .agg cs,hb=>by simp only[PV.on]at hb ⊢;exact PV.GA h cs hb
 | .tup cs,hb=>by simp only[PV.on]at hb ⊢;exact PV.GA h cs hb
 | .int _ _,_=>rfl
 | .bool _,_=>rfl
 | .str _,_=>rfl
 | .aJ,_=>rfl
 | .lit _,_=>rfl
 | .junk,_=>rfl
theorem PV.GA{L L':Nat->Bool}(h:∀i,L i=true->L' i=true):∀l:V_,PV.ons L l=true->PV.ons L' l=true
 |[],_=>rfl
 |v::vs,hb=>by simp only[PV.ons,avE]at hb ⊢;exact⟨PV.Ue h v hb.1,PV.GA h vs hb.2⟩
theorem PV.G2{L L':Nat->Bool}(h:∀i,L i=true->L' i=true):∀l:P2_,PV.rM L l=true->PV.rM L' l=true
 |[],_=>rfl
 |v::vs,hb=>by simp only[PV.rM,avE]at hb ⊢;exact⟨PV.GA h v hb.1,PV.G2 h vs hb.2⟩
end
mutual
theorem PV.GR{n:Nat}:∀v:PV,v.on (λi=>decide (i<n))=v.bound n
 | .osl o _ _ _=>rfl
 | .ptr o _ _ _=>rfl
 | .map o=>rfl
 | .sl _ rows=>by simp only[PV.on,PV.bound,PV.NL rows]
 | .aX cs=>by simp only[PV.on,PV.bound,PV.yB cs]
 | .fn _ cs=>by simp only[PV.on,PV.bound,PV.yB cs]
 | .agg cs=>by simp only[PV.on,PV.bound,PV.yB cs]
 | .tup cs=>by simp only[PV.on,PV.bound,PV.yB cs]
 | .int _ _=>rfl
 | .bool _=>rfl
 | .str _=>rfl
 | .aJ=>rfl
 | .lit _=>rfl
 | .junk=>rfl
theorem PV.yB{n:Nat}:∀l:V_,PV.ons (λi=>decide (i<n)) l=PV.bounds n l
 |[]=>rfl
 |v::vs=>by simp only[PV.ons,PV.bounds,PV.GR v,PV.yB vs]
theorem PV.NL{n:Nat}:∀l:P2_,PV.rM (λi=>decide (i<n)) l=PV.eQ n l
 |[]=>rfl
 |v::vs=>by simp only[PV.rM,PV.eQ,PV.yB v,PV.NL vs]
end
theorem PV.Lu{L L':Nat->Bool}(h:∀i,L i=true->L' i=true)(v:PV)(e:v.on L=true):v.on L'=true:=by
 have:=PV.Ue (L:=L) (L':=L') h v;exact this e
def PV.wx(r:Ren)(v:PV):PV:=cond (v.bound 0) v (v.ren r)
theorem PV.QU(r:Ren)(v:PV):v.wx r=v.ren r:=by
 unfold PV.wx;cases e:v.bound 0 with
 |true=>exact(PV.oO e r).symm
 |false=>rfl
def PV.onC(L:Nat->Bool)(v:PV):Bool:=cond (v.bound 0) true (v.on L)
theorem PV.Gx{L:Nat->Bool}{v:PV}(h:v.onC L=true):v.on L=true:=by
 unfold PV.onC at h;cases e:v.bound 0 with
 |true =>rw[<-PV.GR]at e;exact PV.Lu (λi hi=>by simp at hi) v e
 |false=>rw[e]at h;exact h
mutual
def PV.back(q:Nat->Nat × Nat):PV->PV
 | .osl o s off len=>.osl (q o).1 s (off-(q o).2) len
 | .ptr o s i c=>.ptr (q o).1 s (i-(q o).2) c
 | .map o=>.map (q o).1
 | .sl s rows=>.sl s (PV.TR q rows)
 | .aX cs=>.aX (PV.sB q cs)
 | .fn n cs=>.fn n (PV.sB q cs)
 | .agg cs=>.agg (PV.sB q cs)
 | .tup cs=>.tup (PV.sB q cs)
 | .int k n=>.int k n
 | .bool b=>.bool b
 | .str s=>.str s
 | .aJ=>.aJ
 | .lit v=>.lit v
 | .junk=>.junk
def PV.sB(q:Nat->Nat × Nat):V_->V_
 |[]=>[]
 |v::vs=>PV.back q v::PV.sB q vs
def PV.TR(q:Nat->Nat × Nat):P2_->P2_
 |[]=>[]
 |v::vs=>PV.sB q v::PV.TR q vs
end
mutual
theorem PV.NJ{L:Nat->Bool}{q:Nat->Nat × Nat}{r:Ren}(h:∀i,L i=true->q (r i).1=(i,(r i).2.length)):∀v:PV,v.on L=true->(v.ren r).back q=v
 | .osl o _ _ _,hb=>by simp only[PV.on]at hb;simp only[PV.ren,PV.back,h o hb,Nat.add_sub_cancel]
 | .ptr o _ _ _,hb=>by simp only[PV.on]at hb;simp only[PV.ren,PV.back,h o hb,Nat.add_sub_cancel]
 | .map o,hb=>by simp only[PV.on]at hb;simp only[PV.ren,PV.back,h o hb]
 | .sl _ rows,hb=>by simp only[PV.on]at hb;simp only[PV.ren,PV.back,PV.NK h rows hb]
 | .aX cs,hb=>by simp only[PV.on]at hb;simp only[PV.ren,PV.back,PV.uG h cs hb]
 | .fn _ cs,hb=>by simp only[PV.on]at hb;simp only[PV.ren,PV.back,PV.uG h cs hb]
 | .agg cs,hb=>by simp only[PV.on]at hb;simp only[PV.ren,PV.back,PV.uG h cs hb]
 | .tup cs,hb=>by simp only[PV.on]at hb;simp only[PV.ren,PV.back,PV.uG h cs hb]
 | .int _ _,_=>rfl
 | .bool _,_=>rfl
 | .str _,_=>rfl
 | .aJ,_=>rfl
 | .lit _,_=>rfl
 | .junk,_=>rfl
theorem PV.uG{L:Nat->Bool}{q:Nat->Nat × Nat}{r:Ren}(h:∀i,L i=true->q (r i).1=(i,(r i).2.length)):∀l:V_,PV.ons L l=true->PV.sB q (PV.mU r l)=l
 |[],_=>rfl
 |v::vs,hb=>by simp only[PV.ons,avE]at hb;simp only[PV.mU,PV.sB,PV.NJ h v hb.1,PV.uG h vs hb.2]
theorem PV.NK{L:Nat->Bool}{q:Nat->Nat × Nat}{r:Ren}(h:∀i,L i=true->q (r i).1=(i,(r i).2.length)):∀l:P2_,PV.rM L l=true->PV.TR q (PV.mY r l)=l
 |[],_=>rfl
 |v::vs,hb=>by simp only[PV.rM,avE]at hb;simp only[PV.mY,PV.TR,PV.uG h v hb.1,PV.NK h vs hb.2]
end
mutual
def PV.ids:PV->N_->N_
 | .osl o _ _ _,l=>o::l
 | .ptr o _ _ _,l=>o::l
 | .map o,l=>o::l
 | .sl _ rows,l=>PV.adC rows l
 | .aX cs,l=>PV.vj cs l
 | .fn _ cs,l=>PV.vj cs l
 | .agg cs,l=>PV.vj cs l
 | .tup cs,l=>PV.vj cs l
 | .int _ _,l=>l
 | .bool _,l=>l
 | .str _,l=>l
 | .aJ,l=>l
 | .lit _,l=>l
 | .junk,l=>l
def PV.vj:V_->N_->N_
 |[],l=>l
 |v::vs,l=>PV.ids v (PV.vj vs l)
def PV.adC:P2_->N_->N_
 |[],l=>l
 |v::vs,l=>PV.vj v (PV.adC vs l)
end
def PV.Yq(v:PV)(l:N_):N_:=cond (v.bound 0) l (v.ids l)
def vM:V_->N_->N_
 |[],l=>l
 |v::vs,l=>PV.Yq v (vM vs l)
def Ex:P2_->N_->N_
 |[],l=>l
 |v::vs,l=>vM v (Ex vs l)
def VT(L:Nat->Bool):V_->Bool
 |[]=>true
 |v::vs=>v.onC L&&VT L vs
def ZA(L:Nat->Bool):P2_->Bool
 |[]=>true
 |v::vs=>VT L v&&ZA L vs
theorem QI{L:Nat->Bool}:∀{l:V_},VT L l=true->PV.ons L l=true
 |[],_=>rfl
 |v::vs,h=>by simp only[VT,PV.ons,avE]at h ⊢;exact⟨PV.Gx h.1,QI h.2⟩
theorem zP{L:Nat->Bool}:∀{l:P2_},ZA L l=true->PV.rM L l=true
 |[],_=>rfl
 |v::vs,h=>by simp only[ZA,PV.rM,avE]at h ⊢;exact⟨QI h.1,zP h.2⟩
theorem PV.akN{L:Nat->Bool}{v:PV}(h:v.on L=true):v.onC L=true:=by
 unfold PV.onC;rw[h];cases v.bound 0<;>rfl
theorem Gz{L:Nat->Bool}:∀{l:V_},PV.ons L l=true->VT L l=true
 |[],_=>rfl
 |v::vs,h=>by simp only[VT,PV.ons,avE]at h ⊢;exact⟨PV.akN h.1,Gz h.2⟩
theorem ql{L:Nat->Bool}:∀{l:P2_},PV.rM L l=true->ZA L l=true
 |[],_=>rfl
 |v::vs,h=>by simp only[ZA,PV.rM,avE]at h ⊢;exact⟨Gz h.1,ql h.2⟩
def ZG(r:Ren):V_->V_
 |[]=>[]
 |v::vs=>v.wx r::ZG r vs
def VZ(r:Ren):P2_->P2_
 |[]=>[]
 |v::vs=>ZG r v::VZ r vs
theorem ER(r:Ren):∀l,ZG r l=PV.mU r l
 |[]=>rfl
 |v::vs=>by rw[ZG,PV.mU,PV.QU,ER r vs]
theorem HS(r:Ren):∀l,VZ r l=PV.mY r l
 |[]=>rfl
 |v::vs=>by rw[VZ,PV.mY,ER,HS r vs]
mutual
def PV.beq:PV->PV->Bool
 | .osl a b c d,y=>match y with | .osl i l u w=>awX a i&&(awX b l&&(awX c u&&awX d w))|_=>false
 | .ptr a b c d,y=>match y with | .ptr i l u w=>awX a i&&(awX b l&&(awX c u&&awX d w))|_=>false
 | .map a,y=>match y with | .map i=>awX a i|_=>false
 | .sl s rows,y=>match y with | .sl s' rows'=>awX s s'&&PV.YF rows rows'|_=>false
 | .aX cs,y=>match y with | .aX e=>PV.GP cs e|_=>false
 | .fn n cs,y=>match y with | .fn x e=>awX n x&&PV.GP cs e|_=>false
 | .agg cs,y=>match y with | .agg e=>PV.GP cs e|_=>false
 | .tup cs,y=>match y with | .tup e=>PV.GP cs e|_=>false
 | .int k n,y=>match y with | .int A x=>decide (k=A)&&decide (n=x)|_=>false
 | .bool b,y=>match y with | .bool l=>decide (b=l)|_=>false
 | .str s,y=>match y with | .str s'=>decide (s=s')|_=>false
 | .aJ,y=>match y with | .aJ=>true|_=>false
 | .lit _,_=>false
 | .junk,y=>match y with | .junk=>true|_=>false
def PV.GP:V_->V_->Bool
 |[],y=>match y with|[]=>true|_=>false
 |v::vs,y=>match y with|w::e=>PV.beq v w&&PV.GP vs e|_=>false
def PV.YF:P2_->P2_->Bool
 |[],y=>match y with|[]=>true|_=>false
 |v::vs,y=>match y with|w::e=>PV.GP v w&&PV.YF vs e|_=>false
end
mutual
theorem PV.beq_eq:∀v w:PV,PV.beq v w=true->v=w
 | .osl _ _ _ _,w,h=>by cases w<;>simp_all [PV.beq]
 | .ptr _ _ _ _,w,h=>by cases w<;>simp_all [PV.beq]
 | .map _,w,h=>by cases w<;>simp_all [PV.beq]
 | .sl s rows,w,h=>by cases w<;>simp only[PV.beq,avE,axH]at h;rw[PV.d7 _ _ h.2,Nat.eq_of_beq_eq_true h.1]
 | .aX cs,w,h=>by cases w<;>simp only[PV.beq,axH]at h;rw[PV.AJ _ _ h]
 | .fn _ cs,w,h=>by cases w<;>simp only[PV.beq,avE,axH]at h;rw[PV.AJ _ _ h.2,Nat.eq_of_beq_eq_true h.1]
 | .agg cs,w,h=>by cases w<;>simp only[PV.beq,axH]at h;rw[PV.AJ _ _ h]
 | .tup cs,w,h=>by cases w<;>simp only[PV.beq,axH]at h;rw[PV.AJ _ _ h]
 | .int _ _,w,h=>by cases w<;>simp_all [PV.beq]
 | .bool _,w,h=>by cases w<;>simp_all [PV.beq]
 | .str _,w,h=>by cases w<;>simp_all [PV.beq]
 | .aJ,w,h=>by cases w<;>simp_all [PV.beq]
 | .lit _,_,h=>by simp[PV.beq]at h
 | .junk,w,h=>by cases w<;>simp_all [PV.beq]
theorem PV.AJ:∀v w:V_,PV.GP v w=true->v=w
 |[],w,h=>by cases w<;>simp_all [PV.GP]
 |v::vs,w,h=>by cases w<;>simp only[PV.GP,avE,axH]at h;rw[PV.beq_eq _ _ h.1,PV.AJ _ _ h.2]
theorem PV.d7:∀v w:P2_,PV.YF v w=true->v=w
 |[],w,h=>by cases w<;>simp_all [PV.YF]
 |v::vs,w,h=>by cases w<;>simp only[PV.YF,avE,axH]at h;rw[PV.AJ _ _ h.1,PV.d7 _ _ h.2]
end
def posOf:N_->Nat->Nat
 |[],_=>0
 |x::xs,i=>if awX x i then 0 else posOf xs i+1
def inL:N_->Nat->Bool
 |[],_=>false
 |x::xs,i=>awX x i||inL xs i
def VO:N_->Bool
 |[]=>true
 |x::xs=>!inL xs x&&VO xs
def atN:N_->Nat->Nat
 |[],_=>0
 |x::_,0=>x
 |_::xs,k+1=>atN xs k
theorem AO:∀{l:N_}{i:Nat},inL l i=true->i∈l
 |x::xs,i,h=>by
  simp only[inL,Bool.or_eq_true]at h;rcases h with h|h
  rw[Nat.eq_of_beq_eq_true h];exact List.mem_cons_self ..;exact ayT _ (AO h)
theorem vO:∀{l:N_}{i:Nat},i∈l->inL l i=true
 |x::xs,i,h=>by
  simp only[inL,Bool.or_eq_true];rcases avL.1 h with h|h
  left;rw[h];simp;right;exact vO h
theorem sL:∀{l:N_}{i:Nat},inL l i=true->atN l (posOf l i)=i/\posOf l i<Z' l
 |x::xs,i,h=>by simp only[inL,Bool.or_eq_true]at h;simp only[posOf];by_cases e:awX x i=true;rw[aF e];exact⟨Nat.eq_of_beq_eq_true e,Nat.zero_lt_succ _⟩;rw[aC e];have:=sL (h.resolve_left e);exact⟨this.1,Nat.succ_lt_succ this.2⟩
theorem sV:∀{l:N_}{k:Nat},k<Z' l->inL l (atN l k)=true
 |x::xs,0,_=>by simp[inL,atN]
 |x::xs,k+1,h=>by simp only[inL,atN,Bool.or_eq_true];exact .inr (sV (Nat.lt_of_succ_lt_succ h))
theorem CR:∀{l:N_}{k:Nat},VO l=true->k<Z' l->posOf l (atN l k)=k
 |x::xs,0,_,_=>by simp[posOf,atN]
 |x::xs,k+1,i,h=>by simp only[VO,avE,Bool.not_eq_true']at i;show(if awX x (atN xs k)=true then 0 else posOf xs (atN xs k)+1)=k+1;have u:=sV (Nat.lt_of_succ_lt_succ h);rw[aC (λe=>by rw[Nat.eq_of_beq_eq_true e,u]at i;cases i.1),CR i.2 (Nat.lt_of_succ_lt_succ h)]
theorem xO{β:Type}(g:Nat->β):∀(l:N_)(k:Nat),(l.map g)[k]?=if k<l.length then some (g (atN l k))else none
 |[],k=>by simp
 |x::xs,0=>by simp[atN]
 |x::xs,k+1=>by rw[awE,List.getElem?_cons_succ,xO g xs k];simp only[atN,awK,Nat.succ_lt_succ_iff,Nat.add_lt_add_iff_right]
def aV.on(L:Nat->Bool):aV->Bool
 | .rows _ rs=>ZA L rs
 |_=>true
def aV.rn(r:Ren):aV->aV
 | .rows s rs=>.rows s (VZ r rs)
 |x=>x
theorem TC{n:Nat}{sh:MSh}{g:lI}(h:aV.Bd n (.map sh g))(r:Ren):(λk=>(g k).map (PV.ren r))=g:=by
 funext k;cases e:g k with
 |none=>rfl
 |some v=>rw[avS,PV.oO (h k v e)]
theorem aV.Va{L:Nat->Bool}{n:Nat}{r s:Ren}{t:Nat->Nat}(h:∀i,L i=true->r (t i)=s i){x:aV}(hb:x.Bd n)(e:x.on L=true)(pre:P2_):(x.rn (up t)).ren r pre=x.ren s pre:=by
 cases x with
 |rows sz rs=>simp only[aV.rn,aV.ren,<-PV.kP,HS];rw[PV.js h rs (zP e)]
 |map sh g=>simp only[aV.rn,aV.ren,TC hb]
 |loop=>rfl
 |dead=>rfl
def aV.back(q:Nat->Nat × Nat)(n:Nat):aV->aV
 | .rows s rs=>.rows s (PV.TR q (rs.drop n))
 | .map sh g=>.map sh λk=>(g k).map (PV.back q)
 |x=>x
theorem aV.NJ{L:Nat->Bool}{n:Nat}{q:Nat->Nat × Nat}{r:Ren}(h:∀i,L i=true->q (r i).1=(i,(r i).2.length)){x:aV}(hb:x.Bd n)(l:x.on L=true)(pre:P2_):(x.ren r pre).back q pre.length=x:=by
 cases x with
 |rows sz rs =>simp only[aV.back,aV.ren,<-PV.kP];have e:=MD pre (PV.mY r rs) 0;rw[avK]at e;rw[e,awM,PV.NK h rs (zP l)]
 |map sh g=>
  simp only[aV.back,aV.ren,TC hb];congr 1;funext k;cases e:g k with
  |none=>rfl
  |some v =>have u:v.on (λ_=>false)=true:=PV.Lu (L:=λi=>decide (i<0)) (λi hi=>by simp at hi) v ((PV.GR v).trans (hb k v e));have:=PV.NJ (L:=λ_=>false) (q:=q) (r:=r) (λi hi=>by cases hi) v u;rw[PV.oO (hb k v e)]at this;rw[avS,this]
 |loop=>rfl
 |dead=>rfl
theorem aV.adL{L:Nat->Bool}{n m:Nat}{t:Ren}(h:∀i,L i=true->(t i).1<m){x:aV}(hb:x.Bd n)(e:x.on L=true):(x.rn t).Bd m:=by
 cases x with
 |rows sz rs =>show PV.eQ m (VZ t rs)=true;rw[HS];exact PV.QL h rs (zP e)
 |map sh g=>exact hb
 |loop=>trivial
 |dead=>trivial
theorem aV.xa{t:Ren}{x y:aV}(h:(x.rn t).live=some y):x.live=some x/\y=x.rn t:=by
 cases x<;>first|(cases h;done)|(cases h;exact⟨rfl,rfl⟩)
def gtH(h:Hp)(i:Nat):aV:=match h[i]? with
 |some x=>x
 |none=>.dead
theorem OM{h:Hp}{i:Nat}{x:aV}(e:(gtH h i).live=some x):h.ph i=some x/\gtH h i=x:=by
 have e2:=aV.CO e;refine⟨?_,e2⟩;unfold gtH at e;rw[Hp.kV];split at e;rename_i y l;rw[l];exact e;cases e
theorem akO{h:Hp}{i:Nat}{x:aV}(e:h.ph i=some x):gtH h i=x/\x.live=some x:=by
 have l:=mC e;rw[Hp.kV,l.1]at e;refine⟨?_,e⟩;unfold gtH;rw[l.1]
def qZ(h:Hp)(t:Ren)(M:N_):Hp:=M.map λi=>(gtH h i).rn t
def EP(M:N_)(h:Hp):Bool:=VO M&&M.all λi=>(gtH h i).on (inL M)
theorem i5{M:N_}{h:Hp}(ok:EP M h=true){i:Nat}(hi:inL M i=true):(gtH h i).on (inL M)=true:=by
 simp only[EP,avE,awA]at ok;exact ok.2 i (AO hi)
theorem HM{h:Hp}{t:Ren}{M:N_}{k:Nat}{x:aV}(e:Hp.ph (qZ h t M) k=some x):k<Z' M/\(gtH h (atN M k)).live=some (gtH h (atN M k))/\x=(gtH h (atN M k)).rn t:=by
 rw[Hp.kV,qZ,xO]at e;split at e;rename_i i;exact⟨i,aV.xa e⟩;cases e
section
variable {r:Ren} {f:Fr} {h:Hp} {F:PF} {H:PH}
theorem CJ(R:Rl r f h F H)(i:Nat):(gtH h i).Bd h.length:=by
 unfold gtH;split;rename_i x e;exact R.hb x (axF e);trivial
theorem Rl.cut(R:Rl r f h F H){M:N_}(ok:EP M h=true):Rl (λk=>r (atN M k)) .nil (qZ h (up (posOf M)) M) n_ H:=by
 have A:(qZ h (up (posOf M)) M).length=Z' M:=by simp[qZ]
 refine⟨rfl,λk x u=>?_,λk l x y u O e=>?_,λi v N=>by simp[Fr.pf]at N,λx u=>?_,λk x u=>?_⟩;obtain⟨B,w,rfl⟩:=HM u;have E:=OM w;rw[aV.Va (L:=inL M) (s:=r) (t:=posOf M) (λi hi=>by rw[(sL hi).1]) (CJ R _) (i5 ok (sV B))];exact R.hp _ _ E.1;obtain⟨B,w,-⟩:=HM u;obtain⟨K,E,-⟩:=HM O;have J:=R.inj _ _ _ _ (OM w).1 (OM E).1 e;simp only[EP,avE]at ok;rw[<-CR ok.1 B,J,CR ok.1 K];rw[A];obtain⟨i,hi,rfl⟩:=avV.1 u;exact aV.adL (L:=inL M) (t:=up (posOf M)) (λi hi=>(sL hi).2) (CJ R _) (i5 ok (vO hi));obtain⟨B,w,-⟩:=HM u;exact R.pc _ _ (OM w).1
theorem xR(H:PH)(D:N_)(o:Nat):(H.only D) o=if o∈D then H o else none:=rfl
theorem Rl.only(R:Rl r f h F H){D:N_}(l:∀i x,h.ph i=some x->(r i).1∈D):Rl r f h F (H.only D):=by
 refine⟨R.fr,λi x e=>?_,R.inj,R.fb,R.hb,R.pc⟩;rw[xR,aF (l i x e)];exact R.hp i x e
end
def reach(h:Hp):Nat->N_->N_->N_
 |0,_,seen=>seen
 |_+1,[],seen=>seen
 |n+1,i::e,seen=>if inL seen i then reach h n e seen else match gtH h i with
  | .rows _ rs=>reach h n (Ex rs e) (i::seen)
  | .map _ _=>reach h n e (i::seen)
  |_=>reach h n e seen
def wN:Nat->N_->N_
 |0,l=>l
 |n+1,l=>wN n (n::l)
theorem Mm:∀(n:Nat)(l:N_)(k:Nat),atN (wN n l) k=if k<n then k else atN l (k-n)
 |0,l,k=>by simp[wN]
 |n+1,l,k=>by
  rw[wN,Mm n (n::l) k];rcases Nat.lt_trichotomy k n with h|h|h
  rw[aF h,aF Om];subst h;rw[aC (Nat.lt_irrefl _),aF Om,axT];rfl;rw[aC Om,aC Om];obtain⟨d,e⟩:∃d,k-n=d+1:=⟨k-n-1,by omega⟩;rw[e,show k-(n+1)=d by omega];rfl
theorem It:∀(n:Nat)(l:N_),(wN n l).length=n+Z' l
 |0,l=>by simp[wN]
 |n+1,l=>by rw[wN,It n];simp;omega
def qk:Hp->N_->N_
 |[],l=>l
 |x::xs,l=>match x with
  | .rows _ rs=>Ex rs (qk xs l)
  |_=>qk xs l
def trim(n:Nat)(v:PV)(h:Hp):Option (PV × Hp):=
 if awX n h.length then some (v,h)else
 let M:=wN n ((reach h 1000 (PV.Yq v (qk (h.take n) [])) []).filter λi=>Nat.ble n i)
 if EP M h&&v.onC (inL M)then some (v.wx (up (posOf M)),qZ h (up (posOf M)) M)else none
noncomputable def ZO(call:gK):gK:=λname vs h=>match call name vs h with
 |some (v,e)=>trim h.length v e
 |none=>none
theorem Qt{r:Ren}{n:Nat}{v v':PV}{h w:Hp}{y:PV}{H:PH}(e:trim n v h=some (v',w))(x:Comes r n v h y H):Comes r n v' w y H:=by
 unfold trim at e;split at e;cases e;exact x;simp only at e;generalize(reach h 1000 (PV.Yq v (qk (h.take n) [])) []).filter (λi=>Nat.ble n i)=N at e;split at e;rename_i l;simp only[avE]at l;replace l:=And.intro l.1 (PV.Gx l.2);rw[PV.QU]at e;cases e;obtain⟨r',A,R,rfl,hb,B⟩:=x;have u:(qZ h (up (posOf (wN n N))) (wN n N)).length=(wN n N).length:=by simp[qZ]
 refine⟨λk=>r' (atN (wN n N) k),λi hi=>?_,R.cut l.1,(PV.Hj (L:=inL (wN n N)) (s:=r') (t:=posOf (wN n N)) (λi hi=>by rw[(sL hi).1]) _ l.2).symm,?_,?_⟩;show r i=r' (atN (wN n N) i);rw[Mm,aF hi];exact A i hi;rw[u];exact PV.i6 (t:=up (posOf (wN n N))) (λi hi=>(sL hi).2) _ l.2;rw[u,It];omega;cases e
variable{C:Ctx}
theorem aH.p7{name:Nat}{vs:V_}{H:PH}{R i:R_}(h:aH C name vs H R)(B:∀l H',R l H'->i l H'):aH C name vs H i:=by
 refine⟨h.1,λE w J A hW e=>(h.2 E w J A hW e).mono λK M he=>?_⟩;obtain⟨u,pv,x,H',g1,g2,g3,g4,y⟩:=he;exact⟨u,pv,x,H',g1,g2,g3,g4,B _ _ y⟩
theorem abH{call:gK}(l:pX C call):pX C (ZO call):=by
 intro name vs h v x e r H R X hb;unfold ZO at e;split at e;rename_i w g i;exact(l name vs h w g i r H R X hb).p7 λy H' u=>Qt e u;cases e
def aV.xD:aV->Bool
 | .rows _ _=>true
 | .map _ _=>true
 |_=>false
theorem OY{x:aV}(h:x.xD=true):x.live=some x:=by
 cases x<;>first|rfl|cases h
def okM(M:N_)(h:Hp):Bool:=EP M h&&M.all λi=>(gtH h i).xD
def wH(r:Ren)(M:N_):N_:=M.map λi=>(r i).1
def bk(M:N_)(n:Nat)(j:Nat):Nat:=if Nat.blt j M.length then atN M j else n+(j-Z' M)
def DF(M:N_)(h2:Hp)(t:Ren):Nat->Hp->Hp
 |_,[]=>[]
 |i,x::xs=>(if inL M i then(gtH h2 (posOf M i)).rn t else x)::DF M h2 t (i+1) xs
def sX(M:N_)(h h2:Hp):Hp:=(match M with|[]=>h|_=>DF M h2 (up (bk M h.length)) 0 h)++(h2.drop M.length).map (aV.rn (up (bk M h.length)))
theorem K9(M:N_)(h2:Hp)(t:Ren):∀(h:Hp)(i k:Nat),(DF M h2 t i h)[k]?=(h[k]?).map λx=>if inL M (i+k)then(gtH h2 (posOf M (i+k))).rn t else x
 |[],i,k=>by simp[DF]
 |x::xs,i,0=>by simp[DF]
 |x::xs,i,k+1=>by simp only[DF,List.getElem?_cons_succ];rw[K9 M h2 t xs (i+1) k,show i+1+k=i+(k+1) by omega]
theorem Fa(h2:Hp)(t:Ren):∀(h:Hp)(i:Nat),DF [] h2 t i h=h
 |[],i=>rfl
 |x::xs,i=>by simp[DF,inL,Fa h2 t xs]
theorem HD(M:N_)(h2:Hp)(t:Ren):∀(h:Hp)(i:Nat),(DF M h2 t i h).length=Z' h
 |[],i=>rfl
 |x::xs,i=>by simp[DF,HD M h2 t xs]
theorem F7(M:N_)(h h2:Hp):sX M h h2=DF M h2 (up (bk M h.length)) 0 h++(h2.drop M.length).map (aV.rn (up (bk M h.length))):=by
 unfold sX;split;rw[Fa];rfl
theorem IQ(M:N_)(h h2:Hp):(sX M h h2).length=Z' h+(Z' h2-Z' M):=by
 rw[F7];simp[HD]
theorem afE(t:Ren)(l:Hp)(k:Nat):gtH (l.map (aV.rn t)) k=(gtH l k).rn t:=by
 unfold gtH;rw[avO];cases l[k]?<;>rfl
theorem Yh(l:Hp)(m k:Nat):gtH (l.drop m) k=gtH l (m+k):=by
 unfold gtH;rw[ayR]
theorem gi(M:N_)(h h2:Hp)(k:Nat):gtH (sX M h h2) k=if k<h.length then(if inL M k then(gtH h2 (posOf M k)).rn (up (bk M h.length))else gtH h k)else(gtH h2 (Z' M+(k-Z' h))).rn (up (bk M h.length)):=by
 rw[F7];by_cases e:k<Z' h;rw[aF e];unfold gtH;rw[axU (by rw[HD];exact e),K9,avK];rw[avF e,avS];by_cases i:inL M k=true;simp only[aF i];rfl;simp only[aC i];rw[aC e];have:gtH (DF M h2 (up (bk M h.length)) 0 h++(h2.drop M.length).map (aV.rn (up (bk M h.length)))) k=gtH ((h2.drop M.length).map (aV.rn (up (bk M h.length)))) (k-Z' h):=by unfold gtH;rw[axR (by rw[HD];omega),HD]
 rw[this,afE,Yh]
theorem aV.acZ{n:Nat}{x:aV}(h:x.Bd n):x.on (λi=>decide (i<n))=true:=by
 cases x with
 |rows s rs=>exact ql ((PV.NL rs).trans h)
 |map=>rfl
 |loop=>rfl
 |dead=>rfl
theorem tY(h:Hp)(k:Nat):h.ph k=(gtH h k).live:=by
 unfold gtH;rw[Hp.kV];cases h[k]?<;>rfl
theorem afY{h:Hp}{x:aV}(l:x∈h):∃k,k<Z' h/\gtH h k=x:=by
 obtain⟨k,i,e⟩:=awR l;exact⟨k,i,by unfold gtH;rw[avF i,<-e]⟩
section
variable {r:Ren} {f:Fr} {h h2:Hp} {F:PF} {H H':PH} {v rv:PV} {M:N_}
theorem sJ(ok:okM M h=true){i:Nat}(hi:inL M i=true):h.ph i=some (gtH h i):=by
 simp only[okM,avE,awA]at ok;rw[tY];exact OY (ok.2 i (AO hi))
theorem Ud(ok:okM M h=true){i:Nat}(hi:inL M i=true):i<Z' h:=(mC (sJ ok hi)).2
theorem F6(R:Rl r f h F H)(ok:okM M h=true)(hc:Comes (λk=>r (atN M k)) M.length v h2 rv H')(ap:pI H (H.only (wH r M)) H') :
  ∃r',hZ h.length r r'/\Z' h<=(sX M h h2).length/\Rl r' f (sX M h h2) F (H.over (H.only (wH r M)) H')/\rv=(v.ren (up (bk M h.length))).ren r'/\(v.ren (up (bk M h.length))).bound (sX M h h2).length=true:=by
 obtain⟨r2,δ,K,rfl,W,ζ⟩:=hc;have U:hZ h.length r (λi=>if i<h.length then r i else r2 (Z' M+(i-Z' h))):=λi hi=>by
  show r i=if i<h.length then r i else _
  rw[aF hi]
 generalize ε:(λi=>if i<h.length then r i else r2 (Z' M+(i-Z' h)))=r' at U;have Y:∀i,Z' h<=i->r' i=r2 (Z' M+(i-Z' h)):=λi hi=>by rw[<-ε];exact aC Om
 have S:∀j,r' (bk M h.length j)=r2 j:=λj=>by unfold bk;by_cases Z:j<Z' M;rw[aF (by simpa[Nat.blt_eq]using Z),<-U _ (Ud ok (sV Z)),<-δ j Z];rw[aC (by simpa[Nat.blt_eq]using Z),Y _ Om];congr 1;omega
 have X:∀j,j<Z' h2->bk M h.length j<Z' h+(Z' h2-Z' M):=λj Z=>by unfold bk;by_cases O:j<Z' M;rw[aF (by simpa[Nat.blt_eq]using O)];have:=Ud ok (sV O);omega;rw[aC (by simpa[Nat.blt_eq]using O)];omega
 have γ:∀j pre,((gtH h2 j).rn (up (bk M h.length))).ren r' pre=(gtH h2 j).ren r2 pre:=λj pre=>
  aV.Va (L:=λi=>decide (i<Z' h2)) (λi _=>S i) (CJ K j) (aV.acZ (CJ K j)) pre
 have N:∀j,((gtH h2 j).rn (up (bk M h.length))).Bd (Z' h+(Z' h2-Z' M)):=λj=>
  aV.adL (L:=λi=>decide (i<Z' h2)) (t:=up (bk M h.length)) (λi hi=>X i (by simpa using hi)) (CJ K j) (aV.acZ (CJ K j))
 have u:∀k x,Hp.ph (sX M h h2) k=some x->(h.ph k=some x/\r' k=r k/\H' (r k).1=none/\(H.only (wH r M)) (r k).1=none) \/
   ∃j,h2.ph j=some (gtH h2 j)/\x=(gtH h2 j).rn (up (bk M h.length))/\r' k=r2 j/\k=bk M h.length j:=by
  intro k x A;rw[tY,gi]at A;by_cases hk:k<Z' h;rw[aF hk]at A;by_cases hm:inL M k=true;rw[aF hm]at A;obtain⟨B,rfl⟩:=aV.xa A;have hp:=sL hm;have α:k=bk M h.length (posOf M k):=by unfold bk;rw[aF (by simpa[Nat.blt_eq]using hp.2),hp.1]
  refine .inr ⟨posOf M k,by rw[tY];exact B,rfl,?_,α⟩;exact(congrArg r' α).trans (S (posOf M k))
  ·rw[aC hm,<-tY]at A;have β:(r k).1 ∉ wH r M:=λhc=>by obtain⟨i,hi,e⟩:=avV.1 hc;have:=R.inj i k _ _ (sJ ok (vO hi)) A e;subst this;exact hm (vO hi)
   have ho:(H.only (wH r M)) (r k).1=none:=by rw[xR,aC β]
   refine .inl ⟨A,(U k hk).symm,?_,ho⟩;cases e:H' (r k).1 with
   |none=>rfl
   |some y =>have:=ap _ y e ho;rw[R.hp k x A]at this;cases this
  rw[aC hk]at A;obtain⟨B,rfl⟩:=aV.xa A;refine .inr ⟨Z' M+(k-Z' h),by rw[tY];exact B,rfl,Y k Om,?_⟩;unfold bk;rw[aC (by simp[Nat.blt_eq])];omega
 refine⟨r',U,by rw[IQ];omega,⟨?_,λk x A=>?_,λk l x y A hy e=>?_,λi w hw=>?_,λx A=>?_,λk x A=>?_⟩,(PV.Hj (L:=λi=>decide (i<Z' h2)) (λi _=>S i) v ((PV.GR v).trans W)).symm,?_⟩;rw[R.fr];exact PF.oU U R.fb;rcases u k x A with⟨B,E,J,V⟩|⟨j,B,rfl,J,-⟩
 rw[E];have this:=R.hp k x B;rw[aV.oU U (R.hb x (axF (mC B).1))]at this;simp only[PH.over,J,V,this];rw[J,γ j];simp only[PH.over,K.hp j _ B];rcases u k x A with⟨B,E,J,V⟩|⟨j,B,rfl,J,V⟩<;>rcases u l y hy with⟨g1,g2,g3,g4⟩|⟨j',g1,rfl,g3,g4⟩
 rw[E,g2]at e;exact R.inj k l _ _ B g1 e;rw[E,g3]at e;rw[e,K.hp j' _ g1]at J;cases J;rw[J,g2]at e;rw[<-e,K.hp j _ B]at g3;cases g3;rw[J,g3]at e;rw[V,g4,K.inj j j' _ _ B g1 e];rw[IQ];exact PV.vG (Nat.le_add_right _ _) w (R.fb i w hw);rw[IQ];obtain⟨k,hk,rfl⟩:=afY A;rw[gi];split;split;exact N _;exact(CJ R k).mono (Nat.le_add_right _ _);exact N _;rcases u k x A with⟨B,E,J,V⟩|⟨j,B,rfl,J,-⟩
 rw[E];exact R.pc k x B;rw[J];exact K.pc j _ B;rw[IQ];exact PV.i6 (t:=up (bk M h.length)) (λi hi=>X i (by simpa using hi)) v ((PV.GR v).trans W)
theorem ov {C : Ctx} {call : gK} (hC : pX C call) {name : Nat} {vs : V_} (R : Rl r f h F H) (ok : okM M h = true) (hv : PV.ons (inL M) vs = true)
    (e : call name (PV.mU (up (posOf M)) vs) (qZ h (up (posOf M)) M) = some (v, h2)) : aH C name (vs.map (PV.ren r)) (H.only (wH r M)) (Comes (fun k => r (atN M k)) M.length v h2) := by
  have oks : EP M h = true := by simp only [okM, avE] at ok; exact ok.1
  have hlen : (qZ h (up (posOf M)) M).length = M.length := by simp [qZ]
  have h1 := hC name _ _ v h2 e (fun k => r (atN M k)) (H.only (wH r M))
    ((R.cut oks).only fun k x hx => List.mem_map_of_mem (AO (sV (HM hx).1))) (fun o x hx => by
      rw [xR] at hx;split at hx
      · rename_i hm
        obtain ⟨i, hi, rfl⟩ := avV.1 hm;have hp := sL (vO hi);have hl := sJ ok (vO hi);rw [tY] at hl;refine ⟨posOf M i, (gtH h i).rn (up (posOf M)), ?_, by show (r (atN M (posOf M i))).1 = (r i).1; rw [hp.1]⟩;rw [Hp.kV, qZ, xO, aF hp.2, hp.1];show aV.live _ = _;generalize gtH h i = y at hl ⊢;cases y <;> first | rfl | cases hl
      · cases hx) (by rw [hlen]; exact PV.uP (t := up (posOf M)) (fun i hi => (sL hi).2) vs hv)
  rw [hlen] at h1;rw [<- PV.gF, PV.AU (L := inL M) (s := r) (t := posOf M) (fun i hi => by show r (atN M (posOf M i)) = r i; rw [(sL hi).1]) vs hv] at h1;rw [<- PV.gF];exact h1
end
noncomputable def adB(call:gK)(M:N_)(name:Nat)(vs:V_)(h:Hp):Option (PV × Hp):=
 if okM M h&&VT (inL M) vs then match call name (ZG (up (posOf M)) vs) (qZ h (up (posOf M)) M)with
  |some (v,h2)=>some (v.wx (up (bk M h.length)),sX M h h2)
  |none=>none
 else none
noncomputable def hand(call:gK):gK:=λname vs h=>adB call (reach h 1000 (vM vs []) []) name vs h
theorem afN{call:gK}(B:pX C call):lh C (hand call):=by
 intro name vs h v S e r f F H d K R hb J;unfold hand adB at e;generalize reach h 1000 (vM vs []) []=M at e;split at e;rename_i i;simp only[avE]at i;rw[ER]at e;split at e;rename_i w h2 e2;rw[PV.QU]at e;cases e;refine⟨_,H.only (wH r M),_,rfl,λo x l=>?_,ov B R i.1 (QI i.2) e2,λrv H' O A=>?_⟩;rw[xR]at l;split at l;exact l;cases l;obtain⟨r',E,N,y,rfl,u⟩:=F6 R i.1 O A;exact J r' _ E N y u;cases e;cases e
theorem wO{n:Nat}:∀{l:P2_},PV.eQ n l=true↔∀x∈l,PV.bounds n x=true
 |[]=>by simp[PV.eQ]
 |x::xs=>by simp[PV.eQ,wO (l:=xs)]
theorem sC{n:Nat}:∀{l:V_},PV.bounds n l=true↔∀x∈l,x.bound n=true
 |[]=>by simp[PV.bounds]
 |x::xs=>by simp[PV.bounds,sC (l:=xs)]
theorem ZD{L:Nat->Bool}:∀{l:V_},PV.ons L l=true↔∀x∈l,x.on L=true
 |[]=>by simp[PV.ons]
 |x::xs=>by simp[PV.ons,ZD (l:=xs)]
theorem G1{L:Nat->Bool}:∀{l:P2_},PV.rM L l=true↔∀x∈l,PV.ons L x=true
 |[]=>by simp[PV.rM]
 |x::xs=>by simp[PV.rM,G1 (l:=xs)]
section
variable {L:Nat->Bool} {r:Ren} {o s n:Nat} {rs pre:P2_}
theorem OH(hp:(r o).2.length=Z' pre)(hi:∀q,L q=true->(r q).1=(r o).1->q=o)(v:PV)(i:v.on L=true):(v.dL o s rs).ren r=(v.ren r).dL (r o).1 s (pre++rs.map λx=>x.map (PV.ren r)):=by
 cases v with
 |osl q s' off len =>simp only[PV.on]at i;simp only[PV.dL,PV.ren];by_cases e:q=o;subst e;rw[aF rfl,aF rfl,hp,MD];simp only[auW,auZ];by_cases c:s'=s/\off+len<=Z' rs;rw[aF c,aF ⟨c.1,by omega⟩];simp only[PV.ren,PV.kP,ayN,List.map_drop];rw[aC c,aC (λh=>c ⟨h.1,by omega⟩)];rfl;rw[aC e,aC (λh=>e (hi q i h))];rfl
 |_=>rfl
theorem En(hp:(r o).2.length=Z' pre)(hi:∀q,L q=true->(r q).1=(r o).1->q=o)(v:PV)(e:v.on L=true):(v.qR o s rs).ren r=(v.ren r).qR (r o).1 s (pre++rs.map λx=>x.map (PV.ren r)):=by
 cases v with
 |agg cs =>simp only[PV.on]at e;simp only[PV.qR,PV.ren,PV.gF,ayD];congr 1;exact ayB λx i=>OH hp hi x (ZD.1 e x i)
 |osl q s' off len=>exact OH hp hi _ e
 |_=>rfl
theorem aeS(hp:(r o).2.length=Z' pre)(hi:∀q,L q=true->(r q).1=(r o).1->q=o)(v:PV)(e:v.on L=true):(v.frz o s rs).ren r=(v.ren r).frz (r o).1 s (pre++rs.map λx=>x.map (PV.ren r)):=by
 cases v with
 |tup cs =>simp only[PV.on]at e;simp only[PV.frz,PV.ren,PV.gF,ayD];congr 1;exact ayB λx i=>En hp hi x (ZD.1 e x i)
 |agg cs=>exact En hp hi _ e
 |osl q s' off len=>exact OH hp hi _ e
 |_=>rfl
theorem EC(i:PV.eQ n rs=true)(v:PV)(e:v.bound n=true):(v.dL o s rs).bound n=true:=by
 cases v with
 |osl q s' off len =>simp only[PV.dL];split;split;simp only[PV.bound];exact wO.2 λx l=>wO.1 i x (List.mem_of_mem_drop (List.mem_of_mem_take l));rfl;exact e
 |_=>exact e
theorem nv(i:PV.eQ n rs=true)(v:PV)(e:v.bound n=true):(v.qR o s rs).bound n=true:=by
 cases v with
 |agg cs =>simp only[PV.bound]at e;simp only[PV.qR,PV.bound];refine sC.2 λx l=>?_;obtain⟨y,u,rfl⟩:=avV.1 l;exact EC i y (sC.1 e y u)
 |osl q s' off len=>exact EC i _ e
 |_=>exact e
theorem S6(i:PV.eQ n rs=true)(v:PV)(e:v.bound n=true):(v.frz o s rs).bound n=true:=by
 cases v with
 |tup cs =>simp only[PV.bound]at e;simp only[PV.frz,PV.bound];refine sC.2 λx l=>?_;obtain⟨y,u,rfl⟩:=avV.1 l;exact nv i y (sC.1 e y u)
 |agg cs=>exact nv i _ e
 |osl q s' off len=>exact EC i _ e
 |_=>exact e
theorem Jj{q:Nat}{ts:P2_}{v:PV}(h:v.bound 0=true):v.dL q s ts=v:=by
 cases v<;>first|rfl|simp[PV.bound]at h
theorem nz{q:Nat}{ts:P2_}:∀{l:P2_},PV.eQ 0 l=true->(l.map λc=>c.map (PV.dL q s ts))=l
 |[],_=>rfl
 |x::l,h=>by
  simp only[PV.eQ,avE]at h;have i:x.map (PV.dL q s ts)=x:=by
   have e:=h.1;clear h
   induction x with
   |nil=>rfl
   |cons v x u =>simp only[PV.bounds,avE]at e;rw[awE,Jj e.1,u e.2]
  rw[awE,i,nz h.2]
theorem Pn(hp:(r o).2.length=Z' pre)(hi:∀q,L q=true->(r q).1=(r o).1->q=o)(x:aV)(u:x.on L=true)(e:P2_)(i:PV.eQ 0 e=true):(x.frz o s rs).ren r e=(x.ren r e).frz (r o).1 s (pre++rs.map λx=>x.map (PV.ren r)):=by
 cases x with
 |rows s' rs' =>simp only[aV.on]at u;simp only[aV.frz,aV.ren,ayD,avU,nz i];congr 2;refine ayB λrow w=>?_;simp only[Function.comp,ayD];exact ayB λx l=>OH hp hi x (ZD.1 (G1.1 (zP u) row w) x l)
 |_=>rfl
theorem Ub(B:PV.eQ n rs=true)(x:aV)(l:x.Bd n):(x.frz o s rs).Bd n:=by
 cases x with
 |rows s' rs' =>refine wO.2 λrow e=>?_;obtain⟨i,w,rfl⟩:=avV.1 e;refine sC.2 λy E=>?_;obtain⟨u,A,rfl⟩:=avV.1 E;exact EC B u (sC.1 (wO.1 l i w) u A)
 |_=>exact l
end
def MK(L:Nat->Bool)(o s:Nat)(rs:P2_)(x:aV):aV:=if x.on L then x.frz o s rs else .dead
def rJ(p:PV × Hp)(o:Nat):PV × Hp:=match gtH p.2 o with
 | .rows s rs=>if PV.eQ 0 rs&&p.1.onC (λi=>(gtH p.2 i).xD)then(p.1.frz o s rs,(p.2.map (MK (λi=>(gtH p.2 i).xD) o s rs)).set o .dead)else p
 |_=>p
mutual
def PV.Ox:PV->N_->N_
 | .osl o _ _ _,l=>o::l
 | .ptr _ _ _ _,l=>l
 | .map _,l=>l
 | .sl _ _,l=>l
 | .aX _,l=>l
 | .fn _ _,l=>l
 | .agg cs,l=>PV.B7 cs l
 | .tup cs,l=>PV.B7 cs l
 | .int _ _,l=>l
 | .bool _,l=>l
 | .str _,l=>l
 | .aJ,l=>l
 | .lit _,l=>l
 | .junk,l=>l
def PV.B7:V_->N_->N_
 |[],l=>l
 |v::vs,l=>PV.Ox v (PV.B7 vs l)
end
def Lc:P2_->N_->N_
 |[],l=>l
 |r::rs,l=>PV.B7 r (Lc rs l)
def ny(h:Hp)(n:Nat):Nat->N_->N_
 |0,l=>l
 |d+1,l=>match(l.filter λi=>Nat.ble n i).foldr (λi e=>match gtH h i with | .rows _ rs=>Lc rs e|_=>e) []with
  |[]=>l
  |l'=>ny h n d l'++l
def S3(n:Nat)(v:PV)(h:Hp):PV × Hp:=((ny h n 6 (PV.Ox v [])).filter λi=>Nat.ble n i).foldl rJ (v,h)
section
variable {r:Ren} {H:PH}
theorem Yi(g:aV->aV)(e:g .dead=.dead)(l:Hp)(k:Nat):gtH (l.map g) k=g (gtH l k):=by
 unfold gtH;rw[avO];cases l[k]? with
 |none=>exact e.symm
 |some x=>rfl
theorem Ts{x:aV}{L:Nat->Bool}{o s:Nat}{rs:P2_}{y:aV}(h:(MK L o s rs x).live=some y):x.on L=true/\x.live=some x/\y=x.frz o s rs:=by
 unfold MK at h;split at h;rename_i e;refine⟨e,?_,(aV.CO h).symm⟩;cases x<;>first|rfl|cases h
 cases h
theorem S4{p:PV × Hp}(o:Nat)(R:Rl r .nil p.2 n_ H)(hb:p.1.bound p.2.length=true) :
  ∃M N,(∀J H2,jH M N J H2->jH (n_.set 0 (p.1.ren r)) H J H2)/\M=n_.set 0 ((rJ p o).1.ren r)/\Rl r .nil (rJ p o).2 n_ N/\(rJ p o).1.bound (rJ p o).2.length=true/\(rJ p o).2.length=p.2.length:=by
 obtain⟨v,h⟩:=p;simp only at R hb;have A:∃M N,(∀J H2,jH M N J H2->jH (n_.set 0 (v.ren r)) H J H2)/\M=n_.set 0 (v.ren r)/\Rl r .nil h n_ N/\v.bound h.length=true/\Z' h=Z' h:=⟨_,H,λ_ _ h=>h,rfl,R,hb,rfl⟩;unfold rJ;simp only;split;rename_i s rs Z;split;rename_i K;simp only[avE]at K;replace K:=And.intro K.1 (PV.Gx K.2);have B:h.ph o=some (.rows s rs):=by rw[tY,Z];rfl
 have S:=(mC B).2;obtain⟨pre,hp,-,U⟩:=R.hp.ex B;simp only[aV.ren]at U;have hi:∀q,(gtH h q).xD=true->(r q).1=(r o).1->q=o:=λq hq e=>by
  have h1:h.ph q=some (gtH h q):=by rw[tY];exact OY hq
  exact R.inj _ _ _ _ h1 B e
 have O:PV.eQ h.length rs=true:=PV.zB (auY _) _ K.1;have E:((h.map (MK (λi=>(gtH h i).xD) o s rs)).set o .dead).length=Z' h:=by simp
 have l:∀i x,Hp.ph ((h.map (MK (λi=>(gtH h i).xD) o s rs)).set o .dead) i=some x->i≠o/\h.ph i=some (gtH h i)/\(gtH h i).on (λi=>(gtH h i).xD)=true/\x=(gtH h i).frz o s rs:=λi x u=>by rw[Hp.HL (by simpa using S)]at u;split at u;cases u;rename_i F;rw[tY,Yi _ (by rfl)]at u;obtain⟨h1,V,X⟩:=Ts u;exact⟨F,by rw[tY];exact V,h1,X⟩
 refine⟨_,H.frz (r o).1 s (pre++rs.map λx=>x.map (PV.ren r)),λJ H2 hs=>.step (r o).1 U hs,?_,⟨rfl,λi x u=>?_,λi j x y u W e=>?_,λi w hw=>by simp[Fr.pf]at hw,λx u=>?_,λi x u=>?_⟩,?_,E⟩;funext i;simp only[PF.frz,PF.set,upd];split;rw[avS,aeS (L:=λi=>(gtH h i).xD) hp hi v K.2];rfl;obtain⟨F,h1,V,rfl⟩:=l i x u;have Y:=R.hp i _ h1;show(if(r i).1=(r o).1 then none else(H (r i).1).map (aV.frz (r o).1 s _))=_;rw[aC (λe=>F (R.inj _ _ _ _ h1 B e)),Y,avS,Pn (L:=λi=>(gtH h i).xD) hp hi _ V _ (R.pc i _ h1)];exact R.inj _ _ _ _ (l i x u).2.1 (l j y W).2.1 e;rw[E];rcases azJ u with h1|h1
 obtain⟨y,W,rfl⟩:=avV.1 h1;unfold MK;split;exact Ub O y (R.hb y W);trivial;subst h1;trivial;exact R.pc i _ (l i x u).2.1;rw[E];exact S6 O v hb;exact A;exact A
theorem nw:∀(l:N_){p:PV × Hp}{H:PH},Rl r .nil p.2 n_ H->p.1.bound p.2.length=true ->
  ∃e,jH (n_.set 0 (p.1.ren r)) H (n_.set 0 ((l.foldl rJ p).1.ren r)) e/\Rl r .nil (l.foldl rJ p).2 n_ e/\(l.foldl rJ p).1.bound (l.foldl rJ p).2.length=true/\(l.foldl rJ p).2.length=p.2.length
 |[],p,H,R,hb=>⟨H,.refl _ _,R,hb,rfl⟩
 |o::l,p,H,R,hb=>by obtain⟨F,e,E,rfl,w,i,u⟩:=S4 o R hb;obtain⟨H2,x,y,A,B⟩:=nw l w i;exact⟨H2,E _ _ x,y,A,B.trans u⟩
end
end Go.PM
namespace Go.PM
open Go
def l9(C:Ctx)(k:Nat)(pf:lH):Prop:=∀(args:V_)(H:PH)(R:R_),Z' args<=pf.ntmps->pf.body.wp C (aW pf.res R) (PF.args args) H->aH C k args H R
theorem Fr.Ie{l:V_}{f:Fr}(h:Fr.args l 0 (Fr.empty 9)=some f):f.pf=PF.args l:=by
 rw[Fr.Kr h];funext i;simp only[Nat.not_lt_zero,if_false,Nat.sub_zero,Fr.Ed,PF.args];cases l[i]?<;>rfl
theorem W7(r:Ren)(l:V_):PF.args (l.map (PV.ren r))=(PF.args l).ren r:=by
 funext i;simp only[PF.args,PF.ren,avO]
abbrev Orc:=Nat->V_->Option PV
def ll(C:Ctx)(e:Orc):Prop:=∀name vs v,e name vs=some v->aH C name vs PH.nil (λi _=>i=v)
noncomputable def tQ(tab:Nat->Option lH)(e:Orc)(fz:Nat->Bool)(l:gK->LO)(m:Nat):Nat->gK
 |0=>λ_ _ _=>none
 |n+1=>λname args h=>match e name args with
  |some v=>if v.bound 0&&h.isEmpty then some (v,h)else none
  |none=>match tab name with
  |some pf=>if args.length<=pf.ntmps then match Fr.args args 0 (Fr.empty 9)with
    |none=>none
    |some f=>match rQ (hand (ZO (tQ tab e fz l m n))) (l (ZO (tQ tab e fz l m n))) m pf.body f h with
    |some (.exit _,_,_)=>none
    |some (_,u,i)=>match eE.evs u.pf i.ph pf.res with
     |some vs=>if(bL vs).CA i.length then some (if fz name then S3 h.length (bL vs) i else(bL vs,i))else none
     |none=>none
    |none=>none
   else none
  |none=>none
section
variable {C:Ctx} {r:Ren} {f:Fr} {h:Hp} {F:PF} {H:PH}
theorem Z4{h:PH}(x:JP r h H){F:PF}{q:eE}{v:PV}(e:q.ev F h=some v):q.ev (F.ren r) H=some (v.ren r):=by
 cases q with
 |tmp t=>simp only[eE.ev]at e ⊢;simp only[PF.ren,e,avS]
 |cell t n=>
  cases n with
  |none =>simp only[eE.ev]at e ⊢;split at e;rename_i p l;simp only[PF.ren,l,avS];split at e;rename_i w i;have u:=xE x i;simp only[awE,axD]at u;simp only[u];cases e;rfl;cases e;cases e
  |some k=>
   simp only[eE.ev]at e ⊢;split at e
   ·rename_i p l;simp only[PF.ren,l,avS];cases i:loadCells h p k with
    |none=>rw[i]at e;cases e
    |some w =>rw[i]at e;rw[xE x i];cases e;simp only[avS,PV.ren,PV.gF]
   cases e
theorem zi{h:PH}(i:JP r h H){F:PF}:∀{l:List eE}{vs:V_},eE.evs F h l=some vs->eE.evs (F.ren r) H l=some (vs.map (PV.ren r))
 |[],_,e=>by cases e;rfl
 |q::l,vs,e=>by simp only[eE.evs]at e ⊢;split at e;rename_i v x u w;cases e;rw[Z4 i u,zi i w];rfl;cases e
theorem Jv(vs:V_):bL (vs.map (PV.ren r))=(bL vs).ren r:=by
 unfold bL
 match vs with
 |[]=>rfl
 |[v]=>rfl
 |a::b::l=>simp only[awE,PV.ren,PV.gF]
theorem Mc{tab:Nat->Option lH}{J:Orc}{fz:Nat->Bool}{O:gK->LO}(hO:ll C J)(hT:∀k pf,tab k=some pf->l9 C k pf)(hD:∀call,pX C call->C4 C (O call))(m:Nat):∀n,pX C (tQ tab J fz O m n)
 |0=>λname vs h v U e=>by cases e
 |n+1=>λname vs h v U e r H R X hb=>by
  have ih:=abH (Mc (fz:=fz) hO hT hD m n);simp only[tQ]at e;split at e;rename_i w Z;split at e;rename_i V;simp only[avE,List.isEmpty_iff]at V;obtain⟨V,rfl⟩:=V;cases e;have hH:H=PH.nil:=PH.ext λo=>by
   cases S:H o with
   |none=>rfl
   |some x =>obtain⟨i,y,A,-⟩:=X o x S;simp[Hp.kV]at A
  rw[hH,PV.mX hb];exact(hO name vs v Z).p7 λrv H' hr=>by subst hr;exact⟨r,λ_ _=>rfl,⟨rfl,λi x B=>by simp[Hp.kV]at B,λi j x y B=>by simp[Hp.kV]at B,λi w hw=>by simp[Fr.pf]at hw,λx B=>(by cases B),λi x B=>by simp[Hp.kV]at B⟩,(PV.oO V r).symm,V,avD _⟩
  cases e;split at e;rename_i pf ht;split at e;rename_i hl;split at e;cases e;rename_i f0 W;have Y:∀(x:lG)(K:Fr)(A:Hp),(∀id,x≠.exit id)->rQ (hand (ZO (tQ tab J fz O m n))) (O (ZO (tQ tab J fz O m n))) m pf.body f0 h=some (x,K,A) ->
    (match eE.evs K.pf A.ph pf.res with|some vs=>if(bL vs).CA A.length then some (if fz name then S3 h.length (bL vs) A else(bL vs,A))else none|none=>none)=some (v,U)->aH C name (vs.map (PV.ren r)) H (Comes r h.length v U):=by
   intro x K A B S e2;refine hT name pf ht _ _ _ (by rw[auW];exact hl) ?_;have R0:Rl r f0 h (PF.args (vs.map (PV.ren r))) H:=⟨by rw[Fr.Ie W,W7],R.hp,R.inj,λi w hw=>by
    rw[Fr.Ie W]at hw;simp only[PF.args]at hw;have:∀(l:V_)(i:Nat),PV.bounds h.length l=true->l[i]?=some w->w.bound h.length=true:=by
     intro l
     induction l with
     |nil=>intro i _ hi;simp at hi
     |cons a l α=>
      intro i hb hi;simp only[PV.bounds,avE]at hb;cases i with
      |zero=>simp at hi;subst hi;exact hb.1
      |succ i=>exact α i hb.2 (by simpa using hi)
    exact this vs i hb hw,R.hb,R.pc⟩
   refine Qf (afN ih) (hD _ ih) m pf.body S R0 λr' F' H' ha hn R'=>?_;cases h2:eE.evs K.pf A.ph pf.res with
   |none=>rw[h2]at e2;cases e2
   |some M=>
    rw[h2]at e2;simp only at e2;split at e2
    ·rename_i E;replace E:=PV.zA E;simp only[awV.injEq]at e2;have h3:=zi R'.hp h2;rw[<-R'.fr]at h3;have hR:∃vs,eE.evs F' H' pf.res=some vs/\∃F1 N H2,jH (n_.set 0 (bL vs)) H' F1 N/\PH.le H2 N/\∃u,F1 0=some u/\Comes r h.length v U u H2:=by refine⟨_,h3,?_⟩;rw[Jv M];split at e2;obtain⟨N,g1,g2,g3,g4⟩:=nw ((ny A h.length 6 (PV.Ox (bL M) [])).filter λi=>Nat.ble h.length i) (p:=(bL M,A)) R'.heap E;have e3:((ny A h.length 6 (PV.Ox (bL M) [])).filter λi=>Nat.ble h.length i).foldl rJ (bL M,A)=(v,U):=e2;rw[e3]at g1 g2 g3 g4;exact⟨_,N,N,g1,λ_ _ Z=>Z,v.ren r',rfl,r',ha,g2,rfl,g3,by rw[g4];exact hn⟩;cases e2;exact⟨_,H',H',.refl _ _,λ_ _ Z=>Z,(bL M).ren r',rfl,r',ha,R'.heap,rfl,E,hn⟩
     cases x with
     |normal=>exact hR
     |ret=>exact hR
     |exit id=>exact absurd rfl (B id)
    cases e2
  split at e;cases e;rename_i x K A B S;exact Y x K A (λid he=>B id he) S e;cases e;cases e;cases e
end
def uM(W:N_):Nat->Hp->Hp
 |_,[]=>[]
 |i,x::xs=>(if W.contains i then .dead else x)::uM W (i+1) xs
theorem bw(W:N_):∀(h:Hp)(i k:Nat)(x:aV),(uM W i h)[k]?=some x->x=.dead\/h[k]?=some x
 |[],_,_,_,e=>by simp[uM]at e
 |y::h,i,0,x,e=>by simp only[uM,List.getElem?_cons_zero,awV.injEq]at e;split at e;exact .inl e.symm;exact .inr (by rw[<-e];rfl)
 |y::h,i,k+1,x,e=>by simp only[uM,List.getElem?_cons_succ]at e ⊢;exact bw W h (i+1) k x e
theorem Lg{W:N_}{h:Hp}{i:Nat}{x:aV}(e:Hp.ph (uM W 0 h) i=some x):h.ph i=some x:=by
 have l:=mC e;rcases bw W h 0 i x l.1 with h2|h2
 subst h2;rw[Hp.kV,l.1]at e;cases e;rw[Hp.kV]at e ⊢;rw[l.1]at e;rw[h2];exact e
def kc(op:POp)(f:Fr):O_:=match op with
 | .store _ p _=>match p.ev f.pf with
  |some (.ptr o _ _ _)=>some o
  |_=>none
 | .append _ _ x _=>match x.ev f.pf with
  |some (.osl o _ _ _)=>some o
  |_=>none
 |_=>none
def Po(hs:Hp)(op:POp)(f:Fr):Bool:=match kc op f with
 |none=>true
 |some o=>match hs[o]? with
  |none=>true
  |some .dead=>true
  |_=>false
theorem Pp{hs:Hp}{op:POp}{f:Fr}{o:Nat}(h:Po hs op f=true)(i:kc op f=some o):hs.ph o=none:=by
 unfold Po at h;rw[i]at h;simp only at h;rw[Hp.kV];split at h;rename_i e;rw[e];rfl;rename_i e;rw[e];rfl;cases h
noncomputable def vI(call:gK)(name:Nat)(vs:V_):Option PV:=
 if PV.bounds 0 vs then match call name vs []with
  |some (v,_)=>if v.bound 0 then some v else none
  |none=>none
 else none
def sb:aV->aV->Bool
 | .rows s rs,y=>match y with | .rows s' rs'=>awX s s'&&PV.YF rs rs'|_=>false
 | .map _ _,_=>false
 |_,_=>true
def anY(hs:Hp)(M:N_)(h':Hp):Bool:=M.all λi=>sb (gtH hs i) (gtH h' i)
noncomputable def B5(call:gK)(l hs:Hp)(name:Nat)(vs:V_)(h:Hp):Option (PV × Hp):=
 let M:=reach l 1000 (vM vs []) []
 if(M.all λi=>(gtH l i).xD)&&(okM M h&&VT (inL M) vs)then match call name (ZG (up (posOf M)) vs) (qZ h (up (posOf M)) M)with
  |some (v,e)=>if(Nat.ble M.length e.length&&v.CA e.length)&&((e.all λx=>x.xD.not||x.bd e.length)&&anY hs M (sX M h e))then some (v.wx (up (bk M h.length)),sX M h e)else none
  |none=>none
 else none
noncomputable def sm(call:gK)(e hs:Hp)(op:POp)(st:Bool)(f:Fr)(h:Hp):Option (PV × Hp):=match op with
 | .call name args=>if args.all aR.clo then match aR.evs f.pf args with
  |some vs=>B5 call e hs name vs h
  |none=>none
  else none
 | .auM x args=>if x.clo&&args.all aR.clo then match x.ev f.pf,aR.evs f.pf args with
  |some (.fn name cs),some vs=>B5 call e hs name (vs++cs) h
  |_,_=>none
  else none
 |op=>if op.clo&&Po hs op f then
   if op.iN then yM op f h else if op.eT then kR op f h else
    match bD op f.pf (if st then hs.ph else h.ph)with
    |some v=>if v.CA h.length then some (v,h)else none
    |none=>none
  else none
noncomputable def sn(call:gK)(l hs:Hp)(i:bX)(st:Bool)(f:Fr)(h:Hp):Option (PV × Hp):=match i.guard with
 |none=>sm call l hs i.op st f h
 |some (t,e)=>match f.pf t with
  |some (.bool b)=>if b=e then sm call l hs i.op st f h else some (.tup [],h)
  |some (.tup [])=>some (.tup [],h)
  |_=>none
noncomputable def WJ(call:gK)(e hs:Hp):List (bX × Bool)->Fr->Hp->Option (Fr × Hp)
 |[],f,h=>some (f,h)
 |i::rest,f,h=>if f.fits i.1.dst then match sn call e hs i.1 i.2 f h with
   |some (v,h')=>WJ call e hs rest (f.put i.1.dst v) h'
   |none=>none
  else none
noncomputable def alJ(e:Hp)(i:bX)(f:Fr)(h h':Hp):N_:=match i.op with
 | .call _ args=>match aR.evs f.pf args with
  |some vs=>(reach e 1000 (vM vs []) []).filter λi=>!sb (gtH h i) (gtH h' i)
  |none=>[]
 | .auM x args=>match x.ev f.pf,aR.evs f.pf args with
  |some (.fn _ cs),some vs=>(reach e 1000 (vM (vs++cs) []) []).filter λi=>!sb (gtH h i) (gtH h' i)
  |_,_=>[]
 |op=>(kc op f).toList
noncomputable def targets(call:gK)(e:Hp):List (bX × Bool)->Fr->Hp->N_
 |[],_,_=>[]
 |i::rest,f,h=>match sn call e [] i.1 false f h with
  |some (v,h')=>alJ e i.1 f h h'++targets call e rest (f.put i.1.dst v) h'
  |none=>[]
noncomputable def tR(call:gK):LO:=λops f h=>
 if ops.any λi=>i.2 then
  if ops.any λi=>i.1.op.eT then WJ call h (uM (targets call h ops f h) 0 h) ops f h
  else match WJ call h h ops f h with
   |some x=>some x
   |none=>WJ call h (uM (targets call h ops f h) 0 h) ops f h
 else WJ call h [] ops f h
structure DI(r:Ren)(hs h:Hp)(Hs:PH):Prop where
 a:∀i x,hs.ph i=some x->h.ph i=some x
 b:∀o x,Hs o=some x->∃i y,hs.ph i=some y/\o=(r i).1/\x=y.ren r (r i).2
 c:JP r hs.ph Hs
section
variable {C:Ctx} {call:gK} {r:Ren} {f f':Fr} {hs h h':Hp} {F:PF} {H Hs:PH} {v:PV}
theorem DI.le(D:DI r hs h Hs)(R:Rl r f h F H):Hs.le H:=λo x l=>by
 obtain⟨i,y,e,rfl,rfl⟩:=D.b o x l;exact R.hp i y (D.a i y e)
theorem DI.next(D:DI r hs h Hs)(R:Rl r f h F H){r':Ren}(w:hZ h.length r r')(E:∀i x,hs.ph i=some x->h'.ph i=some x):DI r' hs h' Hs:=by
 have e:∀i y,hs.ph i=some y->r i=r' i/\∀pre,y.ren r pre=y.ren r' pre:=λi y J=>by have l:=mC (D.a i y J);exact⟨w i l.2,λpre=>aV.oU w (R.hb y (axF l.1)) pre⟩
 refine⟨E,λo x u=>?_,λi x u=>?_⟩;obtain⟨i,y,l,A,B⟩:=D.b o x u;refine⟨i,y,l,by rw[A,(e i y l).1],?_⟩;rw[B,(e i y l).1];exact(e i y l).2 _;rw[<-(e i x u).1,<-(e i x u).2];exact D.c i x u
theorem Be{op:POp}(e:yM op f h=some (v,h')){i:Nat}{x:aV}(u:h.ph i=some x):h'.ph i=some x:=by
 have hlt:=(mC u).2;by_cases w:∃sh,op=.auR sh;obtain⟨sh,rfl⟩:=w;simp only[yM,awV.injEq,Prod.mk.injEq]at e;obtain⟨-,rfl⟩:=e;rw[Hp.vT,aC Om];exact u;have l:(match cN op f.pf with|some (y,x)=>if x.bd h.length then some (y h.length,h++[x])else none|none=>none)=some (v,h'):=by cases op<;>first|exact e|exact absurd ⟨_,rfl⟩ w
 split at l;split at l<;>cases l;rw[Hp.vT,aC Om];exact u;cases l
theorem sr{op:POp}(e:kR op f h=some (v,h')){i:Nat}{x:aV}(u:h.ph i=some x)(l:kc op f≠some i):h'.ph i=some x:=by
 have hlt:=(mC u).2;cases op<;>try (simp[kR]at e;done)
 case store n p y=>
  simp only[kR]at e;simp only[kc]at l;split at e
  ·rename_i o s j c w A E;rw[A]at l;split at e
   ·rename_i s' rs B;split at e
    ·split at e<;>cases e;rw[Hp.HL ((awD.1 B).1),aC (λe=>l (by rw[e]))];exact u
    ·cases e
   ·cases e
  ·cases e
 case append size bytes y z=>
  simp only[kR]at e;simp only[kc]at l;split at e
  ·split at e
   ·cases e;exact u
   ·split at e<;>cases e;rw[Hp.vT,aC Om];exact u
   ·cases e
  ·rename_i o s off len b A E;rw[A]at l;split at e
   ·rename_i src s' rs B J;split at e<;>cases e;rw[Hp.vT,aC (by rw[awS];omega),Hp.HL ((awD.1 J).1),aC (λe=>l (by rw[e]))];exact u
   ·cases e
  ·cases e
theorem Jb(R:pX C call){name:Nat}{vs:V_}(e:vI call name vs=some v) :
  vs.map (PV.ren r)=vs/\v.ren r=v/\v.bound 0=true/\aH C name vs PH.nil (λV _=>V=v):=by
 unfold vI at e;split at e;rename_i A;split at e;rename_i w O e2;split at e;rename_i B;cases e;refine⟨PV.mX A r,PV.oO B r,B,?_⟩;have J:=R name vs [] v O e2 (up id) PH.nil ⟨rfl,λi x l=>by simp[Hp.kV]at l,λi j x y l=>by simp[Hp.kV]at l,λi w U=>by simp[Fr.pf]at U,λx l=>(by cases l),λi x l=>by simp[Hp.kV]at l⟩ (λo x l=>by cases l) A;rw[PV.mX A]at J;refine⟨J.1,λE w W S hW K=>(J.2 E w W S hW K).mono λX Y he=>?_⟩;obtain⟨u,pv,M,H',g1,g2,g3,g4,r',-,-,N,-,-⟩:=he;exact⟨u,pv,M,H',g1,g2,g3,g4,by rw[N,PV.oO B]⟩;cases e;cases e;cases e
end
theorem xm(r:Nat->Nat):∀n:Nat,∃b,∀j,j<n->r j<b
 |0=>⟨0,λj e=>absurd e (Nat.not_lt_zero j)⟩
 |n+1=>by
  obtain⟨b,hb⟩:=xm r n;refine⟨b+r n+1,λj e=>?_⟩;rcases Nat.lt_succ_iff_lt_or_eq.1 e with h|h
  have:=hb j h;omega;subst h;omega
theorem akB(r:Ren)(h:Hp)(hi:∀i j x y,h.ph i=some x->h.ph j=some y->(r i).1=(r j).1->i=j) :
  ∃H:PH,JP r h.ph H/\∀o x,H o=some x->∃i y,h.ph i=some y/\(r i).1=o:=by
 classical
 obtain⟨b,hb⟩:=xm (λi=>(r i).1) h.length;refine⟨⟨λo=>if e:∃i y,h.ph i=some y/\(r i).1=o then some ((Classical.choose (Classical.choose_spec e)).ren r (r (Classical.choose e)).2)else none,b,λo B=>?_⟩,λi x l=>?_,λo x l=>?_⟩;rw[dif_neg];rintro⟨i,y,u,w⟩;have:=hb i (mC u).2;omega;have e:∃j y,h.ph j=some y/\(r j).1=(r i).1:=⟨i,x,l,rfl⟩;show(if e:∃j y,h.ph j=some y/\(r j).1=(r i).1 then some ((Classical.choose (Classical.choose_spec e)).ren r (r (Classical.choose e)).2)else none)=_;rw[dif_pos e];have u:=Classical.choose_spec (Classical.choose_spec e);have w:=hi _ _ _ _ u.1 l u.2;have A:=u.1.symm.trans ((congrArg h.ph.f w).trans l);rw[awV.inj A,congrArg (λj=>(r j).2) w];change(if e:∃j y,h.ph j=some y/\(r j).1=o then some ((Classical.choose (Classical.choose_spec e)).ren r (r (Classical.choose e)).2)else none)=some x at l;split at l;rename_i e;exact e;cases l
theorem adT{r:Ren}{f:Fr}{h:Hp}{F:PF}{H:PH}(R:Rl r f h F H):∃q:Nat->Nat × Nat,∀i x,h.ph i=some x->q (r i).1=(i,(r i).2.length):=by
 classical
 refine⟨λo=>if e:∃i y,h.ph i=some y/\(r i).1=o then(Classical.choose e,(r (Classical.choose e)).2.length)else(0,0),λi x l=>?_⟩;have e:∃j y,h.ph j=some y/\(r j).1=(r i).1:=⟨i,x,l,rfl⟩;show(if e:∃j y,h.ph j=some y/\(r j).1=(r i).1 then(Classical.choose e,(r (Classical.choose e)).2.length)else(0,0))=_;rw[dif_pos e];obtain⟨y,u,w⟩:=Classical.choose_spec e;rw[R.inj _ _ _ _ u l w]
def Cf(q:Nat->Nat × Nat)(r:Ren)(M:N_)(H:PH):Hp:=M.map λi=>match H (r i).1 with
 |some x=>(x.back q (r i).2.length).rn (up (posOf M))
 |none=>.dead
noncomputable def WQ(call:gK)(h0:Hp)(q:Nat->Nat × Nat)(r:Ren):Spec:=λname vs=>
 some (wH r (reach h0 1000 (vM (PV.sB q vs) []) []),λi l H'=>∃v e,
  call name (PV.mU (up (posOf (reach h0 1000 (vM (PV.sB q vs) []) []))) (PV.sB q vs)) (Cf q r (reach h0 1000 (vM (PV.sB q vs) []) []) i)=some (v,e) /\
  Comes (λk=>r (atN (reach h0 1000 (vM (PV.sB q vs) []) []) k)) (reach h0 1000 (vM (PV.sB q vs) []) []).length v e l H')
theorem Comes.agree{r s:Ren}{n:Nat}{v:PV}{h:Hp}{e:PV}{H:PH}(x:Comes r n v h e H)(w:hZ n r s):Comes s n v h e H:=by
 obtain⟨r',l,u⟩:=x;exact⟨r',λi hi=>(w i hi).symm.trans (l i hi),u⟩
theorem aaQ{x y:aV}(h:sb x y=true)(e:x.live=some x):x=y:=by
 cases x with
 |rows s rs =>cases y<;>simp only[sb,avE,axH]at h;rw[PV.d7 _ _ h.2,Nat.eq_of_beq_eq_true h.1]
 |map=>cases h
 |loop=>cases e
 |dead=>cases e
section
variable {C:Ctx} {call:gK} {q:Nat->Nat × Nat} {r0 r:Ren} {f f':Fr} {h0 hs h h':Hp} {F:PF} {H Hs:PH} {v:PV} {K:R_} {st:Bool}
theorem MA(hC:pX C call)(hq:∀i x,h0.ph i=some x->q (r0 i).1=(i,(r0 i).2.length))(κ:hZ h0.length r0 r)(R:Rl r f h F H)(D:DI r hs h Hs){name:Nat}{vs:V_}(e:B5 call h0 hs name vs h=some (v,h'))
  (O:∀r' H',hZ h.length r r'->Z' h<=Z' h'->Rl r' f h' F H'->DI r' hs h' Hs->v.bound h'.length=true->K (v.ren r') H') :
  (Kind.call name (some (vs.map (PV.ren r)))).run C Hs (WQ call h0 q r0) st K H:=by
 unfold B5 at e;simp only at e;generalize hM:reach h0 1000 (vM vs []) []=M at e;split at e;rename_i δ;simp only[avE,awA]at δ;obtain⟨ρ,ok,hv⟩:=δ;replace hv:=QI hv;rw[ER]at e;split at e;rename_i w B e2;split at e;rename_i hb;simp only[avE]at hb;obtain⟨⟨ν,V⟩,ξ,ο⟩:=hb;replace V:=PV.zA V;rw[PV.QU]at e;cases e;have σ:Z' M<=Z' B:=Nat.le_of_ble_eq_true ν;have N:∀i,inL M i=true->h0.ph i=some (gtH h0 i):=λi hi=>by rw[tY];exact OY (ρ i (AO hi))
 have S:∀i,inL M i=true->r0 i=r i:=λi hi=>κ i (mC (N i hi)).2;have ε:∀i,inL M i=true->q (r i).1=(i,(r i).2.length):=λi hi=>by rw[<-S i hi];exact hq i _ (N i hi)
 have τ:PV.sB q (vs.map (PV.ren r))=vs:=by rw[<-PV.gF,PV.uG (L:=inL M) ε vs hv]
 have β:wH r0 M=wH r M:=ayB λi hi=>by rw[S i (vO hi)]
 have α:∀i,inL M i=true->(H.only (wH r M)) (r i).1=some ((gtH h i).ren r (r i).2):=λi hi=>by rw[xR,aF (show(r i).1∈wH r M from avV.2 ⟨i,AO hi,rfl⟩)];exact R.hp i _ (sJ ok hi)
 have Y:EP M h=true:=by simp only[okM,avE]at ok;exact ok.1
 have l:Cf q r0 M (H.only (wH r M))=qZ h (up (posOf M)) M:=by unfold Cf qZ;refine ayB λi hi=>?_;have W:=vO hi;rw[S i W,α i W];show aV.rn _ (aV.back q _ _)=_;rw[aV.NJ (L:=inL M) ε (CJ R i) (i5 Y W)]
 have E:hZ M.length (λk=>r0 (atN M k)) (λk=>r (atN M k)):=λk O=>S _ (sV O);have ι:∀x∈B,aV.Bd B.length x:=λx Z=>by
  have:=(awA.1 ξ) x Z;simp only[Bool.or_eq_true,Bool.not_eq_true']at this;rcases this with h1|h1
  cases x<;>first|trivial|cases h1
  exact aV.AI h1
 refine⟨_,wH r M,λH0 rv H'=>∃v B,call name (PV.mU (up (posOf M)) vs) (Cf q r0 M H0)=some (v,B)/\Comes (λk=>r0 (atN M k)) M.length v B rv H',rfl,?_,λo ho=>?_,?_,λG=>?_,λrv H' hr ap=>?_⟩;simp only[WQ,τ,hM,β];obtain⟨i,hi,rfl⟩:=avV.1 ho;exact⟨_,R.hp i _ (sJ ok (vO hi))⟩;exact(ov hC R ok hv e2).p7 λrv H' hc=>⟨w,B,by rw[l];exact e2,hc.agree λk O=>(E k O).symm⟩;obtain⟨nG,hG⟩:=G.fin;obtain⟨nH,hH⟩:=H.fin;have η:∀k,k<Z' M->(r (atN M k)).1<nH:=λk O=>by
  rcases avX (r (atN M k)).1 nH with h1|h1
  exact h1;have:=R.hp _ _ (sJ ok (sV O));rw[hH _ h1]at this;cases this
 generalize ζ:(λj=>if j<M.length then r (atN M j)else(nG+nH+j,[]))=r2;have hlt:∀j,j<Z' M->r2 j=r (atN M j):=λj J=>by rw[<-ζ];exact aF J
 have A:∀j,¬j<Z' M->r2 j=(nG+nH+j,[]):=λj J=>by rw[<-ζ];exact aC J
 have U:∀i j x y,B.ph i=some x->B.ph j=some y->(r2 i).1=(r2 j).1->i=j:=λi j x y _ _ he=>by
  by_cases hi:i<Z' M<;>by_cases J:j<Z' M;rw[hlt i hi,hlt j J]at he;have:=R.inj _ _ _ _ (sJ ok (sV hi)) (sJ ok (sV J)) he;have γ:VO M=true:=by simp only[EP,avE]at Y;exact Y.1
  rw[<-CR γ hi,this,CR γ J];rw[hlt i hi,A j J]at he;have:=η i hi;simp only at he;omega;rw[A i hi,hlt j J]at he;have:=η j J;simp only at he;omega;rw[A i hi,A j J]at he;simp only at he;omega
 obtain⟨H',h1,h3⟩:=akB r2 B U;refine⟨w.ren r2,H',⟨w,B,by rw[l];exact e2,r2,λk O=>?_,⟨rfl,h1,U,λi u hu=>by simp[Fr.pf]at hu,ι,λi x _=>by by_cases hi:i<Z' M;rw[hlt i hi];exact R.pc _ _ (sJ ok (sV hi));rw[A i hi];rfl⟩,rfl,V,σ⟩,λo x Z h4=>?_⟩;rw[hlt k O];exact E k O;obtain⟨i,y,-,rfl⟩:=h3 o x Z;by_cases hi:i<Z' M;rw[hlt i hi,α _ (sV hi)]at h4;cases h4;rw[A i hi];exact hG _ sO_;obtain⟨w',h3,e3,hc⟩:=hr;rw[l,e2]at e3;cases e3;obtain⟨r',ha,hn,R',rfl,μ⟩:=F6 R ok (hc.agree E) ap;have X:∀i x,hs.ph i=some x->Hp.ph (sX M h B) i=some x:=λi x Z=>by have θ:=D.a i x Z;have hlt:=(mC θ).2;by_cases hi:inL M i=true;have h5:=(awA.1 ο) i (AO hi);have h6:=akO Z;have h7:=aaQ h5 (by rw[h6.1];exact h6.2);rw[tY,<-h7,h6.1];exact h6.2;rw[tY,gi,aF hlt,aC hi,<-tY];exact θ
 have D':=D.next R ha X;exact⟨D'.le R',O r' _ ha hn R' D' μ⟩;cases e;cases e;cases e
theorem cz(hC:pX C call)(hq:∀i x,h0.ph i=some x->q (r0 i).1=(i,(r0 i).2.length))(N:hZ h0.length r0 r){op:POp}(R:Rl r f h F H)(D:DI r hs h Hs)(e:sm call h0 hs op st f h=some (v,h'))
  (O:∀r' H',hZ h.length r r'->Z' h<=Z' h'->Rl r' f h' F H'->DI r' hs h' Hs->v.bound h'.length=true->K (v.ren r') H') :
  (op.kind F).run C Hs (WQ call h0 q r0) st K H:=by
 by_cases h1:∃name args,op=.call name args;obtain⟨name,args,rfl⟩:=h1;simp only[sm]at e;split at e;rename_i A;split at e;rename_i vs J;have X:=FN (r:=r) A J;rw[<-R.fr]at X;simp only[POp.kind];rw[X];exact MA hC hq N R D e O;cases e;cases e;by_cases J:∃x args,op=.auM x args;obtain⟨x,args,rfl⟩:=J;simp only[sm]at e;split at e;rename_i A;simp only[avE]at A;split at e;rename_i name cs vs W X;have h5:=FN (r:=r) A.2 X;have h6:=dT (r:=r) A.1 W;rw[<-R.fr]at h5 h6;simp only[POp.kind];rw[h6];simp only[PV.ren,PV.gF];rw[h5];simp only[avS,<-avU];exact MA hC hq N R D e O;cases e;cases e;have l:(if op.clo&&Po hs op f then if op.iN then yM op f h else if op.eT then kR op f h else
   match bD op f.pf (if st then hs.ph else h.ph)with|some v=>if v.CA h.length then some (v,h)else none|none=>none else none)=some (v,h'):=by
  cases op<;>first|exact e|exact absurd ⟨_,_,rfl⟩ h1|exact absurd ⟨_,_,rfl⟩ J
 split at l;rename_i A;simp only[avE]at A;have U:∀i x,hs.ph i=some x->kc op f≠some i:=λi x hx ht=>by rw[Pp A.2 ht]at hx;cases hx
 by_cases W:∃sh x k w,op=.insert sh x k w;obtain⟨sh,x,k,w,rfl⟩:=W;simp[POp.clo]at A;have E:op.kind F=if op.iN then .new (cN op F)else if op.eT then .write (λH K=>cH op F H K)else .calm (bD op F):=by cases op<;>first|rfl|exact absurd ⟨_,_,rfl⟩ h1|exact absurd ⟨_,_,rfl⟩ J|exact absurd ⟨_,_,_,_,rfl⟩ W
 rw[E];split at l;rename_i S;rw[aF S];have B:Z' h<=Z' h':=RN (op:=op) (f:=f) (v:=v) (by unfold CU;rw[aF A.1,aF S];exact l);obtain⟨mk,x,g1,g2⟩:=TH (d:=some 0) (K:=λF' H'=>∀u,F' 0=some u->K u H') R A.1 l λr' H' M V hb u hu=>by simp only[PF.put,PF.set,Iu]at hu;cases hu;exact O r' H' M B V (D.next R M λi y Z=>Be l (D.a i y Z)) hb
 exact⟨mk,x,g1,λo ho=>g2 o ho _ (by simp[PF.put,PF.set,Iu])⟩;rename_i S;rw[aC S];split at l;rename_i Y;rw[aF Y];have B:Z' h<=Z' h':=RN (op:=op) (f:=f) (v:=v) (by unfold CU;rw[aF A.1,aC S,aF Y];exact l);show cH op F H λrv H'=>Hs.le H'/\K rv H';refine JE (K:=λrv H'=>Hs.le H'/\K rv H') R A.1 l λr' H' M V hb=>?_;have D':=D.next R M λi y Z=>sr l (D.a i y Z) (U i y Z);exact⟨D'.le V,O r' H' M B V D' hb⟩;rename_i Y;rw[aC Y];split at l;rename_i w g1;split at l
 ·rename_i hb;replace hb:=PV.zA hb;cases l;refine⟨v.ren r,?_,O r H (λ_ _=>rfl) (avD _) R D hb⟩;cases st with
  |true=>
   have:=VW D.c A.1 g1
   rwa[<-R.fr]at this
  |false=>
   have:=VW R.hp A.1 g1
   rwa[<-R.fr]at this
 cases l;cases l;cases l
theorem If(E:pX C call)(hq:∀i x,h0.ph i=some x->q (r0 i).1=(i,(r0 i).2.length))(l:hZ h0.length r0 r){i:bX}(R:Rl r f h F H)(D:DI r hs h Hs)(e:sn call h0 hs i st f h=some (v,h'))
  (A:∀r' H',hZ h.length r r'->Z' h<=Z' h'->Rl r' f h' F H'->DI r' hs h' Hs->v.bound h'.length=true->K (v.ren r') H') :
  (i.kind F).run C Hs (WQ call h0 q r0) st K H:=by
 have u:∀t w,f.pf t=some w->F t=some (w.ren r):=λt w y=>by rw[R.fr];simp only[PF.ren,y,avS]
 unfold sn at e;unfold bX.kind;split at e;rename_i B;rw[B];exact cz E hq l R D e A;rename_i t J B;rw[B];simp only;split at e;rename_i b hb;rw[u t _ hb];simp only[PV.ren];split at e;rename_i y;rw[aF y];exact cz E hq l R D e A;rename_i y;rw[aC y];cases e;exact⟨_,rfl,A r H (λ_ _=>rfl) (avD _) R D rfl⟩;rename_i hb;rw[u t _ hb];cases e;exact⟨_,rfl,A r H (λ_ _=>rfl) (avD _) R D rfl⟩;cases e
end
variable{C:Ctx}
theorem r8{call:gK}(S:pX C call){h0 hs:Hp}{Hs:PH}{q:Nat->Nat × Nat}{r0:Ren}(hq:∀i x,h0.ph i=some x->q (r0 i).1=(i,(r0 i).2.length)):∀(ops:List (bX × Bool)) {r:Ren} {f f':Fr} {h h':Hp} {F:PF} {H:PH} {K:K_},WJ call h0 hs ops f h=some (f',h')->hZ h0.length r0 r->Z' h0<=Z' h->Rl r f h F H->DI r hs h Hs ->
  (∀r' O H',hZ h.length r r'->Z' h<=Z' h'->Rl r' f' h' O H'->K O H')->wpD C Hs (WQ call h0 q r0) ops K F H
 |[],r,f,f',h,h',F,H,K,e,_,_,R,D,E=>by cases e;exact E r F H (λ_ _=>rfl) (avD _) R
 |i::rest,r,f,f',h,h',F,H,K,e,l,u,R,D,E=>by simp only[WJ]at e;split at e;rename_i Y;split at e;rename_i v Z X;refine If S hq l R D X λr' H' U J W V hb=>?_;exact r8 S hq rest e (l.trans U u) (avZ u J) (W.put Y hb) V λN w y B M A=>E N w y (U.trans B J) (avZ J M) A;cases e;cases e
theorem IY{call:gK}(B:pX C call){hs:Hp}{ops:List (bX × Bool)}{r:Ren}{f f':Fr}{h h':Hp}{F:PF}{H:PH}{K:K_}(e:WJ call h hs ops f h=some (f',h'))(R:Rl r f h F H)
  (l:∀i x,hs.ph i=some x->h.ph i=some x) (E:∀r' w H',hZ h.length r r'->Z' h<=Z' h'->Rl r' f' h' w H'->K w H'):∃Hs S,PH.le Hs H/\wpD C Hs S ops K F H:=by
 obtain⟨q,hq⟩:=adT R;have D:DI r hs h (H.only (wH r ((auX h.length).filter λi=>(Hp.ph hs i).isSome))):=by refine⟨l,λo x u=>?_,λi x u=>?_⟩;rw[xR]at u;split at u;rename_i J;obtain⟨i,hi,rfl⟩:=avV.1 J;obtain⟨-,hi⟩:=List.mem_filter.1 hi;obtain⟨y,A⟩:=Option.isSome_iff_exists.1 hi;refine⟨i,y,A,rfl,?_⟩;have:=R.hp i y (l i y A);rw[this]at u;cases u;rfl;cases u;rw[xR,aF];exact R.hp i x (l i x u);exact avV.2 ⟨i,List.mem_filter.2 ⟨awG.2 (mC (l i x u)).2,by rw[u];rfl⟩,rfl⟩
 exact⟨_,_,D.le R,r8 B hq ops e (λ_ _=>rfl) (avD _) R D E⟩
theorem X1(call:gK)(u:pX C call):C4 C (tR call):=by
 intro ops f h f' h' e r F H R K w;unfold tR at e;split at e;split at e;exact IY u e R (λi x l=>Lg l) w;split at e;rename_i p y;cases e;exact IY u y R (λi x l=>l) w;exact IY u e R (λi x l=>Lg l) w;exact IY u e R (λi x l=>by simp[Hp.kV]at l) w
theorem Qh{tab:Nat->Option lH}{e:Orc}{fz:Nat->Bool}(l:ll C e)(u:∀k pf,tab k=some pf->l9 C k pf)(m n:Nat):pX C (tQ tab e fz tR m n):=Mc l u (λcall i=>X1 call i) m n
theorem Qg{tab:Nat->Option lH}{i:Orc}{fz:Nat->Bool}(l:ll C i)(u:∀k pf,tab k=some pf->l9 C k pf)(m n:Nat){name:Nat}{vs:V_}{v:PV}(e:vI (tQ tab i fz tR m n) name vs=some v):aH C name vs PH.nil (λw _=>w=v):=
 (Jb (r:=up id) (Qh l u m n) e).2.2.2
open Go Go.Na
def YZ:P2_->Option N_
 |[]=>some []
 |r::rs=>match r with
  |[.int .u32 (.ofNat n)]=>if Nat.blt n 4294967296 then match YZ rs with
   |some l=>some (n::l)
   |none=>none
   else none
  |_=>none
def zM:PV->Option N_
 | .aJ=>some []
 | .sl s rows=>if awX s 1&&Nat.ble rows.length 1000 then YZ rows else none
 |_=>none
def Hm:V_->Option RF
 |[.bool n,a,b]=>match zM a,zM b with
  |some x,some y=>some ⟨n,x,y⟩
  |_,_=>none
 |_=>none
theorem qb:∀{rs:P2_}{l:N_},YZ rs=some l->rs=l.map (λ(n:Nat)=>[PV.int .u32 (n:Int)])/\Lim l
 |[],l,h=>by cases h;exact⟨rfl,λx i=>by cases i⟩
 |r::rs,l,h=>by
  simp only[YZ]at h;split at h;split at h;rename_i n A;split at h;rename_i B u;cases h;obtain⟨w,y⟩:=qb u;refine⟨by rw[w];rfl,λx i=>?_⟩;rcases avL.1 i with e|e
  subst e;exact of_decide_eq_true (by simpa[Nat.blt_eq]using A);exact y x e;cases h;cases h;cases h
structure ajE(v:PV)(l:N_):Prop where
 co:Co v (aN l)
 lim:Lim l
 len:Z' l<=1000
theorem uN{v:PV}{l:N_}(h:zM v=some l):ajE v l:=by
 unfold zM at h;split at h;cases h;exact⟨.nil 1,λx y=>(avY y).elim,auY _⟩;split at h;rename_i s rows e;simp only[avE]at e;obtain⟨i,w⟩:=qb h;have u:=Nat.le_of_ble_eq_true e.2;rw[i,auW]at u;refine⟨?_,w,u⟩;rw[Nat.eq_of_beq_eq_true e.1,i];exact .refl _;cases h;cases h
structure aqI(cs:V_)(x:RF):Prop where
 co:CoL cs x.cells
 ok:x.Ok
theorem w9{cs:V_}{x:RF}(h:Hm cs=some x):aqI cs x:=by
 unfold Hm at h;split at h;split at h;rename_i a b _ _ e i;cases h;have k1:=uN e;have k2:=uN i;exact⟨.cons (.refl _) (.cons k1.co (.cons k2.co .nil)),k1.lim,k2.lim,avZ k1.len aU,avZ k2.len aU⟩;cases h;cases h
noncomputable def fD:aD:={ Qr with atJ:=[⟨[118,48],0⟩] }
theorem Il:fD.Ok:=akM (by decide +kernel)
theorem V3:BA fD=0:=by decide +kernel
theorem s7:mZ fD 5 1=[[0]]/\gD fD 5 1=0:=by decide +kernel
theorem Qs:JC fD (mR fD 0)=[[0]]/\(dK fD.atH.length (wC (mR fD 0)).toNat 0).map cA=[[0]]/\DC fD (mR fD 0) [0]=true:=by decide +kernel
theorem V2:Z' fD.atH<=12/\1<=(mR fD 0).k/\(mR fD 0).k<=6/\0<=(mR fD 0).m/\(mR fD 0).m<=4:=by decide +kernel
def or1(g:RF->PV)(vs:V_):Option PV:=match vs with
 |[.agg x]=>match Hm x with
  |some a=>some (g a)
  |none=>none
 |_=>none
def or2(g:RF->RF->PV)(vs:V_):Option PV:=match vs with
 |[.agg x,.agg y]=>match Hm x with
  |some a=>match Hm y with
   |some b=>some (g a b)
   |none=>none
  |none=>none
 |_=>none
def zR:Orc:=λname vs=>match name with
 |113=>or2 (λa b=>frV (jN a.v b.v)) vs
 |114=>or2 (λa b=>DZ a.neg (val a.num) (val a.den) b.neg (val b.num) (val b.den)) vs
 |115=>match vs with
  |[.int .i64 n,.int .i64 d]=>if decide (eI n)&&decide (eI d)then some (YV n d)else none
  |_=>none
 |116=>or1 (λa=>frV (sM a)) vs
 |118=>or1 (λa=>.bool (dU (val a.num) (val a.den))) vs
 |120=>match vs with
  |[.bool neg,x,y]=>match zM x with
   |some a=>match zM y with
    |some b=>if decide (nl (val a)<=512)&&(decide (nl (val b)<=512)&&!awX (val b) 0)then some (JV neg (val a) (val b))else none
    |none=>none
   |none=>none
  |_=>none
 |121=>match vs with
  |[x,y]=>match zM x with
   |some a=>match zM y with
    |some b=>if decide (nl (val a)<=256)&&decide (nl (val b)<=256)then some (aN (aM (val a*val b)))else none
    |none=>none
   |none=>none
  |_=>none
 |128=>match vs with
  |[x]=>match zM x with
   |some a=>some (.int .i64 (dC (val a):Nat))
   |none=>none
  |_=>none
 |_=>none
section
variable {C:Ctx}
theorem Ui{name:Nat}{g:RF->PV}(h:∀x:RF,x.Ok->aH C name [.agg x.cells] .nil (aL (g x))){vs:V_}{v:PV}(e:or1 g vs=some v):aH C name vs .nil (aL v):=by
 unfold or1 at e;split at e;split at e;rename_i a i;cases e;have k:=w9 i;exact(h a k.ok).args (.cons (CoL.agg k.co) .nil);cases e;cases e
theorem Uj{name:Nat}{g:RF->RF->PV}(h:∀x y:RF,x.Ok->y.Ok->aH C name [.agg x.cells,.agg y.cells] .nil (aL (g x y))){vs:V_}{v:PV}(e:or2 g vs=some v):aH C name vs .nil (aL v):=by
 unfold or2 at e;split at e;split at e;rename_i a i;split at e;rename_i b l;cases e;have k:=w9 i;have k2:=w9 l;exact(h a b k.ok k2.ok).args (.cons (CoL.agg k.co) (.cons (CoL.agg k2.co) .nil));cases e;cases e;cases e
theorem Pu(L:DL C){name:Nat}{vs:V_}{v:PV}(e:zR name vs=some v):aH C name vs .nil (aL v):=by
 unfold zR at e;split at e;exact Uj L.plus e;exact Uj L.ord e;split at e;split at e;rename_i i;simp only[avE,dT_]at i;cases e;exact L.frac _ _ i.1 i.2;cases e;cases e;exact Ui L.red e;exact Ui (λx u=>L.valid x.neg x.num x.den u.1 u.2.1 u.2.2.1 u.2.2.2) e;split at e;split at e;rename_i a l;split at e;rename_i b w;split at e;rename_i i;simp only[avE,dT_,Bool.not_eq_true']at i;cases e;have k1:=uN l;have k2:=uN w;exact(L.lowest _ a b k1.lim k2.lim (avZ k1.len aU) (avZ k2.len aU) i.1 i.2.1 (λy=>by rw[y]at i;simp at i)).args (.cons (.refl _) (.cons k1.co (.cons k2.co .nil)));cases e;cases e;cases e;cases e;split at e;split at e;rename_i a l;split at e;rename_i b w;split at e;rename_i i;simp only[avE,dT_]at i;cases e;have k1:=uN l;have k2:=uN w;exact(L.times a b k1.lim k2.lim (avZ k1.len aU) (avZ k2.len aU) i.1 i.2).args (.cons k1.co (.cons k2.co .nil));cases e;cases e;cases e;cases e;split at e;split at e;rename_i a l;cases e;have k1:=uN l;exact(L.bits a k1.lim (avZ k1.len aU)).args (.cons k1.co .nil);cases e;cases e;cases e
theorem agT(L:DL C):ll C zR:=λ_ _ _ e=>(Pu L e).p7 λ_ _ h=>h.1
theorem aH.bare{name:Nat}{vs:V_}{H:PH}{v:PV}(h:aH C name vs H (λy _=>y=v)):aH C name vs H (aL v):=by
 refine⟨h.1,λE w A x hW e=>(h.2 E w A x hW e).mono λB F he=>?_⟩;obtain⟨u,pv,i,H',g1,g2,g3,g4,l⟩:=he;exact⟨u,pv,i,.nil,g1,g2.weaken a_,g3,g4.drop a_,l,rfl⟩
end
abbrev OrL:=List (Nat × V_ × PV)
def Pt:OrL->Orc
 |[],_,_=>none
 |e::t,name,vs=>cond (awX e.1 name&&PV.GP vs e.2.1) (some e.2.2) (Pt t name vs)
def sY(o:Orc)(L:OrL):Orc:=λname vs=>match o name vs with
 |some v=>some v
 |none=>Pt L name vs
structure oI(C:Ctx)(L:OrL):Prop where
 go:∀e∈L,aH C e.1 e.2.1 .nil (aL e.2.2)
section
variable {C:Ctx}
theorem oI.nil:oI C []:=⟨λe h=>by cases h⟩
theorem oI.cons{L:OrL}(h:oI C L){n:Nat}{vs:V_}{v:PV}(i:aH C n vs .nil (aL v)):oI C ((n,vs,v)::L):=by
 refine⟨λe he=>?_⟩;rcases avL.1 he with rfl|he
 exact i;exact h.go e he
theorem Lw:∀{L:OrL},oI C L->∀{name:Nat}{vs:V_}{v:PV},Pt L name vs=some v->aH C name vs .nil (aL v)
 |[],_,_,_,_,e=>by cases e
 |(n,l,w)::t,h,name,vs,v,e=>by
  simp only[Pt]at e;cases i:(awX n name&&PV.GP vs l)with
  |true =>rw[i]at e;simp only[avE]at i;cases e;have:=h.go _ (List.mem_cons_self ..);rw[<-Nat.eq_of_beq_eq_true i.1,PV.AJ _ _ i.2];exact this
  |false =>rw[i]at e;exact Lw ⟨λe he=>h.go e (ayT _ he)⟩ e
theorem Uk(L0:DL C){L:OrL}(h:oI C L):ll C (sY zR L):=by
 intro name vs v e;unfold sY at e;split at e;rename_i w i;cases e;exact agT L0 name vs _ i;exact(Lw h e).p7 λ_ _ h=>h.1
theorem qK(L0:DL C){L:OrL}(h:oI C L){tab:Nat->Option lH}{fz:Nat->Bool}(i:∀k pf,tab k=some pf->l9 C k pf)(m n:Nat){name:Nat}{vs:V_}{v:PV}(e:vI (tQ tab (sY zR L) fz tR m n) name vs=some v):aH C name vs .nil (aL v):=
 aH.bare (Qg (Uk L0 h) i m n e)
noncomputable def Cm:OrL:=[(27,[.aJ,.int .i64 1,.int .i64 0],.agg Qr.cells),(96,[.agg fD.cells],.int .i64 0),(230,[.agg fD.cells,tU 5 1],.tup [lay [[0]],.int .i64 0])]
theorem abE(w:∀(l:N_),(∀x∈l,x<256)->Z' l<=9223372036854775807->∀atH atJ:Nat,atH<=60->atJ<=50 ->
   aH C 27 [.sl 1 (kG l),.j atH,.j atJ] .nil (aL (.agg (jJ (l.take 400) atH atJ 0).1.cells)))
  (u:∀f:aD,f.Ok->aH C 96 [.agg f.cells] .nil (aL (.j (BA f))))
  (i:∀(f:aD)(lv e:Int),f.Ok->aH C 230 [.agg f.cells,tU lv e] .nil (aL (.tup [lay (mZ f lv e),.j (gD f lv e)]))):oI C Cm:=by
 have h:=i fD 5 1 Il;rw[s7.1,s7.2]at h;have y:=u fD Il;rw[V3]at y;have A:aH C 27 [.sl 1 (kG []),.j (1:Nat),.j (0:Nat)] .nil (aL (.agg Qr.cells)):=w [] (λx B=>by cases B) aU 1 0 aU aU;exact((oI.nil.cons h).cons y).cons (A.args (.No (.nil 1) (.No (.refl _) (.No (.refl _) .arN))))
theorem V4(u:TJ C)(B:∃e i,YD C 229 (Bq e i))(A:aH C 201 [.agg fD.cells,.agg (mR fD 0).cells,ints [0]] .nil (aL (.bool true))):aH C 229 [.agg fD.cells,.agg (mR fD 0).cells] .nil (aL (lay [[0]])):=by
 obtain⟨e,i,r⟩:=B;obtain⟨w,x,h5,y,h7⟩:=V2;obtain⟨s1,s2,s3⟩:=Qs;have:=(r.go (Xs u e i fD w (mR fD 0) (λset _ l=>by rw[s2,awL]at l;subst l;rw[s3];exact A) x h5 y h7) rfl).seen
 rwa[s1]at this
end
structure NF(C:Ctx):Prop where
 r0:bO C 0 eK
 r1:bO C 1 B8
 r2:bO C 2 kZ
 r3:bO C 3 iA
 r4:bO C 4 EN
 r5:bO C 5 O7
 r6:bO C 6 Ca
 r7:bO C 7 mW
 r27:bO C 27 pw
 r28:bO C 28 ia
 r29:bO C 29 B9
 r30:bO C 30 Qu
 r31:bO C 31 Cn
 r32:bO C 32 Qv
 r33:bO C 33 udiv
 r34:bO C 34 Qz
 r35:bO C 35 Cp
 r36:bO C 36 Q2
 r37:bO C 37 Q5
 r38:bO C 38 JN
 r39:bO C 39 eM
 r40:bO C 40 sP
 r41:bO C 41 tg
 r42:bO C 42 lZ
 r43:bO C 43 qM
 r44:bO C 44 nK
 r45:bO C 45 uup
 r46:bO C 46 Iw
 r47:bO C 47 Ra
 r48:bO C 48 tu
 r49:bO C 49 Cw
 r50:bO C 50 tw
 r51:bO C 51 tz
 r52:bO C 52 ZR
 r53:bO C 53 Cy
 r54:bO C 54 Cz
 r55:bO C 55 BC
 r56:bO C 56 ud
 r57:bO C 57 Cv
 r58:bO C 58 pW
 r59:bO C 59 C0
 r60:bO C 60 uc
 r61:bO C 61 IZ
 r62:bO C 62 ZT
 r63:bO C 63 ug
 r64:bO C 64 ZS
 r65:bO C 65 ZU
 r66:bO C 66 Ro
 r67:bO C 67 dO
 r68:bO C 68 jU
 r69:bO C 69 Rm
 r70:bO C 70 uk
 r71:bO C 71 ul
 r72:bO C 72 SO
 r73:bO C 73 um
 r74:bO C 74 uo
 r75:bO C 75 ZV
 r76:bO C 76 NE
 r77:bO C 77 RD
 r80:bO C 80 uV
 r81:bO C 81 ZI
 r82:bO C 82 Ck
 r83:bO C 83 sg
 r84:bO C 84 oG
 r85:bO C 85 rA
 r87:bO C 87 nP
 r88:bO C 88 sa
 r89:bO C 89 Qi
 r90:bO C 90 iQ
 r95:bO C 95 uL
 r96:bO C 96 gJ
 r97:bO C 97 oa
 r98:bO C 98 Bv
 r99:bO C 99 Bw
 r100:bO C 100 Bx
 r101:bO C 101 gone
 r102:bO C 102 oK
 r103:bO C 103 oi
 r104:bO C 104 gin
 r105:bO C 105 N8
 r106:bO C 106 N9
 r107:bO C 107 By
 r108:bO C 108 Bz
 r109:bO C 109 oq
 r110:bO C 110 B0
 r111:bO C 111 Ep
 r112:bO C 112 Oa
 r113:bO C 113 fc
 r114:bO C 114 xL
 r115:bO C 115 ni
 r116:bO C 116 MJ
 r117:bO C 117 vf
 r118:bO C 118 n6
 r119:bO C 119 Nw
 r120:bO C 120 mQ
 r121:bO C 121 n0
 r122:bO C 122 Bu
 r123:bO C 123 pt
 r124:bO C 124 UY
 r125:bO C 125 VA
 r126:bO C 126 MM
 r127:bO C 127 pP
 r128:bO C 128 Cb
 r129:bO C 129 Pb
 r130:bO C 130 Pd
 r131:bO C 131 Pi
 r132:bO C 132 Cc
 r133:bO C 133 pQ
 r134:bO C 134 qT
 r135:bO C 135 Cd
 r136:bO C 136 eU
 r137:bO C 137 qe
 r138:bO C 138 FZ
 r139:bO C 139 QF
 r140:bO C 140 qg
 r141:bO C 141 qh
 r142:bO C 142 IT
 r143:bO C 143 nup
 r150:bO C 150 sy
 r152:bO C 152 JG
 r154:bO C 154 kF
 r156:bO C 156 Cl
 r157:bO C 157 oH
 r158:bO C 158 fQ
 r159:bO C 159 tc
 r160:bO C 160 NA
 r161:bO C 161 s9
 r206:bO C 206 gL
 r207:bO C 207 YG
 r210:bO C 210 Br
 r211:bO C 211 kM
 r215:bO C 215 MT
 r217:bO C 217 r9
 r218:bO C 218 P7
 r219:bO C 219 gG
 r220:bO C 220 Cg
 r299:bO C 299 qp
 r300:bO C 300 qq
 r302:bO C 302 qn
 r303:bO C 303 HJ
 r304:bO C 304 qx
 r305:bO C 305 P0
 r306:bO C 306 qz
 r307:bO C 307 iY
 r308:bO C 308 rN
 r309:bO C 309 qy
 r365:bO C 365 B6
 r367:bO C 367 mV
 r368:bO C 368 YU
 r375:bO C 375 mo
 r376:bO C 376 ri
 r377:bO C 377 Ch
 r229:∃asg bdy,YD C 229 (Bq asg bdy)
 r230:∃asg bdy,YD C 230 (Np asg bdy)
namespace L
variable {C:Ctx} (c:NF C)
include c
theorem vP:wZ C:=
 have len:∀xs,Lim xs->Z' xs<=35184372087808->aH C 138 [aN xs] .nil (aL (.j (nl (val xs):Nat))):=λxs h l=>c.r138.go (Pl xs h l) rfl
 {length:=len
  large:=λxs h l=>c.r137.go (T6 xs (len xs h l)) rfl
  sized:=λxs h l=>(c.r141.go (T9 xs h (len xs h l)) rfl).seen
  trim:=λxs h l=>(c.r135.go (Zt xs h l (len xs h l)) rfl).seen
  make:=λv h=>c.r132.go (Zq v h len) rfl
  cmp:=λxs ys e i u w=>c.r129.go (agH xs ys e i u w (len xs e u) (len ys i w)) rfl }
theorem agF:Bm C:=
 {subtract:=λA W Z v f o hW u l i w e=>c.r142.go (Gs A W Z v f hW u l i w e o) rfl
  restore:=λA W Z v o hW u l i=>c.r139.go (Ju A W Z v hW u l i o) rfl }
theorem O9:Da C:=
 {L:=vP c
  D:=agF c
  up:=λa s i x e=>c.r143.go (akL a s i x e) rfl
  short:=λa d i l u e=>c.r140.go (T8 (vP c) a d i l u e) rfl
  lengthO:=λxs o y w=>c.r138.go (Jt xs y w o) rfl }
theorem p9(A B:Nat)(hB:B≠0)(i:nl A<=900)(e:nl B<=900):aH C 136 [aN (aM A),aN (aM B)] .nil (aL (wG A B)):=
 (c.r136.go (Pg (O9 c) A B hB i e) rfl).seen
theorem xQ:yX C:=
 {vP c with
  bits:=λxs h l=>c.r128.go (Zn xs h l ((vP c).length xs h l)) rfl
  add:=λxs ys e i u w=>(c.r127.go (agG (vP c) xs ys e i u w) rfl).seen
  sub:=λxs ys e i u w=>(c.r134.go (agO (vP c) xs ys e i u w) rfl).seen
  mul:=λxs ys e i u w=>(c.r133.go (agN (vP c) xs ys e i u w) rfl).seen
  gcd:=λxs ys e i u w=>(c.r131.go (agM (vP c) (p9 c) xs ys e i u w) rfl).seen
  div:=λxs ys e i u w=>(c.r130.go (agI (vP c) (p9 c) xs ys e i u w) rfl).seen }
theorem FQ:NH C:=
 {xQ c with
  times:=λa b e hb i l u w=>c.r121.go (S7 (xQ c) a b e hb i l u w) rfl
  zero:=λneg a b e i=>c.r122.go (X9 (xQ c) neg a b e i) rfl
  valid:=λneg a b e hb i l=>c.r118.go (S8 (xQ c) neg a b e hb i l) rfl
  abs:=λv y A=>c.r119.go (aeM (xQ c) v y A) rfl
  lowest:=λneg a b e hb i l u w x=>(c.r120.go (N2 (xQ c) neg a b e hb i l u w x) rfl).seen }
theorem Em(x y:RF)(e:x.Ok)(i:y.Ok):aH C 113 [.agg x.cells,.agg y.cells] .nil (aL (frV (jN x.v y.v))):=
 (c.r113.go (aeN (FQ c) x.neg y.neg x.num x.den y.num y.den e.1 e.2.1 i.1 i.2.1 e.2.2.1 e.2.2.2 i.2.2.1 i.2.2.2) rfl).seen
theorem YO:DL C:=
 {FQ c with
  frac:=λn d A u=>(c.r115.go (X8 (FQ c) n d A.1 A.2 u.1 u.2) rfl).seen
  red:=λx e=>by rw[<-P5];exact(c.r116.go (N3 (FQ c) x.neg x.num x.den e.1 e.2.1 e.2.2.1 e.2.2.2) rfl).seen
  ord:=λx y e i=>(c.r114.go (aeO (FQ c) x.neg y.neg x.num x.den y.num y.den e.1 e.2.1 i.1 i.2.1 e.2.2.1 e.2.2.2 i.2.2.1 i.2.2.2) rfl).seen
  plus:=Em c
  tot:=λl w=>(c.r117.go (aeU (FQ c) (Em c) l w.all w.fits) rfl).seen }
theorem FP:yR C:=
 have inn:∀n lo hi:Int,aH C 104 [.j n,.j lo,.j hi] .nil (aL (.bool (within n lo hi))):=λn lo hi=>(c.r104.go (ajZ n lo hi) rfl).seen;have rZ:∀x:RF,x.Ok->aH C 97 [.agg x.cells] .nil (aL (.bool (bW x))):=λx u=>(c.r97.go (S9 (xQ c) x u) rfl).seen;have lim:∀x:RF,x.Ok->aH C 105 [.agg x.cells] .nil (aL (.bool (dS x))):=λx u=>(c.r105.go (afA (YO c) x u) rfl).seen;have e:∀n:Nat,aH C 126 [.int .u8 n] .nil (aL (.bool (gP n))):=λn=>c.r126.go (Oy n) rfl;have i:∀n:Nat,aH C 124 [.int .u8 n] .nil (aL (.bool (qA n))):=λn=>c.r124.go (Tl n) rfl
 {YO c with
  inn:=inn
  rZ:=rZ
  lim:=lim
  one:=λx u=>(c.r101.go (afC (YO c) x u) rfl).seen
  allf:=λp fn l w h=>(c.r99.go (Yb p fn l w h) rfl).seen
  alli:=λp fn l w h=>(c.r100.go (Yc p fn l w h) rfl).seen
  allb:=λp fn l w h=>(c.r98.go (Ya p fn l w h) rfl).seen
  ends1:=λb=>(c.r103.go (Ta b) rfl).seen
  num1:=λn=>(c.r107.go (Yf inn n) rfl).seen
  rate1:=λx u=>(c.r109.go (Tc lim rZ x u) rfl).seen
  name:=λs=>c.r123.go (Y3 e (λn=>c.r125.go (Tr e i n) rfl) s) rfl }
theorem Ei:C5 C:=
 {FP c with
  num:=λp hp=>(c.r106.go (afB (FP c) p hp) rfl).seen
  rate:=λp hp=>(c.r108.go (Yg (FP c) p hp) rfl).seen
  uniq:=λl e=>(c.r110.go (Yk (FP c) l e) rfl).seen }
theorem Ej:k7 C:=
 {Ei c with
  ends:=λl e he=>(c.r102.go (Ye (FP c) l e he) rfl).seen }
theorem X7:oC C:=
 {Ej c with
  law:=λl i=>(c.r95.go (aeZ (Ej c) l i) rfl).seen
  pol:=λp n hp u=>(c.r112.go (afD (Ei c) p hp n u) rfl).seen
  atT:=λf e=>(c.r111.go (aeY (FP c) f e) rfl).seen }
theorem UO(f:aD)(e:f.Ok):aH C 96 [.agg f.cells] .nil (aL (.j (BA f))):=(c.r96.go (afG (X7 c) f e) rfl).seen
theorem Mk:M2 C:=
 {valid:=λf e=>(c.r161.go (V9 (UO c) f e) rfl).seen
  fh:=λf v i h=>(c.r156.go (abD f i v h) rfl).seen }
theorem Im:Dg C:=
 {Mk c with
  room:=λf room i=>(c.r152.go (abJ (Mk c) f i room) rfl).freeze
  loads:=λf l e u=>(c.r157.go (V5 f e l u) rfl).seen }
theorem abF:Rz C:=
 {Im c with
  shape:=λf l v hV i u e=>(c.r160.go (V8 (Im c) f hV l i v u e) rfl).seen }
theorem In:LQ C:=
 {abF c with
  bad:=λo5 v k w=>c.r159.go (Wa o5 v k w) rfl }
theorem Io:Dh C:=
 {In c with
  row:=λf l v hV e w i u=>(c.r158.go (abM (In c) f hV e l v w i u) rfl).seen }
theorem ahY:acV C:=
 {Io c with
  viol:=λf l room e i=>(c.r154.go (abL (Io c) f e l i room) rfl).seen }
theorem tJ:vF C:={ trimM:=λxs h l=>c.r38.go (acA xs h l) rfl }
theorem Hd:Db C:=
 {tJ c with
  make:=λv h=>(c.r35.go (abS (tJ c) v h) rfl).seen
  large:=λxs h l=>(c.r41.go (Wd (tJ c) xs h l) rfl).seen
  cmp:=λxs ys e i u w=>c.r32.go (aiA (tJ c) xs ys e i u w) rfl }
theorem Hf:Dd C:=
 {Hd c with
  minus:=λa b i hb l w e=>(c.r42.go (We (tJ c) a b i hb l w e) rfl).seen
  times:=λa b i hb e u=>(c.r44.go (Wh (tJ c) a b i hb e u) rfl).seen }
theorem jp:l7 C:=
 {Hf c with
  plus:=λa b l hb e i=>(c.r43.go (abY (tJ c) a b l hb e i) rfl).seen }
theorem aaB:TO C:=
 {jp c with
  bits:=λxs h l=>c.r31.go (abO (tJ c) xs h l) rfl
  upM:=λa n i e u w=>c.r45.go (alM (tJ c) a n i e u w) rfl
  down:=λa n i e u=>(c.r40.go (abR (tJ c) a n i e u) rfl).seen }
theorem jo:lz C:=
 {Hd c with
  divide:=λA B hB i e=>(c.r39.go (Qy (aaB c) A B hB i e) rfl).seen }
theorem He:Dc C:=
 {jo c with
  gcd:=λa b e hb i l=>(c.r34.go (aiC (jo c) a b e hb i l) rfl).seen
  div:=λa b e hb i l=>(c.r33.go (aiB (jo c) a b e hb i l) rfl).seen }
theorem L8:M0 C:=
 {He c with
  lowest:=λneg a b l hb u w x y i=>(c.r58.go (Rc (He c) neg a b l hb u w x y i) rfl).seen
  size:=λv e=>c.r59.go (acK v e.1 e.2) rfl }
theorem QS:l6 C:=
 {L8 c with
  fmk:=λn d i e=>(c.r50.go (acH (L8 c) n d i e) rfl).seen }
theorem AQ(hi:GH C):yV C:=
 {QS c with
  int:=λn e=>(c.r47.go (Mn (QS c) n e) rfl).seen
  itoa:=hi
  next:=λl v T o n a e i=>c.r4.go (Zk T o n a e i) rfl }
theorem Gb(hi:GH C):C8 C:=
 {AQ c hi with
  frac:=λl v T o a e=>c.r1.go (Zb (AQ c hi) T o a e) rfl }
theorem Gc(hi:GH C):yW C:=
 {Gb c hi with
  rep:=λl v T o a m i e=>c.r5.go (agE (Gb c hi) T o a m i e) rfl
  name:=λs n w u=>c.r29.go (Zj (AQ c hi) s n w u) rfl }
theorem Gd(hi:GH C):rC C:=
 {Gc c hi with
  law:=λl v T o eN a u e i=>c.r2.go (afZ (Gc c hi) T o eN a u e i) rfl }
theorem Ge(hi:GH C):C9 C:=
 {Gd c hi with
  grow:=λl v T mc atH e i u=>Ew (Gd c hi) T mc atH e i u (λargs H R w h=>c.r7 args H R (by rw[w];decide) h) 4 (avD _) }
theorem gj(hi:GH C):Ru C:=
 {Ge c hi with
  new:=λl hb w=>c.r28.go (agC l hb w) rfl
  fleet:=λl v T o atH atJ a e i u=>TL.exact (c.r0.go (Tz (Ge c hi) T o atH atJ a e i u) rfl) }
theorem wu:Bn C:=
 {QS c with
  int:=λn u=>(c.r47.go (Mn (QS c) n u) rfl).seen
  mul:=λa b e hb i l=>(c.r36.go (aiD (Hf c) a b e hb i l) rfl).seen
  add:=λa b e hb i l=>(c.r30.go (ahZ (jp c) a b e hb i l) rfl).seen
  sub:=λa b e hb i l=>(c.r37.go (aiG (jp c) a b e hb i l) rfl).seen }
theorem jr:l8 C:=
 {wu c with
  valid:=λx e=>c.r56.go (Wo (wu c) x.neg x.num x.den e.1 e.2.1 e.2.2.1 e.2.2.2) rfl
  big:=λx=>c.r48.go (Wl x.1 (aM x.2.1) (aM x.2.2)) rfl }
theorem Hg:De C:=
 {jr c with
  fits:=λx=>(c.r57.go (acD (jr c) x) rfl).seen
  red:=λx i=>(c.r52.go (Re (jr c) x i) rfl).seen
  prod:=λa b e hb l u w y=>c.r60.go (Wn (wu c) a b e hb l u w y) rfl }
theorem HQ:GL C:=
 {Hg c with
  order:=λx y e i l u=>c.r51.go (Wm (Hg c) x y e i l u) rfl }
theorem L9:M1 C:=
 {HQ c with
  less:=λx y e i l u=>c.r49.go (acG (HQ c) x y e i l u) rfl
  same:=λx y e i l u=>c.r53.go (acI (HQ c) x y e i l u) rfl
  sign:=λx e l=>c.r54.go (acJ (HQ c) x e l) rfl
  plus:=λx y e i=>(c.r46.go (aiH (HQ c) x y e i) rfl).seen }
theorem jn:lm C:=
 {L9 c with
  sum:=λl i e=>(c.r55.go (aiK (L9 c) l i e) rfl).seen
  inn:=λn lo hi=>c.r76.go (Rq n lo hi) rfl
  code:=λk m=>c.r61.go (aaT k m) rfl }
theorem zn:ut C:=
 {jn c with
  small:=λx e=>c.r74.go (W0 (jn c) x e) rfl
  nums:=λk m q s0 s1 s2 s3 s4=>c.r72.go (Kh (jn c) k m q s0 s1 s2 s3 s4) rfl
  sizes:=λi l u w y A=>c.r73.go (Wz i l u w y A) rfl }
theorem zo:uu C:=
 {zn c with
  smalls:=λl e n=>c.r75.go (Rp (zn c) l e n) rfl }
theorem zp:uv C:=
 {zo c with
  reps:=λl e m=>c.r66.go (aiS (zo c) l e m) rfl }
theorem zq:uw C:=
 have e:∀n:Nat,aH C 65 [.int .u8 n] .nil (aL (.bool (gP n))):=λn=>c.r65.go (Ri n) rfl;have i:∀n:Nat,aH C 63 [.int .u8 n] .nil (aL (.bool (qA n))):=λn=>c.r63.go (Wp n) rfl
 {zp c with
  name:=λs=>c.r62.go (Rh e (λn=>c.r64.go (Rf e i n) rfl) s) rfl
  index:=λl u s=>c.r71.go (Wx l u s) rfl }
theorem zr:vE C:=
 {zq c with
  fresh:=λl i s w H e=>c.r70.go (Ww (zq c) l i s w H e) rfl }
theorem U2:yA C:=
 {zr c with
  law:=λl e=>c.r68.go (aiR (zr c) l e) rfl }
theorem zt:ux C:=
 {U2 c with
  dur:=λm rep i t h l e=>c.r69.go (aiQ (zp c) m rep i t h l e) rfl }
theorem uT:TN C:=
 {valid:=λf w=>c.r67.go (A5 (zt c) f w) rfl
  rZ:=λf d level e u i l=>c.r88.go (Ab f e d u level i l) rfl
  fh:=λf v e h=>(c.r82.go (Hy f e v h) rfl).seen }
theorem U3:Km C:=
 {uT c with
  bad:=λf row e=>c.r89.go (ahL f row e) rfl }
theorem U4:YC C:=
 {U3 c with
  allowed:=λf p d hV hp e=>c.r77.go (cq f hV p hp d e) rfl
  count:=λf row n hV l i=>c.r80.go (Vl (uT c).toln f hV row l n i) rfl }
theorem zu:uy C:=
 {uT c with
  room:=λf room i=>(c.r85.go (Ic (uT c) f i room) rfl).seen
  loads:=λf l i x=>(c.r84.go (Vx (uT c) f i l x) rfl).seen
  row:=λf v row hV e w u=>(c.r90.go (ahU (U4 c) f hV e v w row u) rfl).seen }
theorem aaA:Rw C:=
 {zu c with
  viol:=λf l room e i=>(c.r87.go (abB (zu c) f e l i room) rfl).seen }
theorem K5:TJ C:=
 {subs:=λn top=>c.r210.go (Xu n top) rfl
  iter:=λl o1 o2 n top J B i u y A x E H w e b1 b2 g1 g2=>c.r211.go (Xi J B i u y A x w e b1 b2 g1 g2) rfl }
theorem aeV:Rs C:=
 {K5 c with
  val:=UO c
  units:=λf lv hV e h5=>(c.r206.go (Sg f hV lv e h5) rfl).seen
  choose:=λm n i l=>c.r207.go (Nk m n i l) rfl }
theorem I6(f:aD)(e:f.Ok):aH C 67 [.agg f.cells] .nil (aL (.bool (cM f))):=c.r67.go (A5 (zt c) f e) rfl
theorem alR:ln C:=
 {valid:=I6 c
  rZ:=λf d level u l e i=>c.r88.go (Ab f u d l level e i) rfl }
theorem A0:∀k a n:Nat,k<=10->a<=1000->n<=40->aH C 215 [.j a,.j n,.j k] .nil (aL (lay (nI (dK n k a))))
 |0,a,n,u,l,i=>(c.r215.go (re 0 a n u l i λ_ _ _ h=>by cases h) rfl).seen
 |k+1,a,n,u,l,i=>(c.r215.go (re (k+1) a n u l i λw x h e=>by cases e;exact A0 k w n Om h i) rfl).seen
theorem xk:k6 C:=
 {valid:=I6 c
  choose:=A0 c
  atH:=λf dom e=>(c.r81.go (Qj (alR c) f e dom) rfl).seen
  has:=λl x h=>c.r218.go (ahJ l h x) rfl }
theorem aiP:TK C:=
 { xk c with units:=λf lv i l e h5=>(c.r217.go (Vk (xk c) f i l lv e h5) rfl).seen }
theorem K7(f:aD)(lv e:Int)(u:f.Ok):aH C 230 [.agg f.cells,tU lv e] .nil (aL (.tup [lay (mZ f lv e),.j (gD f lv e)])):=by
 obtain⟨i,l,r⟩:=c.r230;exact(r.go (Xq (aeV c) i l f u lv e) rfl).seen
theorem Hc:GK C:=
 {node:=λf l e v i w hi=>c.r304.go (Z9 f l e v i w hi) rfl
  drv:=λf l d e=>c.r305.go (ahB f l d e) rfl
  total:=λf hV=>c.r306.go (U1 (uT c).fh f hV) rfl
  qvalid:=(uT c).valid
  allowed:=λf p d hV hp e=>c.r77.go (cq f hV p hp d e) rfl
  qroom:=λf room u=>(c.r85.go (Ic (uT c) f u room) rfl).seen }
theorem ahA(f:aD)(room:I_)(e:f.Ok):aH C 307 [.agg f.cells,ints room] .nil (aL (wc f room)):=(c.r307.go (ahD (Hc c) f e room) rfl).aaX
theorem L7(n:dP)(e:lF n):aH C 299 [.agg n.cells] .nil (aL (.bool true)):=c.r299.go (Uo n e) rfl
theorem agZ:ajH C:=
 {Hc c with
  iY:=ahA c
  HJ:=λn e=>c.r303.go (Un (L7 c) (λn xs e l=>c.r300.go (Uq (L7 c) n e xs l) rfl) (λn fo xs e i=>by rw[<-i.len];exact c.r302.go (Um n e fo xs i) rfl) n e) rfl
  rN:=λf room xs hV i=>(c.r308.go (ahC (Hc c) f hV room xs i) rfl).aaX }
theorem anW(B:ma C):acS C:=
 {Hv:=K7 c
  holds:=λf l room A e=>(c.r150.go (V1 (ahY c) f A l e room) rfl).seen
  srt:=λrow i e=>c.r368.go (O0 B row i e) rfl
  loss:=λsc u w set x y m=>c.r367.go (Xj sc u w set x y m) rfl }
theorem adA:Mz C:=
 {gG:=λf lv e i=>(c.r219.go (aaO (aiP c) f i lv e) rfl).seen
  rholds:=λf l room i y=>c.r83.go (Vu (aaA c) f i l y room) rfl
  lost:=λsc set m u w x=>c.r220.go (aaD (xk c) sc u w set x m) rfl }
theorem ajY:Rt C:={ adA c with sum:=λf i sc L e k1 k2=>c.r377.go (aaE (adA c) f i sc L e k1 k2) rfl }
theorem aeX(hi:GH C):Rr C:=
 {new:=(gj c hi).new
  tfleet:=(gj c hi).fleet
  JG:=λl v T o a f i e=>exactly (c.r6.go (Zl (AQ c hi) T o a f i e) rfl)
  next:=λl v T o n a u e=>(AQ c hi).next l v T o n a u e }
theorem K6(hi:GH C):oI C Cm:=abE (λl hb u atH atJ e i=>(c.r27.go (Tx (gj c hi) l hb u atH atJ e i) rfl).seen) (UO c) (K7 c)
theorem aeW(e:aH C 201 [.agg fD.cells,.agg (mR fD 0).cells,ints [0]] .nil (aL (.bool true))):aH C 229 [.agg fD.cells,.agg (mR fD 0).cells] .nil (aL (lay [[0]])):=V4 (K5 c) c.r229 e
theorem vL:DL C:=YO c
theorem ajX(hi:GH C)(B:ma C)(y:aH C 362 [] .nil (aL (.bool true))):acR C:=
 {read:=λl hb w=>c.r375.go (Xo (aeX c hi) l hb w 8 4 aU aU) rfl
  next:=λl v T o n a A x=>(AQ c hi).next l v T o n a A x
  tlayout:=λl v T o a f hV x=>exactly (c.r3.go (O6 (AQ c hi) T o a f hV (λi h=>(c.r82.go (Hy f hV i h) rfl).seen) x) rfl)
  place:=λf room u E=>(c.r309.go (P2 (agZ c) f u E room) rfl).akP
  cost:=λf lv e l u w=>c.r365.go (Yy (anW c B) f u lv e l w) rfl
  rcost:=λf lv e l u w=>c.r376.go (U9 (ajY c) f u lv e l w) rfl
  YE:=y }
end L
theorem Tg(c:NF C)(hi:GH C)(w:ma C)(i:aH C 362 [] .nil (aL (.bool true)))(r:bO C 374 jA)(l:N_)(hb:∀x∈l,x<256)(u:Z' l<=9223372036854775807)(e:L2_)(level count:Int) :
  aH C 374 [.sl 1 (kG l),lay e,.j level,.j count] .nil (aL (.bool true)):=r.go (Tt (L.ajX c hi w i) l hb u e level count) rfl
end Go.PM
