/-Lemmas for the law. No condition.-/
import Derived.Test.YtfeiflgckfjohabGreatDoorIR5

set_option linter.unusedSimpArgs false
set_option linter.unusedVariables false
open Nat renaming reduceEqDiff->γ,reduceAdd->δ,reduceSub->ε,reduceMul->ζ,reduceLT->η,reduceLeDiff->θ,reduceBEq->τ
open Int renaming reduceLT->ι,reduceLE->κ,reduceEq->μ,reduceToNat->ν,reduceAdd->ξ,reduceNeg->ο,reduceBEq->ρ,reduceBNe->σ
open List renaming reduceReplicate->υ
open List renaming length_map->apP,range->apQ,length_append->apV,getElem_mem->apW,replicate->apX,getD_eq_getElem?_getD->apY,getElem?_eq_getElem->apZ,getElem?_map->aqE,length_take->aqF,mem_cons->aqG,length_singleton->aqH,mem_map->aqJ,all_eq_true->aqM,mem_range->aqN,take_length->aqO,map_append->aqP,map_cons->aqQ,take_of_length_le->aqR,append_assoc->aqT,getElem?_eq_some_iff->aqU,length_cons->aqV,append_nil->aqY,mem_append->aqZ,mem_singleton->arA,take_succ_eq_append_getElem->arB,getElem?_eq_none->arC,length_set->arD,getElem_of_mem->arF,getElem_map->arI,map_nil->arL,length_drop->arM,map_congr_left->arQ,getElem?_append_right->arS,getElem?_range->arU,range_succ->arV,mem_of_getElem?->asC,getElem?_append_left->asE,Sublist->asF,length_nil->asG,drop_eq_getElem_cons->asI,ext_getElem->asJ,Perm->asM,drop_zero->asN,take_zero->asO,map_set->asP,mem_filter->asQ,map_map->asR,nodup_append->asS,set_cons_zero->asT,cons_append->asV,contains_iff_mem->asW,getElem?_set->asX,set_append_right->asY,countP_cons->atE,flatMap_cons->atH,getElem?_drop->atI,getElem?_take->atJ,mem_cons_of_mem->atK,nil_append->atL,all_append->atQ,all_cons->atS,length_range->atT,flatMap_append->atX,flatten_cons->atY,mem_cons_self->atZ,mem_of_mem_take->auA,mem_or_eq_of_mem_set->auB,eq_nil_of_length_eq_zero->auF,getElem_range->auG,length_filter_le->auH
open Nat renaming zero_le->apR,gcd->apS,le_refl->apU,zero_add->aqA,lt_or_ge->aqW,le_trans->aqX,add_zero->arG,mul_le_mul_right->arK,beq->arR,eq_zero_or_pos->arZ,sub_self->asA,min_eq_left->asK,succ_mul->asL,pos_of_ne_zero->atB,mul_le_mul->atU,div_eq_of_lt->auC
open Bool renaming and_eq_true->apT,not_true->aqC,false_and->aqD,not_false->aqI,true_and->aqL,and_false->arE,false_eq_true->arO,and_true->arY,and_assoc->atG
open Option renaming map_eq_some_iff->aqB,map_some->aqK,getD_some->arT,some->asB
open Int renaming toNat_natCast->arP
open List renaming length->Z'
set_option maxRecDepth 100000
set_option maxHeartbeats 800000
open Go.IntKind renaming i64->i_,u64->u_
open Go.PM.PF renaming nil->n_,args->g_
open Go.PM.PH renaming nil->h_
noncomputable section
namespace Go.Proofs.YtfeiflgckfjohabGreatDoor
open Go Go.PM
def roL:List (Nat × N_):=[(97,[1]),(101,[1]),(105,[1]),(113,[2,3]),(114,[2,3]),(115,[]),(116,[1]),(117,[]),(118,[1]),(119,[]),(120,[]),(121,[]),(122,[1]),(127,[]),(128,[]),(129,[]),(130,[]),(131,[]),(132,[9]),(133,[]),(134,[]),(135,[]),(136,[]),(137,[]),(138,[]),(139,[]),(140,[]),(141,[]),(142,[]),(143,[]),(150,[3]),(151,[2]),(152,[2]),(154,[3,28,44,74]),(156,[2]),(157,[2]),(158,[3,75,91,134,167]),(160,[3]),(161,[1]),(171,[]),(173,[]),(180,[]),(184,[]),(192,[]),(201,[3,4]),(203,[2]),(205,[2]),(208,[]),(231,[4,6]),(232,[1]),(278,[2,3]),(279,[]),(282,[2]),(283,[3]),(284,[2]),(285,[13]),(286,[2]),(287,[1]),(288,[2,89]),(291,[]),(292,[]),(294,[]),(295,[]),(296,[79]),(297,[]),(298,[1,48,67]),(328,[4]),(330,[4,5]),(333,[3,4,112,145,179]),(335,[]),(336,[]),(337,[1]),(338,[4]),(342,[3,4,37,53,119,142,144,167,191,206]),(343,[]),(344,[]),(345,[]),(346,[]),(348,[1]),(349,[2,3]),(351,[]),(352,[3,20,39]),(353,[3]),(354,[]),(355,[]),(356,[]),(358,[]),(359,[]),(360,[]),(362,[11,23,30,31]),(363,[3,4]),(364,[4,5]),(365,[3,4]),(366,[4,5,7]),(367,[]),(368,[]),(369,[2,62]),(372,[2,3]),(373,[])]
def afB:List (Nat × N_)->Nat->Option N_
 |[],_=>none
 |(n,l)::t,k=>if arR n k then some l else afB t k
noncomputable def tab(k:Nat):Option kT:=match afB roL k with
 |some l=>match Tryz.prog.funcs[num k]? with
  |some fn=>if fn.name=="runtime.NumGoroutine" then none else(T l).func fn
  |none=>none
 |none=>none
theorem tA(k:Nat)(pf:kT)(h:tab k=some pf):WL C k pf:=by
 unfold tab at h;split at h;rename_i l _;split at h;rename_i fn e;split at h;cases h;rename_i u;exact λargs H R i w=>tk (T:=T l) rfl rfl e (by simpa using u) h i w;cases h;cases h
noncomputable def chk{α:Type}(n:Nat)(vs:α->V_)(r:α->PV)(x:α):Bool:=isR (sC (rM tab (xQ []) (λ_=>true) qT 60 14) n (vs x)) (r x)
theorem jb{α:Type}{n:Nat}{vs:α->V_}{r:α->PV}{l:List α}(e:l.all (chk n vs r)=true):∀x∈l,aJ C n (vs x) .nil (aL (r x)):=Wk .nil (fz:=λ_=>true) tA 60 14 e
def agQ(p:Nat × Nat):V_:=[.agg (rfQ p).cells]
def su{α:Type}(_:α):PV:=.bool true
theorem adZ:∀p∈fsN,dO (rfQ p)=true:=by decide +kernel
theorem afP:∀p∈tgN,HB (rfQ p)=true:=by decide +kernel
theorem alS:(fsN.take 9).all (chk 105 agQ su)=true:=by kernel_rfl
theorem alT:((fsN.drop 9).take 9).all (chk 105 agQ su)=true:=by kernel_rfl
theorem alU:((fsN.drop 18).take 8).all (chk 105 agQ su)=true:=by kernel_rfl
theorem alV:(fsN.drop 26).all (chk 105 agQ su)=true:=by kernel_rfl
theorem alW:fsN.all (chk 105 agQ su)=true:=by
 rw[show fsN=fsN.take 9++((fsN.drop 9).take 9++((fsN.drop 18).take 8++fsN.drop 26))from rfl,atQ,atQ,atQ,alS,alT,alU,alV];rfl
theorem abv:fsN.all (chk 97 agQ λp=>.bool (bR (rfQ p)))=true:=by kernel_rfl
theorem amC:tgN.all (chk 101 agQ su)=true:=by kernel_rfl
theorem amU:(stN.take 4).all (chk 117 (λp=>[frs (p.map rfQ)]) λ_=>frV (.ok (false,1,1)))=true:=by kernel_rfl
theorem amV:((stN.drop 4).take 3).all (chk 117 (λp=>[frs (p.map rfQ)]) λ_=>frV (.ok (false,1,1)))=true:=by kernel_rfl
theorem amW:(stN.drop 7).all (chk 117 (λp=>[frs (p.map rfQ)]) λ_=>frV (.ok (false,1,1)))=true:=by kernel_rfl
theorem amX:stN.all (chk 117 (λp=>[frs (p.map rfQ)]) λ_=>frV (.ok (false,1,1)))=true:=by
 rw[show stN=stN.take 4++((stN.drop 4).take 3++stN.drop 7)from rfl,atQ,atQ,amU,amV,amW];rfl
theorem fz:Iz C:={
 yR:=λx h=>by obtain⟨p,hp,rfl⟩:=h;exact jb abv p hp
 lim:=λx h=>by obtain⟨p,hp,rfl⟩:=h;rw[adZ p hp];exact jb alW p hp
 one:=λx h=>by obtain⟨p,hp,rfl⟩:=h;rw[afP p hp];exact jb amC p hp
 tot:=λl h=>by obtain⟨p,hp,rfl⟩:=h;exact jb amX p hp
 frac:=lT .nil (fz:=λ_=>true) tA 60 14 (by kernel_rfl)
 ord:=lT .nil (fz:=λ_=>true) tA 60 14 (by kernel_rfl) }
end Go.Proofs.YtfeiflgckfjohabGreatDoor
namespace Go.PM
open Go Go.Na


def gE(set:I_):I_->I_->I_
 |[],_=>[]
 |d::t,fr=>if set.contains d then d::gE set t fr else match fr with
  |[]=>-1::gE set t []
  |x::fr=>x::gE set t fr
def wB(set:I_):I_->Nat->O_
 |[],_=>none
 |d::t,k=>if set.contains d then(wB set t k).map (·+1)else match k with
  |0=>some 0
  |k+1=>(wB set t k).map (·+1)
def lF(row set:I_):I_:=set.filter λs=>!row.contains s
theorem CA(set:I_):∀row fr:I_,(gE set row fr).length=Z' row
 |[],_=>rfl
 |d::t,fr=>by unfold gE;split;rw[aqV,aqV,CA];cases fr<;>simp only[aqV,CA]
theorem gf(set:I_):∀(row:I_)(k p:Nat),wB set row k=some p->p<Z' row
 |[],_,_,h=>by cases h
 |d::t,k,p,h=>by
  unfold wB at h;split at h;obtain⟨q,e,rfl⟩:=aqB.1 h;have:=gf set t k q e;rw[aqV];omega
  ·cases k with
   |zero=>injection h with h;subst h;exact Nat.zero_lt_succ _
   |succ k =>obtain⟨q,e,rfl⟩:=aqB.1 h;have:=gf set t k q e;rw[aqV];omega
theorem PZ(set:I_):∀(row:I_)(k p q:Nat),wB set row k=some p->wB set row (k+1)=some q->p<q
 |[],_,_,_,h,_=>by cases h
 |d::t,k,p,q,h,g=>by
  unfold wB at h g;split at h;rename_i c;rw[aE c]at g;obtain⟨i,e,rfl⟩:=aqB.1 h;obtain⟨l,g1,rfl⟩:=aqB.1 g;have:=PZ set t k i l e g1;omega
  ·rename_i c;rw[aC c]at g;simp only at g;obtain⟨l,g1,rfl⟩:=aqB.1 g;cases k with
   |zero=>injection h with h;omega
   |succ k =>obtain⟨i,e,rfl⟩:=aqB.1 h;have:=PZ set t k i l e g1;omega
theorem QA(set:I_):∀(row:I_)(k:Nat),k<(row.filter λd=>!set.contains d).length->∃p,wB set row k=some p
 |[],_,h=>absurd h (Nat.not_lt_zero _)
 |d::t,k,h=>by
  unfold wB;rw[List.filter_cons]at h;by_cases c:set.contains d=true;rw[aE c];rw[c]at h;obtain⟨p,e⟩:=QA set t k h;exact⟨p+1,by rw[e];rfl⟩
  ·rw[aC c];rw[show(!set.contains d)=true by simpa using c,aE rfl,aqV]at h;cases k with
   |zero=>exact⟨0,rfl⟩
   |succ k =>obtain⟨p,e⟩:=QA set t k Om;exact⟨p+1,by simp only;rw[e];rfl⟩
theorem TF(set:I_)(x:Int):∀(row fr:I_)(p:Nat),wB set row fr.length=some p ->
  gE set row (fr++[x])=(gE set row fr).set p x/\(gE set row fr)[p]?=some (-1)/\((∀y∈row,0<=y)->(∀y∈fr,0<=y)->∀(j:Nat) y,j<p->(gE set row fr)[j]?=some y->0<=y)
 |[],_,_,h=>by cases h
 |d::t,fr,p,h=>by
  unfold wB at h;unfold gE;by_cases c:set.contains d=true
  ·rw[aE c]at h ⊢;rw[aE c];obtain⟨q,w,rfl⟩:=aqB.1 h;obtain⟨B,D,E⟩:=TF set x t fr q w;refine⟨by rw[B];rfl,D,λu l j y A e=>?_⟩;cases j with
   |zero=>injection e with e;subst e;exact u _ atZ
   |succ j=>exact E (λz i=>u z (atK _ i)) l j y Om e
  ·rw[aC c]at h ⊢;rw[aC c];cases fr with
   |nil=>
    injection h with h
    subst h;exact⟨rfl,rfl,λ_ _ j y A=>absurd A (Nat.not_lt_zero _)⟩
   |cons f fr=>
    obtain⟨q,w,rfl⟩:=aqB.1 (show Option.map (·+1) (wB set t fr.length)=some p from h);obtain⟨B,D,E⟩:=TF set x t fr q w;refine⟨by simp only[asV];rw[B];rfl,D,λu l j y A e=>?_⟩;cases j with
    |zero=>injection e with e;subst e;exact l _ atZ
    |succ j=>exact E (λz i=>u z (atK _ i)) (λz i=>l z (atK _ i)) j y Om e
theorem XW(row set:I_):(row.filter λd=>!set.contains d).length+pW set row=Z' row:=by
 unfold pW
 induction row with
 |nil=>rfl
 |cons d t e =>rw[List.filter_cons,atE,aqV];cases set.contains d;simp only[aqI,if_true,aqV,arO,if_false];omega;simp only[aqC,arO,if_false,if_true];omega
theorem A3{row set:I_}(e:row.Nodup)(i:set.Nodup)(l:Z' set=Z' row):(lF row set).length=(row.filter λd=>!set.contains d).length:=by
 have u:=XW row set;have w:=XW set row;have x:=SK e i;unfold lF;omega
theorem NH(set:I_):∀(row fr:I_),(row.filter λd=>!set.contains d).length=Z' fr->(gE set row fr).Perm ((row.filter λd=>set.contains d)++fr)
 |[],fr,h=>by have:fr=[]:=auF h.symm;subst this;exact .nil
 |d::t,fr,h=>by
  unfold gE;rw[List.filter_cons]at h ⊢;by_cases c:set.contains d=true;rw[aE c,aE c];rw[show(!set.contains d)=false by rw[c];rfl]at h;exact .cons _ (NH set t fr h)
  ·rw[aC c,aC c];rw[show(!set.contains d)=true by simpa using c,aE rfl,aqV]at h;cases fr with
   |nil=>cases h
   |cons x fr =>refine(asM.cons x (NH set t fr (by simpa using h))).trans ?_;exact List.perm_middle.symm
theorem tt{row set:I_}(i:row.Nodup)(l:set.Nodup)(u:Z' set=Z' row):(gE set row (lF row set)).Perm set:=by
 refine(NH set row _ (A3 i l u).symm).trans ?_;have e:(row.filter λd=>set.contains d).Perm (set.filter λd=>row.contains d):=by refine(List.perm_ext_iff_of_nodup (i.filter _) (l.filter _)).2 λx=>?_;simp only[asQ,asW];exact and_comm
 refine(e.append_right _).trans ?_;unfold lF;exact List.filter_append_perm _ _
def qV(f:aB)(sc L:L2_)(v:Nat)(s:I_):Int:=((fF sc (L.getD v []) (bF f v).m:Nat):Int)-(fF sc s (bF f v).m:Nat)
def xH(f:aB)(R:I_)(L:L2_)(v:Nat)(s:I_):Bool:=s.all λd=>(L.getD v []).contains d||decide ((dG f L).getD d.toNat 0<R.getD d.toNat 0)
abbrev CW:=Option (Nat × I_)
def DQ(f:aB)(sc L:L2_):CW->Int
 |none=>0
 |some x=>qV f sc L x.1 x.2
def zZ(f:aB)(sc:L2_)(R:I_)(L:L2_)(v:Nat)(e:CW)(s:I_):CW:=
 if xH f R L v s&&decide (qV f sc L v s>DQ f sc L e)then some (v,s)else e
def l9(f:aB)(sc:L2_)(R:I_)(L:L2_)(e:CW)(v:Nat):CW:=(iX f (bF f v)).foldl (zZ f sc R L v) e
def kF(f:aB)(sc:L2_)(R:I_)(L:L2_):Nat->CW
 |0=>none
 |k+1=>l9 f sc R L (kF f sc R L k) k
def vP(L:L2_)(v:Nat)(s:I_):L2_:=L.set v (gE s (L.getD v []) (lF (L.getD v []) s))
def xM(f:aB)(sc:L2_)(R:I_):Nat->L2_->L2_
 |0,L=>L
 |n+1,L=>match kF f sc R L L.length with
  |none=>L
  |some x=>xM f sc R n (vP L x.1 x.2)
def oE(f:aB)(sc:L2_)(R:I_)(L:L2_):L2_:=xM f sc R (iH f sc L L.length+1) L
theorem UJ{f:aB}{sc:L2_}{R:I_}{L:L2_}{v:Nat}:∀(S:L2_) (i:CW),
  (∀x,i=some x->x.1<=v/\x.2∈iX f (bF f x.1)/\xH f R L x.1 x.2=true/\0<qV f sc L x.1 x.2)->(∀s∈S,s∈iX f (bF f v)) ->
  ∀x,S.foldl (zZ f sc R L v) i=some x->x.1<=v/\x.2∈iX f (bF f x.1)/\xH f R L x.1 x.2=true/\0<qV f sc L x.1 x.2
 |[],i,h,_,x,e=>h x e
 |s::S,i,h,u,x,e=>by
  refine UJ S (zZ f sc R L v i s) (λy l=>?_) (λt w=>u t (atK _ w)) x e;unfold zZ at l;split at l;rename_i c;rw[apT,dT_]at c;injection l with l
  subst l;refine⟨apU _,u s atZ,c.1,?_⟩;have A:0<=DQ f sc L i:=by
   cases i with
   |none=>exact Int.le_refl _
   |some y=>exact Int.le_of_lt (h y rfl).2.2.2
  have:=c.2;show 0<qV f sc L v s;omega;exact h y l
theorem rW{f:aB}{sc:L2_}{R:I_}{L:L2_}:∀(k:Nat)(x:Nat × I_),kF f sc R L k=some x ->
  x.1<k/\x.2∈iX f (bF f x.1)/\xH f R L x.1 x.2=true/\0<qV f sc L x.1 x.2
 |0,x,h=>by cases h
 |k+1,x,h=>by have e:=UJ (v:=k) (iX f (bF f k)) (kF f sc R L k) (λy l=>by obtain⟨a,b⟩:=rW k y l;exact⟨by omega,b⟩) (λs i=>i) x h;exact⟨by omega,e.2⟩
theorem gp{g h:Nat->Nat}{v:Nat}(i:∀k,k≠v->g k=h k):∀n,v<n->dC g n+h v=dC h n+g v
 |0,l=>absurd l (Nat.not_lt_zero _)
 |n+1,l=>by rw[dC,dC];by_cases e:v=n;subst e;have:dC g v=dC h v:=iU λk w=>i k Om;omega;have:=gp i n Om;have:=i n (λu=>e u.symm);omega
theorem GM(L:L2_)(v k:Nat)(r:I_)(i:v<Z' L):(L.set v r).getD k []=if k=v then r else L.getD k []:=by
 rw[apY,apY,asX];by_cases e:v=k;subst e;simp[i];rw[aC e,aC (λh=>e h.symm)]
theorem SQ(f:aB)(sc L:L2_):∀k,iH f sc L k=dC (λv=>fF sc (L.getD v []) (bF f v).m) k
 |0=>rfl
 |k+1=>by rw[iH,SQ f sc L k];rfl
theorem Tf(f:aB)(sc:L2_){L:L2_}{v:Nat}(e:v<Z' L)(r:I_) :
  iH f sc (L.set v r) L.length+fF sc (L.getD v []) (bF f v).m=iH f sc L L.length+fF sc r (bF f v).m:=by
 rw[SQ,SQ];have h:=gp (g:=λk=>fF sc ((L.set v r).getD k []) (bF f k).m) (h:=λk=>fF sc (L.getD k []) (bF f k).m) (v:=v) (λk i=>by rw[GM L v k r e,aC i]) L.length e;rw[GM L v v r e,aE rfl]at h;exact h
theorem XM{f:aB}{p:bY}(E:0<=mY p){s:I_}(h:s∈iX f p):(Z' s:Int)=mY p/\(∀x∈s,0<=x/\x<Z' f.aoC)/\s.Pairwise (· < ·)/\nY f p s=true:=by
 unfold iX at h;obtain⟨e,i⟩:=asQ.1 h;obtain⟨t,l,rfl⟩:=aqJ.1 e;obtain⟨A,B,D⟩:=HQ _ _ _ t l;refine⟨by rw[jM,A];omega,λx u=>?_,?_,i⟩;obtain⟨y,w,rfl⟩:=aqJ.1 u;have:=B y w;omega;exact List.pairwise_map.2 (D.imp λh=>by omega)
theorem d7{f:aB}(hV:VF f){v:Nat}(h:v<Z' f.aoE):mY (bF f v)=kW f v/\0<=mY (bF f v):=by
 obtain⟨hp,he⟩:=kB hV h;have e:=hV.aoP _ (apW hp);rw[he]at e;exact⟨rfl,by unfold mY;omega⟩
theorem zJ{f:aB}{L:L2_}{room:I_}(D:dQ f L room=true){v:Nat}{s:I_}(B:v<Z' L)(hs:s∈iX f (bF f v))(N:xH f (bM f room) L v s=true) :
  dQ f (vP L v s) room=true/\(vP L v s).length=Z' L/\(gE s (L.getD v []) (lF (L.getD v []) s)).Perm s:=by
 have u:=iY D;have hV:=VF.of u;have w:=oV D;have l:L.getD v []=L[v]:=by simp[apY,B]
 obtain⟨r1,r2,-,-⟩:=qB D B;have O:v<Z' f.aoE:=by have:=w.len;omega
 obtain⟨z1,z2⟩:=d7 hV O;obtain⟨q1,V,q3,J⟩:=XM z2 hs;have A:s.Nodup:=q3.imp λh=>Int.ne_of_lt h;have Y:=w.row v B;have hp:=tt (row:=L[v]) (set:=s) r1 A Om;rw[l];generalize Z:gE s L[v] (lF L[v] s)=r at hp;have α:Z' r=Z' s:=hp.length_eq;have e:vP L v s=L.set v r:=by unfold vP;rw[l,Z]
 rw[e];have M:yO f (L.set v r):=by
  refine⟨by rw[arD];exact w.len,λk y=>?_,λt ht x U=>?_⟩;rw[arD]at y;rw[List.getElem_set];split;rename_i K;subst K;omega;exact w.row k y;rcases auB ht with h|h
  exact w.home t h x U;subst h;have:=V x (hp.mem_iff.1 U);omega
 refine⟨(AZ u M room).2 ⟨λk y=>?_,λd E=>?_⟩,by rw[arD],hp⟩;rw[arD]at y;rw[List.getElem_set];split;rename_i K;subst K;unfold nY at J;rw[apT,aqM]at J;refine sx.2 ⟨λi hi=>?_,λd E=>?_,λi hi _=>?_,λi hi F=>?_⟩;have e2:r.getD i 0=r[i]:=by simp[apY,hi]
 rw[e2];exact(V _ (hp.mem_iff.1 (apW hi))).1;rw[hp.count_eq];exact List.nodup_iff_count.1 A _;have e2:r.getD i 0=r[i]:=by simp[apY,hi]
 rw[e2];exact J.1 _ (hp.mem_iff.1 (apW hi));have S:=(F7.1 J.2) i hi F;have e2:fN f r i=fN f s i:=by unfold fN;rw[hp.countP_eq]
 rw[e2];exact S;exact((AZ u w room).1 D).1 k y;have W:=((AZ u w room).1 D).2 d E;rw[count_flatten]at W ⊢;rw[arD];have R:=gp (g:=λk=>((L.set v r).getD k []).count (d:Int)) (h:=λk=>(L.getD k []).count (d:Int)) (v:=v) (λk y=>by rw[GM L v k r B,aC y]) L.length B;rw[GM L v v r B,aE rfl,l,hp.count_eq]at R;by_cases F:(d:Int)∈s;have S:s.count (d:Int)<=1:=List.nodup_iff_count.1 A _;unfold xH at N;rw[aqM]at N;have h4:=N _ F;rw[l,Bool.or_eq_true,dT_]at h4;rcases h4 with h4|h4
 have h5:0<L[v].count (d:Int):=List.count_pos_iff.2 (by simpa using h4);omega;have h5:(dG f L).getD d 0=(L.flatten.count (d:Int):Nat):=by simp[dG,fD,apY,E]
 have X:(bM f room).getD d 0=kJ f room d:=by simp[bM,apY,E]
 rw[arP,h5,X,count_flatten]at h4;omega;rw[List.count_eq_zero_of_not_mem F]at R;omega
theorem CJ{f:aB}{sc L:L2_}{v:Nat}{s:I_}(i:v<Z' L)(hp:(gE s (L.getD v []) (lF (L.getD v []) s)).Perm s)(e:0<qV f sc L v s):iH f sc (vP L v s) L.length<iH f sc L L.length:=by
 have h:=Tf f sc i (gE s (L.getD v []) (lF (L.getD v []) s));rw[IP hp]at h;unfold qV at e;unfold vP;omega
theorem Bj{f:aB}{sc:L2_}{room:I_}:∀(c:Nat){L:L2_},dQ f L room=true->iH f sc L L.length<=c->∀n m,c<n->c<m->xM f sc (bM f room) n L=xM f sc (bM f room) m L
 |c,L,e,A,0,m,l,i=>absurd l (Nat.not_lt_zero _)
 |c,L,e,A,n+1,0,l,i=>absurd i (Nat.not_lt_zero _)
 |c,L,e,A,n+1,m+1,l,i=>by
  rw[xM,xM];cases h:kF f sc (bM f room) L L.length with
  |none=>rfl
  |some x=>
   obtain⟨y,B,D,E⟩:=rW _ _ h;obtain⟨F,u,J⟩:=zJ e y B D;have w:=CJ y J E;rw[<-u]at w;cases c with
   |zero=>rw[u]at w;omega
   |succ c=>exact Bj c F (by rw[u]at w ⊢;omega) n m Om Om
theorem Uq{f:aB}{sc L:L2_}{room:I_}(w:dQ f L room=true){x:Nat × I_}(h:kF f sc (bM f room) L L.length=some x):oE f sc (bM f room) L=oE f sc (bM f room) (vP L x.1 x.2):=by
 obtain⟨e,i,l,u⟩:=rW _ _ h;obtain⟨y,A,B⟩:=zJ w e i l;have D:=CJ e B u;unfold oE;rw[xM,h];simp only;exact Bj _ y (apU _) _ _ (by rw[A];omega) Om
theorem Bk{f:aB}{sc L:L2_}{R:I_}(h:kF f sc R L L.length=none):oE f sc R L=L:=by
 unfold oE;rw[xM,h]
def OC:=bV [2,62] Proofs.Tryz.f26
def RR:=cF OC
def tN:=bV [] Proofs.Tryz.f29
def cu:aI:=(gW (aA tN 6) 28 2 (aA tN 10) (sq (aA tN 7) (sq (aA tN 8) (.cond (Tm 33) (.region (aA tN 9)) .skip))))
def uh:aI:=(sq (aA tN 0) (.seq (dF (aA tN 1) 0 (gW (aA tN 2) 17 0 (aA tN 13) (sq (aA tN 3) (sq (aA tN 4) (.seq (dF (aA tN 5) 2 cu) (sq (aA tN 11) (.cond (Tm 42) (sq (aA tN 12) .ret) .skip))))))) (sq (aA tN 14) .ret)))
def jS:=bV [] Proofs.Tryz.f30
def TR:aI:=(gW (aA jS 8) 31 2 (aA jS 12) (sq (aA jS 9) (sq (aA jS 10) (.cond (Tm 36) (.region (aA jS 11)) .skip))))
def IL:aI:=(.seq (sq (aA jS 19) (.cond (Tm 58) .skip (.exit 6))) (.block 7 (.region (aA jS 20))))
def ky:aI:=(sq (aA jS 0) (sq (aA jS 1) (sq (aA jS 2) (.seq (dF (aA jS 3) 0 (gW (aA jS 4) 21 0 (aA jS 13) (sq (aA jS 5) (sq (aA jS 6) (dF (aA jS 7) 2 TR))))) (sq (aA jS 14) (.seq (dF (aA jS 15) 4 (gW (aA jS 16) 48 4 (aA jS 22) (sq (aA jS 17) (jQ (aA jS 18) 53 (.exit 5) (.seq (.block 6 (.loop IL)) (.region (aA jS 21))))))) (sq (aA jS 23) .ret)))))))
def dU:=bV [4,5] Proofs.Tryz.f7
def GX:aI:=(gW (aA dU 9) 50 1 (aA dU 12) (sq (aA dU 10) (sq (aA dU 11) (dq (eH dU 0) (.draw (eH dU 1))))))
def GY:aI:=(gW (aA dU 19) 104 7 (aA dU 21) (sq (aA dU 20) (dq (eH dU 3) (dq (eH dU 4) (.cond (Tm 141) (.draw (eH dU 5)) .skip)))))
def uH:aI:=(gW (aA dU 16) 91 5 (aA dU 22) (sq (aA dU 17) (dF (aA dU 18) 7 GY)))
def uI:=aA dU 23
def zC:=aA dU 24
def zD:=eH dU 6
def zE:=eH dU 7
def GZ:aI:=(.block 4 (sq (aA dU 13) (sq (aA dU 14) (.seq (dF (aA dU 15) 5 uH) (pI uI 147 zC (dq zD (.draw zE)))))))
def RQ:aI:=(sq (aA dU 0) (sq (aA dU 1) (.seq (.block 0 (sq (aA dU 2) (.cond (Tm 31) (sq (aA dU 3) .ret) (sq (aA dU 4) (.cond (Tm 35) (sq (aA dU 5) .ret) .skip))))) (sq (aA dU 6) (sq (aA dU 7) (.seq (dF (aA dU 8) 1 GX) (dq (eH dU 2) (.block 3 (.loop GZ)))))))))


def Tl(name:Nat)(r r':PV):Spec:=λe _=>if e=name then some ([],λ_=>aL r)else some ([],λ_=>aL r')
theorem Ih{f:aB}(l:cP f=true)(lv cnt:Int):(gY f lv cnt).length<=1099511627776/\∀s∈gY f lv cnt,Z' s<=1000000000000000/\s.Pairwise (· < ·):=by
 unfold gY;split;obtain⟨u,i⟩:=Wo (VF.of l) (lL f lv) (D9 (VF.of l) lv).2 cnt.toNat;exact⟨u,λs e=>⟨by have:=(i s e).1;omega,(i s e).2⟩⟩;exact⟨apR _,λs e=>by cases e⟩
structure X7(C:Ctx):Prop where
 ga:∀(f:aB)(lv cnt:Int),f.Ok->aJ C 230 [.agg f.cells,vJ lv cnt] .nil (aL (.tup [lay (gY f lv cnt),.int .i64 (gK f lv cnt)]))
 holds:∀(f:aB)(l:L2_) (room:I_),f.Ok->iO l->aJ C 150 [.agg f.cells,lay l,ints room] .nil (aL (.bool (dQ f l room)))
 srt:∀row:I_,row≠[]->Z' row<=1000->aJ C 368 [ints row] .nil (aL (ints (sorted row)))
 loss:∀(sc:L2_),Z' sc<=1000000000000000->(∀s∈sc,Z' s<=1000000000000000/\s.Pairwise (· < ·))->∀(set:I_),Z' set<=1000000000000000->set.Pairwise (· < ·)->∀m:Int,
  aJ C 367 [lay sc,ints set,.int .i64 m] .nil (aL (.int .i64 (fF sc set m:Nat)))
variable{C:Ctx}
theorem Uy(w:X7 C)(f:aB)(E:f.Ok)(lv cnt:Int)(L:L2_)(M:iO L) :
  kw.wp C (aW x7.res (aL (.tup [.j (jk f lv cnt L:Nat),.j (IC f lv cnt L)]))) (g_ [.agg f.cells,vJ lv cnt,lay L]) .nil:=by
 have hB:jk f lv cnt L=if IC f lv cnt L=0 then iH f (gY f lv cnt) L L.length else 0:=rfl
 have i:IC f lv cnt L=if gK f lv cnt≠0 then gK f lv cnt else if dQ f L []then 0 else 1:=rfl
 simp only[go_sem,kw,x7];refine aD (w.ga f lv cnt E) Ev ?_;by_cases c:gK f lv cnt≠0;rw[aE c]at i;rw[i,aC c]at hB;simp only[go_sem,cX c];refine cR (.inr rfl) Ev ?_;rw[hB,i];rfl;have c:gK f lv cnt=0:=Decidable.not_not.1 c;rw[aC (λh=>h c)]at i;simp only[go_sem,c,bW (show(0:Int)=0 from rfl)];refine aD ((w.holds f L [] E M).args (args:=[.agg f.cells,lay L,.aG]) (.cons (.refl _) (.cons (.refl _) (.cons (.nil 1) .nil)))) Ev ?_;cases u:dQ f L []with
 |false =>rw[u,aC aT]at i;rw[i,aC aT]at hB;simp only[go_sem,aqI];refine cR (.inr rfl) Ev ?_;rw[hB,i];rfl
 |true=>
  rw[u,aE rfl]at i;rw[i,aE rfl]at hB;have J:=iY u;have hV:=VF.of J;have N:=oV u;have O:=hV.small.aoE;have F:=N.len;obtain⟨R,S⟩:=Ih J lv cnt;have A:=λk=>Ad f (gY f lv cnt) L k;rw[hB,i];generalize gY f lv cnt=sc at *
  simp only[go_sem,aqC,apP];refine wp_loop (α:=Nat) (λk=>((((((n_.set 3 (.aU f.cells)).set 8 (lay sc)).set 10 (.j (iH f sc L k:Nat))).set 28 (lay L)).set 29 (.j (Z' L:Nat))).set 30 (.j k))) (λ_=>.nil) (λk=>k<=Z' L) (λk=>Z' L-k) 0 (apR _) (lE1 (show iH f sc L 0=0 from rfl)) a_ ?_;intro k X;simp only[go_sem];by_cases hlt:k<Z' L;have e:(k:Int)<(Z' L:Nat):=Om;have y:(L.map λr=>[ints r])[k]?=some [ints L[k]]:=by simp[hlt]
  have B:L.getD k []=L[k]:=by simp[apY,hlt]
  obtain⟨hp,he⟩:=kB hV (Om:k<Z' f.aoE);obtain⟨r1,-,V,r4⟩:=qB u hlt;have D:(k:Int)<(Z' f.aoE:Nat):=Om;have l:iH f sc L (k+1)=iH f sc L k+fF sc L[k] (bF f k).m:=by rw[iH,B]
  have U:=w.srt L[k] V Om;have K:=w.loss sc Om S (sorted L[k]) (by rw[EJ];omega) (mw r1) (bF f k).m;rw[IP (sorted_perm L[k])]at K;have b1:=A k;have b2:=AO sc L[k] (bF f k).m;have W:k*Z' sc<=1000*1099511627776:=atU Om R;generalize L[k]=row at *
  generalize fF sc row (bF f k).m=x at *
  generalize sorted row=st at *
  simp only[go_sem,e,y];refine bE .nil (Tl 368 (ints st) (.j (x:Nat))) a_ ?_;simp only[go_sem];refine cM rfl U Sq a_ ?_;simp only[go_sem,D,apP,oM (Om:k<Z' f.aoE),hV.zP (Om:k<Z' f.aoE),mJ hp,he];refine cM rfl K Sq a_ ?_;simp only[go_sem,wrap_i64 (Om:-9223372036854775808<=((iH f sc L k:Nat):Int)+(x:Nat)) Om,wZz k];exact aF (k+1) hlt Om (by(repeat' (first|exact d_|refine e_ ?_ ?_))<;>first|(simp only[go_sem,l,Int.natCast_add]<;>rfl)|rfl) a_;have e:¬(k:Int)<(Z' L:Nat):=Om;have:k=Z' L:=Om;subst this;simp only[go_sem,e];refine cR (.inr rfl) Ev ?_;rfl
def GJ(loads R row:I_)(d:Int):Bool:=decide (loads.getD d.toNat 0+1-((row.count d:Nat):Int)<=R.getD d.toNat 0)
theorem aaF{K:bT}[Up K](loads R row set:I_)(D:Z' row<=1000)(k:Nat)(d a:Int)(A:-1000000000<=a/\a<=1000000000){F:PF}{H:PH}
  (w:((((((((((((n_.set 0 (ints loads)).set 1 (ints R)).set 2 (ints row)).set 10 (.j d)).set 11 (.j a)).set 14 (ints set)).set 15 (.j (Z' set:Nat))).set 16 (.j k)).set 25 (ints row)).set 26 (.j (Z' row:Nat))).set 27 (.j 0))).le F)
  (x:K (.exit 2) (((((((((n_.set 0 (ints loads)).set 1 (ints R)).set 2 (ints row)).set 10 (.j d)).set 11 (.j (a-((row.count d:Nat):Int)))).set 14 (ints set)).set 15 (.j (Z' set:Nat))).set 16 (.j k))) H):aI.wp C (.loop cu) K F H:=by
 refine mA _ (λ_ _ _ _ a b=>Up.up a b) w ?_;refine wp_loop (α:=Nat) (λj=>(((((((((((n_.set 0 (ints loads)).set 1 (ints R)).set 2 (ints row)).set 10 (.j d)).set 11 (.j (a-(((row.take j).count d:Nat):Int)))).set 14 (ints set)).set 15 (.j (Z' set:Nat))).set 16 (.j k)).set 25 (ints row)).set 26 (.j (Z' row:Nat))).set 27 (.j j))) (λ_=>H) (λj=>j<=Z' row) (λj=>Z' row-j) 0 (apR _) (by(repeat' (first|exact d_|refine e_ ?_ ?_))<;>first|(simp only[go_sem,asO,List.count_nil,Int.natCast_zero,Int.sub_zero]<;>rfl)|rfl) b_ ?_;intro j B;simp only[go_sem,cu];by_cases hlt:j<Z' row;have i:(j:Int)<(Z' row:Nat):=Om;have u:(row.map λn=>[PV.int .i64 n])[j]?=some [.j row[j]]:=by simp[hlt]
 have l:(row.take (j+1)).count d=(row.take j).count d+if row[j]=d then 1 else 0:=by rw[arB hlt,List.count_append,List.count_singleton];by_cases e:row[j]=d;simp[e];simp[e]
 have y:(row.take j).count d<=j:=aqX List.count_le_length (by rw[aqF];omega);simp only[go_sem,i,u];by_cases e:row[j]=d;rw[aE e]at l;simp only[go_sem,cC e,wrap_i64 (show -9223372036854775808<=a-(((row.take j).count d:Nat):Int)-1 by omega) Om,wZz j];exact aF (j+1) hlt Om (by exact lE1 (show a-(((row.take (j+1)).count d:Nat):Int)=a-(((row.take j).count d:Nat):Int)-1 from by omega)) b_;rw[aC e,arG]at l;simp only[go_sem,bJ e,wZz j];exact aF (j+1) hlt Om (lE1 l) b_;have i:¬(j:Int)<(Z' row:Nat):=Om;have:j=Z' row:=Om;subst this;rw[aqO];simp only[go_sem,i];exact Up.up Lq x
theorem aaG(loads R row set:I_)(M:Z' row<=1000)(O:Z' set<=1000)(L:∀x∈loads,0<=x/\x<=100000000)(K:∀d∈set,0<=d/\d<(Z' loads:Nat)/\d<(Z' R:Nat)) :
  uh.wp C (aW tN.res (aL (.bool (set.all (GJ loads R row))))) (g_ [ints loads,ints R,ints row,ints set]) .nil:=by
 simp only[go_sem,uh,tN,apP];refine wp_loop (α:=Nat) (λk=>((((((n_.set 0 (ints loads)).set 1 (ints R)).set 2 (ints row)).set 14 (ints set)).set 15 (.j (Z' set:Nat))).set 16 (.j k))) (λ_=>.nil) (λk=>k<=Z' set/\∀d∈set.take k,GJ loads R row d=true) (λk=>Z' set-k) 0 ⟨apR _,by simp⟩ Lq a_ ?_;rintro k ⟨N,y⟩;simp only[go_sem];by_cases hlt:k<Z' set;have e:(k:Int)<(Z' set:Nat):=Om;have w:(set.map λn=>[PV.int .i64 n])[k]?=some [.j set[k]]:=by simp[hlt]
 obtain⟨B,F,J⟩:=K set[k] (apW hlt);have u:=apW hlt;have A:set.take (k+1)=set.take k++[set[k]]:=arB hlt;generalize set[k]=d at *
 have i:d.toNat<Z' loads:=Om;have l:d.toNat<Z' R:=Om;have a1:(loads.map λn=>[PV.int .i64 n])[d.toNat]?=some [.j loads[d.toNat]]:=by simp[i]
 have a2:(R.map λn=>[PV.int .i64 n])[d.toNat]?=some [.j R[d.toNat]]:=by simp[l]
 have hb:=L _ (apW i);have g1:loads.getD d.toNat 0=loads[d.toNat]:=by simp[apY,i]
 have g2:R.getD d.toNat 0=R[d.toNat]:=by simp[apY,l]
 have D:GJ loads R row d=decide (loads[d.toNat]+1-((row.count d:Nat):Int)<=R[d.toNat]):=by unfold GJ;rw[g1,g2]
 generalize loads[d.toNat]=a at *
 generalize R[d.toNat]=b at *
 simp only[go_sem,e,w,B,F,a1,apP,wrap_i64 (Om:-9223372036854775808<=a+1) Om];refine aaF loads R row set M k d (a+1) Om Lq ?_;simp only[go_sem,B,J,a2,apP];by_cases c:a+1-((row.count d:Nat):Int)>b;simp only[go_sem,c];refine cR (.inr rfl) Ev ?_;rw[bO];refine congrArg PV.bool (Eq.symm ?_);rw[List.all_eq_false];exact⟨d,u,by rw[D,bG Om];decide⟩;simp only[go_sem,c,wZz k];refine aF (k+1) ⟨hlt,λx E=>?_⟩ Om Lq a_;rw[A]at E;rcases aqZ.1 E with h|h
 exact y x h;rw[arA]at h;subst h;rw[D,aZ Om];have e:¬(k:Int)<(Z' set:Nat):=Om;have:k=Z' set:=Om;subst this;rw[aqO]at y;simp only[go_sem,e];refine cR (.inr rfl) Ev ?_;rw[bO,aqM.2 y]
def heE(o5 o6:Nat)(out l:I_):PH:=(h_.set o5 (.rows 1 (aN out))).set o6 (.map (false,[.int .i64]) (JB l))
theorem tr(set:I_):∀row:I_,gE set row []=row.map λd=>if set.contains d then d else -1
 |[]=>rfl
 |d::t=>by unfold gE;rw[aqQ,tr set t];split<;>rfl
theorem Wu(l:I_)(d:Int):JB l [KS.int .i64 d]=if l.contains d then some (.bool true)else none:=rfl
theorem adV{set row:I_}{k:Nat}(h:k<Z' row)(x:Int) :
  ((row.take k).map (λd=>if set.contains d then d else(-1:Int))++apX (Z' row-k) 0).set k x=(row.take k).map (λd=>if set.contains d then d else(-1:Int))++x::apX (Z' row-(k+1)) 0:=by
 rw[asY _ _ (by rw[apP,aqF];omega),apP,aqF,asK Om,asA,show row.length-k=(Z' row-(k+1))+1 by omega,List.replicate_succ];rfl
theorem Zl{set row:I_}{k:Nat}(h:k<Z' row)(y x:Int) :
  ((row.take k).map (λd=>if set.contains d then d else(-1:Int))++y::apX (Z' row-(k+1)) 0).set k x=(row.take k).map (λd=>if set.contains d then d else(-1:Int))++x::apX (Z' row-(k+1)) 0:=by
 rw[asY _ _ (by rw[apP,aqF];omega),apP,aqF,asK Om,asA];rfl
theorem Zk{set row:I_}{k:Nat}(h:k<Z' row)(y:Int) :
  (aN ((row.take k).map (λd=>if set.contains d then d else(-1:Int))++y::apX (Z' row-(k+1)) 0))[k]?=some [.j y]:=by
 have e:((row.take k).map (λd=>if set.contains d then d else(-1:Int))).length=k:=by rw[apP,aqF];omega
 unfold aN;rw[aqE,arS Om,e,asA];rfl
theorem U2{K:bT}[Up K](row set:I_)(V:Z' set<=1000)(M:set.Nodup)(o5 o6:Nat)(A:¬o5=o6)(k:Nat)(N:k<Z' row)(l:I_){F:PF}
  (R:((((((((((((n_.set 1 (ints set)).set 5 (.osl o5 1 0 row.length)).set 6 (.map o6)).set 7 (.j k)).set 8 (.j row[k])).set 18 (ints row)).set 19 (.j (Z' row:Nat))).set 20 (.j k)).set 28 (ints set)).set 29 (.j (Z' set:Nat))).set 30 (.j 0))).le F)
  (S:K (.exit 2) (((((((n_.set 1 (ints set)).set 5 (.osl o5 1 0 row.length)).set 6 (.map o6)).set 18 (ints row)).set 19 (.j (Z' row:Nat))).set 20 (.j k)))
   (heE o5 o6 ((row.take k).map (λd=>if set.contains d then d else(-1:Int))++(if set.contains row[k]then row[k]else(-1:Int))::apX (Z' row-(k+1)) 0) (l++if set.contains row[k]then[row[k]]else[]))) :
  aI.wp C (.loop TR) K F (heE o5 o6 ((row.take k).map (λd=>if set.contains d then d else(-1:Int))++-1::apX (Z' row-(k+1)) 0) l):=by
 have D:¬o6=o5:=λe=>A e.symm;have L:(k:Int)<(Z' row:Nat):=Om;have E:=λy x=>Zl (set:=set) N y x;have B:=λy=>Zk (set:=set) N y;generalize row[k]=d at *
 generalize(row.take k).map (λd=>if set.contains d then d else(-1:Int))=pre at *
 generalize apX (Z' row-(k+1)) (0:Int)=post at *
 refine mA _ (λ_ _ _ _ a b=>Up.up a b) R ?_;refine wp_loop (α:=Nat) (λj=>(((((((((((n_.set 1 (ints set)).set 5 (.osl o5 1 0 row.length)).set 6 (.map o6)).set 7 (.j k)).set 8 (.j d)).set 18 (ints row)).set 19 (.j (Z' row:Nat))).set 20 (.j k)).set 28 (ints set)).set 29 (.j (Z' set:Nat))).set 30 (.j j)))
  (λj=>heE o5 o6 (pre++(if(set.take j).contains d then d else(-1:Int))::post) (l++if(set.take j).contains d then[d]else[])) (λj=>j<=Z' set) (λj=>Z' set-j) 0 (apR _) Lq (by rw[asO,show([]:I_).contains d=false from rfl,aC aT,aC aT,aqY];exact b_) ?_
 intro j U;simp only[go_sem,TR];by_cases hlt:j<Z' set;have u:(j:Int)<(Z' set:Nat):=Om;have J:(set.map λn=>[PV.int .i64 n])[j]?=some [.j set[j]]:=by simp[hlt]
 have w:=Uk (d:=d) hlt;simp only[go_sem,u,J];by_cases e:set[j]=d;have O:(set.take j).contains d=false:=by
  cases h:(set.take j).contains d with
  |false=>rfl
  |true =>exfalso;obtain⟨i,hi,he⟩:=arF (asW.1 h);rw[aqF]at hi;rw[List.getElem_take]at he;exact absurd ((List.getElem_inj M).1 (he.trans e.symm)) Om
 rw[O,Bool.false_or,aZ e]at w;rw[O,aC aT,aC aT,aqY];unfold heE;simp only[go_sem,cC e,L,A,D,B,iZ,E,Ri,wZz j];refine aF (j+1) hlt Om Lq ?_;rw[w,aE rfl,aE rfl];exact c_ (c_ a_ (by simp only[go_sem,A])) Sq;rw[bG e,Bool.or_false]at w;simp only[go_sem,bJ e,wZz j];refine aF (j+1) hlt Om Lq ?_;rw[w];exact b_;have u:¬(j:Int)<(Z' set:Nat):=Om;have:j=Z' set:=Om;subst this;rw[aqO];simp only[go_sem,u];exact Up.up Lq S
theorem Av(p:Int->Bool)(y:Int):[y].filter p=if p y then[y]else[]:=by
 rw[List.filter_cons,List.filter_nil]
theorem T3(r:I_)(y:Int):[y].filter (λs=>!r.contains s)=if r.contains y then[]else[y]:=by
 rw[Av];cases r.contains y<;>rfl
theorem ki{o5 o6:Nat}(e:¬o5=o6)(out l:I_):heE o5 o6 out l o5=some (.rows 1 (aN out)):=by
 unfold heE;simp only[go_sem,e]
theorem aeD(o5 o6:Nat)(out l:I_):heE o5 o6 out l o6=some (.map (false,[.int .i64]) (JB l)):=by
 unfold heE;simp only[go_sem]
theorem G9{o5 o6:Nat}(u:¬o5=o6)(out i l:I_):(heE o5 o6 out l).set o5 (.rows 1 (aN i))=heE o5 o6 i l:=by
 unfold heE;refine PH.ext λq=>?_;simp only[aM];by_cases e:q=o5;subst e;simp[u];simp[e]
theorem Kz{K:bT}[Up K](set out l:I_)(n:Nat)(M:Z' out=n)(L:n<=1000)(o5 o6:Nat)(D:¬o5=o6)(s:Int)(j:Nat)(i p:Nat)(hi:i<=p)(hp:p<n)(u:out[p]?=some (-1))(B:∀(q:Nat) y,q<p->out[q]?=some y->0<=y){F:PF}
  (E:((((((((n_.set 5 (.osl o5 1 0 n)).set 6 (.map o6)).set 11 (.j i)).set 13 (.j s)).set 45 (ints set)).set 46 (.j (Z' set:Nat))).set 47 (.j j))).le F)
  (J:K (.exit 6) ((((((((n_.set 5 (.osl o5 1 0 n)).set 6 (.map o6)).set 11 (.j p)).set 13 (.j s)).set 45 (ints set)).set 46 (.j (Z' set:Nat))).set 47 (.j j))) (heE o5 o6 out l)):aI.wp C (.loop IL) K F (heE o5 o6 out l):=by
 refine mA _ (λ_ _ _ _ a b=>Up.up a b) E ?_;refine wp_loop (α:=Nat) (λi=>(((((((n_.set 5 (.osl o5 1 0 n)).set 6 (.map o6)).set 11 (.j i)).set 13 (.j s)).set 45 (ints set)).set 46 (.j (Z' set:Nat))).set 47 (.j j))) (λ_=>heE o5 o6 out l) (λi=>i<=p) (λi=>p-i) i hi Lq b_ ?_;intro i hi;have h5:=ki D out l;have A:(i:Int)<(n:Nat):=Om;have x:i<Z' out:=Om;have w:(aN out)[i]?=some [.j out[i]]:=qN x;by_cases e:i=p;subst e;have e2:out[i]=-1:=by rw[apZ x]at u;injection u
 rw[e2]at w;simp only[go_sem,IL,A,h5,w];exact Up.up Lq J;have e2:=B i out[i] Om (apZ x);simp only[go_sem,IL,A,h5,w,show out[i]>=0 from e2,wZz i];exact aF (i+1) Om Om Lq b_
theorem U3(row set:I_)(hr:Z' row<=1000)(hs:Z' set<=1000)(h0:∀x∈row,0<=x)(h1:∀x∈set,0<=x)(ε:set.Nodup)(γ:(lF row set).length=(row.filter λd=>!set.contains d).length)(μ:row≠[]) :
  ky.wp C (aW jS.res (aL (ints (gE set row (lF row set))))) (g_ [ints row,ints set]) .nil:=by
 have X:(Z' row:Int)*((8:Nat):Int)<=140737488355328:=Om;have Y:(Z' row:Int)<=9223372036854775807:=Om;simp only[go_sem,ky,jS,apP,X,Y];refine aQ λo5 h5=>?_;simp only[go_sem];refine aQ λo6 h6=>?_;have u:¬o5=o6:=by rintro rfl;simp only[bL]at h6;cases h6
 simp only[go_sem,apP];refine wp_loop (α:=Nat) (λk=>((((((n_.set 1 (ints set)).set 5 (.osl o5 1 0 row.length)).set 6 (.map o6)).set 18 (ints row)).set 19 (.j (Z' row:Nat))).set 20 (.j k)))
  (λk=>heE o5 o6 ((row.take k).map (λd=>if set.contains d then d else(-1:Int))++apX (Z' row-k) 0) ((row.take k).filter λd=>set.contains d)) (λk=>k<=Z' row) (λk=>Z' row-k) 0 (apR _) Lq ?_ ?_
 rw[asO,arL,atL,Nat.sub_zero,List.filter_nil];unfold heE;rw[Rh,<-qO];exact b_;intro k hk;simp only[go_sem];by_cases hlt:k<Z' row;have w:(k:Int)<(Z' row:Nat):=Om;have E:(row.map λn=>[PV.int .i64 n])[k]?=some [.j row[k]]:=by simp[hlt]
 have D:row.take (k+1)=row.take k++[row[k]]:=arB hlt;have S:=adV (set:=set) hlt (-1);have L:=ki u ((row.take k).map (λd=>if set.contains d then d else(-1:Int))++apX (Z' row-k) 0) ((row.take k).filter λd=>set.contains d);have O:(aN ((row.take k).map (λd=>if set.contains d then d else(-1:Int))++apX (Z' row-k) 0))[k]?=some [.j 0]:=by
  have e:((row.take k).map (λd=>if set.contains d then d else(-1:Int))).length=k:=by rw[apP,aqF];omega
  unfold aN;rw[aqE,arS Om,e,asA,List.getElem?_replicate,aE Om];rfl
 have U:=G9 u ((row.take k).map (λd=>if set.contains d then d else(-1:Int))++apX (Z' row-k) 0) ((row.take k).map (λd=>if set.contains d then d else(-1:Int))++-1::apX (Z' row-(k+1)) 0) ((row.take k).filter λd=>set.contains d);have inner:=λ{K:bT} [Up K] {F:PF}=>U2 (C:=C) (K:=K) row set hs ε o5 o6 u k hlt ((row.take k).filter λd=>set.contains d) (F:=F);have e1:(row.take (k+1)).map (λd=>if set.contains d then d else(-1:Int))++apX (Z' row-(k+1)) 0=(row.take k).map (λd=>if set.contains d then d else(-1:Int))++(if set.contains row[k]then row[k]else(-1:Int))::apX (Z' row-(k+1)) 0:=by rw[D,aqP,aqT];rfl
 have e2:(row.take (k+1)).filter (λd=>set.contains d)=(row.take k).filter (λd=>set.contains d)++if set.contains row[k]then[row[k]]else[]:=by rw[D,List.filter_append,Av]
 simp only[go_sem,w,E,L,O,iZ,S,U,apP];refine inner Lq ?_;rw[<-e1,<-e2];simp only[go_sem,wZz k];exact aF (k+1) hlt Om Lq b_;have w:¬(k:Int)<(Z' row:Nat):=Om;have:k=Z' row:=Om;subst this;rw[aqO,asA,List.replicate_zero,aqY,<-tr];simp only[go_sem,w,apP];have β:∀j,((set.take j).filter λs=>!row.contains s).length<=(lF row set).length:=λj=>by unfold lF;exact((List.take_sublist j set).filter _).length_le
 refine wp_loop (α:=Nat × Nat) (λt=>((((((n_.set 5 (.osl o5 1 0 row.length)).set 6 (.map o6)).set 11 (.j t.2)).set 45 (ints set)).set 46 (.j (Z' set:Nat))).set 47 (.j t.1)))
  (λt=>heE o5 o6 (gE set row ((set.take t.1).filter λs=>!row.contains s)) (row.filter λd=>set.contains d))
  (λt=>t.1<=Z' set/\t.2<=1000/\∀p,wB set row ((set.take t.1).filter λs=>!row.contains s).length=some p->t.2<=p) (λt=>Z' set-t.1) (0,0) ⟨apR _,apR _,λ_ _=>apR _⟩ Lq (by rw[asO,List.filter_nil];exact b_) ?_
 rintro⟨j,i⟩ ⟨hj,R,hi⟩;simp only at hj R hi ⊢;simp only[go_sem];by_cases A:j<Z' set;have B:(j:Int)<(Z' set:Nat):=Om;have E:(set.map λn=>[PV.int .i64 n])[j]?=some [.j set[j]]:=by simp[A]
 have D:set.take (j+1)=set.take j++[set[j]]:=arB A;have V:set[j]∈set:=apW A;have J:(row.filter λd=>set.contains d).contains set[j]=row.contains set[j]:=by rw[Bool.eq_iff_iff,asW,asW,asQ,asW];exact⟨λh=>h.1,λh=>⟨h,V⟩⟩
 have W:=aeD o5 o6 (gE set row ((set.take j).filter λs=>!row.contains s)) (row.filter λd=>set.contains d);have l:(set.take (j+1)).filter (λs=>!row.contains s)=(set.take j).filter (λs=>!row.contains s)++if row.contains set[j]then[]else[set[j]]:=by rw[D,List.filter_append,T3]
 have M:=β (j+1);have ν:=h1 _ V;have N:∀y∈(set.take j).filter (λs=>!row.contains s),0<=y:=λy hy=>h1 y (auA (asQ.1 hy).1);generalize set[j]=s at *
 simp only[go_sem,B,E,W,Wu,J];by_cases c:row.contains s=true;rw[aE c,aqY]at l;simp only[go_sem,c,wZz j];exact aF (j+1,i) ⟨A,R,by rw[l];exact hi⟩ sO_ Lq (by rw[l];exact b_);rw[aC c]at l;rw[l,apV,aqH]at M;obtain⟨p,hp⟩:=QA set row ((set.take j).filter λs=>!row.contains s).length Om;have ζ:=gf set row _ _ hp;obtain⟨x1,x2,x3⟩:=TF set s row ((set.take j).filter λs=>!row.contains s) p hp;have x4:=x3 h0 N;have Z:=CA set row ((set.take j).filter λs=>!row.contains s);have aoZ:=λq h=>PZ set row _ p q hp h;have δ:=hi p hp;have θ:=G9 u (gE set row ((set.take j).filter λs=>!row.contains s)) ((gE set row ((set.take j).filter λs=>!row.contains s)).set p s) (row.filter λd=>set.contains d);have L:=ki u (gE set row ((set.take j).filter λs=>!row.contains s)) (row.filter λd=>set.contains d);generalize κ:(set.take j).filter (λs=>!row.contains s)=fr at *
 have η:(p:Int)<(Z' row:Nat):=Om;have ι:(aN (gE set row fr))[p]?=some [.j (-1)]:=by unfold aN;rw[aqE,x2];rfl
 have cf:row.contains s=false:=by simpa using c
 simp only[go_sem,cf];refine Kz set (gE set row fr) (row.filter λd=>set.contains d) row.length Z hr o5 o6 u s j i p δ ζ x2 x4 Lq ?_;simp only[go_sem,η,L,ι,iZ,θ,wZz j];refine aF (j+1,p) ⟨A,by omega,λq hq=>?_⟩ sO_ Lq ?_;simp only at hq;rw[l,apV,aqH]at hq;exact Nat.le_of_lt (aoZ q hq);simp only;rw[l,x1];exact b_;have B:¬(j:Int)<(Z' set:Nat):=Om;have:j=Z' set:=Om;subst this;rw[aqO];have L:=ki u (gE set row (lF row set)) (row.filter λd=>set.contains d);simp only[go_sem,B];refine PL (o:=o5) (s:=1) (k:=Z' row) (rs:=aN (gE set row (lF row set))) (.inr rfl) Sq L (by rw[cI,CA];omega) ?_;rw[show(aN (gE set row (lF row set))).take row.length=aN (gE set row (lF row set))from aqR (by rw[cI,CA];omega)];exact⟨rfl,rfl⟩

def nI(f:aB)(sc:L2_)(p:Nat):P2_:=(iX f (f.aoG.getD p lm)).map λs=>[ints s,.int .i64 (fF sc s (f.aoG.getD p lm).m:Nat)]
def xB:P2_->PV
 |[]=>.aG
 |x::r=>.sl 2 (x::r)
def wI(f:aB)(sc:L2_)(k p:Nat):P2_:=if(apQ k).any λv=>dZ f v==p then nI f sc p else[]
def iL(f:aB)(sc:L2_)(k:Nat):P2_:=(apQ f.aoG.length).map λp=>[xB (wI f sc k p)]
theorem oH(f:aB)(sc:L2_)(k:Nat):(iL f sc k).length=Z' f.aoG:=by unfold iL;simp
theorem CL(f:aB)(sc:L2_)(k:Nat){p:Nat}(h:p<Z' f.aoG):(iL f sc k)[p]?=some [xB (wI f sc k p)]:=by unfold iL;simp[h]
theorem YZ(f:aB)(sc:L2_)(k:Nat):iL f sc (k+1)=(iL f sc k).set (dZ f k) [xB (nI f sc (dZ f k))]:=by
 refine List.ext_getElem? λi=>?_;rw[asX];by_cases hi:i<Z' f.aoG;rw[CL f sc _ hi];have e:(apQ (k+1)).any (λv=>dZ f v==i)=((apQ k).any (λv=>dZ f v==i)||dZ f k==i):=by rw[arV,List.any_append,List.any_cons,List.any_nil,Bool.or_false]
 by_cases h:dZ f k=i;subst h;rw[aE rfl,oH,aE hi];unfold wI;rw[e,show(dZ f k==dZ f k)=true from beq_self_eq_true _,Bool.or_true,aE rfl];rw[aC h,CL f sc _ hi];unfold wI;rw[e,show(dZ f k==i)=false by simpa using h,Bool.or_false];rw[arC (by rw[oH];omega)];split;rw[aC (by rw[oH];omega)];rw[arC (by rw[oH];omega)]
theorem Fl(f:aB)(sc:L2_)(k:Nat)(h:wI f sc k (dZ f k)≠[]):iL f sc (k+1)=iL f sc k:=by
 rw[YZ];have e:nI f sc (dZ f k)=wI f sc k (dZ f k):=by unfold wI at h ⊢;split;rfl;rename_i c;rw[aC c]at h;exact absurd rfl h
 refine List.ext_getElem? λi=>?_;rw[asX];split;rename_i hi;subst hi;split;rename_i c;rw[oH]at c;rw[CL f sc k c,e];rename_i c;rw[arC Om];rfl
theorem Ww{α:Type}{l:List α}{i:Nat}{x:α}(h:l[i]?=some x):l.set i x=l:=by
 refine List.ext_getElem? λj=>?_;rw[asX];split;rename_i e;subst e;obtain⟨u,-⟩:=aqU.1 h;rw[aE u,h];rfl
theorem Fk(f:aB)(sc:L2_)(k q s:Nat)(rs:P2_):(iL f sc k).map (λr=>r.map (PV.cZ q s rs))=iL f sc k:=by
 unfold iL;rw[asR];refine arQ λp _=>?_;show[PV.cZ q s rs (xB _)]=_;cases wI f sc k p<;>rfl
structure agY(C:Ctx):Prop where
 all:∀(f:aB)(aoP:Int),f.Ok->aJ C 205 [.agg f.cells,.int .i64 aoP] .nil (aL (.tup [lay (SF f aoP),.int .i64 (FU f aoP)]))
 loss:∀(sc:L2_),Z' sc<=1000000000000000->(∀s∈sc,Z' s<=1000000000000000/\s.Pairwise (· < ·))->∀(set:I_),Z' set<=1000000000000000->set.Pairwise (· < ·)->∀m:Int,
  aJ C 367 [lay sc,ints set,.int .i64 m] .nil (aL (.int .i64 (fF sc set m:Nat)))
theorem Fg(Lb:agY C)(f:aB)(hf:f.Ok)(hv:cP f=true)(μ:Z' f.aoC<=12)(sc:L2_)(h1:Z' sc<=1000000000000000)(h2:∀s∈sc,Z' s<=1000000000000000/\s.Pairwise (· < ·)) :
  RR.wp C (aW OC.res (cY (.sl 1 (iL f sc f.aoE.length)))) (g_ [.agg f.cells,lay sc]) .nil:=by
 have hV:=VF.of hv;have W:=hV.small;have ξ:=W.aoG;have ο:=W.aoE;have δ:(Z' f.aoG:Int)*((24:Nat):Int)<=140737488355328:=Om;have ε:(Z' f.aoG:Int)<=9223372036854775807:=Om;simp only[go_sem,RR,OC,apP,δ,ε];refine aQ λo ho=>?_;simp only[go_sem,apP];refine wp_loop (α:=Nat) (λk=>((((((n_.set 1 (lay sc)).set 2 (.aU f.cells)).set 5 (.osl o 1 0 f.aoG.length)).set 17 (.sl 2 (f.aoE.map fV.cells))).set 18 (.j (Z' f.aoE:Nat))).set 19 (.j k))) (λk=>h_.set o (.rows 1 (iL f sc k))) (λk=>k<=Z' f.aoE) (λk=>Z' f.aoE-k) 0 (apR _) Lq ?_ ?_;have Z:iL f sc 0=apX f.aoG.length [PV.aG]:=by unfold iL wI;simp only[List.range_zero,List.any_nil,arO,if_false,xB];exact asJ aX λi h1 h2=>by simp
 rw[Z];exact b_;intro k hk;simp only[go_sem];by_cases hlt:k<Z' f.aoE;have A:(k:Int)<(Z' f.aoE:Nat):=Om;obtain⟨hp,he⟩:=kB hV hlt;have L:=CL f sc k hp;simp only[go_sem,A,oM hlt,hV.zP hlt,apP];refine aQ λo7 h7=>?_;have N:¬o=o7:=by rintro rfl;rw[bL]at h7;cases h7
 have F:((dZ f k:Nat):Int)<(Z' f.aoG:Nat):=Om;have hH:=((aO.nil (H:=h_)).new rfl (.rows 1 (iL f sc k))).new h7 (.rows 2 [[PV.str f.aoE[k].name,PV.int IntKind.i64 ((dZ f k:Nat):Int)]]);simp only[go_sem,F,N,L];by_cases hc:wI f sc k (dZ f k)=[];have D:xB (wI f sc k (dZ f k))=.aG:=by rw[hc];rfl
 rw[D]at L;simp only[go_sem,D,show PV.sW .aG=some true from rfl];have R:=hV.aoP _ (apW hp);rw[he]at R;have ν:f.aoG.getD (dZ f k) lm=bF f k:=rfl;have ζ:sX f ((dZ f k:Nat):Int)=true:=by unfold sX;rw[hv,aZ Om,aZ F];rfl
 have hE:FU f ((dZ f k:Nat):Int)=0:=by unfold FU;rw[ζ,aE rfl,aC Om]
 have hP:SF f ((dZ f k:Nat):Int)=iX f (bF f k):=by unfold SF;rw[hE,aE rfl];rfl
 have ka:=Lb.all f ((dZ f k:Nat):Int) hf;rw[hE,hP]at ka;have V:∀s∈iX f (bF f k),Z' s<=1000000000000000/\s.Pairwise (· < ·):=λs hs=>by obtain⟨z1,-,z3,-⟩:=XM (f:=f) (by unfold mY;omega) hs;exact⟨by unfold mY at z1;omega,z3⟩
 have θ:(iX f (bF f k)).length<=100000:=by have a1:=AW f.aoC.length (mY (bF f k)).toNat 0;have a2:2^(Z' f.aoC-0)<=2^12:=Nat.pow_le_pow_right aT Om;have a3:=auH (nY f (bF f k)) ((fA f.aoC.length (mY (bF f k)).toNat 0).map cT);rw[apP]at a3;unfold iX;omega
 have E:nI f sc (dZ f k)=(iX f (bF f k)).map λs=>[ints s,.j (fF sc s (bF f k).m:Nat)]:=rfl;generalize hS:iX f (bF f k)=S at *
 refine aD ka Ev ?_;simp only[go_sem,apP];have γ:=hH.oF 2;refine wp_loop (α:=T3_) (λt=>((((((((((n_.set 1 (lay sc)).set 2 (.aU f.cells)).set 5 (.osl o 1 0 f.aoG.length)).set 7 (.ptr o7 2 0 0)).set 17 (.sl 2 (f.aoE.map fV.cells))).set 18 (.j (Z' f.aoE:Nat))).set 19 (.j k)).set 36 (lay S)).set 37 (.j (Z' S:Nat))).set 38 (.j t.1)))
  (λt=>t.2.2) (λt=>t.1<=Z' S/\(t.1=0->t.2.1=.aG)/\aO t.2.2 [(o,.rows 1 ((iL f sc k).set (dZ f k) [t.2.1])),(o7,.rows 2 [[PV.str f.aoE[k].name,PV.int IntKind.i64 ((dZ f k:Nat):Int)]])] [(t.2.1,2,(nI f sc (dZ f k)).take t.1)]) (λt=>Z' S-t.1) (0,.aG,_) ⟨apR _,λ_=>rfl,?_⟩ Lq b_ ?_
 simp only;rw[asO,Ww L];exact γ;rintro⟨j,w,H⟩ ⟨hj,X,u⟩;simp only at hj X u ⊢;simp only[go_sem];by_cases K:j<Z' S;have B:(j:Int)<(Z' S:Nat):=Om;have U:(S.map λr=>[ints r])[j]?=some [ints S[j]]:=by simp[K]
 obtain⟨s1,s2⟩:=V _ (apW K);have kl:=Lb.loss sc h1 h2 S[j] s1 s2 (bF f k).m;have ι:(nI f sc (dZ f k)).take (j+1)=(nI f sc (dZ f k)).take j++[[ints S[j],.j (fF sc S[j] (bF f k).m:Nat)]]:=by rw[arB (by rw[E,apP];exact K)];congr 2;simp[E]
 have g5:=u.at 0 rfl;have g7:=u.at 1 rfl;generalize S[j]=s at *
 generalize fF sc s (bF f k).m=x at *
 simp only[go_sem,B,U];have hw:((iL f sc k).set (dZ f k) [w])[dZ f k]?=some [w]:=by rw[List.getElem?_set_self (by rw[oH];exact hp)]
 refine bE ((h_.set o (.rows 1 ((iL f sc k).set (dZ f k) [w]))).set o7 (.rows 2 [[PV.str f.aoE[k].name,PV.int IntKind.i64 ((dZ f k:Nat):Int)]])) (cyS (.j (x:Nat))) (c_ (c_ a_ g5) g7) ?_;simp only[go_sem,g5,g7,F,N,hw,mJ hp,he,apP];refine cM rfl kl Sq (c_ (c_ a_ g5) g7) ?_;have y:(nI f sc (dZ f k)).length=Z' S:=by rw[E,apP]
 simp only[go_sem];refine u.append 0 (src:=[[ints s,.j (x:Nat)]]) rfl Sq (by unfold roomFor;rw[aqF];simp only[aqH,maxLen];omega) λY H' O hq=>⟨c_ (c_ a_ (O.at 0 rfl)) (O.at 1 rfl),?_⟩;obtain⟨q',rfl⟩:=hq aX;rw[<-ι]at O ⊢;have β:=O.at 0 rfl;simp only[go_sem,F];refine bE .nil cO a_ ?_;simp only[go_sem,β,hw,List.set_set,asT];generalize ρ:PV.osl q' 2 0 ((nI f sc (dZ f k)).take (j+1)).length=Y at *
 have h3:=O.set 0 rfl (.rows 1 ((iL f sc k).set (dZ f k) [Y]));simp only[go_sem,wZz j];refine⟨a_,?_⟩;exact aF (j+1,Y,H'.set o (.rows 1 ((iL f sc k).set (dZ f k) [Y]))) ⟨K,λh=>absurd h (Nat.succ_ne_zero _),h3⟩ sO_ Lq b_;have B:¬(j:Int)<(Z' S:Nat):=Om;have:j=Z' S:=Om;subst this;have y:(nI f sc (dZ f k)).length=Z' S:=by rw[E,apP]
 rw[aqR Om]at u;have M:=YZ f sc k;simp only[go_sem,B,wZz k];by_cases J:Z' S=0;rw[auF (y.trans J),show xB []=.aG from rfl,<-X J]at M;refine aF (k+1) hlt Om Lq ?_;rw[M];exact c_ a_ (u.at 0 rfl);rcases u.own 0 rfl with⟨e,-⟩|⟨q,rs,rfl,-⟩
 rw[e]at y;exact absurd y.symm J
 ·obtain⟨rs,z1,z2,z3,-,z5⟩:=u.frz 0 rfl;have η:o≠q:=u.neL 0 0 rfl rfl rfl;have Z:∀l,PV.frz q 2 rs (lay l)=lay l:=λ_=>rfl;have eI:∀n,PV.frz q 2 rs (.j n)=.j n:=λ_=>rfl;have e5:PV.frz q 2 rs (.osl o 1 0 f.aoG.length)=.osl o 1 0 f.aoG.length:=by simp only[PV.frz,PV.nF,PV.cZ,aC η]
  have eR:PV.frz q 2 rs (.aU f.cells)=.aU f.cells:=rfl;have eV:PV.frz q 2 rs (.sl 2 (f.aoE.map fV.cells))=.sl 2 (f.aoE.map fV.cells):=rfl;refine IM (k+1) z1 hlt Om (by(repeat' (first|exact d_|refine e_ ?_ ?_))<;>first|(simp only[go_sem,Z,eI,e5,eR,eV]<;>rfl)|rfl) ?_;refine c_ a_ ((z5.at 0 rfl).trans ?_);simp only[aR.frz];rw[asP,Fk,M];congr 3;show[PV.cZ q 2 rs _]=_;rw[z2];cases h:nI f sc (dZ f k)with
  |nil=>rw[h]at y;exact absurd y.symm J
  |cons x r=>rfl
 obtain⟨x,r,κ⟩:∃x r,wI f sc k (dZ f k)=x::r:=by
  cases h:wI f sc k (dZ f k)with
  |nil=>exact absurd h hc
  |cons x r=>exact⟨x,r,rfl⟩
 have D:xB (wI f sc k (dZ f k))=.sl 2 (x::r):=by rw[κ];rfl
 simp only[go_sem,D,show ∀(s:Nat)(x:V_) r,PV.sW (.sl s (x::r))=some false from λ_ _ _=>rfl,wZz k];refine aF (k+1) hlt Om Lq ?_;rw[Fl f sc k hc];exact c_ a_ (by simp only[go_sem,N]);have A:¬(k:Int)<(Z' f.aoE:Nat):=Om;have:k=Z' f.aoE:=Om;subst this;simp only[go_sem,A];refine PL (o:=o) (s:=1) (k:=Z' f.aoG) (.inr rfl) Sq (bL ..) (by rw[oH];exact apU _) ?_;rw[aqR (by rw[oH];exact apU _)];exact⟨.refl _,rfl⟩
section
variable {α:Type} {E l:List α} {k n:Nat}
theorem Yf(h:k<n)(z:α):E.take k++apX (n-k) z=E.take k++z::apX (n-(k+1)) z:=by
 rw[show n-k=(n-(k+1))+1 by omega,List.replicate_succ]
theorem aeB(e:k<=Z' E)(x y:α):(E.take k++y::l).set k x=E.take k++x::l:=by
 rw[asY _ _ (by rw[aqF];omega),aqF,asK e,asA];rfl
theorem gAt(e:k<=Z' E)(y:α):(E.take k++y::l)[k]?=some y:=by
 rw[arS (by rw[aqF];omega),aqF,asK e,asA];rfl
theorem aeA{x:α}(h:E[k]?=some x):E.take k++x::l=E.take (k+1)++l:=by
 obtain⟨e,rfl⟩:=aqU.1 h;rw[arB e,aqT];rfl
end
def fG(L:L2_):P2_:=L.map λr=>[ints r]
def iC(f:aB)(sc L:L2_):P2_:=(apQ L.length).map λv=>[.int .i64 (fF sc (L.getD v []) (bF f v).m:Nat)]
def imH(e i:Nat)(A B:P2_):PH:=(h_.set e (.rows 1 A)).set i (.rows 1 B)
def imA(f:aB)(room:I_)(sc:L2_)(e i n:Nat):PF:=(((((n_.set 2 (ints room)).set 4 (.aU f.cells)).set 10 (lay sc)).set 12 (.osl e 1 0 n)).set 13 (.osl i 1 0 n))
structure agX(C:Ctx):Prop where
 srt:∀row:I_,row≠[]->Z' row<=1000->aJ C 368 [ints row] .nil (aL (ints (sorted row)))
 loss:∀(sc:L2_),Z' sc<=1000000000000000->(∀s∈sc,Z' s<=1000000000000000/\s.Pairwise (· < ·))->∀(set:I_),Z' set<=1000000000000000->set.Pairwise (· < ·)->∀m:Int,
  aJ C 367 [lay sc,ints set,.int .i64 m] .nil (aL (.int .i64 (fF sc set m:Nat)))
theorem FD{α:Type}{g:α->α}{l:List α}(h:∀x∈l,g x=x):l.map g=l:=by
 conv=>rhs;rw[<-List.map_id l]
 exact arQ h
theorem lf(L:L2_)(q s:Nat)(rs:P2_):∀r∈fG L,r.map (PV.cZ q s rs)=r:=λr e=>by
 obtain⟨x,-,rfl⟩:=aqJ.1 e;rfl
theorem k7(f:aB)(sc L:L2_)(q s:Nat)(rs:P2_):∀r∈iC f sc L,r.map (PV.cZ q s rs)=r:=λr e=>by
 obtain⟨x,-,rfl⟩:=aqJ.1 e;rfl
theorem Po{K:bT}[Up K](Y:agX C)(f:aB)(L:L2_)(room:I_)(R:dQ f L room=true)(sc:L2_)(k1:Z' sc<=1099511627776)(k2:∀s∈sc,Z' s<=1000000000000000/\s.Pairwise (· < ·))(i u:Nat)(A:¬i=u){F:PF}
  (hF:((((imA f room sc i u L.length).set 47 (lay L)).set 48 (.j (Z' L:Nat))).set 49 (.j 0)).le F)
  (Z:K (.exit 1) (imA f room sc i u L.length) (imH i u (fG L) (iC f sc L))) :
  aI.wp C (.loop GX) K F (imH i u (apX L.length [.aG]) (apX L.length [.j 0])):=by
 have hv:=iY R;have hV:=VF.of hv;have hS:=oV R;have ε:=hV.small.aoE;have β:=hS.len;have γ:(fG L).length=Z' L:=apP _;have δ:(iC f sc L).length=Z' L:=by unfold iC;simp
 have J:¬u=i:=λe=>A e.symm;refine mA _ (λ_ _ _ _ a b=>Up.up a b) hF ?_;unfold imA at Z ⊢;refine wp_loop (α:=Nat) (λk=>((((((((n_.set 2 (ints room)).set 4 (.aU f.cells)).set 10 (lay sc)).set 12 (.osl i 1 0 L.length)).set 13 (.osl u 1 0 L.length)).set 47 (lay L)).set 48 (.j (Z' L:Nat))).set 49 (.j k)))
  (λk=>imH i u ((fG L).take k++apX (Z' L-k) [.aG]) ((iC f sc L).take k++apX (Z' L-k) [.j 0])) (λk=>k<=Z' L) (λk=>Z' L-k) 0 (apR _) Lq (by simp only[asO,atL,Nat.sub_zero];exact b_) ?_
 intro k hk;simp only[go_sem,GX];by_cases hlt:k<Z' L;have w:(k:Int)<(Z' L:Nat):=Om;have N:(L.map λr=>[ints r])[k]?=some [ints L[k]]:=by simp[hlt]
 have U:(fG L)[k]?=some [ints L[k]]:=N;have O:L.getD k []=L[k]:=by simp[apY,hlt]
 obtain⟨hp,he⟩:=kB hV (Om:k<Z' f.aoE);obtain⟨r1,-,r3,r4⟩:=qB R hlt;have V:(k:Int)<(Z' f.aoE:Nat):=Om;have S:(iC f sc L)[k]?=some [.j (fF sc L[k] (bF f k).m:Nat)]:=by unfold iC;rw[aqE,arU hlt,aqK,O]
 have ks:=Y.srt L[k] r3 Om;have kl:=Y.loss sc Om k2 (sorted L[k]) (by rw[EJ];omega) (mw r1) (bF f k).m;rw[IP (sorted_perm L[k])]at kl;have a1:=λz=>gAt (E:=fG L) (l:=apX (Z' L-(k+1)) [PV.aG]) (k:=k) Om z;have a2:=λx y=>aeB (E:=fG L) (l:=apX (Z' L-(k+1)) [PV.aG]) (k:=k) Om x y;have a3:=aeA (l:=apX (Z' L-(k+1)) [PV.aG]) U;have b1:=λz=>gAt (E:=iC f sc L) (l:=apX (Z' L-(k+1)) [PV.int .i64 0]) (k:=k) Om z;have b2:=λx y=>aeB (E:=iC f sc L) (l:=apX (Z' L-(k+1)) [PV.int .i64 0]) (k:=k) Om x y;have b3:=aeA (l:=apX (Z' L-(k+1)) [PV.int .i64 0]) S;rw[Yf hlt,Yf hlt];generalize L[k]=row at *
 generalize fF sc row (bF f k).m=x at *
 generalize sorted row=st at *
 unfold imH;simp only[go_sem,w,N];refine rS (src:=aN row) (by simp only[go_sem];rfl) (by unfold roomFor;rw[cI];simp only[maxLen];omega) (λe=>absurd (List.map_eq_nil_iff.1 e) r3) λ_ q hq=>?_;have B:¬i=q:=by rintro rfl;simp only[go_sem,A]at hq
 have D:¬u=q:=by rintro rfl;simp only[go_sem,A]at hq
 simp only[go_sem,B,D,A,J,a1,a2,w,arA,forall_eq];refine bE .nil (Tl 368 (ints st) (.j (x:Nat))) a_ ?_;simp only[go_sem];refine cM rfl ks Sq a_ ?_;simp only[go_sem,V,apP,oM (Om:k<Z' f.aoE),hV.zP (Om:k<Z' f.aoE),mJ hp,he];refine cM rfl kl Sq a_ ?_;simp only[go_sem,w];refine bE .nil cO a_ ?_;simp only[go_sem,B,D,A,J,b1,b2,asT];refine⟨a_,?_⟩;simp only[go_sem,wZz k];have W:¬q=i:=λe=>B e.symm;have X:¬q=u:=λe=>D e.symm;have eI:∀n,PV.frz q 1 (aN row) (.j n)=.j n:=λ_=>rfl;have e0:∀l,PV.frz q 1 (aN row) (ints l)=ints l:=λ_=>rfl;have e1:∀l,PV.frz q 1 (aN row) (lay l)=lay l:=λ_=>rfl;have e2:PV.frz q 1 (aN row) (.osl i 1 0 L.length)=.osl i 1 0 L.length:=by simp only[PV.frz,PV.nF,PV.cZ,aC B]
 have e3:PV.frz q 1 (aN row) (.osl u 1 0 L.length)=.osl u 1 0 L.length:=by simp only[PV.frz,PV.nF,PV.cZ,aC D]
 have e4:PV.frz q 1 (aN row) (.aU f.cells)=.aU f.cells:=rfl;refine IM (q:=q) (s:=1) (rs:=aN row) (k+1) (by simp only[go_sem,W,X]) hlt Om (lE6 eI e0 e1 e2 e3 e4) (c_ (c_ a_ ?_) ?_);simp only[go_sem,B,D,A,AL];simp only[aR.frz];rw[aqP,aqQ,FD (λr M=>lf L q 1 (aN row) r (auA M)),FD (g:=λr:V_=>r.map (PV.cZ q 1 (aN row))) (l:=apX _ [PV.aG]) (λr M=>by rw[List.eq_of_mem_replicate M];rfl),<-a3];congr 3;simp only[aqQ,arL,PV.cZ,if_true,true_and,aqA,apU,asN,aqO];rfl;simp only[go_sem,B,D,A,AL];simp only[aR.frz];rw[aqP,aqQ,FD (λr M=>k7 f sc L q 1 (aN row) r (auA M)),FD (g:=λr:V_=>r.map (PV.cZ q 1 (aN row))) (l:=apX _ [PV.int .i64 0]) (λr M=>by rw[List.eq_of_mem_replicate M];rfl),<-b3];rfl;have w:¬(k:Int)<(Z' L:Nat):=Om;have:k=Z' L:=Om;subst this;rw[asA,List.replicate_zero,aqY,List.replicate_zero,aqY,aqR Om,aqR Om];simp only[go_sem,w];exact Up.up Lq Z
theorem T4{f:aB}{L:L2_}{room:I_}(l:dQ f L room=true){v:Nat}(y:v<Z' L){s:I_}(B:∀x∈s,0<=x/\x<Z' f.aoC) :
  s.all (GJ (dG f L) (bM f room) (L.getD v []))=xH f (bM f room) L v s:=by
 have w:L.getD v []=L[v]:=by simp[apY,y]
 obtain⟨r1,-,-,-⟩:=qB l y;unfold xH;rw[w,Bool.eq_iff_iff,aqM,aqM];have i:∀x∈s,GJ (dG f L) (bM f room) L[v] x=true↔(L[v].contains x||decide ((dG f L).getD x.toNat 0<(bM f room).getD x.toNat 0))=true:=by
  intro x e;obtain⟨F,J⟩:=B x e;obtain⟨d,rfl⟩:∃d:Nat,x=d:=⟨x.toNat,by omega⟩;have u:d<Z' f.aoC:=Om;have D:=((AZ (iY l) (oV l) room).1 l).2 d u;have h5:(dG f L).getD d 0=(L.flatten.count (d:Int):Nat):=by simp[dG,fD,apY,u]
  have A:(bM f room).getD d 0=kJ f room d:=by simp[bM,apY,u]
  unfold GJ;rw[arP,h5,A,dT_,Bool.or_eq_true,dT_];have E:L[v].count (d:Int)<=1:=List.nodup_iff_count.1 r1 _;by_cases c:(d:Int)∈L[v];have:0<L[v].count (d:Int):=List.count_pos_iff.2 c;exact⟨λ_=>.inl (by simpa using c),λ_=>by omega⟩;rw[List.count_eq_zero_of_not_mem c];exact⟨λh=>.inr Om,λh=>by
   rcases h with h|h
   exact absurd (by simpa using h) c;omega⟩
 exact⟨λh x e=>(i x e).1 (h x e),λh x e=>(i x e).2 (h x e)⟩
def pkI:CW->Int
 |none=>-1
 |some x=>x.1
def pkC(f:aB)(sc:L2_):CW->V_
 |none=>[.aG,.int .i64 0]
 |some x=>[ints x.2,.int .i64 (fF sc x.2 (bF f x.1).m:Nat)]
def imB(f:aB)(room:I_)(sc L:L2_)(e l u:Nat)(i:CW)(v:Nat):PF:=(((((((((((((n_.set 2 (ints room)).set 4 (.aU f.cells)).set 10 (lay sc)).set 12 (.osl e 1 0 L.length)).set 13 (.osl l 1 0 L.length)).set 16 (.sl 1 (iL f sc f.aoE.length))).set 17 (ints (bM f room))).set 18 (ints (dG f L))).set 19 (.int .i64 (pkI i))).set 20 (.ptr u 2 0 0)).set 88 (.osl e 1 0 L.length)).set 89 (.int .i64 (Z' L:Nat))).set 90 (.int .i64 v))
def imK(f:aB)(sc L:L2_)(i l u:Nat)(e:CW):PH:=(imH i l (fG L) (iC f sc L)).set u (.rows 2 [pkC f sc e])
theorem A1:∀{L:L2_},(∀(v:Nat)(e:v<Z' L),L[v].length<=10)->Z' L.flatten<=10*Z' L
 |[],_=>apR _
 |r::L,h=>by have i:=h 0 aX;have l:=A1 (L:=L) λv e=>h (v+1) (by simpa using e);simp only[List.getElem_cons_zero]at i;rw[atY,apV,aqV];omega
theorem Wx{f:aB}(e:Z' f.aoC<=24)(p:bY):(iX f p).length<=16777216:=by
 have a1:=AW f.aoC.length (mY p).toNat 0;have a2:2^(Z' f.aoC-0)<=2^24:=Nat.pow_le_pow_right aT Om;have a3:=auH (nY f p) ((fA f.aoC.length (mY p).toNat 0).map cT);rw[apP]at a3;unfold iX;omega
theorem aaI{K:bT}[Up K](fits:∀(loads R row set:I_),Z' row<=1000->Z' set<=1000->(∀x∈loads,0<=x/\x<=100000000)->(∀d∈set,0<=d/\d<(Z' loads:Nat)/\d<(Z' R:Nat))->aJ C 370 [ints loads,ints R,ints row,ints set] .nil (aL (.bool (set.all (GJ loads R row)))))
  (f:aB) (L:L2_) (room:I_) (hh:dQ f L room=true) (sc:L2_) (k1:Z' sc<=1099511627776) (J M N:Nat) (U:¬J=M) (V:¬J=N) (W:¬M=N) (v:Nat) (hv:v<Z' L) (B:CW)
  (ha:∀x,B=some x->x.1<=v/\x.2∈iX f (bF f x.1)/\xH f (bM f room) L x.1 x.2=true/\0<qV f sc L x.1 x.2) {F:PF}
  (hF:((((((imB f room sc L J M N B v).set 21 (.j v)).set 101 (xB (nI f sc (dZ f v)))).set 102 (.j ((nI f sc (dZ f v)).length:Nat))).set 103 (.j 0))).le F)
  (hK:K (.exit 7) (imB f room sc L J M N (l9 f sc (bM f room) L B v) v) (imK f sc L J M N (l9 f sc (bM f room) L B v))) :
  aI.wp C (.loop GY) K F (imK f sc L J M N B):=by
 have Δ:=iY hh;have hV:=VF.of Δ;have hS:=oV hh;have Ω:=hV.small.aoE;have Θ:=hS.len;have ι:v<Z' f.aoE:=Om;obtain⟨z1,z2⟩:=d7 hV ι;have ν:nI f sc (dZ f v)=(iX f (bF f v)).map λs=>[ints s,.j (fF sc s (bF f v).m:Nat)]:=rfl;have ξ:=λs hs=>XM (f:=f) (p:=bF f v) z2 (s:=s) hs;have Ψ:=Wx hV.small.aoC (bF f v);unfold l9 at hK;refine mA _ (λ_ _ _ _ a b=>Up.up a b) hF ?_;generalize τ:iX f (bF f v)=S at *
 have γ:(nI f sc (dZ f v)).length=Z' S:=by rw[ν,apP]
 rw[γ];refine wp_loop (α:=Nat) (λj=>((((imB f room sc L J M N ((S.take j).foldl (zZ f sc (bM f room) L v) B) v).set 21 (.j v)).set 101 (xB (nI f sc (dZ f v)))).set 102 (.j (Z' S:Nat))).set 103 (.j j))
  (λj=>imK f sc L J M N ((S.take j).foldl (zZ f sc (bM f room) L v) B)) (λj=>j<=Z' S) (λj=>Z' S-j) 0 (apR _) (by simp only[asO,List.foldl_nil];exact PF.le_refl) (by simp only[asO,List.foldl_nil];exact b_) ?_
 intro j hj;have ε:=λx=>UJ (f:=f) (sc:=sc) (R:=bM f room) (L:=L) (v:=v) (S.take j) B ha (λs hs=>by rw[τ];exact auA hs) x;unfold imB;simp only[go_sem,GY];by_cases E:j<Z' S;have β:(j:Int)<(Z' S:Nat):=Om;have A:(S.take (j+1)).foldl (zZ f sc (bM f room) L v) B=zZ f sc (bM f room) L v ((S.take j).foldl (zZ f sc (bM f room) L v) B) S[j]:=by rw[arB E,List.foldl_append];rfl
 have Γ:S[j]∈S:=apW E;obtain⟨s1,s2,s3,-⟩:=ξ _ Γ;have ψ:nI f sc (dZ f v)≠[]:=λe=>by rw[e]at γ;simp at γ;omega
 have O:xB (nI f sc (dZ f v))=.sl 2 (nI f sc (dZ f v)):=by
  cases h:nI f sc (dZ f v)with
  |nil=>exact absurd h ψ
  |cons x r=>rfl
 have υ:(nI f sc (dZ f v))[j]?=some [ints S[j],.j (fF sc S[j] (bF f v).m:Nat)]:=by rw[ν,aqE,apZ E];rfl
 generalize(S.take j).foldl (zZ f sc (bM f room) L v) B=a at *
 generalize S[j]=s at *
 unfold imK imH;simp only[go_sem,β,O,υ,γ];refine aQ λκ η=>?_;have X:¬J=κ:=by rintro rfl;simp only[go_sem,U,V]at η
 have Y:¬M=κ:=by rintro rfl;simp only[go_sem,W]at η
 have Z:¬N=κ:=by rintro rfl;simp only[go_sem]at η
 have δ:(v:Int)<(Z' L:Nat):=Om;have χ:(iC f sc L)[v]?=some [.j (fF sc (L.getD v []) (bF f v).m:Nat)]:=by unfold iC;rw[aqE,arU hv];rfl
 have θ:(fG L)[v]?=some [ints (L.getD v [])]:=by unfold fG;simp[apY,hv]
 have l1:=AO sc s (bF f v).m;have l2:=AO sc (L.getD v []) (bF f v).m;have hg:qV f sc L v s=((fF sc (L.getD v []) (bF f v).m:Nat):Int)-(fF sc s (bF f v).m:Nat):=rfl;generalize hx:fF sc s (bF f v).m=x at *
 generalize hy:fF sc (L.getD v []) (bF f v).m=y at *
 simp only[go_sem];refine bE .nil cO a_ ?_;simp only[go_sem,δ,U,V,W,X,Y,Z,χ,wrap_i64 (Om:-9223372036854775808<=((x:Nat):Int)-(y:Nat)) Om];have ζ:aJ C 370 [ints (dG f L),ints (bM f room),ints (L.getD v []),ints s] .nil (aL (.bool (xH f (bM f room) L v s))):=by have e:s.all (GJ (dG f L) (bM f room) (L.getD v []))=xH f (bM f room) L v s:=T4 hh hv s2;rw[<-e];obtain⟨-,-,-,r4⟩:=qB hh hv;have ω:=hV.aoP _ (apW (kB hV ι).1);rw[(kB hV ι).2]at ω;have Ξ:=A1 (L:=L) (λv hv=>(qB hh hv).2.2.2);refine fits _ _ _ _ (by rw[show L.getD v []=L[v] by simp[apY,hv]];omega) (by unfold mY at s1;omega) (λq hq=>?_) λd hd=>?_;obtain⟨i,hi,rfl⟩:=aqJ.1 hq;have:=List.count_le_length (a:=(i:Int)) (l:=L.flatten);omega;obtain⟨q0,q1⟩:=s2 d hd;rw[qF,show(dG f L).length=f.aoC.length by unfold dG;exact jK ..];omega
 have u:zZ f sc (bM f room) L v a s=if xH f (bM f room) L v s&&decide (qV f sc L v s>DQ f sc L a)then some (v,s)else a:=rfl
 have Λ:0<=DQ f sc L a:=by
  cases h:a with
  |none=>exact Int.le_refl _
  |some y=>exact Int.le_of_lt (ε y h).2.2.2
 refine bE .nil (cyS (.bool (xH f (bM f room) L v s))) a_ ?_;by_cases c1:((x:Nat):Int)-(y:Nat)<0;rcases a with _|w
 ·simp only[go_sem,c1,decide_true,pkI,show((-1:Int)<0)from by decide,δ,U,V,W,X,Y,Z,θ];refine cM rfl ζ Sq a_ ?_;have φ:qV f sc L v s>DQ f sc L none:=by change qV f sc L v s>0;omega
  rw[aZ φ,arY]at u;cases hb:xH f (bM f room) L v s with
  |false=>
   rw[hb,aC aT]at u;simp only[go_sem,wZz j];refine aF (j+1) E Om ?_ ?_;simp only[A,u]
   (repeat' (first|exact d_|refine e_ ?_ ?_))<;>first|(simp only[go_sem,O,pkI]<;>rfl)|rfl
   simp only[A,u];exact c_ (c_ (c_ a_ (by simp only[go_sem,U,V,X])) (by simp only[go_sem,W,Y])) (by simp only[go_sem,Z])
  |true=>
   rw[hb,aE rfl]at u;simp only[go_sem];refine bE .nil cO a_ ?_;simp only[go_sem,X,Y,Z,U,V,W];refine⟨a_,?_⟩;simp only[go_sem,wZz j];refine aF (j+1) E Om ?_ ?_;simp only[A,u]
   (repeat' (first|exact d_|refine e_ ?_ ?_))<;>first|(simp only[go_sem,O,pkI]<;>rfl)|rfl
   simp only[A,u];exact c_ (c_ (c_ a_ (by simp only[go_sem,U,V,X])) (by simp only[go_sem,W,Y])) (by simp only[go_sem,Z,pkC,hx,asT,List.set_cons_succ])
 obtain⟨D,w2⟩:=w;obtain⟨g1,-,-,-⟩:=ε _ rfl;simp only at g1;have ρ:(D:Int)<(Z' L:Nat):=Om;have ο:¬(D:Int)<0:=Om;have μ:(iC f sc L)[D]?=some [.j (fF sc (L.getD D []) (bF f D).m:Nat)]:=by unfold iC;rw[aqE,arU Om];rfl
 have l3:=AO sc w2 (bF f D).m;have l4:=AO sc (L.getD D []) (bF f D).m;have Φ:DQ f sc L (some (D,w2))=((fF sc (L.getD D []) (bF f D).m:Nat):Int)-(fF sc w2 (bF f D).m:Nat):=rfl;have σ:=wrap_i64 (show -9223372036854775808<=((fF sc w2 (bF f D).m:Nat):Int)-(fF sc (L.getD D []) (bF f D).m:Nat) by omega) Om;by_cases c2:((x:Nat):Int)-(y:Nat)<((fF sc w2 (bF f D).m:Nat):Int)-(fF sc (L.getD D []) (bF f D).m:Nat)
 ·rw[aZ (Om:qV f sc L v s>DQ f sc L (some (D,w2))),arY]at u;simp only[go_sem,c1,decide_true,decide_false,pkI,pkC,ο,ρ,μ,σ,c2,δ,U,V,W,X,Y,Z,θ];refine cM rfl ζ Sq a_ ?_;cases hb:xH f (bM f room) L v s with
  |false=>
   rw[hb,aC aT]at u;simp only[go_sem,wZz j];refine aF (j+1) E Om ?_ ?_;simp only[A,u]
   (repeat' (first|exact d_|refine e_ ?_ ?_))<;>first|(simp only[go_sem,O,pkI]<;>rfl)|rfl
   simp only[A,u];exact c_ (c_ (c_ a_ (by simp only[go_sem,U,V,X])) (by simp only[go_sem,W,Y])) (by simp only[go_sem,Z])
  |true=>
   rw[hb,aE rfl]at u;simp only[go_sem];refine bE .nil cO a_ ?_;simp only[go_sem,X,Y,Z,U,V,W];refine⟨a_,?_⟩;simp only[go_sem,wZz j];refine aF (j+1) E Om ?_ ?_;simp only[A,u]
   (repeat' (first|exact d_|refine e_ ?_ ?_))<;>first|(simp only[go_sem,O,pkI]<;>rfl)|rfl
   simp only[A,u];exact c_ (c_ (c_ a_ (by simp only[go_sem,U,V,X])) (by simp only[go_sem,W,Y])) (by simp only[go_sem,Z,pkC,hx,asT,List.set_cons_succ])
 rw[bG (Om:¬qV f sc L v s>DQ f sc L (some (D,w2))),arE,aC aT]at u;simp only[go_sem,c1,decide_true,decide_false,pkI,pkC,ο,ρ,μ,σ,c2,δ,U,V,W,X,Y,Z,θ];simp only[go_sem,wZz j];refine aF (j+1) E Om ?_ ?_;simp only[A,u]
 (repeat' (first|exact d_|refine e_ ?_ ?_))<;>first|(simp only[go_sem,O,pkI]<;>rfl)|rfl
 simp only[A,u];exact c_ (c_ (c_ a_ (by simp only[go_sem,U,V,X])) (by simp only[go_sem,W,Y])) (by simp only[go_sem,Z]);rw[bG (Om:¬qV f sc L v s>DQ f sc L a),arE,aC aT]at u;simp only[go_sem,c1,decide_false,wZz j];refine aF (j+1) E Om ?_ ?_;simp only[A,u];exact lE1 O;simp only[A,u];exact c_ (c_ (c_ a_ (by simp only[go_sem,U,V,X])) (by simp only[go_sem,W,Y])) (by simp only[go_sem,Z]);have β:¬(j:Int)<(Z' S:Nat):=Om;have:j=Z' S:=Om;subst this;rw[aqO];simp only[go_sem,β];exact Up.up (by unfold imB;exact Lq) hK
theorem Pq{K:bT}[Up K](fits:∀(loads R row set:I_),Z' row<=1000->Z' set<=1000->(∀x∈loads,0<=x/\x<=100000000)->(∀d∈set,0<=d/\d<(Z' loads:Nat)/\d<(Z' R:Nat))->aJ C 370 [ints loads,ints R,ints row,ints set] .nil (aL (.bool (set.all (GJ loads R row)))))
  (f:aB) (L:L2_) (room:I_) (E:dQ f L room=true) (sc:L2_) (k1:Z' sc<=1099511627776) (e i l:Nat) (n1:¬e=i) (n2:¬e=l) (n3:¬i=l) {F:PF} {H:PH}
  (V:(imB f room sc L e i l none 0).le F) (W:(imK f sc L e i l none).le H)
  (X:K (.exit 5) (imB f room sc L e i l (kF f sc (bM f room) L L.length) L.length) (imK f sc L e i l (kF f sc (bM f room) L L.length))) :
  aI.wp C (.loop uH) K F H:=by
 have hV:=VF.of (iY E);have Y:=oV E;have Z:=hV.small.aoE;have U:=Y.len;refine mA _ (λ_ _ _ _ a b=>Up.up a b) V ?_;refine wp_loop (α:=Nat) (λv=>imB f room sc L e i l (kF f sc (bM f room) L v) v) (λv=>imK f sc L e i l (kF f sc (bM f room) L v)) (λv=>v<=Z' L) (λv=>Z' L-v) 0 (apR _) PF.le_refl W ?_;intro v hv;by_cases hlt:v<Z' L;have u:(v:Int)<(Z' L:Nat):=Om;have S:(v:Int)<(Z' f.aoE:Nat):=Om;have y:v<Z' f.aoE:=Om;obtain⟨hp,he⟩:=kB hV y;have O:((dZ f v:Nat):Int)<(Z' f.aoG:Nat):=Om;have N:wI f sc f.aoE.length (dZ f v)=nI f sc (dZ f v):=by unfold wI;have A:((apQ f.aoE.length).any λw=>dZ f w==dZ f v)=true:=List.any_eq_true.2 ⟨v,aqN.2 y,beq_self_eq_true _⟩;rw[aE A]
 have B:=CL f sc f.aoE.length hp;rw[N]at B;have J:=λ{K:bT} [Up K] {F:PF}=>aaI (C:=C) (K:=K) fits f L room E sc k1 e i l n1 n2 n3 v hlt (kF f sc (bM f room) L v) (λx hx=>by obtain⟨a,b⟩:=rW v x hx;exact⟨by omega,b⟩) (F:=F)
 have M:(xB (nI f sc (dZ f v))).sI=some (.j ((nI f sc (dZ f v)).length:Nat)):=by cases nI f sc (dZ f v)<;>rfl
 have D:kF f sc (bM f room) L (v+1)=l9 f sc (bM f room) L (kF f sc (bM f room) L v) v:=rfl;unfold imB;simp only[go_sem,uH,u,S,O,apP,oM y,hV.zP y,B,oH,M];refine J (by unfold imB;exact Lq) ?_;unfold imB;simp only[go_sem,wZz v];exact aF (v+1) hlt Om (lE1 D) (by rw[D];exact b_);have u:¬(v:Int)<(Z' L:Nat):=Om;have:v=Z' L:=Om;subst this;unfold imB;simp only[go_sem,uH,u];exact Up.up (by unfold imB;exact Lq) X

structure I1(C:Ctx):Prop where
 loads:∀(f:aB)(l:L2_),f.Ok->iO l->aJ C 151 [.agg f.cells,lay l] .nil (BC (uJ f l))
 fits:∀(loads R row set:I_),Z' row<=1000->Z' set<=1000->(∀x∈loads,0<=x/\x<=100000000)->(∀d∈set,0<=d/\d<(Z' loads:Nat)/\d<(Z' R:Nat))->aJ C 370 [ints loads,ints R,ints row,ints set] .nil (aL (.bool (set.all (GJ loads R row))))
 exch:∀(row set:I_),Z' row<=1000->Z' set<=1000->(∀x∈row,0<=x)->(∀x∈set,0<=x)->set.Nodup->(lF row set).length=(row.filter λd=>!set.contains d).length->row≠[]->aJ C 371 [ints row,ints set] .nil (aL (ints (gE set row (lF row set))))
def imC(f:aB)(room:I_)(sc:L2_)(e i n:Nat):PF:=(((((((n_.set 2 (ints room)).set 4 (.aU f.cells)).set 10 (lay sc)).set 12 (.osl e 1 0 n)).set 13 (.osl i 1 0 n)).set 16 (.sl 1 (iL f sc f.aoE.length))).set 17 (ints (bM f room)))
theorem Pu(f:aB)(sc L:L2_){v:Nat}(l:v<Z' L)(r:I_):iC f sc (L.set v r)=(iC f sc L).set v [.j (fF sc r (bF f v).m:Nat)]:=by
 unfold iC;rw[arD];refine asJ aX λi u w=>?_;rw[List.getElem_set];simp only[arI,auG];rw[GM L v i r l];by_cases e:i=v;subst e;rw[aE rfl,aE rfl];rw[aC e,aC (λh=>e h.symm)]
theorem Pp{K:bT}[Up K](Lb:I1 C)(f:aB)(L:L2_)(room:I_)(W:dQ f L room=true)(sc:L2_)(i l u:Nat)(n1:¬i=l)(n2:¬i=u)(n3:¬l=u){F:PF}{H:PH}
  (hF:(((imC f room sc i l L.length).set 19 (.j (pkI (kF f sc (bM f room) L L.length)))).set 20 (.ptr u 2 0 0)).le F) (U:(imK f sc L i l u (kF f sc (bM f room) L L.length)).le H)
  (h1:kF f sc (bM f room) L L.length=none->∀M H',M 8=some (.osl i 1 0 L.length)->M 9=some (.j 0)->H' i=some (.rows 1 (fG L))->K .ret M H')
  (B:∀x,kF f sc (bM f room) L L.length=some x->∀M H',(imC f room sc i l L.length).le M->(imH i l (fG (vP L x.1 x.2)) (iC f sc (vP L x.1 x.2))).le H'->K .normal M H') :
  aI.wp C (.seq (.seq (.region uI) (.cond (.tmp 147) (.seq (.region zC) .ret) .skip)) (.seq (.draw zD) (.draw zE))) K F H:=by
 have hV:=VF.of (iY W);have hS:=oV W;have δ:=hS.len;refine mA _ (λ_ _ _ _ a b=>Up.up a b) hF ?_;have A:H i=some (.rows 1 (fG L)):=U _ _ (by unfold imK imH;simp only[go_sem,n1,n2]);have N:H l=some (.rows 1 (iC f sc L)):=U _ _ (by unfold imK imH;simp only[go_sem,n3]);have w:H u=some (.rows 2 [pkC f sc (kF f sc (bM f room) L L.length)]):=U _ _ (by unfold imK imH;simp only[go_sem]);unfold imC at B ⊢;cases hp:kF f sc (bM f room) L L.length with
 |none =>rw[hp]at w;simp only[go_sem,uI,pkI,show((-1:Int)<0)from by decide,zC];exact h1 hp _ _ Sq Sq A
 |some x=>
  obtain⟨v,s⟩:=x;rw[hp]at w;obtain⟨J,p2,p3,p4⟩:=rW _ _ hp;simp only at J p2 p3 p4;have α:v<Z' f.aoE:=Om;obtain⟨z1,z2⟩:=d7 hV α;obtain⟨s1,s2,s3,-⟩:=XM z2 p2;have V:L.getD v []=L[v]:=by simp[apY,J]
  obtain⟨r1,r2,r3,r4⟩:=qB W J;have E:s.Nodup:=s3.imp λh=>Int.ne_of_lt h;have η:=hS.row v J;have R:Z' s=L[v].length:=Om;have hx:=Lb.exch L[v] s Om Om (λy hy=>(r2 y hy).1) (λy hy=>(s2 y hy).1) E (A3 r1 E R) r3;have Y:=tt r1 E R;have B:=B (v,s) hp;have X:vP L v s=L.set v (gE s L[v] (lF L[v] s)):=by unfold vP;rw[V]
  simp only at B;rw[X,Pu f sc L J,IP Y]at B;have e1:fG (L.set v (gE s L[v] (lF L[v] s)))=(fG L).set v [ints (gE s L[v] (lF L[v] s))]:=by unfold fG;rw[asP]
  rw[e1]at B;have O:(fG L)[v]?=some [ints L[v]]:=by unfold fG;simp[J]
  have ε:(fG L).length=Z' L:=apP _;have ζ:(iC f sc L).length=Z' L:=by unfold iC;simp
  have D:∃y,(iC f sc L)[v]?=some [y]:=by unfold iC;rw[aqE,arU J];exact⟨_,rfl⟩
  obtain⟨y,D⟩:=D;have S:(v:Int)<(Z' L:Nat):=Om;have Z:¬(v:Int)<0:=Om;generalize gE s L[v] (lF L[v] s)=r at *
  generalize L[v]=row at *
  simp only[go_sem,uI,pkI,Z,decide_false];have hq:(h_.set u (.rows 2 [[ints s,.j (fF sc s (bF f v).m:Nat)]])).le H:=c_ a_ w;refine bE _ (cyS (ints r)) hq ?_;simp only[go_sem,zD,A,w,pkC,S,O];refine cM rfl hx Sq hq ?_;have γ:¬u=i:=λe=>n2 e.symm;have β:¬l=i:=λe=>n1 e.symm;simp only[go_sem,S,w,A,N,O,asT];refine⟨c_ a_ (by simp only[go_sem,γ,w];rfl),?_⟩;refine bE .nil cO a_ ?_;simp only[go_sem,zE,β,N,D,asT];refine⟨a_,?_⟩;refine B _ _ Lq (c_ (c_ a_ (by simp only[go_sem,n1])) Sq)
theorem Eo{K:bT}{c:aI}{F:PF}{H:PH}{q s:Nat}{rs:P2_}(hq:H q=some (.rows s rs))(h:aI.wp C (.loop c) K (F.frz q s rs) (H.frz q s rs)):aI.wp C (.loop c) K F H:=by
 obtain⟨α,i,Hs,l,m,u,e,H2,w,rest⟩:=h;exact⟨α,i,Hs,l,m,u,e,H2,.step q hq w,rest⟩
theorem T7(q:Nat)(l:I_):PV.frz q 1 (aN l) (.osl q 1 0 l.length)=ints l:=by
 simp only[PV.frz,PV.nF,PV.cZ,if_true,true_and,aqA,cI,apU,asN,kp];rw[<-cI l,aqO]
theorem Fe{K:bT}[Up K](Lb:I1 C)(f:aB)(hf:f.Ok)(L0:L2_)(room:I_)(ε:dQ f L0 room=true)(sc:L2_)(k1:Z' sc<=1099511627776)(i u:Nat)(n1:¬i=u){F:PF}{H:PH}
  (hF:(imC f room sc i u L0.length).le F) (hH:(imH i u (fG L0) (iC f sc L0)).le H)
  (hK:∀U H',U 8=some (.osl i 1 0 L0.length)->U 9=some (.j 0)->H' i=some (.rows 1 (fG (oE f sc (bM f room) L0)))->K .ret U H') :
  aI.wp C (.loop GZ) K F H:=by
 refine mA _ (λ_ _ _ _ a b=>Up.up a b) hF ?_;generalize hn:Z' L0=n at *
 refine wp_loop (α:=L2_) (λ_=>imC f room sc i u n) (λL=>imH i u (fG L) (iC f sc L)) (λL=>dQ f L room=true/\Z' L=n/\oE f sc (bM f room) L=oE f sc (bM f room) L0) (λL=>iH f sc L L.length) L0 ⟨ε,hn,rfl⟩ PF.le_refl hH ?_;rintro L ⟨M,rfl,hi⟩;have Z:=iY M;have hV:=VF.of Z;have hS:=oV M;have ζ:=hS.len;have η:=hV.small.aoE;have X:(fG L).length=Z' L:=apP _;have kl:=Lb.loads f L hf (hS.ok hV);unfold uJ at kl;rw[Z,aE rfl]at kl;have ke:[PV.agg f.cells,.osl i 1 0 L.length].map (PV.frz i 1 (fG L))=[.agg f.cells,lay L]:=by simp only[aqQ,arL];rw[show PV.frz i 1 (fG L) (.agg f.cells)=.agg f.cells from rfl];simp only[PV.frz,PV.nF,PV.cZ,if_true,true_and,aqA,X,apU,asN];rw[<-X,aqO];rfl
 have kx:=aJ.aiJ (o:=i) (s:=1) (rs:=fG L) (ke ▸ kl);have B:∀(w:Nat)(F:PF)(H:PH),¬i=w->¬u=w->(((imC f room sc i u L.length).set 19 (.j (pkI (kF f sc (bM f room) L L.length)))).set 20 (.ptr w 2 0 0)).le F->(imK f sc L i u w (kF f sc (bM f room) L L.length)).le H ->
   aI.wp C (.seq (.seq (.region uI) (.cond (.tmp 147) (.seq (.region zC) .ret) .skip)) (.seq (.draw zD) (.draw zE))) (fE 4 (fK (λ_=>imC f room sc i u L.length) (λL=>imH i u (fG L) (iC f sc L)) (λL'=>dQ f L' room=true/\Z' L'=Z' L/\oE f sc (bM f room) L'=oE f sc (bM f room) L0) (λL=>iH f sc L L.length) (iH f sc L L.length) K)) F H:=by
  intro w F H O R hF hH;refine Pp Lb f L room M sc i u w n1 O R hF hH (λhp U H' a8 a9 β=>?_) λx hp U H' γ δ=>?_;refine hK U H' a8 a9 ?_;rw[β,<-hi,Bk hp];obtain⟨p1,p2,p3,p4⟩:=rW _ _ hp;obtain⟨m1,m2,m3⟩:=zJ M p1 p2 p3;have m4:=CJ (f:=f) (sc:=sc) p1 m3 p4;exact aF (K:=K) (vP L x.1 x.2) ⟨m1,m2,by rw[<-Uq M hp,hi]⟩ (by rw[m2];exact m4) γ δ
 unfold imC;simp only[go_sem,GZ];refine jG kx Sq (c_ a_ (by unfold imH;simp only[go_sem,n1])) ?_;rintro r H' ⟨V,hM,J,rfl⟩ W;have D:((imH i u (fG L) (iC f sc L)).over (h_.set i (.rows 1 (fG L))) (V.set i (.rows 1 (fG L)))) i=some (.rows 1 (fG L)):=by rw[iN,bL]
 have N:¬u=i:=λe=>n1 e.symm;have S:imH i u (fG L) (iC f sc L) u=some (.rows 1 (iC f sc L)):=bL _ _;have A:V u=none:=by
  cases e:V u with
  |none=>rfl
  |some x =>have:=W u x (by simp only[go_sem,N,e]) (by simp only[go_sem,N]);rw[S]at this;cases this
 have E:((imH i u (fG L) (iC f sc L)).over (h_.set i (.rows 1 (fG L))) (V.set i (.rows 1 (fG L)))) u=some (.rows 1 (iC f sc L)):=by rw[iN];simp only[go_sem,N,A,S]
 have Y:(r=.aG/\dG f L=[])\/∃q,r=.osl q 1 0 (dG f L).length/\((imH i u (fG L) (iC f sc L)).over (h_.set i (.rows 1 (fG L))) (V.set i (.rows 1 (fG L)))) q=some (.rows 1 (aN (dG f L)))/\¬i=q/\¬u=q:=by
  rcases hM with⟨e,rfl,-⟩|⟨q,rfl,rfl⟩
  exact .inl ⟨rfl,e⟩;have a1:¬i=q:=by rintro rfl;rw[bL]at J;cases J
  have a2:¬u=q:=by rintro rfl;rw[bL]at A;cases A
  refine .inr ⟨q,rfl,?_,a1,a2⟩;rw[iN];simp only[go_sem,show ¬q=i from λe=>a1 e.symm]
 generalize(imH i u (fG L) (iC f sc L)).over _ _=H2 at *
 clear hM W J A S V;simp only[go_sem];refine aQ λw y=>?_;have O:¬i=w:=by rintro rfl;rw[D]at y;cases y
 have R:¬u=w:=by rintro rfl;rw[E]at y;cases y
 simp only[go_sem];rcases Y with⟨rfl,e⟩|⟨q,rfl,hq,a1,a2⟩
 have hL:L=[]:=by
  cases hc:L with
  |nil=>rfl
  |cons row t=>
   have hlt:0<Z' L:=by rw[hc];exact Nat.zero_lt_succ _
   obtain⟨-,r2,r3,-⟩:=qB M hlt;obtain⟨x,hx⟩:=List.exists_mem_of_ne_nil _ r3;obtain⟨x0,x1⟩:=r2 x hx;have:=congrArg List.length e;unfold dG at this;rw[jK]at this;simp only[asG]at this;omega
 subst hL;refine wp_loop (α:=Unit) (λ_=>(((((((((((n_.set 2 (ints room)).set 4 (.aU f.cells)).set 10 (lay sc)).set 12 (.osl i 1 0 0)).set 13 (.osl u 1 0 0)).set 16 (.sl 1 (iL f sc f.aoE.length))).set 17 (ints (bM f room))).set 19 (.j (-1))).set 20 (.ptr w 2 0 0)).set 89 (.j 0)).set 90 (.j 0))) (λ_=>imK f sc [] i u w none) (λ_=>True) (λ_=>0) () trivial Lq (c_ (c_ (c_ a_ (by simp only[go_sem,O,D])) (by simp only[go_sem,R,E])) (by simp only[go_sem,pkC])) ?_;rintro⟨⟩ -;simp only[go_sem,uH,show ¬(0:Int)<0 from by decide];refine B w _ _ O R (by unfold imC;(repeat' (first|exact d_|refine e_ ?_ ?_))<;>first|(simp only[go_sem,show kF f sc (bM f room) [] ([]:L2_).length=none from rfl,pkI]<;>rfl)|rfl) b_;have b1:¬w=q:=by rintro rfl;rw[hq]at y;cases y
 have eo:=T7 q (dG f L);have e2:∀n,PV.frz q 1 (aN (dG f L)) (.osl i 1 0 n)=.osl i 1 0 n:=λn=>by simp only[PV.frz,PV.nF,PV.cZ,aC a1]
 have e3:∀n,PV.frz q 1 (aN (dG f L)) (.osl u 1 0 n)=.osl u 1 0 n:=λn=>by simp only[PV.frz,PV.nF,PV.cZ,aC a2]
 have e0:∀l,PV.frz q 1 (aN (dG f L)) (ints l)=ints l:=λ_=>rfl;have e1:∀l,PV.frz q 1 (aN (dG f L)) (lay l)=lay l:=λ_=>rfl;have e4:PV.frz q 1 (aN (dG f L)) (.aU f.cells)=.aU f.cells:=rfl;have e5:∀l,PV.frz q 1 (aN (dG f L)) (.sl 1 l)=.sl 1 l:=λ_=>rfl;have e6:∀n,PV.frz q 1 (aN (dG f L)) (.j n)=.j n:=λ_=>rfl;have e7:PV.frz q 1 (aN (dG f L)) (.ptr w 2 0 0)=.ptr w 2 0 0:=rfl;refine Eo (q:=q) (s:=1) (rs:=aN (dG f L)) (by simp only[go_sem,show ¬q=w from λe=>b1 e.symm,hq]) ?_;refine Pq Lb.fits f L room M sc k1 i u w n1 O R (by unfold imB;(repeat' (first|exact d_|refine e_ ?_ ?_))<;>first|(simp only[go_sem,eo,e0,e1,e2,e3,e4,e5,e6,e7,pkI]<;>rfl)|rfl) (c_ (c_ (c_ a_ ?_) ?_) ?_) ?_;simp only[go_sem,O,a1,D,aR.frz];rw[FD (λr Y=>lf L q 1 _ r Y)];simp only[go_sem,R,a2,E,aR.frz];rw[FD (λr Y=>k7 f sc L q 1 _ r Y)];simp only[go_sem,b1,aR.frz];rfl;refine B w _ _ O R (by unfold imC imB;exact Lq) b_
theorem Zo{o n:Nat}{rs:P2_}{L:L2_}(i:n<=Z' rs)(e:rs.take n=fG L):PV.cZ o 1 rs (.osl o 1 0 n)=lay L:=by
 simp only[PV.cZ,if_true,true_and,aqA,aE i,asN,e];rfl
theorem Wb{o n:Nat}{rs:P2_}{L:L2_}{c:Int}{F:PF}{H:PH}(h8:F 8=some (.osl o 1 0 n))(i:F 9=some (.j c))(u:H o=some (.rows 1 rs))(l:n<=Z' rs)(e:rs.take n=fG L):aW [.tmp 8,.tmp 9] (cY (.tup [lay L,.j c])) .ret F H:=by
 refine rJ (vs:=[.osl o 1 0 n,.j c]) (.inr rfl) (by rw[nM,rK,h8,nM,rK,i,tK]) (uY.step u ?_);have h:=Zo (o:=o) l e;show uY (.tup [PV.nF o 1 rs (.osl o 1 0 n),.j c]) _ _;rw[show PV.nF o 1 rs (.osl o 1 0 n)=PV.cZ o 1 rs (.osl o 1 0 n)from rfl,h];exact .done (H2:=.nil) ⟨.refl _,rfl⟩ a_
def KB(f:aB)(lv cnt:Int)(room:I_)(L:L2_):Int:=if gK f lv cnt≠0 then gK f lv cnt else if dQ f L room then 0 else 1
def TL(f:aB)(lv cnt:Int)(room:I_)(L:L2_):L2_:=if KB f lv cnt room L=0 then oE f (gY f lv cnt) (bM f room) L else[]
theorem WU(f:aB)(sc:L2_)(R:I_):∀(n:Nat)(L:L2_),(xM f sc R n L).length=Z' L
 |0,_=>rfl
 |n+1,L=>by rw[xM];split;rfl;rw[WU f sc R n];exact arD
theorem afH{f:aB}{lv cnt:Int}(e:cP f=true)(c:gK f lv cnt=0):Z' f.aoC<=12:=by
 unfold gK at c;split at c;split at c;cases c;omega;cases c
structure X8(C:Ctx):Prop extends I1 C where
 ga:∀(f:aB)(lv cnt:Int),f.Ok->aJ C 230 [.agg f.cells,vJ lv cnt] .nil (aL (.tup [lay (gY f lv cnt),.int .i64 (gK f lv cnt)]))
 holds:∀(f:aB)(l:L2_) (room:I_),f.Ok->iO l->aJ C 150 [.agg f.cells,lay l,ints room] .nil (aL (.bool (dQ f l room)))
 room:∀(f:aB)(room:I_),f.Ok->aJ C 152 [.agg f.cells,ints room] .nil (aL (ints (qG f room)))
 opts:∀(f:aB),f.Ok->cP f=true->Z' f.aoC<=12->∀sc:L2_,Z' sc<=1000000000000000->(∀s∈sc,Z' s<=1000000000000000/\s.Pairwise (· < ·))->aJ C 369 [.agg f.cells,lay sc] .nil (aL (.sl 1 (iL f sc f.aoE.length)))
 srt:∀row:I_,row≠[]->Z' row<=1000->aJ C 368 [ints row] .nil (aL (ints (sorted row)))
 loss:∀(sc:L2_),Z' sc<=1000000000000000->(∀s∈sc,Z' s<=1000000000000000/\s.Pairwise (· < ·))->∀(set:I_),Z' set<=1000000000000000->set.Pairwise (· < ·)->∀m:Int,
  aJ C 367 [lay sc,ints set,.int .i64 m] .nil (aL (.int .i64 (fF sc set m:Nat)))
theorem Ff(l:X8 C)(f:aB)(D:f.Ok)(lv cnt:Int)(room:I_)(L:L2_)(X:iO L) :
  RQ.wp C (aW dU.res (cY (.tup [lay (TL f lv cnt room L),.j (KB f lv cnt room L)]))) (g_ [.agg f.cells,vJ lv cnt,ints room,lay L]) .nil:=by
 have hB:TL f lv cnt room L=if KB f lv cnt room L=0 then oE f (gY f lv cnt) (bM f room) L else[]:=rfl
 have i:KB f lv cnt room L=if gK f lv cnt≠0 then gK f lv cnt else if dQ f L room then 0 else 1:=rfl
 simp only[go_sem,RQ,dU];refine aD (l.ga f lv cnt D) Ev ?_;by_cases c:gK f lv cnt≠0;rw[aE c]at i;rw[i,aC c]at hB;rw[hB,i];simp only[go_sem,cX c];exact uR (.inr rfl) Sq (aO.EC aO.nil);have c:gK f lv cnt=0:=Decidable.not_not.1 c;rw[aC (λh=>h c)]at i;simp only[go_sem,c,bW (show(0:Int)=0 from rfl)];refine aD (l.holds f L room D X) Ev ?_;cases y:dQ f L room with
 |false =>rw[y,aC aT]at i;rw[i,aC aT]at hB;rw[hB,i];simp only[go_sem,aqI];exact uR (.inr rfl) Sq (aO.EC aO.nil)
 |true=>
  rw[y,aE rfl]at i;rw[i,aE rfl]at hB;have E:=iY y;have hV:=VF.of E;have Y:=oV y;have Z:=hV.small.aoE;have R:=Y.len;have J:=afH E c;obtain⟨S,U⟩:=Ih E lv cnt;have u:=l.room f room D;unfold qG at u;rw[E,aE rfl]at u;rw[hB,i];generalize gY f lv cnt=sc at *
  have N:=l.opts f D E J sc Om U;have K:(Z' L:Int)*((24:Nat):Int)<=140737488355328:=Om;have M:(Z' L:Int)*((8:Nat):Int)<=140737488355328:=Om;have B:(Z' L:Int)<=9223372036854775807:=Om;simp only[go_sem,aqC,apP,K,B];refine aQ λw O=>?_;simp only[go_sem,apP,M,B];refine aQ λx A=>?_;have V:¬w=x:=by rintro rfl;rw[bL]at A;cases A
  simp only[go_sem,apP];refine Po ⟨l.srt,l.loss⟩ f L room y sc S U w x V (by unfold imA;exact Lq) ?_;unfold imA;simp only[go_sem];refine bE .nil (Tl 369 (.sl 1 (iL f sc f.aoE.length)) (ints (bM f room))) a_ ?_;simp only[go_sem];refine cM rfl N Sq a_ ?_;simp only[go_sem];refine cM rfl u Sq a_ ?_;simp only[go_sem];refine Fe l.toI1 f D L room y sc S w x V (by unfold imC;exact Lq) b_ λF' H' a8 W F=>?_;simp only[go_sem];have e:(fG (oE f sc (bM f room) L)).length=Z' L:=by unfold fG oE;rw[apP,WU]
  exact Wb a8 W F Om (aqR Om)
structure xm(C:Ctx):Prop extends iv C where
 int:∀n:Int,eK n->aJ C 47 [.int .i64 n] .nil (aL (.agg (mkT n 1).cells))
 mul:∀a b,Lim a->Lim b->Z' a<=35184372087808->Z' b<=35184372087808->aJ C 36 [aY a,aY b] .nil (aL (opV (nC (val a) (val b)) (val a*val b)))
 add:∀a b,Lim a->Lim b->Z' a<=35184372087808->Z' b<=35184372087808->aJ C 30 [aY a,aY b] .nil (aL (opV (nC (val a) (val b)) (val a+val b)))
 sub:∀a b,Lim a->Lim b->Z' a<=35184372087808->Z' b<=35184372087808->aJ C 37 [aY a,aY b] .nil (aL (Mi (val a) (val b)))
theorem wh(a b:Nat):fT a b=(decide (nl b>0)&&(decide (nl b<=128)&&decide (nl a<=128))):=by
 have:=@qE b;refine Bool.eq_iff_iff.2 ?_;rw[mN];simp only[apT,dT_];omega
theorem Sn(L:xm C)(neg:Bool)(a b:N_)(x:Lim a)(hb:Lim b)(y:Z' a<=35184372087808)(w:Z' b<=35184372087808) :
  ai.wp C (aW pt.res (aL (.bool (fT (val a) (val b))))) (g_ [.agg (pD neg a b)]) .nil:=by
 rw[wh];simp only[go_sem,ai,pt];refine aD (L.trim b hb w) rfl ?_;simp only[go_sem,apP,cE];by_cases l:nl (val b)>0;have e:((nl (val b):Nat):Int)>0:=Om;simp only[go_sem,e];refine aD (L.trim b hb w) rfl ?_;simp only[go_sem,apP,cE];by_cases u:nl (val b)<=128;have i:((nl (val b):Nat):Int)<=128:=Om;simp only[go_sem,i];refine aD (L.trim a x y) rfl ?_;simp only[go_sem,apP,cE];refine eD ?_;have:decide (((nl (val a):Nat):Int)<=128)=decide (nl (val a)<=128):=by refine decide_eq_decide.2 ?_;omega
 rw[bO,this,aZ l,aZ u];rfl;have i:¬((nl (val b):Nat):Int)<=128:=Om;simp only[go_sem,i];refine eD ?_;rw[bO,bG u,aqD,arE];have e:¬((nl (val b):Nat):Int)>0:=Om;simp only[go_sem,e];refine eD ?_;rw[bO,bG l,aqD]
theorem cv{neg:Bool}{a b:Nat}(h:fT a b=true):qP neg a b=.ok (qQ neg a b):=by
 obtain⟨u,e,i⟩:=mN.1 h;have l:=(pO (a/apS a b) 128).2 (P3 _ i);have e2:=(pO (b/apS a b) 128).2 (P3 _ e);unfold qP qQ;rw[aC Om]
def Jg(a b:Nat):Bool:=decide (nl a>128)||decide (nl b>128)
theorem Sk(neg:Bool)(a b:N_) :
  ZY.wp C (aW ow.res (aL (.bool (decide (Z' a>128)||decide (Z' b>128))))) (g_ [.agg (pD neg a b)]) .nil:=by
 simp only[go_sem,ZY,ow,apP];by_cases c:Z' a>128;have e:(Z' a:Int)>128:=Om;simp only[go_sem,e];refine eD ?_;rw[bO,aZ c,Bool.true_or];have e:¬(Z' a:Int)>128:=Om;simp only[go_sem,e,apP];refine eD ?_;have:decide ((Z' b:Int)>128)=decide (Z' b>128):=by refine decide_eq_decide.2 ?_;omega
 rw[bO,this,bG c,Bool.false_or]
def Aw(x:FV):FR:=if Jg x.2.1 x.2.2 then .error 2 else .ok x
theorem Zm(neg:Bool)(a b:Nat):Aw (qQ neg a b)=qP neg a b:=by
 have e:=pO (a/apS a b) 128;have e2:=pO (b/apS a b) 128;unfold Aw qQ qP Jg;simp only[Bool.or_eq_true,dT_];by_cases c:nl (a/apS a b)>128\/nl (b/apS a b)>128;rw[aE c,aE Om];rw[aC c,aC Om]
structure ix(C:Ctx):Prop extends xm C where
 valid:∀x:RF,x.Ok->aJ C 56 [.agg x.cells] .nil (aL (.bool (fT (val x.num) (val x.den))))
 big:∀x:FV,aJ C 48 [.agg x.rf.cells] .nil (aL (.bool (Jg x.2.1 x.2.2)))
theorem Xt(L:ix C)(x:FV):ot.wp C (aW yw.res (cY (frV (Aw x)))) (g_ [.agg x.rf.cells]) .nil:=by
 simp only[go_sem,ot,yw];refine aQ λo e=>?_;simp only[go_sem];refine aD (L.big x) rfl ?_;unfold Aw;cases Jg x.2.1 x.2.2 with
 |true =>simp only[go_sem];refine vK ?_;simp only[go_sem]
 |false =>obtain⟨n,a,b⟩:=x;simp only[go_sem];exact bK (.inr rfl) .nil (vs:=[.agg (FV.rf (n,a,b)).cells,.int .i64 0]) Sq a_ ⟨.refl _,rfl⟩
theorem M7(L:ix C)(x:RF)(i:x.Ok):WB.wp C (aW XR.res (cY (frV (DB x)))) (g_ [.agg x.cells]) .nil:=by
 simp only[go_sem,WB,XR];refine aQ λo w=>?_;simp only[go_sem];refine aD (L.valid x i) rfl ?_;unfold DB;cases l:fT (val x.num) (val x.den)with
 |false =>simp only[go_sem,aqI];refine vK ?_;simp only[go_sem]
 |true =>obtain⟨u,y,A⟩:=mN.1 l;have e:=cv (neg:=x.neg) l;rw[aE rfl,e];simp only[go_sem,aqC];refine aD (L.lowest x.neg x.num x.den i.1 i.2.1 i.2.2.1 i.2.2.2 Om Om u) rfl ?_;simp only[go_sem];exact bK (.inr rfl) .nil (vs:=[.agg (qQ x.neg (val x.num) (val x.den)).rf.cells,.int .i64 0]) Sq a_ ⟨.refl _,rfl⟩
theorem Sm(L:xm C)(a b:N_)(e:Lim a)(hb:Lim b)(i:Z' a<=35184372087808)(l:Z' b<=35184372087808)(u:nl (val a)<=256)(w:nl (val b)<=256) :
  aa.wp C (aW pq.res (aL (aY (aS (val a*val b))))) (g_ [aY a,aY b]) .nil:=by
 simp only[go_sem,aa,pq];refine aD (L.mul a b e hb i l) rfl ?_;have:=zK u w;rw[vE Om Om,opV,nj Om];simp only[go_sem];refine eD ?_;rfl
structure zm(C:Ctx):Prop extends ix C where
 fits:∀x:FV,aJ C 57 [.agg x.rf.cells] .nil (aL (frV (Aw x)))
 red:∀x:RF,x.Ok->aJ C 52 [.agg x.cells] .nil (aL (frV (DB x)))
 prod:∀a b,Lim a->Lim b->Z' a<=35184372087808->Z' b<=35184372087808->nl (val a)<=256->nl (val b)<=256->aJ C 60 [aY a,aY b] .nil (aL (aY (aS (val a*val b))))
def RF.valid(x:RF):Prop:=fT (val x.num) (val x.den)=true
def uO(x y:RF):Int:=CZ x.neg (val x.num) (val x.den) y.neg (val y.num) (val y.den)
def voS:Spec:=λname vs=>match name,vs with
 |60,[x,y]=>some ([],λ_=>aL (aY (aS (val (sD x)*val (sD y)))))
 |_,_=>none
theorem CS(a b:N_):voS 60 [aY a,aY b]=some ([],λ_=>aL (aY (aS (val a*val b)))):=by
 show some _=_;rw[lS,lS]
theorem tf(a b:Nat):iV b a=- iV a b:=by
 unfold iV;rcases Nat.lt_trichotomy a b with h|h|h
 rw[aC Om,aE h,aE h];rfl;subst h;rw[aC Om,aC Om];rfl;rw[aE h,aC Om,aE h]
set_option maxHeartbeats 1000000 in
theorem Sl {C : Ctx} (L : zm C) (x y : RF) (hx : x.Ok) (hy : y.Ok) (vx : x.valid) (vy : y.valid) : ZZ.wp C (aW pi.res (aL (.j (uO x y)))) (g_ [.agg x.cells, .agg y.cells]) .nil := by
  obtain ⟨n1, a1, b1⟩ := x;obtain ⟨n2, a2, b2⟩ := y;obtain ⟨ha1, hb1, la1, lb1⟩ := hx;obtain ⟨ha2, hb2, la2, lb2⟩ := hy;obtain ⟨v1, v2, v3⟩ := mN.1 vx;obtain ⟨w1, w2, w3⟩ := mN.1 vy;simp only at ha1 hb1 la1 lb1 ha2 hb2 la2 lb2 v1 v2 v3 w1 w2 w3;have m1 := zK v3 w2;have m2 := zK w3 v2;have hA : decide (val a1 ≠ 0) = decide (nl (val a1 * val b2) > 0) := by refine decide_eq_decide.2 ?_;have := @qE (val a1 * val b2);rw [Nat.mul_eq_zero] at this;omega
  have hB : decide (val a2 ≠ 0) = decide (nl (val a2 * val b1) > 0) := by refine decide_eq_decide.2 ?_;have := @qE (val a2 * val b1);rw [Nat.mul_eq_zero] at this;omega
  unfold uO CZ;simp only [hA, hB];simp only[go_sem,ZZ,pi];refine bE .nil voS a_ ?_;simp only[go_sem];refine cM (CS a1 b2) (L.prod a1 b2 ha1 hb2 la1 lb2 Om Om) rfl a_ ?_;simp only[go_sem];refine cM (CS a2 b1) (L.prod a2 b1 ha2 hb1 la2 lb1 Om Om) rfl a_ ?_;have hc := L.cmp (aS (val a1 * val b2)) (aS (val a2 * val b1)) (cA _) (cA _) (by rw [cE]; omega) (by rw [cE]; omega);have hd := L.cmp (aS (val a2 * val b1)) (aS (val a1 * val b2)) (cA _) (cA _) (by rw [cE]; omega) (by rw [cE]; omega);rw [bZ, bZ] at hc hd;rw [tf (val a1 * val b2)] at hd;generalize val a1 * val b2 = A at *
  generalize val a2 * val b1 = B at *
  have gA : decide (((nl A : Nat) : Int) > 0) = decide (nl A > 0) := decide_eq_decide.2 Om;have gB : decide (((nl B : Nat) : Int) > 0) = decide (nl B > 0) := decide_eq_decide.2 Om;generalize decide (nl A > 0) = p at *
  generalize decide (nl B > 0) = q at *
  cases n1 <;> cases n2 <;> cases p <;> cases q
  all_goals
    simp only[go_sem,apP,cE,gA,gB]
    first
    | (refine eD ?_; rfl)
    | (refine aD hc rfl ?_
       simp only[go_sem];refine eD ?_;rfl)
    | (refine aD hd rfl ?_
       simp only[go_sem];refine eD ?_;rfl)
structure FS(C:Ctx):Prop extends zm C where
 order:∀x y:RF,x.Ok->y.Ok->x.valid->y.valid->aJ C 51 [.agg x.cells,.agg y.cells] .nil (aL (.int .i64 (uO x y)))
theorem Xv(L:FS C)(x y:RF)(e:x.Ok)(i:y.Ok)(l:x.valid)(u:y.valid):oz.wp C (aW yx.res (aL (.bool (decide (uO x y<0))))) (g_ [.agg x.cells,.agg y.cells]) .nil:=by
 simp only[go_sem,oz,yx];refine aD (L.order x y e i l u) rfl ?_;simp only[go_sem];refine eD ?_;rfl
theorem Xx(L:FS C)(x y:RF)(e:x.Ok)(i:y.Ok)(l:x.valid)(u:y.valid):pj.wp C (aW yz.res (aL (.bool (uO x y==0)))) (g_ [.agg x.cells,.agg y.cells]) .nil:=by
 simp only[go_sem,pj,yz];refine aD (L.order x y e i l u) rfl ?_;simp only[go_sem];refine eD ?_;rfl
theorem LY(n:Int):mkT n 1=⟨decide (n<0),aS n.natAbs,aS 1⟩:=by
 unfold mkT qQ FV.rf;rw[show(1:Int).natAbs=1 from rfl,Nat.gcd_one_right,Nat.div_one,Nat.div_one,show decide ((1:Int)<0)=false from rfl];congr 1;by_cases h:n<0;have:n.natAbs≠0:=Om;simp[h,this];simp[h]
theorem LX(n:Int)(h:eK n):(mkT n 1).Ok/\(mkT n 1).valid:=by
 have e:nl n.natAbs<=2:=xO (by unfold eK at h;omega);rw[LY];refine⟨⟨cA _,cA _,?_,?_⟩,?_⟩;simp only[cE];omega;simp only[CF];decide;unfold RF.valid;simp only[bZ];rw[wh];have:nl 1=1:=by rw[nl,CF];rfl
 simp[this];omega
def xC(x:RF):Int:=if val x.num=0 then 0 else if x.neg then -1 else 1
theorem Vy(x:RF):uO x (mkT 0 1)=xC x:=by
 rw[LY];unfold uO xC CZ;simp only[bZ,show(0:Int).natAbs=0 from rfl,Nat.mul_one,Nat.zero_mul];by_cases h:val x.num=0;simp[h,iV];cases x.neg<;>simp[h,iV]
def viS(r:Int):Spec:=λname _=>if name=47 then some ([],λ_=>aL (.agg (mkT 0 1).cells))else some ([],λ_=>aL (.int .i64 r))
theorem Xy(L:FS C)(x:RF)(l:x.Ok)(u:x.valid):pn.wp C (aW y6.res (aL (.j (xC x)))) (g_ [.agg x.cells]) .nil:=by
 have e:eK 0:=by unfold eK;omega
 have i:=L.order x (mkT 0 1) l (LX 0 e).1 u (LX 0 e).2;rw[Vy]at i;simp only[go_sem,pn,y6];refine bE .nil (viS (xC x)) a_ ?_;simp only[go_sem];refine cM rfl (L.int 0 e) rfl a_ ?_;simp only[go_sem];refine cM rfl i rfl a_ ?_;simp only[go_sem];refine eD ?_;rfl
theorem Sh(L:FS C)(l u:Bool)(a1 b1 a2 b2:N_)(S:Lim a1)(M:Lim b1)(U:Lim a2)(N:Lim b2)
  (V:Z' a1<=35184372087808) (O:Z' b1<=35184372087808) (W:Z' a2<=35184372087808) (R:Z' b2<=35184372087808) :
  VX.wp C (aW Ed.res (cY (frV (nU (l,val a1,val b1) (u,val a2,val b2))))) (g_ [.agg (pD l a1 b1),.agg (pD u a2 b2)]) .nil:=by
 have vx:aJ C 56 [.agg (pD l a1 b1)] .nil (aL (.bool (fT (val a1) (val b1)))):=L.valid ⟨l,a1,b1⟩ ⟨S,M,V,O⟩;have vy:aJ C 56 [.agg (pD u a2 b2)] .nil (aL (.bool (fT (val a2) (val b2)))):=L.valid ⟨u,a2,b2⟩ ⟨U,N,W,R⟩;simp only[go_sem,VX,Ed];refine aQ λo ho=>?_;simp only[go_sem];refine aD vx rfl ?_;simp only[nU];cases hv:fT (val a1) (val b1)with
 |false =>simp only[go_sem,aqI,aqD];refine vK ?_;simp only[go_sem]
 |true=>
  obtain⟨v1,v2,v3⟩:=mN.1 hv;simp only[go_sem,aqC];refine aD vy rfl ?_;cases hw:fT (val a2) (val b2)with
  |false =>simp only[go_sem,aqI,arE];refine vK ?_;simp only[go_sem]
  |true=>
   obtain⟨w1,w2,w3⟩:=mN.1 hw;simp only[go_sem,aqC,arY];refine bE .nil voS a_ ?_;simp only[go_sem];refine cM (CS a1 b2) (L.prod a1 b2 S N V R Om Om) rfl a_ ?_;simp only[go_sem];refine cM (CS a2 b1) (L.prod a2 b1 U M W O Om Om) rfl a_ ?_;simp only[go_sem];refine cM (CS b1 b2) (L.prod b1 b2 M N O R Om Om) rfl a_ ?_;simp only[go_sem];have m1:=zK v3 w2;have m2:=zK w3 v2;have m3:=zK v2 w2;have d0:val b1*val b2≠0:=Nat.mul_ne_zero v1 w1;generalize hA:val a1*val b2=A at *
   generalize hB:val a2*val b1=B at *
   generalize hD:val b1*val b2=D at *
   have fin:∀(F:PF)(H:PH)(r:FR),(∃i x y e,frV r=.tup [.agg (pD i x y),.j e]/\F 4=some (.ptr o 3 0 0)/\F 5=some (.j e)/\H o=some (.rows 3 [pD i x y]))->aW [.cell 4 (some 3),.tmp 5] (cY (frV r)) .ret F H:=by rintro F H r ⟨i,x,y,e,he,f4,f5,hH⟩;rw[he];exact bK (.inr rfl) .nil (vs:=[.agg (pD i x y),.j e]) (by simp only[go_sem,f4,f5,hH]) a_ ⟨.refl _,rfl⟩
   have eb:(l==u)=decide (l=u):=by cases l<;>cases u<;>rfl
   have low:∀neg x,nl x<=257->aJ C 58 [.bool neg,aY (aS x),aY (aS D)] .nil (aL (.agg (qQ neg x D).rf.cells)):=by
    intro neg x hx;have h1:(aS x).length<=35184372087808:=by rw[cE];omega
    have h2:(aS D).length<=35184372087808:=by rw[cE];omega
    have:=L.lowest neg (aS x) (aS D) (cA _) (cA _) h1 h2;rw[bZ,bZ]at this;exact this Om Om d0
   have K:∀neg x,aJ C 57 [.agg (qQ neg x D).rf.cells] .nil (aL (frV (qP neg x D))):=λneg x=>by
    have:=L.fits (qQ neg x D)
    rwa[Zm]at this
   have lA:(aS A).length<=35184372087808:=by rw[cE];omega
   have lB:(aS B).length<=35184372087808:=by rw[cE];omega
   try simp only[go_sem]
   by_cases c:l=u;rw[aE c];have Z:(l==u)=true:=by rw[eb,aZ c]
   simp only[go_sem,Z];have E:=L.add (aS A) (aS B) (cA _) (cA _) lA lB;have α:=P2 m1 m2;rw[bZ,bZ,vE Om Om,opV,nj Om]at E;refine aD E rfl ?_;simp only[go_sem];refine aD (low l _ Om) rfl ?_;simp only[go_sem];refine aD (K l _) rfl ?_;obtain⟨i,x,y,e,w⟩:=qt (qP l (A+B) D);rw[w];simp only[go_sem];rw[<-w];exact fin _ _ _ ⟨i,x,y,e,w,s_,s_,s_⟩;rw[aC c];have Z:(l==u)=false:=by rw[eb,bG c]
   simp only[go_sem,Z];have hc:=L.cmp (aS A) (aS B) (cA _) (cA _) lA lB;rw[bZ,bZ]at hc;refine aD hc rfl ?_;have J:∀X Y:Nat,nl X<=256->nl Y<=256->Y<=X->aJ C 37 [aY (aS X),aY (aS Y)] .nil (aL (.tup [aY (aS (X-Y)),.j 0])):=by intro X Y h1 h2 h;have:=L.sub (aS X) (aS Y) (cA _) (cA _) (by rw[cE];omega) (by rw[cE];omega);have h3:=pQ (Om:X-Y<=X);rw[bZ,bZ,Mi,vE Om Om,aC aT,aC Om,nj Om]at this;exact this
   by_cases g:B<=A;have g':iV A B>=0:=(Gx A B).2 g;rw[aE g];simp only[go_sem,g'];refine aD (J A B Om Om g) rfl ?_;simp only[go_sem];have h3:=pQ (Om:A-B<=A);refine aD (low l (A-B) Om) rfl ?_;simp only[go_sem];refine aD (K l _) rfl ?_;obtain⟨i,x,y,e,w⟩:=qt (qP l (A-B) D);rw[w];simp only[go_sem];rw[<-w];exact fin _ _ _ ⟨i,x,y,e,w,s_,s_,s_⟩;have g':¬iV A B>=0:=λh=>g ((Gx A B).1 h);rw[aC g];simp only[go_sem,g'];refine aD (J B A Om Om Om) rfl ?_;simp only[go_sem];have h3:=pQ (Om:B-A<=B);refine aD (low u (B-A) Om) rfl ?_;simp only[go_sem];refine aD (K u _) rfl ?_;obtain⟨i,x,y,e,w⟩:=qt (qP u (B-A) D);rw[w];simp only[go_sem];rw[<-w];exact fin _ _ _ ⟨i,x,y,e,w,s_,s_,s_⟩
theorem acL(L:FS C)(x y:RF)(e:x.Ok)(i:y.Ok):VX.wp C (aW Ed.res (cY (frV (nU x.v y.v)))) (g_ [.agg x.cells,.agg y.cells]) .nil:=
 Sh L x.neg y.neg x.num x.den y.num y.den e.1 e.2.1 i.1 i.2.1 e.2.2.1 e.2.2.2 i.2.2.1 i.2.2.2
structure I4(C:Ctx):Prop extends FS C where
 less:∀x y:RF,x.Ok->y.Ok->x.valid->y.valid->aJ C 49 [.agg x.cells,.agg y.cells] .nil (aL (.bool (decide (uO x y<0))))
 same:∀x y:RF,x.Ok->y.Ok->x.valid->y.valid->aJ C 53 [.agg x.cells,.agg y.cells] .nil (aL (.bool (uO x y==0)))
 sign:∀x:RF,x.Ok->x.valid->aJ C 54 [.agg x.cells] .nil (aL (.int .i64 (xC x)))
 plus:∀x y:RF,x.Ok->y.Ok->aJ C 46 [.agg x.cells,.agg y.cells] .nil (aL (frV (nU x.v y.v)))
def vsF(l:List RF)(o2 o4 k:Nat):PF:=((((n_.set 0 (frs l)).set 2 (.ptr o2 3 0 0)).set 4 (.ptr o4 3 0 0)).set 5 (.int .i64 k))
theorem acN(L:I4 C)(l:List RF)(hl:∀x∈l,x.Ok)(W:Z' l<=9223372036854775807) :
  wj.wp C (aW BB.res (cY (frV (AA (l.map RF.v))))) (g_ [frs l]) .nil:=by
 have Z:eK 0:=by unfold eK;omega
 have hi:(mkT 0 1).cells=(FV.rf (false,0,1)).cells:=by rw[LY];rfl
 have B:=L.int 0 Z;rw[hi]at B;simp only[go_sem,wj,Iq,BB];refine aQ λo2 β=>?_;have h1:aO (h_.set o2 (.rows 3 [[.bool false,.aG,.aG]])) [(o2,.rows 3 [[.bool false,.aG,.aG]])] []:=aO.nil.new (H:=h_) rfl _;generalize(h_.set o2 _)=H1 at *
 simp only[go_sem,Ir];refine aD B rfl ?_;simp only[go_sem];refine aQ λo4 U=>?_;have h2:=h1.new U (.rows 3 [(FV.rf (false,0,1)).cells]);simp only[go_sem,Is];refine wp_loop (α:=Nat × FV × PH) (λt=>vsF l o2 o4 t.1) (λt=>t.2.2) (λt=>t.1<=Z' l/\((l.map RF.v).take t.1).foldlM nU (false,0,1)=.ok t.2.1/\aO t.2.2 [(o2,.rows 3 [[.bool false,.aG,.aG]]),(o4,.rows 3 [(FV.rf t.2.1).cells])] []/\(FV.rf t.2.1).Ok) (λt=>Z' l-t.1)
  (0,(false,0,1),_) ⟨apR _,rfl,h2,⟨cA _,cA _,?_,?_⟩⟩ ?_ b_ ?_
 ·show(aS 0).length<=_;rw[jT];simp
 ·show(aS 1).length<=_;rw[CF];simp
 ·unfold vsF;exact Lq
 rintro⟨k,u,V⟩ ⟨hk,M,E,y⟩;simp only at hk M E y ⊢;simp only[go_sem,Ip,It,vsF,apP];by_cases hlt:k<Z' l
 ·have w:(k:Int)<(Z' l:Nat):=Om;have hr:(l.map RF.cells)[k]?=some (l[k]).cells:=by simp[hlt]
  have A:=L.plus (FV.rf u) l[k] y (hl _ (apW hlt));rw[FV.amH]at A;have i:=E5 (f:=nU) (l.map RF.v) (false,0,1) (k:=k) (by simpa using hlt);rw[M]at i;simp only[Except.bind,arI]at i;have N:=E.at 1 rfl;simp only[go_sem,w];refine bE .nil (λ_ _=>some ([],λ_=>aL (frV (nU u (l[k]).v)))) a_ ?_;simp only[go_sem,Iu,N,hr];refine cM rfl A rfl a_ ?_;cases he:nU u (l[k]).v with
  |error e=>
   have S:e≠0:=by
    revert he;obtain⟨n1,a1,b1⟩:=u;obtain⟨n2,a2,b2⟩:=(l[k]).v;simp only[nU,qP]
    repeat' split
    all_goals (intro h;first|(injection h with h;subst h;decide)|cases h)
   rw[he]at i;simp only[go_sem,frV];refine aQ λo6 D=>?_;simp only[go_sem];refine⟨a_,?_⟩;have F:=E.new D (.rows 3 [[.bool false,aY [],aY []]]);have e2:=F.at 0 rfl;simp only[go_sem,sy,cX S,Iv,e2];rw[AA,J5 _ _ i];refine vK ?_;simp only[go_sem]
  |ok r=>
   rw[he]at i;obtain⟨rn,J,K⟩:=r;simp only[go_sem,frV];refine aQ λo6 D=>?_;simp only[go_sem];refine⟨a_,?_⟩;have F:=E.new D (.rows 3 [(FV.rf (rn,J,K)).cells]);have Y:=F.at 2 rfl;have O:=F.at 1 rfl;generalize hG:V.set o6 (.rows 3 [(FV.rf (rn,J,K)).cells])=X at *
   have R:V.set o6 (.rows 3 [[.bool rn,aY (aS J),aY (aS K)]])=X:=hG;simp only[go_sem,sy,Iw,R,Y,O,Ix,wZz k];have h7:=(F.set 1 rfl (.rows 3 [(FV.rf (rn,J,K)).cells])).wW 2;refine aF (k+1,(rn,J,K),_) ⟨hlt,i,h7,Gn he⟩ sO_ ?_ b_;exact Lq
 ·have w:¬(k:Int)<(Z' l:Nat):=Om;have:k=Z' l:=Om;subst this;rw[aqR aX]at M;rw[AA,M];have e2:=E.at 0 rfl;have N:=E.at 1 rfl;obtain⟨n,a,b⟩:=u;simp only[go_sem,w,Ek,N,e2];exact bK (.inr rfl) .nil (vs:=[.agg (FV.rf (n,a,b)).cells,.j 0]) Sq a_ ⟨.refl _,rfl⟩





















def jm:=bV [] Proofs.Tryz.f4
def MV:=cF jm






theorem aO.aiS{F:PF}{H:PH}{B:List BX}{L:List LI}{args:List aP}{d:O_}{K:K_}(h:aO H B L){l:N_}(w:aJ C 28 [.sl 1 (kL l)] .nil (qc l))(i:aP.evs F args=some [.sl 1 (kL l)])(u:∀o v H',Tp (l.take 400) v->aO H' (B++[(o,bD v 0)]) L->K (F.put d (.ptr o 2 0 0)) H'):jX C 28 args [] d K F H:=by
 refine jG w i a_ ?_;rintro r H' ⟨o,v,rfl,T,rfl⟩ e;rw[PH.uP];exact u o v _ T (h.new (e o (bD v 0) (by rw[bL]) rfl) _)
def wK(l:N_):Nat × Nat:=aH l 5 0
def rI(l:N_):Nat × Nat:=aH l 2 (wK l).2
def rdF(l:N_)(d v:Nat):aB × Nat:=iJ l d v (rI l).2
def rdR(l:N_)(d v:Nat):I_ × Nat:=tR l (rdF l d v).1 (rdF l d v).2
theorem Wc(l:N_)(f:aB){a:Nat}(h:a<=Z' l):(tR l f a).2<=Z' l:=by
 have e:=bN l 4 h;unfold tR;simp only;split;exact e;exact(US l e _).1
theorem Yn(l:N_)(d v:Nat):(rI l).2<=Z' l/\(rdF l d v).2<=Z' l/\(rdR l d v).2<=Z' l:=by
 have u:=bN l 5 (apR l.length);have e:(rI l).2<=Z' l:=bN l 2 u;have i:(rdF l d v).2<=Z' l:=O2 l d v e;exact⟨e,i,Wc l _ i⟩
def xn(l:N_)(d e:Nat)(r:PV)(H:PH):Prop:=∃o v,r=.tup [.agg (rdF (l.take 400) d e).1.cells,vJ (1+(wK (l.take 400)).1:Nat) (1+(rI (l.take 400)).1:Nat),ints (rdR (l.take 400) d e).1,.ptr o 2 0 0]/\Tp (l.take 400) v/\H=h_.set o (bD v (rdR (l.take 400) d e).2)
structure Nl(C:Ctx):Prop where
 new:∀(l:N_),(∀x∈l,x<256)->Z' l<=9223372036854775807->aJ C 28 [.sl 1 (kL l)] .nil (qc l)
 tfleet:∀(l:N_)(v:PV),Tp l v->∀(o aoC aoE a:Nat),aoC<=60->aoE<=50->a<=Z' l ->
  aJ C 0 [.ptr o 2 0 0,.int .i64 aoC,.int .i64 aoE] (h_.set o (bD v a)) (λr H=>r=.agg (iJ l aoC aoE a).1.cells/\H=h_.set o (bD v (iJ l aoC aoE a).2))
 JI:∀(l:N_)(v:PV),Tp l v->∀(o a:Nat)(f:aB),Z' f.aoC<=1000->a<=Z' l->aJ C 6 [.ptr o 2 0 0,.agg f.cells] (h_.set o (bD v a)) (λr H=>r=ints (tR l f a).1/\H=h_.set o (bD v (tR l f a).2))
 next:∀(l:N_)(v:PV),Tp l v->∀(o n a:Nat),n<=1000000->a<=Z' l->aJ C 4 [.ptr o 2 0 0,.int .i64 n] (h_.set o (bD v a)) (λr H=>r=.int .i64 ((aH l n a).1:Nat)/\H=h_.set o (bD v (aH l n a).2))
theorem Tg(F:Nl C)(l:N_)(hb:∀x∈l,x<256)(hl:Z' l<=9223372036854775807)(d u:Nat)(hd:d<=24)(S:u<=12) :
  MV.wp C (aW jm.res (xn l d u)) (g_ [.sl 1 (kL l),.j (d:Nat),.j (u:Nat)]) .nil:=by
 have R:=cJ (l.take 400) (n:=5) aT 0;have i1:=bN (l.take 400) 5 (apR _);have O:=cJ (l.take 400) (n:=2) aT (wK (l.take 400)).2;obtain⟨i2,i3,i4⟩:=Yn (l.take 400) d u;obtain⟨hv,hf⟩:=GL (l.take 400) d u (rI (l.take 400)).2 hd S;have β:=(VF.of hv).small.aoC;have X:=λv T o=>F.next (l.take 400) v T o 5 0 aT (apR _);have Y:=λv T o=>F.next (l.take 400) v T o 2 (wK (l.take 400)).2 aT i1;have Z:=λv T o=>F.tfleet (l.take 400) v T o d u (rI (l.take 400)).2 Om Om i2;have k3:=λv T o=>F.JI (l.take 400) v T o (rdF (l.take 400) d u).2 (rdF (l.take 400) d u).1 (by show(iJ (l.take 400) d u (rI (l.take 400)).2).1.aoC.length<=1000;omega) i3;unfold xn;show MV.wp C (aW jm.res (λr H=>∃o v,r=.tup [.agg (rdF (l.take 400) d u).1.cells,vJ (1+(wK (l.take 400)).1:Nat) (1+(rI (l.take 400)).1:Nat),ints (rdR (l.take 400) d u).1,.ptr o 2 0 0]/\Tp (l.take 400) v/\H=h_.set o (bD v (rdR (l.take 400) d u).2))) _ _;change ∀v,Tp (l.take 400) v->∀o,aJ C 4 [.ptr o 2 0 0,.j 5] (h_.set o (bD v 0)) (λr H=>r=.j ((wK (l.take 400)).1:Nat)/\H=h_.set o (bD v (wK (l.take 400)).2))at X;change ∀v,Tp (l.take 400) v->∀o,aJ C 4 [.ptr o 2 0 0,.j 2] (h_.set o (bD v (wK (l.take 400)).2)) (λr H=>r=.j ((rI (l.take 400)).1:Nat)/\H=h_.set o (bD v (rI (l.take 400)).2))at Y;change ∀v,Tp (l.take 400) v->∀o,aJ C 0 [.ptr o 2 0 0,.j (d:Nat),.j (u:Nat)] (h_.set o (bD v (rI (l.take 400)).2)) (λr H=>r=.agg (rdF (l.take 400) d u).1.cells/\H=h_.set o (bD v (rdF (l.take 400) d u).2))at Z;change ∀v,Tp (l.take 400) v->∀o,aJ C 6 [.ptr o 2 0 0,.agg (rdF (l.take 400) d u).1.cells] (h_.set o (bD v (rdF (l.take 400) d u).2)) (λr H=>r=ints (rdR (l.take 400) d u).1/\H=h_.set o (bD v (rdR (l.take 400) d u).2))at k3;change(wK (l.take 400)).1<5 at R;change(rI (l.take 400)).1<2 at O;generalize(rdR (l.take 400) d u).1=room at *
 generalize(rdR (l.take 400) d u).2=L at *
 generalize(rdF (l.take 400) d u).2=af at *
 generalize(rdF (l.take 400) d u).1=f at *
 generalize(rI (l.take 400)).2=ac at *
 generalize(wK (l.take 400)).2=al at *
 generalize(rI (l.take 400)).1=E at *
 generalize(wK (l.take 400)).1=lv at *
 have w1:i_.wrap (1+((lv:Nat):Int))=((1+lv:Nat):Int):=wO_
 have w2:i_.wrap (1+((E:Nat):Int))=((1+E:Nat):Int):=wO_
 simp only[go_sem,MV,jm];refine aO.nil.SL λo6 H1 h1=>?_;simp only[go_sem];refine h1.SL λo7 H2 h2=>?_;simp only[go_sem];refine h2.aiS (F.new l hb hl) Sq λo v H3 T h3=>?_;simp only[go_sem];refine h3.D5 2 rfl (X v T o) Sq λH4 h4=>?_;simp only[go_sem,w1];refine h4.D5 2 rfl (Y v T o) Sq λH5 h5=>?_;simp only[go_sem,w2];refine h5.SL λB H6 V=>?_;have e6:=V.at 3 rfl;have h7:=V.set 3 rfl (.rows 2 [[.j ((1+lv:Nat):Int),.j ((1+E:Nat):Int)]]);simp only[go_sem,e6];generalize H6.set B _=H7 at *
 try simp only[go_sem]
 refine h7.D5 2 rfl (Z v T o) Sq λH8 h8=>?_;simp only[go_sem];refine h8.SL λD H9 W=>?_;have e9:=W.at 4 rfl;have i:=W.set 4 rfl (.rows 7 [f.cells]);simp only[go_sem,e9];generalize H9.set D _=M at *
 have J:=i.at 4 rfl;have N:=i.at 3 rfl;have go:=i.at 2 rfl;have m1:=i.ne 2 3 rfl rfl aT;have m2:=i.ne 2 4 rfl rfl aT;have m3:=i.ne 0 3 rfl rfl aT;have m4:=i.ne 0 4 rfl rfl aT;have m5:=i.ne 1 3 rfl rfl aT;have m6:=i.ne 1 4 rfl rfl aT;have m7:=i.ne 3 4 rfl rfl aT;have m8:=i.ne 0 1 rfl rfl aT;have m9:=i.ne 0 2 rfl rfl aT;have γ:=i.ne 1 2 rfl rfl aT;have g6:=i.at 0 rfl;have g7:=i.at 1 rfl;refine bE ((h_.set D (.rows 7 [f.cells])).set B (.rows 2 [[.j ((1+lv:Nat):Int),.j ((1+E:Nat):Int)]])) (λ_ _=>some ([o],λ_ r H'=>r=ints room/\H'=h_.set o (bD v L))) (c_ (c_ a_ J) N) ?_;have U:¬D=B:=λe=>m7 e.symm;simp only[go_sem,U,J];have w:=i.set 2 rfl (bD v L);refine Ah rfl go (k3 v T o) ⟨rfl,rfl⟩ (λr' H' h=>h) Sq (c_ (c_ a_ (w.at 4 rfl)) (w.at 3 rfl)) ?_;generalize M.set o (bD v L)=α at *
 have q6:=w.at 0 rfl;have y:=w.set 0 rfl (.rows 7 [f.cells]);simp only[go_sem,q6];refine⟨c_ (c_ a_ (y.at 4 rfl)) (y.at 3 rfl),?_⟩;have q7:=w.at 1 rfl;have K:¬o7=o6:=λe=>m8 e.symm;have A:=y.set 1 rfl (.rows 2 [[.j ((1+lv:Nat):Int),.j ((1+E:Nat):Int)]]);simp only[go_sem,K,q7];refine⟨c_ (c_ a_ (A.at 4 rfl)) (A.at 3 rfl),?_⟩;exact bK (.inr rfl) (h_.set o (bD v L)) (vs:=[.agg f.cells,vJ (1+lv:Nat) (1+E:Nat),ints room,.ptr o 2 0 0]) (by simp only[go_sem,m8,K]) (c_ a_ (A.at 2 rfl)) ⟨o,v,rfl,T,rfl⟩
def lz:=bV [1] Proofs.Tryz.f44
def ZC:=cF lz
def l6:=bV [2] Proofs.Tryz.f46
def ZD:=cF l6
def ly:=bV [2,78,115] Proofs.Tryz.f45
def ZA:=cF ly
def HC:=bV [1] Proofs.Tryz.f16
def ZB:=cF HC
def mb:=bV [3] Proofs.Tryz.f41
def PE:=cF mb
def Lo:=bV [2] Proofs.Tryz.f40
def va:=cF Lo
def mf:=bV [1] Proofs.Tryz.f17
def ZF:=cF mf
def jC:=bV [2,52,95,124,147] Proofs.Tryz.f15
def fg:=aA jC 8
def fh:=eH jC 3
def fi:=eH jC 4
def fj:=aA jC 11
def fa:aI:=(eN (aA jC 7) 59 2 fj (sq fg (jQ (aA jC 9) 72 (.region (aA jC 10)) (dq fh (.draw fi)))))
def fc:aI:=(eN (aA jC 13) 102 4 (aA jC 15) (sq (aA jC 14) (.cond (Tm 108) (dq (eH jC 5) (.draw (eH jC 6))) .skip)))
def fe:aI:=(eN (aA jC 5) 28 0 (aA jC 16) (dq (eH jC 0) (.seq (dq (eH jC 1) (.draw (eH jC 2))) (.seq (dF (aA jC 6) 2 fa) (dF (aA jC 12) 4 fc)))))
def ff:aI:=(eN (aA jC 19) 134 6 (aA jC 20) (dq (eH jC 7) (.draw (eH jC 8))))
def vd:aI:=(sq (aA jC 0) (pI (aA jC 1) 16 (aA jC 2) (sq (aA jC 3) (.seq (dF (aA jC 4) 0 fe) (sq (aA jC 17) (.seq (dF (aA jC 18) 6 ff) (sq (aA jC 21) .ret)))))))
def rH:=bV [3,4,70] Proofs.Tryz.f18
def ef:aI:=(eN (aA rH 6) 44 2 (aA rH 8) (dq (eH rH 1) (.cond (Tm 62) (.region (aA rH 7)) .skip)))
def el:=aA rH 10
def vb:aI:=(sq (aA rH 0) (sq (aA rH 1) (.seq (dF (aA rH 2) 0 (eN (aA rH 3) 19 0 (aA rH 9) (dq (eH rH 0) (jQ (aA rH 4) 39 (.exit 1) (dF (aA rH 5) 2 ef))))) (sq el .ret))))
def me:=bV [2] Proofs.Tryz.f5
def ZE:=cF me
def uZ(H:PH)(s:Nat)(q:Nat)(v:PV)(rows:P2_):Prop:=
 ∃rs off,v=.osl q s off rows.length/\H q=some (.rows s rs)/\off+Z' rows<=Z' rs/\(rs.drop off).take rows.length=rows
section
variable {H:PH} {s b q:Nat} {v y:PV} {rows src:P2_}
theorem uZ.view(h:uZ H s q v rows):dH H s v=some rows:=by
 obtain⟨rs,off,rfl,e,i,l⟩:=h;simp only[dH,if_true,e,true_and,aE i,l]
theorem uZ.ext{H':PH}(h:uZ H s q v rows)(w:∀x,H q=some x->H' q=some x):uZ H' s q v rows:=by
 obtain⟨rs,off,e,i,l,u⟩:=h;exact⟨rs,off,e,w _ i,l,u⟩
theorem uZ.tail{r:V_}(h:uZ H s q v (r::rows)):∃v',PV.slice s v 1 ((Z' rows+1:Nat):Int) none=some v'/\uZ H s q v' rows:=by
 obtain⟨rs,off,rfl,i,l,e⟩:=h;rw[aqV]at l e;refine⟨.osl q s (off+1) rows.length,?_,rs,off+1,rfl,i,by omega,?_⟩;unfold PV.slice;show(if s=s/\(0:Int)<=1/\(1:Int)<=((Z' rows+1:Nat):Int)/\((Z' rows+1:Nat):Int)<=((r::rows).length:Nat)/\((none:Option Int)=none\/(none:Option Int)=some ((Z' rows+1:Nat):Int))then some (PV.osl q s (off+(1:Int).toNat) (((Z' rows+1:Nat):Int).toNat-(1:Int).toNat))else none)=_;rw[aE ⟨rfl,by omega,by omega,by rw[aqV];omega,.inl rfl⟩];rfl;have:=congrArg (List.drop 1) e;rw[List.drop_take,List.drop_drop,Nat.add_sub_cancel]at this;exact this
theorem uZ.append{K:R_}(h:uZ H s q v rows)(N:dH H s y=some src)(M:roomFor rows.length src.length b)
  (L:∀F v' H',uZ H' s F v' (rows++src)->(F=q\/H F=none)->(∀o x,o≠q->H o=some x->H' o=some x)->(∀o,o≠F->H o=none->H' o=none)->K v' H'):kM H s b v y K:=by
 obtain⟨rs,off,rfl,J,E,B⟩:=h;have w:(rows++src).length=Z' rows+Z' src:=apV;have D:∀off,off+Z' rows<=Z' rs->(rs.drop off).take rows.length=rows->K (.osl q s off (Z' rows+Z' src)) (H.set q (.rows s (rs.take (off+Z' rows)++src))):=λoff E B=>by
  refine L q _ _ ⟨rs.take (off+Z' rows)++src,off,by rw[w],by simp only[aM,if_true],by rw[apV,apV,aqF];omega,?_⟩ (.inl rfl) (λo x i u=>by simp only[aM,aC i,u]) λo i u=>by simp only[aM,aC i,u]
  have e:(rs.take (off+Z' rows)).drop off=rows:=by rw[List.drop_take,Nat.add_sub_cancel_left,B]
  rw[List.drop_append_of_le_length (by rw[aqF];omega),e];exact aqO
 have A:∀o,H o=none->K (.osl o s 0 (Z' rows+Z' src)) (H.set o (.rows s (rows++src))):=λo u=>by
  refine L o _ _ ⟨rows++src,0,by rw[w],by simp only[aM,if_true],by omega,by rw[asN,aqO]⟩ (.inr u) (λo' x i l=>?_) λo' i l=>by simp only[aM,aC i,l]
  have:o'≠o:=by rintro rfl;rw[u]at l;cases l
  simp only[aM,aC this,l]
 cases off with
 |zero=>
  refine⟨src,N,rfl,rfl,M,rs,J,by omega,?_,λo u=>?_⟩;have:=D 0 E B
  rwa[aqA]at this
  rw[asN]at B;rw[B];exact A o u
 |succ off =>refine⟨src,N,rfl,M,rs,J,E,D _ E B,λo u=>?_⟩;rw[B];exact A o u
end
theorem Gq{l:List dD}{k:Nat}(h:k<Z' l):(l.map dD.cells)[k]?=some (l[k]).cells:=by simp[h]
abbrev aiM(n:dK):aR:=.rows 4 [n.cells]
abbrev gZ(N:Nat)(v:PV):aR:=.rows 4 [[.int .i64 (N:Nat),.int .i64 0,.int .i64 1,v]]
def akS(f:aB)(room:I_):Prop:=∃u,DC f room u

def EP(f:aB)(a:dD):Nat:=(a.src-2-Z' f.aoE)/(Z' f.aoF-1)
def UK(f:aB)(v:Nat)(a:dD)(x:Nat):Bool:=decide (cU f 0<=a.dst)&&(decide (x≠0)&&decide (EP f a=v))
def zR(f:aB)(v:Nat)(a:dD)(x:Nat):I_:=if UK f v a x=true then[((a.dst-cU f 0:Nat):Int)]else[]
def lZ(f:aB)(v:Nat):List dD->N_->I_
 |a::l,x::xs=>zR f v a x++lZ f v l xs
 |_,_=>[]
def zB(f:aB)(l:List dD)(xs:N_):L2_:=(apQ f.aoE.length).map λv=>lZ f v l xs
theorem uS(f:aB)(v:Nat):∀{u:List dD}{w:N_}(e:List dD)(i:N_),Z' u=Z' w->lZ f v (u++e) (w++i)=lZ f v u w++lZ f v e i
 |[],[],e,i,_=>rfl
 |a::l,x::xs,e,i,h=>by rw[asV,asV,lZ,lZ,uS f v e i (by simpa using h),aqT]
theorem IX{α:Type}(f:aB)(v:Nat)(a:α->dD)(x:α->Nat):∀(L:List α),lZ f v (L.map a) (L.map x)=L.flatMap λk=>zR f v (a k) (x k)
 |[]=>rfl
 |k::L=>by rw[aqQ,aqQ,lZ,IX f v a x L,atH]
theorem flatMap_nil{α β:Type}{g:α->List β}:∀{L:List α},(∀k∈L,g k=[])->L.flatMap g=[]
 |[],_=>rfl
 |k::L,h=>by rw[atH,h k aX,flatMap_nil λj e=>h j (by simp[e])];rfl
theorem YN{β:Type}{R:List β}{v:Nat}:∀{n:Nat},v<n->((apQ n).flatMap λk=>if k=v then R else[])=R
 |0,h=>by omega
 |n+1,h=>by rw[arV,atX];by_cases e:v=n;subst e;rw[flatMap_nil λk i=>aC (by have:=aqN.1 i;omega)];simp;rw[YN (n:=n) Om];simp[show n≠v by omega]
theorem d8{f:aB}{v:Nat}{a:dD}{x:Nat}(h:a.dst<cU f 0):zR f v a x=[]:=by
 unfold zR UK;rw[bG Om,aqD];rfl
theorem Ej{f:aB}(h:VF f){v d:Nat}(i:d<Z' f.aoC):EP f (iP f v d)=v:=by
 have w:=(h.drive d i).2.2.2;have x:=w.2;have y:=h.root;have l:cD f d≠0:=λe=>by have u:=(h.drive d i).2.2.2.2;rw[e]at u;have:=y.2.1;omega
 have hlt:cD f d<Z' f.aoF:=by have:=(h.drive d i).2.2;omega
 unfold EP iP dM;simp only;rw[aC l,show 2+Z' f.aoE+v*(Z' f.aoF-1)+cD f d-1-2-Z' f.aoE=(cD f d-1)+v*(Z' f.aoF-1) by omega,Nat.add_mul_div_right _ _ Om,auC Om,aqA]
theorem abO{f:aB}(h:VF f)(s:Nat->Nat)(g u:Nat->Nat->Nat){v w:Nat}(B:w<Z' f.aoE):lZ f v (iF f w) (uV f s g u w)=if w=v then sN f (nB f u) v else[]:=by
 unfold iF uV;rw[lZ,d8 (by have:=mD h B h.root.1;simp only[dM,if_true]at this;exact this.2),atL,uS _ _ _ _ aX,IX,IX];rw[flatMap_nil λk D=>d8 (by have:=aqN.1 D;exact(mD (i:=k+1) h B Om).2),atL];by_cases e:w=v;subst e;rw[aE rfl];unfold sN cT;have:∀L:N_,(∀d∈L,d<Z' f.aoC)->((L.filter (okD f w)).flatMap λd=>zR f w (iP f w d) (u w d))=(L.filter (nB f u w)).map (λd:Nat=>(d:Int)):=by
  intro L
  induction L with
  |nil=>intro _;rfl
  |cons d L x=>
   intro y;have l:=y d aX;have x:=x λd l=>y d (by simp[l]);rw[List.filter_cons,List.filter_cons];cases A:okD f w d with
   |false=>rw[show nB f u w d=false by unfold nB;rw[A];rfl];exact x
   |true=>
    have hp:UK f w (iP f w d) (u w d)=nB f u w d:=by unfold UK nB;rw[Ej h l,A,aZ rfl,arY,aZ (show cU f 0<=(iP f w d).dst by show cU f 0<=cU f d;unfold cU;omega)]
    rw[aE rfl,atH,x];unfold zR;rw[hp];cases nB f u w d with
    |false=>rfl
    |true =>rw[aE rfl,aE rfl,aqQ,show(iP f w d).dst-cU f 0=d by show cU f d-cU f 0=d;unfold cU;omega];rfl
 exact this _ λd l=>aqN.1 l;rw[aC e];refine flatMap_nil λd l=>?_;have l:=aqN.1 (asQ.1 l).1;unfold zR UK;rw[Ej h l,bG e,arE,arE];rfl
theorem Uw{f:aB}(h:VF f)(room:I_)(s:Nat->Nat)(g e:Nat->Nat->Nat)(t:Nat->Nat):zB f (iD f room) (sG f s g e t)=AN f (nB f e):=by
 unfold zB AN;refine arQ λv i=>?_;have i:=aqN.1 i;have u:∀L:N_,(∀w∈L,w<Z' f.aoE)->(L.flatMap (iF f)).length=(L.flatMap (uV f s g e)).length/\lZ f v (L.flatMap (iF f)) (L.flatMap (uV f s g e))=L.flatMap λw=>if w=v then sN f (nB f e) v else[]:=by
  intro L
  induction L with
  |nil=>intro _;exact⟨rfl,rfl⟩
  |cons w L B =>intro x;obtain⟨y,A⟩:=B λw l=>x w (by simp[l]);refine⟨?_,?_⟩;rw[atH,atH,apV,apV,y,BA f s g e w];rw[atH,atH,atH,uS _ _ _ _ (BA f s g e w),A,abO h s g e (x w aX)]
 obtain⟨D,E⟩:=u (apQ f.aoE.length) λw l=>aqN.1 l;unfold iD sG;rw[uS _ _ _ _ D,E,YN i,IX,flatMap_nil,aqY];intro d _;exact d8 (by show 1<cU f 0;unfold cU;omega)
structure adE where
 vols:List Bool
 aoM:List (List Bool)
 aoW:List Bool
def adE.shape(f:aB)(c:adE):Bool:=decide (Z' c.vols=Z' f.aoE)&&(decide (Z' c.aoM=Z' f.aoE)&&(decide (Z' c.aoW=Z' f.aoC)&&c.aoM.all λr=>decide (Z' r=Z' f.aoF-1)))

theorem Hl{a b:Nat}(i:a<=100)(hb:b<=100):i_.wrap ((a:Int)*(b:Int))=((a*b:Nat):Int)/\a*b<=10000:=by
 have e:a*b<=100*100:=atU i hb;rw[<-Int.natCast_mul,wrap_i64 Om Om];exact⟨rfl,e⟩
theorem Vs{f:aB}(w:Small f){v i:Nat}(x:v<=100)(hi:i<=100)(e:i≠0)(A:0<Z' f.aoF) :
  i_.wrap (i_.wrap (i_.wrap (i_.wrap (2+(Z' f.aoE:Int))+i_.wrap ((v:Int)*i_.wrap ((Z' f.aoF:Int)-1)))+(i:Int))-1)=((dM f v i:Nat):Int):=by
 obtain⟨s1,s2,s3,s4,B,D⟩:=w;rw[wrap_i64 (n:=(Z' f.aoF:Int)-1) Om Om,show(Z' f.aoF:Int)-1=((Z' f.aoF-1:Nat):Int) by omega];obtain⟨l,y⟩:=Hl (a:=v) (b:=Z' f.aoF-1) x Om;rw[l];have u:dM f v i=2+Z' f.aoE+v*(Z' f.aoF-1)+i-1:=by unfold dM;rw[aC e]
 rw[u];generalize v*(Z' f.aoF-1)=z at *
 rw[wrap_i64 (n:=2+(Z' f.aoE:Int)) Om Om,wrap_i64 (n:=2+(Z' f.aoE:Int)+(z:Int)) Om Om,wrap_i64 (n:=2+(Z' f.aoE:Int)+(z:Int)+(i:Int)) Om Om,wrap_i64 Om Om];omega
theorem Zg{f:aB}(i:Small f){d:Nat}(u:d<=100) :
  i_.wrap (i_.wrap (2+i_.wrap ((Z' f.aoE:Int)*(Z' f.aoF:Int)))+(d:Int))=((cU f d:Nat):Int):=by
 obtain⟨s1,s2,s3,s4,w,x⟩:=i;obtain⟨e,l⟩:=Hl (a:=Z' f.aoE) (b:=Z' f.aoF) Om Om;rw[e];unfold cU;generalize f.aoE.length*Z' f.aoF=z at *
 rw[wrap_i64 (n:=2+(z:Int)) Om Om,wrap_i64 Om Om];omega
theorem V6(f:aB)(w:Small f)(u:0<Z' f.aoF)(v i:Nat)(x:v<=100)(hi:i<=100) :
  PE.wp C (aW mb.res (aL (.j ((dM f v i:Nat):Int)))) (g_ [.agg f.cells,.j (v:Nat),.j (i:Nat)]) .nil:=by
 by_cases l:i=0;subst l;have e:i_.wrap (2+(v:Int))=((2+v:Nat):Int):=wO_
 simp only[go_sem,PE,mb,Int.natCast_zero,cC (show((0:Nat):Int)=0 from rfl),e];refine eD ?_;rfl;have e:=Vs w x hi l u;simp only[go_sem,PE,mb,bJ (Om:¬((i:Nat):Int)=0),apP,e];refine eD ?_;rfl
theorem abH(f:aB)(l:Small f)(d:Nat)(i:d<=100):va.wp C (aW Lo.res (aL (.j ((cU f d:Nat):Int)))) (g_ [.agg f.cells,.j (d:Nat)]) .nil:=by
 have e:=Zg l i;simp only[go_sem,va,Lo,apP,e];refine eD ?_;rfl
theorem Yy{f:aB}(hV:VF f)(k:Nat)(i:k<=Z' f.aoE):dC (iQ f) k<=8*k:=by
 induction k with
 |zero=>exact apU _
 |succ k e =>have:=(wC hV (v:=k) Om).1;have:=e Om;rw[dC];omega
theorem Qr(u:∀(f:aB)(v:Nat),VF f->v<Z' f.aoE->aJ C 82 [.agg f.cells,.j (v:Nat)] .nil (aL (.j (kW f v))))(f:aB)(hV:VF f) :
  ZF.wp C (aW mf.res (aL (.j ((MN f:Nat):Int)))) (g_ [.agg f.cells]) .nil:=by
 have y:=hV.small.aoE;simp only[go_sem,ZF,mf];refine wp_loop (α:=Nat) (λk=>(((n_.set 1 (.aU f.cells)).set 3 (.j ((dC (iQ f) k:Nat):Int))).set 4 (.j (k:Nat)))) (λ_=>.nil) (λk=>k<=Z' f.aoE) (λk=>Z' f.aoE-k) 0 (apR _) (by(repeat' (first|exact d_|refine e_ ?_ ?_))<;>first|(simp only[go_sem,dC]<;>rfl)|rfl) a_ ?_;intro k w;simp only[go_sem,apP];by_cases hlt:k<Z' f.aoE;have i:(k:Int)<(Z' f.aoE:Nat):=Om;obtain⟨b1,b2,l,-⟩:=wC hV hlt;have x:=Yy hV k w;have e:i_.wrap (((dC (iQ f) k:Nat):Int)+kW f k)=((dC (iQ f) (k+1):Nat):Int):=by rw[dC,<-l,wrap_i64 Om Om];omega
 simp only[go_sem,i];refine aD (u f k hV hlt) rfl ?_;simp only[go_sem,e,wZz k];exact aF (k+1) hlt Om Lq a_;have i:¬(k:Int)<(Z' f.aoE:Nat):=Om;have:k=Z' f.aoE:=Om;subst this;simp only[go_sem,i];refine eD ?_;rfl
abbrev sS:aR:=.rows 4 [[.int .i64 0,.int .i64 0,.int .i64 0,.aG]]
abbrev HH(p:bY):aR:=.rows 17 [p.cells]
theorem aeE{a b:Nat}{x y:aR}(h:¬a=b):∃Hs:PH,Hs a=some x/\Hs b=some y/\∀H':PH,H' a=some x->H' b=some y->Hs.le H':=
 ⟨(h_.set a x).set b y,by rw[aM,aC h,bL],bL _ _,λH' e i=>c_ (c_ a_ e) i⟩
theorem zy(pre:List dD)(g:Nat->dD)(k:Nat):pre++(apQ (k+1)).map g=pre++(apQ k).map g++[g k]:=by
 rw[arV,aqP,aqT];rfl
theorem Bu{G F:PF}{i:Nat}{v:PV}(h:G.le F)(hi:G i=none):G.le (F.set i v):=λj x l=>by
 rw[mU];by_cases e:j=i;subst e;rw[hi]at l;cases l;rw[aC e];exact h j x l
theorem E4(p:Nat->Bool)(k:Nat):(apQ (k+1)).filter p=(apQ k).filter p++if p k=true then[k]else[]:=by
 rw[arV,List.filter_append,List.filter_cons,List.filter_nil]
theorem ou(f:aB)(k:Nat):(apQ (k+1)).flatMap (iF f)=(apQ k).flatMap (iF f)++iF f k:=by
 rw[arV,atX,atH,List.flatMap_nil,aqY]
theorem VZ{f:aB}(e:Small f):∀k,((apQ k).flatMap (iF f)).length<=k*65
 |0=>apU _
 |k+1=>by have i:=VZ e k;have l:=Eh f k;have u:=e.aoF;have w:=e.aoC;rw[ou,apV];omega
def Ck(f:aB)(room:I_):dK:=if cP f=true then jN f room else⟨0,0,0,[]⟩
def Vp(f:aB):Int:=if cP f=true then 0 else 1
def ru(f:aB)(room:I_):PV:=.tup [.agg (Ck f room).cells,.int .i64 (Vp f)]
theorem Ho{f:aB}(h:cP f=true)(room:I_):Ck f room=jN f room:=aE h
theorem Hn{f:aB}(h:cP f=true):Vp f=0:=aE h
theorem aaR{f:aB}(h:cP f=false):Vp f=1:=aC (by rw[h];decide)
theorem aaS{f:aB}(h:cP f=false)(room:I_):Ck f room=⟨0,0,0,[]⟩:=aC (by rw[h];decide)
theorem coL{a b:PV}(h:Co a b)(x y z w:PV):Co (.tup [.agg [x,y,z,a],w]) (.tup [.agg [x,y,z,b],w]):=by
 refine .tup rfl λj p q hp hq=>?_
 match j with
 |0=>
  cases hp;cases hq;refine .agg rfl λj p q hp hq=>?_
  match j with
  |0=>cases hp;cases hq;exact .refl _
  |1=>cases hp;cases hq;exact .refl _
  |2=>cases hp;cases hq;exact .refl _
  |3=>cases hp;cases hq;exact h
  |j+4=>cases hp
 |1=>cases hp;cases hq;exact .refl _
 |j+2=>cases hp
theorem G6{H:PH}{B:List BX}{v:PV}{rows:P2_}{a b c e:Int}(h:aO H B [(v,4,rows)]):uY (.tup [.agg [.j a,.j b,.j c,v],.j e]) H (cY (.tup [.agg [.j a,.j b,.j c,.sl 4 rows],.j e])):=by
 rcases h.own 0 rfl with⟨i,rfl⟩|⟨q,rs,rfl,_⟩
 subst i;exact .done (H2:=.nil) ⟨coL (.nil 4) _ _ _ _,rfl⟩ a_;obtain⟨rs,l,u,-,-,-⟩:=h.frz 0 rfl;refine .step l ?_;show uY (.tup [.agg [.j a,.j b,.j c,PV.cZ q 4 rs (.osl q 4 0 rows.length)],.j e]) _ _;rw[u];exact .done (H2:=.nil) ⟨.refl _,rfl⟩ a_
structure FQ(C:Ctx):Prop where
 node:∀(f:aB),Small f->0<Z' f.aoF->∀v i:Nat,v<=100->i<=100->aJ C 304 [.agg f.cells,.int .i64 (v:Nat),.int .i64 (i:Nat)] .nil (aL (.int .i64 ((dM f v i:Nat):Int)))
 drv:∀(f:aB),Small f->∀d:Nat,d<=100->aJ C 305 [.agg f.cells,.int .i64 (d:Nat)] .nil (aL (.int .i64 ((cU f d:Nat):Int)))
 total:∀f:aB,VF f->aJ C 306 [.agg f.cells] .nil (aL (.int .i64 ((MN f:Nat):Int)))
 qvalid:∀f:aB,f.Ok->aJ C 67 [.agg f.cells] .nil (aL (.bool (cP f)))
 allowed:∀(f:aB)(p:bY)(d:Nat),VF f->Fits p.aoD->d<Z' f.aoC->aJ C 77 [.agg p.cells,.agg f.cells,.int .i64 d] .nil (aL (.bool (p.aoD.contains ((mdl f d:Nat):Int))))
 qroom:∀(f:aB)(room:I_),f.Ok->aJ C 85 [.agg f.cells,ints room] .nil (aL (ints (qG f room)))
def quS(f:aB):Spec:=λname vs=>match name,vs with
 |304,[_,.int _ v,.int _ i]=>some ([],λ_=>aL (.int .i64 ((dM f v.toNat i.toNat:Nat):Int)))
 |305,[_,.int _ d]=>some ([],λ_=>aL (.int .i64 ((cU f d.toNat:Nat):Int)))
 |_,_=>none
section
variable {C:Ctx} {F:PF} {H Hs:PH} {st:Bool} {f:aB} {args:List aP} {d:O_} {K:K_}
theorem BY(l:FQ C)(y:Small f)(u:0<Z' f.aoF){v i:Nat}(A:v<=100)(hi:i<=100)(w:aP.evs F args=some [.agg f.cells,.j (v:Nat),.j (i:Nat)])(e:Hs.le H)(x:K (F.put d (.j ((dM f v i:Nat):Int))) H):dOp C Hs (quS f) st (.call 304 args) d K F H:=
 cM (v:=.j ((dM f v i:Nat):Int)) (by rfl) (l.node f y u v i A hi) w e x
theorem bj(l:FQ C)(x:Small f){i:Nat}(hi:i<=100)(u:aP.evs F args=some [.agg f.cells,.j (i:Nat)])(e:Hs.le H)(w:K (F.put d (.j ((cU f i:Nat):Int))) H):dOp C Hs (quS f) st (.call 305 args) d K F H:=
 cM (v:=.j ((cU f i:Nat):Int)) (by rfl) (l.drv f x i hi) u e w
end
theorem DD{H:PH}{B:List BX}{v:PV}{l:List dD}{K:R_}(a:dD)(h:aO H B [(v,4,l.map dD.cells)])(w:Z' l<=1000000)(u:∀q n H',aO H' B [(.osl q 4 0 n,4,(l++[a]).map dD.cells)]->K (.osl q 4 0 n) H'):kM H 4 32 v (.sl 4 [a.cells]) K:=by
 refine h.append 0 (src:=[a.cells]) rfl rfl (by unfold roomFor;rw[apP];simp only[aqH,maxLen];omega) λv' H' i e=>?_;obtain⟨q,hq⟩:=e aX;generalize((l.map dD.cells++[a.cells]).length)=n at hq;subst hq;refine u q n H' ?_;rw[aqP];exact i
structure QO where
 o:Nat
 z:Nat
 p:Nat
def nK(f:aB)(room:I_)(e:QO)(k:Nat):PF:=(((((n_.set 1 (ints room)).set 2 (.aU f.cells)).set 4 (.ptr e.z 4 0 0)).set 6 (.ptr e.o 4 0 0)).set 7 (.int .i64 (k:Nat)))
def HI(f:aB)(room:I_)(e:QO)(k i:Nat):PF:=((nK f room e k).set 8 (.ptr e.p 17 0 0)).set 9 (.int .i64 ((i+1:Nat):Int))
def ep(f:aB)(room:I_)(e:QO)(k i:Nat):PF:=((nK f room e k).set 8 (.ptr e.p 17 0 0)).set 11 (.int .i64 (i:Nat))
theorem Ft(f:aB)(p:bY){i:Nat}(hi:i<Z' f.aoF)(E:0<=lvl f i)(J:lvl f i<5){op:Nat}(K:K_)(F:PF)(H:PH)(x:F 2=some (.aU f.cells))(y:F 9=some (.j (i:Nat)))(h8:F 8=some (.ptr op 17 0 0))(u:H op=some (HH p))
  (w:∀e:PF,e 10=some (.j (p.spread (lvl f i).toNat))->(∀G:PF,G.le F->(∀j,62<=j->j<71->G j=none)->G 10=none->G.le e)->K e H):wpOps C fg K F H:=by
 have h5:lvl f i<((5:Nat):Int):=Om;simp only[go_sem,fg,x,y,h8,gD hi,zF hi,E,h5,Nat.mul_one];have B:lvl f i=0\/lvl f i=1\/lvl f i=2\/lvl f i=3\/lvl f i=4:=Om;have fin:∀e:PF,e 10=some (.j (p.spread (lvl f i).toNat))->(∀G:PF,G.le F->(∀j,62<=j->j<71->G j=none)->G 10=none->G.le e)->K e H:=w;clear w;rcases B with h|h|h|h|h
 all_goals
  rw[h]at fin ⊢;simp only[go_sem,u];refine fin _ rfl λG A D l=>?_
  repeat' (first|exact A|exact l|(exact D _ aT aT)|refine Bu ?_ ?_)
theorem Qo(Lb:FQ C){K:bT}[Up K](f:aB)(hV:VF f)(room:I_)(e:QO)(N k:Nat)(hk:k<Z' f.aoE)(pre:List dD)(γ:Z' pre<=900000){F:PF}{H:PH}{B:List BX}(v:PV)
  (D:B[0]?=some (e.p,HH (bF f k)))
  (w:aO H ((e.o,gZ N v)::B) [(v,4,pre.map dD.cells)]) (hF:(HI f room e k 0).le F)
  (hK:∀v' H',aO H' ((e.o,gZ N v')::B) [(v',4,(pre++(apQ (Z' f.aoF-1)).map (pB f k)).map dD.cells)]->K (.exit 2) ((nK f room e k).set 8 (.ptr e.p 17 0 0)) H'):aI.wp C (.loop fa) K F H:=by
 have R:=hV.small;have hr:=hV.root;have ε:=R.aoF;have ζ:=R.aoE;have δ:¬e.o=e.p:=w.ne 0 1 rfl D aT;refine wp_loop (α:=T3_) (λs=>HI f room e k s.1) (λs=>s.2.2) (λs=>s.1+1<=Z' f.aoF/\aO s.2.2 ((e.o,gZ N s.2.1)::B) [(s.2.1,4,(pre++(apQ s.1).map (pB f k)).map dD.cells)]) (λs=>Z' f.aoF-s.1) (0,v,H) ⟨by have:=hr.1;omega,by simpa using w⟩ hF b_ ?_;rintro⟨i,v,L⟩ ⟨hi,w⟩;simp only at hi w;simp only[go_sem,fa,HI,nK,apP];by_cases hlt:i+1<Z' f.aoF
 ·have u:((i+1:Nat):Int)<(Z' f.aoF:Nat):=Om;have Z:=fQ (Om:i+1<9223372036854775807);obtain⟨d1,d2,d3,d4,d5⟩:=hV.dom (i+1) Om hlt;have β:=hV.MB (Om:0<i+1) hlt;have A:L e.p=some (HH (bF f k)):=w.at 1 D;have V:L e.o=some (gZ N v):=w.at 0 rfl;obtain⟨b1,b2,b3,b4⟩:=wC hV hk;obtain⟨hp,he⟩:=kB hV hk;have x:=hV.aoP _ (apW hp);rw[he]at x;have U:i_.wrap ((bF f k).k+(bF f k).m)=((iQ f k:Nat):Int):=by rw[b3];exact wrap_i64 Om Om
  have η:=x.2.2.2.2.2.2.1 (lvl f (i+1)).toNat;have l:((BK f k (i+1):Nat):Int)=if(bF f k).spread (lvl f (i+1)).toNat=0 then((iQ f k:Nat):Int)else(bF f k).spread (lvl f (i+1)).toNat:=by
   unfold BK dR;split
   ·rfl
   ·omega
  simp only[go_sem,u];refine Ft f (bF f k) hlt Om Om (op:=e.p) _ _ _ rfl rfl rfl A λF1 y J=>?_;have Y:=J (HI f room e k i) (by(repeat' (first|exact d_|refine e_ ?_ ?_))<;>first|(simp only[go_sem,HI,nK]<;>rfl)|rfl) (λj O h2=>by have:j=62\/j=63\/j=64\/j=65\/j=66\/j=67\/j=68\/j=69\/j=70:=Om;rcases this with rfl|rfl|rfl|rfl|rfl|rfl|rfl|rfl|rfl<;>rfl) rfl
  clear J;have E:∀S:PF,((HI f room e k i).set 10 (.j ((BK f k (i+1):Nat):Int))).le S ->
    aI.wp C (.draw fh) (gH C (aI.wp C (.draw fi)) (fE 3 (gH C (aI.wp C (.region fj)) (fK (λs:T3_=>HI f room e k s.1) (λs=>s.2.2) (λs=>s.1+1<=Z' f.aoF/\aO s.2.2 ((e.o,gZ N s.2.1)::B) [(s.2.1,4,(pre++(apQ s.1).map (pB f k)).map dD.cells)]) (λs=>Z' f.aoF-s.1) (Z' f.aoF-i) K)))) S L:=by
   intro S X;refine mA _ (λ_ _ _ _ a b=>Up.up a b) X ?_;refine bE (h_.set e.o (gZ N v)) (quS f) (c_ a_ V) ?_;simp only[go_sem,fh,HI,nK,gD hlt,MA hlt,β];refine BY Lb R hr.1 (v:=k) (i:=jB f (i+1)) Om Om rfl (c_ a_ V) ?_;simp only[go_sem];refine BY Lb R hr.1 (v:=k) (i:=i+1) Om Om rfl (c_ a_ V) ?_;simp only[go_sem];refine DD (pB f k i) w (by rw[apV,apP,atT];omega) λq n H1 O=>?_;refine⟨c_ a_ (O.at 0 rfl),?_⟩;have W:=O.at 0 rfl;refine bE .nil cO a_ ?_;simp only[go_sem,fi,W];refine⟨a_,?_⟩;have h2:=O.set 0 rfl (gZ N (.osl q 4 0 n));simp only[go_sem,fj,Z];refine aF (i+1,.osl q 4 0 n,_) ⟨hlt,?_⟩ sO_ (by(repeat' (first|exact d_|refine e_ ?_ ?_))<;>first|(simp only[go_sem,HI,nK]<;>rfl)|rfl) b_;simp only;rw[zy];exact h2
  by_cases M:(bF f k).spread (lvl f (i+1)).toNat=0
  ·rw[aE M]at l;have f8:=Y 8 _ rfl;simp only[go_sem,y,cC M,f8,A,U];refine E _ (e_ ?_ (by simp only[go_sem,l]))
   repeat' (first|exact Y|refine Bu ?_ rfl)
  ·rw[aC M]at l;simp only[go_sem,y,bJ M];refine E _ (e_ ?_ (by simp only[go_sem,y,l]))
   repeat' (first|exact Y|refine Bu ?_ rfl)
 ·have u:¬((i+1:Nat):Int)<(Z' f.aoF:Nat):=Om;have:i=Z' f.aoF-1:=Om;subst this;simp only[go_sem,u];exact Up.up (by(repeat' (first|exact d_|refine e_ ?_ ?_))<;>first|(simp only[go_sem,HI,nK]<;>rfl)|rfl) (hK v L w)
theorem Qp(E:FQ C){K:bT}[Up K](f:aB)(hV:VF f)(room:I_)(e:QO)(N k:Nat)(hk:k<Z' f.aoE)(x:Fits (bF f k).aoD)(pre:List dD)(V:Z' pre<=900000){F:PF}{H:PH}{B:List BX}(v:PV)
  (R:B[0]?=some (e.p,HH (bF f k)))
  (u:aO H ((e.o,gZ N v)::B) [(v,4,pre.map dD.cells)]) (X:(ep f room e k 0).le F)
  (Y:∀v' H',aO H' ((e.o,gZ N v')::B) [(v',4,(pre++((apQ f.aoC.length).filter (okD f k)).map (iP f k)).map dD.cells)]->K (.exit 4) (nK f room e k) H'):aI.wp C (.loop fc) K F H:=by
 have A:=hV.small;have Z:=hV.root;have β:=A.aoF;have γ:=A.aoC;have δ:=A.aoE;refine wp_loop (α:=T3_) (λs=>ep f room e k s.1) (λs=>s.2.2) (λs=>s.1<=Z' f.aoC/\aO s.2.2 ((e.o,gZ N s.2.1)::B) [(s.2.1,4,(pre++((apQ s.1).filter (okD f k)).map (iP f k)).map dD.cells)]) (λs=>Z' f.aoC-s.1) (0,v,H) ⟨apR _,by simpa using u⟩ X b_ ?_;rintro⟨i,v,D⟩ ⟨hi,u⟩;simp only at hi u;simp only[go_sem,fc,ep,nK,apP];by_cases hlt:i<Z' f.aoC
 ·have l:(i:Int)<(Z' f.aoC:Nat):=Om;have y:=wZz i;obtain⟨d1,d2,d3,d4,d5⟩:=hV.drive i hlt;have U:okD f k i=(bF f k).aoD.contains ((mdl f i:Nat):Int):=rfl;have J:D e.p=some (HH (bF f k)):=u.at 1 R;have L:D e.o=some (gZ N v):=u.at 0 rfl;have w:=E4 (okD f k) i;simp only[go_sem,l,J];refine aD (E.allowed f (bF f k) i hV x hlt) rfl ?_;rw[<-U];cases hb:okD f k i with
  |false =>rw[hb,aC aT,aqY]at w;rw[<-w]at u;simp only[go_sem,y];exact aF (i+1,v,D) ⟨hlt,u⟩ sO_ (by(repeat' (first|exact d_|refine e_ ?_ ?_))<;>first|(simp only[go_sem,ep,nK]<;>rfl)|rfl) b_
  |true=>
   rw[hb,aE rfl]at w;have S:=auH (okD f k) (apQ i);rw[atT]at S;simp only[go_sem];refine bE (h_.set e.o (gZ N v)) (quS f) (c_ a_ L) ?_;simp only[go_sem,kE hlt,hV.FC hlt];refine BY E A Z.1 (v:=k) (i:=cD f i) Om Om rfl (c_ a_ L) ?_;simp only[go_sem];refine bj E A (i:=i) Om rfl (c_ a_ L) ?_;simp only[go_sem];refine DD (iP f k i) u (by rw[apV,apP];omega) λq n H1 O=>?_;refine⟨c_ a_ (O.at 0 rfl),?_⟩;have M:=O.at 0 rfl;refine bE .nil cO a_ ?_;simp only[go_sem,M];refine⟨a_,?_⟩;have W:=O.set 0 rfl (gZ N (.osl q 4 0 n));simp only[go_sem,y];refine aF (i+1,.osl q 4 0 n,_) ⟨hlt,?_⟩ sO_ (by(repeat' (first|exact d_|refine e_ ?_ ?_))<;>first|(simp only[go_sem,ep,nK]<;>rfl)|rfl) b_;simp only;have e2:pre++((apQ (i+1)).filter (okD f k)).map (iP f k)=pre++((apQ i).filter (okD f k)).map (iP f k)++[iP f k i]:=by rw[w,aqP,<-aqT];rfl
   rw[e2];exact W
 have l:¬(i:Int)<(Z' f.aoC:Nat):=Om;have:i=Z' f.aoC:=Om;subst this;simp only[go_sem,l];exact Up.up (by(repeat' (first|exact d_|refine e_ ?_ ?_))<;>first|(simp only[go_sem,ep,nK]<;>rfl)|rfl) (Y v D u)
theorem Qq(L:FQ C){K:bT}[Up K](f:aB)(hf:f.Ok)(hV:VF f)(room:I_)(o z:Nat)(N:Nat){F:PF}{H:PH}
  (w:aO H [(o,gZ N .aG),(z,sS)] [(.aG,4,[])]) (hF:(nK f room ⟨o,z,0⟩ 0).le F)
  (hK:∀v' H',aO H' [(o,gZ N v'),(z,sS)] [(v',4,((apQ f.aoE.length).flatMap (iF f)).map dD.cells)]->K (.exit 0) (nK f room ⟨o,z,0⟩ f.aoE.length) H'):aI.wp C (.loop fe) K F H:=by
 have D:=hV.small;have hr:=hV.root;have γ:=D.aoF;have δ:=D.aoC;have ε:=D.aoE;refine wp_loop (α:=T3_) (λs=>nK f room ⟨o,z,0⟩ s.1) (λs=>s.2.2) (λs=>s.1<=Z' f.aoE/\aO s.2.2 [(o,gZ N s.2.1),(z,sS)] [(s.2.1,4,((apQ s.1).flatMap (iF f)).map dD.cells)]) (λs=>Z' f.aoE-s.1) (0,.aG,H) ⟨apR _,by simpa using w⟩ hF b_ ?_;rintro⟨k,v,Y⟩ ⟨hk,w⟩;simp only at hk w;simp only[go_sem,fe,nK,apP];by_cases hlt:k<Z' f.aoE;have e:(k:Int)<(Z' f.aoE:Nat):=Om;have S:=wZz k;obtain⟨hp,he⟩:=kB hV hlt;have l:=(hf.aoP _ (apW hp)).aoD;rw[he]at l;have A:=hV.aoP _ (apW hp);rw[he]at A;obtain⟨b1,b2,b3,b4⟩:=wC hV hlt;have M:i_.wrap ((bF f k).k+(bF f k).m)=((iQ f k:Nat):Int):=by rw[b3];exact wrap_i64 Om Om
 have β:=VZ D k;simp only[go_sem,e];refine bE .nil cO a_ ?_;simp only[go_sem,oM hlt,hV.zP hlt,mJ hp,he];refine w.SL λp Z X=>?_;have g1:=X.LF;have h2:=X.XK (HH (bF f k));simp only[go_sem,g1];refine⟨a_,?_⟩;generalize Z.set p (.rows 17 [(bF f k).cells])=H2 at *
 have E:aO H2 [(o,gZ N v),(p,HH (bF f k)),(z,sS)] [(v,4,((apQ k).flatMap (iF f)).map dD.cells)]:=by refine h2.perm ?_ (asM.refl _);exact .cons _ (.swap _ _ _)
 have V:H2 o=some (gZ N v):=E.at 0 rfl;have W:H2 p=some (HH (bF f k)):=E.at 1 rfl;have U:¬o=p:=E.ne 0 1 rfl rfl aT;obtain⟨Hs,so,sp,u⟩:=aeE (x:=gZ N v) (y:=HH (bF f k)) U;refine bE Hs (quS f) (u _ V W) ?_;simp only[go_sem,so];refine BY L D hr.1 (v:=k) (i:=0) Om Om rfl (u _ V W) ?_;simp only[go_sem,sp,M];refine DD (⟨0,dM f k 0,iQ f k⟩:dD) E Om λq n H3 J=>?_;refine⟨u _ (J.at 0 rfl) (J.at 1 rfl),?_⟩;have O:=J.at 0 rfl;refine bE .nil cO a_ ?_;simp only[go_sem,O];refine⟨a_,?_⟩;have h5:=J.set 0 rfl (gZ N (.osl q 4 0 n))
 try simp only[go_sem]
 refine Qo L f hV room ⟨o,z,p⟩ N k hlt ((apQ k).flatMap (iF f)++[(⟨0,dM f k 0,iQ f k⟩:dD)]) (by rw[apV,aqH];omega) (.osl q 4 0 n) (B:=[(p,HH (bF f k)),(z,sS)]) rfl h5 (by(repeat' (first|exact d_|refine e_ ?_ ?_))<;>first|(simp only[go_sem,HI,nK]<;>rfl)|rfl) λv2 H8 h9=>?_;simp only[go_sem,nK];refine Qp L f hV room ⟨o,z,p⟩ N k hlt l ((apQ k).flatMap (iF f)++[(⟨0,dM f k 0,iQ f k⟩:dD)]++(apQ (Z' f.aoF-1)).map (pB f k)) (by rw[apV,apV,aqH,apP,atT];omega) (B:=[(p,HH (bF f k)),(z,sS)]) v2 rfl h9 (by(repeat' (first|exact d_|refine e_ ?_ ?_))<;>first|(simp only[go_sem,ep,nK]<;>rfl)|rfl) λv3 H9 R=>?_;simp only[go_sem,nK,S];refine aF (k+1,v3,H9) ⟨hlt,?_⟩ sO_ (by(repeat' (first|exact d_|refine e_ ?_ ?_))<;>first|(simp only[go_sem,nK]<;>rfl)|rfl) b_;simp only;have ev:(apQ (k+1)).flatMap (iF f)=(apQ k).flatMap (iF f)++[(⟨0,dM f k 0,iQ f k⟩:dD)]++(apQ (Z' f.aoF-1)).map (pB f k)++((apQ f.aoC.length).filter (okD f k)).map (iP f k):=by rw[ou];unfold iF;simp[dM]
 rw[ev];exact R.wW 1;have e:¬(k:Int)<(Z' f.aoE:Nat):=Om;have:k=Z' f.aoE:=Om;subst this;simp only[go_sem,e];exact Up.up (by(repeat' (first|exact d_|refine e_ ?_ ?_))<;>first|(simp only[go_sem,nK]<;>rfl)|rfl) (hK v Y w)
theorem Lp(L:FQ C){K:bT}[Up K](f:aB)(hV:VF f)(room:I_)(o z N:Nat)(pre:List dD)(D:Z' pre<=900000){F:PF}{H:PH}(v:PV)
  (l:aO H [(o,gZ N v),(z,sS)] [(v,4,pre.map dD.cells)])
  (O:((((((n_.set 2 (.aU f.cells)).set 4 (.ptr z 4 0 0)).set 6 (.ptr o 4 0 0)).set 12 (.sl 1 (aN (bM f room)))).set 13 (.j 0))).le F)
  (R:∀v' H',aO H' [(o,gZ N v'),(z,sS)] [(v',4,(pre++(apQ f.aoC.length).map (sO f room)).map dD.cells)]->K (.exit 6) (((n_.set 4 (.ptr z 4 0 0)).set 6 (.ptr o 4 0 0))) H'):aI.wp C (.loop ff) K F H:=by
 have E:=hV.small;have S:=E.aoC;refine wp_loop (α:=T3_) (λs=>(((((n_.set 2 (.aU f.cells)).set 4 (.ptr z 4 0 0)).set 6 (.ptr o 4 0 0)).set 12 (.sl 1 (aN (bM f room)))).set 13 (.j (s.1:Nat)))) (λs=>s.2.2) (λs=>s.1<=Z' f.aoC/\aO s.2.2 [(o,gZ N s.2.1),(z,sS)] [(s.2.1,4,(pre++(apQ s.1).map (sO f room)).map dD.cells)]) (λs=>Z' f.aoC-s.1) (0,v,H) ⟨apR _,by simpa using l⟩ O b_ ?_;rintro⟨i,v,J⟩ ⟨hi,l⟩;simp only at hi l;simp only[go_sem,ff,apP];by_cases hlt:i<Z' f.aoC;have e:(i:Int)<(Z' f.aoC:Nat):=Om;have y:=wZz i;have A:i<(bM f room).length:=by rw[qF];exact hlt
 have u:=qN A;obtain⟨r1,r2⟩:=PO hV room hlt;rw[fw,<-r2]at u;have B:=l.at 0 rfl;simp only[go_sem,e];refine bE (h_.set o (gZ N v)) (quS f) (c_ a_ B) ?_;simp only[go_sem];refine bj L E (i:=i) Om rfl (c_ a_ B) ?_;simp only[go_sem,u,cI,qF,e];refine DD (sO f room i) l (by rw[apV,apP,atT];omega) λq n U x=>?_;refine⟨c_ a_ (x.at 0 rfl),?_⟩;have w:=x.at 0 rfl;refine bE .nil cO a_ ?_;simp only[go_sem,w];refine⟨a_,?_⟩;have M:=x.set 0 rfl (gZ N (.osl q 4 0 n));simp only[go_sem,y];refine aF (i+1,.osl q 4 0 n,_) ⟨hlt,?_⟩ sO_ Lq b_;simp only;rw[zy];exact M;have e:¬(i:Int)<(Z' f.aoC:Nat):=Om;have:i=Z' f.aoC:=Om;subst this;simp only[go_sem,e];exact Up.up Lq (R v J l)
theorem abJ(l:FQ C)(f:aB)(y:f.Ok)(room:I_) :
  vd.wp C (aW jC.res (cY (ru f room))) (g_ [.agg f.cells,ints room]) .nil:=by
 simp only[go_sem,vd,jC];refine aQ λz M=>?_;simp only[go_sem];refine aD (l.qvalid f y) rfl ?_;have x:aO (h_.set z sS) [(z,sS)] []:=aO.nil.new M sS;generalize(h_.set z sS)=O at *
 have F:=x.at 0 rfl;cases i:cP f with
 |false =>simp only[go_sem,aqI,F];rw[ru,aaS i,aaR i];have J:=(x.set 0 rfl sS).oF 4;refine rJ (vs:=[.agg [.int .i64 0,.int .i64 0,.int .i64 0,.aG],.int .i64 1]) (.inr rfl) Sq ?_;exact G6 J
 |true=>
  have hV:=VF.of i;have w:=hV.small;rw[ru,Ho i,Hn i];simp only[go_sem,aqC,apP];refine aD (l.drv f w f.aoC.length (by have:=w.aoC;omega)) rfl ?_;simp only[go_sem];refine x.SL λo D A=>?_;have g4:=A.at 1 rfl;have h5:=A.set 1 rfl (gZ (cU f f.aoC.length) .aG);simp only[go_sem,g4];generalize D.set o (.rows 4 [[.j ((cU f f.aoC.length:Nat):Int),.j 0,.j 1,.aG]])=E at *
  have K:aO E [(o,gZ (cU f f.aoC.length) .aG),(z,sS)] [(.aG,4,[])]:=by refine(h5.oF 4).perm ?_ (asM.refl _);exact(List.reverse_perm _).symm
  try simp only[go_sem]
  refine Qq l f y hV room o z _ K (by(repeat' (first|exact d_|refine e_ ?_ ?_))<;>first|(simp only[go_sem,nK]<;>rfl)|rfl) λN R h7=>?_;have u:=l.qroom f room y;rw[qG,aE i]at u;simp only[go_sem,nK];refine aD u rfl ?_;simp only[go_sem];refine Lp l f hV room o z _ ((apQ f.aoE.length).flatMap (iF f)) (by have:=VZ w f.aoE.length;have:=w.aoE;omega) N h7 Lq λB S h8=>?_;have a7:=h8.at 0 rfl;have a4:=h8.at 1 rfl;have L:=h8.set 1 rfl (gZ (cU f f.aoC.length) B);simp only[go_sem,a7,a4];refine⟨_,aE ?_,?_⟩;rcases h8.own 0 rfl with⟨_,e⟩|⟨q,rs,e,_⟩<;>rw[e]
  refine rJ (vs:=[.agg [.j ((cU f f.aoC.length:Nat):Int),.j 0,.j 1,B],.j 0]) (.inr rfl) Sq ?_;exact G6 L
theorem Qh(n:dK)(i:lE n):ZC.wp C (aW lz.res (aL (.bool true))) (g_ [.agg n.cells]) .nil:=by
 have a1:¬(n.nodes:Int)<2:=by have:=i.two;omega
 have a2:¬(n.nodes:Int)>700:=by have:=i.few;omega
 have a3:¬(Z' n.arcs:Int)>2500:=by have:=i.num;omega
 have a4:¬(n.source:Int)=n.sink:=by have:=i.apart;omega
 have a5:¬(n.source:Int)<0:=Om;have a6:¬(n.source:Int)>=n.nodes:=by have:=i.source;omega
 have a7:¬(n.sink:Int)<0:=Om;have a8:¬(n.sink:Int)>=n.nodes:=by have:=i.sink;omega
 have D:=i.num;simp only[go_sem,ZC,lz,a1,a2,a3,a5,a6,a7,a8,bJ a4,apP];refine wp_loop (α:=Nat) (λk=>((n_.set 1 (.aU n.cells)).set 3 (.j (k:Nat)))) (λ_=>.nil) (λk=>k<=Z' n.arcs) (λk=>Z' n.arcs-k) 0 (apR _) Lq a_ ?_;intro k y;simp only[go_sem,apP];by_cases hlt:k<Z' n.arcs;have e:(k:Int)<(Z' n.arcs:Nat):=Om;obtain⟨A,e2,B⟩:=i.ends _ (apW hlt);have b1:¬((n.arcs[k]).src:Int)<0:=Om;have b2:¬((n.arcs[k]).src:Int)>=n.nodes:=Om;have l:¬((n.arcs[k]).dst:Int)<0:=Om;have u:¬((n.arcs[k]).dst:Int)>=n.nodes:=Om;have w:¬((n.arcs[k]).cap:Int)<0:=Om;have x:¬((n.arcs[k]).cap:Int)>2147483647:=Om;simp only[go_sem,e,Gq hlt];refine aQ λp hp=>?_;simp only[go_sem,b1,b2,l,u,w,x,wZz k];exact aF (k+1) hlt Om Lq a_;have e:¬(k:Int)<(Z' n.arcs:Nat):=Om;simp only[go_sem,e];refine cR (.inr rfl) Ev ?_;rfl
abbrev dI:=Nat × Bool
def noA:dD:=⟨0,0,0⟩
def dA(n:dK)(i:Nat):dD:=n.arcs.getD i noA
def jV(n:dK)(s:dI):Nat:=if s.2=true then(dA n s.1).dst else(dA n s.1).src
def eS(n:dK)(s:dI):Nat:=if s.2=true then(dA n s.1).src else(dA n s.1).dst
def iE(n:dK)(xs:N_)(s:dI):Nat:=if s.2=true then(dA n s.1).cap-xs.getD s.1 0 else xs.getD s.1 0
structure tV(n:dK)(xs:N_)(Q:N_)(way:Nat->dI):Prop where
 first:∃t,Q=n.source::t
 nd:Q.Nodup
 lt:∀v∈Q,v<n.nodes
 way:∀v∈Q,v≠n.source->(way v).1<Z' n.arcs/\jV n (way v)=v/\0<iE n xs (way v)/\eS n (way v)∈Q/\Q.idxOf (eS n (way v))<Q.idxOf v
def MM(n:dK)(xs:N_)(Q:N_)(k:Nat):Prop:=∀v∈Q.take k,∀s:dI,s.1<Z' n.arcs->eS n s=v->0<iE n xs s->jV n s∈Q
theorem xF{n:dK}{i:Nat}{a:dD}(h:n.arcs[i]?=some a):dA n i=a:=by unfold dA;rw[apY,h];rfl
theorem Wv{n:dK}(D:lE n){xs:N_}(y:kN n xs){Q:N_}{way:Nat->dI}(A:tV n xs Q way)(hD:MM n xs Q Q.length)(E:n.sink ∉ Q):rR n xs=lW (λv=>Q.contains v) n.arcs:=by
 obtain⟨t,F⟩:=A.first;refine y.full D (by rw[F];simp) (by simpa using E) λi a x e w=>⟨λl u=>?_,λl u=>?_⟩;have hi:=(aqU.1 e).1;have l:a.src∈Q:=by simpa using l
 have u:a.dst ∉ Q:=by simpa using u
 have B:=y.le i a x e w;rcases aqW x a.cap with c|c
 refine absurd (hD a.src (by rw[aqO];exact l) (i,true) hi ?_ ?_) ?_;unfold eS;rw[aE rfl,xF e];unfold iE;rw[aE rfl,xF e,apY,w];simp only[arT];omega;unfold jV;rw[aE rfl,xF e];exact u;omega;have hi:=(aqU.1 e).1;have l:a.src ∉ Q:=by simpa using l
 have u:a.dst∈Q:=by simpa using u
 rcases arZ x with c|c
 exact c;refine absurd (hD a.dst (by rw[aqO];exact u) (i,false) hi ?_ ?_) ?_;unfold eS;rw[aC (show ¬(false=true) by decide),xF e];unfold iE;rw[aC (show ¬(false=true) by decide),apY,w];exact c;unfold jV;rw[aC (show ¬(false=true) by decide),xF e];exact l
inductive AF (n:dK) (Q:N_) (way:Nat->dI):Nat->List dI->Prop
 |nil:AF n Q way n.source []
 |cons {v:Nat} {L:List dI} (hv:v∈Q) (hne:v≠n.source) (h:AF n Q way (eS n (way v)) L):AF n Q way v (way v::L)
theorem Nz{n:dK}{xs Q:N_}{way:Nat->dI}(w:tV n xs Q way):∀(m v:Nat),Q.idxOf v=m->v∈Q->∃L,AF n Q way v L/\Z' L<=m:=by
 intro m
 induction m using Nat.strongRecOn with
 |ind m x =>intro v E i;by_cases e:v=n.source;subst e;exact⟨[],.nil,apR _⟩;obtain⟨y,A,B,l,h5⟩:=w.way v i e;obtain⟨L,u,D⟩:=x _ Om (eS n (way v)) rfl l;exact⟨way v::L,.cons i e u,by simp;omega⟩
theorem AF.amA{n:dK}{xs Q:N_}{way:Nat->dI}(x:tV n xs Q way):∀{v:Nat}{L:List dI},AF n Q way v L->v∈Q->∀s∈L,s.1<Z' n.arcs/\0<iE n xs s/\Q.idxOf (eS n s)<Q.idxOf (jV n s)/\Q.idxOf (jV n s)<=Q.idxOf v:=by
 intro v L h
 induction h with
 |nil=>intro _ s hs;cases hs
 |@cons v L y e h A=>
  intro _ s hs;obtain⟨l,i,u,w,h5⟩:=x.way v y e;rcases aqG.1 hs with rfl|hs
  exact⟨l,u,by rw[i];exact h5,by rw[i];exact apU _⟩;obtain⟨g1,g2,g3,g4⟩:=A w s hs;exact⟨g1,g2,g3,by omega⟩
theorem AF.apart{n:dK}{xs Q:N_}{way:Nat->dI}(w:tV n xs Q way){v:Nat}{s:dI}{L:List dI}(h:AF n Q way v (s::L))(B:v∈Q):∀s'∈L,s'.1≠s.1:=by
 intro s' u e;cases h with
 |cons _ l h=>
  obtain⟨D,y,E,A,h5⟩:=w.way v B l;obtain⟨g1,g2,g3,g4⟩:=h.amA w A s' u;have x:Q.idxOf (eS n (way v))<Q.idxOf (jV n (way v)):=by rw[y];exact h5
  unfold jV eS at x g3 g4;rw[e]at g3 g4;have F:=g4;cases hb:(way v).2<;>cases i:s'.2<;>simp only[hb,i,arO,if_true,if_false]at x g3 g4<;>omega
def push(e:Nat)(ys:N_)(s:dI):N_:=ys.set s.1 (if s.2=true then ys.getD s.1 0+e else ys.getD s.1 0-e)
theorem V2(e:Nat)(ys:N_)(s:dI):(push e ys s).length=Z' ys:=by unfold push;rw[arD]
structure iq(n:dK)(xs ys:N_)(amt v:Nat)(L:List dI):Prop where
 len:Z' ys=Z' n.arcs
 le:∀(i:Nat) a x,n.arcs[i]?=some a->ys[i]?=some x->x<=a.cap
 net:∀w,gG n.arcs ys w=gG n.arcs xs w-(if w=n.sink then(amt:Int)else 0)+(if w=v then(amt:Int)else 0)
 same:∀s∈L,ys.getD s.1 0=xs.getD s.1 0
theorem Px{n:dK}{xs:N_}(i:kN n xs)(e:Nat)(L:List dI):iq n xs xs e n.sink L:=⟨i.len,i.le,λw=>by split<;>omega,λ_ _=>rfl⟩
theorem Vh{n:dK}{xs ys Q:N_}{way:Nat->dI}(R:tV n xs Q way){l v:Nat}{s:dI}{L:List dI}(u:iq n xs ys l v (s::L))(hB:AF n Q way v (s::L))(U:v∈Q)(E:l<=iE n xs s) :
  eS n s∈Q/\AF n Q way (eS n s) L/\iq n xs (push l ys s) l (eS n s) L:=by
 have M:=hB.apart R U;cases hB with
 |cons _ N hB=>
  obtain⟨O,D,W,V,h5⟩:=R.way v U N;generalize way v=s at *
  have y:n.arcs[s.1]?=some (dA n s.1):=by unfold dA;rw[apY,apZ O];rfl
  have J:s.1<Z' ys:=by rw[u.len];exact O
  have F:ys[s.1]?=some (ys.getD s.1 0):=by rw[apY,apZ J];rfl
  have A:=u.same s aX;have S:=u.le _ _ _ y F;unfold iE at E;rw[<-A]at E;refine⟨V,hB,by rw[V2];exact u.len,λi a x hi B=>?_,λw=>?_,λs' K=>?_⟩;unfold push at B;by_cases e:i=s.1
  ·subst e;rw[List.getElem?_set_self J]at B;rw[y]at hi;cases hi;simp only[asB.injEq]at B;subst B;cases hb:s.2 with
   |true=>rw[hb,aE rfl]at E;rw[aE rfl];omega
   |false=>rw[aC aT];omega
  rw[List.getElem?_set_ne (λh=>e h.symm)]at B;exact u.le i a x hi B
  ·unfold push;rw[Hq _ y F,u.net];unfold jV at D;unfold eS;cases hb:s.2 with
   |true =>rw[hb,aE rfl]at E D;simp only[if_true];rw[D];split<;>split<;>split<;>split<;>omega
   |false =>rw[hb,aC aT]at E D;simp only[arO,if_false];rw[D];split<;>split<;>split<;>split<;>omega
  unfold push;have:=M s' K;rw[apY,List.getElem?_set_ne (λh=>this h.symm),<-apY];exact u.same s' (atK _ K)
theorem Vg{n:dK}(x:lE n){xs ys:N_}(w:kN n xs){e:Nat}{L:List dI}(i:iq n xs ys e n.source L):kN n ys/\rR n ys=rR n xs+e:=by
 refine⟨⟨i.len,i.le,λv y l u=>?_⟩,?_⟩;rw[i.net,w.node v y l u,aC u,aC l];rfl;unfold rR;rw[i.net,aC x.apart,aE rfl];omega
abbrev jF(xs:N_):P2_:=xs.map λx=>[PV.int .i64 ((x:Nat):Int)]
theorem mF{xs:N_}{i:Nat}(h:i<Z' xs):(jF xs)[i]?=some [.j ((xs.getD i 0:Nat):Int)]:=by
 rw[aqE,apZ h,apY,apZ h];rfl
def stI(s:dI):Int:=if s.2=true then(s.1:Int)else -1-(s.1:Int)
structure BR(n:dK)(xs:N_):Prop where
 len:Z' xs=Z' n.arcs
 le:∀i,i<Z' n.arcs->xs.getD i 0<=(dA n i).cap
theorem tE{n:dK}{i:Nat}(h:i<Z' n.arcs):n.arcs[i]=dA n i:=(xF (apZ h)).symm
theorem qK{n:dK}{i:Nat}(h:i<Z' n.arcs):(n.arcs.map dD.cells)[i]?=some (dA n i).cells:=by rw[Gq h,tE h]
def HV(way:Nat->dI)(v:Nat)(s:dI):Nat->dI:=λw=>if w=v then s else way w
theorem Md{n:dK}(l:lE n)(xs:N_)(way:Nat->dI):tV n xs [n.source] way:=by
 refine⟨⟨[],rfl⟩,by simp,λv e=>?_,λv e i=>?_⟩;rw[arA]at e;subst e;exact l.source;exact absurd (arA.1 e) i
theorem cl{Q:N_}{v a:Nat}(h:v∈Q):(Q++[a]).idxOf v=Q.idxOf v:=by
 rw[List.idxOf_append,aE h]
theorem Rj{n:dK}(M:lE n){xs Q:N_}{way:Nat->dI}(i:tV n xs Q way){s:dI}(w:s.1<Z' n.arcs)(l:eS n s∈Q)(x:jV n s ∉ Q)(N:0<iE n xs s) :
  tV n xs (Q++[jV n s]) (HV way (jV n s) s):=by
 obtain⟨t,K⟩:=i.first;have y:jV n s<n.nodes:=by have:=M.ends _ (apW w);rw[show n.arcs[s.1]=dA n s.1 from(xF (apZ w)).symm]at this;unfold jV;split<;>omega
 refine⟨⟨t++[jV n s],by rw[K];rfl⟩,?_,λv A=>?_,λv A u=>?_⟩;rw[asS];refine⟨i.nd,by simp,λa L b hb=>?_⟩;rw[arA]at hb;subst hb;rintro rfl;exact x L;rcases aqZ.1 A with h|h
 exact i.lt v h;rw[arA]at h;subst h;exact y;rcases aqZ.1 A with h|h
 have B:v≠jV n s:=λe=>x (e ▸ h);obtain⟨D,F,J,E,h5⟩:=i.way v h u;unfold HV;rw[aC B];exact⟨D,F,J,List.mem_append_left _ E,by rw[cl E,cl h];exact h5⟩;rw[arA]at h;subst h;unfold HV;rw[aE rfl];refine⟨w,rfl,N,List.mem_append_left _ l,?_⟩;rw[cl l];have D:=List.idxOf_lt_length_of_mem l;rw[List.idxOf_append,aC x];omega
theorem Bz:∀(n:Nat)(Q:N_),Q.Nodup->(∀v∈Q,v<n)->Z' Q<=n
 |0,[],_,_=>apU _
 |0,v::Q,_,h=>absurd (h v aX) Om
 |n+1,Q,l,h=>by
  by_cases e:n∈Q;have u:=Bz n (Q.erase n) (l.erase n) λv i=>by have w:=(l.mem_erase_iff).1 i;have:=h v w.2;omega
  rw[List.length_erase_of_mem e]at u;omega;have u:=Bz n Q l λv i=>by have:=h v i;have:v≠n:=λe2=>e (e2 ▸ i);omega
  omega
theorem gb{n:dK}{xs Q:N_}{way:Nat->dI}(e:tV n xs Q way):Z' Q<=n.nodes:=Bz _ _ e.nd e.lt
theorem On(n:dK)(xs Q:N_):MM n xs Q 0:=λv e=>by simp at e
theorem Oj{n:dK}{xs Q:N_}{k:Nat}(h:MM n xs Q k)(w:k<=Z' Q)(a:Nat):MM n xs (Q++[a]) k:=λv e s i l u=>by
 rw[List.take_append_of_le_length w]at e;exact List.mem_append_left _ (h v e s i l u)
theorem Ol{n:dK}{xs Q:N_}{k v:Nat}(h:MM n xs Q k)(B:Q[k]?=some v)(i:∀s:dI,s.1<Z' n.arcs->eS n s=v->0<iE n xs s->jV n s∈Q):MM n xs Q (k+1):=λw y s l u x=>by
 obtain⟨A,e⟩:=aqU.1 B;rw[arB A,e]at y;rcases aqZ.1 y with g|g
 exact h w g s l u x;rw[arA]at g;subst g;exact i s l u x
structure ahA(n:dK)(outL:L2_):Prop where
 len:Z' outL=n.nodes
 all:∀s:dI,s.1<Z' n.arcs->stI s∈outL.getD (eS n s) []
 only:∀v c,c∈outL.getD v []->∃s:dI,s.1<Z' n.arcs/\eS n s=v/\c=stI s
 few:∀v,(outL.getD v []).length<=1000000
def byL(cd:dI->Int)(n:dK)(Q:N_)(way:Nat->dI):I_:=(apQ n.nodes).map λv=>if v∈Q/\v≠n.source then cd (way v)else 0
def seL(n:dK)(Q:N_):List Bool:=(apQ n.nodes).map λv=>Q.contains v
theorem pP{α:Type}(g h:Nat->α)(N t:Nat)(x:α)(w:h t=x)(u:∀v,v≠t->h v=g v):((apQ N).map g).set t x=(apQ N).map h:=by
 refine List.ext_getElem? λi=>?_;rw[asX,apP,atT,aqE,aqE];by_cases e:t=i;subst e;rw[aE rfl];by_cases l:t<N;rw[aE l,arU l,<-w];rfl;rw[aC l,arC (by simpa using l)];rfl;rw[aC e];by_cases l:i<N;rw[arU l,aqK,aqK,u i λe2=>e e2.symm];rw[arC (by simpa using l)];rfl
theorem Gu{cd:dI->Int}{n:dK}{Q:N_}{way:Nat->dI}{t:Nat}{s:dI}(l:n.source∈Q)(u:t ∉ Q):(byL cd n Q way).set t (cd s)=byL cd n (Q++[t]) (HV way t s):=by
 refine pP _ _ _ _ _ ?_ λv i=>?_;have:t≠n.source:=λe=>u (e ▸ l);rw[aE ⟨by simp,this⟩,HV,aE rfl];rw[HV,aC i];have:(v∈Q++[t])↔v∈Q:=by simp[i]
 simp only[this]
theorem Ii(n:dK)(Q:N_)(t:Nat):(seL n Q).set t true=seL n (Q++[t]):=by
 refine pP _ _ _ _ _ ?_ λv e=>?_;simp;simp[e]
theorem S9(cd:dI->Int)(n:dK)(way:Nat->dI):apX n.nodes [PV.int .i64 0]=aN (byL cd n [n.source] way):=by
 refine List.ext_getElem? λi=>?_;unfold aN byL;rw[List.getElem?_replicate,aqE,aqE];by_cases l:i<n.nodes;rw[aE l,arU l,aqK,aqK,aC aX];rw[aC l,arC (by simpa using l)];rfl
theorem Ws(n:dK):(apX n.nodes [PV.bool false]).set n.source [PV.bool true]=dE (seL n [n.source]):=by
 have w:apX n.nodes [PV.bool false]=(apQ n.nodes).map λ_=>[PV.bool false]:=by refine List.ext_getElem? λi=>?_;rw[List.getElem?_replicate,aqE];by_cases l:i<n.nodes;rw[aE l,arU l];rfl;rw[aC l,arC (by simpa using l)];rfl
 have u:[n.source].contains n.source=true:=by simp
 have e2:∀v,v≠n.source->[n.source].contains v=false:=by intro v e;simp[e]
 have x:=pP (λ_=>[PV.bool false]) (λv=>[PV.bool ([n.source].contains v)]) n.nodes n.source [PV.bool true] (by rw[u]) (λv e=>by rw[e2 v e]);rw[w,x];unfold dE seL;rw[asR];rfl
theorem qn(cd:dI->Int)(n:dK)(Q:N_)(way:Nat->dI):(byL cd n Q way).length=n.nodes:=by simp[byL]
theorem XJ(n:dK)(Q:N_):(seL n Q).length=n.nodes:=by simp[seL]
theorem sj{n:dK}{Q:N_}{v:Nat}(h:v<n.nodes):(seL n Q).getD v false=Q.contains v:=by
 unfold seL;rw[apY,aqE,arU h];rfl
structure RS where
 Q:N_
 k:Nat
 way:Nat->dI
 v:PV
 q:Nat
 H:PH
 d:Nat
structure rB(n:dK)(xs:N_)(X:PH)(cd:dI->Int)(b e:Nat)(a:RS):Prop where
 seen:tV n xs a.Q a.way
 done:MM n xs a.Q a.d
 dk:a.d<=a.k
 k:a.k<=Z' a.Q
 base:X.le a.H
 hb:a.H b=some (.rows 1 (aN (byL cd n a.Q a.way)))
 he:a.H e=some (.rows 1 (dE (seL n a.Q)))
 hq:uZ a.H 1 a.q a.v (jF (a.Q.drop a.k))
 ne:X a.q=none/\a.q≠b/\a.q≠e
theorem DR{X H:PH}{o:Nat}{y:aR}(h:X.le H)(i:X o=none):X.le (H.set o y):=λq x hq=>by
 rw[aM,aC (λe=>by subst e;rw[i]at hq;cases hq)];exact h q x hq
theorem rB.step{n:dK}(R:lE n){xs:N_}{X:PH}{cd:dI->Int}{b e:Nat}{a:RS}(h:rB n xs X cd b e a)(Z:X b=none/\X e=none/\¬b=e){s:dI}(hs:s.1<Z' n.arcs)(hf:eS n s∈a.Q)(ht:jV n s ∉ a.Q)(hr:0<iE n xs s)
  {K:R_} (Y:∀u:RS,rB n xs X cd b e u->u.Q=a.Q++[jV n s]->u.k=a.k->u.d=a.d->K u.v u.H) :
  kM ((a.H.set e (.rows 1 (dE (seL n (a.Q++[jV n s]))))).set b (.rows 1 (aN (byL cd n (a.Q++[jV n s]) (HV a.way (jV n s) s))))) 1 8 a.v (.sl 1 [[.j ((jV n s:Nat):Int)]]) K:=by
 obtain⟨U,V,W⟩:=Z;obtain⟨S,L,M⟩:=h.ne;have N:=Rj R h.seen hs hf ht hr;have w:=gb N;rw[apV,aqH]at w;have O:=R.few;have hq:uZ ((a.H.set e (.rows 1 (dE (seL n (a.Q++[jV n s]))))).set b (.rows 1 (aN (byL cd n (a.Q++[jV n s]) (HV a.way (jV n s) s))))) 1 a.q a.v (jF (a.Q.drop a.k)):=h.hq.ext λx i=>by rw[aM,aC L,aM,aC M];exact i
 refine hq.append (src:=[[.j ((jV n s:Nat):Int)]]) rfl ?_ λy v' H' g1 g2 g3 g4=>?_;unfold roomFor;rw[apP,arM,aqH];simp only[maxLen];omega;have F:∀o x,o≠a.q->a.H o=some x->o≠b->o≠e->H' o=some x:=λo x hq J hb he=>g3 o x hq (by rw[aM,aC hb,aM,aC he];exact J);have E:jF (a.Q.drop a.k)++[[PV.int .i64 ((jV n s:Nat):Int)]]=jF ((a.Q++[jV n s]).drop a.k):=by rw[List.drop_append_of_le_length h.k,show ∀A B:N_,jF (A++B)=jF A++jF B from λA B=>aqP];rfl
 rw[E]at g1;have l:∀o x,a.H o=some x->o≠a.q->y≠o:=λo x J hq e2=>by
  subst e2;rcases g2 with g|g
  exact hq g;rw[aM]at g;split at g;cases g;rw[aM]at g;split at g;cases g;rw[J]at g;cases g
 have D:X y=none:=by
  cases i:X y with
  |none=>rfl
  |some x=>exact absurd rfl (l y x (h.base _ _ i) λe2=>by rw[e2,S]at i;cases i)
 refine Y ⟨a.Q++[jV n s],a.k,HV a.way (jV n s) s,v',y,H',a.d⟩ ⟨N,Oj h.done (aqX h.dk h.k) _,h.dk,?_,λo x i=>F o x (λe2=>by rw[e2,S]at i;cases i) (h.base _ _ i) (λe2=>by rw[e2,U]at i;cases i) (λe2=>by rw[e2,V]at i;cases i),?_,?_,g1,?_⟩ rfl rfl rfl;have:=h.k;show a.k<=(a.Q++[jV n s]).length;rw[apV];omega;exact g3 b _ L.symm (by rw[bL]);exact g3 e _ M.symm (by rw[aM,aC (λe2=>W e2.symm),bL]);exact⟨D,l _ _ h.hb L.symm,l _ _ h.he M.symm⟩
theorem bx{H:PH}{o q s:Nat}{rs:P2_}{x:aR}(h:H o=some x)(e:¬o=q)(i:aR.frz q s rs x=x):(H.frz q s rs) o=some x:=by
 show(if o=q then none else(H o).map (aR.frz q s rs))=some x;rw[aC e,h,aqK,i]
theorem bw{q s:Nat}{rs r:P2_}(h:Flat r)(z:Nat):aR.frz q s rs (.rows z r)=.rows z r:=by
 show aR.rows z (r.map λc=>c.map (PV.cZ q s rs))=_;rw[h]
theorem O7{H H2:PH}{b e m:Nat}{i l:P2_}{R:R_}(hb:H b=some (.rows 1 i))(he:H e=some (.rows 1 l))(u:¬e=b)(x:Flat l)(A:Z' i=m)(le:Z' l=m)
  (w:H2.le ((H.frz b 1 i).frz e 1 l)) (y:R (.tup [.sl 1 i,.sl 1 l]) H2):uY (.tup [.osl b 1 0 m,.osl e 1 0 m]) H R:=by
 have B:PV.frz b 1 i (.tup [.osl b 1 0 m,.osl e 1 0 m])=.tup [.sl 1 i,.osl e 1 0 m]:=by simp[PV.frz,PV.nF,PV.cZ,u,<-A]
 have D:PV.frz e 1 l (.tup [.sl 1 i,.osl e 1 0 m])=.tup [.sl 1 i,.sl 1 l]:=by simp[PV.frz,PV.nF,PV.cZ,<-le]
 refine .step hb ?_;rw[B];refine .step (bx he u (bw x 1)) ?_;rw[D];exact .done y w
theorem sT.at{u:P2_}{l:L2_}(h:sT u l){i:Nat}(hi:i<Z' l):∃lv,u[i]?=some [lv]/\(lv=ints (l.getD i [])\/(lv=.aG/\l.getD i []=[])):=by
 have w:i<Z' u:=by rw[h.1];exact hi
 have x:l.getD i []=l[i]:=by rw[apY,apZ hi];rfl
 rw[x];rcases h.2 i u[i] l[i] (apZ w) (apZ hi)with e|⟨e,e2⟩
 exact⟨_,by rw[apZ w,e],.inl rfl⟩;exact⟨_,by rw[apZ w,e],.inr ⟨rfl,e2⟩⟩
theorem room_le{n:dK}(l:lE n){xs:N_}(u:BR n xs){s:dI}(e:s.1<Z' n.arcs):iE n xs s<=2147483647:=by
 have i:=(l.ends _ (apW e)).2.2;rw[tE e]at i;have w:=u.le _ e;unfold iE;split<;>omega
theorem ve(xs:N_)(i x:Nat):(jF xs).set i [.j (x:Nat)]=jF (xs.set i x):=by
 exact(asP ..).symm
theorem kN.in{n:dK}{xs:N_}(h:kN n xs):BR n xs:=⟨h.len,λi hi=>by
 have e:i<Z' xs:=by rw[h.len];exact hi
 have:=h.le i n.arcs[i] xs[i] (apZ hi) (apZ e);rw[tE hi]at this;rw[apY,apZ e];exact this⟩
theorem uu:∀{l:List dD}{xs:N_}(a:dD)(x w:Nat),Z' l=Z' xs->gG (l++[a]) (xs++[x]) w=gG l xs w+(if a.src=w then(x:Int)else 0)-(if a.dst=w then(x:Int)else 0)
 |[],[],a,x,w,_=>by show(if a.src=w then(x:Int)else 0)-(if a.dst=w then(x:Int)else 0)+0=0+(if a.src=w then(x:Int)else 0)-(if a.dst=w then(x:Int)else 0);omega
 |b::l,y::xs,a,x,w,h=>by rw[asV,asV,gG,gG,uu (l:=l) (xs:=xs) a x w (by simpa using h)];omega
def sJ(n:dK)(xs:N_)(k w:Nat):Int:=gG (n.arcs.take k) (xs.take k) w
def HD(n:dK)(xs:N_)(k:Nat):I_:=(apQ n.nodes).map (sJ n xs k)
theorem uv{n:dK}{xs:N_}(l:BR n xs){k:Nat}(i:k<Z' n.arcs)(w:Nat):sJ n xs (k+1) w=sJ n xs k w+(if(dA n k).src=w then((xs.getD k 0:Nat):Int)else 0)-(if(dA n k).dst=w then((xs.getD k 0:Nat):Int)else 0):=by
 have e:k<Z' xs:=by rw[l.len];exact i
 unfold sJ;rw[arB i,arB e,uu _ _ _ (by rw[aqF,aqF,l.len]),tE i];rw[apY,apZ e];rfl
theorem OT{n:dK}(l:lE n){xs:N_}(i:BR n xs)(w:Nat):∀(k:Nat),k<=Z' n.arcs->-((k:Int)*2147483647)<=sJ n xs k w/\sJ n xs k w<=(k:Int)*2147483647
 |0,_=>by have:sJ n xs 0 w=0:=rfl;omega
 |k+1,h=>by have x:=OT l i w k Om;have e:k<Z' n.arcs:=Om;have y:=i.le k e;have u:=(l.ends _ (apW e)).2.2;rw[tE e]at u;rw[uv i e w];split<;>split<;>omega
theorem Qi(hc:∀n:dK,lE n->aJ C 299 [.agg n.cells] .nil (aL (.bool true)))(n:dK)(M:lE n)(xs:N_)(hF:kN n xs) :
  ZD.wp C (aW l6.res (aL (.tup [.j (rR n xs),.bool true]))) (g_ [.agg n.cells,.sl 1 (jF xs)]) .nil:=by
 have N:=hF.in;have ο:=M.few;have hk:=M.num;have Z:(n.nodes:Int)*((8:Nat):Int)<=140737488355328:=Om;have β:(n.nodes:Int)<=9223372036854775807:=Om;have hl:(Z' xs:Int)=(Z' n.arcs:Nat):=by have:=N.len;omega
 have hz:apX n.nodes [PV.int .i64 0]=aN (HD n xs 0):=by refine List.ext_getElem? λi=>?_;unfold aN HD;rw[List.getElem?_replicate,aqE,aqE];by_cases l:i<n.nodes;rw[aE l,arU l];rfl;rw[aC l,arC (by simpa using l)];rfl
 simp only[go_sem,ZD,l6];refine aD (hc n M) rfl ?_;simp only[go_sem,apP,bW hl,Z,β];refine aQ λb hb=>?_;simp only[go_sem];rw[hz];refine wp_loop (α:=Nat) (λk=>((((n_.set 1 (.sl 1 (jF xs))).set 2 (.aU n.cells)).set 6 (.osl b 1 0 n.nodes)).set 7 (.j (k:Nat)))) (λk=>h_.set b (.rows 1 (aN (HD n xs k)))) (λk=>k<=Z' n.arcs) (λk=>Z' n.arcs-k) 0 (apR _) Lq (λ_ _ h=>h) ?_;intro k O;simp only[go_sem,apP];by_cases hlt:k<Z' n.arcs;have R:k<Z' xs:=by rw[N.len];exact hlt
 have E:(k:Int)<(Z' xs:Nat):=Om;obtain⟨e1,e2,e3⟩:=M.ends _ (apW hlt);rw[tE hlt]at e1 e2 e3;have ε:=N.le k hlt;have S:¬((xs.getD k 0:Nat):Int)<0:=Om;have U:¬((xs.getD k 0:Nat):Int)>((dA n k).cap:Int):=Om;have V:(((dA n k).src:Nat):Int)<(n.nodes:Nat):=Om;have W:(((dA n k).dst:Nat):Int)<(n.nodes:Nat):=Om;simp only[go_sem,E,qK hlt];refine aQ λp hp=>?_;have F:¬p=b:=λe=>by rw[e,bL]at hp;cases hp
 have A:¬b=p:=λe=>F e.symm;simp only[go_sem,F,A];refine bE .nil cO a_ ?_;simp only[go_sem,F,A,mF R,S,U];obtain⟨r1,r2⟩:=OT M N (dA n k).src k O;obtain⟨r3,r4⟩:=OT M N (dA n k).dst k O;have J:=uv N hlt;have ξ:=ε;generalize μ:xs.getD k 0=x at *
 generalize ν:dA n k=a at *
 have B:∀(g:Nat->Int)(t:Nat),t<n.nodes->(aN ((apQ n.nodes).map g))[t]?=some [.j (g t)]:=λg t ht=>by unfold aN;rw[aqE,aqE,arU ht];rfl
 let g1:Nat->Int:=λw=>sJ n xs k w+(if a.src=w then(x:Int)else 0)
 have γ:g1 a.src=sJ n xs k a.src+x:=by show _+(if a.src=a.src then(x:Int)else 0)=_;rw[aE rfl]
 have η:(aN (HD n xs k)).set a.src [.j (sJ n xs k a.src+x)]=aN ((apQ n.nodes).map g1):=by rw[iZ];unfold HD;rw[pP (sJ n xs k) g1 n.nodes a.src _ γ λv hv=>by show _+(if a.src=v then(x:Int)else 0)=_;rw[aC λe=>hv e.symm,Int.add_zero]]
 have θ:(aN ((apQ n.nodes).map g1)).set a.dst [.j (g1 a.dst-x)]=aN (HD n xs (k+1)):=by rw[iZ];unfold HD;rw[pP g1 (sJ n xs (k+1)) n.nodes a.dst (g1 a.dst-x) (by rw[J,aE rfl]) λv hv=>by rw[J,aC (c:=a.dst=v) (λe=>hv e.symm),Int.sub_zero]]
 have X:(aN (HD n xs k))[a.src]?=some [.j (sJ n xs k a.src)]:=B _ _ e1;have Y:(aN ((apQ n.nodes).map g1))[a.dst]?=some [.j (g1 a.dst)]:=B _ _ e2;have ρ:g1 a.dst=sJ n xs k a.dst\/g1 a.dst=sJ n xs k a.dst+x:=by show _+(if a.src=a.dst then(x:Int)else 0)=_\/_+(if a.src=a.dst then(x:Int)else 0)=_;split;exact .inr rfl;exact .inl (Int.add_zero _)
 have ι:i_.wrap (sJ n xs k a.src+(x:Int))=sJ n xs k a.src+x:=wrap_i64 Om Om;have κ:i_.wrap (g1 a.dst-(x:Int))=g1 a.dst-x:=wrap_i64 Om Om;have D:=wZz k;have K:=mF R;rw[μ]at K;generalize g1=g2 at *
 refine bE .nil cO a_ ?_;simp only[go_sem,F,A,V,aqA,X,K,ι,η];refine⟨a_,?_⟩;refine bE .nil cO a_ ?_;simp only[go_sem,F,A,W,aqA,Y,K,κ,θ];refine⟨a_,?_⟩;simp only[go_sem,D];exact aF (k+1) hlt Om Lq (c_ a_ (by rw[bL]));have E:¬(k:Int)<(Z' xs:Nat):=Om;have δ:k=Z' n.arcs:=Om;subst δ;simp only[go_sem,E];have L:∀w,sJ n xs n.arcs.length w=gG n.arcs xs w:=λw=>by unfold sJ;rw[aqR (apU _),aqR (by rw[N.len];exact apU _)]
 have B:∀t,t<n.nodes->(aN (HD n xs n.arcs.length))[t]?=some [.j (gG n.arcs xs t)]:=λt ht=>by unfold aN HD;rw[aqE,aqE,arU ht,<-L];rfl
 refine wp_loop (α:=Nat) (λi=>((((n_.set 1 (.sl 1 (jF xs))).set 2 (.aU n.cells)).set 6 (.osl b 1 0 n.nodes)).set 9 (.j (i:Nat)))) (λ_=>h_.set b (.rows 1 (aN (HD n xs n.arcs.length)))) (λi=>i<=n.nodes) (λi=>n.nodes-i) 0 (apR _) Lq (λ_ _ h=>h) ?_;intro i hi;simp only[go_sem];by_cases y:i<n.nodes;have u:(i:Int)<(n.nodes:Nat):=Om;have D:=wZz i;by_cases S:i=n.source;simp only[go_sem,u,bW (Om:((i:Nat):Int)=n.source),D];exact aF (i+1) y Om Lq (λ_ _ h=>h);by_cases U:i=n.sink;simp only[go_sem,u,cX (Om:¬((i:Nat):Int)=n.source),bW (Om:((i:Nat):Int)=n.sink),D];exact aF (i+1) y Om Lq (λ_ _ h=>h);have h0:=B i y;rw[hF.node i y S U]at h0;simp only[go_sem,u,cX (Om:¬((i:Nat):Int)=n.source),cX (Om:¬((i:Nat):Int)=n.sink),aqA,h0,D];exact aF (i+1) y Om Lq (λ_ _ h=>h);have u:¬(i:Int)<(n.nodes:Nat):=Om;have hs:=M.source;have ζ:(n.source:Int)<(n.nodes:Nat):=Om;simp only[go_sem,u,ζ,aqA,B n.source hs];refine eD ?_;rfl
theorem wp_cut{a c:aI}{K:bT}[Up K]{F:PF}{H:PH}{α:Type}(w:α->PF)(Hs:α->PH)(P:α->Prop)(y:a.wp C (λe u H'=>e=.normal/\∃x,P x/\(w x).le u/\Hs x=H') F H)
  (A:∀x,P x->c.wp C K (w x) (Hs x)):a.wp C (gH C (c.wp C) K) F H:=by
 refine mA a (λe E J H' l D=>?_) (λi v h=>h) y;obtain⟨rfl,x,hp,B,rfl⟩:=D;exact mA c (λe F u H a h=>Up.up a h) (PF.le_trans B l) (A x hp)
def stO(m:Nat)(s:dI):Int:=if s.2=true then(s.1:Int)else((m+s.1:Nat):Int)
abbrev oX(fo:Nat)(xs:N_):PH:=h_.set fo (.rows 1 (jF xs))
def Nu(n:dK)(fo:Nat)(xs:N_)(r:PV)(H:PH):Prop:=
 ∃Q way,tV n xs Q way/\MM n xs Q Q.length/\r=.tup [.sl 1 (dE (seL n Q)),ints (byL (stO n.arcs.length) n Q way)]/\H=oX fo xs
theorem rB.new{n:dK}{xs:N_}{X:PH}{cd:dI->Int}{b e:Nat}{a:RS}(h:rB n xs X cd b e a){p:Nat}(hp:a.H p=none)(y:aR):rB n xs X cd b e { a with H:=a.H.set p y }:=by
 have l:∀o x,a.H o=some x->(a.H.set p y) o=some x:=λo x i=>by rw[aM,aC (λe2=>by subst e2;rw[hp]at i;cases i)];exact i
 exact⟨h.seen,h.done,h.dk,h.k,λo x i=>l o x (h.base o x i),l _ _ h.hb,l _ _ h.he,h.hq.ext λx u=>l _ x u,h.ne⟩
theorem rB.box{n:dK}{xs:N_}{X:PH}{cd:dI->Int}{b e:Nat}{a:RS}(h:rB n xs X cd b e a){p:Nat}(hp:a.H p=none)(y:aR):rB n xs (X.set p y) cd b e { a with H:=a.H.set p y }:=by
 have l:∀o x,a.H o=some x->(a.H.set p y) o=some x:=λo x i=>by rw[aM,aC (λe2=>by subst e2;rw[hp]at i;cases i)];exact i
 have hq:a.q≠p:=λe2=>by obtain⟨rs,off,_,u,_⟩:=h.hq;rw[e2,hp]at u;cases u
 refine⟨h.seen,h.done,h.dk,h.k,λo x i=>?_,l _ _ h.hb,l _ _ h.he,h.hq.ext λx w=>l _ x w,?_,h.ne.2⟩;show(a.H.set p y) o=some x;rw[aM]at i ⊢;by_cases e2:o=p;rw[aE e2]at i ⊢;exact i;rw[aC e2]at i ⊢;exact h.base o x i;rw[aM,aC hq];exact h.ne.1
theorem rB.unbox{n:dK}{xs:N_}{X:PH}{cd:dI->Int}{b e:Nat}{a:RS}{p:Nat}{y:aR}(h:rB n xs (X.set p y) cd b e a)(hp:X p=none):rB n xs X cd b e a:=by
 have l:∀o x,X o=some x->(X.set p y) o=some x:=λo x i=>by rw[aM,aC (λe2=>by subst e2;rw[hp]at i;cases i)];exact i
 refine⟨h.seen,h.done,h.dk,h.k,λo x i=>h.base o x (l o x i),h.hb,h.he,h.hq,?_,h.ne.2⟩;have:=h.ne.1;rw[aM]at this;split at this;cases this;exact this
theorem acR{a1 a2 c:aI}{K:bT}[Up K]{F:PF}{H:PH}{α:Type}(i:α->PF)(Hs:α->PH)(P:α->Prop)(u:a1.wp C (gH C (a2.wp C) (λe l H'=>e=.normal/\∃x,P x/\(i x).le l/\Hs x=H')) F H)
  (w:∀x,P x->c.wp C K (i x) (Hs x)):a1.wp C (gH C (a2.wp C) (gH C (c.wp C) K)) F H:=wp_cut (a:=.seq a1 a2) i Hs P u w
theorem Qf {C : Ctx} (n : dK) (hn : lE n) (fo : Nat) (xs : N_) (hx : BR n xs) :
    ZA.wp C (aW ly.res (Nu n fo xs)) (g_ [.agg n.cells, .osl fo 1 0 xs.length]) (oX fo xs) := by
  have hfew := hn.few;have hsrc := hn.source;have hmany := hn.num;have hb1 : (n.nodes : Int) * ((8 : Nat) : Int) <= 140737488355328 := Om;have hb2 : (n.nodes : Int) <= 9223372036854775807 := Om;have hb3 : (n.nodes : Int) * ((1 : Nat) : Int) <= 140737488355328 := Om;have hs1 : (n.source : Int) < (n.nodes : Nat) := Om;simp only[go_sem,ZA,ly];refine bE .nil cO a_ ?_;simp only[go_sem,hb1,hb2,hb3];refine aQ fun e he => ?_;have e1 : ¬ fo = e := fun e0 => by rw [<- e0, bL] at he; cases he
  have e1' : ¬ e = fo := fun e0 => e1 e0.symm;simp only[go_sem,hb1,hb2,hb3];refine aQ fun b hb => ?_;have b1 : ¬ fo = b := fun e0 => by rw [<- e0, aM, aC e1, bL] at hb; cases hb
  have b2 : ¬ e = b := fun e0 => by rw [<- e0, bL] at hb; cases hb
  have b2' : ¬ b = e := fun e0 => b2 e0.symm;have hXb : (oX fo xs) b = none := by rw [aM, aC b2'] at hb; exact hb
  simp only[go_sem,b2,b2',hs1,List.getElem?_replicate,List.length_replicate,hsrc,aqA];refine aQ fun q hq => ?_;have q3 : ¬ b = q := fun e0 => by rw [<- e0, aM, aC b2', bL] at hq; cases hq
  have q4 : ¬ e = q := fun e0 => by rw [<- e0, bL] at hq; cases hq
  have hXq : (oX fo xs) q = none := by rw [aM, aC (fun h => q4 h.symm), aM, aC (fun h => q3 h.symm), aM, aC (fun h => q4 h.symm)] at hq; exact hq
  have hfoX : (oX fo xs) fo = some (.rows 1 (jF xs)) := by rw [bL]
  simp only[go_sem];rw [S9 (stO n.arcs.length) n (fun _ => (0, true)), Ws];refine wp_loop (α := RS) (fun a => (((((n_.set 1 (.osl fo 1 0 xs.length)).set 2 (.aU n.cells)).set 6 (.osl e 1 0 n.nodes)).set 7 (.osl b 1 0 n.nodes)).set 8 (a.v))) (fun a => a.H) (fun a => rB n xs (oX fo xs) (stO n.arcs.length) b e a /\ a.d = a.k) (fun a => n.nodes - a.k)
    ⟨[n.source], 0, fun _ => (0, true), .osl q 1 0 1, q, ((((oX fo xs).set e (.rows 1 (apX n.nodes [.bool false]))).set b (.rows 1 (aN (byL (stO n.arcs.length) n [n.source] (fun _ => (0, true)))))).set e (.rows 1 (dE (seL n [n.source])))).set q (.rows 1 [[.j (n.source : Nat)]]), 0⟩
    ⟨⟨Md hn xs _, On n xs _, apU _, apR _, DR (DR (DR (DR (fun _ _ h => h) he) hXb) he) hXq,
      by rw [aM, aC q3, aM, aC b2', bL], by rw [aM, aC q4, bL], ⟨[[.j (n.source : Nat)]], 0, rfl, by rw [bL], by simp, rfl⟩, hXq, fun h => q3 h.symm, fun h => q4 h.symm⟩, rfl⟩ Lq (fun _ _ h => h) ?_
  rintro a ⟨hI, hdk⟩;obtain ⟨rs, off, hv, hq1, hq2, hq3⟩ := hI.hq;rw [apP, arM] at hv hq2 hq3;simp only[go_sem,hv];by_cases hk : a.k < a.Q.length
  · have c0 : ((a.Q.length - a.k : Nat) : Int) > 0 := Om
    have hc0 : (0 : Int) < ((a.Q.length - a.k : Nat) : Int) := c0;have hc1 : (1 : Int) <= ((a.Q.length - a.k : Nat) : Int) := Om;have hrs : rs[off]? = some [.j ((a.Q[a.k] : Nat) : Int)] := by
      have h5 : ((rs.drop off).take (a.Q.length - a.k))[0]? = (jF (a.Q.drop a.k))[0]? := by rw [hq3]
      rw [atJ, aE Om, atI, arG, aqE, atI, arG, apZ hk] at h5;exact h5
    simp only[go_sem,c0,hc0,hq1,arG,hrs,hc1,Int.le_refl];have hkn := gb hI.seen;have hI0 : rB n xs (oX fo xs) (stO n.arcs.length) b e ⟨a.Q, a.k + 1, a.way, .osl a.q 1 (off + 1) (a.Q.length - a.k - 1), a.q, a.H, a.d⟩ := by
      have hfl : (jF (a.Q.drop (a.k + 1))).length = a.Q.length - a.k - 1 := by rw [apP, arM, Nat.sub_sub]
      refine ⟨hI.seen, hI.done, Nat.le_succ_of_le hI.dk, hk, hI.base, hI.hb, hI.he, ⟨rs, off + 1, by rw [hfl], hq1, by rw [hfl]; omega, ?_⟩, hI.ne⟩;rw [hfl];have h7 := congrArg (List.drop 1) hq3;rw [List.drop_take, List.drop_drop] at h7;rw [h7];show List.drop 1 (List.map _ _) = _;rw [<- List.map_drop, List.drop_drop]
    refine wp_loop (α := RS × Nat) (fun c => (((((((n_.set 1 (.osl fo 1 0 xs.length)).set 2 (.aU n.cells)).set 6 (.osl e 1 0 n.nodes)).set 7 (.osl b 1 0 n.nodes)).set 8 (c.1.v)).set 9 (.j ((a.Q[a.k] : Nat) : Int))).set 10 (.j (c.2 : Nat)))) (fun c => c.1.H)
      (fun c => rB n xs (oX fo xs) (stO n.arcs.length) b e c.1 /\ c.1.d = a.k /\ c.1.k = a.k + 1 /\ c.1.Q[a.k]? = some a.Q[a.k] /\ c.2 <= n.arcs.length /\ ∀ s : dI, s.1 < c.2 -> eS n s = a.Q[a.k] -> 0 < iE n xs s -> jV n s ∈ c.1.Q) (fun c => n.arcs.length - c.2) (⟨a.Q, a.k + 1, a.way, .osl a.q 1 (off + 1) (a.Q.length - a.k - 1), a.q, a.H, a.d⟩, 0)
      ⟨hI0, hdk, rfl, apZ hk, apR _, fun s h => by omega⟩ Lq (fun _ _ h => h) ?_
    rintro ⟨a', j⟩ ⟨hI', hd', hk', hQk, hj, apI⟩;dsimp only at hI' hd' hk' hQk hj apI;simp only[go_sem,apP];by_cases hlt : j < n.arcs.length
    · have aoJ : (j : Int) < (n.arcs.length : Nat) := Om
      have hjx : j < xs.length := by rw [hx.len]; exact hlt
      have hjx' : (j : Int) < (xs.length : Nat) := Om;have hm := hn.num;obtain ⟨z1, z2, z3⟩ := hn.ends _ (apW hlt);rw [tE hlt] at z1 z2 z3;have z1' : (((dA n j).src : Nat) : Int) < (n.nodes : Nat) := Om;have z2' : (((dA n j).dst : Nat) : Int) < (n.nodes : Nat) := Om;have hxle := hx.le j hlt;have hjw := wZz j;have hmw : i_.wrap ((n.arcs.length : Int) + (j : Int)) = ((n.arcs.length + j : Nat) : Int) := by rw [wrap_i64 Om Om]; omega
      have hwQ : a.Q[a.k] ∈ a'.Q := asC hQk;simp only[go_sem,aoJ,qK hlt];refine aQ fun p hp => ?_;have hXp : (oX fo xs) p = none := by
        cases hxp : (oX fo xs) p with
        | none => rfl
        | some y => rw [hI'.base _ _ hxp] at hp; cases hp
      have p1 : ¬ p = fo := fun e0 => by rw [e0, hfoX] at hXp; cases hXp
      have p1' : ¬ fo = p := fun e0 => p1 e0.symm;have p2 : ¬ p = e := fun e0 => by rw [e0, hI'.he] at hp; cases hp
      have p2' : ¬ e = p := fun e0 => p2 e0.symm;have p3 : ¬ p = b := fun e0 => by rw [e0, hI'.hb] at hp; cases hp
      have p3' : ¬ b = p := fun e0 => p3 e0.symm;simp only[go_sem];have hI1 := hI'.box hp (.rows 4 [(dA n j).cells]);have hQk1 : ({ a' with H := a'.H.set p (.rows 4 [(dA n j).cells]) } : RS).Q[a.k]? = some a.Q[a.k] := hQk;have hd1 : ({ a' with H := a'.H.set p (.rows 4 [(dA n j).cells]) } : RS).d = a.k := hd';have hk1 : ({ a' with H := a'.H.set p (.rows 4 [(dA n j).cells]) } : RS).k = a.k + 1 := hk';have hX1 : ((oX fo xs).set p (.rows 4 [(dA n j).cells])) b = none /\ ((oX fo xs).set p (.rows 4 [(dA n j).cells])) e = none /\ ¬ b = e := ⟨by rw [aM, aC p3']; exact hXb, by rw [aM, aC p2']; exact he, b2'⟩;have hQs : ∀ Q : N_, Q[a.k]? = some a.Q[a.k] -> ∀ t, (Q ++ [t])[a.k]? = some a.Q[a.k] := fun Q h t => by obtain ⟨l1, l2⟩ := aqU.1 h;rw [asE l1]; exact h
      have hsrcQ : ∀ c : RS, rB n xs ((oX fo xs).set p (.rows 4 [(dA n j).cells])) (stO n.arcs.length) b e c -> n.source ∈ c.Q := fun c h => by obtain ⟨t, ht⟩ := h.seen.first; rw [ht]; simp
      refine acR (α := RS) (fun c => ((((((((n_.set 1 (.osl fo 1 0 xs.length)).set 2 (.aU n.cells)).set 6 (.osl e 1 0 n.nodes)).set 7 (.osl b 1 0 n.nodes)).set 8 (c.v)).set 9 (.j ((a.Q[a.k] : Nat) : Int))).set 10 (.j (j : Nat))).set 11 (.ptr p 4 0 0))) (fun c => c.H)
        (fun c => rB n xs ((oX fo xs).set p (.rows 4 [(dA n j).cells])) (stO n.arcs.length) b e c /\ c.d = a.k /\ c.k = a.k + 1 /\ c.Q[a.k]? = some a.Q[a.k] /\ (∀ v ∈ a'.Q, v ∈ c.Q) /\ ((dA n j).src = a.Q[a.k] -> xs.getD j 0 < (dA n j).cap -> (dA n j).dst ∈ c.Q)) ?_ ?_
      · have hel : (dA n j).dst < (seL n a'.Q).length := by rw [XJ]; exact z2
        have hbl : (dA n j).dst < (byL (stO n.arcs.length) n a'.Q a'.way).length := by rw [qn]; exact z2
        have hbr := qM hel;rw [sj z2] at hbr;have hir := qN hbl;by_cases c1 : (dA n j).src = a.Q[a.k]
        · have c1' : ((((dA n j).src : Nat) : Int) == ((a.Q[a.k] : Nat) : Int)) = true := cC Om
          cases hc : a'.Q.contains (dA n j).dst with
          | true =>rw [hc] at hbr;refine bE .nil cO a_ ?_;simp only[go_sem,c1',p2,p2',z2',hI'.he,aqA,hbr];exact ⟨_, ⟨hI1, hd1, hk1, hQk1, fun _ h => h, fun _ _ => asW.1 hc⟩, by exact Lq, rfl⟩
          | false =>
            rw [hc] at hbr;have hnin : (dA n j).dst ∉ a'.Q := fun h => by rw [asW.2 h] at hc; cases hc
            by_cases c3 : xs.getD j 0 < (dA n j).cap
            · have c3' : ((xs.getD j 0 : Nat) : Int) < ((dA n j).cap : Int) := Om
              have hs1 : (aN (byL (stO n.arcs.length) n a'.Q a'.way)).set (dA n j).dst [.j (j : Int)] = aN (byL (stO n.arcs.length) n (a'.Q ++ [(dA n j).dst]) (HV a'.way (dA n j).dst (j, true))) := by rw [iZ]; exact congrArg aN (Gu (s := (j, true)) (by obtain ⟨t, ht⟩ := hI'.seen.first; rw [ht]; simp) hnin)
              refine bE .nil cO a_ ?_;simp only[go_sem,c1',p2,p2',z2',hI'.he,aqA,hbr,p1,p1',hI'.base _ _ hfoX,hjx',mF hjx,c3'];refine bE (h_.set p (.rows 4 [(dA n j).cells])) cO (c_ a_ (by rw [bL])) ?_;simp only[go_sem,p2,p2',z2',hI'.he,aqA,hbr];refine ⟨c_ a_ (by rw [aM, aC p2, bL]), ?_⟩;refine bE .nil cO a_ ?_;simp only[go_sem,b2,b2',p3,p3',hI'.hb,aqA,hir,hs1,kD,Ii];refine ⟨a_, ?_⟩;simp only[go_sem,p2,p2',p3,p3'];refine rB.step hn hI1 hX1 (s := (j, true)) hlt (by rw [show eS n (j, true) = (dA n j).src from rfl, c1]; exact hwQ) hnin (by show 0 < (dA n j).cap - xs.getD j 0; omega) fun a2 g1 g2 g3 g4 => ?_;exact ⟨a2, ⟨g1, g4.trans hd', g3.trans hk', by rw [g2]; exact hQs _ hQk _, fun v h => by rw [g2]; exact List.mem_append_left _ h, fun _ _ => by rw [g2]; exact List.mem_append_right _ (arA.2 rfl)⟩, by exact Lq, rfl⟩
            · have c3' : ¬ ((xs.getD j 0 : Nat) : Int) < ((dA n j).cap : Int) := Om
              refine bE .nil cO a_ ?_;simp only[go_sem,c1',p2,p2',z2',hI'.he,aqA,hbr,p1,p1',hI'.base _ _ hfoX,hjx',mF hjx,c3'];exact ⟨_, ⟨hI1, hd1, hk1, hQk1, fun _ h => h, fun _ h => absurd h c3⟩, by exact Lq, rfl⟩
        · have c1' : ((((dA n j).src : Nat) : Int) == ((a.Q[a.k] : Nat) : Int)) = false := bJ Om
          refine bE .nil cO a_ ?_;simp only[go_sem,c1'];exact ⟨_, ⟨hI1, hd1, hk1, hQk1, fun _ h => h, fun h => absurd h c1⟩, by exact Lq, rfl⟩
      · rintro a2 ⟨hI2, hd2, hk2, hQk2, hup, hf⟩
        have hpp : a2.H p = some (.rows 4 [(dA n j).cells]) := hI2.base _ _ (by rw [bL]);have hfo2 : a2.H fo = some (.rows 1 (jF xs)) := hI2.base _ _ (by rw [aM, aC p1']; exact hfoX);have hel : (dA n j).src < (seL n a2.Q).length := by rw [XJ]; exact z1
        have hbl : (dA n j).src < (byL (stO n.arcs.length) n a2.Q a2.way).length := by rw [qn]; exact z1
        have hbr := qM hel;rw [sj z1] at hbr;have hir := qN hbl;have hend : ∀ c : RS, rB n xs ((oX fo xs).set p (.rows 4 [(dA n j).cells])) (stO n.arcs.length) b e c -> (∀ v ∈ a2.Q, v ∈ c.Q) -> ((dA n j).dst = a.Q[a.k] -> 0 < xs.getD j 0 -> (dA n j).src ∈ c.Q) -> ∀ s : dI, s.1 < j + 1 -> eS n s = a.Q[a.k] -> 0 < iE n xs s -> jV n s ∈ c.Q := fun c _ g2 g3 s g4 g5 g6 => by
          rcases aqW s.1 j with h | h
          · exact g2 _ (hup _ (apI s h g5 g6))
          · obtain ⟨i, bb⟩ := s
            have hij : i = j := by have : i < j + 1 := g4; have : j <= i := h; omega
            subst hij;cases bb with
            | true => exact g2 _ (hf g5 (by have : 0 < (dA n i).cap - xs.getD i 0 := g6; omega))
            | false => exact g3 g5 g6
        by_cases c1 : (dA n j).dst = a.Q[a.k]
        · have c1' : ((((dA n j).dst : Nat) : Int) == ((a.Q[a.k] : Nat) : Int)) = true := cC Om
          cases hc : a2.Q.contains (dA n j).src with
          | true =>rw [hc] at hbr;simp only[go_sem,c1',hpp,z1',hI2.he,aqA,hbr,hjw];exact aF (a2, j + 1) ⟨hI2.unbox hXp, hd2, hk2, hQk2, hlt, hend a2 hI2 (fun _ h => h) fun _ _ => asW.1 hc⟩ (by dsimp only; omega) Lq (fun _ _ h => h)
          | false =>
            rw [hc] at hbr;have hnin : (dA n j).src ∉ a2.Q := fun h => by rw [asW.2 h] at hc; cases hc
            by_cases c3 : 0 < xs.getD j 0
            · have c3' : ((xs.getD j 0 : Nat) : Int) > 0 := Om
              have hs1 : (aN (byL (stO n.arcs.length) n a2.Q a2.way)).set (dA n j).src [.j ((n.arcs.length + j : Nat) : Int)] = aN (byL (stO n.arcs.length) n (a2.Q ++ [(dA n j).src]) (HV a2.way (dA n j).src (j, false))) := by rw [iZ]; exact congrArg aN (Gu (s := (j, false)) (hsrcQ _ hI2) hnin)
              simp only[go_sem,c1',hpp,z1',hI2.he,aqA,hbr,hfo2,hjx',mF hjx,c3'];refine bE (h_.set p (.rows 4 [(dA n j).cells])) cO (c_ a_ hpp) ?_;simp only[go_sem,p2,p2',hpp,z1',hI2.he,aqA,hbr,apP,hmw];refine ⟨c_ a_ (by rw [aM, aC p2]; exact hpp), ?_⟩;refine bE .nil cO a_ ?_;simp only[go_sem,b2,b2',p3,p3',hI2.hb,aqA,hir,hs1,kD,Ii];refine ⟨a_, ?_⟩;simp only[go_sem,p2,p2',p3,p3',hpp];refine rB.step hn hI2 hX1 (s := (j, false)) hlt (by rw [show eS n (j, false) = (dA n j).dst from rfl, c1]; exact asC hQk2) hnin c3 fun a3 g1 g2 g3 g4 => ?_;simp only[go_sem,hjw];exact aF (a3, j + 1) ⟨g1.unbox hXp, g4.trans hd2, g3.trans hk2, by rw [g2]; exact hQs _ hQk2 _, hlt, hend a3 g1 (fun v h => by rw [g2]; exact List.mem_append_left _ h) fun _ _ => by rw [g2]; exact List.mem_append_right _ (arA.2 rfl)⟩ (by dsimp only; omega) Lq (fun _ _ h => h)
            · have c3' : ¬ ((xs.getD j 0 : Nat) : Int) > 0 := Om
              simp only[go_sem,c1',hpp,z1',hI2.he,aqA,hbr,hfo2,hjx',mF hjx,c3',hjw];exact aF (a2, j + 1) ⟨hI2.unbox hXp, hd2, hk2, hQk2, hlt, hend a2 hI2 (fun _ h => h) fun _ h => absurd h c3⟩ (by dsimp only; omega) Lq (fun _ _ h => h)
        · have c1' : ((((dA n j).dst : Nat) : Int) == ((a.Q[a.k] : Nat) : Int)) = false := bJ Om
          simp only[go_sem,c1',hpp,hjw];exact aF (a2, j + 1) ⟨hI2.unbox hXp, hd2, hk2, hQk2, hlt, hend a2 hI2 (fun _ h => h) fun h => absurd h c1⟩ (by dsimp only; omega) Lq (fun _ _ h => h)
    · have aoJ : ¬ (j : Int) < (n.arcs.length : Nat) := Om
      have hdn : MM n xs a'.Q (a.k + 1) := Ol (by rw [<- hd']; exact hI'.done) hQk fun s g1 g2 g3 => apI s Om g2 g3;have hsl := gb hI'.seen;obtain ⟨l1, l2⟩ := aqU.1 hQk;simp only[go_sem,aoJ];exact aF { a' with d := a.k + 1 } ⟨⟨hI'.seen, hdn, by show a.k + 1 <= a'.k; omega, hI'.k, hI'.base, hI'.hb, hI'.he, hI'.hq, hI'.ne⟩, hk'.symm⟩ (by show n.nodes - a'.k < n.nodes - a.k; omega) Lq (fun _ _ h => h)
  · have c0 : ¬ ((a.Q.length - a.k : Nat) : Int) > 0 := Om
    have hkk : a.k = a.Q.length := by have := hI.k; omega
    simp only[go_sem,c0];refine rJ (vs := [.osl e 1 0 n.nodes, .osl b 1 0 n.nodes]) (.inr rfl) rfl ?_;refine O7 (H2 := oX fo xs) hI.he hI.hb b2' (Flat.map _ fun x c hc q s rs => by rw [arA] at hc; subst hc; rfl) (by rw [yA, XJ]) (by unfold aN; rw [apP, qn]) ?_ ⟨a.Q, a.way, hI.seen, by rw [<- hkk, <- hdk]; exact hI.done, rfl, rfl⟩;have flx : Flat (jF xs) := Flat.map xs fun x c hc q s rs => by rw [arA] at hc;subst hc;rfl
    exact c_ a_ (bx (bx (hI.base _ _ hfoX) e1 (bw flx 1)) b1 (bw flx 1))
theorem N1{cd:dI->Int}{n:dK}{Q:N_}{way:Nat->dI}{v:Nat}(h:v<n.nodes)(i:v∈Q)(e:v≠n.source):((byL cd n Q way).map λx=>[PV.int .i64 x])[v]?=some [.j (cd (way v))]:=by
 unfold byL;rw[aqE,aqE,arU h,aqK,aqK,aE ⟨i,e⟩]
def Nv(n:dK)(r:PV)(H:PH):Prop:=
 ∃xs S,kN n xs/\rR n xs=lW S n.arcs/\S n.source=true/\S n.sink=false/\r=.tup [.sl 1 (jF xs),.int .i64 (rR n xs),.sl 1 (dE ((apQ n.nodes).map S)),.int .i64 0]/\H=h_
def adS(n:dK):Nat:=lW (λv=>decide (v=n.source)) n.arcs
theorem Xs{n:dK}(i:lE n){xs:N_}(h:kN n xs):rR n xs<=adS n:=h.aeK i aX (by simpa using λe=>i.apart e.symm)
theorem Ls(m:Nat):apX m [PV.int .i64 0]=jF (apX m 0):=by
 show _=List.map _ (apX m 0);rw[List.map_replicate];rfl
theorem Qg(S:∀n:dK,lE n->aJ C 299 [.agg n.cells] .nil (aL (.bool true)))
  (U:∀(n:dK)(xs:N_),lE n->kN n xs->aJ C 300 [.agg n.cells,.sl 1 (jF xs)] .nil (aL (.tup [.j (rR n xs),.bool true])))
  (O:∀(n:dK)(fo:Nat)(xs:N_),lE n->BR n xs->aJ C 302 [.agg n.cells,.osl fo 1 0 n.arcs.length] (oX fo xs) (Nu n fo xs))
  (n:dK) (y:lE n):ZB.wp C (aW HC.res (Nv n)) (g_ [.agg n.cells]) .nil:=by
 have hm:=y.num;have ο:(Z' n.arcs:Int)*((8:Nat):Int)<=140737488355328:=Om;have ρ:(Z' n.arcs:Int)<=9223372036854775807:=Om;have Θ:(n.sink:Int)<(n.nodes:Nat):=by have:=y.sink;omega
 simp only[go_sem,ZB,HC];refine aD (S n y) rfl ?_;simp only[go_sem,apP,ο,ρ];refine aQ λfo ω=>?_;simp only[go_sem];rw[Ls];refine wp_loop (α:=N_) (λ_=>((n_.set 1 (.aU n.cells)).set 6 (.osl fo 1 0 n.arcs.length))) (λxs=>oX fo xs) (λxs=>kN n xs) (λxs=>(adS n-rR n xs).toNat) (apX n.arcs.length 0) (O4 n).1 Lq (λ_ _ h=>h) ?_;intro xs Z;have hx:=Z.in;have κ:=Z.len;simp only[go_sem];refine jG (O n fo xs y hx) rfl (λ_ _ h=>h) ?_;rintro r H' ⟨Q,way,W,hD,rfl,rfl⟩ -;rw[PH.over_self _ (λ_ _ h=>h)];have F:=qM (R:=seL n Q) (i:=n.sink) (by rw[XJ];exact y.sink);rw[sj y.sink]at F;cases hc:Q.contains n.sink with
 |false=>
  rw[hc]at F;simp only[go_sem,F];have ι:n.sink ∉ Q:=λh=>by rw[asW.2 h]at hc;cases hc
  have hT:(jF xs).take n.arcs.length=jF xs:=aqR (by rw[apP,κ];exact apU _);have θ:Z' n.arcs<=Z' xs:=Om;refine tM (o:=fo) (s:=1) (rs:=jF xs) (U n xs y Z) Sq (by simp only[go_sem,hT,θ];rfl) ?_;simp only[go_sem,hT,θ];refine bK (vs:=[.sl 1 (jF xs),.j (rR n xs),.sl 1 (dE (seL n Q)),.j 0]) (.inr rfl) .nil rfl a_ ⟨xs,λv=>Q.contains v,Z,Wv y Z W hD ι,?_,hc,rfl,rfl⟩;obtain⟨t,ht⟩:=W.first;rw[ht];simp
 |true=>
  rw[hc]at F;have J:n.sink∈Q:=asW.1 hc;simp only[go_sem,F];obtain⟨L0,ζ,-⟩:=Nz W _ n.sink rfl J;refine wp_loop (α:=Nat × List dI × List dI × Int) (λc=>(((((n_.set 1 (.aU n.cells)).set 6 (.osl fo 1 0 n.arcs.length)).set 8 (ints (byL (stO n.arcs.length) n Q way))).set 11 (.j c.2.2.2)).set 12 (.j (c.1:Nat)))) (λ_=>oX fo xs)
   (λc=>c.1∈Q/\AF n Q way c.1 c.2.1/\c.2.2.1++c.2.1=L0/\0<c.2.2.2/\c.2.2.2<=2147483647/\∀s∈c.2.2.1,c.2.2.2<=iE n xs s) (λc=>c.2.1.length) (n.sink,L0,[],2147483647)
   ⟨J,ζ,rfl,(show(0:Int)<2147483647 by decide),(show(2147483647:Int)<=2147483647 by decide),λs h=>by cases h⟩ Lq (λ_ _ h=>h) ?_
  rintro⟨v,L,P,z⟩ ⟨hv,hB,M,δ,φ,ε⟩;dsimp only at hv hB M δ φ ε;have υ:=W.lt v hv;have Ξ:(v:Int)<(n.nodes:Nat):=Om;simp only[go_sem];by_cases V:v=n.source;have hL:L=[]:=by
   cases hB with
   |nil=>rfl
   |cons _ h _=>exact absurd V h
  subst hL;rw[aqY]at M;subst M;have N:(v:Int)=n.source:=Om;obtain⟨e,rfl⟩:∃e:Nat,z=e:=⟨z.toNat,by omega⟩;simp only[go_sem,bW N];refine wp_loop (α:=Nat × List dI × N_) (λc=>(((((n_.set 1 (.aU n.cells)).set 6 (.osl fo 1 0 n.arcs.length)).set 8 (ints (byL (stO n.arcs.length) n Q way))).set 11 (.j (e:Nat))).set 14 (.j (c.1:Nat)))) (λc=>oX fo c.2.2)
   (λc=>c.1∈Q/\AF n Q way c.1 c.2.1/\iq n xs c.2.2 e c.1 c.2.1/\∀s∈c.2.1,e<=iE n xs s) (λc=>c.2.1.length) (n.sink,P,xs)
   ⟨J,ζ,Px Z e P,λs hs=>by have:=ε s hs;omega⟩ Lq (λ_ _ h=>h) ?_
  rintro⟨u,L,ys⟩ ⟨hu,D,hM,w⟩;dsimp only at hu D hM w;simp only[go_sem];have τ:=W.lt u hu;have Λ:(u:Int)<(n.nodes:Nat):=Om;by_cases K:u=n.source;have hL:L=[]:=by
   cases D with
   |nil=>rfl
   |cons _ h _=>exact absurd K h
  subst hL;subst K;obtain⟨k1,k2⟩:=Vg y Z hM;have ψ:=Xs y k1;simp only[go_sem,bW (show(n.source:Int)=n.source from rfl)];exact aF ys k1 Om Lq (λ_ _ h=>h)
  ·have η:¬(u:Int)=n.source:=Om;have ξ:=D;cases D with
   |nil=>exact absurd rfl K
   |@cons _ L _ _ D=>
   have σ:=w _ (atZ ..);obtain⟨g1,g2,g3⟩:=Vh W hM ξ hu σ;obtain⟨s1,s2,s3,s4,s5⟩:=W.way u hu K;have γ:=hM.same _ (atZ ..);have E:=N1 (cd:=stO n.arcs.length) (way:=way) τ hu K;generalize hs:way u=s at *
   obtain⟨i,bb⟩:=s;have s1:i<Z' n.arcs:=s1;have ν:i<Z' ys:=by rw[hM.len];exact s1
   have μ:(i:Int)<(Z' n.arcs:Nat):=Om;have χ:=room_le y hx (s:=(i,bb)) s1;have B:=hx.le i s1;have l:=(y.ends _ (apW s1)).2.2;rw[tE s1]at l;dsimp only at γ;have X:∀s∈L,e<=iE n xs s:=λs hs=>w s (atK _ hs);cases bb with
   |true=>
    have Y:stO n.arcs.length (i,true)=(i:Int):=rfl;have hp:push e ys (i,true)=ys.set i (ys.getD i 0+e):=rfl;have e2:iE n xs (i,true)=(dA n i).cap-xs.getD i 0:=rfl;have ew:i_.wrap (((ys.getD i 0:Nat):Int)+((e:Nat):Int))=((ys.getD i 0+e:Nat):Int):=wO_
    simp only[go_sem,cX η,E,Y,apP,μ,mF ν,aqA,ew,ve,PH.set_set,qK s1];rw[<-hp];exact aF (eS n (i,true),L,push e ys (i,true)) ⟨g1,g2,g3,X⟩ aX Lq (λ_ _ h=>h)
   |false=>
    have Y:stO n.arcs.length (i,false)=((Z' n.arcs+i:Nat):Int):=rfl;have hp:push e ys (i,false)=ys.set i (ys.getD i 0-e):=rfl;have e2:iE n xs (i,false)=xs.getD i 0:=rfl;have β:¬((Z' n.arcs+i:Nat):Int)<(Z' n.arcs:Nat):=Om;have ei:i_.wrap (((Z' n.arcs+i:Nat):Int)-(Z' n.arcs:Int))=(i:Int):=wO_
    have ew:i_.wrap (((ys.getD i 0:Nat):Int)-((e:Nat):Int))=((ys.getD i 0-e:Nat):Int):=wO_
    simp only[go_sem,cX η,E,Y,apP,β];refine bE .nil cO a_ ?_;simp only[go_sem,apP,ei,μ,mF ν,aqA,ew,ve,PH.set_set];rw[<-hp];refine⟨a_,?_⟩;simp only[go_sem,apP,ei,qK s1];exact aF (eS n (i,false),L,push e ys (i,false)) ⟨g1,g2,g3,X⟩ aX Lq (λ_ _ h=>h)
  ·have N:¬(v:Int)=n.source:=Om;cases hB with
   |nil=>exact absurd rfl V
   |@cons _ L _ _ hB=>
   obtain⟨s1,s2,s3,s4,s5⟩:=W.way v hv V;have E:=N1 (cd:=stO n.arcs.length) (way:=way) υ hv V;have Δ:=room_le y hx s1;have x:∀z2:Int,0<z2->z2<=z->z2<=iE n xs (way v)->eS n (way v)∈Q/\AF n Q way (eS n (way v)) L/\(P++[way v])++L=L0/\0<z2/\z2<=2147483647/\∀s∈P++[way v],z2<=iE n xs s:=λz2 h0 h1 h2=>
    ⟨s4,hB,by rw[aqT];exact M,h0,by omega,λs hs=>by
     rcases aqZ.1 hs with g|g
     have:=ε s g;omega;rw[arA]at g;subst g;exact h2⟩
   generalize hs:way v=s at *
   obtain⟨i,bb⟩:=s;have s1:i<Z' n.arcs:=s1;have A:i<Z' xs:=by rw[κ];exact s1
   have B:(i:Int)<(Z' n.arcs:Nat):=Om;have Γ:=hx.le i s1;have l:=(y.ends _ (apW s1)).2.2;rw[tE s1]at l;cases bb with
   |true=>
    have Y:stO n.arcs.length (i,true)=(i:Int):=rfl;have e2:iE n xs (i,true)=(dA n i).cap-xs.getD i 0:=rfl;have ew:i_.wrap (((dA n i).cap:Int)-((xs.getD i 0:Nat):Int))=((iE n xs (i,true):Nat):Int):=by rw[wrap_i64 Om Om,e2];omega
    simp only[go_sem,cX N,E,Y,apP,B];refine bE .nil cO a_ ?_;by_cases hlt:((iE n xs (i,true):Nat):Int)<z;simp only[go_sem,qK s1,B,mF A,aqA,ew,hlt];exact aF (eS n (i,true),L,P++[(i,true)],((iE n xs (i,true):Nat):Int)) (x ((iE n xs (i,true):Nat):Int) Om Om (Int.le_refl _)) aX Lq (λ_ _ h=>h);simp only[go_sem,qK s1,B,mF A,aqA,ew,hlt];exact aF (eS n (i,true),L,P++[(i,true)],z) (x z δ (Int.le_refl _) Om) aX Lq (λ_ _ h=>h)
   |false=>
    have Y:stO n.arcs.length (i,false)=((Z' n.arcs+i:Nat):Int):=rfl;have e2:iE n xs (i,false)=xs.getD i 0:=rfl;have β:¬((Z' n.arcs+i:Nat):Int)<(Z' n.arcs:Nat):=Om;have ei:i_.wrap (((Z' n.arcs+i:Nat):Int)-(Z' n.arcs:Int))=(i:Int):=wO_
    simp only[go_sem,cX N,E,Y,apP,β];refine bE .nil cO a_ ?_;by_cases hlt:((xs.getD i 0:Nat):Int)<z;simp only[go_sem,apP,ei,qK s1,B,mF A,aqA,hlt];exact aF (eS n (i,false),L,P++[(i,false)],((xs.getD i 0:Nat):Int)) (x ((xs.getD i 0:Nat):Int) Om Om (Int.le_refl _)) aX Lq (λ_ _ h=>h);simp only[go_sem,apP,ei,qK s1,B,mF A,aqA,hlt];exact aF (eS n (i,false),L,P++[(i,false)],z) (x z δ (Int.le_refl _) Om) aX Lq (λ_ _ h=>h)
theorem aO.Yk{H:PH}{B:List BX}{L:List LI}(h:aO H B L):∀N:Nat,aO H B (L++apX N (.aG,1,[]))
 |0=>by rw[List.replicate_zero,aqY];exact h
 |N+1=>by rw[List.replicate_succ',<-aqT];exact(h.Yk N).oF 1
structure ba(n:dK)(T:dI->Prop)(c:Nat)(ws:L2_):Prop where
 len:Z' ws=n.nodes
 all:∀s:dI,T s->stI s∈ws.getD (eS n s) []
 only:∀v c,c∈ws.getD v []->∃s:dI,T s/\eS n s=v/\c=stI s
 few:∀v,(ws.getD v []).length<=c
theorem ba.add{n:dK}{T:dI->Prop}{c:Nat}{l:L2_}(h:ba n T c l){s0:dI}(u:eS n s0<n.nodes) :
  ba n (λs=>T s\/s=s0) (c+1) (l.set (eS n s0) (l.getD (eS n s0) []++[stI s0])):=by
 have D:eS n s0<Z' l:=by rw[h.len];exact u
 have i:∀v,(l.set (eS n s0) (l.getD (eS n s0) []++[stI s0])).getD v []=if v=eS n s0 then l.getD v []++[stI s0]else l.getD v []:=λv=>by rw[apY,asX];by_cases e:v=eS n s0;subst e;rw[aE rfl,aE D,aE rfl];rfl;rw[aC (λe2=>e e2.symm),aC e,<-apY]
 refine⟨by rw[arD];exact h.len,λs u=>?_,λv x w=>?_,λv=>?_⟩;rw[i];rcases u with u|rfl
 split;exact List.mem_append_left _ (h.all s u);exact h.all s u;rw[aE rfl];simp;rw[i]at w;split at w;rename_i e;rcases aqZ.1 w with g|g
 obtain⟨s,y,A,B⟩:=h.only v x g;exact⟨s,.inl y,A,B⟩;rw[arA]at g;exact⟨s0,.inr rfl,e.symm,g⟩;obtain⟨s,y,A,B⟩:=h.only v x w;exact⟨s,.inl y,A,B⟩;have:=h.few v;rw[i];split;rw[apV,aqH];omega;omega
theorem ba.zero(n:dK):ba n (λs=>s.1<0) 0 (apX n.nodes []):=by
 have:∀v,(apX n.nodes ([]:I_)).getD v []=[]:=λv=>by rw[apY,List.getElem?_replicate];split<;>rfl
 exact⟨by simp,λs i=>absurd i (Nat.not_lt_zero _),λv c e=>(by rw[this]at e;cases e),λv=>by rw[this];exact apU _⟩
theorem ba.ok{n:dK}(i:lE n){e:L2_}(h:ba n (λs=>s.1<Z' n.arcs) (2*Z' n.arcs) e):ahA n e:=
 ⟨h.len,h.all,h.only,λv=>by have:=h.few v;have:=i.num;omega⟩
theorem acP(ps:WPs)(i:Nat)(p:PV × I_):wls (ps.set i p)=(wls ps).set i p.2:=asP ..
theorem acO{ps:WPs}{i:Nat}{p:PV × I_}(h:ps[i]?=some p):(wls ps).getD i []=p.2:=by
 unfold wls;rw[apY,aqE,h];rfl

def pN(f:aB)(l:List dD)(xs:N_)(k:Nat):L2_:=(apQ f.aoE.length).map λv=>lZ f v (l.take k) (xs.take k)
theorem Br(f:aB)(l:List dD)(xs:N_)(k:Nat):(pN f l xs k).length=Z' f.aoE:=by simp[pN]
theorem Pj(f:aB)(l:List dD)(xs:N_):pN f l xs 0=apX f.aoE.length []:=by
 refine asJ (by simp[pN]) λi e u=>?_;simp[pN,lZ]
theorem Uu{f:aB}{l:List dD}{xs:N_}(h:Z' xs=Z' l):pN f l xs l.length=zB f l xs:=by
 unfold pN zB;rw[aqO,aqR Om]
theorem PQ(f:aB)(v:Nat){l:List dD}{xs:N_}(u:Z' xs=Z' l){k:Nat}(i:k<Z' l):lZ f v (l.take (k+1)) (xs.take (k+1))=lZ f v (l.take k) (xs.take k)++zR f v l[k] (xs.getD k 0):=by
 have e:k<Z' xs:=Om;rw[arB i,arB e,uS f v _ _ (by rw[aqF,aqF,u])];rw[show xs.getD k 0=xs[k] by simp[apY,e]];simp[lZ]
theorem Pi{f:aB}{l:List dD}{xs:N_}(i:Z' xs=Z' l){k:Nat}(e:k<Z' l)(h:l[k].dst<cU f 0\/xs.getD k 0=0):pN f l xs (k+1)=pN f l xs k:=by
 unfold pN;refine arQ λv _=>?_;rw[PQ f v i e];have:zR f v l[k] (xs.getD k 0)=[]:=by
  unfold zR UK;rcases h with h|h
  rw[bG Om];rfl;rw[h];simp
 rw[this,aqY]
theorem Uv{f:aB}{l:List dD}{xs:N_}(u:Z' xs=Z' l){k:Nat}(i:k<Z' l)(w:cU f 0<=l[k].dst)(x:xs.getD k 0≠0)(B:EP f l[k]<Z' f.aoE) :
  (pN f l xs k).set (EP f l[k]) ((pN f l xs k).getD (EP f l[k]) []++[((l[k].dst-cU f 0:Nat):Int)])=pN f l xs (k+1):=by
 have y:(pN f l xs k).getD (EP f l[k]) []=lZ f (EP f l[k]) (l.take k) (xs.take k):=by unfold pN;rw[apY,aqE,arU B];rfl
 rw[y];unfold pN;refine pP _ _ _ _ _ ?_ λv A=>?_;rw[PQ f _ u i];unfold zR UK;rw[aZ w,aZ x,aZ rfl];rfl;rw[PQ f _ u i];unfold zR UK;rw[bG (show ¬EP f l[k]=v from λe=>A e.symm),arE,arE];simp
theorem Yz{f:aB}(hV:VF f){room:I_}{a:dD}(ha:a∈iD f room)(h:cU f 0<=a.dst):∃v d,v<Z' f.aoE/\d<Z' f.aoC/\a=iP f v d:=by
 unfold iD at ha;rcases aqZ.1 ha with ha|ha
 obtain⟨v,e,ha⟩:=List.mem_flatMap.1 ha;have e:=aqN.1 e;unfold iF at ha;rcases aqG.1 ha with rfl|ha
 have:=(mD hV e hV.root.1).2;simp only[dM,if_true]at this;simp only at h;omega;rcases aqZ.1 ha with ha|ha
 obtain⟨i,hi,rfl⟩:=aqJ.1 ha;have:=aqN.1 hi;have:=(mD (i:=i+1) hV e Om).2;simp only[pB]at h;omega;obtain⟨d,l,rfl⟩:=aqJ.1 ha;exact⟨v,d,e,aqN.1 (asQ.1 l).1,rfl⟩;obtain⟨d,l,rfl⟩:=aqJ.1 ha;simp only[sO,cU]at h;omega
theorem Va{f:aB}(hV:VF f){d:Nat}(u:d<Z' f.aoC):0<cD f d/\cD f d<Z' f.aoF:=by
 have i:=hV.drive d u;refine⟨?_,i.2.2.2.1⟩;rcases arZ (cD f d)with e|e
 have l:=i.2.2.2.2;rw[e,hV.root.2.1]at l;omega;exact e
theorem aO.akW{H:PH}{B:List BX}{L:List LI}{o s:Nat}{rows:P2_}(h:aO H ((o,.rows s rows)::B) L):aO H B ((.osl o s 0 rows.length,s,rows)::L):=by
 refine⟨λb hb=>h.box b (atK _ hb),λx hx=>?_,?_⟩;rcases aqG.1 hx with rfl|hx
 exact .inr ⟨o,rows,rfl,h.box _ (atZ ..),apU _,aqO⟩;exact h.lst x hx;have e:fJ ((.osl o s 0 rows.length,s,rows)::L)=o::fJ L:=rfl;rw[e];exact(List.perm_middle.nodup_iff).2 h.nd
theorem aO.aiN{H:PH}{B:List BX}(h:aO H B [])(N:Nat):aO H B (mE (apX N ((.aG,[]):PV × I_))):=by
 have i:=h.Yk N;have e:mE (apX N ((.aG,[]):PV × I_))=[]++apX N (.aG,1,[]):=by unfold mE;rw[List.map_replicate];rfl
 rw[e];exact i
theorem vn{res:List dY}{R A:R_}{e:lY}{F:PF}{H:PH}(B:∀r H',R r H'->A r H')(h:aW res R e F H):aW res A e F H:=by
 cases e with
 |exit=>exact h
 |normal =>obtain⟨vs,u,i,l,H2,w,x,v,y,h5⟩:=h;exact⟨vs,u,i,l,H2,w,x,v,y,B _ _ h5⟩
 |ret =>obtain⟨vs,u,i,l,H2,w,x,v,y,h5⟩:=h;exact⟨vs,u,i,l,H2,w,x,v,y,B _ _ h5⟩
def Gl(f:aB)(room:I_)(e:L2_)(c:Int):Prop:=
 (cP f=false/\e=[]/\c=1)\/(cP f=true/\(∃u,DC f room u/\e=AN f u)/\c=0)\/(cP f=true/\¬akS f room/\e=[]/\c=12)
def adI(f:aB)(room:I_)(r:PV)(H:PH):Prop:=∃e c,Gl f room e c/\cY (.tup [lists e,.int .i64 c]) r H
def adH(f:aB)(room:I_)(r:PV)(H:PH):Prop:=∃e c,Gl f room e c/\r=.tup [lists e,.int .i64 c]/\H=h_
theorem aJ.place{name:Nat}{args:V_}{f:aB}{room:I_}(h:aJ C name args .nil (adI f room)):aJ C name args .nil (adH f room):=
 h.post λr H' ⟨u,c,e,i,l⟩=>⟨_,i,u,c,e,rfl,l⟩
theorem fx(f:aB)(v:Nat):∀(l:List dD)(xs:N_),(lZ f v l xs).length<=Z' l
 |[],_=>by simp[lZ]
 |_::_,[]=>by simp[lZ]
 |a::l,x::xs=>by
  have e:=fx f v l xs;have i:(zR f v a x).length<=1:=by unfold zR;split<;>simp
  rw[lZ,apV,aqV];omega
theorem Lu{res:List dY}{F:PF}{H:PH}{i:PV}{ps:WPs}{e:lY}(he:e=.normal\/e=.ret)(h:dY.evs F H res=some [i])(l:aO H [] (gX i ps)):aW res (cY (lists (wls ps))) e F H:=by
 obtain⟨φ,x,u,-,-,-,w,-⟩:=HA ps [] [] .nil l (λb hb=>by cases hb);refine rJ he h ⟨_,_,.nil,w _,a_,φ (bO [i]),?_,?_⟩;rw[FK,mU,aE rfl];rfl;exact⟨u,rfl⟩
theorem Og{f:aB}{v w i:Nat}(e:0<i)(hi:i<Z' f.aoF)(h:dM f v i=dM f w i):v=w:=by
 unfold dM at h;rw[aC Om,aC Om]at h;rcases Nat.lt_trichotomy v w with c|c|c
 have:=arK (Z' f.aoF-1) (Om:v+1<=w);rw[asL]at this;omega;exact c;have:=arK (Z' f.aoF-1) (Om:w+1<=v);rw[asL]at this;omega
def wJ(f:aB)(n:dK)(xs:N_)(e k:Nat):PF:=(((((n_.set 2 (.sl 1 (jF xs))).set 3 (.aU f.cells)).set 4 (.aU n.cells)).set 7 (.osl e 1 0 f.aoE.length)).set 8 (.int .i64 (k:Nat)))
def d9(f:aB)(n:dK)(xs:N_)(e k:Nat)(d j:Nat):PF:=((wJ f n xs e k).set 9 (.int .i64 (d:Nat))).set 10 (.int .i64 (j:Nat))
theorem V5(Lb:FQ C){K:bT}[Up K](f:aB)(hV:VF f)(room:I_)(xs:N_)(L k v d:Nat)(hk:k<(jN f room).arcs.length)(hv:v<Z' f.aoE)(hd:d<Z' f.aoC)(ha:dA (jN f room) k=iP f v d)(W X:L2_)(hW:Z' W=Z' f.aoE)(δ:(W.getD v []).length<=1000000)
  (O:W.set v (W.getD v []++[(d:Int)])=X) (ps:WPs) (l:wls ps=W) {F:PF} {H:PH} (D:aO H [(L,.rows 1 (dX ps))] (mE ps)) (hF:(d9 f (jN f room) xs L k d 0).le F)
  (hK:∀J H',wls J=X->aO H' [(L,.rows 1 (dX J))] (mE J)->K (.exit 2) (wJ f (jN f room) xs L k) H'):aI.wp C (.loop ef) K F H:=by
 have hs:=hV.small;have hr:=hV.root;have θ:=hs.aoF;have ι:=hs.aoE;have V:=Va hV hd;refine wp_loop (α:=Nat × WPs × PH) (λs=>d9 f (jN f room) xs L k d s.1) (λs=>s.2.2) (λs=>s.1<=Z' f.aoE/\wls s.2.1=(if v<s.1 then X else W)/\aO s.2.2 [(L,.rows 1 (dX s.2.1))] (mE s.2.1)) (λs=>Z' f.aoE-s.1) (0,ps,H) ⟨apR _,by simpa using l,D⟩ hF b_ ?_;rintro⟨j,ps,H0⟩ ⟨hj,l,D⟩;simp only at hj l D;have N:Z' X=Z' f.aoE:=by rw[<-O,arD,hW]
 have η:Z' ps=Z' f.aoE:=by have:=congrArg List.length l;unfold wls at this;rw[apP]at this;rw[this];split;exact N;exact hW
 simp only[go_sem,ef,d9,wJ,apP];by_cases hlt:j<Z' f.aoE;have y:(j:Int)<(Z' f.aoE:Nat):=Om;have U:=wZz j;have R:=qK hk;rw[ha]at R;have ζ:(k:Int)<((jN f room).arcs.length:Nat):=Om;have ε:(d:Int)<(Z' f.aoC:Nat):=Om;simp only[go_sem,y];refine bE .nil (quS f) a_ ?_;simp only[go_sem,R,kE hd,hV.FC hd];refine BY Lb hs hr.1 (v:=j) (i:=cD f d) Om Om rfl a_ ?_;have B:(iP f v d).src=dM f v (cD f d):=rfl;by_cases c:j=v;subst c;rw[aC (Nat.lt_irrefl _)]at l;have S:j<Z' ps:=Om;obtain⟨u,w,A⟩:∃u w,ps[j]?=some (u,w):=⟨(ps[j]).1,(ps[j]).2,apZ S⟩;have E:(wls ps).getD j []=w:=acO A;rw[l]at E;have Y:=D.at 0 rfl;simp only[go_sem,cC (show(((iP f j d).src:Nat):Int)=((dM f j (cD f d):Nat):Int) by rw[B]),y,Y,aqA,PA A];refine D.append j (WV A) (src:=aN [(d:Int)]) rfl (by unfold roomFor;rw[cI,cI,<-E];simp only[aqH,maxLen];omega) λM H3 Z hu=>?_;obtain⟨q',rfl⟩:=hu (by simp[aN]);rw[<-GT]at Z ⊢;have e3:=Z.at 0 rfl;have γ:j<(dX ps).length:=by rw[oQ];exact S
 have h4:=Z.set 0 rfl (.rows 1 ((dX ps).set j [.osl q' 1 0 (aN (w++[(d:Int)])).length]));generalize(aN (w++[(d:Int)])).length=nn at *
 simp only[go_sem,y,e3,aqA,PA A,γ];refine⟨_,aE (λx hx=>by rw[arA]at hx;subst hx;rfl),?_⟩;generalize κ:PV.osl q' 1 0 nn=M at *
 simp only[go_sem,U];refine aF (j+1,ps.set j (M,w++[(d:Int)]),_) ⟨hlt,?_,?_⟩ sO_ (by(repeat' (first|exact d_|refine e_ ?_ ?_))<;>first|(simp only[go_sem,d9,wJ]<;>rfl)|rfl) b_;simp only;rw[aE (Nat.lt_succ_self _),acP,l,<-E];exact O;simp only;have e5:dX (ps.set j (M,w++[(d:Int)]))=(dX ps).set j [M]:=asP ..;have e6:mE (ps.set j (M,w++[(d:Int)]))=(mE ps).set j (M,1,aN (w++[(d:Int)])):=asP ..;rw[e5,e6];exact h4;have β:¬(((iP f v d).src:Nat):Int)=((dM f j (cD f d):Nat):Int):=by rw[B];intro e;exact c (Og V.1 V.2 Om).symm
 simp only[go_sem,bJ β,U];refine aF (j+1,ps,H0) ⟨hlt,?_,D⟩ sO_ (by(repeat' (first|exact d_|refine e_ ?_ ?_))<;>first|(simp only[go_sem,d9,wJ]<;>rfl)|rfl) b_;simp only;rw[l];by_cases c2:v<j;rw[aE c2,aE Om];rw[aC c2,aC Om];have y:¬(j:Int)<(Z' f.aoE:Nat):=Om;rw[aE Om]at l;simp only[go_sem,y];exact Up.up (by(repeat' (first|exact d_|refine e_ ?_ ?_))<;>first|(simp only[go_sem,d9,wJ]<;>rfl)|rfl) (hK ps H0 l D)
theorem abI(Lb:FQ C)(f:aB)(hV:VF f)(room:I_)(xs:N_)(hx:BR (jN f room) xs) :
  vb.wp C (aW rH.res (cY (lists (zB f (iD f room) xs)))) (g_ [.agg f.cells,.agg (jN f room).cells,.sl 1 (jF xs)]) .nil:=by
 have hs:=hV.small;have ι:=hs.aoE;have hn:=P0 hV room;have hm:=hn.num;have η:=hn.few;have F:Z' xs=(iD f room).length:=hx.len;have V:(Z' f.aoE:Int)*((24:Nat):Int)<=140737488355328:=Om;have W:(Z' f.aoE:Int)<=9223372036854775807:=Om;have X:(0:Int)<=(Z' f.aoE:Int):=Om;have eo:dX (apX f.aoE.length ((.aG,[]):PV × I_))=apX f.aoE.length [.aG]:=by unfold dX;rw[List.map_replicate]
 simp only[go_sem,vb,rH,apP,V,W,X,Int.le_refl,arP];refine aQ λJ γ=>?_;have h1:=(aO.nil.new γ (.rows 1 (apX f.aoE.length [.aG]))).aiN f.aoE.length;generalize h_.set J (.rows 1 (apX f.aoE.length [.aG]))=H1 at *
 rw[<-eo]at h1;simp only[go_sem];refine wp_loop (α:=Nat × WPs × PH) (λs=>wJ f (jN f room) xs J s.1) (λs=>s.2.2) (λs=>s.1<=(jN f room).arcs.length/\wls s.2.1=pN f (iD f room) xs s.1/\aO s.2.2 [(J,.rows 1 (dX s.2.1))] (mE s.2.1)) (λs=>(jN f room).arcs.length-s.1) (0,apX f.aoE.length (.aG,[]),H1) ⟨apR _,?_,h1⟩ (by(repeat' (first|exact d_|refine e_ ?_ ?_))<;>first|(simp only[go_sem,wJ]<;>rfl)|rfl) b_ ?_;rw[Pj];unfold wls;simp only[List.map_replicate];rintro⟨k,ps,H0⟩ ⟨hk,y,U⟩;simp only at hk y U;have δ:Z' ps=Z' f.aoE:=by have:=congrArg List.length y;rw[Br]at this;unfold wls at this;rw[apP]at this;exact this
 simp only[go_sem,wJ,apP];by_cases hlt:k<(jN f room).arcs.length;have x:(k:Int)<((jN f room).arcs.length:Nat):=Om;have D:=wZz k;have B:k<(iD f room).length:=hlt;have β:k<Z' xs:=Om;have L:=qK hlt;have K:dA (jN f room) k=(iD f room)[k]:=(tE hlt).symm;rw[K]at L;have Z:=apW B;obtain⟨z1,z2,z3⟩:=hn.ends _ (apW hlt);have z1:((iD f room)[k]).src<(jN f room).nodes:=z1;have z2:((iD f room)[k]).dst<(jN f room).nodes:=z2;have θ:cU f 0<=(jN f room).nodes:=by show cU f 0<=cU f f.aoC.length;unfold cU;omega
 have E:=Pi (f:=f) (l:=iD f room) (xs:=xs) F B;have u:=Uv (f:=f) (l:=iD f room) (xs:=xs) F B;have N:=Yz hV (room:=room) Z;generalize(iD f room)[k]=a at *
 have A:(a.dst<cU f 0\/xs.getD k 0=0)->fK (λs:Nat × WPs × PH=>wJ f (jN f room) xs J s.1) (λs=>s.2.2) (λs=>s.1<=(jN f room).arcs.length/\wls s.2.1=pN f (iD f room) xs s.1/\aO s.2.2 [(J,.rows 1 (dX s.2.1))] (mE s.2.1)) (λs=>(jN f room).arcs.length-s.1) ((jN f room).arcs.length-k) (fE 0 (gH C (aI.wp C (.seq (.region el) .ret)) (aW rH.res (cY (lists (zB f (iD f room) xs)))))) .normal (wJ f (jN f room) xs J (k+1)) H0:=λh=>
  aF (k+1,ps,H0) ⟨hlt,by rw[E h];exact y,U⟩ sO_ (λ_ _ h=>h) b_
 have w7:i_.wrap ((a.dst:Int)-((cU f 0:Nat):Int))=(a.dst:Int)-((cU f 0:Nat):Int):=wrap_i64 Om Om;simp only[go_sem,x];refine bE .nil (quS f) a_ ?_;simp only[go_sem,L];refine bj Lb hs (i:=0) aT rfl a_ ?_;by_cases c1:a.dst<cU f 0;have w:(a.dst:Int)-((cU f 0:Nat):Int)<0:=Om;simp only[go_sem,w7,w,D];exact Up.up (by unfold wJ;exact Lq) (A (.inl c1));have w:¬(a.dst:Int)-((cU f 0:Nat):Int)<0:=Om;have S:=mF β;by_cases c2:xs.getD k 0=0;simp only[go_sem,w7,w,S,cC (Om:((xs.getD k 0:Nat):Int)=0),D];exact Up.up (by unfold wJ;exact Lq) (A (.inr c2));obtain⟨v,d,hv,hd,rfl⟩:=N Om;have R:=Ej hV (v:=v) hd;have u:=u Om c2 (by rw[R];exact hv);rw[R]at u;have Y:((iP f v d).dst-cU f 0:Nat)=d:=by simp only[iP,cU];omega
 have M:((iP f v d).dst:Int)-((cU f 0:Nat):Int)=(d:Int):=Om;rw[Y]at u;rw[M]at w;have ε:((pN f (iD f room) xs k).getD v []).length<=1000000:=by unfold pN;rw[apY,aqE,arU hv];exact aqX (fx f v _ _) (by rw[aqF];omega)
 have w8:i_.wrap (d:Int)=(d:Int):=wrap_i64 Om Om;simp only[go_sem,M,w8,w,S,bJ (Om:¬((xs.getD k 0:Nat):Int)=0)];refine V5 Lb f hV room xs J k v d hlt hv hd K (pN f (iD f room) xs k) (pN f (iD f room) xs (k+1)) (Br ..) ε u ps y U (by(repeat' (first|exact d_|refine e_ ?_ ?_))<;>first|(simp only[go_sem,d9,wJ]<;>rfl)|rfl) λζ H' O h'=>?_;simp only[go_sem,wJ,D];exact aF (k+1,ζ,H') ⟨hlt,O,h'⟩ sO_ (by(repeat' (first|exact d_|refine e_ ?_ ?_))<;>first|(simp only[go_sem,wJ]<;>rfl)|rfl) b_;have x:¬(k:Int)<((jN f room).arcs.length:Nat):=Om;have:k=(jN f room).arcs.length:=Om;subst this;have h2:=U.akW;rw[oQ,δ]at h2;have e:zB f (iD f room) xs=wls ps:=by rw[y];exact(Uu F).symm
 rw[e];simp only[go_sem,x,el];exact Lu (.inr rfl) rfl h2
theorem Ox{f:aB}(hV:VF f){room:I_}{xs:N_}(e:kN (jN f room) xs)(h:¬rR (jN f room) xs<(MN f:Int)):∃u,DC f room u/\zB f (iD f room) xs=AN f u:=by
 obtain⟨s,g,i,t,rfl⟩:=J4 f room e.len;exact⟨nB f i,T6 hV e (Int.not_lt.1 h),Uw hV room s g i t⟩
structure adJ(C:Ctx):Prop extends FQ C where
 jC:∀(f:aB)(room:I_),f.Ok->aJ C 307 [.agg f.cells,ints room] .nil (aL (ru f room))
 HC:∀n:dK,lE n->aJ C 303 [.agg n.cells] .nil (Nv n)
 rH:∀(f:aB)(room:I_)(xs:N_),VF f->BR (jN f room) xs->aJ C 308 [.agg f.cells,.agg (jN f room).cells,.sl 1 (jF xs)] .nil (aL (lists (zB f (iD f room) xs)))
theorem iO.nil:iO []:=⟨by decide,by decide⟩
theorem aaD(f:aB)(B:Z' f.aoE<=1000)(l:List dD)(w:Z' l<=10000)(xs:N_):iO (zB f l xs):=by
 have u:(zB f l xs).length=Z' f.aoE:=by simp[zB]
 have i:∀L:L2_,(∀r∈L,Z' r<=10000)->Z' L.flatten<=Z' L*10000:=by
  intro L
  induction L with
  |nil=>intro _;exact apR _
  |cons x t y =>intro h;have u:=y λr e=>h r (atK _ e);have A:=h x atZ;rw[atY,apV,aqV,asL];omega
 refine⟨by omega,aqX (i _ λr e=>?_) (by rw[u];omega)⟩;obtain⟨v,-,rfl⟩:=aqJ.1 e;exact aqX (fx f v l xs) w
theorem IK{f:aB}{sc:L2_}{room:I_}:∀(n:Nat){L:L2_},dQ f L room=true->dQ f (xM f sc (bM f room) n L) room=true/\iH f sc (xM f sc (bM f room) n L) L.length<=iH f sc L L.length
 |0,L,e=>⟨e,apU _⟩
 |n+1,L,e=>by
  rw[xM];cases h:kF f sc (bM f room) L L.length with
  |none=>exact⟨e,apU _⟩
  |some x =>obtain⟨i,l,u,w⟩:=rW _ _ h;obtain⟨B,D,E⟩:=zJ e i l u;have F:=CJ i E w;obtain⟨y,A⟩:=IK n B;rw[D]at A;exact⟨y,by simp only;omega⟩
theorem Kq(f:aB)(lv cnt:Int)(room:I_)(L:L2_):(TL f lv cnt room L).length<=1000/\∀w∈TL f lv cnt room L,Z' w<=1000:=by
 have l:KB f lv cnt room L=if gK f lv cnt≠0 then gK f lv cnt else if dQ f L room then 0 else 1:=rfl
 unfold TL;by_cases c:KB f lv cnt room L=0;rw[aE c];have x:dQ f L room=true:=by rw[l]at c;split at c;exact absurd c (by assumption);split at c;assumption;cases c
 have hi:=(IK (sc:=gY f lv cnt) (iH f (gY f lv cnt) L L.length+1) x).1;have u:=oV hi;have A:=(VF.of (iY hi)).small.aoE;have i:=u.len;unfold oE;refine⟨by omega,λw e=>?_⟩;obtain⟨v,y,rfl⟩:=arF e;have:=(qB hi y).2.2.2;omega;rw[aC c];exact⟨apR _,λw e=>by cases e⟩
theorem Ha{f:aB}{sc:L2_}{room:I_}:∀(c n:Nat){L:L2_},dQ f L room=true->iH f sc L L.length<=c->c<n->kF f sc (bM f room) (xM f sc (bM f room) n L) L.length=none
 |c,0,L,i,B,l=>absurd l (Nat.not_lt_zero _)
 |c,n+1,L,i,B,l=>by
  rw[xM];cases h:kF f sc (bM f room) L L.length with
  |none=>exact h
  |some x=>
   obtain⟨e,w,y,A⟩:=rW _ _ h;obtain⟨D,u,E⟩:=zJ i e w y;have F:=CJ (f:=f) (sc:=sc) e E A;cases c with
   |zero=>omega
   |succ c =>have:=Ha (sc:=sc) c n D (by rw[u];omega) Om;rw[u]at this;exact this
theorem Pd{f:aB}{sc:L2_}{room:I_}{L:L2_}(e:dQ f L room=true):oE f sc (bM f room) (oE f sc (bM f room) L)=oE f sc (bM f room) L:=by
 refine Bk ?_;unfold oE;rw[WU];exact Ha _ _ e (apU _) (Nat.lt_succ_self _)
theorem Kl{f:aB}{L:L2_}{room:I_}(e:dQ f L room=true):dQ f L []=true:=by
 refine Km (iY e) (oV e).len e λd i=>?_;unfold kJ;rw[aC (show ¬([]:I_).length=f.aoC.length by simp only[asG];omega)];split<;>omega
def Nr(f:aB)(room:I_)(r:PV)(H:PH):Prop:=∃e c,iO e/\(c=0->dQ f e room=true)/\r=.tup [lay e,.int .i64 c]/\H=h_
def Gk(f:aB)(room:I_)(r:PV)(H:PH):Prop:=∃e c,iO e/\(c=0->dQ f e room=true)/\cY (.tup [lay e,.int .i64 c]) r H
theorem aJ.aeV{name:Nat}{args:V_}{f:aB}{room:I_}(h:aJ C name args .nil (Gk f room)):aJ C name args .nil (Nr f room):=
 h.post λr H' ⟨w,c,e,i,l,u⟩=>⟨_,l,w,c,e,i,rfl,u⟩
theorem Lr(i:adJ C)(f:aB)(N:f.Ok)(l:cP f=true)(room:I_) :
  ZE.wp C (aW me.res (Gk f room)) (g_ [.agg f.cells,ints room]) .nil:=by
 simp only[go_sem,ZE,me];refine aD (i.jC f room N) Sq ?_;simp only[go_sem,ru];refine aQ λq hq=>?_;have A:aO (h_.set q sS) [(q,sS)] []:=aO.nil.new hq sS;generalize(h_.set q sS)=J at *
 have U:=A.at 0 rfl;have w:=A.set 0 rfl (aiM (Ck f room));simp only[go_sem,U];generalize J.set q (.rows 4 [(Ck f room).cells])=H2 at *
 have y:=w.at 0 rfl;have hV:=VF.of l;have O:=hV.small;have E:=P0 hV room;rw[Ho l]at y w;simp only[go_sem,Hn l,y];refine jG (i.HC _ E) Sq a_ ?_;rintro r H' ⟨xs,S,B,F,L,M,rfl,rfl⟩ -;rw[PH.xR];simp only[go_sem];refine aD (i.total f hV) Sq ?_;by_cases hlt:rR (jN f room) xs<((MN f:Nat):Int);simp only[go_sem,hlt];refine vn (R:=cY (.tup [lay [],.j 12])) (λr H' h=>⟨[],12,.nil,(λe=>by cases e),h⟩) ?_;exact uR (.inr rfl) Sq (aO.EC (w.wW 0));have V:(iD f room).length<=2500:=E.num;obtain⟨u,K,x⟩:=Ox hV B hlt;have D:=(Y1 l K).2;rw[<-x]at D;simp only[go_sem,hlt,y];refine aD (i.rH f room xs hV B.in) Sq ?_;simp only[go_sem];refine vn (R:=cY (.tup [lay (zB f (iD f room) xs),.j 0])) (λr H' h=>⟨_,0,aaD f (by have:=O.aoE;omega) _ Om xs,λ_=>D,h⟩) ?_;exact bK (vs:=[lists (zB f (iD f room) xs),.j 0]) (.inr rfl) .nil Sq a_ ⟨.refl _,rfl⟩
def k8:=bV [] Proofs.Tryz.f3
def k9:=cF k8
theorem Q9(l:N_){lv:Nat}(e:1<=lv)(h5:lv<=5){c:Nat}(i:1<=c)(u:c<=3):gK (rdF l 7 3).1 (lv:Nat) c=0:=by
 obtain⟨A,-,-⟩:=Yn l 7 3;obtain⟨y,x⟩:=GL l 7 3 (rI l).2 aT aT;exact(HZ.mk x y (by have:=wy l 7 3 A;unfold rdF;omega) (λL e w=>O3 l 7 3 _ e w):HZ (rdF l 7 3).1).ga Om Om i u
structure zf(C:Ctx):Prop where
 read:∀(l:N_),(∀x∈l,x<256)->Z' l<=9223372036854775807->aJ C 375 [.sl 1 (kL l),.int .i64 (7:Nat),.int .i64 (3:Nat)] .nil (xn l 7 3)
 place:∀(f:aB)(room:I_),f.Ok->cP f=true->aJ C 309 [.agg f.cells,ints room] .nil (Nr f room)
 imp:∀(f:aB)(lv cnt:Int)(room:I_)(l:L2_),f.Ok->iO l->aJ C 364 [.agg f.cells,vJ lv cnt,ints room,lay l] .nil (aL (.tup [lay (TL f lv cnt room l),.int .i64 (KB f lv cnt room l)]))
 cost:∀(f:aB)(lv cnt:Int)(l:L2_),f.Ok->iO l->aJ C 365 [.agg f.cells,vJ lv cnt,lay l] .nil (aL (.tup [.int .i64 (jk f lv cnt l:Nat),.int .i64 (IC f lv cnt l)]))
 rholds:∀(f:aB)(l:L2_) (room:I_),f.Ok->iO l->aJ C 83 [.agg f.cells,lay l,ints room] .nil (aL (.bool (dQ f l room)))
 sets:∀a:L2_,Z' a<=9000000000000000000->(∀w∈a,Z' w<=9000000000000000000)->aJ C 212 [lay a,lay a] .nil (aL (.bool true))
 i0:aJ C 362 [] .nil (aL (.bool true))
theorem Pc{f:aB}{lv cnt:Int}{room:I_}{L:L2_}(l:gK f lv cnt=0)(i:dQ f L room=true):KB f lv cnt room L=0/\TL f lv cnt room L=oE f (gY f lv cnt) (bM f room) L:=by
 have e:KB f lv cnt room L=0:=by unfold KB;rw[aC (λh=>h l),aE i]
 unfold TL;exact⟨e,aE e⟩
theorem Gy{f:aB}{lv cnt:Int}{room:I_}{L:L2_}(l:gK f lv cnt=0)(i:dQ f L room=true):IC f lv cnt L=0/\jk f lv cnt L=iH f (gY f lv cnt) L L.length:=by
 have e:IC f lv cnt L=0:=by unfold IC;rw[aC (λh=>h l),aE (Kl i)]
 unfold jk;exact⟨e,aE e⟩
theorem U8(D:zf C)(l:N_)(hb:∀x∈l,x<256)(hl:Z' l<=9223372036854775807) :
  k9.wp C (aW k8.res (aL (.bool true))) (g_ [.sl 1 (kL l)]) .nil:=by
 obtain⟨hv,J⟩:=GL (l.take 400) 7 3 (rI (l.take 400)).2 aT aT;have B:=D.read l hb hl;have n1:=cJ (l.take 400) (show 0<5 by decide) 0;have n2:=cJ (l.take 400) (show 0<2 by decide) (wK (l.take 400)).2;have U:=Q9 (l.take 400) (lv:=1+(wK (l.take 400)).1) Om (show 1+(wK (l.take 400)).1<=5 from by unfold wK;omega) (c:=1+(rI (l.take 400)).1) Om (show 1+(rI (l.take 400)).1<=3 from by unfold rI;omega);unfold xn at B;change cP (rdF (l.take 400) 7 3).1=true at hv;change(rdF (l.take 400) 7 3).1.Ok at J;generalize(rdF (l.take 400) 7 3).1=f at *
 generalize(rdR (l.take 400) 7 3).1=room at *
 generalize(rdR (l.take 400) 7 3).2=F at *
 generalize(1+(wK (l.take 400)).1:Nat)=lv at *
 generalize(1+(rI (l.take 400)).1:Nat)=i at *
 have hV:=VF.of hv;simp only[go_sem,k9,k8];refine jG B (by simp only[go_sem];rfl) a_ ?_;rintro r H' ⟨o,v,rfl,T,rfl⟩ γ;rw[PH.uP];have h1:aO (h_.set o (bD v F)) [(o,bD v F)] []:=aO.nil.new (H:=h_) rfl _;generalize h_.set o (bD v F)=H1 at h1 ⊢;simp only[go_sem];refine h1.SL λo9 H2 h2=>?_;simp only[go_sem];refine h2.SL λL H3 S=>?_;have q9:=S.at 1 rfl;have h4:=S.set 1 rfl (.rows 7 [f.cells]);have n9:¬L=o9:=λe=>S.ne 1 2 rfl rfl aT e.symm;have α:¬o9=L:=λe=>n9 e.symm;have β:=S.at 2 rfl;have h5:=h4.set 2 rfl (.rows 2 [[.j ((lv:Nat):Int),.j ((i:Nat):Int)]]);simp only[go_sem,q9,β,n9,α];generalize(H3.set o9 _).set L _=H5 at *
 have M:=h5.at 1 rfl;have E:=h5.at 2 rfl
 try simp only[go_sem,M]
 refine jG (D.place f room J hv) Sq a_ ?_;rintro r H' ⟨P,c,hP,Y,rfl,rfl⟩ -;rw[PH.xR];simp only[go_sem];by_cases V:c=0;have O:=Y V;obtain⟨a1,a2⟩:=Pc (lv:=lv) (cnt:=i) U O;have N:=(IK (sc:=gY f lv i) (iH f (gY f lv i) P P.length+1) O).1;have Z:=(IK (sc:=gY f lv i) (iH f (gY f lv i) P P.length+1) O).2;have W:=Pd (sc:=gY f lv i) O;have X:(oE f (gY f lv i) (bM f room) P).length=Z' P:=WU ..;change dQ f (oE f (gY f lv i) (bM f room) P) room=true at N;change iH f (gY f lv i) (oE f (gY f lv i) (bM f room) P) P.length<=_ at Z;have u:=(oV N).ok hV;obtain⟨b1,b2⟩:=Pc (lv:=lv) (cnt:=i) U N;obtain⟨c1,c2⟩:=Gy (lv:=lv) (cnt:=i) U O;obtain⟨d1,d2⟩:=Gy (lv:=lv) (cnt:=i) U N;rw[W]at b2;rw[X]at d2;have K:=Kq f lv i room P;have i1:=D.imp f lv i room P J hP;rw[a1,a2]at i1;rw[a2]at K;have i2:=D.imp f lv i room _ J u;rw[b1,b2]at i2;have i3:=D.cost f lv i P J hP;rw[c1,c2]at i3;have i4:=D.cost f lv i _ J u;rw[d1,d2]at i4;have i5:=D.rholds f _ room J u;rw[N]at i5;have i6:=D.sets _ (aqX K.1 aT) λw hw=>aqX (K.2 w hw) aT;generalize oE f (gY f lv i) (bM f room) P=A at *
 generalize iH f (gY f lv i) A P.length=x at *
 generalize iH f (gY f lv i) P P.length=y at *
 have R:((x:Nat):Int)<=(y:Nat):=Om;simp only[go_sem,bW V,M,E];refine aD i1 Sq ?_;simp only[go_sem,M,E];refine aD i2 Sq ?_;simp only[go_sem,M,E];refine aD i3 Sq ?_;simp only[go_sem,M,E];refine aD i4 Sq ?_;simp only[go_sem,M,cC];refine aD i5 Sq ?_;simp only[go_sem,R];refine aD i6 Sq ?_;simp only[go_sem];refine aD D.i0 Sq ?_;simp only[go_sem];exact uF Sq rfl;simp only[go_sem,cX V];refine aD D.i0 Sq ?_;simp only[go_sem];exact uF Sq rfl

theorem Rp(f:aB)(l:L2_)(Y:iO l)(o i:Nat)(hlt:i<Z' l)(K:bT)[Up K](F:PF)(H:PH)
  (O:((((((n_.set 1 (lay l)).set 2 (.aU f.cells)).set 5 (.osl o 1 0 f.aoC.length)).set 6 (.j i)).set 7 (.j 0)):PF).le F) (R:(h_.set o (.rows 1 (aN (fD f.aoC.length (l.take i).flatten)))).le H)
  (V:K (.exit 2) (((((n_.set 1 (lay l)).set 2 (.aU f.cells)).set 5 (.osl o 1 0 f.aoC.length)).set 6 (.j i))) (h_.set o (.rows 1 (aN (fD f.aoC.length (l.take (i+1)).flatten))))):aI.wp C (.loop PY) K F H:=by
 obtain⟨Z,β⟩:=Y;have M:(l.map λr=>[ints r])[i]?=some [ints l[i]]:=by simp[hlt]
 have S:=yC l hlt;have J:=GK l (i+1);rw[S]at J V;rw[apV]at J;generalize W:l[i]=row at *
 generalize hn:Z' f.aoC=n at *
 generalize hA:(l.take i).flatten=A at *
 refine wp_loop (α:=Nat) (λk=>(((((n_.set 1 (lay l)).set 2 (.aU f.cells)).set 5 (.osl o 1 0 n)).set 6 (.j i)).set 7 (.j k))) (λk=>h_.set o (.rows 1 (aN (fD n (A++row.take k))))) (λk=>k<=Z' row) (λk=>Z' row-k) 0 (apR _) O (by rw[asO,aqY];exact R) ?_;intro k hk;simp only[go_sem,PY,M,apP];by_cases y:k<Z' row;have e:(k:Int)<(Z' row:Nat):=Om;have B:(row.map λn=>[PV.int .i64 n])[k]?=some [.j row[k]]:=by simp[y]
 have D:A++row.take (k+1)=(A++row.take k)++[row[k]]:=by rw[arB y,aqT]
 have fin:∀(F:PF),((((((n_.set 1 (lay l)).set 2 (.aU f.cells)).set 5 (.osl o 1 0 n)).set 6 (.j i)).set 7 (.j (k+1:Nat))):PF).le F->∀H:PH,H o=some (.rows 1 (aN (fD n (A++row.take (k+1))))) ->
   fK (λk:Nat=>(((((n_.set 1 (lay l)).set 2 (.aU f.cells)).set 5 (.osl o 1 0 n)).set 6 (.j i)).set 7 (.j k))) (λk=>h_.set o (.rows 1 (aN (fD n (A++row.take k))))) (λk=>k<=Z' row) (λk=>Z' row-k) (Z' row-k) K .normal F H:=by
  intro F O H R;exact aF (k+1) y Om O (c_ a_ R)
 generalize hx:row[k]=x at *
 by_cases N:x>=0;by_cases U:x<(n:Nat);obtain⟨d,rfl⟩:∃d:Nat,x=d:=⟨x.toNat,by omega⟩;have w:d<n:=Om;have E:=qN (l:=fD n (A++row.take k)) (i:=d) (by rw[jK];exact w);rw[WQ _ w]at E;have X:(A++row.take k).count (d:Int)<=16777216:=by refine aqX (List.count_le_length ..) ?_;rw[apV,aqF];omega
 have L:=qq (A++row.take k) w;rw[<-D]at L;have hw:i_.wrap ((((A++row.take k).count (d:Int):Nat):Int)+1)=(((A++row.take k).count (d:Int):Nat):Int)+1:=wrap_i64 Om Om;simp only[go_sem,e,B,N,U,aqA,E,hw,iZ,L,wZz k,M];exact fin _ Lq _ Sq;have u:=GG (n:=n) (A++row.take k) (x:=x) Om;simp only[go_sem,e,B,N,U,wZz k,M];exact fin _ Lq _ (by rw[D,u];simp only[go_sem]);have u:=GG (n:=n) (A++row.take k) (x:=x) Om;simp only[go_sem,e,B,N,wZz k,M];exact fin _ Lq _ (by rw[D,u];simp only[go_sem]);have e:¬(k:Int)<(Z' row:Nat):=Om;have:k=Z' row:=Om;subst this;simp only[go_sem,e,aqO];exact Up.up Lq V
theorem Rq(L:SB C)(f:aB)(A:f.Ok)(l:L2_)(y:iO l) :
  ZM.wp C (aW nP.res (BC (uJ f l))) (g_ [.agg f.cells,lay l]) .nil:=by
 simp only[go_sem,ZM,nP];refine aD (L.valid f A) Sq ?_;unfold uJ;cases D:cP f with
 |false =>simp only[go_sem,aqI];exact bK (vs:=[.aG]) (.inr rfl) .nil Sq a_ (.inl ⟨rfl,rfl,rfl⟩)
 |true =>have E:=(VF.of D).small.aoC;have w:(Z' f.aoC:Int)*((8:Nat):Int)<=140737488355328:=Om;have x:(Z' f.aoC:Int)<=9223372036854775807:=Om;simp only[go_sem,aqC,apP,w,x];refine aQ λo F=>?_;simp only[go_sem];refine wp_loop (α:=Nat) (λi=>((((n_.set 1 (lay l)).set 2 (.aU f.cells)).set 5 (.osl o 1 0 f.aoC.length)).set 6 (.int .i64 i))) (λi=>h_.set o (.rows 1 (aN (fD f.aoC.length (l.take i).flatten)))) (λi=>i<=Z' l) (λi=>Z' l-i) 0 (apR _) Lq (c_ a_ (by rw[asO,List.flatten_nil,bi,qO];simp only[go_sem])) ?_;intro i hi;simp only[go_sem,apP];have B:=y.rows;by_cases hlt:i<Z' l;have e:(i:Int)<(Z' l:Nat):=Om;simp only[go_sem,e];have u:=Rp (C:=C) f l y o i hlt;simp only[aI.wp,go_sem]at u;refine u _ _ _ Lq b_ ?_;simp only[go_sem,wZz i];exact aF (i+1) hlt Om Lq b_;have e:¬(i:Int)<(Z' l:Nat):=Om;have:i=Z' l:=Om;subst this;simp only[go_sem,e,aqO];exact bK (vs:=[.osl o 1 0 f.aoC.length]) (.inr rfl) _ Sq b_ (.inr ⟨o,by unfold dG;rw[jK];rfl,rfl⟩)
structure Gm(C:Ctx):Prop extends SB C where
 bad:∀(f:aB)(row:I_),Z' row<=16777216->aJ C 89 [.agg f.cells,ints row] .nil (aL (.int .i64 (bc f row)))
def Dh(f:aB)(v:Nat)(row:I_):List jH:=
 if(Z' row:Int)=kW f v then(match gL (kZ f) row 0 with|some i=>[⟨1,v,(i:Nat)⟩]|none=>tC f (bF f v) v row)else[⟨1,v,(Z' row:Nat)⟩]
theorem Vv(f:aB)(l:L2_)(v:Nat):uM f l v=Dh f v (l.getD v []):=by
 unfold uM sZ Dh;split<;>rename_i h;split at h
 ·rename_i c;rw[aE c];cases hb:gL (kZ f) (l.getD v []) 0 with
  |none=>rw[hb]at h;cases h
  |some i=>rw[hb]at h;cases h;rfl
 rename_i c;rw[aC c];cases h;rfl;split at h
 ·rename_i c;rw[aE c];cases hb:gL (kZ f) (l.getD v []) 0 with
  |none=>rfl
  |some i=>rw[hb]at h;cases h
 cases h
structure WK(C:Ctx):Prop extends Gm C where
 allowed:∀(f:aB)(p:bY)(d:Nat),VF f->Fits p.aoD->d<Z' f.aoC->aJ C 77 [.agg p.cells,.agg f.cells,.int .i64 d] .nil (aL (.bool (p.aoD.contains ((mdl f d:Nat):Int))))
 count:∀(f:aB)(row:I_)(n:Nat),VF f->BD f row->n<Z' f.aoF->aJ C 80 [.agg f.cells,ints row,.int .i64 n] .nil (aL (.int .i64 (row.countP (jR f n):Nat)))
theorem abP(f:aB)(v:Nat)(row:I_)(L:BD f row)(K:bT)[Up K](F:PF)(H:PH)
  (D:((((((n_.set 1 (.j v)).set 2 (ints row)).set 3 (.aU f.cells)).set 8 (.aG)).set 9 (.j 0)):PF).le F)
  (E:∀w H',bA H' 3 w (dP (cB 2 v row.length (home row)))->K (.exit 0) (((((n_.set 1 (.j v)).set 2 (ints row)).set 3 (.aU f.cells)).set 8 (w))) H'):aI.wp C (.loop gh) K F H:=by
 obtain⟨M,y⟩:=L;refine wp_loop (α:=T3_) (λt=>(((((n_.set 1 (.j v)).set 2 (ints row)).set 3 (.aU f.cells)).set 8 (t.2.1)).set 9 (.j t.1))) (λt=>t.2.2) (λt=>t.1<=Z' row/\bA t.2.2 3 t.2.1 (dP (cB 2 v t.1 (home row)))) (λt=>Z' row-t.1) (0,.aG,H) ⟨apR _,.nil⟩ D b_ ?_;rintro⟨k,w,A⟩ ⟨J,i⟩;simp only at J i ⊢;simp only[go_sem,gh,apP];by_cases hlt:k<Z' row;have e:(k:Int)<(Z' row:Nat):=Om;have l:(row.map λn=>[PV.int .i64 n])[k]?=some [.j row[k]]:=by simp[hlt]
 have N:=y row[k] (apW hlt);have B:home row k=decide (row[k]<0):=by simp[home,apY,hlt]
 have e2:=jO 2 v k (home row);have O:=eZ 2 v k (home row);generalize row[k]=x at *
 by_cases c:x=-1;rw[aE (by rw[B];simp;omega)]at e2;have u:(1:Nat)*3<=16777216:=by decide
 simp only[go_sem,e,l,cC c,u];refine fS (src:=[(⟨2,v,k⟩:jH).cells]) i rfl (by unfold roomFor;rw[iM];simp only[aqH,maxLen];omega) λv' H' g1 _=>?_;rw[lN,<-e2]at g1;simp only[go_sem,wZz k];exact aF (k+1,v',H') ⟨hlt,g1⟩ sO_ Lq b_;rw[aC (by rw[B];simp;omega)]at e2;rw[<-e2]at i;simp only[go_sem,e,l,bJ c,wZz k];exact aF (k+1,w,A) ⟨hlt,i⟩ sO_ Lq b_;have e:¬(k:Int)<(Z' row:Nat):=Om;have:k=Z' row:=Om;subst this;simp only[go_sem,e];exact Up.up Lq (E w A i)
theorem afD(f:aB)(v:Nat)(row:I_)(J:Z' row<=16777216)(w:PV)(d:Nat)(K:bT)[Up K](F:PF)(H:PH)
  (B:((((((((n_.set 1 (.j v)).set 2 (ints row)).set 3 (.aU f.cells)).set 8 (w)).set 10 (.j d)).set 11 (.j 0)).set 12 (.j 0)):PF).le F)
  (D:K (.exit 4) (((((((n_.set 1 (.j v)).set 2 (ints row)).set 3 (.aU f.cells)).set 8 (w)).set 10 (.j d)).set 11 (.j (row.count (d:Int):Nat)))) H):aI.wp C (.loop gi) K F H:=by
 refine wp_loop (α:=Nat) (λk=>(((((((n_.set 1 (.j v)).set 2 (ints row)).set 3 (.aU f.cells)).set 8 (w)).set 10 (.j d)).set 11 (.j ((row.take k).count (d:Int):Nat))).set 12 (.j k))) (λ_=>H) (λk=>k<=Z' row) (λk=>Z' row-k) 0 (apR _) B b_ ?_;intro k L;simp only[go_sem,gi,apP];by_cases hlt:k<Z' row;have i:(k:Int)<(Z' row:Nat):=Om;have l:(row.map λn=>[PV.int .i64 n])[k]?=some [.j row[k]]:=by simp[hlt]
 have u:=YG (p:=(·==(d:Int))) hlt;have E:(row.take k).count (d:Int)<=16777216:=aqX (List.count_le_length ..) (by rw[aqF];omega);simp only[<-List.count_eq_countP]at u;have fin:∀(c:Nat)(A:PF),(row.take (k+1)).count (d:Int)=c->((((((((n_.set 1 (.j v)).set 2 (ints row)).set 3 (.aU f.cells)).set 8 (w)).set 10 (.j d)).set 11 (.j c)).set 12 (.j (k+1:Nat))):PF).le A ->
   fK (λk:Nat=>(((((((n_.set 1 (.j v)).set 2 (ints row)).set 3 (.aU f.cells)).set 8 (w)).set 10 (.j d)).set 11 (.j ((row.take k).count (d:Int):Nat))).set 12 (.j k))) (λ_=>H) (λk=>k<=Z' row) (λk=>Z' row-k) (Z' row-k) K .normal A H:=
  λc A e h=>aF (k+1) hlt Om (by rw[e];exact h) b_
 generalize(row.take k).count (d:Int)=c at *
 generalize row[k]=x at *
 by_cases y:x=d;rw[aE (by simp[y])]at u;simp only[go_sem,i,l,cC y,wZz c,wZz k];exact fin (c+1) _ u Lq;rw[aC (by simp[y]),arG]at u;simp only[go_sem,i,l,bJ y,wZz k];exact fin c _ u Lq;have i:¬(k:Int)<(Z' row:Nat):=Om;have:k=Z' row:=Om;subst this;simp only[go_sem,i,aqO];exact Up.up Lq D
theorem Xd(f:aB)(row:I_){k:Nat}(h:k<Z' f.aoC):lJ f row k=decide ((row.count (k:Int):Nat)>1):=by
 have:(fD f.aoC.length row)[k]?=some ((row.count (k:Int):Nat):Int):=by rw[apZ (by rw[jK];exact h),WQ _ h]
 rw[lJ,apY,this,arT];exact decide_eq_decide.2 Om
theorem Wj(f:aB)(hV:VF f)(v:Nat)(row:I_)(A:Z' row<=16777216)(x:List jH)(N:Z' x<=16777216)(B:PV)(K:bT)[Up K](F:PF)(H:PH)
  (E:((((((n_.set 1 (.j v)).set 2 (ints row)).set 3 (.aU f.cells)).set 8 (B)).set 10 (.j 0)):PF).le F) (J:bA H 3 B (dP x))
  (L:∀w H',bA H' 3 w (dP (x++cB 3 v f.aoC.length (lJ f row)))->K (.exit 2) (((((n_.set 1 (.j v)).set 2 (ints row)).set 3 (.aU f.cells)).set 8 (w))) H'):aI.wp C (.loop gj) K F H:=by
 have O:=hV.small.aoC;refine wp_loop (α:=T3_) (λt=>(((((n_.set 1 (.j v)).set 2 (ints row)).set 3 (.aU f.cells)).set 8 (t.2.1)).set 10 (.j t.1))) (λt=>t.2.2) (λt=>t.1<=Z' f.aoC/\bA t.2.2 3 t.2.1 (dP (x++cB 3 v t.1 (lJ f row)))) (λt=>Z' f.aoC-t.1) (0,B,H)
  ⟨apR _,by rw[show cB 3 v 0 (lJ f row)=[]from rfl,aqY];exact J⟩ E b_ ?_
 rintro⟨k,w,D⟩ ⟨M,l⟩;simp only at M l ⊢;simp only[go_sem,gj,apP];by_cases hlt:k<Z' f.aoC;have e:(k:Int)<(Z' f.aoC:Nat):=Om;have i:=jO 3 v k (lJ f row);have R:=eZ 3 v k (lJ f row);rw[Xd f row hlt]at i;simp only[go_sem,e];have cnt:=afD (C:=C) f v row A w k;simp only[aI.wp,go_sem]at cnt;refine cnt _ _ _ Lq ?_;by_cases c:row.count (k:Int)>1;have y:((row.count (k:Int):Nat):Int)>1:=Om;rw[aE (by simp;omega)]at i;have u:(1:Nat)*3<=16777216:=by decide
 simp only[go_sem,y,u];refine fS (src:=[(⟨3,v,k⟩:jH).cells]) l rfl (by unfold roomFor;rw[iM,apV];simp only[aqH,maxLen];omega) λv' H' g1 _=>?_;rw[lN,aqT,<-i]at g1;simp only[go_sem,wZz k];exact aF (k+1,v',H') ⟨hlt,g1⟩ sO_ Lq b_;have y:¬((row.count (k:Int):Nat):Int)>1:=Om;rw[aC (by simp;omega)]at i;rw[<-i]at l;simp only[go_sem,y,wZz k];exact aF (k+1,w,D) ⟨hlt,l⟩ sO_ Lq b_;have e:¬(k:Int)<(Z' f.aoC:Nat):=Om;have:k=Z' f.aoC:=Om;subst this;simp only[go_sem,e];exact Up.up Lq (L w D l)
def raS(f:aB)(p:bY):Spec:=λname vs=>match name,vs with
 |77,[_,_,.int _ d]=>some ([],λ_=>aL (.bool (p.aoD.contains ((mdl f d.toNat:Nat):Int))))
 |_,_=>none
theorem aeY(f:aB)(p:bY)(d:Nat):raS f p 77 [.agg p.cells,.agg f.cells,.j d]=some ([],λ_=>aL (.bool (p.aoD.contains ((mdl f d:Nat):Int)))):=rfl
theorem Wh(L:WK C)(f:aB)(hV:VF f)(p:bY)(hp:Fits p.aoD)(o v:Nat)(row:I_)(hr:BD f row)(E:List jH)(Z:Z' E<=100000000)(O:PV)(K:bT)[Up K](F:PF)(H:PH)
  (R:(((((((n_.set 1 (.j v)).set 2 (ints row)).set 3 (.aU f.cells)).set 8 (O)).set 13 (.ptr o 17 0 0)).set 14 (.j 0)):PF).le F) (S:bA H 3 O (dP E)) (ho:H o=some (.rows 17 [p.cells]))
  (U:∀w H',bA H' 3 w (dP (E++cB 4 v row.length (dS f p row)))->H' o=some (.rows 17 [p.cells])->K (.exit 6) ((((((n_.set 1 (.j v)).set 2 (ints row)).set 3 (.aU f.cells)).set 8 (w)).set 13 (.ptr o 17 0 0))) H'):aI.wp C (.loop gk) K F H:=by
 obtain⟨β,N⟩:=hr;refine wp_loop (α:=T3_) (λt=>((((((n_.set 1 (.j v)).set 2 (ints row)).set 3 (.aU f.cells)).set 8 (t.2.1)).set 13 (.ptr o 17 0 0)).set 14 (.j t.1))) (λt=>t.2.2) (λt=>t.1<=Z' row/\bA t.2.2 3 t.2.1 (dP (E++cB 4 v t.1 (dS f p row)))/\t.2.2 o=some (.rows 17 [p.cells])) (λt=>Z' row-t.1) (0,O,H)
  ⟨apR _,by rw[show cB 4 v 0 (dS f p row)=[]from rfl,aqY];exact S,ho⟩ R b_ ?_
 rintro⟨k,w,M⟩ ⟨Y,y,i⟩;simp only at Y y i ⊢;have B:=c_ a_ i;simp only[go_sem,gk,apP];by_cases hlt:k<Z' row;have l:(k:Int)<(Z' row:Nat):=Om;have A:(row.map λn=>[PV.int .i64 n])[k]?=some [.j row[k]]:=by simp[hlt]
 have hx:=N row[k] (apW hlt);have X:row.getD k 0=row[k]:=by simp[apY,hlt]
 have V:dS f p row k=(decide (0<=row[k])&&!p.aoD.contains ((mdl f (row[k]).toNat:Nat):Int)):=by rw[dS,X]
 have u:=jO 4 v k (dS f p row);have l4:=eZ 4 v k (dS f p row);rw[V]at u;generalize row[k]=x at *
 have skip:∀J,cB 4 v (k+1) (dS f p row)=cB 4 v k (dS f p row)->(((((((n_.set 1 (.j v)).set 2 (ints row)).set 3 (.aU f.cells)).set 8 (w)).set 13 (.ptr o 17 0 0)).set 14 (.j (k+1:Nat))):PF).le J ->
   fK (λt:T3_=>((((((n_.set 1 (.j v)).set 2 (ints row)).set 3 (.aU f.cells)).set 8 (t.2.1)).set 13 (.ptr o 17 0 0)).set 14 (.j t.1))) (λt=>t.2.2) (λt=>t.1<=Z' row/\bA t.2.2 3 t.2.1 (dP (E++cB 4 v t.1 (dS f p row)))/\t.2.2 o=some (.rows 17 [p.cells])) (λt=>Z' row-t.1) (Z' row-k) K .normal J M:=
  λJ e h=>aF (k+1,w,M) ⟨hlt,by simp only;rw[e];exact y,i⟩ sO_ h b_
 simp only[go_sem,l];refine bE (h_.set o (.rows 17 [p.cells])) (raS f p) B ?_;by_cases c:x>=0
 ·obtain⟨d,rfl⟩:∃d:Nat,x=d:=⟨x.toNat,by omega⟩;have W:d<Z' f.aoC:=Om;rw[aZ (Om:(0:Int)<=d),aqL,arP]at u;simp only[go_sem,A,c,i];refine cM (aeY f p d) (L.allowed f p d hV hp W) rfl B ?_;cases hb:p.aoD.contains ((mdl f d:Nat):Int)with
  |true =>rw[hb,aC aT]at u;simp only[go_sem,aqC,wZz k];exact skip _ u Lq
  |false=>
   rw[hb,aE aT]at u;have D:(1:Nat)*3<=16777216:=by decide
   simp only[go_sem,aqI,D];refine fS (src:=[(⟨4,v,k⟩:jH).cells]) y rfl (by unfold roomFor;rw[iM,apV];simp only[aqH,maxLen];omega) λv' H' g1 g2=>?_;rw[lN,aqT,<-u]at g1;have go:=g2 o _ i (y.ne i aT);simp only[go_sem,wZz k];exact aF (k+1,v',H') ⟨hlt,g1,go⟩ sO_ Lq b_
 rw[bG (show ¬0<=x from c),aqD,aC aT]at u;simp only[go_sem,A,c,wZz k];exact skip _ u Lq;have l:¬(k:Int)<(Z' row:Nat):=Om;have:k=Z' row:=Om;subst this;simp only[go_sem,l];exact Up.up Lq (U w M y i)
theorem Th(f:aB)(p:bY)(row:I_){k:Nat}(e:k≠0)(h:k<Z' f.aoF):mW f p row k=(decide (dR f p k>0)&&decide (((row.countP (jR f k):Nat):Int)>dR f p k)):=by
 have:(eT f row)[k]?=some ((row.countP (jR f k):Nat):Int):=by simp only[eT,aqE,arU h,aqK,fN,aC e]
 rw[mW,apY,this,arT]
theorem Oa(f:aB)(hV:VF f)(p:bY)(v:Int)(row:I_):cB 5 v 1 (mW f p row)=[]:=by
 have h:=hV.root.1;have e:(eT f row)[0]?=some 0:=by simp only[eT,aqE,arU h,aqK,fN,if_true]
 have:mW f p row 0=false:=by rw[mW,apY,e,arT];by_cases c:dR f p 0>0;rw[bG (Om:¬(0:Int)>dR f p 0),arE];rw[bG c,aqD]
 rw[jO,this];rfl
theorem Wi(L:WK C)(f:aB)(hV:VF f)(p:bY)(o v:Nat)(row:I_)(O:BD f row)(y:List jH)(Y:Z' y<=200000000)(N:PV)(K:bT)[Up K](F:PF)(H:PH)
  (S:(((((((n_.set 1 (.j v)).set 2 (ints row)).set 3 (.aU f.cells)).set 8 (N)).set 13 (.ptr o 17 0 0)).set 15 (.j 1)):PF).le F) (U:bA H 3 N (dP y)) (ho:H o=some (.rows 17 [p.cells]))
  (V:∀w H',bA H' 3 w (dP (y++cB 5 v f.aoF.length (mW f p row)))->K (.exit 8) ((n_.set 8 (w))) H'):aI.wp C (.loop gl) K F H:=by
 have hs:=hV.small.aoF;refine wp_loop (α:=T3_) (λt=>((((((n_.set 1 (.j v)).set 2 (ints row)).set 3 (.aU f.cells)).set 8 (t.2.1)).set 13 (.ptr o 17 0 0)).set 15 (.j t.1))) (λt=>t.2.2) (λt=>1<=t.1/\t.1<=Z' f.aoF/\bA t.2.2 3 t.2.1 (dP (y++cB 5 v t.1 (mW f p row)))/\t.2.2 o=some (.rows 17 [p.cells])) (λt=>Z' f.aoF-t.1) (1,N,H)
  ⟨apU _,hV.root.1,by rw[Oa f hV,aqY];exact U,ho⟩ S b_ ?_
 rintro⟨k,w,A⟩ ⟨M,X,u,e⟩;simp only at M X u e ⊢;simp only[go_sem,gl,apP];by_cases hlt:k<Z' f.aoF
 ·have i:(k:Int)<(Z' f.aoF:Nat):=Om;have l:=jO 5 v k (mW f p row);have l5:=eZ 5 v k (mW f p row);rw[Th f p row Om hlt]at l;obtain⟨q0,q4,-⟩:=hV.kQ hlt;have h5:((lvl f k)<((5:Nat):Int)):=Om;have fin:∀(E:PF),((((((((n_.set 1 (.j v)).set 2 (ints row)).set 3 (.aU f.cells)).set 8 (w)).set 13 (.ptr o 17 0 0)).set 15 (.j k)).set 16 (.j (dR f p k))):PF).le E ->
    aI.wp C (.seq (.region QC) (.cond (.tmp 145) (.region gm) .skip)) (fE 9 (gH C (aI.wp C (.region HP)) (fK (λt:T3_=>((((((n_.set 1 (.j v)).set 2 (ints row)).set 3 (.aU f.cells)).set 8 (t.2.1)).set 13 (.ptr o 17 0 0)).set 15 (.j t.1))) (λt=>t.2.2) (λt=>1<=t.1/\t.1<=Z' f.aoF/\bA t.2.2 3 t.2.1 (dP (y++cB 5 v t.1 (mW f p row)))/\t.2.2 o=some (.rows 17 [p.cells])) (λt=>Z' f.aoF-t.1) (Z' f.aoF-k) K))) E A:=by
   intro E J;refine mA _ (λ_ _ _ _ a b=>Up.up a b) J ?_;have Z:row.countP (jR f k)<=16777216:=aqX List.countP_le_length O.len;generalize dR f p k=R at *
   by_cases B:R>0
   ·rw[aZ B,aqL]at l;simp only[go_sem,QC,B];refine aD (L.count f row k hV O hlt) rfl ?_;by_cases D:((row.countP (jR f k):Nat):Int)>R
    ·rw[aZ D,aE rfl]at l;have x:(1:Nat)*3<=16777216:=by decide
     simp only[go_sem,D,gm,x];refine fS (src:=[(⟨5,v,k⟩:jH).cells]) u rfl (by unfold roomFor;rw[iM,apV];simp only[aqH,maxLen];omega) λv' H' g1 g2=>?_;rw[lN,aqT,<-l]at g1;have go:=g2 o _ e (u.ne e aT);simp only[go_sem,HP,wZz k];exact aF (k+1,v',H') ⟨by omega,hlt,g1,go⟩ sO_ Lq b_
    ·rw[bG D,aC aT]at l;rw[<-l]at u;simp only[go_sem,D,HP,wZz k];exact aF (k+1,w,A) ⟨by omega,hlt,u,e⟩ sO_ Lq b_
   ·rw[bG B,aqD,aC aT]at l;rw[<-l]at u;simp only[go_sem,QC,B,HP,wZz k];exact aF (k+1,w,A) ⟨by omega,hlt,u,e⟩ sO_ Lq b_
  simp only[aI.wp,go_sem,dR]at fin;simp only[go_sem,i,gD hlt,zF hlt,q0,h5,Nat.mul_one];have W:lvl f k=0\/lvl f k=1\/lvl f k=2\/lvl f k=3\/lvl f k=4:=Om;rcases W with h|h|h|h|h
  all_goals
   rw[h]at fin ⊢;simp only[go_sem,e];exact fin _ (by(repeat' (first|exact d_|refine e_ ?_ ?_))<;>first|(simp only[go_sem,bY.spread]<;>rfl)|rfl)
 ·have i:¬(k:Int)<(Z' f.aoF:Nat):=Om;have:k=Z' f.aoF:=Om;subst this;simp only[go_sem,i];exact Up.up Lq (V w A u)
theorem Y3{f:aB}{row:I_}(e:Z' row<=16777216)(h:gL (kZ f) row 0=none):BD f row:=⟨e,λx i=>by
 have:=wX h x i;simp[kZ]at this;omega⟩
theorem abX(L:WK C)(f:aB)(hV:VF f)(x:∀p∈f.aoG,Fits p.aoD)(v:Nat)(e:v<Z' f.aoE)(row:I_)(u:Z' row<=16777216) :
  v6.wp C (aW iT.res (cY (KT (Dh f v row)))) (g_ [.agg f.cells,.j v,ints row]) .nil:=by
 have w:(1:Nat)*3<=16777216:=by decide
 simp only[go_sem,v6,iT,apP];refine aD (L.bu f v hV e) rfl ?_;unfold Dh;by_cases c:(Z' row:Int)=kW f v
 ·rw[aE c];simp only[go_sem,bW c];refine aD (L.bad f row u) rfl ?_;cases hb:gL (kZ f) row 0 with
  |some i=>
   have l:bc f row=(i:Int):=by rw[bc,hb]
   simp only[go_sem,l,show(i:Int)>=0 by omega,w];exact bK (.inr rfl) .nil rfl a_ ⟨.refl _,rfl⟩
  |none=>
   have l:bc f row=-1:=by rw[bc,hb]
   have A:=Y3 u hb;obtain⟨hp,he⟩:=kB hV e;have y:=x _ (apW hp);rw[he]at y;have B:=hV.small;have s1:=B.aoC;have s2:=B.aoF;have W:=eZ 2 v row.length (home row);have X:=eZ 3 v f.aoC.length (lJ f row);have Y:=eZ 4 v row.length (dS f (bF f v) row);simp only[go_sem,l,show ¬(-1:Int)>=0 by omega];have D:=abP (C:=C) f v row A;simp only[aI.wp,go_sem]at D;refine D _ _ _ Lq λN S g1=>?_;simp only[go_sem];have E:=Wj (C:=C) f hV v row u (cB 2 v row.length (home row)) Om N;simp only[aI.wp,go_sem]at E;refine E _ _ _ Lq g1 λO H2 g2=>?_;simp only[go_sem];refine bE .nil cO a_ ?_;simp only[go_sem,oM e,hV.zP e,mJ hp,he];refine aQ λo K=>?_;simp only[go_sem];have F:=Wh L f hV (bF f v) y o v row A (cB 2 v row.length (home row)++cB 3 v f.aoC.length (lJ f row)) (by rw[apV];omega) O;simp only[aI.wp,go_sem]at F;refine⟨a_,?_⟩;refine F _ _ _ Lq (g2.fresh K _).1 Sq λR U g3 M=>?_;simp only[go_sem];have J:=Wi L f hV (bF f v) o v row A (cB 2 v row.length (home row)++cB 3 v f.aoC.length (lJ f row)++cB 4 v row.length (dS f (bF f v) row)) (by simp only[apV];omega) R;simp only[aI.wp,go_sem]at J;refine J _ _ _ Lq g3 M λZ V g4=>?_;simp only[go_sem];exact oK (.inr rfl) g4 rfl
 rw[aC c];simp only[go_sem,cX c,w,apP];exact bK (.inr rfl) .nil rfl a_ ⟨.refl _,rfl⟩
structure qi(C:Ctx):Prop extends SB C where
 room:∀(f:aB)(room:I_),f.Ok->aJ C 85 [.agg f.cells,ints room] .nil (aL (ints (qG f room)))
 loads:∀(f:aB)(l:L2_),f.Ok->iO l->aJ C 84 [.agg f.cells,lay l] .nil (aL (ints (uJ f l)))
 row:∀(f:aB)(v:Nat)(row:I_),VF f->(∀p∈f.aoG,Fits p.aoD)->v<Z' f.aoE->Z' row<=16777216->aJ C 90 [.agg f.cells,.int .i64 v,ints row] .nil (aL (KT (Dh f v row)))
def svS(f:aB)(l:L2_)(room:I_):Spec:=λname vs=>match name,vs with
 |90,[_,.int _ v,_]=>some ([],λ_=>aL (KT (uM f l v.toNat)))
 |85,_=>some ([],λ_=>aL (ints (qG f room)))
 |84,_=>some ([],λ_=>aL (ints (uJ f l)))
 |_,_=>none
theorem acA(f:aB)(hV:VF f)(l:L2_)(room:I_)(E:List jH)(V:Z' E<=2000000000)(L:PV)(K:bT)[Up K](F:PF)(H:PH)
  (O:(((((n_.set 7 (L)).set 9 (ints (bM f room))).set 10 (ints (dG f l))).set 11 (.j 0)):PF).le F) (S:bA H 3 L (dP E))
  (R:∀w H',bA H' 3 w (dP (E++cB 6 (-1) f.aoC.length (over f l room)))->K (.exit 2) ((n_.set 7 (w))) H'):aI.wp C (.loop VG) K F H:=by
 have X:=hV.small.aoC;have J:=qF f room;refine wp_loop (α:=T3_) (λt=>((((n_.set 7 (t.2.1)).set 9 (ints (bM f room))).set 10 (ints (dG f l))).set 11 (.j t.1))) (λt=>t.2.2) (λt=>t.1<=Z' f.aoC/\bA t.2.2 3 t.2.1 (dP (E++cB 6 (-1) t.1 (over f l room)))) (λt=>Z' f.aoC-t.1) (0,L,H)
  ⟨apR _,by rw[show cB 6 (-1) 0 (over f l room)=[]from rfl,aqY];exact S⟩ O b_ ?_
 rintro⟨k,w,M⟩ ⟨U,u⟩;simp only at U u ⊢;simp only[go_sem,VG,apP,J];by_cases hlt:k<Z' f.aoC;have e:(k:Int)<(Z' f.aoC:Nat):=Om;have A:k<(dG f l).length:=by rw[dG,jK];exact hlt
 have B:k<(bM f room).length:=by rw[qF];exact hlt
 have a1:((dG f l).map λn=>[PV.int .i64 n])[k]?=some [.j (dG f l)[k]]:=by simp[A]
 have a2:((bM f room).map λn=>[PV.int .i64 n])[k]?=some [.j (bM f room)[k]]:=by simp[B]
 have W:over f l room k=decide ((dG f l)[k]>(bM f room)[k]):=by simp only[over,apY,apZ A,apZ B,arT]
 have i:=jO 6 (-1) k (over f l room);have Y:=eZ 6 (-1) k (over f l room);rw[W]at i;generalize(dG f l)[k]=x at *
 generalize(bM f room)[k]=y at *
 simp only[go_sem,e];refine bE .nil cO a_ ?_;by_cases c:x>y;rw[aE (aZ c)]at i;have D:(1:Nat)*3<=16777216:=by decide
 simp only[go_sem,a1,a2,c,D];refine fS (src:=[(⟨6,-1,k⟩:jH).cells]) u rfl (by unfold roomFor;rw[iM,apV];simp only[aqH,maxLen];omega) λv' H' N _=>?_;rw[lN,aqT,<-i]at N;simp only[go_sem,wZz k];exact aF (k+1,v',H') ⟨hlt,N⟩ sO_ Lq b_;rw[aC (by rw[bG c];decide)]at i;rw[<-i]at u;simp only[go_sem,a1,a2,c,wZz k];exact aF (k+1,w,M) ⟨hlt,u⟩ sO_ Lq b_;have e:¬(k:Int)<(Z' f.aoC:Nat):=Om;have:k=Z' f.aoC:=Om;subst this;simp only[go_sem,e];exact Up.up Lq (R w M u)
theorem W1(L:qi C)(f:aB)(D:f.Ok)(l:L2_)(A:iO l)(room:I_) :
  ni.wp C (aW mZ.res (cY (KT (sQ f l room)))) (g_ [.agg f.cells,lay l,ints room]) .nil:=by
 simp only[go_sem,ni,mZ];refine aD (L.valid f D) rfl ?_;unfold sQ;have β:=A.rows;have B:∀p∈f.aoG,Fits p.aoD:=λp hp=>(D.aoP p hp).aoD;cases R:cP f with
 |false =>simp only[go_sem,aqI];exact oK (rows:=[]) (.inr rfl) .nil rfl
 |true=>
  have hV:=VF.of R;by_cases c:Z' l=Z' f.aoE;have E:((Z' l:Int) != (Z' f.aoE:Int))=false:=bW Om;rw[aE c];have V:=hV.small.aoE;simp only[go_sem,aqC,apP,E];refine wp_loop (α:=T3_) (λt=>(((((n_.set 1 (lay l)).set 2 (ints room)).set 3 (.aU f.cells)).set 7 (t.2.1)).set 8 (.j t.1))) (λt=>t.2.2) (λt=>t.1<=Z' l/\bA t.2.2 3 t.2.1 (dP (qU f l t.1))) (λt=>Z' l-t.1) (0,.aG,.nil) ⟨apR _,.nil⟩ Lq a_ ?_;rintro⟨k,w,Y⟩ ⟨hk,J⟩;simp only at hk J ⊢;simp only[go_sem,apP];by_cases hlt:k<Z' l;have e:(k:Int)<(Z' l:Nat):=Om;have N:=CB hV.small A (n:=k) Om;have y:=NK f l k;have U:=dx hV.small A hlt;have O:(l[k]).length<=16777216:=by have h1:=GK l (k+1);have:=A.all;rw[yC l hlt,apV]at h1;omega
  have M:(l.map λr=>[ints r])[k]?=some [ints l[k]]:=by simp[hlt]
  have i:=L.row f k l[k] hV B Om O;rw[<-show l.getD k []=l[k] by simp[apY,hlt],<-Vv]at i;rw[show l.getD k []=l[k] by simp[apY,hlt]]at i;simp only[go_sem,e];refine bE .nil (svS f l room) a_ ?_;simp only[go_sem,M];refine cM (show svS f l room 90 [.agg f.cells,.j k,ints l[k]]=some ([],λ_=>aL (KT (uM f l k)))from rfl) i rfl a_ ?_;simp only[go_sem];refine fS (src:=dP (uM f l k)) J rfl (by unfold roomFor;rw[iM,iM];simp only[maxLen];omega) λv' H' W _=>?_;have S:dP (qU f l k)++dP (uM f l k)=dP (qU f l (k+1)):=by rw[y];simp only[dP,aqP]
  rw[S]at W;refine⟨a_,?_⟩;simp only[go_sem,wZz k];exact aF (k+1,v',H') ⟨hlt,W⟩ sO_ Lq b_;have e:¬(k:Int)<(Z' l:Nat):=Om;have:k=Z' l:=Om;subst this;have N:=CB hV.small A (n:=Z' l) (apU _);have x:=L.room f room D;have u:=L.loads f l D A;have Z:qG f room=bM f room:=by rw[qG,R];rfl
  have e2:uJ f l=dG f l:=by rw[uJ,R];rfl
  simp only[go_sem,e];refine bE .nil (svS f l room) a_ ?_;simp only[go_sem];refine cM (show svS f l room 85 [.agg f.cells,ints room]=some ([],λ_=>aL (ints (qG f room)))from rfl) x rfl a_ ?_;simp only[go_sem];refine cM (show svS f l room 84 [.agg f.cells,lay l]=some ([],λ_=>aL (ints (uJ f l)))from rfl) u rfl a_ ?_;rw[Z,e2];simp only[go_sem];have X:=acA (C:=C) f hV l room (qU f l l.length) Om w;simp only[aI.wp,go_sem]at X;refine X _ _ Y Lq J λw' H' K=>?_;simp only[go_sem];exact oK (.inr rfl) K rfl;have E:((Z' l:Int) != (Z' f.aoE:Int))=true:=cX Om;have F:(1:Nat)*3<=16777216:=by decide
  rw[aC c];simp only[go_sem,aqC,apP,E,F];exact bK (.inr rfl) .nil rfl a_ ⟨.refl _,rfl⟩
structure Ns(C:Ctx):Prop extends qi C where
 viol:∀(f:aB)(l:L2_) (room:I_),f.Ok->iO l->aJ C 87 [.agg f.cells,lay l,ints room] .nil (aL (KT (sQ f l room)))
theorem Rn(L:Ns C)(f:aB)(e:f.Ok)(l:L2_)(i:iO l)(room:I_) :
  ZL.wp C (aW mu.res (aL (.bool (dQ f l room)))) (g_ [.agg f.cells,lay l,ints room]) .nil:=by
 simp only[go_sem,ZL,mu];refine aD (L.valid f e) rfl ?_;unfold dQ;cases u:cP f with
 |false =>simp only[go_sem];refine eD ?_;rfl
 |true =>simp only[go_sem];refine aD (L.viol f l room e i) rfl ?_;by_cases c:(sQ f l room).length=0;simp only[go_sem,apP,cC (show(((sQ f l room).length:Nat):Int)=0 by omega)];refine eD ?_;simp[bO,c];simp only[go_sem,apP,bJ (show(((sQ f l room).length:Nat):Int)≠0 by omega)];refine eD ?_;rw[bO,bG c]
theorem dge{n:Nat}(k:Nat):decide ((n:Int)>=(k:Int))=decide (k<=n):=decide_eq_decide.2 Om
theorem dle{n:Nat}(k:Nat):decide ((n:Int)<=(k:Int))=decide (n<=k):=decide_eq_decide.2 Om
theorem Nb(n:Nat):WG.wp C (aW XU.res (aL (.bool (gO n)))) (g_ [.int .u8 n]) .nil:=by
 have e:=dge (n:=n) 97;have i:=dle (n:=n) 122;have l:=dge (n:=n) 65;have u:=dle (n:=n) 90;simp only[Int.cast_ofNat_Int]at e i l u;unfold gO;generalize decide (97<=n)=a at *
 generalize decide (n<=122)=b at *
 generalize decide (65<=n)=c at *
 generalize decide (n<=90)=d at *
 cases a<;>cases b<;>cases c<;>cases d
 all_goals
  simp only[go_sem,WG,XU,e,i,l,u];refine eD ?_;rfl
theorem So(n:Nat):aj.wp C (aW pw.res (aL (.bool (pX n)))) (g_ [.int .u8 n]) .nil:=by
 have e:=dge (n:=n) 48;have i:=dle (n:=n) 57;simp only[Int.cast_ofNat_Int]at e i;unfold pX;generalize decide (48<=n)=a at *
 generalize decide (n<=57)=b at *
 cases a<;>cases b
 all_goals
  simp only[go_sem,aj,pw,e,i];refine eD ?_;rfl
theorem M8(e:∀n:Nat,aJ C 65 [.int .u8 n] .nil (aL (.bool (gO n))))(i:∀n:Nat,aJ C 63 [.int .u8 n] .nil (aL (.bool (pX n))))(n:Nat) :
  WE.wp C (aW XS.res (aL (.bool (iK n)))) (g_ [.int .u8 n]) .nil:=by
 have g1:((n:Int)==45)=decide (n=45):=by by_cases h:n=45<;>simp[h];omega
 have g2:((n:Int)==46)=decide (n=46):=by by_cases h:n=46<;>simp[h];omega
 have l:=e n;have u:=i n;unfold iK;generalize decide (n=45)=a at *
 generalize decide (n=46)=b at *
 simp only[go_sem,WE,XS];refine aD l rfl ?_;cases gO n with
 |true =>simp only[go_sem];refine eD ?_;rfl
 |false=>
  simp only[go_sem];refine aD u rfl ?_;cases pX n<;>cases a<;>cases b
  all_goals
   simp only[go_sem,g1,g2];refine eD ?_;rfl
theorem M9(D:∀n:Nat,aJ C 65 [.int .u8 n] .nil (aL (.bool (gO n))))(E:∀n:Nat,aJ C 64 [.int .u8 n] .nil (aL (.bool (iK n))))(s:List UInt8) :
  WF.wp C (aW XT.res (aL (.bool (isName s)))) (g_ [.str s]) .nil:=by
 simp only[go_sem,WF,XT];cases s with
 |nil =>have B:decide (((0:Nat):Int)<1)=true:=rfl;simp only[go_sem,asG,B];refine eD ?_;rfl
 |cons c t=>
  have F:(c::t)[0]?=some c:=rfl;have l:isName (c::t)=(decide ((c::t).length<=16)&&gO c.toNat&&(c::t).all λc=>iK c.toNat):=rfl;have i:¬(((c::t).length:Nat):Int)<1:=by simp only[aqV];omega
  generalize c::t=s at *
  by_cases A:Z' s<=16
  ·have u:¬(Z' s:Int)>16:=Om;rw[aZ A,aqL]at l;have J:=D c.toNat;simp only[go_sem,i,u,F,aqK];refine aD J rfl ?_;cases y:gO c.toNat with
   |false =>simp only[go_sem,aqI];refine eD ?_;rw[bO,l,y,aqD]
   |true=>
    rw[y,aqL]at l;simp only[go_sem,aqC];refine wp_loop (α:=Nat) (λk=>((n_.set 0 (.str s)).set 3 (.j k))) (λ_=>.nil) (λk=>k<=Z' s/\(s.take k).all (λc=>iK c.toNat)=true) (λk=>Z' s-k) 0 ⟨apR _,rfl⟩ Lq a_ ?_;rintro k ⟨L,w⟩;simp only[go_sem];by_cases hlt:k<Z' s
    ·have e:(k:Int)<(Z' s:Nat):=Om;have x:s[k]?=some s[k]:=apZ hlt;have K:=E (s[k]).toNat;simp only[go_sem,e,x,aqK];refine aD K rfl ?_;cases hi:iK (s[k]).toNat with
     |false =>simp only[go_sem,aqI];refine eD ?_;rw[bO,l,tX hlt hi]
     |true =>simp only[go_sem,aqC,wZz k];exact aF (k+1) ⟨hlt,by simpa using tW hlt w hi⟩ Om Lq b_
    have e:¬(k:Int)<(Z' s:Nat):=Om;have:k=Z' s:=Om;subst this;rw[aqO]at w;simp only[go_sem,e];refine eD ?_;rw[bO,l,w]
  have u:(Z' s:Int)>16:=Om;rw[bG A,aqD,aqD]at l;simp only[go_sem,i,u];refine eD ?_;rw[bO,l]
def MU(k m:Int):Bool:=within k 1 6&&(within m 0 4&&decide (k+m<=8))
theorem Wp(k m:Int):vZ.wp C (aW JA.res (aL (.bool (MU k m)))) (g_ [.j k,.j m]) .nil:=by
 unfold MU within;by_cases e:1<=k;by_cases i:k<=6;by_cases l:0<=m;by_cases u:m<=4;have w:i_.wrap (k+m)=k+m:=wrap_i64 Om Om;simp only[go_sem,vZ,JA,ge_iff_le,e,i,l,u,w];refine eD ?_;simp[bO,e,i,l,u];simp only[go_sem,vZ,JA,ge_iff_le,e,i,l,u];refine eD ?_;simp[bO,e,i,l,u];simp only[go_sem,vZ,JA,ge_iff_le,e,i,l];refine eD ?_;simp[bO,e,i,l];simp only[go_sem,vZ,JA,ge_iff_le,e,i];refine eD ?_;simp[bO,e,i];simp only[go_sem,vZ,JA,ge_iff_le,e];refine eD ?_;simp[bO,e]
theorem Nk(n lo hi:Int):HX.wp C (aW ML.res (aL (.bool (within n lo hi)))) (g_ [.j n,.j lo,.j hi]) .nil:=by
 unfold within;by_cases h:lo<=n;simp only[go_sem,HX,ML,ge_iff_le,h];refine eD ?_;simp[bO,h];simp only[go_sem,HX,ML,ge_iff_le,h];refine eD ?_;simp[bO,h]
def uU(a b c d e f:Nat):Bool:=decide (a<=4)&&(decide (b<=4)&&(decide (c<=40)&&(decide (d<=24)&&(decide (e<=4)&&decide (f<=12)))))
theorem Sx(a b c d e f:Nat):au.wp C (aW qa.res (aL (.bool (uU a b c d e f)))) (g_ [.j a,.j b,.j c,.j d,.j e,.j f]) .nil:=by
 have g:∀x k:Nat,decide ((x:Int)<=(k:Int))=decide (x<=k):=λx k=>decide_eq_decide.2 Om;have i:=g a 4;have l:=g b 4;have u:=g c 40;have w:=g d 24;have h5:=g e 4;have y:=g f 12;simp only[Int.cast_ofNat_Int]at i l u w h5 y;unfold uU;simp only[go_sem,au,qa,i];cases decide (a<=4)with
 |false =>simp only[go_sem];refine eD ?_;rfl
 |true=>
  simp only[go_sem,l];cases decide (b<=4)with
  |false =>simp only[go_sem];refine eD ?_;rfl
  |true=>
   simp only[go_sem,u];cases decide (c<=40)with
   |false =>simp only[go_sem];refine eD ?_;rfl
   |true=>
    simp only[go_sem,w];cases decide (d<=24)with
    |false =>simp only[go_sem];refine eD ?_;rfl
    |true=>
     simp only[go_sem,h5];cases decide (e<=4)with
     |false =>simp only[go_sem];refine eD ?_;rfl
     |true =>simp only[go_sem,y];refine eD ?_;rfl
structure it(C:Ctx):Prop extends I4 C where
 sum:∀l:List RF,(∀x∈l,x.Ok)->Z' l<=9223372036854775807->aJ C 55 [frs l] .nil (aL (frV (AA (l.map RF.v))))
 inn:∀n lo hi:Int,aJ C 76 [.int .i64 n,.int .i64 lo,.int .i64 hi] .nil (aL (.bool (within n lo hi)))
 code:∀k m:Int,aJ C 61 [.int .i64 k,.int .i64 m] .nil (aL (.bool (MU k m)))
def OW(k m q s0 s1 s2 s3 s4:Int):Bool:=MU k m&&(within q k (k+m)&&(decide (s0=0)&&(within s1 0 8&&(within s2 0 8&&(within s3 0 8&&within s4 0 8)))))
theorem aaV(p:bY):OV p=OW p.k p.m p.apB p.s0 p.s1 p.s2 p.s3 p.s4:=by
 unfold OV OW MU;have:within p.s0 0 8=true\/p.s0≠0:=by by_cases h:p.s0=0;rw[h];exact .inl rfl;exact .inr h
 simp only[atS,List.all_nil,arY];rcases this with h|h
 rw[h];simp only[aqL,atG];simp only[h,decide_false,aqD,arE]
def spR(s1 s2 s3 s4:Int)(k:Nat):Int:=match k with
 |1=>s1
 |2=>s2
 |3=>s3
 |_=>s4
theorem Gj(L:it C)(k m q s0 s1 s2 s3 s4:Int) :
  RY.wp C (aW RB.res (aL (.bool (OW k m q s0 s1 s2 s3 s4)))) (g_ [.j k,.j m,.j q,.agg [.j s0,.j s1,.j s2,.j s3,.j s4]]) .nil:=by
 obtain⟨X,w⟩:∃X,OW k m q s0 s1 s2 s3 s4=X:=⟨_,rfl⟩;rw[w];unfold OW at w;simp only[go_sem,RY,RB];refine aD (L.code k m) rfl ?_;cases F:MU k m with
 |false =>rw[F,aqD]at w;simp only[go_sem,aqI];refine eD ?_;rw[bO,w]
 |true=>
  rw[F,aqL]at w;have hb:1<=k/\k<=6/\0<=m/\m<=4:=by simp only[MU,apT,within_iff]at F;omega
  have S:i_.wrap (k+m)=k+m:=wrap_i64 Om Om;simp only[go_sem,aqC,S];refine aD (L.inn q k (k+m)) rfl ?_;cases K:within q k (k+m)with
  |false =>rw[K,aqD]at w;simp only[go_sem,aqI];refine eD ?_;rw[bO,w]
  |true=>
   rw[K,aqL]at w;have E:(0:Int)<((5:Nat):Int):=by decide
   by_cases J:s0=0
   ·rw[aZ J,aqL]at w;simp only[go_sem,aqC,E,bW J];refine wp_loop (α:=Nat) (λj=>((n_.set 7 (.aU [.j s0,.j s1,.j s2,.j s3,.j s4])).set 9 (.j j))) (λ_=>.nil) (λj=>1<=j/\j<=5/\∀i,1<=i->i<j->within (spR s1 s2 s3 s4 i) 0 8=true) (λj=>5-j) 1 ⟨by decide,by decide,λi F K=>by omega⟩ Lq a_ ?_;rintro j ⟨N,O,l⟩;simp only[go_sem];by_cases hlt:j<5
    ·have u:(j:Int)<5:=Om;have A:((j:Nat):Int)<((5:Nat):Int):=Om;have y:=L.inn (spR s1 s2 s3 s4 j) 0 8;obtain⟨c,x⟩:∃c,within (spR s1 s2 s3 s4 j) 0 8=c:=⟨_,rfl⟩;rw[x]at y;have B:c=true->∀i,1<=i->i<j+1->within (spR s1 s2 s3 s4 i) 0 8=true:=λD i a b=>by
      by_cases e:i=j
      ·rw[e,x,D]
      ·exact l i a Om
     have bad:c=false->X=false:=by intro h;rw[h]at x;have D:j=1\/j=2\/j=3\/j=4:=Om;rw[<-w];rcases D with rfl|rfl|rfl|rfl<;>(simp only[spR]at x;rw[x];simp)
     have D:j=1\/j=2\/j=3\/j=4:=Om;cases c with
     |false=>
      have M:=bad rfl;rcases D with rfl|rfl|rfl|rfl
      all_goals
       simp only[spR]at y;simp only[go_sem,u,A];refine aD y rfl ?_;simp only[go_sem,aqI];refine eD ?_;rw[bO,M]
     |true=>
      have R:=B rfl;rcases D with rfl|rfl|rfl|rfl
      all_goals
       simp only[spR]at y;simp only[go_sem,u,A];refine aD y rfl ?_;simp only[go_sem,aqC];refine aF (_+1) ⟨by omega,hlt,R⟩ Om Lq b_
    ·have u:¬(j:Int)<5:=Om;have:j=5:=Om;subst this;simp only[go_sem,u];refine eD ?_;have a1:=l 1 aT aT;have a2:=l 2 aT aT;have a3:=l 3 aT aT;have a4:=l 4 aT aT;simp only[spR]at a1 a2 a3 a4;rw[bO,<-w,a1,a2,a3,a4];rfl
   ·rw[bG J,aqD]at w;simp only[go_sem,aqC,E,cX J];refine eD ?_;rw[bO,w]
theorem vN{x:RF}(h:dO x=true):x.valid:=by
 unfold dO DB at h;unfold RF.valid;cases e:fT (val x.num) (val x.den)with
 |true=>rfl
 |false =>rw[e]at h;simp at h
theorem Sy(L:it C)(x:RF)(A:x.Ok):av.wp C (aW qb.res (aL (.bool (dO x)))) (g_ [.agg x.cells]) .nil:=by
 have y:=L.red x A;unfold dO;simp only[go_sem,av,qb];refine aD y Sq ?_;cases he:DB x with
 |error e =>have u:=V9 he;simp only[go_sem,frV];refine aQ λo w=>?_;simp only[go_sem,bJ u];refine cR (.inr rfl) Ev ?_;rfl
 |ok r=>
  obtain⟨n,a,b⟩:=r;have B:=pO a 1;have D:=pO b 1;have i:decide (((nl a:Nat):Int)<=1)=decide (fC a<=32):=decide_eq_decide.2 Om;have l:decide (((nl b:Nat):Int)<=1)=decide (fC b<=32):=decide_eq_decide.2 Om;simp only[go_sem,frV];refine aQ λo w=>?_;cases n with
  |true =>simp only[go_sem,aqC];refine cR (.inr rfl) Ev ?_;rfl
  |false=>
   simp only[go_sem,aqI,apP,cE,i];cases decide (fC a<=32)with
   |false =>simp only[go_sem];refine cR (.inr rfl) Ev ?_;rfl
   |true =>simp only[go_sem,apP,cE,l];refine cR (.inr rfl) Ev ?_;rfl
structure qd(C:Ctx):Prop extends it C where
 small:∀x:RF,x.Ok->aJ C 74 [.agg x.cells] .nil (aL (.bool (dO x)))
 nums:∀k m q s0 s1 s2 s3 s4:Int,aJ C 72 [.int .i64 k,.int .i64 m,.int .i64 q,.agg [.int .i64 s0,.int .i64 s1,.int .i64 s2,.int .i64 s3,.int .i64 s4]] .nil (aL (.bool (OW k m q s0 s1 s2 s3 s4)))
 sizes:∀a b c d e f:Nat,aJ C 73 [.int .i64 a,.int .i64 b,.int .i64 c,.int .i64 d,.int .i64 e,.int .i64 f] .nil (aL (.bool (uU a b c d e f)))
theorem jy{l:List RF}{k:Nat}(h:k<Z' l):(l.map RF.cells)[k]?=some (l[k]).cells:=by simp[h]
theorem Nj(L:qd C)(l:List RF)(w:oU l)(n:Int):WI.wp C (aW XV.res (aL (.bool (decide ((Z' l:Int)=n)&&l.all dO)))) (g_ [frs l,.j n]) .nil:=by
 have x:=w.fits;unfold Fits at x;simp only[go_sem,WI,XV,apP];by_cases h:(Z' l:Int)=n;rw[aZ h,aqL];subst h;simp only[go_sem,bW (show(Z' l:Int)=(Z' l:Nat)from rfl)];refine wp_loop (α:=Nat) (λk=>(((n_.set 0 (frs l)).set 1 (.j (Z' l:Nat))).set 5 (.j k))) (λ_=>.nil) (λk=>k<=Z' l/\(l.take k).all dO=true) (λk=>Z' l-k) 0 ⟨apR _,rfl⟩ Lq a_ ?_;rintro k ⟨A,i⟩;simp only[go_sem];by_cases hlt:k<Z' l
 ·have e:(k:Int)<(Z' l:Nat):=Om;have y:=L.small l[k] (w.all _ (apW hlt)).ok;simp only[go_sem,e,jy hlt];refine aD y Sq ?_;cases hi:dO l[k]with
  |false =>simp only[go_sem,aqI];refine cR (.inr rfl) Ev ?_;rw[bO,tX hlt hi]
  |true =>have u:=aqM.1 (tW hlt i hi);simp only[go_sem,aqC,wZz k];exact aF (k+1) ⟨hlt,u⟩ Om Lq b_
 have e:¬(k:Int)<(Z' l:Nat):=Om;have:k=Z' l:=Om;subst this;rw[aqO]at i;simp only[go_sem,e];refine cR (.inr rfl) Ev ?_;rw[bO,i];rw[bG h,aqD];simp only[go_sem,cX h];refine cR (.inr rfl) Ev ?_;rfl
structure qe(C:Ctx):Prop extends qd C where
 smalls:∀l:List RF,oU l->∀n:Int,aJ C 75 [frs l,.int .i64 n] .nil (aL (.bool (decide ((Z' l:Int)=n)&&l.all dO)))
theorem PX(x:RF):(xC x==0)=!bR x:=by
 unfold xC bR;by_cases h:val x.num=0;simp[h];cases x.neg<;>simp[h]
def ft(l:List RF)(m:Int):Bool:=decide ((Z' l:Int)=max m 1)&&l.all dO&&l.all bR
theorem acV(L:qe C)(l:List RF)(y:oU l)(m:Int):ww.wp C (aW Ni.res (aL (.bool (ft l m)))) (g_ [frs l,.j m]) .nil:=by
 have B:=y.fits;unfold Fits at B;have E:=L.smalls l y (max m 1);unfold ft;simp only[go_sem,ww,Ni,max_eq];refine aD E Sq ?_;cases h:(decide ((Z' l:Int)=max m 1)&&l.all dO)with
 |false =>simp only[go_sem,aqI];refine cR (.inr rfl) Ev ?_;rfl
 |true=>
  rw[apT]at h;have i:=aqM.1 h.2;simp only[go_sem,aqC];refine wp_loop (α:=Nat) (λk=>((n_.set 0 (frs l)).set 5 (.j k))) (λ_=>.nil) (λk=>k<=Z' l/\(l.take k).all bR=true) (λk=>Z' l-k) 0 ⟨apR _,rfl⟩ Lq a_ ?_;rintro k ⟨F,w⟩;simp only[go_sem,apP];by_cases hlt:k<Z' l
  ·have e:(k:Int)<(Z' l:Nat):=Om;have A:=apW hlt;have D:=L.sign l[k] (y.all _ A).ok (vN (i _ A));have u:=PX l[k];simp only[go_sem,e,jy hlt];refine aD D Sq ?_;cases hi:bR l[k]with
   |false =>rw[hi]at u;simp only[go_sem,u,aqI];refine cR (.inr rfl) Ev ?_;rw[bO,tX hlt hi]
   |true =>rw[hi]at u;have x:=aqM.1 (tW hlt w hi);simp only[go_sem,u,aqC,wZz k];exact aF (k+1) ⟨hlt,x⟩ Om Lq b_
  have e:¬(k:Int)<(Z' l:Nat):=Om;have:k=Z' l:=Om;subst this;rw[aqO]at w;simp only[go_sem,e];refine cR (.inr rfl) Ev ?_;rw[bO,w]
structure qf(C:Ctx):Prop extends qe C where
 reps:∀l:List RF,oU l->∀m:Int,aJ C 66 [frs l,.int .i64 m] .nil (aL (.bool (ft l m)))
def frD:V_->RF
 |[.bool n,a,b]=>⟨n,sD a,sD b⟩
 |_=>⟨false,[],[]⟩
theorem tv(x:RF):frD x.cells=x:=by
 show(⟨x.neg,sD (aY x.num),sD (aY x.den)⟩:RF)=x;rw[lS,lS]
def zdS(r s:Bool):Spec:=λname vs=>match name,vs with
 |66,_=>some ([],λ_=>aL (.bool r))
 |74,[.agg cs]=>some ([],λ_=>aL (.bool (dO (frD cs))))
 |47,_=>some ([],λ_=>aL (.agg (mkT 1 1).cells))
 |49,_=>some ([],λ_=>aL (.bool s))
 |_,_=>none
theorem wq(r s:Bool)(x:RF):zdS r s 74 [.agg x.cells]=some ([],λ_=>aL (.bool (dO x))):=by
 show some ([],λ_=>aL (.bool (dO (frD x.cells))))=_;rw[tv]
theorem Qe(x y:RF):uO y x=- uO x y:=by
 unfold uO CZ;have e:=tf (val x.num*val y.den) (val y.num*val x.den);cases x.neg&&decide (val x.num≠0)<;>cases y.neg&&decide (val y.num≠0)<;>simp only[e,Int.neg_neg]<;>rfl
theorem Vw{x:RF}(e:x.valid):decide (uO (mkT 1 1) x<0)=!HB x:=by
 rw[Qe x];unfold HB;rw[show fT (val x.num) (val x.den)=true from e,aqL,LY];unfold uO;simp only[bZ,show(1:Int).natAbs=1 from rfl,show decide ((1:Int)<0)=false from rfl];by_cases h:CZ x.neg (val x.num) (val x.den) false 1 1<=0;rw[aZ h,bG Om];rfl;rw[bG h,aZ Om];rfl
def TC(m:Int)(rep:List RF)(t h:RF):Bool:=ft rep m&&(dO t&&(HB t&&dO h))
theorem acT(L:qf C)(m:Int)(rep:List RF)(x:oU rep)(t h:RF)(u:t.Ok)(w:h.Ok) :
  wr.wp C (aW Nf.res (aL (.bool (TC m rep t h)))) (g_ [.j m,frs rep,.agg t.cells,.agg h.cells]) .nil:=by
 have i:eK 1:=by unfold eK;omega
 unfold TC;simp only[go_sem,wr,Nf];refine bE .nil (zdS (ft rep m) (!HB t)) a_ ?_;simp only[go_sem];refine cM rfl (L.reps rep x m) Sq a_ ?_;cases ft rep m with
 |false =>simp only[go_sem];refine cR (.inr rfl) Ev ?_;rfl
 |true=>
  simp only[go_sem];refine cM (wq _ _ t) (L.small t u) Sq a_ ?_;cases l:dO t with
  |false =>simp only[go_sem];refine cR (.inr rfl) Ev ?_;rfl
  |true=>
   have e:=L.less (mkT 1 1) t (LX 1 i).1 u (LX 1 i).2 (vN l);rw[Vw (vN l)]at e;simp only[go_sem];refine cM rfl (L.int 1 i) Sq a_ ?_;simp only[go_sem];refine cM rfl e Sq a_ ?_;cases HB t with
   |false =>simp only[go_sem,aqI,aqC];refine cR (.inr rfl) Ev ?_;rfl
   |true =>simp only[go_sem,aqC,aqI];refine cM (wq _ _ h) (L.small h w) Sq a_ ?_;simp only[go_sem];refine cR (.inr rfl) Ev ?_;rfl
theorem adU(p:bY):IW p=TC p.m p.repair p.target p.aoN:=by
 unfold IW TC ft;have:(p.repair.all λx=>dO x&&bR x)=(p.repair.all dO&&p.repair.all bR):=by
  induction p.repair with
  |nil=>rfl
  |cons a t e =>simp only[atS,e];cases dO a<;>cases bR a<;>simp
 rw[this];simp only[atG]
section
variable {H:PH} {B:List BX} {L:List LI}
theorem aO.Jb(h:aO H B L)(i:Nat){s b:Nat}{v y:PV}{rows src:P2_}{K:R_}(hi:L[i]?=some (v,s,rows))(D:dH H s y=some src)(A:roomFor rows.length src.length b)
  (u:∀v' H',bA H' s v rows->aO H' B (L.set i (v',s,rows++src))->K v' H'):kM H s b v y K:=by
 rcases h.own i hi with⟨rfl,rfl⟩|⟨q,rs,rfl,h1,h2,h3⟩
 exact h.append i hi D A λv' H' E _=>u v' H' (.inl ⟨rfl,rfl⟩) E;have e:(rows++src).length=Z' rows+Z' src:=apV;refine⟨src,D,rfl,rfl,A,rs,h1,h2,?_,λo l=>?_⟩;rw[h3];refine u _ _ (.inr ⟨q,rows++src,rfl,by rw[bL],by rw[e];omega,List.take_left' rfl⟩) (h.JJ i hi (.inr ⟨q,rows++src,by rw[e],by simp only[aM,if_true],apU _,aqO⟩) (λp hp=>by cases hp;exact .inl rfl) λp _ hp=>?_);rw[aM,aC (hp q rfl)];rw[h3];have x:q≠o:=by rintro rfl;rw[h1]at l;cases l
 refine u _ _ (.inr ⟨q,rs,rfl,by rw[aM,aC x];exact h1,h2,h3⟩) (h.JJ i hi (.inr ⟨o,rows++src,by rw[e],by simp only[aM,if_true],apU _,aqO⟩) (λp hp=>by cases hp;exact .inr l) λp w hp=>?_);obtain⟨f1,f2⟩:=h.fresh l;have F:p≠o:=by rintro rfl;exact w.elim f1 f2
 rw[aM,aC F]
end
abbrev qI(l:List (List UInt8)):P2_:=l.map λs=>[PV.str s]
def GR:List (List UInt8)->List UInt8->Nat->Int
 |[],_,_=>-1
 |x::t,s,i=>if x==s then(i:Int)else GR t s (i+1)
theorem Bh(s:List UInt8):∀(l:List (List UInt8)) (i:Nat),decide (GR l s i<0)=!l.contains s
 |[],i=>rfl
 |x::t,i=>by rw[GR,List.contains_cons,BEq.comm (a:=s)];by_cases h:(x==s)=true;rw[aE h,h,Bool.true_or,bG Om];rfl;rw[aC h,Bh s t (i+1)];simp only[Bool.not_eq_true]at h;rw[h,Bool.false_or]
theorem Sv(l:List (List UInt8))(y:Z' l<=1000000)(s:List UInt8):ao.wp C (aW p9.res (aL (.j (GR l s 0)))) (g_ [.sl 1 (qI l),.str s]) .nil:=by
 simp only[go_sem,ao,p9];refine wp_loop (α:=Nat) (λk=>(((n_.set 0 (.sl 1 (qI l))).set 1 (.str s)).set 5 (.j k))) (λ_=>.nil) (λk=>k<=Z' l/\GR l s 0=GR (l.drop k) s k) (λk=>Z' l-k) 0 ⟨apR _,rfl⟩ Lq a_ ?_;rintro k ⟨x,i⟩;simp only[go_sem,apP];by_cases hlt:k<Z' l
 ·have e:(k:Int)<(Z' l:Nat):=Om;have u:(qI l)[k]?=some [.str l[k]]:=by simp[hlt]
  rw[asI hlt,GR]at i;cases w:l[k]==s with
  |true =>rw[w,aE rfl]at i;simp only[go_sem,e,u,w];refine eD ?_;rw[bO,i]
  |false =>rw[w,aC aT]at i;simp only[go_sem,e,u,w,wZz k];exact aF (k+1) ⟨hlt,i⟩ Om Lq b_
 have e:¬(k:Int)<(Z' l:Nat):=Om;have:k=Z' l:=Om;subst this;rw[List.drop_length,GR]at i;simp only[go_sem,e];refine eD ?_;rw[bO,i]
structure qg(C:Ctx):Prop extends qf C where
 name:∀s:List UInt8,aJ C 62 [.str s] .nil (aL (.bool (isName s)))
 index:∀(l:List (List UInt8)),Z' l<=1000000->∀s:List UInt8,aJ C 71 [.sl 1 (qI l),.str s] .nil (aL (.int .i64 (GR l s 0)))
def lG(l:List (List UInt8))(s:List UInt8):Bool:=isName s&&!l.contains s
def im(l:List (List UInt8))(s:List UInt8)(r:PV)(B:List BX)(L:List LI):Prop:=∃e,r=.tup [e,.bool (lG l s)]/\B=[]/\L=[(e,1,qI (l++[s]))]
theorem Su(L:qg C)(l:List (List UInt8))(U:Z' l<=1000000)(s:List UInt8)(w:PV)(H:PH)(R:aO H [] [(w,1,qI l)]) :
  an.wp C (aW p8.res (λr H'=>∃B' L',im l s r B' L'/\aO H' B' L')) (g_ [w,.str s]) H:=by
 have y:=L.index l U s;have K:=L.name s;have u:=Bh s l 0;have J:(1:Nat)*1<=16777216:=by decide
 have fin:∀(F:PF)(H':PH)(i:PV)(b:Bool),F 4=some i->F 5=some (.bool b)->b=lG l s->aO H' [] [(i,1,qI (l++[s]))]->aW [.tmp 4,.tmp 5] (λr H'=>∃B' L',im l s r B' L'/\aO H' B' L') .ret F H':=λF H' i b N O e E=>
  bK (vs:=[i,.bool b]) (.inr rfl) H' (by simp only[go_sem,N,O]) b_ ⟨[],_,⟨i,by rw[e];rfl,rfl,rfl⟩,E⟩
 simp only[go_sem,an,p8,J];refine R.Jb 0 (src:=[[.str s]]) rfl rfl (by unfold roomFor;rw[apP];simp only[aqH,maxLen];omega) λi H' S E=>?_;have x:aO H' [] [(i,1,qI (l++[s]))]:=by
  have e:qI (l++[s])=qI l++[[.str s]]:=by simp[qI]
  rw[e];exact E
 refine aD K rfl ?_;cases M:isName s with
 |false =>simp only[go_sem];exact fin _ _ i false rfl rfl (by unfold lG;rw[M,aqD]) x
 |true=>
  have A:lG l s=!l.contains s:=by unfold lG;rw[M,aqL]
  rcases S with⟨V,rfl⟩|⟨q,rs,rfl,q1,q2,q3⟩
  simp only[go_sem];rw[V]at y;have D:aJ C 71 [.aG,.str s] .nil (aL (.j (GR l s 0))):=y.args (.cons (.nil 1) (.cons (.refl _) .nil));refine aD D rfl ?_;simp only[go_sem,u];exact fin _ _ i _ rfl rfl A.symm x;simp only[go_sem];refine Ge (vs:=[.osl q 1 0 (qI l).length,.str s]) (.int .i64 (GR l s 0)) ?_ q1 Sq ?_;rw[aqQ,aqQ,arL,AK q2,q3];exact y;simp only[go_sem,u];exact fin _ _ i _ rfl rfl A.symm x
theorem Ro{x:RF}(h:dO x=true):decide (xC x>0)=bR x:=by
 have i:=vN h;unfold dO DB at h;rw[show fT (val x.num) (val x.den)=true from i,aE rfl,cv i]at h;unfold xC bR;by_cases e:val x.num=0;simp[e];have hq:val x.num/apS (val x.num) (val x.den)≠0:=by have:=Nat.div_pos (Nat.gcd_le_left (val x.den) (atB e)) (Nat.gcd_pos_of_pos_left _ (atB e));omega
 have l:x.neg=false:=by unfold qQ at h;simp only[hq,ne_eq,not_false_eq_true,decide_true,arY,apT]at h;simpa using h.1
 rw[aC e,l];simp[e]
structure ze(l:cS):Prop where
 exit:∀x∈l.exit,dO x=true
 row:∀r∈l.aoH,∀x∈r,dO x=true
structure vC(C:Ctx):Prop extends qg C where
 fresh:∀(l:List (List UInt8)),Z' l<=1000000->∀(s:List UInt8)(w:PV)(H:PH),aO H [] [(w,1,qI l)]->aJ C 70 [w,.str s] H (λr H'=>∃B' L',im l s r B' L'/\aO H' B' L')
theorem vC.pos(L:vC C){x:RF}(e:x.Ok)(h:dO x=true):∃n:Int,aJ C 54 [.agg x.cells] .nil (aL (.j n))/\decide (n>0)=bR x:=⟨_,L.sign x e (vN h),Ro h⟩
def zlF(l:cS)(o r i:Nat):PF:=(((((n_.set 1 (.aU l.cells)).set 3 (.int .i64 (Z' l.exit:Nat))).set 7 (.osl o 1 0 l.exit.length)).set 8 (.int .i64 r)).set 9 (.int .i64 i))
theorem X2(L:vC C)(l:cS)(o r i:Nat)(row:List RF)(V:(l.aoH.map λr=>[frs r])[i]?=some [frs row])(N:oU row)(M:∀x∈row,dO x=true)(Z:Z' row=Z' l.exit)(hi:i<Z' l.exit)(hn:Z' l.exit<=4)(u:List Bool)(hR:Z' u=Z' l.exit)(K:bT)[Up K](F:PF)(H:PH)
  (S:((zlF l o r i).set 10 (.j 0)).le F) (O:(kH o u).le H)
  (Y:K (.exit 6) (zlF l o r i) (kH o (dB u i row row.length))):aI.wp C (.loop RA) K F H:=by
 refine wp_loop (α:=Nat) (λk=>(zlF l o r i).set 10 (.j k)) (λk=>kH o (dB u i row k)) (λk=>k<=Z' row) (λk=>Z' row-k) 0 (apR _) S O ?_;intro k hk;have X:=zT u i row k;have D:∀h:k<Z' row,dB u i row (k+1)=(dB u i row k).set i ((dB u i row k).getD i false||bR row[k]&&(dB u i row k).getD k false):=λh=>by simp only[dB,apY,aqE,apZ h,aqK,arT]
 have fin:∀(b:Bool)(F:PF)(H:PH),k<Z' row->dE (dB u i row (k+1))=(dE (dB u i row k)).set i [.bool b]->((zlF l o r i).set 10 (.j (k+1:Nat))).le F->H o=some (.rows 1 ((dE (dB u i row k)).set i [.bool b])) ->
   fK (λk:Nat=>(zlF l o r i).set 10 (.j k)) (λk=>kH o (dB u i row k)) (λk=>k<=Z' row) (λk=>Z' row-k) (Z' row-k) K .normal F H:=by
  intro b F H hlt hb S O;refine aF (k+1) hlt Om S ?_;rw[<-hb]at O;exact c_ a_ O
 unfold zlF kH at fin;simp only[go_sem,RA,zlF,kH];by_cases hlt:k<Z' row
 ·have e:(k:Int)<(Z' l.exit:Nat):=Om;have B:(i:Int)<(Z' l.exit:Nat):=Om;have y:=qM (R:=dB u i row k) (i:=i) Om;have E:=qM (R:=dB u i row k) (i:=k) Om;have w:=D hlt;obtain⟨n,W,J⟩:=L.pos (N.all _ (apW hlt)).ok (M _ (apW hlt));have U:=jy hlt;generalize hb:(dB u i row k).getD i false=b at *
  generalize hc:(dB u i row k).getD k false=c at *
  generalize hA:bR row[k]=A at *
  cases b with
  |true =>simp only[go_sem,e,B,aqA,y,wZz k];exact fin true _ _ hlt (by rw[w,kD,Bool.true_or]) Lq Sq
  |false=>
   simp only[go_sem,e,B,aqA,y,V,U];refine aD W Sq ?_;cases A with
   |false =>simp only[go_sem,J,B,e,aqA,y,E,wZz k];exact fin false _ _ hlt (by rw[w,kD,Bool.false_or,aqD]) Lq Sq
   |true =>simp only[go_sem,J,B,e,aqA,y,E,wZz k];exact fin c _ _ hlt (by rw[w,kD,Bool.false_or,aqL]) Lq Sq
 have e:¬(k:Int)<(Z' l.exit:Nat):=Om;have:k=Z' row:=Om;subst this;simp only[go_sem,e];refine Up.up ?_ Y
 (repeat' (first|exact d_|refine e_ ?_ ?_))<;>first|(simp only[go_sem,zlF]<;>rfl)|rfl
theorem X4(L:vC C)(l:cS)(U:l.Ok)(he:HY l)(W:ze l)(o r:Nat)(R:List Bool)(hR:Z' R=Z' l.exit)(K:bT)[Up K](F:PF)(H:PH)
  (M:(zlF l o r 0).le F) (N:(kH o R).le H)
  (Y:K (.exit 4) (zlF l o r l.exit.length) (kH o (dT l R l.exit.length))):aI.wp C (.loop ib) K F H:=by
 refine wp_loop (α:=Nat) (λi=>zlF l o r i) (λi=>kH o (dT l R i)) (λi=>i<=Z' l.exit) (λi=>Z' l.exit-i) 0 (apR _) M N ?_;intro i hi;have V:=vX l R i;have Z:=he.n;simp only[go_sem,ib,zlF,kH];by_cases hlt:i<Z' l.exit
 ·have e:(i:Int)<(Z' l.exit:Nat):=Om;have w:i<Z' l.aoH:=by rw[he.aoH];exact hlt
  have y:=qM (R:=dT l R i) (i:=i) Om;have hx:=jy hlt;have E:(l.aoH.map λr=>[frs r])[i]?=some [frs l.aoH[i]]:=by simp[w]
  have O:(l.aoH[i]).length=Z' l.exit:=he.row _ (apW w);generalize x:(dT l R i).set i ((dT l R i).getD i false||bR l.exit[i])=J;have B:Z' J=Z' l.exit:=by rw[<-x,arD];omega
  have A:dT l R (i+1)=dB J i l.aoH[i] (l.aoH[i]).length:=by
   simp only[dT,nL];have X:(l.exit.map bR).getD i false=bR l.exit[i]:=by simp[apY,hlt]
   have e2:l.aoH.getD i []=l.aoH[i]:=by simp[apY,w]
   rw[X,e2,x]
  obtain⟨n,S,D⟩:=L.pos (U.exit.all _ (apW hlt)).ok (W.exit _ (apW hlt));have rest:∀(F:PF)(H:PH),(zlF l o r i).le F->H o=some (.rows 1 (dE J)) ->
    aI.wp C (.seq (.region ig) (.block 6 (.loop RA))) (fE 5 (gH C (aI.wp C (.region ii)) (fK (λi:Nat=>zlF l o r i) (λi=>kH o (dT l R i)) (λi=>i<=Z' l.exit) (λi=>Z' l.exit-i) (Z' l.exit-i) K))) F H:=by
   intro F H M N;refine mA _ (λ_ _ _ _ a b=>Up.up a b) M ?_;simp only[go_sem,ig];refine X2 L l o r i l.aoH[i] E (U.row _ (apW w)) (W.row _ (apW w)) O hlt Z J B _ _ _ (by(repeat' (first|exact d_|refine e_ ?_ ?_))<;>first|(simp only[go_sem,zlF]<;>rfl)|rfl) (c_ a_ N) ?_;simp only[go_sem,zlF,ii,wZz i];exact aF (i+1) hlt Om Lq (by rw[A];exact b_)
  simp only[zlF,kH]at rest;have u:=rest;simp only[aI.wp,go_sem]at u;generalize hb:(dT l R i).getD i false=b at *
  cases b with
  |true =>simp only[go_sem,e,e,aqA,y];refine u _ _ Lq ?_;rw[<-x];simp only[go_sem,kD,Bool.true_or]
  |false =>simp only[go_sem,e,e,aqA,y,hx];refine aD S Sq ?_;simp only[go_sem,e,aqA,y,D];refine u _ _ Lq ?_;rw[<-x];simp only[go_sem,kD,Bool.false_or]
 have e:¬(i:Int)<(Z' l.exit:Nat):=Om;have:i=Z' l.exit:=Om;subst this;simp only[go_sem,e];exact Up.up (by(repeat' (first|exact d_|refine e_ ?_ ?_))<;>first|(simp only[go_sem,zlF]<;>rfl)|rfl) Y
theorem X3(L:vC C)(l:cS)(y:l.Ok)(he:HY l)(A:ze l)(o:Nat)(K:bT)[Up K](F:PF)(H:PH)
  (u:(((((n_.set 1 (.aU l.cells)).set 3 (.j (Z' l.exit:Nat))).set 7 (.osl o 1 0 l.exit.length)).set 8 (.j 0)):PF).le F) (w:(kH o (dV l 0)).le H)
  (x:K (.exit 2) (((n_.set 3 (.j (Z' l.exit:Nat))).set 7 (.osl o 1 0 l.exit.length))) (kH o (dV l l.exit.length))):aI.wp C (.loop ic) K F H:=by
 have B:=he.n;refine wp_loop (α:=Nat) (λr=>((((n_.set 1 (.aU l.cells)).set 3 (.j (Z' l.exit:Nat))).set 7 (.osl o 1 0 l.exit.length)).set 8 (.j r))) (λr=>kH o (dV l r)) (λr=>r<=Z' l.exit) (λr=>Z' l.exit-r) 0 (apR _) u w ?_;intro r D;have i:=vW l r;simp only[go_sem,ic];by_cases hlt:r<Z' l.exit;have e:(r:Int)<(Z' l.exit:Nat):=Om;simp only[go_sem,e];refine X4 L l y he A o r (dV l r) i _ _ _ (by(repeat' (first|exact d_|refine e_ ?_ ?_))<;>first|(simp only[go_sem,zlF]<;>rfl)|rfl) b_ ?_;simp only[go_sem,zlF,wZz r];exact aF (r+1) hlt Om Lq b_;have e:¬(r:Int)<(Z' l.exit:Nat):=Om;have:r=Z' l.exit:=Om;subst this;simp only[go_sem,e];exact Up.up Lq x
theorem afZ(R:List Bool)(J:Z' R<=4)(o:Nat)(X:Bool)(D:X=R.all id)(Q:R_)(B:Q=aL (.bool X))(F:PF)(H:PH)
  (y:((((n_.set 3 (.j (Z' R:Nat))).set 7 (.osl o 1 0 R.length)).set 11 (.j 0)):PF).le F) (A:(kH o R).le H):aI.wp C (.loop ie) (fE 8 (gH C (aI.wp C (.seq (.region ij) .ret)) (aW [.tmp 2] Q))) F H:=by
 subst D B;refine wp_loop (α:=Nat) (λk=>(((n_.set 3 (.j (Z' R:Nat))).set 7 (.osl o 1 0 R.length)).set 11 (.j k))) (λ_=>kH o R) (λk=>k<=Z' R/\(R.take k).all id=true) (λk=>Z' R-k) 0 ⟨apR _,rfl⟩ y A ?_;rintro k ⟨K,w⟩;simp only[go_sem,ie,kH];by_cases hlt:k<Z' R
 ·have e:(k:Int)<(Z' R:Nat):=Om;have l:=qM (R:=R) (i:=k) hlt;have E:R.getD k false=R[k]:=by simp[apY,hlt]
  rw[E]at l;cases u:R[k]with
  |false =>rw[u]at l;simp only[go_sem,e,aqA,l,aqI];refine cR (.inr rfl) Ev ?_;rw[bO,tX hlt (p:=id) u]
  |true =>rw[u]at l;have x:=tW hlt w (p:=id) u;simp only[go_sem,e,aqA,l,aqC,wZz k];exact aF (k+1) ⟨hlt,by simpa using aqM.1 x⟩ Om Lq b_
 have e:¬(k:Int)<(Z' R:Nat):=Om;have:k=Z' R:=Om;subst this;rw[aqO]at w;simp only[go_sem,e,ij];refine cR (.inr rfl) Ev ?_;rw[bO,w]
def Marks(R S:List Bool):Prop:=Z' R=Z' S/\∀j:Nat,R[j]?=some true->S[j]?=some true
theorem Marks.afA(R:List Bool):Marks R R:=⟨rfl,λ_ h=>h⟩
theorem Marks.trans{R S T:List Bool}(h:Marks R S)(k:Marks S T):Marks R T:=⟨h.1.trans k.1,λj a=>k.2 j (h.2 j a)⟩
theorem B6(R:List Bool)(i:Nat)(b:Bool):Marks R (R.set i (R.getD i false||b)):=by
 refine⟨by rw[arD],λj h=>?_⟩;rw[asX];obtain⟨l,he⟩:=aqU.1 h;split;rename_i e;subst e;rw[aE l,apY,h];rfl;exact h
theorem ul(R:List Bool)(i:Nat)(row:List RF):∀k,Marks R (dB R i row k)
 |0=>Marks.afA R
 |k+1=>(ul R i row k).trans (B6 _ _ _)
theorem KC(l:cS)(R:List Bool):∀i,Marks R (dT l R i)
 |0=>Marks.afA R
 |i+1=>(KC l R i).trans ((B6 _ _ _).trans (ul _ _ _ _))
theorem B7:∀{R S:List Bool},Marks R S->R≠S->R.count true<S.count true
 |[],[],_,h=>absurd rfl h
 |[],_::_,h,_=>by have:=h.1;simp at this
 |_::_,[],h,_=>by have:=h.1;simp at this
 |a::R,b::S,h,i=>by
  have l:a=true->b=true:=λe=>by have:=h.2 0 (by rw[e];rfl);simpa using this
  have w:Marks R S:=⟨by have:=h.1;simpa using this,λj u=>by have:=h.2 (j+1) (by simpa using u);simpa using this⟩;by_cases e:R=S;subst e;have:a≠b:=λe=>i (by rw[e]);cases a<;>cases b<;>simp at this l ⊢;have:=B7 w e;cases a<;>cases b<;>simp at l ⊢<;>omega
theorem jl:∀{R:List Bool},Z' R<=R.count true->R.all id=true
 |[],_=>rfl
 |a::R,h=>by
  have e:=List.count_le_length (a:=true) (l:=R);cases a with
  |true =>simp only[List.count_cons_self,aqV]at h;simp only[atS,id,aqL];exact jl Om
  |false =>simp at h;omega
theorem PI(l:cS){s:Nat}(h:dV l (s+1)=dV l s):∀d,dV l (s+d)=dV l s
 |0=>rfl
 |d+1=>by show dT l (dV l (s+d)) l.exit.length=_;rw[PI l h d];exact h
theorem mh(l:cS):∀r,(∃s,s<r/\dV l (s+1)=dV l s)\/r<=(dV l r).count true
 |0=>.inr (apR _)
 |r+1=>by
  rcases mh l r with⟨s,u,i⟩|h
  exact .inl ⟨s,by omega,i⟩;by_cases e:dV l (r+1)=dV l r;exact .inl ⟨r,by omega,e⟩;have:=B7 (KC l (dV l r) l.exit.length) (λh=>e h.symm);exact .inr (by show r+1<=(dT l (dV l r) l.exit.length).count true;omega)
theorem Zj(l:cS):vI l=(dV l l.exit.length).all id:=by
 unfold vI;rcases mh l l.exit.length with⟨s,D,i⟩|h
 obtain⟨d,A⟩:∃d,Z' l.exit=s+d:=⟨Z' l.exit-s,by omega⟩;rw[show l.exit.length+1=s+(d+1) by omega,A,PI l i,PI l i];have u:(dV l l.exit.length).all id=true:=jl (by rw[vW];exact h);have y:Marks (dV l l.exit.length) (dV l (Z' l.exit+1)):=KC l (dV l l.exit.length) l.exit.length;rw[u,aqM];intro x B;obtain⟨j,w,rfl⟩:=arF B;have e:j<(dV l l.exit.length).length:=by rw[y.1];exact w
 have:=y.2 j (by rw[apZ e];have:=aqM.1 u _ (apW e);simpa using this);rw[apZ w]at this;simpa using this
def zsS(s:Bool):Spec:=λname vs=>match name,vs with
 |47,_=>some ([],λ_=>aL (.agg (mkT 1 1).cells))
 |53,_=>some ([],λ_=>aL (.bool s))
 |_,_=>none
theorem Ut(l:cS):mQ l=(within l.start.length 1 4&&((decide ((Z' l.start:Int)=Z' l.start)&&l.start.all dO)&&((decide ((Z' l.exit:Int)=Z' l.start)&&l.exit.all dO)&&(decide (Z' l.aoH=Z' l.start)&&((apQ l.aoH.length).all (xS l)&&(KF l&&vI l)))))):=by
 rw[Hc,aZ (rfl:(Z' l.start:Int)=Z' l.start),aqL];have:decide (Z' l.exit=Z' l.start)=decide ((Z' l.exit:Int)=Z' l.start):=decide_eq_decide.2 Om;rw[this];cases within l.start.length 1 4<;>cases decide ((Z' l.exit:Int)=Z' l.start)<;>cases decide (Z' l.aoH=Z' l.start)<;>cases l.start.all dO<;>cases l.exit.all dO<;>simp[atG]
theorem Dg(l:cS){i:Nat}(h:i<Z' l.aoH):xS l i=((decide (((l.aoH[i]).length:Int)=Z' l.start)&&(l.aoH[i]).all dO)&&!((l.aoH[i]).map bR).getD i false):=by
 unfold xS;have:l.aoH.getD i []=l.aoH[i]:=by simp[apY,h]
 rw[this];have:decide ((l.aoH[i]).length=Z' l.start)=decide (((l.aoH[i]).length:Int)=Z' l.start):=decide_eq_decide.2 Om;rw[this]
theorem acU(L:vC C)(l:cS)(M:l.Ok):wu.wp C (aW kC.res (aL (.bool (mQ l)))) (g_ [.agg l.cells]) .nil:=by
 have u:=Ut l;have fail:∀(F:PF)(H:PH),mQ l=false->F 2=some (.bool false)->aW [.tmp 2] (aL (.bool (mQ l))) .ret F H:=λF H e h=>by rw[e];exact bK (vs:=[.bool false]) (.inr rfl) .nil (by simp only[go_sem,h]) a_ ⟨rfl,rfl⟩
 have e1:=L.smalls l.start ⟨M.start.fits,M.start.all⟩ l.start.length;have e2:=L.smalls l.exit M.exit l.start.length;simp only[go_sem,wu,kC,apP];by_cases c1:(Z' l.start:Int)<1
 ·simp only[go_sem,c1];exact fail _ _ (by rw[u,show within l.start.length 1 4=false from by unfold within;rw[bG Om,aqD],aqD]) Sq
 by_cases c2:(Z' l.start:Int)>4
 ·simp only[go_sem,c1,c2];exact fail _ _ (by rw[u,show within l.start.length 1 4=false from by unfold within;rw[bG (Om:¬(Z' l.start:Int)<=4),arE],aqD]) Sq
 rw[show within l.start.length 1 4=true from by unfold within;rw[aZ (Om:(1:Int)<=(Z' l.start:Nat)),aZ (Om:(Z' l.start:Int)<=4)];rfl,aqL]at u;simp only[go_sem,c1,c2];refine aD e1 Sq ?_;cases k1:(decide ((Z' l.start:Int)=Z' l.start)&&l.start.all dO)with
 |false =>rw[k1,aqD]at u;simp only[go_sem,aqI];exact fail _ _ u Sq
 |true=>
 rw[k1,aqL]at u;simp only[go_sem,aqC];refine aD e2 Sq ?_;cases k2:(decide ((Z' l.exit:Int)=Z' l.start)&&l.exit.all dO)with
 |false =>rw[k2,aqD]at u;simp only[go_sem,aqI];exact fail _ _ u Sq
 |true=>
 rw[k2,aqL]at u;rw[apT,dT_]at k2;have D:Z' l.exit=Z' l.start:=Om;have R:=aqM.1 k2.2;by_cases c3:Z' l.aoH=Z' l.start
 case neg =>rw[bG c3,aqD]at u;simp only[go_sem,aqC,apP,cX (Om:(Z' l.aoH:Int)≠(Z' l.start:Nat))];exact fail _ _ u Sq
 rw[aZ c3,aqL]at u;simp only[go_sem,aqC,apP,bW (Om:(Z' l.aoH:Int)=(Z' l.start:Nat))];refine wp_loop (α:=Nat) (λi=>(((n_.set 1 (.aU l.cells)).set 3 (.j (Z' l.start:Nat))).set 4 (.j i))) (λ_=>.nil) (λi=>i<=Z' l.start/\∀j,j<i->xS l j=true) (λi=>Z' l.start-i) 0 ⟨apR _,λj h=>by omega⟩ Lq a_ ?_;rintro i ⟨hi,y⟩;simp only[go_sem];by_cases hlt:i<Z' l.start
 ·have A:(i:Int)<(Z' l.start:Nat):=Om;have B:i<Z' l.aoH:=Om;have J:(l.aoH.map λr=>[frs r])[i]?=some [frs l.aoH[i]]:=by simp[B]
  have X:=M.row _ (apW B);have e3:=L.smalls l.aoH[i] X l.start.length;have w:=Dg l B;have bad:xS l i=false->mQ l=false:=λh=>by rw[u,show(apQ l.aoH.length).all (xS l)=false from List.all_eq_false.2 ⟨i,aqN.2 B,by simp[h]⟩,aqD]
  simp only[go_sem,A,J];refine aD e3 Sq ?_;cases k3:(decide (((l.aoH[i]).length:Int)=Z' l.start)&&(l.aoH[i]).all dO)with
  |false =>rw[k3,aqD]at w;simp only[go_sem,aqI];exact fail _ _ (bad w) Sq
  |true=>
   rw[k3,aqL]at w;rw[apT,dT_]at k3;have ι:(l.aoH[i]).length=Z' l.start:=Om;have K:i<(l.aoH[i]).length:=Om;have hm:=apW K;have hs:=L.sign _ (X.all _ hm).ok (vN (aqM.1 k3.2 _ hm));have hz:=PX (l.aoH[i])[i];have hg:((l.aoH[i]).map bR).getD i false=bR (l.aoH[i])[i]:=by simp[apY,K]
   rw[hg]at w;have E:(xC (l.aoH[i])[i] != 0)=bR (l.aoH[i])[i]:=by rw[bne,hz,Bool.not_not]
   simp only[go_sem,aqC,J,jy K];refine aD hs Sq ?_;cases k4:bR (l.aoH[i])[i]with
   |true =>rw[k4]at w E;simp only[go_sem,E];exact fail _ _ (bad w) Sq
   |false=>
    rw[k4]at w E;simp only[go_sem,E,wZz i];exact aF (i+1) ⟨hlt,λj hj=>by
     by_cases e:j=i
     ·rw[e];exact w
     ·exact y j Om⟩ Om Lq b_
 ·have A:¬(i:Int)<(Z' l.start:Nat):=Om;have:i=Z' l.start:=Om;subst this;have N:(apQ l.aoH.length).all (xS l)=true:=aqM.2 λj hj=>y j (by rw[<-c3];exact aqN.1 hj);rw[N,aqL]at u;have Z:∀r∈l.aoH,Z' r=Z' l.start/\∀x∈r,dO x=true:=λr W=>by obtain⟨j,hj,rfl⟩:=arF W;have h:=y j Om;rw[Dg l hj,apT,apT,dT_]at h;exact⟨by omega,aqM.1 h.1.2⟩
  have V:ze l:=⟨R,λr W=>(Z r W).2⟩;have U:HY l:=⟨by omega,by omega,λr W=>by rw[(Z r W).1,D]⟩;have β:=L.sum l.start (λx hx=>(M.start.all x hx).ok) M.start.fits;simp only[go_sem,A];refine aD β Sq ?_;cases S:AA (l.start.map RF.v)with
  |error e=>
   have ε:=W0 S;have:KF l=false:=by unfold KF;rw[S]
   rw[this,aqD]at u;simp only[go_sem,frV];refine aQ λo ho=>?_;simp only[go_sem];refine bE .nil cO a_ ?_;simp only[go_sem,cX ε];exact fail _ _ u Sq
  |ok r=>
   have Y:=abY S;have η:=Mj S;obtain⟨n,a,b⟩:=r;have h1:eK 1:=by unfold eK;omega
   have O:=L.same (FV.rf (n,a,b)) (mkT 1 1) Y (LX 1 h1).1 (by unfold RF.valid FV.rf;simp only[bZ];exact η) (LX 1 h1).2;have hP:KF l=(uO (FV.rf (n,a,b)) (mkT 1 1)==0):=by unfold KF;rw[S,LY];unfold uO FV.rf;simp only[bZ,show(1:Int).natAbs=1 from rfl,show decide ((1:Int)<0)=false from rfl];by_cases h:CZ n a b false 1 1=0<;>simp[h]
   simp only[go_sem,frV];refine aQ λo ho=>?_;have hH:aO (h_.set o (.rows 3 [(FV.rf (n,a,b)).cells])) [(o,.rows 3 [(FV.rf (n,a,b)).cells])] []:=aO.nil.new (H:=h_) rfl _;simp only[go_sem];refine bE (h_.set o (.rows 3 [(FV.rf (n,a,b)).cells])) (zsS (uO (FV.rf (n,a,b)) (mkT 1 1)==0)) b_ ?_;simp only[go_sem,bW (show(0:Int)=0 from rfl)];refine cM rfl (L.int 1 h1) Sq b_ ?_;simp only[go_sem];refine cM rfl O Sq b_ ?_;rw[<-hP];cases hp:KF l with
   |false =>rw[hp,aqD]at u;simp only[go_sem,aqI];exact fail _ _ u Sq
   |true=>
    rw[hp,aqL,Zj]at u;have γ:(Z' l.start:Int)*((1:Nat):Int)<=140737488355328:=Om;have δ:(Z' l.start:Int)<=9223372036854775807:=Om;simp only[go_sem,aqC,γ,δ];refine aQ λq hq=>?_;simp only[go_sem];have θ:apX l.start.length [PV.bool false]=dE (dV l 0):=by rw[<-D];simp[dV,dE]
    rw[<-D];refine X3 L l M U V q _ _ _ Lq ?_ ?_
    ·refine c_ a_ ?_;rw[bL,D,θ]
    simp only[go_sem];have ζ:(dV l l.exit.length).length<=4:=by rw[vW];omega
    refine afZ (dV l l.exit.length) ζ q (mQ l) u _ rfl _ _ ?_ b_;rw[vW];exact Lq
structure xY(C:Ctx):Prop extends vC C where
 law:∀l:cS,l.Ok->aJ C 68 [.agg l.cells] .nil (aL (.bool (mQ l)))
def okL(base ns:List (List UInt8))(P:Nat->Bool)(i:Nat):Bool:=lG (base++ns.take i) (ns.getD i [])&&P i
theorem xE{p:Nat->Bool}(k:Nat)(b:Bool):(b&&(apQ (k+1)).all p)=((b&&(apQ k).all p)&&p k):=by
 rw[arV,atQ];cases(apQ k).all p<;>cases b<;>simp
theorem xD{p:Nat->Bool}{b:Bool}{i n:Nat}(hi:i<=n)(h:(b&&(apQ i).all p)=false):(b&&(apQ n).all p)=false:=by
 cases b with
 |false=>rfl
 |true =>rw[aqL]at h ⊢;obtain⟨x,e,hp⟩:=List.all_eq_false.1 h;exact List.all_eq_false.2 ⟨x,aqN.2 (by have:=aqN.1 e;omega),hp⟩
structure kG(H:PH)(w:PV)(base ns:List (List UInt8))(c:Bool)(i:Nat):Prop where
 ex:∃names,aO H [] [(w,1,qI names)]/\(c=true->names=base++ns.take i)
section
variable {C:Ctx} {F:PF} {H:PH} {d:O_} {K:K_}
theorem kG.call(L:vC C){w:PV}{base ns:List (List UInt8)}{i:Nat}{B:List BX}{e:List (List UInt8)}(h:aO H B [(w,1,qI e)])(N:Z' base<=1000)(hi:i<=1000)(A:e=base++ns.take i)(u:i<Z' ns){a b:Nat}(l:aP.evs F [.tmp a,.tmp b]=some [w,.str ns[i]])
  (E:∀x H',aO H' B [(x,1,qI (e++[ns[i]]))]->kG H' x base ns true (i+1)->K (F.put d (.tup [x,.bool (lG (base++ns.take i) (ns.getD i []))])) H'):jX C 70 [.tmp a,.tmp b] [] d K F H:=by
 refine KW (B1:=[]) (B2:=B) (L1:=[(w,1,qI e)]) (L2:=[]) (Q:=im e ns[i]) h (λJ M=>L.fresh e (by rw[A,apV,aqF];omega) ns[i] w J M) l ?_;rintro r B' L' H' ⟨x,rfl,rfl,rfl⟩ D;have y:ns.getD i []=ns[i]:=by simp[apY,u]
 rw[y,<-A]at E;refine E x H' D ⟨e++[ns[i]],D.sub (List.nil_sublist _) (asF.refl _),λ_=>?_⟩;rw[arB u,<-aqT,A]
end
theorem kG.s7{H:PH}{w:PV}{base ns:List (List UInt8)}{c:Bool}{i:Nat}(h:kG H w base ns true i):kG H w base ns c i:=by
 obtain⟨e,l,u⟩:=h.ex;exact⟨e,l,λ_=>u rfl⟩
def NZ(f:aB):Bool:=(apQ f.aoK.length).all (okL [] (f.aoK.map cS.name) λi=>(f.aoK.map mQ).getD i false)
theorem acX(L:xY C)(f:aB)(Z:f.Ok)(hs:Z' f.aoK<=4)(K:bT)[Up K](F:PF)(H:PH)
  (X:(((((((((n_.set 1 (.aU f.cells)).set 3 (.aG)).set 4 (.aG)).set 5 (.aG)).set 6 (.aG)).set 7 (.aG)).set 8 (.bool true)).set 9 (.j 0)):PF).le F)
  (R:∀H',K (.exit 0) (((((((n_.set 1 (.aU f.cells)).set 4 (.aG)).set 5 (.aG)).set 6 (.aG)).set 7 (.aG)).set 8 (.bool (NZ f)))) H'):aI.wp C (.loop RC) K F H:=by
 obtain⟨ok,E⟩:∃ok,okL [] (f.aoK.map cS.name) (λi=>(f.aoK.map mQ).getD i false)=ok:=⟨_,rfl⟩;unfold NZ at R;rw[E]at R;refine wp_loop (α:=T3_) (λs=>((((((((n_.set 1 (.aU f.cells)).set 3 (s.2.1)).set 4 (.aG)).set 5 (.aG)).set 6 (.aG)).set 7 (.aG)).set 8 (.bool (true&&(apQ s.1).all ok))).set 9 (.j s.1))) (λs=>s.2.2) (λs=>s.1<=Z' f.aoK/\kG s.2.2 s.2.1 [] (f.aoK.map cS.name) (true&&(apQ s.1).all ok) s.1) (λs=>Z' f.aoK-s.1)
  (0,.aG,H) ⟨apR _,⟨[],aO.nil.oF 1,λ_=>rfl⟩⟩ X b_ ?_
 rintro⟨i,w,V⟩ ⟨hi,W⟩;simp only at hi W ⊢;have fin:∀(b:Bool)(y:PV)(M:PF)(H':PH),i<Z' f.aoK->(true&&(apQ (i+1)).all ok)=b->kG H' y [] (f.aoK.map cS.name) true (i+1) ->
   (((((((((n_.set 1 (.aU f.cells)).set 3 (y)).set 4 (.aG)).set 5 (.aG)).set 6 (.aG)).set 7 (.aG)).set 8 (.bool b)).set 9 (.j (i+1:Nat))):PF).le M ->
   fK (λs:T3_=>((((((((n_.set 1 (.aU f.cells)).set 3 (s.2.1)).set 4 (.aG)).set 5 (.aG)).set 6 (.aG)).set 7 (.aG)).set 8 (.bool (true&&(apQ s.1).all ok))).set 9 (.j s.1))) (λs=>s.2.2) (λs=>s.1<=Z' f.aoK/\kG s.2.2 s.2.1 [] (f.aoK.map cS.name) (true&&(apQ s.1).all ok) s.1) (λs=>Z' f.aoK-s.1) (Z' f.aoK-i) K .normal M H':=
  λb y M H' hlt hb O N=>aF (i+1,y,H') ⟨hlt,O.s7⟩ sO_ (by simp only;rw[hb];exact N) b_
 have l:=xE (p:=ok) i true;have x:(true&&(apQ i).all ok)=(true&&(apQ f.aoK.length).all ok)->K (.exit 0) (((((((n_.set 1 (.aU f.cells)).set 4 (.aG)).set 5 (.aG)).set 6 (.aG)).set 7 (.aG)).set 8 (.bool (true&&(apQ i).all ok)))) V:=λe=>by rw[e,aqL];exact R V
 have B:=λh=>xD (p:=ok) (b:=true) hi h;generalize Y:(true&&(apQ i).all ok)=c at *
 simp only[go_sem,RC,apP];by_cases hlt:i<Z' f.aoK
 ·have u:(i:Int)<(Z' f.aoK:Nat):=Om;cases c with
  |false =>simp only[go_sem,u];exact Up.up Lq (x (B rfl).symm)
  |true=>
   obtain⟨U,g1,g3⟩:=W.ex;have D:(f.aoK.map cS.cells)[i]?=some (f.aoK[i]).cells:=by simp[hlt]
   have S:i<(f.aoK.map cS.name).length:=by rw[apP];exact hlt
   have J:ok i=(lG ([]++(f.aoK.map cS.name).take i) ((f.aoK.map cS.name).getD i [])&&mQ f.aoK[i]):=by rw[<-E];unfold okL;simp[apY,hlt]
   have hl:=L.law _ (Z.law _ (apW hlt));rw[J]at l;simp only[go_sem,u,D];refine kG.call L.tovC (ns:=f.aoK.map cS.name) g1 (apR _) Om (g3 rfl) S (by simp only[go_sem,arI]) λy H1 h1 A=>?_;generalize lG ([]++(f.aoK.map cS.name).take i) ((f.aoK.map cS.name).getD i [])=fb at *
   cases fb with
   |false =>simp only[go_sem,wZz i];exact fin false y _ _ hlt (l.trans rfl) A Lq
   |true =>simp only[go_sem,D];refine aD hl rfl ?_;simp only[go_sem,wZz i];exact fin _ y _ _ hlt (l.trans rfl) A Lq
 have u:¬(i:Int)<(Z' f.aoK:Nat):=Om;have:i=Z' f.aoK:=Om;subst this;simp only[go_sem,u];exact Up.up Lq (x Y.symm)
end Go.PM
