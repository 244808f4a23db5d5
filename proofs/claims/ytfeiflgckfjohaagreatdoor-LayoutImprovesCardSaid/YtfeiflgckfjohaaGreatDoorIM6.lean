/-Lemmas for the law. No condition.-/
import Derived.Test.YtfeiflgckfjohaaGreatDoorIM5

set_option linter.unusedSimpArgs false
set_option linter.unusedVariables false
open Nat renaming reduceEqDiff->γ,reduceAdd->δ,reduceSub->ε,reduceMul->ζ,reduceLT->η,reduceLeDiff->θ,reduceBEq->τ
open Int renaming reduceLT->ι,reduceLE->κ,reduceEq->μ,reduceToNat->ν,reduceAdd->ξ,reduceNeg->ο,reduceBEq->ρ,reduceBNe->σ
open List renaming reduceReplicate->υ
open List renaming length_map->asO,range->asP,getElem_mem->asS,replicate->asT,getD_eq_getElem?_getD->asW,length_append->asX,getElem?_eq_getElem->asZ,getElem?_map->atC,length_singleton->atD,length_take->atF,mem_cons->atG,all_eq_true->atI,map_append->atK,take_length->atL,mem_map->atM,take_of_length_le->atP,mem_range->atQ,not_mem_nil->atS,map_cons->atU,append_assoc->atV,take_succ_eq_append_getElem->atW,getElem?_eq_some_iff->atX,length_cons->atZ,append_nil->auA,mem_singleton->auB,mem_append->auC,length_set->auD,getElem?_eq_none->auE,getElem_of_mem->auG,map_nil->auH,getElem_map->auN,getElem?_append_right->auS,getElem?_range->auT,length_drop->auU,range'->auX,mem_of_getElem?->auZ,take_zero->avA,length_nil->avD,drop_eq_getElem_cons->avF,drop_zero->avG,range_succ->avH,ext_getElem->avL,getElem?_append_left->avM,Perm->avN,map_congr_left->avO,map_set->avP,set_append_right->avQ,set_cons_zero->avR,map_map->avT,nodup_append->avU,contains_iff_mem->avX,getElem?_set->avY,cons_append->awD,length->awE,all_append->awG,filter_append->awH,getElem?_take->awI,length_filter_le->awJ,getElem?_drop->awM,mem_cons_of_mem->awN,nil_append->awO,mem_filter->awT,mem_of_mem_take->awU,flatten_cons->awZ,mem_cons_self->axA,mem_or_eq_of_mem_set->axB,eq_nil_of_length_eq_zero->axE,getElem_cons_zero->axF,map_eq_nil_iff->axG,getElem_cons_succ->axH
open Nat renaming zero_le->asQ,gcd->asR,le_refl->asU,zero_add->atA,le_trans->atT,lt_or_ge->atY,add_zero->auI,sub_self->auK,mul_le_mul_right->auO,beq->auR,eq_zero_or_pos->avB,min_eq_left->avJ,succ_mul->avS,mul_le_mul->awV,pow_le_pow_right->awW
open Bool renaming and_eq_true->asV,not_true->asY,false_and->atE,not_false->atH,true_and->atJ,and_false->auF,false_eq_true->auQ,and_true->avK,and_self->avW,and_assoc->awF,or_eq_true->awY
open Option renaming map_eq_some_iff->atB,map_some->atO,getD_some->auV,some->auY
open Int renaming toNat_natCast->auL
open List renaming length->Z'
set_option maxRecDepth 100000
set_option maxHeartbeats 800000
open Go.IntKind renaming i64->i_,u64->u_
open Go.PM.PF renaming nil->n_,args->g_
open Go.PM.PH renaming nil->h_
noncomputable section
namespace Go.Proofs.YtfeiflgckfjohaaGreatDoor
open Go Go.PM
def roL:List (Nat × N_):=[(97,[1]),(101,[1]),(105,[1]),(113,[2,3]),(114,[2,3]),(115,[]),(116,[1]),(117,[]),(118,[1]),(119,[]),(120,[]),(121,[]),(122,[1]),(127,[]),(128,[]),(129,[]),(130,[]),(131,[]),(132,[9]),(133,[]),(134,[]),(135,[]),(136,[]),(137,[]),(138,[]),(139,[]),(140,[]),(141,[]),(142,[]),(143,[]),(150,[3]),(151,[2]),(152,[2]),(154,[3,28,44,74]),(156,[2]),(157,[2]),(158,[3,75,91,134,167]),(160,[3]),(161,[1]),(171,[]),(173,[]),(180,[]),(184,[]),(192,[]),(201,[3,4]),(203,[2]),(205,[2]),(208,[]),(231,[4,6]),(232,[1]),(278,[2,3]),(279,[]),(282,[2]),(283,[3]),(284,[2]),(285,[13]),(286,[2]),(287,[1]),(288,[2,89]),(291,[]),(292,[]),(294,[]),(295,[]),(296,[79]),(297,[]),(298,[1,48,67]),(328,[4]),(330,[4,5]),(333,[3,4,112,145,179]),(335,[]),(336,[]),(337,[1]),(338,[4]),(342,[3,4,37,53,119,142,144,167,191,206]),(343,[]),(344,[]),(345,[]),(346,[]),(348,[1]),(349,[2,3]),(351,[]),(352,[3,20,39]),(353,[3]),(354,[]),(355,[]),(356,[]),(358,[]),(359,[]),(360,[]),(362,[11,23,30,31]),(363,[3,4]),(364,[4,5]),(365,[3,4]),(366,[4,5,7]),(367,[]),(368,[]),(369,[2,62]),(372,[2,3]),(373,[])]
def ahS:List (Nat × N_)->Nat->Option N_
 |[],_=>none
 |(n,l)::t,k=>if auR n k then some l else ahS t k
noncomputable def tab(k:Nat):Option kJ:=match ahS roL k with
 |some l=>match Tryz.prog.funcs[num k]? with
  |some fn=>if fn.name=="runtime.NumGoroutine" then none else(T l).func fn
  |none=>none
 |none=>none
theorem tU(k:Nat)(pf:kJ)(h:tab k=some pf):YC C k pf:=by
 unfold tab at h;split at h;rename_i l _;split at h;rename_i fn e;split at h;cases h;rename_i u;exact λargs H R i w=>UJ (T:=T l) rfl rfl e (by simpa using u) h i w;cases h;cases h
noncomputable def chk{α:Type}(n:Nat)(vs:α->V_)(r:α->PV)(x:α):Bool:=isR (sS (sD tab (yF []) (λ_=>true) rH 60 14) n (vs x)) (r x)
theorem kp{α:Type}{n:Nat}{vs:α->V_}{r:α->PV}{l:List α}(e:l.all (chk n vs r)=true):∀x∈l,aH C n (vs x) .nil (aK (r x)):=Yg .nil (fz:=λ_=>true) tU 60 14 e
def agQ(p:Nat × Nat):V_:=[.agg (rfQ p).cells]
def uj{α:Type}(_:α):PV:=.bool true
theorem agR:∀p∈fsN,dS (rfQ p)=true:=by decide +kernel
theorem aiH:∀p∈tgN,HV (rfQ p)=true:=by decide +kernel
theorem aoO:(fsN.take 9).all (chk 105 agQ uj)=true:=by kernel_rfl
theorem aoP:((fsN.drop 9).take 9).all (chk 105 agQ uj)=true:=by kernel_rfl
theorem aoQ:((fsN.drop 18).take 8).all (chk 105 agQ uj)=true:=by kernel_rfl
theorem aoR:(fsN.drop 26).all (chk 105 agQ uj)=true:=by kernel_rfl
theorem aoS:fsN.all (chk 105 agQ uj)=true:=by
 rw[show fsN=fsN.take 9++((fsN.drop 9).take 9++((fsN.drop 18).take 8++fsN.drop 26))from rfl,awG,awG,awG,aoO,aoP,aoQ,aoR];rfl
theorem abv:fsN.all (chk 97 agQ λp=>.bool (bY (rfQ p)))=true:=by kernel_rfl
theorem aoY:tgN.all (chk 101 agQ uj)=true:=by kernel_rfl
theorem apT:(stN.take 4).all (chk 117 (λp=>[frs (p.map rfQ)]) λ_=>frV (.ok (false,1,1)))=true:=by kernel_rfl
theorem apU:((stN.drop 4).take 3).all (chk 117 (λp=>[frs (p.map rfQ)]) λ_=>frV (.ok (false,1,1)))=true:=by kernel_rfl
theorem apV:(stN.drop 7).all (chk 117 (λp=>[frs (p.map rfQ)]) λ_=>frV (.ok (false,1,1)))=true:=by kernel_rfl
theorem apW:stN.all (chk 117 (λp=>[frs (p.map rfQ)]) λ_=>frV (.ok (false,1,1)))=true:=by
 rw[show stN=stN.take 4++((stN.drop 4).take 3++stN.drop 7)from rfl,awG,awG,apT,apU,apV];rfl
theorem fz:Kw C:={
 vX:=λx h=>by obtain⟨p,hp,rfl⟩:=h;exact kp abv p hp
 lim:=λx h=>by obtain⟨p,hp,rfl⟩:=h;rw[agR p hp];exact kp aoS p hp
 one:=λx h=>by obtain⟨p,hp,rfl⟩:=h;rw[aiH p hp];exact kp aoY p hp
 tot:=λl h=>by obtain⟨p,hp,rfl⟩:=h;exact kp apW p hp
 frac:=mC .nil (fz:=λ_=>true) tU 60 14 (by kernel_rfl)
 ord:=mC .nil (fz:=λ_=>true) tU 60 14 (by kernel_rfl) }
end Go.Proofs.YtfeiflgckfjohaaGreatDoor
namespace Go.PM
open Go Go.Na


def eT(set:I_):I_->I_->I_
 |[],_=>[]
 |d::t,fr=>if set.contains d then d::eT set t fr else match fr with
  |[]=>-1::eT set t []
  |x::fr=>x::eT set t fr
def wR(set:I_):I_->Nat->O_
 |[],_=>none
 |d::t,k=>if set.contains d then(wR set t k).map (·+1)else match k with
  |0=>some 0
  |k+1=>(wR set t k).map (·+1)
def eJ(row set:I_):I_:=set.filter λs=>!row.contains s
theorem sL(set:I_):∀row fr:I_,(eT set row fr).length=Z' row
 |[],_=>rfl
 |d::t,fr=>by unfold eT;split;rw[atZ,atZ,sL];cases fr<;>simp only[atZ,sL]
theorem i7(set:I_):∀(row:I_)(k p:Nat),wR set row k=some p->p<Z' row
 |[],_,_,h=>by cases h
 |d::t,k,p,h=>by
  unfold wR at h;split at h;obtain⟨q,e,rfl⟩:=atB.1 h;have:=i7 set t k q e;rw[atZ];omega
  ·cases k with
   |zero=>injection h with h;subst h;exact Nat.zero_lt_succ _
   |succ k =>obtain⟨q,e,rfl⟩:=atB.1 h;have:=i7 set t k q e;rw[atZ];omega
theorem RD(set:I_):∀(row:I_)(k p q:Nat),wR set row k=some p->wR set row (k+1)=some q->p<q
 |[],_,_,_,h,_=>by cases h
 |d::t,k,p,q,h,g=>by
  unfold wR at h g;split at h;rename_i c;rw[aF c]at g;obtain⟨i,e,rfl⟩:=atB.1 h;obtain⟨l,g1,rfl⟩:=atB.1 g;have:=RD set t k i l e g1;omega
  ·rename_i c;rw[aC c]at g;simp only at g;obtain⟨l,g1,rfl⟩:=atB.1 g;cases k with
   |zero=>injection h with h;omega
   |succ k =>obtain⟨i,e,rfl⟩:=atB.1 h;have:=RD set t k i l e g1;omega
theorem RE(set:I_):∀(row:I_)(k:Nat),k<(row.filter λd=>!set.contains d).length->∃p,wR set row k=some p
 |[],_,h=>absurd h (Nat.not_lt_zero _)
 |d::t,k,h=>by
  unfold wR;rw[List.filter_cons]at h;by_cases c:set.contains d=true;rw[aF c];rw[c]at h;obtain⟨p,e⟩:=RE set t k h;exact⟨p+1,by rw[e];rfl⟩
  ·rw[aC c];rw[show(!set.contains d)=true by simpa using c,aF rfl,atZ]at h;cases k with
   |zero=>exact⟨0,rfl⟩
   |succ k =>obtain⟨p,e⟩:=RE set t k Om;exact⟨p+1,by simp only;rw[e];rfl⟩
theorem UM(set:I_)(x:Int):∀(row fr:I_)(p:Nat),wR set row fr.length=some p ->
  eT set row (fr++[x])=(eT set row fr).set p x/\(eT set row fr)[p]?=some (-1)/\((∀y∈row,0<=y)->(∀y∈fr,0<=y)->∀(j:Nat) y,j<p->(eT set row fr)[j]?=some y->0<=y)
 |[],_,_,h=>by cases h
 |d::t,fr,p,h=>by
  unfold wR at h;unfold eT;by_cases c:set.contains d=true
  ·rw[aF c]at h ⊢;rw[aF c];obtain⟨q,w,rfl⟩:=atB.1 h;obtain⟨B,D,E⟩:=UM set x t fr q w;refine⟨by rw[B];rfl,D,λu l j y A e=>?_⟩;cases j with
   |zero=>injection e with e;subst e;exact u _ axA
   |succ j=>exact E (λz i=>u z (awN _ i)) l j y Om e
  ·rw[aC c]at h ⊢;rw[aC c];cases fr with
   |nil=>
    injection h with h
    subst h;exact⟨rfl,rfl,λ_ _ j y A=>absurd A (Nat.not_lt_zero _)⟩
   |cons f fr=>
    obtain⟨q,w,rfl⟩:=atB.1 (show Option.map (·+1) (wR set t fr.length)=some p from h);obtain⟨B,D,E⟩:=UM set x t fr q w;refine⟨by simp only[awD];rw[B];rfl,D,λu l j y A e=>?_⟩;cases j with
    |zero=>injection e with e;subst e;exact l _ axA
    |succ j=>exact E (λz i=>u z (awN _ i)) (λz i=>l z (awN _ i)) j y Om e
theorem ZJ(row set:I_):(row.filter λd=>!set.contains d).length+lJ set row=Z' row:=by
 unfold lJ
 induction row with
 |nil=>rfl
 |cons d t e =>rw[List.filter_cons,List.countP_cons,atZ];cases set.contains d;simp only[atH,if_true,atZ,auQ,if_false];omega;simp only[asY,auQ,if_false,if_true];omega
theorem dl{row set:I_}(e:row.Nodup)(i:set.Nodup)(l:Z' set=Z' row):(eJ row set).length=(row.filter λd=>!set.contains d).length:=by
 have u:=ZJ row set;have w:=ZJ set row;have x:=TR e i;unfold eJ;omega
theorem OF(set:I_):∀(row fr:I_),(row.filter λd=>!set.contains d).length=Z' fr->(eT set row fr).Perm ((row.filter λd=>set.contains d)++fr)
 |[],fr,h=>by have:fr=[]:=axE h.symm;subst this;exact .nil
 |d::t,fr,h=>by
  unfold eT;rw[List.filter_cons]at h ⊢;by_cases c:set.contains d=true;rw[aF c,aF c];rw[show(!set.contains d)=false by rw[c];rfl]at h;exact .cons _ (OF set t fr h)
  ·rw[aC c,aC c];rw[show(!set.contains d)=true by simpa using c,aF rfl,atZ]at h;cases fr with
   |nil=>cases h
   |cons x fr =>refine(avN.cons x (OF set t fr (by simpa using h))).trans ?_;exact List.perm_middle.symm
theorem vb{row set:I_}(i:row.Nodup)(l:set.Nodup)(u:Z' set=Z' row):(eT set row (eJ row set)).Perm set:=by
 refine(OF set row _ (dl i l u).symm).trans ?_;have e:(row.filter λd=>set.contains d).Perm (set.filter λd=>row.contains d):=by refine(List.perm_ext_iff_of_nodup (i.filter _) (l.filter _)).2 λx=>?_;simp only[awT,avX];exact and_comm
 refine(e.append_right _).trans ?_;unfold eJ;exact List.filter_append_perm _ _
def rK(f:aB)(sc L:L2_)(v:Nat)(s:I_):Int:=((eO sc (L.getD v []) (bF f v).m:Nat):Int)-(eO sc s (bF f v).m:Nat)
def xW(f:aB)(R:I_)(L:L2_)(v:Nat)(s:I_):Bool:=s.all λd=>(L.getD v []).contains d||decide ((cD f L).getD d.toNat 0<R.getD d.toNat 0)
abbrev zJ:=Option (Nat × I_)
def oJ(f:aB)(sc L:L2_):zJ->Int
 |none=>0
 |some x=>rK f sc L x.1 x.2
def mH(f:aB)(sc:L2_)(R:I_)(L:L2_)(v:Nat)(e:zJ)(s:I_):zJ:=
 if xW f R L v s&&decide (rK f sc L v s>oJ f sc L e)then some (v,s)else e
def CJ(f:aB)(sc:L2_)(R:I_)(L:L2_)(e:zJ)(v:Nat):zJ:=(gQ f (bF f v)).foldl (mH f sc R L v) e
def gE(f:aB)(sc:L2_)(R:I_)(L:L2_):Nat->zJ
 |0=>none
 |k+1=>CJ f sc R L (gE f sc R L k) k
def oL(L:L2_)(v:Nat)(s:I_):L2_:=L.set v (eT s (L.getD v []) (eJ (L.getD v []) s))
def BI(f:aB)(sc:L2_)(R:I_):Nat->L2_->L2_
 |0,L=>L
 |n+1,L=>match gE f sc R L L.length with
  |none=>L
  |some x=>BI f sc R n (oL L x.1 x.2)
def pY(f:aB)(sc:L2_)(R:I_)(L:L2_):L2_:=BI f sc R (pR f sc L L.length+1) L
theorem VR{f:aB}{sc:L2_}{R:I_}{L:L2_}{v:Nat}:∀(S:L2_) (i:zJ),
  (∀x,i=some x->x.1<=v/\x.2∈gQ f (bF f x.1)/\xW f R L x.1 x.2=true/\0<rK f sc L x.1 x.2)->(∀s∈S,s∈gQ f (bF f v)) ->
  ∀x,S.foldl (mH f sc R L v) i=some x->x.1<=v/\x.2∈gQ f (bF f x.1)/\xW f R L x.1 x.2=true/\0<rK f sc L x.1 x.2
 |[],i,h,_,x,e=>h x e
 |s::S,i,h,u,x,e=>by
  refine VR S (mH f sc R L v i s) (λy l=>?_) (λt w=>u t (awN _ w)) x e;unfold mH at l;split at l;rename_i c;rw[asV,dT_]at c;injection l with l
  subst l;refine⟨asU _,u s axA,c.1,?_⟩;have A:0<=oJ f sc L i:=by
   cases i with
   |none=>exact Int.le_refl _
   |some y=>exact Int.le_of_lt (h y rfl).2.2.2
  have:=c.2;show 0<rK f sc L v s;omega;exact h y l
theorem qU{f:aB}{sc:L2_}{R:I_}{L:L2_}:∀(k:Nat)(x:Nat × I_),gE f sc R L k=some x ->
  x.1<k/\x.2∈gQ f (bF f x.1)/\xW f R L x.1 x.2=true/\0<rK f sc L x.1 x.2
 |0,x,h=>by cases h
 |k+1,x,h=>by have e:=VR (v:=k) (gQ f (bF f k)) (gE f sc R L k) (λy l=>by obtain⟨a,b⟩:=qU k y l;exact⟨by omega,b⟩) (λs i=>i) x h;exact⟨by omega,e.2⟩
theorem jg{g h:Nat->Nat}{v:Nat}(i:∀k,k≠v->g k=h k):∀n,v<n->eM g n+h v=eM h n+g v
 |0,l=>absurd l (Nat.not_lt_zero _)
 |n+1,l=>by rw[eM,eM];by_cases e:v=n;subst e;have:eM g v=eM h v:=AS λk w=>i k Om;omega;have:=jg i n Om;have:=i n (λu=>e u.symm);omega
theorem xZ(L:L2_)(v k:Nat)(r:I_)(i:v<Z' L):(L.set v r).getD k []=if k=v then r else L.getD k []:=by
 rw[asW,asW,avY];by_cases e:v=k;subst e;simp[i];rw[aC e,aC (λh=>e h.symm)]
theorem TX(f:aB)(sc L:L2_):∀k,pR f sc L k=eM (λv=>eO sc (L.getD v []) (bF f v).m) k
 |0=>rfl
 |k+1=>by rw[pR,TX f sc L k];rfl
theorem Vf(f:aB)(sc:L2_){L:L2_}{v:Nat}(e:v<Z' L)(r:I_) :
  pR f sc (L.set v r) L.length+eO sc (L.getD v []) (bF f v).m=pR f sc L L.length+eO sc r (bF f v).m:=by
 rw[TX,TX];have h:=jg (g:=λk=>eO sc ((L.set v r).getD k []) (bF f k).m) (h:=λk=>eO sc (L.getD k []) (bF f k).m) (v:=v) (λk i=>by rw[xZ L v k r e,aC i]) L.length e;rw[xZ L v v r e,aF rfl]at h;exact h
theorem GL{f:aB}{p:bX}(E:0<=gR p){s:I_}(h:s∈gQ f p):(Z' s:Int)=gR p/\(∀x∈s,0<=x/\x<Z' f.arB)/\s.Pairwise (· < ·)/\mX f p s=true:=by
 unfold gQ at h;obtain⟨e,i⟩:=awT.1 h;obtain⟨t,l,rfl⟩:=atM.1 e;obtain⟨A,B,D⟩:=tF _ _ _ t l;refine⟨by rw[gT,A];omega,λx u=>?_,?_,i⟩;obtain⟨y,w,rfl⟩:=atM.1 u;have:=B y w;omega;exact List.pairwise_map.2 (D.imp λh=>by omega)
theorem IC{f:aB}(hV:VF f){v:Nat}(h:v<Z' f.arD):gR (bF f v)=fX f v/\0<=gR (bF f v):=by
 obtain⟨hp,he⟩:=iN hV h;have e:=hV.arO _ (asS hp);rw[he]at e;exact⟨rfl,by unfold gR;omega⟩
theorem AB{f:aB}{L:L2_}{room:I_}(D:eU f L room=true){v:Nat}{s:I_}(B:v<Z' L)(hs:s∈gQ f (bF f v))(N:xW f (bA f room) L v s=true) :
  eU f (oL L v s) room=true/\(oL L v s).length=Z' L/\(eT s (L.getD v []) (eJ (L.getD v []) s)).Perm s:=by
 have u:=gM D;have hV:=VF.of u;have w:=mN D;have l:L.getD v []=L[v]:=by simp[asW,B]
 obtain⟨r1,r2,-,-⟩:=kS D B;have O:v<Z' f.arD:=by have:=w.len;omega
 obtain⟨z1,z2⟩:=IC hV O;obtain⟨q1,V,q3,J⟩:=GL z2 hs;have A:s.Nodup:=q3.imp λh=>Int.ne_of_lt h;have Y:=w.row v B;have hp:=vb (row:=L[v]) (set:=s) r1 A Om;rw[l];generalize Z:eT s L[v] (eJ L[v] s)=r at hp;have α:Z' r=Z' s:=hp.length_eq;have e:oL L v s=L.set v r:=by unfold oL;rw[l,Z]
 rw[e];have M:BB f (L.set v r):=by
  refine⟨by rw[auD];exact w.len,λk y=>?_,λt ht x U=>?_⟩;rw[auD]at y;rw[List.getElem_set];split;rename_i K;subst K;omega;exact w.row k y;rcases axB ht with h|h
  exact w.home t h x U;subst h;have:=V x (hp.mem_iff.1 U);omega
 refine⟨(IR u M room).2 ⟨λk y=>?_,λd E=>?_⟩,by rw[auD],hp⟩;rw[auD]at y;rw[List.getElem_set];split;rename_i K;subst K;unfold mX at J;rw[asV,atI]at J;refine Kj.2 ⟨λi hi=>?_,λd E=>?_,λi hi _=>?_,λi hi F=>?_⟩;have e2:r.getD i 0=r[i]:=by simp[asW,hi]
 rw[e2];exact(V _ (hp.mem_iff.1 (asS hi))).1;rw[hp.count_eq];exact List.nodup_iff_count.1 A _;have e2:r.getD i 0=r[i]:=by simp[asW,hi]
 rw[e2];exact J.1 _ (hp.mem_iff.1 (asS hi));have S:=(If.1 J.2) i hi F;have e2:fO f r i=fO f s i:=by unfold fO;rw[hp.countP_eq]
 rw[e2];exact S;exact((IR u w room).1 D).1 k y;have W:=((IR u w room).1 D).2 d E;rw[count_flatten]at W ⊢;rw[auD];have R:=jg (g:=λk=>((L.set v r).getD k []).count (d:Int)) (h:=λk=>(L.getD k []).count (d:Int)) (v:=v) (λk y=>by rw[xZ L v k r B,aC y]) L.length B;rw[xZ L v v r B,aF rfl,l,hp.count_eq]at R;by_cases F:(d:Int)∈s;have S:s.count (d:Int)<=1:=List.nodup_iff_count.1 A _;unfold xW at N;rw[atI]at N;have h4:=N _ F;rw[l,awY,dT_]at h4;rcases h4 with h4|h4
 have h5:0<L[v].count (d:Int):=List.count_pos_iff.2 (by simpa using h4);omega;have h5:(cD f L).getD d 0=(L.flatten.count (d:Int):Nat):=by simp[cD,fN,asW,E]
 have X:(bA f room).getD d 0=nF f room d:=by simp[bA,asW,E]
 rw[auL,h5,X,count_flatten]at h4;omega;rw[List.count_eq_zero_of_not_mem F]at R;omega
theorem DF{f:aB}{sc L:L2_}{v:Nat}{s:I_}(i:v<Z' L)(hp:(eT s (L.getD v []) (eJ (L.getD v []) s)).Perm s)(e:0<rK f sc L v s):pR f sc (oL L v s) L.length<pR f sc L L.length:=by
 have h:=Vf f sc i (eT s (L.getD v []) (eJ (L.getD v []) s));rw[UZ hp]at h;unfold rK at e;unfold oL;omega
theorem C9{f:aB}{sc:L2_}{room:I_}:∀(c:Nat){L:L2_},eU f L room=true->pR f sc L L.length<=c->∀n m,c<n->c<m->BI f sc (bA f room) n L=BI f sc (bA f room) m L
 |c,L,e,A,0,m,l,i=>absurd l (Nat.not_lt_zero _)
 |c,L,e,A,n+1,0,l,i=>absurd i (Nat.not_lt_zero _)
 |c,L,e,A,n+1,m+1,l,i=>by
  rw[BI,BI];cases h:gE f sc (bA f room) L L.length with
  |none=>rfl
  |some x=>
   obtain⟨y,B,D,E⟩:=qU _ _ h;obtain⟨F,u,J⟩:=AB e y B D;have w:=DF y J E;rw[<-u]at w;cases c with
   |zero=>rw[u]at w;omega
   |succ c=>exact C9 c F (by rw[u]at w ⊢;omega) n m Om Om
theorem Da{f:aB}{sc L:L2_}{room:I_}(w:eU f L room=true){x:Nat × I_}(h:gE f sc (bA f room) L L.length=some x):pY f sc (bA f room) L=pY f sc (bA f room) (oL L x.1 x.2):=by
 obtain⟨e,i,l,u⟩:=qU _ _ h;obtain⟨y,A,B⟩:=AB w e i l;have D:=DF e B u;unfold pY;rw[BI,h];simp only;exact C9 _ y (asU _) _ _ (by rw[A];omega) Om
theorem fe{f:aB}{sc L:L2_}{R:I_}(h:gE f sc R L L.length=none):pY f sc R L=L:=by
 unfold pY;rw[BI,h]
def uL:=bT [] Proofs.Tryz.f3
def fk:=aA uL 6
def fl:=aA uL 7
def fm:=aA uL 8
def nc:aJ:=(sq (aA uL 0) (sq (aA uL 1) (sq (aA uL 2) (.seq (sq (aA uL 3) (sq (aA uL 4) (.cond (Tm 36) (.region (aA uL 5)) .skip))) (sq fk (sq fl (sq fm .ret)))))))
def iY:=bT [30] Proofs.Tryz.f36
def II:aJ:=(dH (aA iY 9) 35 2 (aA iY 14) (sq (aA iY 10) (sq (aA iY 11) (.cond (Tm 51) (sq (aA iY 12) (.region (aA iY 13))) .skip))))
def TB:aJ:=(sq (aA iY 0) (sq (aA iY 1) (sq (aA iY 2) (.seq (cS (aA iY 3) 0 (dH (aA iY 4) 15 0 (aA iY 7) (sq (aA iY 5) (.cond (Tm 24) (.region (aA iY 6)) .skip)))) (.seq (cS (aA iY 8) 2 II) (sq (aA iY 15) .ret))))))
def dD:=bT [4,5,54] Proofs.Tryz.f9
def DZ:aJ:=(dH (aA dD 23) 104 8 (aA dD 24) (.draw (dZ dD 1)))
def xO:aJ:=(dH (aA dD 20) 95 6 (aA dD 26) (sq (aA dD 21) (.seq (cS (aA dD 22) 8 DZ) (dq (dZ dD 2) (sq (aA dD 25) (.cond (Tm 164) (.draw (dZ dD 3)) .skip))))))
def tQ:aJ:=(dH (aA dD 16) 65 4 (aA dD 27) (sq (aA dD 17) (sq (aA dD 18) (dq (dZ dD 0) (cS (aA dD 19) 6 xO)))))
def tR:=aA dD 28
def xQ:=aA dD 29
def EA:=aA dD 30
def xP:aJ:=(.block 3 (sq (aA dD 12) (sq (aA dD 13) (sq (aA dD 14) (.seq (cS (aA dD 15) 4 tQ) (kK tR 172 xQ (.region EA)))))))
def ND:aJ:=(sq (aA dD 0) (sq (aA dD 1) (kK (aA dD 2) 35 (aA dD 3) (kK (aA dD 4) 41 (aA dD 5) (sq (aA dD 6) (.seq (cS (aA dD 7) 0 (dH (aA dD 8) 45 0 (aA dD 10) (.region (aA dD 9)))) (cS (aA dD 11) 2 xP)))))))
def PD:=bT [2,62] Proofs.Tryz.f24
def SX:=cG PD
def uH:=bT [] Proofs.Tryz.f27
def fj:aJ:=(iE (aA uH 6) 28 2 (aA uH 10) (sq (aA uH 7) (sq (aA uH 8) (.cond (Tm 33) (.region (aA uH 9)) .skip))))
def vz:aJ:=(sq (aA uH 0) (.seq (cS (aA uH 1) 0 (iE (aA uH 2) 17 0 (aA uH 13) (sq (aA uH 3) (sq (aA uH 4) (.seq (cS (aA uH 5) 2 fj) (sq (aA uH 11) (.cond (Tm 42) (sq (aA uH 12) .ret) .skip))))))) (sq (aA uH 14) .ret)))
def jS:=bT [] Proofs.Tryz.f28
def UW:aJ:=(iE (aA jS 8) 31 2 (aA jS 12) (sq (aA jS 9) (sq (aA jS 10) (.cond (Tm 36) (.region (aA jS 11)) .skip))))
def JE:aJ:=(.seq (sq (aA jS 19) (.cond (Tm 58) .skip (.exit 6))) (.block 7 (.region (aA jS 20))))
def nb:aJ:=(sq (aA jS 0) (sq (aA jS 1) (sq (aA jS 2) (.seq (cS (aA jS 3) 0 (iE (aA jS 4) 21 0 (aA jS 13) (sq (aA jS 5) (sq (aA jS 6) (cS (aA jS 7) 2 UW))))) (sq (aA jS 14) (.seq (cS (aA jS 15) 4 (iE (aA jS 16) 48 4 (aA jS 22) (sq (aA jS 17) (jJ (aA jS 18) 53 (.exit 5) (.seq (.block 6 (.loop JE)) (.region (aA jS 21))))))) (sq (aA jS 23) .ret)))))))
def dY:=bT [4,5] Proofs.Tryz.f8
def HR:aJ:=(iE (aA dY 9) 50 1 (aA dY 12) (sq (aA dY 10) (sq (aA dY 11) (dq (dZ dY 0) (.draw (dZ dY 1))))))
def HS:aJ:=(iE (aA dY 19) 104 7 (aA dY 21) (sq (aA dY 20) (dq (dZ dY 3) (dq (dZ dY 4) (.cond (Tm 141) (.draw (dZ dY 5)) .skip)))))
def vD:aJ:=(iE (aA dY 16) 91 5 (aA dY 22) (sq (aA dY 17) (cS (aA dY 18) 7 HS)))
def vE:=aA dY 23
def zW:=aA dY 24
def zX:=dZ dY 6
def zY:=dZ dY 7
def HT:aJ:=(.block 4 (sq (aA dY 13) (sq (aA dY 14) (.seq (cS (aA dY 15) 5 vD) (kK vE 147 zW (dq zX (.draw zY)))))))
def SW:aJ:=(sq (aA dY 0) (sq (aA dY 1) (.seq (.block 0 (sq (aA dY 2) (.cond (Tm 31) (sq (aA dY 3) .ret) (sq (aA dY 4) (.cond (Tm 35) (sq (aA dY 5) .ret) .skip))))) (sq (aA dY 6) (sq (aA dY 7) (.seq (cS (aA dY 8) 1 HR) (dq (dZ dY 2) (.block 3 (.loop HT)))))))))
def chT(n k a i:Nat):List N_:=(auX a (i-a)).flatMap λx=>(dQ n k (x+1)).map (x::·)
theorem Vc(n k a:Nat):chT n k a a=[]:=by unfold chT;rw[auK];rfl
theorem Vb(n k a:Nat){i:Nat}(h:a<=i):chT n k a (i+1)=chT n k a i++(dQ n k (i+1)).map (i::·):=by
 unfold chT;rw[show i+1-a=(i-a)+1 by omega,List.range'_concat,List.flatMap_append,Nat.one_mul,show a+(i-a)=i by omega];simp
theorem Va(n k a i:Nat)(h:i=a\/i<=n-k)(e:n<=i+k):chT n k a i=dQ n (k+1) a:=by
 unfold chT;rw[dQ,show i-a=n-k-a by omega]
theorem agI(n k a:Nat){i:Nat}(h:a<=i)(l:i+k<n):(chT n k a (i+1)).length<=(dQ n (k+1) a).length:=by
 obtain⟨d,e⟩:∃d,n-k-a=(i+1-a)+d:=⟨n-k-a-(i+1-a),by omega⟩;unfold chT;rw[dQ,e,<-List.range'_append (s:=a) (m:=i+1-a) (n:=d) (step:=1),List.flatMap_append,asX];omega
def iR(l:List N_):L2_:=l.map cA
theorem D8(a b:List N_):iR (a++b)=iR a++iR b:=atK
variable{C:Ctx}
theorem ot(k a n:Nat)(hk:k<=10)(ha:a<=1000)(hn:n<=40)(rec:∀F Y:Nat,F<=1000->k=Y+1->aH C 215 [.j F,.j n,.j Y] .nil (aK (lay (iR (dQ n Y F))))) :
  IF.wp C (aV MZ.res (cN (lay (iR (dQ n k a))))) (g_ [.j a,.j n,.j k]) .nil:=by
 cases k with
 |zero =>simp only[go_sem,IF,bR (show((0:Nat):Int)=0 from rfl),MZ];refine bM (.inr rfl) .nil (vs:=[.sl 1 [[.aG]]]) Sq a_ ⟨?_,rfl⟩;exact(qI.nil.snoc (u:=.aG) (w:=[]) (.inr ⟨rfl,rfl⟩)).co
 |succ k=>
  have M:=λ(F:Nat)(h:F<=1000)=>rec F k h rfl;clear rec;have η:=tG n (k+1) a;have β:2^(n-a)<=2^40:=awW Om Om;have γ:(2:Nat)^40=1099511627776:=by decide
  have wk:i_.wrap (((k+1:Nat):Int)-1)=(k:Int):=wO_
  simp only[go_sem,IF,bH (Om:((k+1:Nat):Int)≠0),MZ];refine wp_loop (α:=Nat × PV × WPs × PH) (λs=>((((n_.set 1 (.j n)).set 2 (.j (k+1:Nat))).set 7 (s.2.1)).set 8 (.j s.1))) (λs=>s.2.2.2) (λs=>a<=s.1/\(s.1=a\/s.1<=n-k)/\wls s.2.2.1=iR (chT n k a s.1)/\aN s.2.2.2 [] (eZ s.2.1 s.2.2.1)) (λs=>n-s.1) (a,.aG,[],.nil) ⟨asU _,.inl rfl,by simp only;rw[Vc];rfl,aN.qS aN.nil⟩ Lq b_ ?_;rintro⟨i,S,ps,H⟩ ⟨D,L,y,B⟩;simp only at D L y B;have wi:i_.wrap ((i:Int)+((k+1:Nat):Int))=(i:Int)+((k+1:Nat):Int):=wrap_i64 Om Om;simp only[go_sem,wi];by_cases c:i+(k+1)<=n;have U:(i:Int)+((k+1:Nat):Int)<=(n:Nat):=Om;have l:=Vb n k a D;have K:=agI n k a D (Om:i+k<n);have hr:=M (i+1) Om;have J:=tF n k (i+1);generalize dQ n k (i+1)=R at *
  have δ:Z' R<=1099511627776:=by rw[l,asX,asO]at K;omega
  simp only[go_sem,U,wZz i,wk];refine aD hr Sq ?_;simp only[go_sem];refine wp_loop (α:=Nat × PV × WPs × PH) (λs=>((((((n_.set 1 (.j n)).set 2 (.j (k+1:Nat))).set 7 (s.2.1)).set 8 (.j i)).set 9 (lay (iR R))).set 10 (.j s.1))) (λs=>s.2.2.2) (λs=>s.1<=Z' R/\wls s.2.2.1=iR (chT n k a i++(R.take s.1).map (i::·))/\aN s.2.2.2 [] (eZ s.2.1 s.2.2.1)) (λs=>Z' R-s.1) (0,S,ps,H) ⟨asQ _,by simp only;rw[y];simp,B⟩ Lq b_ ?_;clear y B;rintro⟨j,S,ps,H⟩ ⟨hj,y,B⟩;simp only at hj y B;have E:(iR R).length=Z' R:=asO _;simp only[go_sem,asO,E];by_cases A:j<Z' R;have x:(j:Int)<(Z' R:Nat):=Om;have W:((iR R).map λr=>[ints r])[j]?=some [ints (cA R[j])]:=by unfold iR;simp[A]
  have X:R.take (j+1)=R.take j++[R[j]]:=atW A;have ζ:=(J _ (asS A)).1;have ε:Z' ps<=1099511627776:=by have V:=congrArg awE y;rw[BY]at V;unfold iR at V;rw[asO,asX,asO,atF]at V;rw[l,asX,asO]at K;omega
  generalize R[j]=r at *
  simp only[go_sem,x];refine aQ λo ho=>?_;have h2:=B.Eb (s:=1) (rows:=aM [(i:Int)]) ho;simp only[go_sem,x,E,asO,W];refine h2.append (Z' ps+1) (rows:=aM [(i:Int)]) (src:=aM (cA r)) (GF _ _ _ (JJ _ _)) rfl (by unfold roomFor;rw[bV,bV,gT];simp only[atD,maxLen];omega) λv' H' O _=>?_;have N:aM [(i:Int)]++aM (cA r)=aM (cA (i::r)):=rfl;rw[N]at O;have hO:bC H' 1 v' (aM (cA (i::r))):=O.own (Z' ps+1) (by rw[List.getElem?_set_self (by rw[asX,JJ];simp)]);rcases hO with⟨h0,-⟩|⟨q,rs,rfl,-,-,-⟩
  cases h0;rw[avQ _ _ (by rw[JJ];exact asU _),JJ,auK]at O;simp only[go_sem,atG,atS,or_false,forall_eq];refine O.append 0 (rows:=dF ps) (src:=[[PV.osl q 1 0 (aM (cA (i::r))).length]]) rfl Sq (by unfold roomFor;rw[mB];simp only[atD,maxLen];omega) λZ H2 h4 _=>?_;simp only[go_sem,wZz j];refine aE (j+1,Z,ps++[(PV.osl q 1 0 (aM (cA (i::r))).length,cA (i::r))],H2) ⟨A,?_,?_⟩ sO_ (lE1 E) b_;simp only;rw[X,atK,<-atV,D8,<-y];unfold wls;rw[atK];rfl;have e:eZ Z (ps++[(PV.osl q 1 0 (aM (cA (i::r))).length,cA (i::r))])=((eZ S ps)++[(PV.osl q 1 0 (aM (cA (i::r))).length,1,aM (cA (i::r)))]).set 0 (Z,1,dF ps++[[PV.osl q 1 0 (aM (cA (i::r))).length]]):=by unfold eZ dF kO;rw[atK,atK];rfl
  simp only;rw[e];exact h4;have x:¬(j:Int)<(Z' R:Nat):=Om;have:j=Z' R:=Om;subst this;rw[atL,<-l]at y;simp only[go_sem,x,wZz i];exact aE (i+1,S,ps,H) ⟨by simp only;omega,.inr sO_,y,B⟩ sO_ Lq b_;have U:¬(i:Int)+((k+1:Nat):Int)<=(n:Nat):=Om;rw[Va n k a i L Om]at y;simp only[go_sem,U];rw[<-y];exact QU (.inr rfl) Sq B
structure zi(C:Ctx):Prop where
 allowed:∀(f:aB)(p:bX)(d:Nat),VF f->Fits p.arC->d<Z' f.arB->aH C 77 [.agg p.cells,.agg f.cells,.int .i64 d] .nil (aK (.bool (p.arC.contains ((mdl f d:Nat):Int))))
 count:∀(f:aB)(row:I_)(n:Nat),VF f->vW f row->n<Z' f.arE->aH C 80 [.agg f.cells,ints row,.int .i64 n] .nil (aK (.int .i64 (row.countP (kL f n):Nat)))
 valid:∀f:aB,f.Ok->aH C 67 [.agg f.cells] .nil (aK (.bool (cI f)))
def pU(f:aB)(p:bX)(set:I_):Bool:=Bx set (gR p) f.arB.length&&mX f p set
def mP(f:aB)(p:bX)(set:I_)(i:Nat):Bool:=kh set f.arB.length i&&pF f p (set.getD i 0)
theorem E4{f:aB}{p:bX}{set:I_}(y:(Z' set:Int)=gR p):pU f p set=((asP set.length).all (mP f p set)&&jI f p set):=by
 unfold pU Bx mX;rw[aW y,atJ,<-awF];congr 1;have e:set.all (pF f p)=(asP set.length).all λi=>pF f p (set.getD i 0):=by
  rw[Bool.eq_iff_iff,atI,atI];constructor;intro h i hi;have hi:=atQ.1 hi;have l:set.getD i 0=set[i]:=by simp[asW,hi]
  rw[l];exact h _ (asS hi);intro h x A;obtain⟨i,hi,rfl⟩:=auG A;have l:set.getD i 0=set[i]:=by simp[asW,hi]
  have:=h i (atQ.2 hi)
  rwa[l]at this
 rw[e,Bool.eq_iff_iff,asV,atI,atI,atI];constructor;rintro⟨u,w⟩ i hi;unfold mP;rw[u i hi,w i hi];rfl;intro h;refine⟨λi hi=>?_,λi hi=>?_⟩;have:=h i hi;unfold mP at this;rw[asV]at this;exact this.1;have:=h i hi;unfold mP at this;rw[asV]at this;exact this.2
theorem adW{f:aB}{p:bX}{set:I_}(e:(Z' set:Int)=gR p){i:Nat}(hi:i<Z' set)(h:mP f p set i=false):pU f p set=false:=by
 rw[E4 e];have:(asP set.length).all (mP f p set)=false:=by simp only[List.all_eq_false,atQ];exact⟨i,hi,by rw[h];simp⟩
 rw[this,atE]
theorem E0(f:aB)(p:bX)(set:I_)(k:Nat):(asP (k+1)).all (mP f p set)=((asP k).all (mP f p set)&&mP f p set k):=by
 rw[avH,awG];simp
theorem Hu{K:bP}[Up K](L:zi C)(f:aB)(hV:VF f)(p:bX)(set:I_)(X:vW f set){F:PF}{H:PH}
  (O:(((((n_.set 2 (ints set)).set 3 (.aU f.cells)).set 4 (.aU p.cells)).set 8 (.j 1))).le F)
  (S:∀B H',B 6=some (.bool false)->jI f p set=false->K .ret B H')
  (R:∀B H',jI f p set=true->K (.exit 2) B H'):aJ.wp C (.loop it) K F H:=by
 have V:=hV.small.arE;have y:=hV.root.1;refine wp_loop (α:=Nat) (λk=>((((n_.set 2 (ints set)).set 3 (.aU f.cells)).set 4 (.aU p.cells)).set 8 (.j k))) (λ_=>H) (λk=>1<=k/\k<=Z' f.arE/\∀i,1<=i->i<k->qA f p set i=true) (λk=>Z' f.arE-k) 1 ⟨asU _,y,λi N h2=>by omega⟩ O b_ ?_;rintro k ⟨N,hk,u⟩;simp only[go_sem,it,asO];by_cases hlt:k<Z' f.arE;have l:(k:Int)<(Z' f.arE:Nat):=Om;have M:=hV.kE hlt;have Y:0<=lvl f k:=M.1;have Z:lvl f k<((5:Nat):Int):=Om;have w:=L.count f set k hV X hlt;have U:fO f set k=((set.countP (kL f k):Nat):Int):=by unfold fO;rw[aC Om]
 rw[<-U]at w;have x:qA f p set k=!(decide (p.spread (lvl f k).toNat>0)&&decide (fO f set k>p.spread (lvl f k).toNat)):=by rw[qA,dU]
 have arY:qA f p set k=true->∀i,1<=i->i<k+1->qA f p set i=true:=λh i J W=>by by_cases e:i=k;rw[e];exact h;exact u i J Om
 have A:qA f p set k=false->jI f p set=false:=RH hlt;simp only[go_sem,l,fP hlt,tO hlt,Y,Z,Nat.mul_one];rw[x5 p _ (Om:(lvl f k).toNat<5)];by_cases D:p.spread (lvl f k).toNat>0;simp only[go_sem,D];refine aD w Sq ?_;by_cases E:fO f set k>p.spread (lvl f k).toNat;simp only[go_sem,E];exact S _ _ Sq (A (by rw[x,aW D,aW E];rfl));simp only[go_sem,E,wZz k];exact aE (k+1) ⟨by omega,hlt,arY (by rw[x,bD E,auF];rfl)⟩ Om Lq b_;simp only[go_sem,D,wZz k];exact aE (k+1) ⟨by omega,hlt,arY (by rw[x,bD D];rfl)⟩ Om Lq b_;have l:¬(k:Int)<(Z' f.arE:Nat):=Om;simp only[go_sem,l];refine R _ _ (p5 hV λi hi h=>u i ?_ Om);have:=hV.kE hi;rcases avB i with e|e
 have:=this.2.2.2 e;omega;omega
theorem adX(L:zi C)(f:aB)(hV:VF f)(p:bX)(J:Fits p.arC)(hk:1<=p.k)(β:p.k<=6)(hm:0<=p.m)(γ:p.m<=4)(set:I_)(hl:Z' set<=1000000000000000) :
  xk.wp C (aV uI.res (aK (.bool (pU f p set)))) (g_ [.agg f.cells,.agg p.cells,ints set]) .nil:=by
 have hw:i_.wrap (p.k+p.m)=p.k+p.m:=wrap_i64 Om Om;have N:gR p=p.k+p.m:=rfl;simp only[go_sem,xk,uI,asO,hw];by_cases R:(Z' set:Int)=p.k+p.m;have B:(Z' set:Int)=gR p:=by rw[N];exact R
 simp only[go_sem,cB R];refine wp_loop (α:=Nat) (λk=>((((n_.set 2 (ints set)).set 3 (.aU f.cells)).set 4 (.aU p.cells)).set 7 (.j k))) (λ_=>.nil) (λk=>k<=Z' set/\(asP k).all (mP f p set)=true) (λk=>Z' set-k) 0 ⟨asQ _,rfl⟩ Lq a_ ?_;rintro k ⟨hk,u⟩;by_cases hlt:k<Z' set
 ·have e:(k:Int)<(Z' set:Nat):=Om;have w:(set.map λn=>[PV.int .i64 n])[k]?=some [.j set[k]]:=by simp[hlt]
  have V:set.getD k 0=set[k]:=by simp[asW,hlt]
  have l:mP f p set k=(((decide (0<=set[k])&&decide (set[k]<(Z' f.arB:Nat)))&&(decide (k=0)||decide (set.getD (k-1) 0<set[k])))&&pF f p set[k]):=by rw[mP,kh,V]
  have arY:mP f p set k=true->(asP (k+1)).all (mP f p set)=true:=λh=>by rw[E0,u,h];rfl
  have bad:=adW (f:=f) (p:=p) B hlt;have fin:∀(x:Int)(b:Bool),x=set[k]->0<=x->x<(Z' f.arB:Nat)->aH C 77 [.agg p.cells,.agg f.cells,.j x] .nil (aK (.bool (pF f p x))):=λx b _ h0 S=>by have:=L.allowed f p x.toNat hV J Om;rw[show(x.toNat:Int)=x by omega]at this;exact this
  have fin:=fin set[k] true rfl;generalize set[k]=x at *
  simp only[go_sem,e,asO];refine bE .nil (cyS (.bool (pF f p x))) a_ ?_;by_cases D:x<0;simp only[go_sem,w,e,D,asO];exact kD Sq (bad (by rw[l,bD (Om:¬0<=x)];rfl)).symm;by_cases O:x>=(Z' f.arB:Nat);simp only[go_sem,w,e,D,O,asO];exact kD Sq (bad (by rw[l,bD (Om:¬x<(Z' f.arB:Nat)),auF];rfl)).symm;rw[aW (Om:0<=x),aW (Om:x<(Z' f.arB:Nat)),avK,atJ]at l;have E:=fin Om Om;by_cases Y:k=0
  ·subst Y;rw[aW rfl,Bool.true_or,atJ]at l;simp only[go_sem,w,e,D,O,asO,show ¬((0:Nat):Int)>0 by omega];refine cJ rfl E Sq a_ ?_;cases hb:pF f p x with
   |true =>rw[hb]at l;simp only[go_sem,asY,wZz 0];exact aE 1 ⟨hlt,atI.1 (arY l)⟩ Om Lq a_
   |false =>rw[hb]at l;simp only[go_sem,atH];exact kD Sq (bad l).symm
  obtain⟨j,rfl⟩:∃j,k=j+1:=⟨k-1,by omega⟩;have w1:i_.wrap (((j+1:Nat):Int)-1)=(j:Int):=wO_
  have K:j<Z' set:=Om;have A:(j:Int)<(Z' set:Nat):=Om;have M:(set.map λn=>[PV.int .i64 n])[j]?=some [.j set[j]]:=by simp[K]
  have W:set.getD (j+1-1) 0=set[j]:=by simp[asW,K]
  rw[W,bD Y,Bool.false_or]at l;generalize set[j]=y at *
  by_cases Z:x<=y;simp only[go_sem,w,e,D,O,asO,show((j+1:Nat):Int)>0 by omega,w1,M,A,Z];exact kD Sq (bad (by rw[l,bD (Om:¬y<x)];rfl)).symm;rw[aW (Om:y<x),atJ]at l;simp only[go_sem,w,e,D,O,asO,show((j+1:Nat):Int)>0 by omega,w1,M,A,Z];refine cJ rfl E Sq a_ ?_;cases hb:pF f p x with
  |true =>rw[hb]at l;simp only[go_sem,asY,fI (Om:j+1<9223372036854775807)];exact aE (j+1+1) ⟨hlt,atI.1 (arY l)⟩ Om Lq a_
  |false =>rw[hb]at l;simp only[go_sem,atH];exact kD Sq (bad l).symm
 have e:¬(k:Int)<(Z' set:Nat):=Om;have:k=Z' set:=Om;subst this;have U:=E4 (f:=f) (p:=p) B;rw[u,atJ]at U;have hr:vW f set:=⟨by omega,λx hx=>by
  obtain⟨i,hi,rfl⟩:=auG hx;have S:=atI.1 u i (atQ.2 hi);unfold mP kh at S;have V:set.getD i 0=set[i]:=by simp[asW,hi]
  rw[V]at S;simp only[asV,dT_]at S;omega⟩
 simp only[go_sem,e,asO];refine Hu (C:=C) L f hV p set hr Lq ?_ ?_;intro F' H' h6 F;simp only[go_sem];exact kD h6 (U.trans F).symm;intro F' H' X;simp only[go_sem];exact kD Sq (U.trans X).symm;simp only[go_sem,cY R];exact kD Sq (show pU f p set=false by unfold pU Bx;rw[bD (show ¬(Z' set:Int)=gR p from λh=>R (by rw[h,N]))];rfl).symm
structure Ps(C:Ctx):Prop extends zi C where
 adm:∀(f:aB)(p:bX)(set:I_),VF f->Fits p.arC->1<=p.k->p.k<=6->0<=p.m->p.m<=4->Z' set<=1000000000000000->aH C 213 [.agg f.cells,.agg p.cells,ints set] .nil (aK (.bool (pU f p set)))
 choose:∀k a n:Nat,k<=10->a<=1000->n<=40->aH C 215 [.int .i64 a,.int .i64 n,.int .i64 k] .nil (aK (lay (iR (dQ n k a))))
def agJ(name:Nat)(r r':PV):Spec:=λe _=>if e=name then some ([],λ_=>aK r)else some ([],λ_=>aK r')
theorem Yr{f:aB}(hV:VF f)(p:bX)(E:1<=p.k)(F:0<=p.m):gQ f p=(iR (dQ f.arB.length (gR p).toNat 0)).filter (pU f p):=by
 unfold gQ iR;refine List.filter_congr λx w=>?_;obtain⟨s,y,rfl⟩:=atM.1 w;obtain⟨A,B,D⟩:=tF _ _ _ _ y;have e:((gR p).toNat:Int)=gR p:=by unfold gR;omega
 have h:Bx (cA s) (gR p) f.arB.length=true:=by
  rw[<-e];unfold Bx;rw[gT,A,aW rfl,atJ];simp only[atI,atQ];intro i hi;have l:i<Z' s:=Om;have g:(cA s).getD i 0=(s[i]:Nat):=by unfold cA;simp[asW,l]
  unfold kh;rw[g];have w:=(B _ (asS l)).2;simp only[asV,awY,dT_];refine⟨by omega,?_⟩;by_cases c:i=0;exact .inl c;right;have u:i-1<Z' s:=Om;have g2:(cA s).getD (i-1) 0=(s[i-1]:Nat):=by unfold cA;simp[asW,u]
  rw[g2];have:=List.pairwise_iff_getElem.1 D (i-1) i u l Om;omega
 unfold pU;rw[h,atJ]
theorem Kb{f:aB}(u:cI f=true)(lv e:Int):(lR f lv e).length<=1099511627776/\∀s∈lR f lv e,Z' s<=1000000000000000/\s.Pairwise (· < ·):=by
 unfold lR;split;obtain⟨w,l⟩:=Yk (VF.of u) (jF f lv) (jn (VF.of u) lv).2 e.toNat;exact⟨w,λs i=>⟨by have:=(l s i).1;omega,(l s i).2⟩⟩;exact⟨asQ _,λs i=>by cases i⟩
structure ajP(C:Ctx):Prop where
 Fl:∀(f:aB)(lv cnt:Int),f.Ok->aH C 230 [.agg f.cells,rI lv cnt] .nil (aK (.tup [lay (lR f lv cnt),.int .i64 (fS f lv cnt)]))
 holds:∀(f:aB)(l:L2_) (room:I_),f.Ok->iD l->aH C 150 [.agg f.cells,lay l,ints room] .nil (aK (.bool (eU f l room)))
 srt:∀row:I_,row≠[]->Z' row<=1000->aH C 368 [ints row] .nil (aK (ints (sorted row)))
 loss:∀(sc:L2_),Z' sc<=1000000000000000->(∀s∈sc,Z' s<=1000000000000000/\s.Pairwise (· < ·))->∀(set:I_),Z' set<=1000000000000000->set.Pairwise (· < ·)->∀m:Int,
  aH C 367 [lay sc,ints set,.int .i64 m] .nil (aK (.int .i64 (eO sc set m:Nat)))
def HI(loads R row:I_)(d:Int):Bool:=decide (loads.getD d.toNat 0+1-((row.count d:Nat):Int)<=R.getD d.toNat 0)
theorem acQ{K:bP}[Up K](loads R row set:I_)(D:Z' row<=1000)(k:Nat)(d a:Int)(A:-1000000000<=a/\a<=1000000000){F:PF}{H:PH}
  (w:((((((((((((n_.set 0 (ints loads)).set 1 (ints R)).set 2 (ints row)).set 10 (.j d)).set 11 (.j a)).set 14 (ints set)).set 15 (.j (Z' set:Nat))).set 16 (.j k)).set 25 (ints row)).set 26 (.j (Z' row:Nat))).set 27 (.j 0))).le F)
  (x:K (.exit 2) (((((((((n_.set 0 (ints loads)).set 1 (ints R)).set 2 (ints row)).set 10 (.j d)).set 11 (.j (a-((row.count d:Nat):Int)))).set 14 (ints set)).set 15 (.j (Z' set:Nat))).set 16 (.j k))) H):aJ.wp C (.loop fj) K F H:=by
 refine jL _ (λ_ _ _ _ a b=>Up.up a b) w ?_;refine wp_loop (α:=Nat) (λj=>(((((((((((n_.set 0 (ints loads)).set 1 (ints R)).set 2 (ints row)).set 10 (.j d)).set 11 (.j (a-(((row.take j).count d:Nat):Int)))).set 14 (ints set)).set 15 (.j (Z' set:Nat))).set 16 (.j k)).set 25 (ints row)).set 26 (.j (Z' row:Nat))).set 27 (.j j))) (λ_=>H) (λj=>j<=Z' row) (λj=>Z' row-j) 0 (asQ _) (by(repeat' (first|exact c_|refine e_ ?_ ?_))<;>first|(simp only[go_sem,avA,List.count_nil,Int.natCast_zero,Int.sub_zero]<;>rfl)|rfl) b_ ?_;intro j B;simp only[go_sem,fj];by_cases hlt:j<Z' row;have i:(j:Int)<(Z' row:Nat):=Om;have u:(row.map λn=>[PV.int .i64 n])[j]?=some [.j row[j]]:=by simp[hlt]
 have l:(row.take (j+1)).count d=(row.take j).count d+if row[j]=d then 1 else 0:=by rw[atW hlt,List.count_append,List.count_singleton];by_cases e:row[j]=d;simp[e];simp[e]
 have y:(row.take j).count d<=j:=atT List.count_le_length (by rw[atF];omega);simp only[go_sem,i,u];by_cases e:row[j]=d;rw[aF e]at l;simp only[go_sem,bR e,wrap_i64 (show -9223372036854775808<=a-(((row.take j).count d:Nat):Int)-1 by omega) Om,wZz j];exact aE (j+1) hlt Om (by exact lE1 (show a-(((row.take (j+1)).count d:Nat):Int)=a-(((row.take j).count d:Nat):Int)-1 from by omega)) b_;rw[aC e,auI]at l;simp only[go_sem,bH e,wZz j];exact aE (j+1) hlt Om (lE1 l) b_;have i:¬(j:Int)<(Z' row:Nat):=Om;have:j=Z' row:=Om;subst this;rw[atL];simp only[go_sem,i];exact Up.up Lq x
theorem acR(loads R row set:I_)(M:Z' row<=1000)(O:Z' set<=1000)(L:∀x∈loads,0<=x/\x<=100000000)(K:∀d∈set,0<=d/\d<(Z' loads:Nat)/\d<(Z' R:Nat)) :
  vz.wp C (aV uH.res (aK (.bool (set.all (HI loads R row))))) (g_ [ints loads,ints R,ints row,ints set]) .nil:=by
 simp only[go_sem,vz,uH,asO];refine wp_loop (α:=Nat) (λk=>((((((n_.set 0 (ints loads)).set 1 (ints R)).set 2 (ints row)).set 14 (ints set)).set 15 (.j (Z' set:Nat))).set 16 (.j k))) (λ_=>.nil) (λk=>k<=Z' set/\∀d∈set.take k,HI loads R row d=true) (λk=>Z' set-k) 0 ⟨asQ _,by simp⟩ Lq a_ ?_;rintro k ⟨N,y⟩;simp only[go_sem];by_cases hlt:k<Z' set;have e:(k:Int)<(Z' set:Nat):=Om;have w:(set.map λn=>[PV.int .i64 n])[k]?=some [.j set[k]]:=by simp[hlt]
 obtain⟨B,F,J⟩:=K set[k] (asS hlt);have u:=asS hlt;have A:set.take (k+1)=set.take k++[set[k]]:=atW hlt;generalize set[k]=d at *
 have i:d.toNat<Z' loads:=Om;have l:d.toNat<Z' R:=Om;have a1:(loads.map λn=>[PV.int .i64 n])[d.toNat]?=some [.j loads[d.toNat]]:=by simp[i]
 have a2:(R.map λn=>[PV.int .i64 n])[d.toNat]?=some [.j R[d.toNat]]:=by simp[l]
 have hb:=L _ (asS i);have g1:loads.getD d.toNat 0=loads[d.toNat]:=by simp[asW,i]
 have g2:R.getD d.toNat 0=R[d.toNat]:=by simp[asW,l]
 have D:HI loads R row d=decide (loads[d.toNat]+1-((row.count d:Nat):Int)<=R[d.toNat]):=by unfold HI;rw[g1,g2]
 generalize loads[d.toNat]=a at *
 generalize R[d.toNat]=b at *
 simp only[go_sem,e,w,B,F,a1,asO,wrap_i64 (Om:-9223372036854775808<=a+1) Om];refine acQ loads R row set M k d (a+1) Om Lq ?_;simp only[go_sem,B,J,a2,asO];by_cases c:a+1-((row.count d:Nat):Int)>b;simp only[go_sem,c];refine cZ (.inr rfl) Ev ?_;rw[bN];refine congrArg PV.bool (Eq.symm ?_);rw[List.all_eq_false];exact⟨d,u,by rw[D,bD Om];decide⟩;simp only[go_sem,c,wZz k];refine aE (k+1) ⟨hlt,λx E=>?_⟩ Om Lq a_;rw[A]at E;rcases auC.1 E with h|h
 exact y x h;rw[auB]at h;subst h;rw[D,aW Om];have e:¬(k:Int)<(Z' set:Nat):=Om;have:k=Z' set:=Om;subst this;rw[atL]at y;simp only[go_sem,e];refine cZ (.inr rfl) Ev ?_;rw[bN,atI.2 y]
def heE(o5 o6:Nat)(out l:I_):PH:=(h_.set o5 (.rows 1 (aM out))).set o6 (.map (false,[.int .i64]) (JP l))
theorem va(set:I_):∀row:I_,eT set row []=row.map λd=>if set.contains d then d else -1
 |[]=>rfl
 |d::t=>by unfold eT;rw[atU,va set t];split<;>rfl
theorem Yo(l:I_)(d:Int):JP l [KS.int .i64 d]=if l.contains d then some (.bool true)else none:=rfl
theorem agM{set row:I_}{k:Nat}(h:k<Z' row)(x:Int) :
  ((row.take k).map (λd=>if set.contains d then d else(-1:Int))++asT (Z' row-k) 0).set k x=(row.take k).map (λd=>if set.contains d then d else(-1:Int))++x::asT (Z' row-(k+1)) 0:=by
 rw[avQ _ _ (by rw[asO,atF];omega),asO,atF,avJ Om,auK,show row.length-k=(Z' row-(k+1))+1 by omega,List.replicate_succ];rfl
theorem abO{set row:I_}{k:Nat}(h:k<Z' row)(y x:Int) :
  ((row.take k).map (λd=>if set.contains d then d else(-1:Int))++y::asT (Z' row-(k+1)) 0).set k x=(row.take k).map (λd=>if set.contains d then d else(-1:Int))++x::asT (Z' row-(k+1)) 0:=by
 rw[avQ _ _ (by rw[asO,atF];omega),asO,atF,avJ Om,auK];rfl
theorem abN{set row:I_}{k:Nat}(h:k<Z' row)(y:Int) :
  (aM ((row.take k).map (λd=>if set.contains d then d else(-1:Int))++y::asT (Z' row-(k+1)) 0))[k]?=some [.j y]:=by
 have e:((row.take k).map (λd=>if set.contains d then d else(-1:Int))).length=k:=by rw[asO,atF];omega
 unfold aM;rw[atC,auS Om,e,auK];rfl
theorem Wv{K:bP}[Up K](row set:I_)(V:Z' set<=1000)(M:set.Nodup)(o5 o6:Nat)(A:¬o5=o6)(k:Nat)(N:k<Z' row)(l:I_){F:PF}
  (R:((((((((((((n_.set 1 (ints set)).set 5 (.osl o5 1 0 row.length)).set 6 (.map o6)).set 7 (.j k)).set 8 (.j row[k])).set 18 (ints row)).set 19 (.j (Z' row:Nat))).set 20 (.j k)).set 28 (ints set)).set 29 (.j (Z' set:Nat))).set 30 (.j 0))).le F)
  (S:K (.exit 2) (((((((n_.set 1 (ints set)).set 5 (.osl o5 1 0 row.length)).set 6 (.map o6)).set 18 (ints row)).set 19 (.j (Z' row:Nat))).set 20 (.j k)))
   (heE o5 o6 ((row.take k).map (λd=>if set.contains d then d else(-1:Int))++(if set.contains row[k]then row[k]else(-1:Int))::asT (Z' row-(k+1)) 0) (l++if set.contains row[k]then[row[k]]else[]))) :
  aJ.wp C (.loop UW) K F (heE o5 o6 ((row.take k).map (λd=>if set.contains d then d else(-1:Int))++-1::asT (Z' row-(k+1)) 0) l):=by
 have D:¬o6=o5:=λe=>A e.symm;have L:(k:Int)<(Z' row:Nat):=Om;have E:=λy x=>abO (set:=set) N y x;have B:=λy=>abN (set:=set) N y;generalize row[k]=d at *
 generalize(row.take k).map (λd=>if set.contains d then d else(-1:Int))=pre at *
 generalize asT (Z' row-(k+1)) (0:Int)=post at *
 refine jL _ (λ_ _ _ _ a b=>Up.up a b) R ?_;refine wp_loop (α:=Nat) (λj=>(((((((((((n_.set 1 (ints set)).set 5 (.osl o5 1 0 row.length)).set 6 (.map o6)).set 7 (.j k)).set 8 (.j d)).set 18 (ints row)).set 19 (.j (Z' row:Nat))).set 20 (.j k)).set 28 (ints set)).set 29 (.j (Z' set:Nat))).set 30 (.j j)))
  (λj=>heE o5 o6 (pre++(if(set.take j).contains d then d else(-1:Int))::post) (l++if(set.take j).contains d then[d]else[])) (λj=>j<=Z' set) (λj=>Z' set-j) 0 (asQ _) Lq (by rw[avA,show([]:I_).contains d=false from rfl,aC aR,aC aR,auA];exact b_) ?_
 intro j U;simp only[go_sem,UW];by_cases hlt:j<Z' set;have u:(j:Int)<(Z' set:Nat):=Om;have J:(set.map λn=>[PV.int .i64 n])[j]?=some [.j set[j]]:=by simp[hlt]
 have w:=C4 (d:=d) hlt;simp only[go_sem,u,J];by_cases e:set[j]=d;have O:(set.take j).contains d=false:=by
  cases h:(set.take j).contains d with
  |false=>rfl
  |true =>exfalso;obtain⟨i,hi,he⟩:=auG (avX.1 h);rw[atF]at hi;rw[List.getElem_take]at he;exact absurd ((List.getElem_inj M).1 (he.trans e.symm)) Om
 rw[O,Bool.false_or,aW e]at w;rw[O,aC aR,aC aR,auA];unfold heE;simp only[go_sem,bR e,L,A,D,B,iI,E,Tj,wZz j];refine aE (j+1) hlt Om Lq ?_;rw[w,aF rfl,aF rfl];exact d_ (d_ a_ (by simp only[go_sem,A])) Sq;rw[bD e,Bool.or_false]at w;simp only[go_sem,bH e,wZz j];refine aE (j+1) hlt Om Lq ?_;rw[w];exact b_;have u:¬(j:Int)<(Z' set:Nat):=Om;have:j=Z' set:=Om;subst this;rw[atL];simp only[go_sem,u];exact Up.up Lq S
theorem di(p:Int->Bool)(y:Int):[y].filter p=if p y then[y]else[]:=by
 rw[List.filter_cons,List.filter_nil]
theorem Cn(r:I_)(y:Int):[y].filter (λs=>!r.contains s)=if r.contains y then[]else[y]:=by
 rw[di];cases r.contains y<;>rfl
theorem mp{o5 o6:Nat}(e:¬o5=o6)(out l:I_):heE o5 o6 out l o5=some (.rows 1 (aM out)):=by
 unfold heE;simp only[go_sem,e]
theorem agV(o5 o6:Nat)(out l:I_):heE o5 o6 out l o6=some (.map (false,[.int .i64]) (JP l)):=by
 unfold heE;simp only[go_sem]
theorem Jh{o5 o6:Nat}(u:¬o5=o6)(out i l:I_):(heE o5 o6 out l).set o5 (.rows 1 (aM i))=heE o5 o6 i l:=by
 unfold heE;refine PH.ext λq=>?_;simp only[aO];by_cases e:q=o5;subst e;simp[u];simp[e]
theorem M3{K:bP}[Up K](set out l:I_)(n:Nat)(M:Z' out=n)(L:n<=1000)(o5 o6:Nat)(D:¬o5=o6)(s:Int)(j:Nat)(i p:Nat)(hi:i<=p)(hp:p<n)(u:out[p]?=some (-1))(B:∀(q:Nat) y,q<p->out[q]?=some y->0<=y){F:PF}
  (E:((((((((n_.set 5 (.osl o5 1 0 n)).set 6 (.map o6)).set 11 (.j i)).set 13 (.j s)).set 45 (ints set)).set 46 (.j (Z' set:Nat))).set 47 (.j j))).le F)
  (J:K (.exit 6) ((((((((n_.set 5 (.osl o5 1 0 n)).set 6 (.map o6)).set 11 (.j p)).set 13 (.j s)).set 45 (ints set)).set 46 (.j (Z' set:Nat))).set 47 (.j j))) (heE o5 o6 out l)):aJ.wp C (.loop JE) K F (heE o5 o6 out l):=by
 refine jL _ (λ_ _ _ _ a b=>Up.up a b) E ?_;refine wp_loop (α:=Nat) (λi=>(((((((n_.set 5 (.osl o5 1 0 n)).set 6 (.map o6)).set 11 (.j i)).set 13 (.j s)).set 45 (ints set)).set 46 (.j (Z' set:Nat))).set 47 (.j j))) (λ_=>heE o5 o6 out l) (λi=>i<=p) (λi=>p-i) i hi Lq b_ ?_;intro i hi;have h5:=mp D out l;have A:(i:Int)<(n:Nat):=Om;have x:i<Z' out:=Om;have w:(aM out)[i]?=some [.j out[i]]:=rC x;by_cases e:i=p;subst e;have e2:out[i]=-1:=by rw[asZ x]at u;injection u
 rw[e2]at w;simp only[go_sem,JE,A,h5,w];exact Up.up Lq J;have e2:=B i out[i] Om (asZ x);simp only[go_sem,JE,A,h5,w,show out[i]>=0 from e2,wZz i];exact aE (i+1) Om Om Lq b_
theorem Ww(row set:I_)(hr:Z' row<=1000)(hs:Z' set<=1000)(h0:∀x∈row,0<=x)(h1:∀x∈set,0<=x)(ε:set.Nodup)(γ:(eJ row set).length=(row.filter λd=>!set.contains d).length)(μ:row≠[]) :
  nb.wp C (aV jS.res (aK (ints (eT set row (eJ row set))))) (g_ [ints row,ints set]) .nil:=by
 have X:(Z' row:Int)*((8:Nat):Int)<=140737488355328:=Om;have Y:(Z' row:Int)<=9223372036854775807:=Om;simp only[go_sem,nb,jS,asO,X,Y];refine aQ λo5 h5=>?_;simp only[go_sem];refine aQ λo6 h6=>?_;have u:¬o5=o6:=by rintro rfl;simp only[bK]at h6;cases h6
 simp only[go_sem,asO];refine wp_loop (α:=Nat) (λk=>((((((n_.set 1 (ints set)).set 5 (.osl o5 1 0 row.length)).set 6 (.map o6)).set 18 (ints row)).set 19 (.j (Z' row:Nat))).set 20 (.j k)))
  (λk=>heE o5 o6 ((row.take k).map (λd=>if set.contains d then d else(-1:Int))++asT (Z' row-k) 0) ((row.take k).filter λd=>set.contains d)) (λk=>k<=Z' row) (λk=>Z' row-k) 0 (asQ _) Lq ?_ ?_
 rw[avA,auH,awO,Nat.sub_zero,List.filter_nil];unfold heE;rw[Ti,<-oW];exact b_;intro k hk;simp only[go_sem];by_cases hlt:k<Z' row;have w:(k:Int)<(Z' row:Nat):=Om;have E:(row.map λn=>[PV.int .i64 n])[k]?=some [.j row[k]]:=by simp[hlt]
 have D:row.take (k+1)=row.take k++[row[k]]:=atW hlt;have S:=agM (set:=set) hlt (-1);have L:=mp u ((row.take k).map (λd=>if set.contains d then d else(-1:Int))++asT (Z' row-k) 0) ((row.take k).filter λd=>set.contains d);have O:(aM ((row.take k).map (λd=>if set.contains d then d else(-1:Int))++asT (Z' row-k) 0))[k]?=some [.j 0]:=by
  have e:((row.take k).map (λd=>if set.contains d then d else(-1:Int))).length=k:=by rw[asO,atF];omega
  unfold aM;rw[atC,auS Om,e,auK,List.getElem?_replicate,aF Om];rfl
 have U:=Jh u ((row.take k).map (λd=>if set.contains d then d else(-1:Int))++asT (Z' row-k) 0) ((row.take k).map (λd=>if set.contains d then d else(-1:Int))++-1::asT (Z' row-(k+1)) 0) ((row.take k).filter λd=>set.contains d);have inner:=λ{K:bP} [Up K] {F:PF}=>Wv (C:=C) (K:=K) row set hs ε o5 o6 u k hlt ((row.take k).filter λd=>set.contains d) (F:=F);have e1:(row.take (k+1)).map (λd=>if set.contains d then d else(-1:Int))++asT (Z' row-(k+1)) 0=(row.take k).map (λd=>if set.contains d then d else(-1:Int))++(if set.contains row[k]then row[k]else(-1:Int))::asT (Z' row-(k+1)) 0:=by rw[D,atK,atV];rfl
 have e2:(row.take (k+1)).filter (λd=>set.contains d)=(row.take k).filter (λd=>set.contains d)++if set.contains row[k]then[row[k]]else[]:=by rw[D,awH,di]
 simp only[go_sem,w,E,L,O,iI,S,U,asO];refine inner Lq ?_;rw[<-e1,<-e2];simp only[go_sem,wZz k];exact aE (k+1) hlt Om Lq b_;have w:¬(k:Int)<(Z' row:Nat):=Om;have:k=Z' row:=Om;subst this;rw[atL,auK,List.replicate_zero,auA,<-va];simp only[go_sem,w,asO];have β:∀j,((set.take j).filter λs=>!row.contains s).length<=(eJ row set).length:=λj=>by unfold eJ;exact((List.take_sublist j set).filter _).length_le
 refine wp_loop (α:=Nat × Nat) (λt=>((((((n_.set 5 (.osl o5 1 0 row.length)).set 6 (.map o6)).set 11 (.j t.2)).set 45 (ints set)).set 46 (.j (Z' set:Nat))).set 47 (.j t.1)))
  (λt=>heE o5 o6 (eT set row ((set.take t.1).filter λs=>!row.contains s)) (row.filter λd=>set.contains d))
  (λt=>t.1<=Z' set/\t.2<=1000/\∀p,wR set row ((set.take t.1).filter λs=>!row.contains s).length=some p->t.2<=p) (λt=>Z' set-t.1) (0,0) ⟨asQ _,asQ _,λ_ _=>asQ _⟩ Lq (by rw[avA,List.filter_nil];exact b_) ?_
 rintro⟨j,i⟩ ⟨hj,R,hi⟩;simp only at hj R hi ⊢;simp only[go_sem];by_cases A:j<Z' set;have B:(j:Int)<(Z' set:Nat):=Om;have E:(set.map λn=>[PV.int .i64 n])[j]?=some [.j set[j]]:=by simp[A]
 have D:set.take (j+1)=set.take j++[set[j]]:=atW A;have V:set[j]∈set:=asS A;have J:(row.filter λd=>set.contains d).contains set[j]=row.contains set[j]:=by rw[Bool.eq_iff_iff,avX,avX,awT,avX];exact⟨λh=>h.1,λh=>⟨h,V⟩⟩
 have W:=agV o5 o6 (eT set row ((set.take j).filter λs=>!row.contains s)) (row.filter λd=>set.contains d);have l:(set.take (j+1)).filter (λs=>!row.contains s)=(set.take j).filter (λs=>!row.contains s)++if row.contains set[j]then[]else[set[j]]:=by rw[D,awH,Cn]
 have M:=β (j+1);have ν:=h1 _ V;have N:∀y∈(set.take j).filter (λs=>!row.contains s),0<=y:=λy hy=>h1 y (awU (awT.1 hy).1);generalize set[j]=s at *
 simp only[go_sem,B,E,W,Yo,J];by_cases c:row.contains s=true;rw[aF c,auA]at l;simp only[go_sem,c,wZz j];exact aE (j+1,i) ⟨A,R,by rw[l];exact hi⟩ sO_ Lq (by rw[l];exact b_);rw[aC c]at l;rw[l,asX,atD]at M;obtain⟨p,hp⟩:=RE set row ((set.take j).filter λs=>!row.contains s).length Om;have ζ:=i7 set row _ _ hp;obtain⟨x1,x2,x3⟩:=UM set s row ((set.take j).filter λs=>!row.contains s) p hp;have x4:=x3 h0 N;have Z:=sL set row ((set.take j).filter λs=>!row.contains s);have arY:=λq h=>RD set row _ p q hp h;have δ:=hi p hp;have θ:=Jh u (eT set row ((set.take j).filter λs=>!row.contains s)) ((eT set row ((set.take j).filter λs=>!row.contains s)).set p s) (row.filter λd=>set.contains d);have L:=mp u (eT set row ((set.take j).filter λs=>!row.contains s)) (row.filter λd=>set.contains d);generalize κ:(set.take j).filter (λs=>!row.contains s)=fr at *
 have η:(p:Int)<(Z' row:Nat):=Om;have ι:(aM (eT set row fr))[p]?=some [.j (-1)]:=by unfold aM;rw[atC,x2];rfl
 have cf:row.contains s=false:=by simpa using c
 simp only[go_sem,cf];refine M3 set (eT set row fr) (row.filter λd=>set.contains d) row.length Z hr o5 o6 u s j i p δ ζ x2 x4 Lq ?_;simp only[go_sem,η,L,ι,iI,θ,wZz j];refine aE (j+1,p) ⟨A,by omega,λq hq=>?_⟩ sO_ Lq ?_;simp only at hq;rw[l,asX,atD]at hq;exact Nat.le_of_lt (arY q hq);simp only;rw[l,x1];exact b_;have B:¬(j:Int)<(Z' set:Nat):=Om;have:j=Z' set:=Om;subst this;rw[atL];have L:=mp u (eT set row (eJ row set)) (row.filter λd=>set.contains d);simp only[go_sem,B];refine BS (o:=o5) (s:=1) (k:=Z' row) (rs:=aM (eT set row (eJ row set))) (.inr rfl) Sq L (by rw[bV,sL];omega) ?_;rw[show(aM (eT set row (eJ row set))).take row.length=aM (eT set row (eJ row set))from atP (by rw[bV,sL];omega)];exact⟨rfl,rfl⟩
theorem OE(set:I_):∀(row fr:I_)(k:Nat)(h:k<Z' row),(eT set row fr)[k]?=some (if set.contains row[k]then row[k]else fr.getD ((row.take k).filter λd=>!set.contains d).length (-1))
 |[],_,_,h=>absurd h (Nat.not_lt_zero _)
 |d::t,fr,0,_=>by unfold eT;simp only[axF,avA,List.filter_nil,avD];split;rfl;cases fr<;>rfl
 |d::t,fr,k+1,h=>by
  have e:k<Z' t:=by simpa using h
  unfold eT;rw[List.take_succ_cons,List.filter_cons];simp only[axH];by_cases c:set.contains d=true;rw[aF c,show(!set.contains d)=false by rw[c];rfl];exact OE set t fr k e
  ·rw[aC c,show(!set.contains d)=true by simpa using c];cases fr with
   |nil=>exact OE set t [] k e
   |cons x fr=>exact OE set t fr k e
def slF(row set:I_)(o5:Nat)(t:Nat × PV):PF:=(((((n_.set 0 (ints row)).set 1 (ints set)).set 5 (.osl o5 1 0 row.length)).set 6 (t.2)).set 8 (.int .i64 t.1))
def slH(row set:I_)(o5:Nat)(t:Nat × PV):PH:=h_.set o5 (.rows 1 (aM ((eT set row (eJ row set)).take t.1++asT (Z' row-t.1) 0)))
def slN(row set:I_)(k:Nat):Nat:=((row.take k).filter λd=>!set.contains d).length
theorem aiC{E:I_}{k n:Nat}(h:k<n):E.take k++asT (n-k) 0=E.take k++(0:Int)::asT (n-(k+1)) 0:=by
 rw[show n-k=(n-(k+1))+1 by omega,List.replicate_succ]
theorem apS{E l:I_}{k:Nat}(e:k<=Z' E)(y:Int):(aM (E.take k++y::l))[k]?=some [.j y]:=by
 unfold aM;rw[atC,auS (by rw[atF];omega),atF,avJ e,auK];rfl
theorem aiD{E l:I_}{k:Nat}(e:k<=Z' E)(x y:Int):(E.take k++y::l).set k x=E.take k++x::l:=by
 rw[avQ _ _ (by rw[atF];omega),atF,avJ e,auK];rfl
theorem alJ{E l:I_}{k:Nat}{x:Int}(h:E[k]?=some x):E.take k++x::l=E.take (k+1)++l:=by
 obtain⟨e,rfl⟩:=atX.1 h;rw[atW e,atV];rfl
theorem Hx{K:bP}[Up K](has:∀(l:I_)(x:Int),Z' l<=1000000000000000->aH C 378 [ints l,.j x] .nil (aK (.bool (l.contains x))))
  (row set:I_) (W:Z' row<=1000) (X:Z' set<=1000) (u:(eJ row set).length=(row.filter λd=>!set.contains d).length) (o5:Nat)
  (O:K (.exit 2) ((n_.set 5 (.osl o5 1 0 row.length))) (h_.set o5 (.rows 1 (aM (eT set row (eJ row set)))))) (t:Nat × PV) (V:t.1<=Z' row/\Seen 1 t.2 (aM ((eJ row set).drop (slN row set t.1)))) :
  II.wp C (fK (slF row set o5) (slH row set o5) (λt=>t.1<=Z' row/\Seen 1 t.2 (aM ((eJ row set).drop (slN row set t.1)))) (λt=>Z' row-t.1) (Z' row-t.1) K) (slF row set o5 t) (slH row set o5 t):=by
 obtain⟨k,v⟩:=t;obtain⟨U,A⟩:=V;simp only at U A ⊢;unfold slF slH;have S:=sL set row (eJ row set);simp only[go_sem,II,asO];by_cases hlt:k<Z' row
 ·have i:(k:Int)<(Z' row:Nat):=Om;have B:(row.map λn=>[PV.int .i64 n])[k]?=some [.j row[k]]:=by simp[hlt]
  have w:=OE set row (eJ row set) k hlt;have e:slN row set (k+1)=slN row set k+if set.contains row[k]then 0 else 1:=by unfold slN;rw[atW hlt,awH,asX,di];cases set.contains row[k]<;>rfl
  have R:slN row set (k+1)<=(eJ row set).length:=by rw[u];exact((List.take_sublist (k+1) row).filter _).length_le
  rw[show((row.take k).filter λd=>!set.contains d).length=slN row set k from rfl]at w;have L:=λx y=>aiD (E:=eT set row (eJ row set)) (l:=asT (Z' row-(k+1)) 0) (k:=k) Om x y;have J:=λy=>apS (E:=eT set row (eJ row set)) (l:=asT (Z' row-(k+1)) 0) (k:=k) Om y;rw[aiC hlt];have M:∀{x:Int},(eT set row (eJ row set))[k]?=some x->_:=λh=>alJ (l:=asT (Z' row-(k+1)) 0) h;generalize row[k]=d at *
  simp only[go_sem,i,B,iI,J,L,asO];refine aD (has set d Om) Ev ?_;cases c:set.contains d with
  |true =>rw[c,aF rfl]at w;rw[c,aF rfl,auI]at e;simp only[go_sem,asY,wZz k];exact aE (k+1,v) ⟨hlt,by rw[e];exact A⟩ sO_ Lq (by simp only;rw[M w];exact b_)
  |false=>
   rw[c,aC aR]at w;rw[c,aC aR]at e;have F:slN row set k<(eJ row set).length:=Om;have N:(eJ row set).getD (slN row set k) (-1)=(eJ row set)[slN row set k]:=by simp[asW,F]
   rw[N]at w;have D:=avF F;rw[D]at A;generalize(eJ row set)[slN row set k]=x at *
   rcases A with⟨h,-⟩|rfl
   cases h;have s1:aM (x::(eJ row set).drop (slN row set k+1))=[.j x]::aM ((eJ row set).drop (slN row set k+1)):=rfl;simp only[go_sem,atH,i,s1,iI,J,L,atL,show(1:Int)<=(((aM ((eJ row set).drop (slN row set k+1))).length+1:Nat):Int) by omega,wZz k];refine aE (k+1,.sl 1 (aM ((eJ row set).drop (slN row set k+1)))) ⟨hlt,.inr (by rw[e])⟩ sO_ Lq (by simp only;rw[M w];exact b_)
 have i:¬(k:Int)<(Z' row:Nat):=Om;have:k=Z' row:=Om;subst this;rw[atP Om,auK,List.replicate_zero,auA];simp only[go_sem,i];exact Up.up Lq O
theorem Hy(has:∀(l:I_)(x:Int),Z' l<=1000000000000000->aH C 378 [ints l,.j x] .nil (aK (.bool (l.contains x))))
  (row set:I_) (hr:Z' row<=1000) (O:Z' set<=1000) (y:(eJ row set).length=(row.filter λd=>!set.contains d).length) :
  TB.wp C (aV iY.res (aK (ints (eT set row (eJ row set))))) (g_ [ints row,ints set]) .nil:=by
 have J:(Z' row:Int)*((8:Nat):Int)<=140737488355328:=Om;have L:(Z' row:Int)<=9223372036854775807:=Om;have F:(1:Nat)*1<=16777216:=by decide
 simp only[go_sem,TB,iY,asO,J,L];refine aQ λo5 h5=>?_;simp only[go_sem,asO];have Y:aN (h_.set o5 (.rows 1 (aM (asT row.length 0)))) [(o5,.rows 1 (aM (asT row.length 0)))] [(.aG,1,aM ((set.take 0).filter λs=>!row.contains s))]:=(aN.nil.new (H:=h_) rfl _).lE 1;refine wp_loop (α:=T3_) (λt=>(((((n_.set 0 (ints row)).set 1 (ints set)).set 5 (.osl o5 1 0 row.length)).set 6 (t.2.1)).set 7 (.j t.1))) (λt=>t.2.2)
  (λt=>t.1<=Z' set/\aN t.2.2 [(o5,.rows 1 (aM (asT row.length 0)))] [(t.2.1,1,aM ((set.take t.1).filter λs=>!row.contains s))]) (λt=>Z' set-t.1) (0,.aG,_) ⟨asQ _,Y⟩ Lq (by rw[<-oW];exact b_) ?_
 rintro⟨j,v,H⟩ ⟨hj,w⟩;simp only at hj w ⊢;simp only[go_sem,asO];by_cases u:j<Z' set
 ·have e:(j:Int)<(Z' set:Nat):=Om;have A:(set.map λn=>[PV.int .i64 n])[j]?=some [.j set[j]]:=by simp[u]
  have i:(set.take (j+1)).filter (λs=>!row.contains s)=(set.take j).filter (λs=>!row.contains s)++if row.contains set[j]then[]else[set[j]]:=by rw[atW u,awH,Cn]
  have β:((set.take j).filter λs=>!row.contains s).length<=1000:=atT ((List.take_sublist j set).filter _).length_le (atT (awJ ..) O);generalize set[j]=s at *
  simp only[go_sem,e,A];refine aD (has row s Om) Ev ?_;cases c:row.contains s with
  |true =>rw[c,aF rfl,auA]at i;simp only[go_sem,asY,wZz j];exact aE (j+1,v,H) ⟨u,by rw[i];exact w⟩ sO_ Lq b_
  |false =>rw[c,aC aR]at i;simp only[go_sem,atH,e,A,F,asO];refine w.append 0 (src:=[[.int .i64 s]]) rfl Sq (by unfold roomFor;rw[bV];simp only[atD,maxLen];omega) λv' H' N _=>?_;rw[OY,<-i]at N;simp only[go_sem,wZz j];exact aE (j+1,v',H') ⟨u,N⟩ sO_ Lq b_
 have e:¬(j:Int)<(Z' set:Nat):=Om;have:j=Z' set:=Om;subst this;rw[atL]at w;have R:slH row set o5 (0,v)=h_.set o5 (.rows 1 (aM (asT row.length 0))):=by unfold slH;simp only[avA,awO,Nat.sub_zero]
 have hb:=λ{K:bP} [Up K]=>Hx (C:=C) (K:=K) has row set hr O y o5;simp only[go_sem,e];have B:slN row set 0=0:=rfl;have D:Z' row<=(aM (eT set row (eJ row set))).length:=by rw[bV,sL];omega
 have E:(aM (eT set row (eJ row set))).take row.length=aM (eT set row (eJ row set)):=atP (by rw[bV,sL];omega);rcases w.own 0 rfl with⟨Z,rfl⟩|⟨q,rs,rfl,-⟩
 refine wp_loop (slF row set o5) (slH row set o5) _ _ (0,.aG) ⟨asQ _,.inl ⟨by rw[B,avG];exact Z,rfl⟩⟩ (by unfold slF;exact Lq) (by rw[R];exact d_ a_ (w.at 0 rfl)) (hb ?_);simp only[go_sem];exact BS (o:=o5) (s:=1) (k:=Z' row) (.inr rfl) Sq (bK ..) D (by rw[E];exact⟨rfl,rfl⟩);obtain⟨rs,g1,-,g3,-,X⟩:=w.frz 0 rfl;have M:o5≠q:=w.neL 0 0 rfl rfl rfl;have S:∀l,PV.frz q 1 rs (ints l)=ints l:=λ_=>rfl;have W:∀n,PV.frz q 1 rs (.j n)=.j n:=λ_=>rfl;have U:PV.frz q 1 rs (.osl o5 1 0 row.length)=.osl o5 1 0 row.length:=by simp only[PV.frz,PV.mM,PV.cO,aC M]
 have V:PV.frz q 1 rs (.osl q 1 0 (aM (set.filter λs=>!row.contains s)).length)=.sl 1 (aM (eJ row set)):=g3;refine Ip (slF row set o5) (slH row set o5) _ _ (0,.sl 1 (aM (eJ row set))) q g1 ⟨asQ _,.inr (by rw[B,avG])⟩ (by unfold slF;exact lE4 S W U V) ?_ (hb ?_);rw[show slH row set o5 (0,PV.sl 1 (aM (eJ row set)))=h_.set o5 (.rows 1 (aM (asT row.length 0)))from R];refine d_ a_ ((X.at 0 rfl).trans ?_);simp only[aS.frz];rw[show(aM (asT row.length 0)).map (λr=>r.map (PV.cO q 1 rs))=aM (asT row.length 0) by simp[aM,PV.cO]];simp only[go_sem];exact BS (o:=o5) (s:=1) (k:=Z' row) (.inr rfl) Sq (bK ..) D (by rw[E];exact⟨rfl,rfl⟩)
def nQ(f:aB)(sc:L2_)(p:Nat):P2_:=(gQ f (f.arF.getD p ny)).map λs=>[ints s,.int .i64 (eO sc s (f.arF.getD p ny).m:Nat)]
def xN:P2_->PV
 |[]=>.aG
 |x::r=>.sl 2 (x::r)
def wW(f:aB)(sc:L2_)(k p:Nat):P2_:=if(asP k).any λv=>dI f v==p then nQ f sc p else[]
def iT(f:aB)(sc:L2_)(k:Nat):P2_:=(asP f.arF.length).map λp=>[xN (wW f sc k p)]
theorem oO(f:aB)(sc:L2_)(k:Nat):(iT f sc k).length=Z' f.arF:=by unfold iT;simp
theorem DH(f:aB)(sc:L2_)(k:Nat){p:Nat}(h:p<Z' f.arF):(iT f sc k)[p]?=some [xN (wW f sc k p)]:=by unfold iT;simp[h]
theorem ba(f:aB)(sc:L2_)(k:Nat):iT f sc (k+1)=(iT f sc k).set (dI f k) [xN (nQ f sc (dI f k))]:=by
 refine List.ext_getElem? λi=>?_;rw[avY];by_cases hi:i<Z' f.arF;rw[DH f sc _ hi];have e:(asP (k+1)).any (λv=>dI f v==i)=((asP k).any (λv=>dI f v==i)||dI f k==i):=by rw[avH,List.any_append,List.any_cons,List.any_nil,Bool.or_false]
 by_cases h:dI f k=i;subst h;rw[aF rfl,oO,aF hi];unfold wW;rw[e,show(dI f k==dI f k)=true from beq_self_eq_true _,Bool.or_true,aF rfl];rw[aC h,DH f sc _ hi];unfold wW;rw[e,show(dI f k==i)=false by simpa using h,Bool.or_false];rw[auE (by rw[oO];omega)];split;rw[aC (by rw[oO];omega)];rw[auE (by rw[oO];omega)]
theorem Hm(f:aB)(sc:L2_)(k:Nat)(h:wW f sc k (dI f k)≠[]):iT f sc (k+1)=iT f sc k:=by
 rw[ba];have e:nQ f sc (dI f k)=wW f sc k (dI f k):=by unfold wW at h ⊢;split;rfl;rename_i c;rw[aC c]at h;exact absurd rfl h
 refine List.ext_getElem? λi=>?_;rw[avY];split;rename_i hi;subst hi;split;rename_i c;rw[oO]at c;rw[DH f sc k c,e];rename_i c;rw[auE Om];rfl
theorem Yq{α:Type}{l:List α}{i:Nat}{x:α}(h:l[i]?=some x):l.set i x=l:=by
 refine List.ext_getElem? λj=>?_;rw[avY];split;rename_i e;subst e;obtain⟨u,-⟩:=atX.1 h;rw[aF u,h];rfl
theorem Hl(f:aB)(sc:L2_)(k q s:Nat)(rs:P2_):(iT f sc k).map (λr=>r.map (PV.cO q s rs))=iT f sc k:=by
 unfold iT;rw[avT];refine avO λp _=>?_;show[PV.cO q s rs (xN _)]=_;cases wW f sc k p<;>rfl
structure ajR(C:Ctx):Prop where
 all:∀(f:aB)(arO:Int),f.Ok->aH C 205 [.agg f.cells,.int .i64 arO] .nil (aK (.tup [lay (zK f arO),.int .i64 (sP f arO)]))
 loss:∀(sc:L2_),Z' sc<=1000000000000000->(∀s∈sc,Z' s<=1000000000000000/\s.Pairwise (· < ·))->∀(set:I_),Z' set<=1000000000000000->set.Pairwise (· < ·)->∀m:Int,
  aH C 367 [lay sc,ints set,.int .i64 m] .nil (aK (.int .i64 (eO sc set m:Nat)))
theorem Hh(Lb:ajR C)(f:aB)(hf:f.Ok)(hv:cI f=true)(μ:Z' f.arB<=12)(sc:L2_)(h1:Z' sc<=1000000000000000)(h2:∀s∈sc,Z' s<=1000000000000000/\s.Pairwise (· < ·)) :
  SX.wp C (aV PD.res (cN (.sl 1 (iT f sc f.arD.length)))) (g_ [.agg f.cells,lay sc]) .nil:=by
 have hV:=VF.of hv;have W:=hV.small;have ξ:=W.arF;have ο:=W.arD;have δ:(Z' f.arF:Int)*((24:Nat):Int)<=140737488355328:=Om;have ε:(Z' f.arF:Int)<=9223372036854775807:=Om;simp only[go_sem,SX,PD,asO,δ,ε];refine aQ λo ho=>?_;simp only[go_sem,asO];refine wp_loop (α:=Nat) (λk=>((((((n_.set 1 (lay sc)).set 2 (.aU f.cells)).set 5 (.osl o 1 0 f.arF.length)).set 17 (.sl 2 (f.arD.map gD.cells))).set 18 (.j (Z' f.arD:Nat))).set 19 (.j k))) (λk=>h_.set o (.rows 1 (iT f sc k))) (λk=>k<=Z' f.arD) (λk=>Z' f.arD-k) 0 (asQ _) Lq ?_ ?_;have Z:iT f sc 0=asT f.arF.length [PV.aG]:=by unfold iT wW;simp only[List.range_zero,List.any_nil,auQ,if_false,xN];exact avL aZ λi h1 h2=>by simp
 rw[Z];exact b_;intro k hk;simp only[go_sem];by_cases hlt:k<Z' f.arD;have A:(k:Int)<(Z' f.arD:Nat):=Om;obtain⟨hp,he⟩:=iN hV hlt;have L:=DH f sc k hp;simp only[go_sem,A,oT hlt,hV.AH hlt,asO];refine aQ λo7 h7=>?_;have N:¬o=o7:=by rintro rfl;rw[bK]at h7;cases h7
 have F:((dI f k:Nat):Int)<(Z' f.arF:Nat):=Om;have hH:=((aN.nil (H:=h_)).new rfl (.rows 1 (iT f sc k))).new h7 (.rows 2 [[PV.str f.arD[k].name,PV.int IntKind.i64 ((dI f k:Nat):Int)]]);simp only[go_sem,F,N,L];by_cases hc:wW f sc k (dI f k)=[];have D:xN (wW f sc k (dI f k))=.aG:=by rw[hc];rfl
 rw[D]at L;simp only[go_sem,D,show PV.tN .aG=some true from rfl];have R:=hV.arO _ (asS hp);rw[he]at R;have ν:f.arF.getD (dI f k) ny=bF f k:=rfl;have ζ:mZ f ((dI f k:Nat):Int)=true:=by unfold mZ;rw[hv,aW Om,aW F];rfl
 have hE:sP f ((dI f k:Nat):Int)=0:=by unfold sP;rw[ζ,aF rfl,aC Om]
 have hP:zK f ((dI f k:Nat):Int)=gQ f (bF f k):=by unfold zK;rw[hE,aF rfl];rfl
 have ka:=Lb.all f ((dI f k:Nat):Int) hf;rw[hE,hP]at ka;have V:∀s∈gQ f (bF f k),Z' s<=1000000000000000/\s.Pairwise (· < ·):=λs hs=>by obtain⟨z1,-,z3,-⟩:=GL (f:=f) (by unfold gR;omega) hs;exact⟨by unfold gR at z1;omega,z3⟩
 have θ:(gQ f (bF f k)).length<=100000:=by have a1:=tG f.arB.length (gR (bF f k)).toNat 0;have a2:2^(Z' f.arB-0)<=2^12:=awW aR Om;have a3:=awJ (mX f (bF f k)) ((dQ f.arB.length (gR (bF f k)).toNat 0).map cA);rw[asO]at a3;unfold gQ;omega
 have E:nQ f sc (dI f k)=(gQ f (bF f k)).map λs=>[ints s,.j (eO sc s (bF f k).m:Nat)]:=rfl;generalize hS:gQ f (bF f k)=S at *
 refine aD ka Ev ?_;simp only[go_sem,asO];have γ:=hH.lE 2;refine wp_loop (α:=T3_) (λt=>((((((((((n_.set 1 (lay sc)).set 2 (.aU f.cells)).set 5 (.osl o 1 0 f.arF.length)).set 7 (.ptr o7 2 0 0)).set 17 (.sl 2 (f.arD.map gD.cells))).set 18 (.j (Z' f.arD:Nat))).set 19 (.j k)).set 36 (lay S)).set 37 (.j (Z' S:Nat))).set 38 (.j t.1)))
  (λt=>t.2.2) (λt=>t.1<=Z' S/\(t.1=0->t.2.1=.aG)/\aN t.2.2 [(o,.rows 1 ((iT f sc k).set (dI f k) [t.2.1])),(o7,.rows 2 [[PV.str f.arD[k].name,PV.int IntKind.i64 ((dI f k:Nat):Int)]])] [(t.2.1,2,(nQ f sc (dI f k)).take t.1)]) (λt=>Z' S-t.1) (0,.aG,_) ⟨asQ _,λ_=>rfl,?_⟩ Lq b_ ?_
 simp only;rw[avA,Yq L];exact γ;rintro⟨j,w,H⟩ ⟨hj,X,u⟩;simp only at hj X u ⊢;simp only[go_sem];by_cases K:j<Z' S;have B:(j:Int)<(Z' S:Nat):=Om;have U:(S.map λr=>[ints r])[j]?=some [ints S[j]]:=by simp[K]
 obtain⟨s1,s2⟩:=V _ (asS K);have kl:=Lb.loss sc h1 h2 S[j] s1 s2 (bF f k).m;have ι:(nQ f sc (dI f k)).take (j+1)=(nQ f sc (dI f k)).take j++[[ints S[j],.j (eO sc S[j] (bF f k).m:Nat)]]:=by rw[atW (by rw[E,asO];exact K)];congr 2;simp[E]
 have g5:=u.at 0 rfl;have g7:=u.at 1 rfl;generalize S[j]=s at *
 generalize eO sc s (bF f k).m=x at *
 simp only[go_sem,B,U];have hw:((iT f sc k).set (dI f k) [w])[dI f k]?=some [w]:=by rw[List.getElem?_set_self (by rw[oO];exact hp)]
 refine bE ((h_.set o (.rows 1 ((iT f sc k).set (dI f k) [w]))).set o7 (.rows 2 [[PV.str f.arD[k].name,PV.int IntKind.i64 ((dI f k:Nat):Int)]])) (cyS (.j (x:Nat))) (d_ (d_ a_ g5) g7) ?_;simp only[go_sem,g5,g7,F,N,hw,lG hp,he,asO];refine cJ rfl kl Sq (d_ (d_ a_ g5) g7) ?_;have y:(nQ f sc (dI f k)).length=Z' S:=by rw[E,asO]
 simp only[go_sem];refine u.append 0 (src:=[[ints s,.j (x:Nat)]]) rfl Sq (by unfold roomFor;rw[atF];simp only[atD,maxLen];omega) λY H' O hq=>⟨d_ (d_ a_ (O.at 0 rfl)) (O.at 1 rfl),?_⟩;obtain⟨q',rfl⟩:=hq aZ;rw[<-ι]at O ⊢;have β:=O.at 0 rfl;simp only[go_sem,F];refine bE .nil cR a_ ?_;simp only[go_sem,β,hw,List.set_set,avR];generalize ρ:PV.osl q' 2 0 ((nQ f sc (dI f k)).take (j+1)).length=Y at *
 have h3:=O.set 0 rfl (.rows 1 ((iT f sc k).set (dI f k) [Y]));simp only[go_sem,wZz j];refine⟨a_,?_⟩;exact aE (j+1,Y,H'.set o (.rows 1 ((iT f sc k).set (dI f k) [Y]))) ⟨K,λh=>absurd h (Nat.succ_ne_zero _),h3⟩ sO_ Lq b_;have B:¬(j:Int)<(Z' S:Nat):=Om;have:j=Z' S:=Om;subst this;have y:(nQ f sc (dI f k)).length=Z' S:=by rw[E,asO]
 rw[atP Om]at u;have M:=ba f sc k;simp only[go_sem,B,wZz k];by_cases J:Z' S=0;rw[axE (y.trans J),show xN []=.aG from rfl,<-X J]at M;refine aE (k+1) hlt Om Lq ?_;rw[M];exact d_ a_ (u.at 0 rfl);rcases u.own 0 rfl with⟨e,-⟩|⟨q,rs,rfl,-⟩
 rw[e]at y;exact absurd y.symm J
 ·obtain⟨rs,z1,z2,z3,-,z5⟩:=u.frz 0 rfl;have η:o≠q:=u.neL 0 0 rfl rfl rfl;have Z:∀l,PV.frz q 2 rs (lay l)=lay l:=λ_=>rfl;have eI:∀n,PV.frz q 2 rs (.j n)=.j n:=λ_=>rfl;have e5:PV.frz q 2 rs (.osl o 1 0 f.arF.length)=.osl o 1 0 f.arF.length:=by simp only[PV.frz,PV.mM,PV.cO,aC η]
  have eR:PV.frz q 2 rs (.aU f.cells)=.aU f.cells:=rfl;have eV:PV.frz q 2 rs (.sl 2 (f.arD.map gD.cells))=.sl 2 (f.arD.map gD.cells):=rfl;refine yU (k+1) z1 hlt Om (by(repeat' (first|exact c_|refine e_ ?_ ?_))<;>first|(simp only[go_sem,Z,eI,e5,eR,eV]<;>rfl)|rfl) ?_;refine d_ a_ ((z5.at 0 rfl).trans ?_);simp only[aS.frz];rw[avP,Hl,M];congr 3;show[PV.cO q 2 rs _]=_;rw[z2];cases h:nQ f sc (dI f k)with
  |nil=>rw[h]at y;exact absurd y.symm J
  |cons x r=>rfl
 obtain⟨x,r,κ⟩:∃x r,wW f sc k (dI f k)=x::r:=by
  cases h:wW f sc k (dI f k)with
  |nil=>exact absurd h hc
  |cons x r=>exact⟨x,r,rfl⟩
 have D:xN (wW f sc k (dI f k))=.sl 2 (x::r):=by rw[κ];rfl
 simp only[go_sem,D,show ∀(s:Nat)(x:V_) r,PV.tN (.sl s (x::r))=some false from λ_ _ _=>rfl,wZz k];refine aE (k+1) hlt Om Lq ?_;rw[Hm f sc k hc];exact d_ a_ (by simp only[go_sem,N]);have A:¬(k:Int)<(Z' f.arD:Nat):=Om;have:k=Z' f.arD:=Om;subst this;simp only[go_sem,A];refine BS (o:=o) (s:=1) (k:=Z' f.arF) (.inr rfl) Sq (bK ..) (by rw[oO];exact asU _) ?_;rw[atP (by rw[oO];exact asU _)];exact⟨.refl _,rfl⟩
section
variable {α:Type} {E l:List α} {k n:Nat}
theorem Z9(h:k<n)(z:α):E.take k++asT (n-k) z=E.take k++z::asT (n-(k+1)) z:=by
 rw[show n-k=(n-(k+1))+1 by omega,List.replicate_succ]
theorem agT(e:k<=Z' E)(x y:α):(E.take k++y::l).set k x=E.take k++x::l:=by
 rw[avQ _ _ (by rw[atF];omega),atF,avJ e,auK];rfl
theorem gAt(e:k<=Z' E)(y:α):(E.take k++y::l)[k]?=some y:=by
 rw[auS (by rw[atF];omega),atF,avJ e,auK];rfl
theorem agS{x:α}(h:E[k]?=some x):E.take k++x::l=E.take (k+1)++l:=by
 obtain⟨e,rfl⟩:=atX.1 h;rw[atW e,atV];rfl
end
def dP(L:L2_):P2_:=L.map λr=>[ints r]
def iK(f:aB)(sc L:L2_):P2_:=(asP L.length).map λv=>[.int .i64 (eO sc (L.getD v []) (bF f v).m:Nat)]
def imH(e i:Nat)(A B:P2_):PH:=(h_.set e (.rows 1 A)).set i (.rows 1 B)
def imA(f:aB)(room:I_)(sc:L2_)(e i n:Nat):PF:=(((((n_.set 2 (ints room)).set 4 (.aU f.cells)).set 10 (lay sc)).set 12 (.osl e 1 0 n)).set 13 (.osl i 1 0 n))
structure ajQ(C:Ctx):Prop where
 srt:∀row:I_,row≠[]->Z' row<=1000->aH C 368 [ints row] .nil (aK (ints (sorted row)))
 loss:∀(sc:L2_),Z' sc<=1000000000000000->(∀s∈sc,Z' s<=1000000000000000/\s.Pairwise (· < ·))->∀(set:I_),Z' set<=1000000000000000->set.Pairwise (· < ·)->∀m:Int,
  aH C 367 [lay sc,ints set,.int .i64 m] .nil (aK (.int .i64 (eO sc set m:Nat)))
theorem yV{α:Type}{g:α->α}{l:List α}(h:∀x∈l,g x=x):l.map g=l:=by
 conv=>rhs;rw[<-List.map_id l]
 exact avO h
theorem ER(L:L2_)(q s:Nat)(rs:P2_):∀r∈dP L,r.map (PV.cO q s rs)=r:=λr e=>by
 obtain⟨x,-,rfl⟩:=atM.1 e;rfl
theorem np(f:aB)(sc L:L2_)(q s:Nat)(rs:P2_):∀r∈iK f sc L,r.map (PV.cO q s rs)=r:=λr e=>by
 obtain⟨x,-,rfl⟩:=atM.1 e;rfl
theorem Rn{K:bP}[Up K](Y:ajQ C)(f:aB)(L:L2_)(room:I_)(R:eU f L room=true)(sc:L2_)(k1:Z' sc<=1099511627776)(k2:∀s∈sc,Z' s<=1000000000000000/\s.Pairwise (· < ·))(i u:Nat)(A:¬i=u){F:PF}
  (hF:((((imA f room sc i u L.length).set 47 (lay L)).set 48 (.j (Z' L:Nat))).set 49 (.j 0)).le F)
  (Z:K (.exit 1) (imA f room sc i u L.length) (imH i u (dP L) (iK f sc L))) :
  aJ.wp C (.loop HR) K F (imH i u (asT L.length [.aG]) (asT L.length [.j 0])):=by
 have hv:=gM R;have hV:=VF.of hv;have hS:=mN R;have ε:=hV.small.arD;have β:=hS.len;have γ:(dP L).length=Z' L:=asO _;have δ:(iK f sc L).length=Z' L:=by unfold iK;simp
 have J:¬u=i:=λe=>A e.symm;refine jL _ (λ_ _ _ _ a b=>Up.up a b) hF ?_;unfold imA at Z ⊢;refine wp_loop (α:=Nat) (λk=>((((((((n_.set 2 (ints room)).set 4 (.aU f.cells)).set 10 (lay sc)).set 12 (.osl i 1 0 L.length)).set 13 (.osl u 1 0 L.length)).set 47 (lay L)).set 48 (.j (Z' L:Nat))).set 49 (.j k)))
  (λk=>imH i u ((dP L).take k++asT (Z' L-k) [.aG]) ((iK f sc L).take k++asT (Z' L-k) [.j 0])) (λk=>k<=Z' L) (λk=>Z' L-k) 0 (asQ _) Lq (by simp only[avA,awO,Nat.sub_zero];exact b_) ?_
 intro k hk;simp only[go_sem,HR];by_cases hlt:k<Z' L;have w:(k:Int)<(Z' L:Nat):=Om;have N:(L.map λr=>[ints r])[k]?=some [ints L[k]]:=by simp[hlt]
 have U:(dP L)[k]?=some [ints L[k]]:=N;have O:L.getD k []=L[k]:=by simp[asW,hlt]
 obtain⟨hp,he⟩:=iN hV (Om:k<Z' f.arD);obtain⟨r1,-,r3,r4⟩:=kS R hlt;have V:(k:Int)<(Z' f.arD:Nat):=Om;have S:(iK f sc L)[k]?=some [.j (eO sc L[k] (bF f k).m:Nat)]:=by unfold iK;rw[atC,auT hlt,atO,O]
 have ks:=Y.srt L[k] r3 Om;have kl:=Y.loss sc Om k2 (sorted L[k]) (by rw[RG];omega) (Of r1) (bF f k).m;rw[UZ (sorted_perm L[k])]at kl;have a1:=λz=>gAt (E:=dP L) (l:=asT (Z' L-(k+1)) [PV.aG]) (k:=k) Om z;have a2:=λx y=>agT (E:=dP L) (l:=asT (Z' L-(k+1)) [PV.aG]) (k:=k) Om x y;have a3:=agS (l:=asT (Z' L-(k+1)) [PV.aG]) U;have b1:=λz=>gAt (E:=iK f sc L) (l:=asT (Z' L-(k+1)) [PV.int .i64 0]) (k:=k) Om z;have b2:=λx y=>agT (E:=iK f sc L) (l:=asT (Z' L-(k+1)) [PV.int .i64 0]) (k:=k) Om x y;have b3:=agS (l:=asT (Z' L-(k+1)) [PV.int .i64 0]) S;rw[Z9 hlt,Z9 hlt];generalize L[k]=row at *
 generalize eO sc row (bF f k).m=x at *
 generalize sorted row=st at *
 unfold imH;simp only[go_sem,w,N];refine pP (src:=aM row) (by simp only[go_sem];rfl) (by unfold roomFor;rw[bV];simp only[maxLen];omega) (λe=>absurd (axG.1 e) r3) λ_ q hq=>?_;have B:¬i=q:=by rintro rfl;simp only[go_sem,A]at hq
 have D:¬u=q:=by rintro rfl;simp only[go_sem,A]at hq
 simp only[go_sem,B,D,A,J,a1,a2,w,auB,forall_eq];refine bE .nil (agJ 368 (ints st) (.j (x:Nat))) a_ ?_;simp only[go_sem];refine cJ rfl ks Sq a_ ?_;simp only[go_sem,V,asO,oT (Om:k<Z' f.arD),hV.AH (Om:k<Z' f.arD),lG hp,he];refine cJ rfl kl Sq a_ ?_;simp only[go_sem,w];refine bE .nil cR a_ ?_;simp only[go_sem,B,D,A,J,b1,b2,avR];refine⟨a_,?_⟩;simp only[go_sem,wZz k];have W:¬q=i:=λe=>B e.symm;have X:¬q=u:=λe=>D e.symm;have eI:∀n,PV.frz q 1 (aM row) (.j n)=.j n:=λ_=>rfl;have e0:∀l,PV.frz q 1 (aM row) (ints l)=ints l:=λ_=>rfl;have e1:∀l,PV.frz q 1 (aM row) (lay l)=lay l:=λ_=>rfl;have e2:PV.frz q 1 (aM row) (.osl i 1 0 L.length)=.osl i 1 0 L.length:=by simp only[PV.frz,PV.mM,PV.cO,aC B]
 have e3:PV.frz q 1 (aM row) (.osl u 1 0 L.length)=.osl u 1 0 L.length:=by simp only[PV.frz,PV.mM,PV.cO,aC D]
 have e4:PV.frz q 1 (aM row) (.aU f.cells)=.aU f.cells:=rfl;refine yU (q:=q) (s:=1) (rs:=aM row) (k+1) (by simp only[go_sem,W,X]) hlt Om (lE6 eI e0 e1 e2 e3 e4) (d_ (d_ a_ ?_) ?_);simp only[go_sem,B,D,A,BH];simp only[aS.frz];rw[atK,atU,yV (λr M=>ER L q 1 (aM row) r (awU M)),yV (g:=λr:V_=>r.map (PV.cO q 1 (aM row))) (l:=asT _ [PV.aG]) (λr M=>by rw[List.eq_of_mem_replicate M];rfl),<-a3];congr 3;simp only[atU,auH,PV.cO,if_true,true_and,atA,asU,avG,atL];rfl;simp only[go_sem,B,D,A,BH];simp only[aS.frz];rw[atK,atU,yV (λr M=>np f sc L q 1 (aM row) r (awU M)),yV (g:=λr:V_=>r.map (PV.cO q 1 (aM row))) (l:=asT _ [PV.int .i64 0]) (λr M=>by rw[List.eq_of_mem_replicate M];rfl),<-b3];rfl;have w:¬(k:Int)<(Z' L:Nat):=Om;have:k=Z' L:=Om;subst this;rw[auK,List.replicate_zero,auA,List.replicate_zero,auA,atP Om,atP Om];simp only[go_sem,w];exact Up.up Lq Z
theorem V1{f:aB}{L:L2_}{room:I_}(l:eU f L room=true){v:Nat}(y:v<Z' L){s:I_}(B:∀x∈s,0<=x/\x<Z' f.arB) :
  s.all (HI (cD f L) (bA f room) (L.getD v []))=xW f (bA f room) L v s:=by
 have w:L.getD v []=L[v]:=by simp[asW,y]
 obtain⟨r1,-,-,-⟩:=kS l y;unfold xW;rw[w,Bool.eq_iff_iff,atI,atI];have i:∀x∈s,HI (cD f L) (bA f room) L[v] x=true↔(L[v].contains x||decide ((cD f L).getD x.toNat 0<(bA f room).getD x.toNat 0))=true:=by
  intro x e;obtain⟨F,J⟩:=B x e;obtain⟨d,rfl⟩:∃d:Nat,x=d:=⟨x.toNat,by omega⟩;have u:d<Z' f.arB:=Om;have D:=((IR (gM l) (mN l) room).1 l).2 d u;have h5:(cD f L).getD d 0=(L.flatten.count (d:Int):Nat):=by simp[cD,fN,asW,u]
  have A:(bA f room).getD d 0=nF f room d:=by simp[bA,asW,u]
  unfold HI;rw[auL,h5,A,dT_,awY,dT_];have E:L[v].count (d:Int)<=1:=List.nodup_iff_count.1 r1 _;by_cases c:(d:Int)∈L[v];have:0<L[v].count (d:Int):=List.count_pos_iff.2 c;exact⟨λ_=>.inl (by simpa using c),λ_=>by omega⟩;rw[List.count_eq_zero_of_not_mem c];exact⟨λh=>.inr Om,λh=>by
   rcases h with h|h
   exact absurd (by simpa using h) c;omega⟩
 exact⟨λh x e=>(i x e).1 (h x e),λh x e=>(i x e).2 (h x e)⟩
def pkI:zJ->Int
 |none=>-1
 |some x=>x.1
def pkC(f:aB)(sc:L2_):zJ->V_
 |none=>[.aG,.int .i64 0]
 |some x=>[ints x.2,.int .i64 (eO sc x.2 (bF f x.1).m:Nat)]
def imB(f:aB)(room:I_)(sc L:L2_)(e l u:Nat)(i:zJ)(v:Nat):PF:=(((((((((((((n_.set 2 (ints room)).set 4 (.aU f.cells)).set 10 (lay sc)).set 12 (.osl e 1 0 L.length)).set 13 (.osl l 1 0 L.length)).set 16 (.sl 1 (iT f sc f.arD.length))).set 17 (ints (bA f room))).set 18 (ints (cD f L))).set 19 (.int .i64 (pkI i))).set 20 (.ptr u 2 0 0)).set 88 (.osl e 1 0 L.length)).set 89 (.int .i64 (Z' L:Nat))).set 90 (.int .i64 v))
def imK(f:aB)(sc L:L2_)(i l u:Nat)(e:zJ):PH:=(imH i l (dP L) (iK f sc L)).set u (.rows 2 [pkC f sc e])
theorem Cu:∀{L:L2_},(∀(v:Nat)(e:v<Z' L),L[v].length<=10)->Z' L.flatten<=10*Z' L
 |[],_=>asQ _
 |r::L,h=>by have i:=h 0 aZ;have l:=Cu (L:=L) λv e=>h (v+1) (by simpa using e);simp only[axF]at i;rw[awZ,asX,atZ];omega
theorem Fp{f:aB}(e:Z' f.arB<=24)(p:bX):(gQ f p).length<=16777216:=by
 have a1:=tG f.arB.length (gR p).toNat 0;have a2:2^(Z' f.arB-0)<=2^24:=awW aR Om;have a3:=awJ (mX f p) ((dQ f.arB.length (gR p).toNat 0).map cA);rw[asO]at a3;unfold gQ;omega
theorem acT{K:bP}[Up K](fits:∀(loads R row set:I_),Z' row<=1000->Z' set<=1000->(∀x∈loads,0<=x/\x<=100000000)->(∀d∈set,0<=d/\d<(Z' loads:Nat)/\d<(Z' R:Nat))->aH C 370 [ints loads,ints R,ints row,ints set] .nil (aK (.bool (set.all (HI loads R row)))))
  (f:aB) (L:L2_) (room:I_) (hh:eU f L room=true) (sc:L2_) (k1:Z' sc<=1099511627776) (J M N:Nat) (U:¬J=M) (V:¬J=N) (W:¬M=N) (v:Nat) (hv:v<Z' L) (B:zJ)
  (ha:∀x,B=some x->x.1<=v/\x.2∈gQ f (bF f x.1)/\xW f (bA f room) L x.1 x.2=true/\0<rK f sc L x.1 x.2) {F:PF}
  (hF:((((((imB f room sc L J M N B v).set 21 (.j v)).set 101 (xN (nQ f sc (dI f v)))).set 102 (.j ((nQ f sc (dI f v)).length:Nat))).set 103 (.j 0))).le F)
  (hK:K (.exit 7) (imB f room sc L J M N (CJ f sc (bA f room) L B v) v) (imK f sc L J M N (CJ f sc (bA f room) L B v))) :
  aJ.wp C (.loop HS) K F (imK f sc L J M N B):=by
 have Δ:=gM hh;have hV:=VF.of Δ;have hS:=mN hh;have Ω:=hV.small.arD;have Θ:=hS.len;have ι:v<Z' f.arD:=Om;obtain⟨z1,z2⟩:=IC hV ι;have ν:nQ f sc (dI f v)=(gQ f (bF f v)).map λs=>[ints s,.j (eO sc s (bF f v).m:Nat)]:=rfl;have ξ:=λs hs=>GL (f:=f) (p:=bF f v) z2 (s:=s) hs;have Ψ:=Fp hV.small.arB (bF f v);unfold CJ at hK;refine jL _ (λ_ _ _ _ a b=>Up.up a b) hF ?_;generalize τ:gQ f (bF f v)=S at *
 have γ:(nQ f sc (dI f v)).length=Z' S:=by rw[ν,asO]
 rw[γ];refine wp_loop (α:=Nat) (λj=>((((imB f room sc L J M N ((S.take j).foldl (mH f sc (bA f room) L v) B) v).set 21 (.j v)).set 101 (xN (nQ f sc (dI f v)))).set 102 (.j (Z' S:Nat))).set 103 (.j j))
  (λj=>imK f sc L J M N ((S.take j).foldl (mH f sc (bA f room) L v) B)) (λj=>j<=Z' S) (λj=>Z' S-j) 0 (asQ _) (by simp only[avA,List.foldl_nil];exact PF.le_refl) (by simp only[avA,List.foldl_nil];exact b_) ?_
 intro j hj;have ε:=λx=>VR (f:=f) (sc:=sc) (R:=bA f room) (L:=L) (v:=v) (S.take j) B ha (λs hs=>by rw[τ];exact awU hs) x;unfold imB;simp only[go_sem,HS];by_cases E:j<Z' S;have β:(j:Int)<(Z' S:Nat):=Om;have A:(S.take (j+1)).foldl (mH f sc (bA f room) L v) B=mH f sc (bA f room) L v ((S.take j).foldl (mH f sc (bA f room) L v) B) S[j]:=by rw[atW E,List.foldl_append];rfl
 have Γ:S[j]∈S:=asS E;obtain⟨s1,s2,s3,-⟩:=ξ _ Γ;have ψ:nQ f sc (dI f v)≠[]:=λe=>by rw[e]at γ;simp at γ;omega
 have O:xN (nQ f sc (dI f v))=.sl 2 (nQ f sc (dI f v)):=by
  cases h:nQ f sc (dI f v)with
  |nil=>exact absurd h ψ
  |cons x r=>rfl
 have υ:(nQ f sc (dI f v))[j]?=some [ints S[j],.j (eO sc S[j] (bF f v).m:Nat)]:=by rw[ν,atC,asZ E];rfl
 generalize(S.take j).foldl (mH f sc (bA f room) L v) B=a at *
 generalize S[j]=s at *
 unfold imK imH;simp only[go_sem,β,O,υ,γ];refine aQ λκ η=>?_;have X:¬J=κ:=by rintro rfl;simp only[go_sem,U,V]at η
 have Y:¬M=κ:=by rintro rfl;simp only[go_sem,W]at η
 have Z:¬N=κ:=by rintro rfl;simp only[go_sem]at η
 have δ:(v:Int)<(Z' L:Nat):=Om;have χ:(iK f sc L)[v]?=some [.j (eO sc (L.getD v []) (bF f v).m:Nat)]:=by unfold iK;rw[atC,auT hv];rfl
 have θ:(dP L)[v]?=some [ints (L.getD v [])]:=by unfold dP;simp[asW,hv]
 have l1:=BK sc s (bF f v).m;have l2:=BK sc (L.getD v []) (bF f v).m;have hg:rK f sc L v s=((eO sc (L.getD v []) (bF f v).m:Nat):Int)-(eO sc s (bF f v).m:Nat):=rfl;generalize hx:eO sc s (bF f v).m=x at *
 generalize hy:eO sc (L.getD v []) (bF f v).m=y at *
 simp only[go_sem];refine bE .nil cR a_ ?_;simp only[go_sem,δ,U,V,W,X,Y,Z,χ,wrap_i64 (Om:-9223372036854775808<=((x:Nat):Int)-(y:Nat)) Om];have ζ:aH C 370 [ints (cD f L),ints (bA f room),ints (L.getD v []),ints s] .nil (aK (.bool (xW f (bA f room) L v s))):=by have e:s.all (HI (cD f L) (bA f room) (L.getD v []))=xW f (bA f room) L v s:=V1 hh hv s2;rw[<-e];obtain⟨-,-,-,r4⟩:=kS hh hv;have ω:=hV.arO _ (asS (iN hV ι).1);rw[(iN hV ι).2]at ω;have Ξ:=Cu (L:=L) (λv hv=>(kS hh hv).2.2.2);refine fits _ _ _ _ (by rw[show L.getD v []=L[v] by simp[asW,hv]];omega) (by unfold gR at s1;omega) (λq hq=>?_) λd hd=>?_;obtain⟨i,hi,rfl⟩:=atM.1 hq;have:=List.count_le_length (a:=(i:Int)) (l:=L.flatten);omega;obtain⟨q0,q1⟩:=s2 d hd;rw[pA,show(cD f L).length=f.arB.length by unfold cD;exact iV ..];omega
 have u:mH f sc (bA f room) L v a s=if xW f (bA f room) L v s&&decide (rK f sc L v s>oJ f sc L a)then some (v,s)else a:=rfl
 have Λ:0<=oJ f sc L a:=by
  cases h:a with
  |none=>exact Int.le_refl _
  |some y=>exact Int.le_of_lt (ε y h).2.2.2
 refine bE .nil (cyS (.bool (xW f (bA f room) L v s))) a_ ?_;by_cases c1:((x:Nat):Int)-(y:Nat)<0;rcases a with _|w
 ·simp only[go_sem,c1,decide_true,pkI,show((-1:Int)<0)from by decide,δ,U,V,W,X,Y,Z,θ];refine cJ rfl ζ Sq a_ ?_;have φ:rK f sc L v s>oJ f sc L none:=by change rK f sc L v s>0;omega
  rw[aW φ,avK]at u;cases hb:xW f (bA f room) L v s with
  |false=>
   rw[hb,aC aR]at u;simp only[go_sem,wZz j];refine aE (j+1) E Om ?_ ?_;simp only[A,u]
   (repeat' (first|exact c_|refine e_ ?_ ?_))<;>first|(simp only[go_sem,O,pkI]<;>rfl)|rfl
   simp only[A,u];exact d_ (d_ (d_ a_ (by simp only[go_sem,U,V,X])) (by simp only[go_sem,W,Y])) (by simp only[go_sem,Z])
  |true=>
   rw[hb,aF rfl]at u;simp only[go_sem];refine bE .nil cR a_ ?_;simp only[go_sem,X,Y,Z,U,V,W];refine⟨a_,?_⟩;simp only[go_sem,wZz j];refine aE (j+1) E Om ?_ ?_;simp only[A,u]
   (repeat' (first|exact c_|refine e_ ?_ ?_))<;>first|(simp only[go_sem,O,pkI]<;>rfl)|rfl
   simp only[A,u];exact d_ (d_ (d_ a_ (by simp only[go_sem,U,V,X])) (by simp only[go_sem,W,Y])) (by simp only[go_sem,Z,pkC,hx,avR,List.set_cons_succ])
 obtain⟨D,w2⟩:=w;obtain⟨g1,-,-,-⟩:=ε _ rfl;simp only at g1;have ρ:(D:Int)<(Z' L:Nat):=Om;have ο:¬(D:Int)<0:=Om;have μ:(iK f sc L)[D]?=some [.j (eO sc (L.getD D []) (bF f D).m:Nat)]:=by unfold iK;rw[atC,auT Om];rfl
 have l3:=BK sc w2 (bF f D).m;have l4:=BK sc (L.getD D []) (bF f D).m;have Φ:oJ f sc L (some (D,w2))=((eO sc (L.getD D []) (bF f D).m:Nat):Int)-(eO sc w2 (bF f D).m:Nat):=rfl;have σ:=wrap_i64 (show -9223372036854775808<=((eO sc w2 (bF f D).m:Nat):Int)-(eO sc (L.getD D []) (bF f D).m:Nat) by omega) Om;by_cases c2:((x:Nat):Int)-(y:Nat)<((eO sc w2 (bF f D).m:Nat):Int)-(eO sc (L.getD D []) (bF f D).m:Nat)
 ·rw[aW (Om:rK f sc L v s>oJ f sc L (some (D,w2))),avK]at u;simp only[go_sem,c1,decide_true,decide_false,pkI,pkC,ο,ρ,μ,σ,c2,δ,U,V,W,X,Y,Z,θ];refine cJ rfl ζ Sq a_ ?_;cases hb:xW f (bA f room) L v s with
  |false=>
   rw[hb,aC aR]at u;simp only[go_sem,wZz j];refine aE (j+1) E Om ?_ ?_;simp only[A,u]
   (repeat' (first|exact c_|refine e_ ?_ ?_))<;>first|(simp only[go_sem,O,pkI]<;>rfl)|rfl
   simp only[A,u];exact d_ (d_ (d_ a_ (by simp only[go_sem,U,V,X])) (by simp only[go_sem,W,Y])) (by simp only[go_sem,Z])
  |true=>
   rw[hb,aF rfl]at u;simp only[go_sem];refine bE .nil cR a_ ?_;simp only[go_sem,X,Y,Z,U,V,W];refine⟨a_,?_⟩;simp only[go_sem,wZz j];refine aE (j+1) E Om ?_ ?_;simp only[A,u]
   (repeat' (first|exact c_|refine e_ ?_ ?_))<;>first|(simp only[go_sem,O,pkI]<;>rfl)|rfl
   simp only[A,u];exact d_ (d_ (d_ a_ (by simp only[go_sem,U,V,X])) (by simp only[go_sem,W,Y])) (by simp only[go_sem,Z,pkC,hx,avR,List.set_cons_succ])
 rw[bD (Om:¬rK f sc L v s>oJ f sc L (some (D,w2))),auF,aC aR]at u;simp only[go_sem,c1,decide_true,decide_false,pkI,pkC,ο,ρ,μ,σ,c2,δ,U,V,W,X,Y,Z,θ];simp only[go_sem,wZz j];refine aE (j+1) E Om ?_ ?_;simp only[A,u]
 (repeat' (first|exact c_|refine e_ ?_ ?_))<;>first|(simp only[go_sem,O,pkI]<;>rfl)|rfl
 simp only[A,u];exact d_ (d_ (d_ a_ (by simp only[go_sem,U,V,X])) (by simp only[go_sem,W,Y])) (by simp only[go_sem,Z]);rw[bD (Om:¬rK f sc L v s>oJ f sc L a),auF,aC aR]at u;simp only[go_sem,c1,decide_false,wZz j];refine aE (j+1) E Om ?_ ?_;simp only[A,u];exact lE1 O;simp only[A,u];exact d_ (d_ (d_ a_ (by simp only[go_sem,U,V,X])) (by simp only[go_sem,W,Y])) (by simp only[go_sem,Z]);have β:¬(j:Int)<(Z' S:Nat):=Om;have:j=Z' S:=Om;subst this;rw[atL];simp only[go_sem,β];exact Up.up (by unfold imB;exact Lq) hK
theorem Rp{K:bP}[Up K](fits:∀(loads R row set:I_),Z' row<=1000->Z' set<=1000->(∀x∈loads,0<=x/\x<=100000000)->(∀d∈set,0<=d/\d<(Z' loads:Nat)/\d<(Z' R:Nat))->aH C 370 [ints loads,ints R,ints row,ints set] .nil (aK (.bool (set.all (HI loads R row)))))
  (f:aB) (L:L2_) (room:I_) (E:eU f L room=true) (sc:L2_) (k1:Z' sc<=1099511627776) (e i l:Nat) (n1:¬e=i) (n2:¬e=l) (n3:¬i=l) {F:PF} {H:PH}
  (V:(imB f room sc L e i l none 0).le F) (W:(imK f sc L e i l none).le H)
  (X:K (.exit 5) (imB f room sc L e i l (gE f sc (bA f room) L L.length) L.length) (imK f sc L e i l (gE f sc (bA f room) L L.length))) :
  aJ.wp C (.loop vD) K F H:=by
 have hV:=VF.of (gM E);have Y:=mN E;have Z:=hV.small.arD;have U:=Y.len;refine jL _ (λ_ _ _ _ a b=>Up.up a b) V ?_;refine wp_loop (α:=Nat) (λv=>imB f room sc L e i l (gE f sc (bA f room) L v) v) (λv=>imK f sc L e i l (gE f sc (bA f room) L v)) (λv=>v<=Z' L) (λv=>Z' L-v) 0 (asQ _) PF.le_refl W ?_;intro v hv;by_cases hlt:v<Z' L;have u:(v:Int)<(Z' L:Nat):=Om;have S:(v:Int)<(Z' f.arD:Nat):=Om;have y:v<Z' f.arD:=Om;obtain⟨hp,he⟩:=iN hV y;have O:((dI f v:Nat):Int)<(Z' f.arF:Nat):=Om;have N:wW f sc f.arD.length (dI f v)=nQ f sc (dI f v):=by unfold wW;have A:((asP f.arD.length).any λw=>dI f w==dI f v)=true:=List.any_eq_true.2 ⟨v,atQ.2 y,beq_self_eq_true _⟩;rw[aF A]
 have B:=DH f sc f.arD.length hp;rw[N]at B;have J:=λ{K:bP} [Up K] {F:PF}=>acT (C:=C) (K:=K) fits f L room E sc k1 e i l n1 n2 n3 v hlt (gE f sc (bA f room) L v) (λx hx=>by obtain⟨a,b⟩:=qU v x hx;exact⟨by omega,b⟩) (F:=F)
 have M:(xN (nQ f sc (dI f v))).sX=some (.j ((nQ f sc (dI f v)).length:Nat)):=by cases nQ f sc (dI f v)<;>rfl
 have D:gE f sc (bA f room) L (v+1)=CJ f sc (bA f room) L (gE f sc (bA f room) L v) v:=rfl;unfold imB;simp only[go_sem,vD,u,S,O,asO,oT y,hV.AH y,B,oO,M];refine J (by unfold imB;exact Lq) ?_;unfold imB;simp only[go_sem,wZz v];exact aE (v+1) hlt Om (lE1 D) (by rw[D];exact b_);have u:¬(v:Int)<(Z' L:Nat):=Om;have:v=Z' L:=Om;subst this;unfold imB;simp only[go_sem,vD,u];exact Up.up (by unfold imB;exact Lq) X
def OI(row loads R:I_)(d:Int):Bool:=row.contains d||decide (loads.getD d.toNat 0<R.getD d.toNat 0)
def pkS:zJ->PV
 |none=>.aG
 |some x=>ints x.2
def riA(f:aB)(sc:L2_)(R loads:I_)(n o:Nat)(g w:Int)(u:PV)(v:Nat):PF:=(((((((((n_.set 4 (.aU f.cells)).set 10 (lay sc)).set 12 (.osl o 1 0 n)).set 14 (ints R)).set 15 (ints loads)).set 16 (.int .i64 g)).set 17 (.int .i64 w)).set 18 (u)).set 19 (.int .i64 v))
def riB(f:aB)(sc:L2_)(R loads:I_)(n o:Nat)(g w:Int)(u:PV)(v:Nat)(p:Nat)(S:L2_)(e:Int)(i:Nat):PF:=(((((((((((((n_.set 4 (.aU f.cells)).set 10 (lay sc)).set 12 (.osl o 1 0 n)).set 14 (ints R)).set 15 (ints loads)).set 16 (.int .i64 g)).set 17 (.int .i64 w)).set 18 (u)).set 19 (.int .i64 v)).set 20 (.int .i64 p)).set 21 (lay S)).set 23 (.int .i64 e)).set 24 (.int .i64 i))
theorem Dc{l:I_}{k:Nat}(h:k<Z' l):(l.map λn=>[PV.int .i64 n])[k]?=some [.j (l.getD k 0)]:=by simp[asW,h]
theorem S1{K:bP}[Up K](has:∀(l:I_)(x:Int),Z' l<=1000000000000000->aH C 378 [ints l,.j x] .nil (aK (.bool (l.contains x))))
  (f:aB) (sc:L2_) (R loads row:I_) (β:Z' row<=1000) (n o:Nat) (rs:P2_) (g w:Int) (u:PV) (v:Nat) (hv:v<n) (N:rs[v]?=some [ints row]) (p:Nat) (S:L2_) (L:Int) (i:Nat) (hi:i<Z' S) (s:I_) (hs:S[i]=s) (γ:Z' s<=1000)
  (hd:∀d∈s,0<=d/\d<(Z' loads:Nat)/\d<(Z' R:Nat)) {F:PF} {H:PH}
  (Y:(((riB f sc R loads n o g w u v p S L i).set 25 (.bool true)).set 26 (.j 0)).le F) (Z:(h_.set o (.rows 1 rs)).le H)
  (X:K (.exit 8) ((riB f sc R loads n o g w u v p S L i).set 25 (.bool (s.all (OI row loads R)))) (h_.set o (.rows 1 rs))) :
  aJ.wp C (.loop DZ) K F H:=by
 refine jL _ (λ_ _ _ _ a b=>Up.up a b) Y ?_;refine wp_loop (α:=Nat) (λj=>((riB f sc R loads n o g w u v p S L i).set 25 (.bool ((s.take j).all (OI row loads R)))).set 26 (.j j)) (λ_=>h_.set o (.rows 1 rs)) (λj=>j<=Z' s) (λj=>Z' s-j) 0 (asQ _) (by rw[avA];exact PF.le_refl) Z ?_;intro j hj;have E:(S.map λr=>[ints r])[i]?=some [ints s]:=by simp[hi,hs]
 have B:(i:Int)<(Z' S:Nat):=Om;have U:(v:Int)<(n:Nat):=Om;unfold riB at X ⊢;simp only[go_sem,DZ,asO,B,E];by_cases A:j<Z' s
 ·have e:(j:Int)<(Z' s:Nat):=Om;have y:(s.take (j+1)).all (OI row loads R)=((s.take j).all (OI row loads R)&&OI row loads R s[j]):=by rw[atW A,awG];simp
  have D:(s.map λn=>[PV.int .i64 n])[j]?=some [.j s[j]]:=by simp[A]
  obtain⟨d0,V,W⟩:=hd _ (asS A);obtain⟨k,hk⟩:∃k:Nat,s[j]=(k:Int):=⟨s[j].toNat,by omega⟩;rw[hk]at y D V W;have hc:=has row (k:Int) Om;have la:=Dc (l:=loads) (k:=k) Om;have ra:=Dc (l:=R) (k:=k) Om;have O:OI row loads R (k:Int)=(row.contains (k:Int)||decide (loads.getD k 0<R.getD k 0)):=rfl;rw[O]at y;have J:=wZz j;cases hb:(s.take j).all (OI row loads R)with
  |false =>rw[hb,atE]at y;simp only[go_sem,e];refine bE .nil cR a_ ?_;simp only[go_sem,J];exact aE (j+1) A Om (lE1 y) b_
  |true=>
   rw[hb,atJ]at y;simp only[go_sem,e];refine bE .nil (cyS (.bool (row.contains (k:Int)))) a_ ?_;simp only[go_sem,U,N,B,E,e,D,asO];refine cJ rfl hc Sq a_ ?_;cases M:row.contains (k:Int)with
   |true =>rw[M,Bool.true_or]at y;simp only[go_sem,J];exact aE (j+1) A Om (lE1 y) b_
   |false =>rw[M,Bool.false_or]at y;simp only[go_sem,B,E,e,D,V,W,la,ra,asO,J];exact aE (j+1) A Om (lE1 y) b_
 have e:¬(j:Int)<(Z' s:Nat):=Om;have:j=Z' s:=Om;subst this;rw[atL];simp only[go_sem,e];exact Up.up Lq X
theorem X4{K:bP}[Up K](has:∀(l:I_)(x:Int),Z' l<=1000000000000000->aH C 378 [ints l,.j x] .nil (aK (.bool (l.contains x))))
  (lost:∀(sc:L2_) (set:I_) (m:Int),Z' sc<=1000000000000000->(∀s∈sc,Z' s<=1000000000000000)->Z' set<=1000000000000000->aH C 220 [lay sc,ints set,.j m] .nil (aK (.j (eO sc set m:Nat))))
  (f:aB) (L:L2_) (room:I_) (V:eU f L room=true) (sc:L2_) (k1:Z' sc<=1099511627776) (k2:∀s∈sc,Z' s<=1000000000000000) (o:Nat) (rs:P2_) (v:Nat) (Y:v<Z' L) (O:rs[v]?=some [ints (L.getD v [])]) (e:zJ) {F:PF} {H:PH}
  (hF:(riB f sc (bA f room) (cD f L) L.length o (oJ f sc L e) (pkI e) (pkS e) v (dI f v) (gQ f (bF f v)) (eO sc (L.getD v []) (bF f v).m:Nat) 0).le F) (hH:(h_.set o (.rows 1 rs)).le H)
  (hK:K (.exit 6) (riA f sc (bA f room) (cD f L) L.length o (oJ f sc L (CJ f sc (bA f room) L e v)) (pkI (CJ f sc (bA f room) L e v)) (pkS (CJ f sc (bA f room) L e v)) v) (h_.set o (.rows 1 rs))) :
  aJ.wp C (.loop xO) K F H:=by
 have Z:=gM V;have hV:=VF.of Z;have hS:=mN V;have η:=hV.small.arD;have γ:=hS.len;have N:v<Z' f.arD:=Om;obtain⟨z1,z2⟩:=IC hV N;obtain⟨hp,he⟩:=iN hV N;have J:=λs hs=>GL (f:=f) (p:=bF f v) z2 (s:=s) hs;have ζ:=Fp hV.small.arB (bF f v);obtain⟨-,-,-,r4⟩:=kS V Y;have R:L.getD v []=L[v]:=by simp[asW,Y]
 rw[<-R]at r4;have δ:(cD f L).length=Z' f.arB:=by unfold cD;exact iV ..
 have ε:=pA f room;have W:=hV.arO _ (asS hp);rw[he]at W;have X:((dI f v:Nat):Int)<(Z' f.arF:Nat):=Om;have l2:=BK sc (L.getD v []) (bF f v).m;unfold CJ at hK;refine jL _ (λ_ _ _ _ a b=>Up.up a b) hF ?_;have M:∀a s,mH f sc (bA f room) L v a s=if s.all (OI (L.getD v []) (cD f L) (bA f room))&&decide (((eO sc (L.getD v []) (bF f v).m:Nat):Int)-(eO sc s (bF f v).m:Nat)>oJ f sc L a)then some (v,s)else a:=λ_ _=>rfl
 have U:∀s,oJ f sc L (some (v,s))=((eO sc (L.getD v []) (bF f v).m:Nat):Int)-(eO sc s (bF f v).m:Nat):=λ_=>rfl;generalize gQ f (bF f v)=S at *
 generalize eO sc (L.getD v []) (bF f v).m=A at *
 refine wp_loop (α:=Nat) (λi=>riB f sc (bA f room) (cD f L) L.length o (oJ f sc L ((S.take i).foldl (mH f sc (bA f room) L v) e)) (pkI ((S.take i).foldl (mH f sc (bA f room) L v) e)) (pkS ((S.take i).foldl (mH f sc (bA f room) L v) e)) v (dI f v) S (A:Nat) i)
  (λ_=>h_.set o (.rows 1 rs)) (λi=>i<=Z' S) (λi=>Z' S-i) 0 (asQ _) (by simp only[avA,List.foldl_nil];exact PF.le_refl) hH ?_
 intro i hi;by_cases y:i<Z' S
 ·have w:(i:Int)<(Z' S:Nat):=Om;have u:(S.take (i+1)).foldl (mH f sc (bA f room) L v) e=mH f sc (bA f room) L v ((S.take i).foldl (mH f sc (bA f room) L v) e) S[i]:=by rw[atW y,List.foldl_append];rfl
  obtain⟨s1,s2,s3,-⟩:=J _ (asS y);have E:(S.map λr=>[ints r])[i]?=some [ints S[i]]:=by simp[y]
  have B:=λ{K:bP} [Up K] {F:PF} {H:PH}=>S1 (C:=C) (K:=K) has f sc (bA f room) (cD f L) (L.getD v []) Om L.length o rs (oJ f sc L ((S.take i).foldl (mH f sc (bA f room) L v) e)) (pkI ((S.take i).foldl (mH f sc (bA f room) L v) e)) (pkS ((S.take i).foldl (mH f sc (bA f room) L v) e)) v Y O (dI f v) S (A:Nat) i y S[i] rfl (by unfold gR at s1;omega) (λd hd=>by have:=s2 d hd;omega) (F:=F) (H:=H);have kl:=lost sc S[i] (bF f v).m Om k2 (by unfold gR at s1;omega);have l1:=BK sc S[i] (bF f v).m;rw[M]at u;have hg:=U S[i];generalize(S.take i).foldl (mH f sc (bA f room) L v) e=a at *
  generalize S[i]=s at *
  generalize eO sc s (bF f v).m=x at *
  have β:=wrap_i64 (Om:-9223372036854775808<=((A:Nat):Int)-(x:Nat)) Om;have D:=wZz i;unfold riB at B ⊢;simp only[go_sem,xO,w,asO];refine B Lq b_ ?_;simp only[go_sem];refine bE .nil (cyS (.j (x:Nat))) a_ ?_;simp only[go_sem,w,E,X,lG hp,he,asO];refine cJ rfl kl Sq a_ ?_;simp only[go_sem,β];cases hb:s.all (OI (L.getD v []) (cD f L) (bA f room))with
  |false =>rw[hb,atE,aC aR]at u;simp only[go_sem,D];exact aE (i+1) y Om (lE1 u) b_
  |true =>rw[hb,atJ]at u;by_cases c:((A:Nat):Int)-(x:Nat)>oJ f sc L a;rw[aW c,aF rfl]at u;simp only[go_sem,c,decide_true];refine bE .nil cR a_ ?_;simp only[go_sem,w,E,asO,D];exact aE (i+1) y Om (by(repeat' (first|exact c_|refine e_ ?_ ?_))<;>first|(simp only[go_sem,u,hg,pkI,pkS]<;>rfl)|rfl) b_;rw[bD c,aC aR]at u;simp only[go_sem,c,decide_false,D];exact aE (i+1) y Om (lE1 u) b_
 have w:¬(i:Int)<(Z' S:Nat):=Om;have:i=Z' S:=Om;subst this;rw[atL];unfold riB;simp only[go_sem,xO,w,asO];exact Up.up (by unfold riA;exact Lq) hK
structure Ky(C:Ctx):Prop where
 loads:∀(f:aB)(l:L2_),f.Ok->iD l->aH C 151 [.agg f.cells,lay l] .nil (zG (rY f l))
 fits:∀(loads R row set:I_),Z' row<=1000->Z' set<=1000->(∀x∈loads,0<=x/\x<=100000000)->(∀d∈set,0<=d/\d<(Z' loads:Nat)/\d<(Z' R:Nat))->aH C 370 [ints loads,ints R,ints row,ints set] .nil (aK (.bool (set.all (HI loads R row))))
 exch:∀(row set:I_),Z' row<=1000->Z' set<=1000->(∀x∈row,0<=x)->(∀x∈set,0<=x)->set.Nodup->(eJ row set).length=(row.filter λd=>!set.contains d).length->row≠[]->aH C 371 [ints row,ints set] .nil (aK (ints (eT set row (eJ row set))))
def imC(f:aB)(room:I_)(sc:L2_)(e i n:Nat):PF:=(((((((n_.set 2 (ints room)).set 4 (.aU f.cells)).set 10 (lay sc)).set 12 (.osl e 1 0 n)).set 13 (.osl i 1 0 n)).set 16 (.sl 1 (iT f sc f.arD.length))).set 17 (ints (bA f room)))
theorem Rs(f:aB)(sc L:L2_){v:Nat}(l:v<Z' L)(r:I_):iK f sc (L.set v r)=(iK f sc L).set v [.j (eO sc r (bF f v).m:Nat)]:=by
 unfold iK;rw[auD];refine avL aZ λi u w=>?_;rw[List.getElem_set];simp only[auN,List.getElem_range];rw[xZ L v i r l];by_cases e:i=v;subst e;rw[aF rfl,aF rfl];rw[aC e,aC (λh=>e h.symm)]
theorem Ro{K:bP}[Up K](Lb:Ky C)(f:aB)(L:L2_)(room:I_)(W:eU f L room=true)(sc:L2_)(i l u:Nat)(n1:¬i=l)(n2:¬i=u)(n3:¬l=u){F:PF}{H:PH}
  (hF:(((imC f room sc i l L.length).set 19 (.j (pkI (gE f sc (bA f room) L L.length)))).set 20 (.ptr u 2 0 0)).le F) (U:(imK f sc L i l u (gE f sc (bA f room) L L.length)).le H)
  (h1:gE f sc (bA f room) L L.length=none->∀M H',M 8=some (.osl i 1 0 L.length)->M 9=some (.j 0)->H' i=some (.rows 1 (dP L))->K .ret M H')
  (B:∀x,gE f sc (bA f room) L L.length=some x->∀M H',(imC f room sc i l L.length).le M->(imH i l (dP (oL L x.1 x.2)) (iK f sc (oL L x.1 x.2))).le H'->K .normal M H') :
  aJ.wp C (.seq (.seq (.region vE) (.cond (.tmp 147) (.seq (.region zW) .ret) .skip)) (.seq (.draw zX) (.draw zY))) K F H:=by
 have hV:=VF.of (gM W);have hS:=mN W;have δ:=hS.len;refine jL _ (λ_ _ _ _ a b=>Up.up a b) hF ?_;have A:H i=some (.rows 1 (dP L)):=U _ _ (by unfold imK imH;simp only[go_sem,n1,n2]);have N:H l=some (.rows 1 (iK f sc L)):=U _ _ (by unfold imK imH;simp only[go_sem,n3]);have w:H u=some (.rows 2 [pkC f sc (gE f sc (bA f room) L L.length)]):=U _ _ (by unfold imK imH;simp only[go_sem]);unfold imC at B ⊢;cases hp:gE f sc (bA f room) L L.length with
 |none =>rw[hp]at w;simp only[go_sem,vE,pkI,show((-1:Int)<0)from by decide,zW];exact h1 hp _ _ Sq Sq A
 |some x=>
  obtain⟨v,s⟩:=x;rw[hp]at w;obtain⟨J,p2,p3,p4⟩:=qU _ _ hp;simp only at J p2 p3 p4;have α:v<Z' f.arD:=Om;obtain⟨z1,z2⟩:=IC hV α;obtain⟨s1,s2,s3,-⟩:=GL z2 p2;have V:L.getD v []=L[v]:=by simp[asW,J]
  obtain⟨r1,r2,r3,r4⟩:=kS W J;have E:s.Nodup:=s3.imp λh=>Int.ne_of_lt h;have η:=hS.row v J;have R:Z' s=L[v].length:=Om;have hx:=Lb.exch L[v] s Om Om (λy hy=>(r2 y hy).1) (λy hy=>(s2 y hy).1) E (dl r1 E R) r3;have Y:=vb r1 E R;have B:=B (v,s) hp;have X:oL L v s=L.set v (eT s L[v] (eJ L[v] s)):=by unfold oL;rw[V]
  simp only at B;rw[X,Rs f sc L J,UZ Y]at B;have e1:dP (L.set v (eT s L[v] (eJ L[v] s)))=(dP L).set v [ints (eT s L[v] (eJ L[v] s))]:=by unfold dP;rw[avP]
  rw[e1]at B;have O:(dP L)[v]?=some [ints L[v]]:=by unfold dP;simp[J]
  have ε:(dP L).length=Z' L:=asO _;have ζ:(iK f sc L).length=Z' L:=by unfold iK;simp
  have D:∃y,(iK f sc L)[v]?=some [y]:=by unfold iK;rw[atC,auT J];exact⟨_,rfl⟩
  obtain⟨y,D⟩:=D;have S:(v:Int)<(Z' L:Nat):=Om;have Z:¬(v:Int)<0:=Om;generalize eT s L[v] (eJ L[v] s)=r at *
  generalize L[v]=row at *
  simp only[go_sem,vE,pkI,Z,decide_false];have hq:(h_.set u (.rows 2 [[ints s,.j (eO sc s (bF f v).m:Nat)]])).le H:=d_ a_ w;refine bE _ (cyS (ints r)) hq ?_;simp only[go_sem,zX,A,w,pkC,S,O];refine cJ rfl hx Sq hq ?_;have γ:¬u=i:=λe=>n2 e.symm;have β:¬l=i:=λe=>n1 e.symm;simp only[go_sem,S,w,A,N,O,avR];refine⟨d_ a_ (by simp only[go_sem,γ,w];rfl),?_⟩;refine bE .nil cR a_ ?_;simp only[go_sem,zY,β,N,D,avR];refine⟨a_,?_⟩;refine B _ _ Lq (d_ (d_ a_ (by simp only[go_sem,n1])) Sq)
theorem XU{K:bP}{c:aJ}{F:PF}{H:PH}{q s:Nat}{rs:P2_}(hq:H q=some (.rows s rs))(h:aJ.wp C (.loop c) K (F.frz q s rs) (H.frz q s rs)):aJ.wp C (.loop c) K F H:=by
 obtain⟨α,i,Hs,l,m,u,e,H2,w,rest⟩:=h;exact⟨α,i,Hs,l,m,u,e,H2,.step q hq w,rest⟩
theorem Cx(q:Nat)(l:I_):PV.frz q 1 (aM l) (.osl q 1 0 l.length)=ints l:=by
 simp only[PV.frz,PV.mM,PV.cO,if_true,true_and,atA,bV,asU,avG,my];rw[<-bV l,atL]
theorem Hf{K:bP}[Up K](Lb:Ky C)(f:aB)(hf:f.Ok)(L0:L2_)(room:I_)(ε:eU f L0 room=true)(sc:L2_)(k1:Z' sc<=1099511627776)(i u:Nat)(n1:¬i=u){F:PF}{H:PH}
  (hF:(imC f room sc i u L0.length).le F) (hH:(imH i u (dP L0) (iK f sc L0)).le H)
  (hK:∀U H',U 8=some (.osl i 1 0 L0.length)->U 9=some (.j 0)->H' i=some (.rows 1 (dP (pY f sc (bA f room) L0)))->K .ret U H') :
  aJ.wp C (.loop HT) K F H:=by
 refine jL _ (λ_ _ _ _ a b=>Up.up a b) hF ?_;generalize hn:Z' L0=n at *
 refine wp_loop (α:=L2_) (λ_=>imC f room sc i u n) (λL=>imH i u (dP L) (iK f sc L)) (λL=>eU f L room=true/\Z' L=n/\pY f sc (bA f room) L=pY f sc (bA f room) L0) (λL=>pR f sc L L.length) L0 ⟨ε,hn,rfl⟩ PF.le_refl hH ?_;rintro L ⟨M,rfl,hi⟩;have Z:=gM M;have hV:=VF.of Z;have hS:=mN M;have ζ:=hS.len;have η:=hV.small.arD;have X:(dP L).length=Z' L:=asO _;have kl:=Lb.loads f L hf (hS.ok hV);unfold rY at kl;rw[Z,aF rfl]at kl;have ke:[PV.agg f.cells,.osl i 1 0 L.length].map (PV.frz i 1 (dP L))=[.agg f.cells,lay L]:=by simp only[atU,auH];rw[show PV.frz i 1 (dP L) (.agg f.cells)=.agg f.cells from rfl];simp only[PV.frz,PV.mM,PV.cO,if_true,true_and,atA,X,asU,avG];rw[<-X,atL];rfl
 have kx:=aH.aaC (o:=i) (s:=1) (rs:=dP L) (ke ▸ kl);have B:∀(w:Nat)(F:PF)(H:PH),¬i=w->¬u=w->(((imC f room sc i u L.length).set 19 (.j (pkI (gE f sc (bA f room) L L.length)))).set 20 (.ptr w 2 0 0)).le F->(imK f sc L i u w (gE f sc (bA f room) L L.length)).le H ->
   aJ.wp C (.seq (.seq (.region vE) (.cond (.tmp 147) (.seq (.region zW) .ret) .skip)) (.seq (.draw zX) (.draw zY))) (fL 4 (fK (λ_=>imC f room sc i u L.length) (λL=>imH i u (dP L) (iK f sc L)) (λL'=>eU f L' room=true/\Z' L'=Z' L/\pY f sc (bA f room) L'=pY f sc (bA f room) L0) (λL=>pR f sc L L.length) (pR f sc L L.length) K)) F H:=by
  intro w F H O R hF hH;refine Ro Lb f L room M sc i u w n1 O R hF hH (λhp U H' a8 a9 β=>?_) λx hp U H' γ δ=>?_;refine hK U H' a8 a9 ?_;rw[β,<-hi,fe hp];obtain⟨p1,p2,p3,p4⟩:=qU _ _ hp;obtain⟨m1,m2,m3⟩:=AB M p1 p2 p3;have m4:=DF (f:=f) (sc:=sc) p1 m3 p4;exact aE (K:=K) (oL L x.1 x.2) ⟨m1,m2,by rw[<-Da M hp,hi]⟩ (by rw[m2];exact m4) γ δ
 unfold imC;simp only[go_sem,HT];refine iL kx Sq (d_ a_ (by unfold imH;simp only[go_sem,n1])) ?_;rintro r H' ⟨V,hM,J,rfl⟩ W;have D:((imH i u (dP L) (iK f sc L)).over (h_.set i (.rows 1 (dP L))) (V.set i (.rows 1 (dP L)))) i=some (.rows 1 (dP L)):=by rw[iM,bK]
 have N:¬u=i:=λe=>n1 e.symm;have S:imH i u (dP L) (iK f sc L) u=some (.rows 1 (iK f sc L)):=bK _ _;have A:V u=none:=by
  cases e:V u with
  |none=>rfl
  |some x =>have:=W u x (by simp only[go_sem,N,e]) (by simp only[go_sem,N]);rw[S]at this;cases this
 have E:((imH i u (dP L) (iK f sc L)).over (h_.set i (.rows 1 (dP L))) (V.set i (.rows 1 (dP L)))) u=some (.rows 1 (iK f sc L)):=by rw[iM];simp only[go_sem,N,A,S]
 have Y:(r=.aG/\cD f L=[])\/∃q,r=.osl q 1 0 (cD f L).length/\((imH i u (dP L) (iK f sc L)).over (h_.set i (.rows 1 (dP L))) (V.set i (.rows 1 (dP L)))) q=some (.rows 1 (aM (cD f L)))/\¬i=q/\¬u=q:=by
  rcases hM with⟨e,rfl,-⟩|⟨q,rfl,rfl⟩
  exact .inl ⟨rfl,e⟩;have a1:¬i=q:=by rintro rfl;rw[bK]at J;cases J
  have a2:¬u=q:=by rintro rfl;rw[bK]at A;cases A
  refine .inr ⟨q,rfl,?_,a1,a2⟩;rw[iM];simp only[go_sem,show ¬q=i from λe=>a1 e.symm]
 generalize(imH i u (dP L) (iK f sc L)).over _ _=H2 at *
 clear hM W J A S V;simp only[go_sem];refine aQ λw y=>?_;have O:¬i=w:=by rintro rfl;rw[D]at y;cases y
 have R:¬u=w:=by rintro rfl;rw[E]at y;cases y
 simp only[go_sem];rcases Y with⟨rfl,e⟩|⟨q,rfl,hq,a1,a2⟩
 have hL:L=[]:=by
  cases hc:L with
  |nil=>rfl
  |cons row t=>
   have hlt:0<Z' L:=by rw[hc];exact Nat.zero_lt_succ _
   obtain⟨-,r2,r3,-⟩:=kS M hlt;obtain⟨x,hx⟩:=List.exists_mem_of_ne_nil _ r3;obtain⟨x0,x1⟩:=r2 x hx;have:=congrArg awE e;unfold cD at this;rw[iV]at this;simp only[avD]at this;omega
 subst hL;refine wp_loop (α:=Unit) (λ_=>(((((((((((n_.set 2 (ints room)).set 4 (.aU f.cells)).set 10 (lay sc)).set 12 (.osl i 1 0 0)).set 13 (.osl u 1 0 0)).set 16 (.sl 1 (iT f sc f.arD.length))).set 17 (ints (bA f room))).set 19 (.j (-1))).set 20 (.ptr w 2 0 0)).set 89 (.j 0)).set 90 (.j 0))) (λ_=>imK f sc [] i u w none) (λ_=>True) (λ_=>0) () trivial Lq (d_ (d_ (d_ a_ (by simp only[go_sem,O,D])) (by simp only[go_sem,R,E])) (by simp only[go_sem,pkC])) ?_;rintro⟨⟩ -;simp only[go_sem,vD,show ¬(0:Int)<0 from by decide];refine B w _ _ O R (by unfold imC;(repeat' (first|exact c_|refine e_ ?_ ?_))<;>first|(simp only[go_sem,show gE f sc (bA f room) [] ([]:L2_).length=none from rfl,pkI]<;>rfl)|rfl) b_;have b1:¬w=q:=by rintro rfl;rw[hq]at y;cases y
 have eo:=Cx q (cD f L);have e2:∀n,PV.frz q 1 (aM (cD f L)) (.osl i 1 0 n)=.osl i 1 0 n:=λn=>by simp only[PV.frz,PV.mM,PV.cO,aC a1]
 have e3:∀n,PV.frz q 1 (aM (cD f L)) (.osl u 1 0 n)=.osl u 1 0 n:=λn=>by simp only[PV.frz,PV.mM,PV.cO,aC a2]
 have e0:∀l,PV.frz q 1 (aM (cD f L)) (ints l)=ints l:=λ_=>rfl;have e1:∀l,PV.frz q 1 (aM (cD f L)) (lay l)=lay l:=λ_=>rfl;have e4:PV.frz q 1 (aM (cD f L)) (.aU f.cells)=.aU f.cells:=rfl;have e5:∀l,PV.frz q 1 (aM (cD f L)) (.sl 1 l)=.sl 1 l:=λ_=>rfl;have e6:∀n,PV.frz q 1 (aM (cD f L)) (.j n)=.j n:=λ_=>rfl;have e7:PV.frz q 1 (aM (cD f L)) (.ptr w 2 0 0)=.ptr w 2 0 0:=rfl;refine XU (q:=q) (s:=1) (rs:=aM (cD f L)) (by simp only[go_sem,show ¬q=w from λe=>b1 e.symm,hq]) ?_;refine Rp Lb.fits f L room M sc k1 i u w n1 O R (by unfold imB;(repeat' (first|exact c_|refine e_ ?_ ?_))<;>first|(simp only[go_sem,eo,e0,e1,e2,e3,e4,e5,e6,e7,pkI]<;>rfl)|rfl) (d_ (d_ (d_ a_ ?_) ?_) ?_) ?_;simp only[go_sem,O,a1,D,aS.frz];rw[yV (λr Y=>ER L q 1 _ r Y)];simp only[go_sem,R,a2,E,aS.frz];rw[yV (λr Y=>np f sc L q 1 _ r Y)];simp only[go_sem,b1,aS.frz];rfl;refine B w _ _ O R (by unfold imC imB;exact Lq) b_
theorem P0{f:aB}(l:cI f=true)(u:Z' f.arB<=12){v:Nat}(h:v<Z' f.arD):sP f (dI f v:Nat)=0/\zK f (dI f v:Nat)=gQ f (bF f v):=by
 obtain⟨hp,-⟩:=iN (VF.of l) h;have e:mZ f ((dI f v:Nat):Int)=true:=by unfold mZ;rw[l,aW Om,aW (Om:((dI f v:Nat):Int)<(Z' f.arF:Nat))];rfl
 have i:sP f ((dI f v:Nat):Int)=0:=by unfold sP;rw[e,aF rfl,aC Om]
 refine⟨i,?_⟩;unfold zK;rw[i,aF rfl];rfl
theorem Jd{o n:Nat}{rs:P2_}{L:L2_}(i:n<=Z' rs)(e:rs.take n=dP L):PV.cO o 1 rs (.osl o 1 0 n)=lay L:=by
 simp only[PV.cO,if_true,true_and,atA,aF i,avG,e];rfl
theorem E9{o n:Nat}{rs:P2_}{L:L2_}{c:Int}{F:PF}{H:PH}(h8:F 8=some (.osl o 1 0 n))(i:F 9=some (.j c))(u:H o=some (.rows 1 rs))(l:n<=Z' rs)(e:rs.take n=dP L):aV [.tmp 8,.tmp 9] (cN (.tup [lay L,.j c])) .ret F H:=by
 refine pE (vs:=[.osl o 1 0 n,.j c]) (.inr rfl) (by rw[nT,sB,h8,nT,sB,i,uE]) (vQ.step u ?_);have h:=Jd (o:=o) l e;show vQ (.tup [PV.mM o 1 rs (.osl o 1 0 n),.j c]) _ _;rw[show PV.mM o 1 rs (.osl o 1 0 n)=PV.cO o 1 rs (.osl o 1 0 n)from rfl,h];exact .done (H2:=.nil) ⟨.refl _,rfl⟩ a_
structure zm(C:Ctx):Prop where
 has:∀(l:I_)(x:Int),Z' l<=1000000000000000->aH C 378 [ints l,.int .i64 x] .nil (aK (.bool (l.contains x)))
 lost:∀(sc:L2_) (set:I_) (m:Int),Z' sc<=1000000000000000->(∀s∈sc,Z' s<=1000000000000000)->Z' set<=1000000000000000->aH C 220 [lay sc,ints set,.int .i64 m] .nil (aK (.int .i64 (eO sc set m:Nat)))
 iu:∀(f:aB)(arO:Int),f.Ok->aH C 216 [.agg f.cells,.int .i64 arO] .nil (aK (.tup [lay (zK f arO),.int .i64 (sP f arO)]))
 rloads:∀(f:aB)(l:L2_),f.Ok->iD l->aH C 84 [.agg f.cells,lay l] .nil (zG (rY f l))
 settle:∀(row set:I_),Z' row<=1000->Z' set<=1000->(eJ row set).length=(row.filter λd=>!set.contains d).length->aH C 379 [ints row,ints set] .nil (aK (ints (eT set row (eJ row set))))
theorem Nz{K:bP}[Up K](y:zm C)(f:aB)(X:f.Ok)(u:Z' f.arB<=12)(L:L2_)(room:I_)(A:eU f L room=true)(sc:L2_)(Z:Z' sc<=1099511627776)(O:∀s∈sc,Z' s<=1000000000000000)(o:Nat)(rs:P2_)(w:∀v,v<Z' L->rs[v]?=some [ints (L.getD v [])]){F:PF}{H:PH}
  (S:(riA f sc (bA f room) (cD f L) L.length o 0 (-1) .aG 0).le F) (U:(h_.set o (.rows 1 rs)).le H)
  (M:K (.exit 4) (riA f sc (bA f room) (cD f L) L.length o (oJ f sc L (gE f sc (bA f room) L L.length)) (pkI (gE f sc (bA f room) L L.length)) (pkS (gE f sc (bA f room) L L.length)) L.length) (h_.set o (.rows 1 rs))) :
  aJ.wp C (.loop tQ) K F H:=by
 have l:=gM A;have hV:=VF.of l;have V:=mN A;have Y:=hV.small.arD;have N:=V.len;refine jL _ (λ_ _ _ _ a b=>Up.up a b) S ?_;refine wp_loop (α:=Nat) (λv=>riA f sc (bA f room) (cD f L) L.length o (oJ f sc L (gE f sc (bA f room) L v)) (pkI (gE f sc (bA f room) L v)) (pkS (gE f sc (bA f room) L v)) v) (λ_=>h_.set o (.rows 1 rs)) (λv=>v<=Z' L) (λv=>Z' L-v) 0 (asQ _) PF.le_refl U ?_;intro v hv;by_cases hlt:v<Z' L;have e:(v:Int)<(Z' L:Nat):=Om;have i:v<Z' f.arD:=Om;have J:(v:Int)<(Z' f.arD:Nat):=Om;obtain⟨hp,he⟩:=iN hV i;have E:((dI f v:Nat):Int)<(Z' f.arF:Nat):=Om;have R:=y.iu f (dI f v:Nat) X;rw[(P0 l u i).1,(P0 l u i).2]at R;obtain⟨-,-,-,r4⟩:=kS A hlt;have B:L.getD v []=L[v]:=by simp[asW,hlt]
 rw[<-B]at r4;have kl:=y.lost sc (L.getD v []) (bF f v).m Om O Om;have x:=λ{K:bP} [Up K] {F:PF} {H:PH}=>X4 (C:=C) (K:=K) y.has y.lost f L room A sc Z O o rs v hlt (w v hlt) (gE f sc (bA f room) L v) (F:=F) (H:=H);have W:=w v hlt;have D:gE f sc (bA f room) L (v+1)=CJ f sc (bA f room) L (gE f sc (bA f room) L v) v:=rfl;unfold riA riB at x;unfold riA;simp only[go_sem,tQ,e,J,asO,oT i,hV.AH i];refine aD R Sq ?_;simp only[go_sem];refine bE .nil (cyS (.j (eO sc (L.getD v []) (bF f v).m:Nat))) a_ ?_;simp only[go_sem,e,W,E,lG hp,he,asO];refine cJ rfl kl Sq a_ ?_;simp only[go_sem];refine x Lq b_ ?_;simp only[go_sem,wZz v];exact aE (v+1) hlt Om (lE1 D) b_;have e:¬(v:Int)<(Z' L:Nat):=Om;have:v=Z' L:=Om;subst this;unfold riA at M ⊢;simp only[go_sem,tQ,e];exact Up.up Lq M
def riC(f:aB)(sc:L2_)(R:I_)(n o:Nat):PF:=((((n_.set 4 (.aU f.cells)).set 10 (lay sc)).set 12 (.osl o 1 0 n)).set 14 (ints R))
theorem Ny{K:bP}[Up K](U:zm C)(f:aB)(L:L2_)(room:I_)(B:eU f L room=true)(sc:L2_)(o:Nat)(rs:P2_)(Y:Z' L<=Z' rs)(A:∀v,v<Z' L->rs[v]?=some [ints (L.getD v [])]){F:PF}{H:PH}
  (W:(riA f sc (bA f room) (cD f L) L.length o (oJ f sc L (gE f sc (bA f room) L L.length)) (pkI (gE f sc (bA f room) L L.length)) (pkS (gE f sc (bA f room) L L.length)) L.length).le F) (X:(h_.set o (.rows 1 rs)).le H)
  (V:gE f sc (bA f room) L L.length=none->∀e H',e 8=some (.osl o 1 0 L.length)->e 9=some (.j 0)->H' o=some (.rows 1 rs)->K .ret e H')
  (i:∀x,gE f sc (bA f room) L L.length=some x->∀e H',(riC f sc (bA f room) L.length o).le e->(h_.set o (.rows 1 (rs.set x.1 [ints ((oL L x.1 x.2).getD x.1 [])]))).le H'->K .normal e H') :
  aJ.wp C (.seq (.seq (.region tR) (.cond (.tmp 172) (.seq (.region xQ) .ret) .skip)) (.region EA)) K F H:=by
 have hV:=VF.of (gM B);have O:=mN B;have R:=O.len;refine jL _ (λ_ _ _ _ a b=>Up.up a b) W ?_;have g:H o=some (.rows 1 rs):=X _ _ (bK _ _);unfold riC at i;unfold riA;cases hp:gE f sc (bA f room) L L.length with
 |none =>simp only[go_sem,tR,pkI,show((-1:Int)<0)from by decide,xQ];exact V hp _ _ Sq Sq g
 |some x=>
  obtain⟨v,s⟩:=x;obtain⟨l,S,p3,p4⟩:=qU _ _ hp;simp only at l S p3 p4;have N:v<Z' f.arD:=Om;obtain⟨z1,z2⟩:=IC hV N;obtain⟨s1,s2,s3,-⟩:=GL z2 S;have u:L.getD v []=L[v]:=by simp[asW,l]
  obtain⟨r1,r2,r3,r4⟩:=kS B l;have E:s.Nodup:=s3.imp λh=>Int.ne_of_lt h;have Z:=O.row v l;have J:Z' s=L[v].length:=Om;have hx:=U.settle L[v] s Om Om (dl r1 E J);have i:=i (v,s) hp;have y:=A v l;have D:(oL L v s).getD v []=eT s L[v] (eJ L[v] s):=by unfold oL;rw[xZ L v v _ l,aF rfl,u]
  simp only at i;rw[D]at i;rw[u]at y;have w:(v:Int)<(Z' L:Nat):=Om;have M:¬(v:Int)<0:=Om;generalize eT s L[v] (eJ L[v] s)=r at *
  generalize L[v]=row at *
  simp only[go_sem,tR,pkI,M,decide_false,EA,g,w,y];refine aD hx (by simp only[go_sem,pkS]) ?_;simp only[go_sem,w,g,y,avR];exact i _ _ Lq (d_ a_ (bK _ _))
theorem Fc{K:bP}[Up K](N:zm C)(f:aB)(hf:f.Ok)(R:Z' f.arB<=12)(L0:L2_)(room:I_)(X:eU f L0 room=true)(h0:0<Z' L0)(sc:L2_)(k1:Z' sc<=1099511627776)(k2:∀s∈sc,Z' s<=1000000000000000)(o:Nat)(i:P2_)(Y:Z' L0<=Z' i)(Z:i.take L0.length=dP L0){F:PF}{H:PH}
  (hF:(riC f sc (bA f room) L0.length o).le F) (hH:(h_.set o (.rows 1 i)).le H)
  (hK:∀y H' rs,y 8=some (.osl o 1 0 L0.length)->y 9=some (.j 0)->H' o=some (.rows 1 rs)->Z' L0<=Z' rs->rs.take L0.length=dP (pY f sc (bA f room) L0)->K .ret y H') :
  aJ.wp C (.loop xP) K F H:=by
 refine jL _ (λ_ _ _ _ a b=>Up.up a b) hF ?_;generalize hn:Z' L0=n at *
 refine wp_loop (α:=L2_ × P2_) (λ_=>riC f sc (bA f room) n o) (λt=>h_.set o (.rows 1 t.2)) (λt=>eU f t.1 room=true/\t.1.length=n/\n<=t.2.length/\t.2.take n=dP t.1/\pY f sc (bA f room) t.1=pY f sc (bA f room) L0) (λt=>pR f sc t.1 t.1.length) (L0,i) ⟨X,hn,Y,Z,rfl⟩ PF.le_refl hH ?_;rintro⟨L,rs⟩ ⟨w,A,D,E,hi⟩;simp only at w A D E hi ⊢;subst A;have B:=gM w;have hV:=VF.of B;have hS:=mN w;have kl:=N.rloads f L hf (hS.ok hV);unfold rY at kl;rw[B,aF rfl]at kl;have ke:[PV.agg f.cells,.osl o 1 0 L.length].map (PV.frz o 1 rs)=[.agg f.cells,lay L]:=by simp only[atU,auH];rw[show PV.frz o 1 rs (.agg f.cells)=.agg f.cells from rfl,show PV.frz o 1 rs (.osl o 1 0 L.length)=PV.cO o 1 rs (.osl o 1 0 L.length)from rfl,Jd D E]
 have kx:=aH.aaC (o:=o) (s:=1) (rs:=rs) (ke ▸ kl);have V:∀v,v<Z' L->rs[v]?=some [ints (L.getD v [])]:=λv J=>by have:=congrArg (λl=>l[v]?) E;simp only[awI,aF J]at this;rw[this];unfold dP;simp[asW,J]
 unfold riC;simp only[go_sem,xP];refine iL kx Sq b_ ?_;rintro r H' ⟨M,hM,u,rfl⟩ β;rw[show(h_.set o (.rows 1 rs)).over (h_.set o (.rows 1 rs)) (M.set o (.rows 1 rs))=M.set o (.rows 1 rs)from PH.ext λq=>by rw[iM];simp only[aO,MQ];by_cases e:q=o;simp[e];simp only[aC e];cases M q<;>rfl];rcases hM with⟨e,-,-⟩|⟨q,rfl,rfl⟩
 obtain⟨-,r2,r3,-⟩:=kS w h0;obtain⟨x,hx⟩:=List.exists_mem_of_ne_nil _ r3;obtain⟨x0,x1⟩:=r2 x hx;have:=congrArg awE e;unfold cD at this;rw[iV]at this;simp only[avD]at this;omega;have a1:¬o=q:=by rintro rfl;rw[bK]at u;cases u
 have eo:=Cx q (cD f L);have e2:∀n,PV.frz q 1 (aM (cD f L)) (.osl o 1 0 n)=.osl o 1 0 n:=λn=>by simp only[PV.frz,PV.mM,PV.cO,aC a1]
 have e0:∀l,PV.frz q 1 (aM (cD f L)) (ints l)=ints l:=λ_=>rfl;have e1:∀l,PV.frz q 1 (aM (cD f L)) (lay l)=lay l:=λ_=>rfl;have e4:PV.frz q 1 (aM (cD f L)) (.aU f.cells)=.aU f.cells:=rfl;have e6:∀n,PV.frz q 1 (aM (cD f L)) (.j n)=.j n:=λ_=>rfl;have e7:PV.frz q 1 (aM (cD f L)) .aG=.aG:=rfl;simp only[go_sem];refine XU (q:=q) (s:=1) (rs:=aM (cD f L)) (by simp only[go_sem,show ¬q=o from λe=>a1 e.symm]) ?_;have W:∃rs',Z' rs'=Z' rs/\rs'.take L.length=dP L/\((((h_.set q (.rows 1 (aM (cD f L)))).set o (.rows 1 rs)).frz q 1 (aM (cD f L))) o=some (.rows 1 rs'))/\∀v,v<Z' L->rs'[v]?=some [ints (L.getD v [])]:=by refine⟨rs.map λr=>r.map (PV.cO q 1 (aM (cD f L))),by simp,?_,by simp only[go_sem,a1,aS.frz],λv J=>?_⟩;rw[<-List.map_take,E,yV (λr D=>ER L q 1 _ r D)];rw[atC,V v J];rfl
 obtain⟨rs',f1,f2,f3,f4⟩:=W;refine Nz N f hf R L room w sc k1 k2 o rs' f4 (by unfold riA;exact lE7 eo e0 e1 e2 e4 e6 e7) (d_ a_ f3) ?_;have h:=Ny (K:=fL 3 (fK (λ_=>riC f sc (bA f room) L.length o) (λt=>h_.set o (.rows 1 t.2)) (λt:L2_ × P2_=>eU f t.1 room=true/\t.1.length=Z' L/\Z' L<=t.2.length/\t.2.take L.length=dP t.1/\pY f sc (bA f room) t.1=pY f sc (bA f room) L0) (λt=>pR f sc t.1 t.1.length) (pR f sc L L.length) K)) N f L room w sc o rs' Om f4 PF.le_refl b_
  (λhp y H' a8 a9 O=>hK y H' rs' a8 a9 O Om (by rw[f2,<-hi,fe hp])) λx hp y H' S U=>by obtain⟨p1,p2,p3,p4⟩:=qU _ _ hp;obtain⟨m1,m2,m3⟩:=AB w p1 p2 p3;have m4:=DF (f:=f) (sc:=sc) p1 m3 p4;refine aE (K:=K) (oL L x.1 x.2,rs'.set x.1 [ints ((oL L x.1 x.2).getD x.1 [])]) ⟨m1,m2,by rw[auD];omega,?_,by rw[<-Da w hp,hi]⟩ (by simp only;rw[m2];exact m4) S U;rw[List.take_set,f2];unfold oL dP;rw[avP,xZ L x.1 x.1 _ p1,aF rfl]
 exact h
def HO(f:aB)(lv e:Int)(room:I_)(L:L2_):Int:=if fS f lv e≠0 then fS f lv e else if eU f L room then 0 else 1
def OW(f:aB)(lv e:Int)(room:I_)(L:L2_):L2_:=if HO f lv e room L=0 then pY f (lR f lv e) (bA f room) L else[]
theorem Ji(f:aB)(sc:L2_)(R:I_):∀(n:Nat)(L:L2_),(BI f sc R n L).length=Z' L
 |0,_=>rfl
 |n+1,L=>by rw[BI];split;rfl;rw[Ji f sc R n];exact auD
theorem Td{f:aB}{lv e:Int}(i:cI f=true)(c:fS f lv e=0):Z' f.arB<=12:=by
 unfold fS at c;split at c;split at c;cases c;omega;cases c
structure Zz(C:Ctx):Prop extends Ky C where
 Fl:∀(f:aB)(lv cnt:Int),f.Ok->aH C 230 [.agg f.cells,rI lv cnt] .nil (aK (.tup [lay (lR f lv cnt),.int .i64 (fS f lv cnt)]))
 holds:∀(f:aB)(l:L2_) (room:I_),f.Ok->iD l->aH C 150 [.agg f.cells,lay l,ints room] .nil (aK (.bool (eU f l room)))
 room:∀(f:aB)(room:I_),f.Ok->aH C 152 [.agg f.cells,ints room] .nil (aK (ints (oR f room)))
 opts:∀(f:aB),f.Ok->cI f=true->Z' f.arB<=12->∀sc:L2_,Z' sc<=1000000000000000->(∀s∈sc,Z' s<=1000000000000000/\s.Pairwise (· < ·))->aH C 369 [.agg f.cells,lay sc] .nil (aK (.sl 1 (iT f sc f.arD.length)))
 srt:∀row:I_,row≠[]->Z' row<=1000->aH C 368 [ints row] .nil (aK (ints (sorted row)))
 loss:∀(sc:L2_),Z' sc<=1000000000000000->(∀s∈sc,Z' s<=1000000000000000/\s.Pairwise (· < ·))->∀(set:I_),Z' set<=1000000000000000->set.Pairwise (· < ·)->∀m:Int,
  aH C 367 [lay sc,ints set,.int .i64 m] .nil (aK (.int .i64 (eO sc set m:Nat)))
theorem Hg(u:Zz C)(f:aB)(E:f.Ok)(lv i:Int)(room:I_)(L:L2_)(Y:iD L) :
  SW.wp C (aV dY.res (cN (.tup [lay (OW f lv i room L),.j (HO f lv i room L)]))) (g_ [.agg f.cells,rI lv i,ints room,lay L]) .nil:=by
 have hB:OW f lv i room L=if HO f lv i room L=0 then pY f (lR f lv i) (bA f room) L else[]:=rfl
 have l:HO f lv i room L=if fS f lv i≠0 then fS f lv i else if eU f L room then 0 else 1:=rfl
 simp only[go_sem,SW,dY];refine aD (u.Fl f lv i E) Ev ?_;by_cases c:fS f lv i≠0;rw[aF c]at l;rw[l,aC c]at hB;rw[hB,l];simp only[go_sem,cY c];exact kF (.inr rfl) Sq (aN.qS aN.nil);have c:fS f lv i=0:=Decidable.not_not.1 c;rw[aC (λh=>h c)]at l;simp only[go_sem,c,cB (show(0:Int)=0 from rfl)];refine aD (u.holds f L room E Y) Ev ?_;cases A:eU f L room with
 |false =>rw[A,aC aR]at l;rw[l,aC aR]at hB;rw[hB,l];simp only[go_sem,atH];exact kF (.inr rfl) Sq (aN.qS aN.nil)
 |true=>
  rw[A,aF rfl]at l;rw[l,aF rfl]at hB;have F:=gM A;have hV:=VF.of F;have Z:=mN A;have α:=hV.small.arD;have S:=Z.len;have K:=Td F c;obtain⟨U,V⟩:=Kb F lv i;have w:=u.room f room E;unfold oR at w;rw[F,aF rfl]at w;rw[hB,l];generalize lR f lv i=sc at *
  have O:=u.opts f E F K sc Om V;have M:(Z' L:Int)*((24:Nat):Int)<=140737488355328:=Om;have N:(Z' L:Int)*((8:Nat):Int)<=140737488355328:=Om;have D:(Z' L:Int)<=9223372036854775807:=Om;simp only[go_sem,asY,asO,M,D];refine aQ λx R=>?_;simp only[go_sem,asO,N,D];refine aQ λy B=>?_;have W:¬x=y:=by rintro rfl;rw[bK]at B;cases B
  simp only[go_sem,asO];refine Rn ⟨u.srt,u.loss⟩ f L room A sc U V x y W (by unfold imA;exact Lq) ?_;unfold imA;simp only[go_sem];refine bE .nil (agJ 369 (.sl 1 (iT f sc f.arD.length)) (ints (bA f room))) a_ ?_;simp only[go_sem];refine cJ rfl O Sq a_ ?_;simp only[go_sem];refine cJ rfl w Sq a_ ?_;simp only[go_sem];refine Hf u.toKy f E L room A sc U x y W (by unfold imC;exact Lq) b_ λF' H' a8 X J=>?_;simp only[go_sem];have e:(dP (pY f sc (bA f room) L)).length=Z' L:=by unfold dP pY;rw[asO,Ji]
  exact E9 a8 X J Om (atP Om)
structure Z3(C:Ctx):Prop extends zm C where
 fY:∀(f:aB)(lv cnt:Int),f.Ok->aH C 219 [.agg f.cells,rI lv cnt] .nil (aK (.tup [lay (lR f lv cnt),.int .i64 (fS f lv cnt)]))
 rholds:∀(f:aB)(l:L2_) (room:I_),f.Ok->iD l->aH C 83 [.agg f.cells,lay l,ints room] .nil (aK (.bool (eU f l room)))
 rroom:∀(f:aB)(room:I_),f.Ok->aH C 85 [.agg f.cells,ints room] .nil (aK (ints (oR f room)))
theorem Fe(D:Z3 C)(f:aB)(E:f.Ok)(lv i:Int)(room:I_)(L:L2_)(Z:iD L) :
  ND.wp C (aV dD.res (cN (.tup [lay (OW f lv i room L),.j (HO f lv i room L)]))) (g_ [.agg f.cells,rI lv i,ints room,lay L]) .nil:=by
 have hB:OW f lv i room L=if HO f lv i room L=0 then pY f (lR f lv i) (bA f room) L else[]:=rfl
 have x:HO f lv i room L=if fS f lv i≠0 then fS f lv i else if eU f L room then 0 else 1:=rfl
 simp only[go_sem,ND,dD];refine aD (D.fY f lv i E) Ev ?_;by_cases c:fS f lv i≠0;rw[aF c]at x;rw[x,aC c]at hB;rw[hB,x];simp only[go_sem,cY c];exact kF (.inr rfl) Sq (aN.qS aN.nil);have c:fS f lv i=0:=Decidable.not_not.1 c;rw[aC (λh=>h c)]at x;simp only[go_sem,c,cB (show(0:Int)=0 from rfl)];refine aD (D.rholds f L room E Z) Ev ?_;cases B:eU f L room with
 |false =>rw[B,aC aR]at x;rw[x,aC aR]at hB;rw[hB,x];simp only[go_sem,atH];exact kF (.inr rfl) Sq (aN.qS aN.nil)
 |true=>
  rw[B,aF rfl]at x;rw[x,aF rfl]at hB;have K:=gM B;have hV:=VF.of K;have hS:=mN B;have γ:=hV.small.arD;have β:=hS.len;have S:=Td K c;obtain⟨k1,k2⟩:=Kb K lv i;have A:=D.rroom f room E;unfold oR at A;rw[K,aF rfl]at A;rw[hB,x];generalize lR f lv i=sc at *
  simp only[go_sem,asY];refine wp_loop (α:=T3_) (λt=>((((((n_.set 2 (ints room)).set 3 (lay L)).set 4 (.aU f.cells)).set 10 (lay sc)).set 12 (t.2.1)).set 13 (.j t.1))) (λt=>t.2.2) (λt=>t.1<=Z' L/\(t.1=0->t.2.1=.aG)/\aN t.2.2 [] [(t.2.1,1,(dP L).take t.1)]) (λt=>Z' L-t.1) (0,.aG,.nil) ⟨asQ _,λ_=>rfl,aN.nil.lE 1⟩ Lq a_ ?_;rintro⟨k,w,H⟩ ⟨hk,M,J⟩;simp only at hk M J ⊢;simp only[go_sem,asO];by_cases hlt:k<Z' L;have u:(k:Int)<(Z' L:Nat):=Om;have U:(L.map λr=>[ints r])[k]?=some [ints L[k]]:=by simp[hlt]
  have W:(dP L).take (k+1)=(dP L).take k++[[ints L[k]]]:=by rw[atW (by unfold dP;simpa using hlt)];simp[dP]
  obtain⟨r1,-,r3,r4⟩:=kS B hlt;have V:∀q s rs,((dP L).take k).map (λr=>r.map (PV.cO q s rs))=(dP L).take k:=λq s rs=>yV λr hr=>ER L q s rs r (awU hr);have hl:((dP L).take k).length<=1000:=by rw[atF];omega
  generalize L[k]=row at *
  simp only[go_sem,u,U];refine pP (src:=aM row) (by simp only[go_sem];rfl) (by unfold roomFor;rw[bV];simp only[maxLen];omega) (λe=>absurd (axG.1 e) r3) λ_ q hq=>?_;have Y:=J.Eb (s:=1) (rows:=aM row) hq;rw[bV]at Y;simp only[go_sem,show(1:Nat)*1<=16777216 from by decide,auB,forall_eq,bV];refine Y.append 0 (src:=[[.osl q 1 0 row.length]]) rfl Sq (by unfold roomFor;simp only[atD,maxLen];omega) λv' H' h' X=>?_;obtain⟨q',rfl⟩:=X aZ;obtain⟨rs,z1,z2,-,z4,z5⟩:=h'.frz 1 rfl;have z6:=z4 0 _ aR rfl;simp only at z6;simp only[go_sem,wZz k];have e0:∀l,PV.frz q 1 rs (ints l)=ints l:=λ_=>rfl;have e1:∀l,PV.frz q 1 rs (lay l)=lay l:=λ_=>rfl;have e2:∀n,PV.frz q 1 rs (.j n)=.j n:=λ_=>rfl;have e3:PV.frz q 1 rs (.aU f.cells)=.aU f.cells:=rfl;refine yU (k+1,_,H'.frz q 1 rs) z1 ⟨hlt,λh=>absurd h (Nat.succ_ne_zero _),?_⟩ sO_ (by exact lE5 e0 e1 e2 e3 (show PV.frz q 1 rs (.osl q' 1 0 ((dP L).take k++[[PV.osl q 1 0 row.length]]).length)=.osl q' 1 0 ((dP L).take k++[[PV.osl q 1 0 row.length]]).length from z6)) b_;rw[W];simp only[awD,awO,avR,List.eraseIdx_cons_succ,List.eraseIdx_cons_zero,atU,auH,atK,V,z2]at z5;exact z5;have u:¬(k:Int)<(Z' L:Nat):=Om;have:k=Z' L:=Om;subst this;have F:(dP L).length=Z' L:=asO _;rw[atP Om]at J;simp only[go_sem,u];refine aD A Ev ?_;simp only[go_sem];by_cases y:L=[];subst y;have M:=M rfl;subst M;refine wp_loop (α:=Unit) (λ_=>((((n_.set 4 (.aU f.cells)).set 10 (lay sc)).set 12 (.aG)).set 14 (ints (bA f room)))) (λ_=>.nil) (λ_=>True) (λ_=>0) () trivial Lq a_ ?_;rintro⟨⟩ -;simp only[go_sem,xP];refine iL ((D.rloads f [] E Z).args (args:=[.agg f.cells,.aG]) (.cons (.refl _) (.cons (.nil 1) .nil))) Sq a_ ?_;intro r H' _ _;simp only[go_sem];refine wp_loop (α:=Unit) (λ_=>(((n_.set 12 (.aG)).set 17 (.j (-1))).set 19 (.j 0))) (λ_=>.nil) (λ_=>True) (λ_=>0) () trivial Lq a_ ?_;rintro⟨⟩ -;simp only[go_sem,tQ,show ¬(0:Int)<(0:Nat)from by decide,tR,show((-1:Int)<0)from by decide,xQ];rw[show pY f sc (bA f room) []=[]from fe rfl];exact kF (.inr rfl) Sq (aN.qS aN.nil);rcases J.own 0 rfl with⟨e,-⟩|⟨o,rs,rfl,g1,g2,g3⟩
  exact absurd (axG.1 e) y;have h0:0<Z' L:=List.length_pos_iff.2 y;rw[F]at g2 g3;refine Fc D.tozm f E S L room B h0 sc k1 (λs hs=>(k2 s hs).1) o rs g2 g3 (by unfold riC;exact lE1 F) (d_ a_ g1) λF' H' rs' a8 a9 N O R=>?_;simp only[go_sem];exact E9 a8 a9 N O R
structure zk(C:Ctx):Prop extends kc C where
 int:∀n:Int,eQ n->aH C 47 [.int .i64 n] .nil (aK (.agg (mkT n 1).cells))
 mul:∀a b,Lim a->Lim b->Z' a<=35184372087808->Z' b<=35184372087808->aH C 36 [bB a,bB b] .nil (aK (opV (nO (val a) (val b)) (val a*val b)))
 add:∀a b,Lim a->Lim b->Z' a<=35184372087808->Z' b<=35184372087808->aH C 30 [bB a,bB b] .nil (aK (opV (nO (val a) (val b)) (val a+val b)))
 sub:∀a b,Lim a->Lim b->Z' a<=35184372087808->Z' b<=35184372087808->aH C 37 [bB a,bB b] .nil (aK (Oh (val a) (val b)))
theorem yi(a b:Nat):fZ a b=(decide (nl b>0)&&(decide (nl b<=128)&&decide (nl a<=128))):=by
 have:=@qT b;refine Bool.eq_iff_iff.2 ?_;rw[mV];simp only[asV,dT_];omega
theorem Uj(L:zk C)(neg:Bool)(a b:N_)(x:Lim a)(hb:Lim b)(y:Z' a<=35184372087808)(w:Z' b<=35184372087808) :
  cp.wp C (aV rt.res (aK (.bool (fZ (val a) (val b))))) (g_ [.agg (pL neg a b)]) .nil:=by
 rw[yi];simp only[go_sem,cp,rt];refine aD (L.trim b hb w) rfl ?_;simp only[go_sem,asO,cH];by_cases l:nl (val b)>0;have e:((nl (val b):Nat):Int)>0:=Om;simp only[go_sem,e];refine aD (L.trim b hb w) rfl ?_;simp only[go_sem,asO,cH];by_cases u:nl (val b)<=128;have i:((nl (val b):Nat):Int)<=128:=Om;simp only[go_sem,i];refine aD (L.trim a x y) rfl ?_;simp only[go_sem,asO,cH];refine eD ?_;have:decide (((nl (val a):Nat):Int)<=128)=decide (nl (val a)<=128):=by refine decide_eq_decide.2 ?_;omega
 rw[bN,this,aW l,aW u];rfl;have i:¬((nl (val b):Nat):Int)<=128:=Om;simp only[go_sem,i];refine eD ?_;rw[bN,bD u,atE,auF];have e:¬((nl (val b):Nat):Int)>0:=Om;simp only[go_sem,e];refine eD ?_;rw[bN,bD l,atE]
theorem fp{neg:Bool}{a b:Nat}(h:fZ a b=true):rD neg a b=.ok (rE neg a b):=by
 obtain⟨u,e,i⟩:=mV.1 h;have l:=(qC (a/asR a b) 128).2 (R3 _ i);have e2:=(qC (b/asR a b) 128).2 (R3 _ e);unfold rD rE;rw[aC Om]
def Lg(a b:Nat):Bool:=decide (nl a>128)||decide (nl b>128)
theorem Ug(neg:Bool)(a b:N_) :
  ck.wp C (aV rc.res (aK (.bool (decide (Z' a>128)||decide (Z' b>128))))) (g_ [.agg (pL neg a b)]) .nil:=by
 simp only[go_sem,ck,rc,asO];by_cases c:Z' a>128;have e:(Z' a:Int)>128:=Om;simp only[go_sem,e];refine eD ?_;rw[bN,aW c,Bool.true_or];have e:¬(Z' a:Int)>128:=Om;simp only[go_sem,e,asO];refine eD ?_;have:decide ((Z' b:Int)>128)=decide (Z' b>128):=by refine decide_eq_decide.2 ?_;omega
 rw[bN,this,bD c,Bool.false_or]
def Cp(x:FV):FR:=if Lg x.2.1 x.2.2 then .error 2 else .ok x
theorem abP(neg:Bool)(a b:Nat):Cp (rE neg a b)=rD neg a b:=by
 have e:=qC (a/asR a b) 128;have e2:=qC (b/asR a b) 128;unfold Cp rE rD Lg;simp only[awY,dT_];by_cases c:nl (a/asR a b)>128\/nl (b/asR a b)>128;rw[aF c,aF Om];rw[aC c,aC Om]
structure kf(C:Ctx):Prop extends zk C where
 valid:∀x:RF,x.Ok->aH C 56 [.agg x.cells] .nil (aK (.bool (fZ (val x.num) (val x.den))))
 big:∀x:FV,aH C 48 [.agg x.rf.cells] .nil (aK (.bool (Lg x.2.1 x.2.2)))
theorem Zl(L:kf C)(x:FV):qy.wp C (aV A1.res (cN (frV (Cp x)))) (g_ [.agg x.rf.cells]) .nil:=by
 simp only[go_sem,qy,A1];refine aQ λo e=>?_;simp only[go_sem];refine aD (L.big x) rfl ?_;unfold Cp;cases Lg x.2.1 x.2.2 with
 |true =>simp only[go_sem];refine wE ?_;simp only[go_sem]
 |false =>obtain⟨n,a,b⟩:=x;simp only[go_sem];exact bM (.inr rfl) .nil (vs:=[.agg (FV.rf (n,a,b)).cells,.int .i64 0]) Sq a_ ⟨.refl _,rfl⟩
theorem Pb(L:kf C)(x:RF)(i:x.Ok):XO.wp C (aV ZE.res (cN (frV (DY x)))) (g_ [.agg x.cells]) .nil:=by
 simp only[go_sem,XO,ZE];refine aQ λo w=>?_;simp only[go_sem];refine aD (L.valid x i) rfl ?_;unfold DY;cases l:fZ (val x.num) (val x.den)with
 |false =>simp only[go_sem,atH];refine wE ?_;simp only[go_sem]
 |true =>obtain⟨u,y,A⟩:=mV.1 l;have e:=fp (neg:=x.neg) l;rw[aF rfl,e];simp only[go_sem,asY];refine aD (L.lowest x.neg x.num x.den i.1 i.2.1 i.2.2.1 i.2.2.2 Om Om u) rfl ?_;simp only[go_sem];exact bM (.inr rfl) .nil (vs:=[.agg (rE x.neg (val x.num) (val x.den)).rf.cells,.int .i64 0]) Sq a_ ⟨.refl _,rfl⟩
theorem Ui(L:zk C)(a b:N_)(e:Lim a)(hb:Lim b)(i:Z' a<=35184372087808)(l:Z' b<=35184372087808)(u:nl (val a)<=256)(w:nl (val b)<=256) :
  cn.wp C (aV rr.res (aK (bB (aT (val a*val b))))) (g_ [bB a,bB b]) .nil:=by
 simp only[go_sem,cn,rr];refine aD (L.mul a b e hb i l) rfl ?_;have:=AC u w;rw[vY Om Om,opV,qa Om];simp only[go_sem];refine eD ?_;rfl
structure Bl(C:Ctx):Prop extends kf C where
 fits:∀x:FV,aH C 57 [.agg x.rf.cells] .nil (aK (frV (Cp x)))
 red:∀x:RF,x.Ok->aH C 52 [.agg x.cells] .nil (aK (frV (DY x)))
 prod:∀a b,Lim a->Lim b->Z' a<=35184372087808->Z' b<=35184372087808->nl (val a)<=256->nl (val b)<=256->aH C 60 [bB a,bB b] .nil (aK (bB (aT (val a*val b))))
def RF.valid(x:RF):Prop:=fZ (val x.num) (val x.den)=true
def vJ(x y:RF):Int:=DU x.neg (val x.num) (val x.den) y.neg (val y.num) (val y.den)
def voS:Spec:=λname vs=>match name,vs with
 |60,[x,y]=>some ([],λ_=>aK (bB (aT (val (sT x)*val (sT y)))))
 |_,_=>none
theorem DO(a b:N_):voS 60 [bB a,bB b]=some ([],λ_=>aK (bB (aT (val a*val b)))):=by
 show some _=_;rw[mA,mA]
theorem uz(a b:Nat):jA b a=- jA a b:=by
 unfold jA;rcases Nat.lt_trichotomy a b with h|h|h
 rw[aC Om,aF h,aF h];rfl;subst h;rw[aC Om,aC Om];rfl;rw[aF h,aC Om,aF h]
set_option maxHeartbeats 1000000 in
theorem Uh {C : Ctx} (L : Bl C) (x y : RF) (hx : x.Ok) (hy : y.Ok) (vx : x.valid) (vy : y.valid) : cl.wp C (aV ri.res (aK (.j (vJ x y)))) (g_ [.agg x.cells, .agg y.cells]) .nil := by
  obtain ⟨n1, a1, b1⟩ := x;obtain ⟨n2, a2, b2⟩ := y;obtain ⟨ha1, hb1, la1, lb1⟩ := hx;obtain ⟨ha2, hb2, la2, lb2⟩ := hy;obtain ⟨v1, v2, v3⟩ := mV.1 vx;obtain ⟨w1, w2, w3⟩ := mV.1 vy;simp only at ha1 hb1 la1 lb1 ha2 hb2 la2 lb2 v1 v2 v3 w1 w2 w3;have m1 := AC v3 w2;have m2 := AC w3 v2;have hA : decide (val a1 ≠ 0) = decide (nl (val a1 * val b2) > 0) := by refine decide_eq_decide.2 ?_;have := @qT (val a1 * val b2);rw [Nat.mul_eq_zero] at this;omega
  have hB : decide (val a2 ≠ 0) = decide (nl (val a2 * val b1) > 0) := by refine decide_eq_decide.2 ?_;have := @qT (val a2 * val b1);rw [Nat.mul_eq_zero] at this;omega
  unfold vJ DU;simp only [hA, hB];simp only[go_sem,cl,ri];refine bE .nil voS a_ ?_;simp only[go_sem];refine cJ (DO a1 b2) (L.prod a1 b2 ha1 hb2 la1 lb2 Om Om) rfl a_ ?_;simp only[go_sem];refine cJ (DO a2 b1) (L.prod a2 b1 ha2 hb1 la2 lb1 Om Om) rfl a_ ?_;have hc := L.cmp (aT (val a1 * val b2)) (aT (val a2 * val b1)) (cE _) (cE _) (by rw [cH]; omega) (by rw [cH]; omega);have hd := L.cmp (aT (val a2 * val b1)) (aT (val a1 * val b2)) (cE _) (cE _) (by rw [cH]; omega) (by rw [cH]; omega);rw [cC, cC] at hc hd;rw [uz (val a1 * val b2)] at hd;generalize val a1 * val b2 = A at *
  generalize val a2 * val b1 = B at *
  have gA : decide (((nl A : Nat) : Int) > 0) = decide (nl A > 0) := decide_eq_decide.2 Om;have gB : decide (((nl B : Nat) : Int) > 0) = decide (nl B > 0) := decide_eq_decide.2 Om;generalize decide (nl A > 0) = p at *
  generalize decide (nl B > 0) = q at *
  cases n1 <;> cases n2 <;> cases p <;> cases q
  all_goals
    simp only[go_sem,asO,cH,gA,gB]
    first
    | (refine eD ?_; rfl)
    | (refine aD hc rfl ?_
       simp only[go_sem];refine eD ?_;rfl)
    | (refine aD hd rfl ?_
       simp only[go_sem];refine eD ?_;rfl)
structure GU(C:Ctx):Prop extends Bl C where
 order:∀x y:RF,x.Ok->y.Ok->x.valid->y.valid->aH C 51 [.agg x.cells,.agg y.cells] .nil (aK (.int .i64 (vJ x y)))
theorem Zn(L:GU C)(x y:RF)(e:x.Ok)(i:y.Ok)(l:x.valid)(u:y.valid):re.wp C (aV A2.res (aK (.bool (decide (vJ x y<0))))) (g_ [.agg x.cells,.agg y.cells]) .nil:=by
 simp only[go_sem,re,A2];refine aD (L.order x y e i l u) rfl ?_;simp only[go_sem];refine eD ?_;rfl
theorem Zp(L:GU C)(x y:RF)(e:x.Ok)(i:y.Ok)(l:x.valid)(u:y.valid):rj.wp C (aV A4.res (aK (.bool (vJ x y==0)))) (g_ [.agg x.cells,.agg y.cells]) .nil:=by
 simp only[go_sem,rj,A4];refine aD (L.order x y e i l u) rfl ?_;simp only[go_sem];refine eD ?_;rfl
theorem MV(n:Int):mkT n 1=⟨decide (n<0),aT n.natAbs,aT 1⟩:=by
 unfold mkT rE FV.rf;rw[show(1:Int).natAbs=1 from rfl,Nat.gcd_one_right,Nat.div_one,Nat.div_one,show decide ((1:Int)<0)=false from rfl];congr 1;by_cases h:n<0;have:n.natAbs≠0:=Om;simp[h,this];simp[h]
theorem MU(n:Int)(h:eQ n):(mkT n 1).Ok/\(mkT n 1).valid:=by
 have e:nl n.natAbs<=2:=yD (by unfold eQ at h;omega);rw[MV];refine⟨⟨cE _,cE _,?_,?_⟩,?_⟩;simp only[cH];omega;simp only[DB];decide;unfold RF.valid;simp only[cC];rw[yi];have:nl 1=1:=by rw[nl,DB];rfl
 simp[this];omega
def xR(x:RF):Int:=if val x.num=0 then 0 else if x.neg then -1 else 1
theorem Xr(x:RF):vJ x (mkT 0 1)=xR x:=by
 rw[MV];unfold vJ xR DU;simp only[cC,show(0:Int).natAbs=0 from rfl,Nat.mul_one,Nat.zero_mul];by_cases h:val x.num=0;simp[h,jA];cases x.neg<;>simp[h,jA]
def viS(r:Int):Spec:=λname _=>if name=47 then some ([],λ_=>aK (.agg (mkT 0 1).cells))else some ([],λ_=>aK (.int .i64 r))
theorem Zq(L:GU C)(x:RF)(l:x.Ok)(u:x.valid):rk.wp C (aV A5.res (aK (.j (xR x)))) (g_ [.agg x.cells]) .nil:=by
 have e:eQ 0:=by unfold eQ;omega
 have i:=L.order x (mkT 0 1) l (MU 0 e).1 u (MU 0 e).2;rw[Xr]at i;simp only[go_sem,rk,A5];refine bE .nil (viS (xR x)) a_ ?_;simp only[go_sem];refine cJ rfl (L.int 0 e) rfl a_ ?_;simp only[go_sem];refine cJ rfl i rfl a_ ?_;simp only[go_sem];refine eD ?_;rfl
theorem Ud(L:GU C)(l u:Bool)(a1 b1 a2 b2:N_)(S:Lim a1)(M:Lim b1)(U:Lim a2)(N:Lim b2)
  (V:Z' a1<=35184372087808) (O:Z' b1<=35184372087808) (W:Z' a2<=35184372087808) (R:Z' b2<=35184372087808) :
  XK.wp C (aV Gj.res (cN (frV (oH (l,val a1,val b1) (u,val a2,val b2))))) (g_ [.agg (pL l a1 b1),.agg (pL u a2 b2)]) .nil:=by
 have vx:aH C 56 [.agg (pL l a1 b1)] .nil (aK (.bool (fZ (val a1) (val b1)))):=L.valid ⟨l,a1,b1⟩ ⟨S,M,V,O⟩;have vy:aH C 56 [.agg (pL u a2 b2)] .nil (aK (.bool (fZ (val a2) (val b2)))):=L.valid ⟨u,a2,b2⟩ ⟨U,N,W,R⟩;simp only[go_sem,XK,Gj];refine aQ λo ho=>?_;simp only[go_sem];refine aD vx rfl ?_;simp only[oH];cases hv:fZ (val a1) (val b1)with
 |false =>simp only[go_sem,atH,atE];refine wE ?_;simp only[go_sem]
 |true=>
  obtain⟨v1,v2,v3⟩:=mV.1 hv;simp only[go_sem,asY];refine aD vy rfl ?_;cases hw:fZ (val a2) (val b2)with
  |false =>simp only[go_sem,atH,auF];refine wE ?_;simp only[go_sem]
  |true=>
   obtain⟨w1,w2,w3⟩:=mV.1 hw;simp only[go_sem,asY,avK];refine bE .nil voS a_ ?_;simp only[go_sem];refine cJ (DO a1 b2) (L.prod a1 b2 S N V R Om Om) rfl a_ ?_;simp only[go_sem];refine cJ (DO a2 b1) (L.prod a2 b1 U M W O Om Om) rfl a_ ?_;simp only[go_sem];refine cJ (DO b1 b2) (L.prod b1 b2 M N O R Om Om) rfl a_ ?_;simp only[go_sem];have m1:=AC v3 w2;have m2:=AC w3 v2;have m3:=AC v2 w2;have d0:val b1*val b2≠0:=Nat.mul_ne_zero v1 w1;generalize hA:val a1*val b2=A at *
   generalize hB:val a2*val b1=B at *
   generalize hD:val b1*val b2=D at *
   have fin:∀(F:PF)(H:PH)(r:FR),(∃i x y e,frV r=.tup [.agg (pL i x y),.j e]/\F 4=some (.ptr o 3 0 0)/\F 5=some (.j e)/\H o=some (.rows 3 [pL i x y]))->aV [.cell 4 (some 3),.tmp 5] (cN (frV r)) .ret F H:=by rintro F H r ⟨i,x,y,e,he,f4,f5,hH⟩;rw[he];exact bM (.inr rfl) .nil (vs:=[.agg (pL i x y),.j e]) (by simp only[go_sem,f4,f5,hH]) a_ ⟨.refl _,rfl⟩
   have eb:(l==u)=decide (l=u):=by cases l<;>cases u<;>rfl
   have low:∀neg x,nl x<=257->aH C 58 [.bool neg,bB (aT x),bB (aT D)] .nil (aK (.agg (rE neg x D).rf.cells)):=by
    intro neg x hx;have h1:(aT x).length<=35184372087808:=by rw[cH];omega
    have h2:(aT D).length<=35184372087808:=by rw[cH];omega
    have:=L.lowest neg (aT x) (aT D) (cE _) (cE _) h1 h2;rw[cC,cC]at this;exact this Om Om d0
   have K:∀neg x,aH C 57 [.agg (rE neg x D).rf.cells] .nil (aK (frV (rD neg x D))):=λneg x=>by
    have:=L.fits (rE neg x D)
    rwa[abP]at this
   have lA:(aT A).length<=35184372087808:=by rw[cH];omega
   have lB:(aT B).length<=35184372087808:=by rw[cH];omega
   try simp only[go_sem]
   by_cases c:l=u;rw[aF c];have Z:(l==u)=true:=by rw[eb,aW c]
   simp only[go_sem,Z];have E:=L.add (aT A) (aT B) (cE _) (cE _) lA lB;have α:=R2 m1 m2;rw[cC,cC,vY Om Om,opV,qa Om]at E;refine aD E rfl ?_;simp only[go_sem];refine aD (low l _ Om) rfl ?_;simp only[go_sem];refine aD (K l _) rfl ?_;obtain⟨i,x,y,e,w⟩:=s8 (rD l (A+B) D);rw[w];simp only[go_sem];rw[<-w];exact fin _ _ _ ⟨i,x,y,e,w,s_,s_,s_⟩;rw[aC c];have Z:(l==u)=false:=by rw[eb,bD c]
   simp only[go_sem,Z];have hc:=L.cmp (aT A) (aT B) (cE _) (cE _) lA lB;rw[cC,cC]at hc;refine aD hc rfl ?_;have J:∀X Y:Nat,nl X<=256->nl Y<=256->Y<=X->aH C 37 [bB (aT X),bB (aT Y)] .nil (aK (.tup [bB (aT (X-Y)),.j 0])):=by intro X Y h1 h2 h;have:=L.sub (aT X) (aT Y) (cE _) (cE _) (by rw[cH];omega) (by rw[cH];omega);have h3:=qE (Om:X-Y<=X);rw[cC,cC,Oh,vY Om Om,aC aR,aC Om,qa Om]at this;exact this
   by_cases g:B<=A;have g':jA A B>=0:=(I6 A B).2 g;rw[aF g];simp only[go_sem,g'];refine aD (J A B Om Om g) rfl ?_;simp only[go_sem];have h3:=qE (Om:A-B<=A);refine aD (low l (A-B) Om) rfl ?_;simp only[go_sem];refine aD (K l _) rfl ?_;obtain⟨i,x,y,e,w⟩:=s8 (rD l (A-B) D);rw[w];simp only[go_sem];rw[<-w];exact fin _ _ _ ⟨i,x,y,e,w,s_,s_,s_⟩;have g':¬jA A B>=0:=λh=>g ((I6 A B).1 h);rw[aC g];simp only[go_sem,g'];refine aD (J B A Om Om Om) rfl ?_;simp only[go_sem];have h3:=qE (Om:B-A<=B);refine aD (low u (B-A) Om) rfl ?_;simp only[go_sem];refine aD (K u _) rfl ?_;obtain⟨i,x,y,e,w⟩:=s8 (rD u (B-A) D);rw[w];simp only[go_sem];rw[<-w];exact fin _ _ _ ⟨i,x,y,e,w,s_,s_,s_⟩
theorem aeZ(L:GU C)(x y:RF)(e:x.Ok)(i:y.Ok):XK.wp C (aV Gj.res (cN (frV (oH x.v y.v)))) (g_ [.agg x.cells,.agg y.cells]) .nil:=
 Ud L x.neg y.neg x.num x.den y.num y.den e.1 e.2.1 i.1 i.2.1 e.2.2.1 e.2.2.2 i.2.2.1 i.2.2.2
structure K3(C:Ctx):Prop extends GU C where
 less:∀x y:RF,x.Ok->y.Ok->x.valid->y.valid->aH C 49 [.agg x.cells,.agg y.cells] .nil (aK (.bool (decide (vJ x y<0))))
 same:∀x y:RF,x.Ok->y.Ok->x.valid->y.valid->aH C 53 [.agg x.cells,.agg y.cells] .nil (aK (.bool (vJ x y==0)))
 sign:∀x:RF,x.Ok->x.valid->aH C 54 [.agg x.cells] .nil (aK (.int .i64 (xR x)))
 plus:∀x y:RF,x.Ok->y.Ok->aH C 46 [.agg x.cells,.agg y.cells] .nil (aK (frV (oH x.v y.v)))
def vsF(l:List RF)(o2 o4 k:Nat):PF:=((((n_.set 0 (frs l)).set 2 (.ptr o2 3 0 0)).set 4 (.ptr o4 3 0 0)).set 5 (.int .i64 k))
theorem afB(L:K3 C)(l:List RF)(hl:∀x∈l,x.Ok)(W:Z' l<=9223372036854775807) :
  yk.wp C (aV BW.res (cN (frV (AR (l.map RF.v))))) (g_ [frs l]) .nil:=by
 have Z:eQ 0:=by unfold eQ;omega
 have hi:(mkT 0 1).cells=(FV.rf (false,0,1)).cells:=by rw[MV];rfl
 have B:=L.int 0 Z;rw[hi]at B;simp only[go_sem,yk,Kl,BW];refine aQ λo2 β=>?_;have h1:aN (h_.set o2 (.rows 3 [[.bool false,.aG,.aG]])) [(o2,.rows 3 [[.bool false,.aG,.aG]])] []:=aN.nil.new (H:=h_) rfl _;generalize(h_.set o2 _)=H1 at *
 simp only[go_sem,Km];refine aD B rfl ?_;simp only[go_sem];refine aQ λo4 U=>?_;have h2:=h1.new U (.rows 3 [(FV.rf (false,0,1)).cells]);simp only[go_sem,Ko];refine wp_loop (α:=Nat × FV × PH) (λt=>vsF l o2 o4 t.1) (λt=>t.2.2) (λt=>t.1<=Z' l/\((l.map RF.v).take t.1).foldlM oH (false,0,1)=.ok t.2.1/\aN t.2.2 [(o2,.rows 3 [[.bool false,.aG,.aG]]),(o4,.rows 3 [(FV.rf t.2.1).cells])] []/\(FV.rf t.2.1).Ok) (λt=>Z' l-t.1)
  (0,(false,0,1),_) ⟨asQ _,rfl,h2,⟨cE _,cE _,?_,?_⟩⟩ ?_ b_ ?_
 ·show(aT 0).length<=_;rw[jT];simp
 ·show(aT 1).length<=_;rw[DB];simp
 ·unfold vsF;exact Lq
 rintro⟨k,u,V⟩ ⟨hk,M,E,y⟩;simp only at hk M E y ⊢;simp only[go_sem,Kk,Kp,vsF,asO];by_cases hlt:k<Z' l
 ·have w:(k:Int)<(Z' l:Nat):=Om;have hr:(l.map RF.cells)[k]?=some (l[k]).cells:=by simp[hlt]
  have A:=L.plus (FV.rf u) l[k] y (hl _ (asS hlt));rw[FV.apD]at A;have i:=G7 (f:=oH) (l.map RF.v) (false,0,1) (k:=k) (by simpa using hlt);rw[M]at i;simp only[Except.bind,auN]at i;have N:=E.at 1 rfl;simp only[go_sem,w];refine bE .nil (λ_ _=>some ([],λ_=>aK (frV (oH u (l[k]).v)))) a_ ?_;simp only[go_sem,Kq,N,hr];refine cJ rfl A rfl a_ ?_;cases he:oH u (l[k]).v with
  |error e=>
   have S:e≠0:=by
    revert he;obtain⟨n1,a1,b1⟩:=u;obtain⟨n2,a2,b2⟩:=(l[k]).v;simp only[oH,rD]
    repeat' split
    all_goals (intro h;first|(injection h with h;subst h;decide)|cases h)
   rw[he]at i;simp only[go_sem,frV];refine aQ λo6 D=>?_;simp only[go_sem];refine⟨a_,?_⟩;have F:=E.new D (.rows 3 [[.bool false,bB [],bB []]]);have e2:=F.at 0 rfl;simp only[go_sem,um,cY S,Kr,e2];rw[AR,Md _ _ i];refine wE ?_;simp only[go_sem]
  |ok r=>
   rw[he]at i;obtain⟨rn,J,K⟩:=r;simp only[go_sem,frV];refine aQ λo6 D=>?_;simp only[go_sem];refine⟨a_,?_⟩;have F:=E.new D (.rows 3 [(FV.rf (rn,J,K)).cells]);have Y:=F.at 2 rfl;have O:=F.at 1 rfl;generalize hG:V.set o6 (.rows 3 [(FV.rf (rn,J,K)).cells])=X at *
   have R:V.set o6 (.rows 3 [[.bool rn,bB (aT J),bB (aT K)]])=X:=hG;simp only[go_sem,um,Ks,R,Y,O,Kt,wZz k];have h7:=(F.set 1 rfl (.rows 3 [(FV.rf (rn,J,K)).cells])).wC 2;refine aE (k+1,(rn,J,K),_) ⟨hlt,i,h7,Ix he⟩ sO_ ?_ b_;exact Lq
 ·have w:¬(k:Int)<(Z' l:Nat):=Om;have:k=Z' l:=Om;subst this;rw[atP aZ]at M;rw[AR,M];have e2:=E.at 0 rfl;have N:=E.at 1 rfl;obtain⟨n,a,b⟩:=u;simp only[go_sem,w,Gq,N,e2];exact bM (.inr rfl) .nil (vs:=[.agg (FV.rf (n,a,b)).cells,.j 0]) Sq a_ ⟨.refl _,rfl⟩














def rN(e:L2_):P2_:=e.map λw=>[ints w]
theorem WC(e:L2_):(rN e).length=Z' e:=asO _
theorem Hz(l:L2_):qI (rN l) l:=by
 refine⟨WC l,λi r w e u=>.inl ?_⟩;unfold rN at e;rw[atC,u]at e;injection e with e
 exact e.symm
theorem Nx{res:List dX}{F:PF}{H:PH}{l:PV}{i:L2_}{c:Int}{e:lI}(he:e=.normal\/e=.ret)(h:dX.evs F H res=some [l,.j c])(x:aN H [] [(l,1,rN i)]):aV res (cN (.tup [lists i,.j c])) e F H:=by
 have u:aN H [] ((l,1,rN i++dF [])::kO []):=by rw[show rN i++dF []=rN i from auA _];exact x
 obtain⟨φ,B,w,-,y,-,A,-⟩:=BO [] (rN i) i (Hz i) u (λb hb=>by cases hb);rw[show i++wls []=i from auA _]at w;refine pE he h ⟨_,_,.nil,A _,a_,φ (bN [l,.j c]),?_,?_⟩;rw[BV,mL,aF rfl];rfl
 ·show cN _ (φ (.tup [l,.j c])) .nil;rw[y];refine⟨.tup rfl λj p q hp hq=>?_,rfl⟩
  match j with
  |0=>cases hp;cases hq;exact w
  |1=>cases hp;cases hq;exact .refl _
  |j+2=>cases hp
theorem adY(L:Ps C)(f:aB)(hf:f.Ok)(arO:Int) :
  xl.wp C (aV iu.res (cN (.tup [lay (zK f arO),.j (sP f arO)]))) (g_ [.agg f.cells,.j arO]) .nil:=by
 have hB:zK f arO=if sP f arO=0 then gQ f (mF f arO)else[]:=rfl
 have u:sP f arO=if mZ f arO then(if f.arB.length>12 then 2 else 0)else 1:=rfl
 have y:mZ f arO=(cI f&&(decide (0<=arO)&&decide (arO<Z' f.arF))):=rfl;have R:∀F:PF,mZ f arO=false->F 4=some .aG->F 5=some (.j 1)->aV [.tmp 4,.tmp 5] (cN (.tup [lay (zK f arO),.j (sP f arO)])) .ret F .nil:=by intro F hk h1 h2;rw[hk,aC aR]at u;rw[u,aC aR]at hB;rw[hB,u];exact kF (.inr rfl) (by simp only[go_sem,h1,h2]) (aN.qS aN.nil)
 simp only[go_sem,xl,iu];refine aD (L.valid f hf) Ev ?_;cases hp:cI f with
 |false =>simp only[go_sem,atH];exact R _ (by rw[y,hp];rfl) Sq Sq
 |true=>
 rw[hp,atJ]at y;by_cases O:arO<0;simp only[go_sem,asY,O];exact R _ (by rw[y,bD (Om:¬0<=arO)];rfl) Sq Sq;by_cases U:arO>=(Z' f.arF:Nat);simp only[go_sem,asY,O,U,asO];exact R _ (by rw[y,bD (Om:¬arO<(Z' f.arF:Nat)),auF]) Sq Sq;rw[aW (Om:0<=arO),aW (Om:arO<(Z' f.arF:Nat)),avW]at y;rw[y,aF rfl]at u;obtain⟨hV,h0,hm,he⟩:=fg y;obtain⟨N,V⟩:=vr y;have e:=hV.arO _ N;have M:=(hf.arO _ N).arC;have K:(f.arF.map bX.cells)[arO.toNat]?=some (mF f arO).cells:=by rw[atC,V];rfl
 by_cases c:Z' f.arB>12;rw[aF c]at u;rw[u,aC aR]at hB;rw[hB,u];simp only[go_sem,asY,O,U,asO,show(Z' f.arB:Int)>12 by omega];exact kF (.inr rfl) Sq (aN.qS aN.nil);rw[aC c]at u;rw[u,aF rfl,Yr hV _ e.1 e.2.2.1]at hB;rw[hB,u];clear hB u R;generalize mF f arO=p at *
 obtain⟨n,X⟩:∃n:Nat,(n:Int)=gR p:=⟨(p.k+p.m).toNat,by unfold gR;omega⟩;have ε:1<=n/\n<=10:=by unfold gR at X;omega
 have hw:i_.wrap (p.k+p.m)=(n:Int):=by rw[X];exact wrap_i64 Om Om
 have hlt:arO<(Z' f.arF:Nat):=Om;have W:=L.choose n 0 f.arB.length Om Om Om;have E:=λ(set:I_)(hs:Z' set<=1000000000000000)=>L.adm f p set hV M e.1 e.2.1 e.2.2.1 e.2.2.2.1 hs;have J:=tF f.arB.length n 0;have η:=tG f.arB.length n 0;have β:2^(Z' f.arB-0)<=2^12:=awW Om Om;have γ:(2:Nat)^12=4096:=by decide
 rw[<-X,auL];generalize dQ f.arB.length n 0=S at *
 simp only[go_sem,asY,O,U,asO,show ¬(Z' f.arB:Int)>12 by omega,h0,hlt,K];refine aQ λq hq=>?_;simp only[go_sem,asO,hw];refine aD W (by simp only[go_sem];rfl) ?_;simp only[go_sem];have D:aN (h_.set q (.rows 17 [p.cells])) [(q,.rows 17 [p.cells])] [(.aG,1,rN [])]:=((aN.nil (H:=h_)).new hq _).lE 1;refine wp_loop (α:=T3_) (λs=>(((((n_.set 2 (.aU f.cells)).set 6 (.ptr q 17 0 0)).set 7 (s.2.1)).set 8 (lay (iR S))).set 9 (.j s.1))) (λs=>s.2.2) (λs=>s.1<=Z' S/\aN s.2.2 [(q,.rows 17 [p.cells])] [(s.2.1,1,rN ((iR (S.take s.1)).filter (pU f p)))]) (λs=>Z' S-s.1) (0,.aG,_) ⟨asQ _,D⟩ Lq b_ ?_;clear D hq;rintro⟨j,v,H⟩ ⟨hj,B⟩;simp only at hj B;have w:(iR S).length=Z' S:=asO _;simp only[go_sem,asO,w];by_cases x:j<Z' S
 ·have i:(j:Int)<(Z' S:Nat):=Om;have A:((iR S).map λr=>[ints r])[j]?=some [ints (cA S[j])]:=by unfold iR;simp[x]
  have Z:S.take (j+1)=S.take j++[S[j]]:=atW x;have ζ:=(J _ (asS x)).1;generalize S[j]=r at *
  have l:(iR (S.take (j+1))).filter (pU f p)=(iR (S.take j)).filter (pU f p)++if pU f p (cA r)then[cA r]else[]:=by rw[Z,D8,awH];congr 1;unfold iR;by_cases cc:pU f p (cA r)<;>simp[cc]
  have δ:((iR (S.take j)).filter (pU f p)).length<=4096:=by refine atT (awJ ..) ?_;unfold iR;rw[asO,atF];omega
  have Y:=B.at 0 rfl;simp only[go_sem,i];refine bE .nil (cyS (.bool (pU f p (cA r)))) a_ ?_;simp only[go_sem,Y,i,w,asO,A];refine cJ rfl (E (cA r) (by rw[gT];omega)) Sq a_ ?_;cases hb:pU f p (cA r)with
  |true =>rw[hb,aF rfl]at l;simp only[go_sem,i,w,asO,A];refine B.append 0 (rows:=rN ((iR (S.take j)).filter (pU f p))) (src:=[[ints (cA r)]]) rfl Sq (by unfold roomFor;rw[WC];simp only[atD,maxLen];omega) λv' H' h3 _=>?_;simp only[go_sem,wZz j];refine aE (j+1,v',H') ⟨x,?_⟩ sO_ (lE1 w) b_;simp only;rw[l];unfold rN at h3 ⊢;rw[atK];exact h3
  |false =>rw[hb,aC aR,auA]at l;simp only[go_sem,wZz j];refine aE (j+1,v,H) ⟨x,?_⟩ sO_ (lE1 w) b_;simp only;rw[l];exact B
 have i:¬(j:Int)<(Z' S:Nat):=Om;have:j=Z' S:=Om;subst this;rw[atL]at B;simp only[go_sem,i];exact Nx (.inr rfl) Sq (B.wC 0)
structure j1(C:Ctx):Prop where
 valid:∀f:aB,f.Ok->aH C 67 [.agg f.cells] .nil (aK (.bool (cI f)))
 choose:∀k a n:Nat,k<=10->a<=1000->n<=40->aH C 215 [.int .i64 a,.int .i64 n,.int .i64 k] .nil (aK (lay (iR (dQ n k a))))
 arB:∀(f:aB)(dom:Int),f.Ok->aH C 81 [.agg f.cells,.int .i64 dom] .nil (aK (ints (MK f dom)))
 has:∀(l:I_)(x:Int),Z' l<=1000000000000000->aH C 218 [ints l,.int .i64 x] .nil (aK (.bool (l.contains x)))
theorem G4{f:aB}(e:cI f=true){lv:Int}{i:Nat}(hi:i<Z' f.arE)(h:lvl f i=lv):MK f i=cA (rW f lv f.arB.length i):=by
 unfold MK;rw[aF ⟨e,by omega,by omega⟩];subst h;rfl
def FG(f:aB)(lv:Int)(k:Nat):L2_:=((asP k).filter (OZ f lv)).map λi=>cA (rW f lv f.arB.length i)
theorem N5(f:aB)(lv:Int)(k:Nat):FG f lv (k+1)=if lvl f k=lv then FG f lv k++[cA (rW f lv f.arB.length k)]else FG f lv k:=by
 unfold FG;rw[avH,awH,atK];by_cases h:lvl f k=lv;rw[aF h];simp[OZ,h];rw[aC h];simp[OZ,h]
theorem S7(f:aB)(lv:Int)(k:Nat):(FG f lv k).length<=k:=by
 unfold FG;rw[asO];exact atT (awJ ..) aZ
theorem Tc(L:j1 C)(f:aB)(E:f.Ok)(B:cI f=true)(lv:Int)(J:1<=lv)(h5:lv<=5) :
  bo.wp C (aV pn.res (cN (lay (jF f lv)))) (g_ [.agg f.cells,.j lv]) .nil:=by
 have hV:=VF.of B;have K:=hV.small.arB;have D:=hV.small.arE;simp only[go_sem,bo,pn];by_cases y:lv=5;subst y;rw[yf];simp only[go_sem,bR (show(5:Int)=5 from rfl)];refine wp_loop (α:=T3_) (λs=>(((n_.set 2 (.aU f.cells)).set 5 (s.2.1)).set 6 (.j s.1))) (λs=>s.2.2) (λs=>s.1<=Z' f.arB/\bC s.2.2 1 s.2.1 (FF s.1)) (λs=>Z' f.arB-s.1) (0,.aG,.nil) ⟨asQ _,.nil⟩ Lq b_ ?_;rintro⟨k,v,H⟩ ⟨A,w⟩;simp only at A w;simp only[go_sem,asO];by_cases hlt:k<Z' f.arB;have i:(k:Int)<(Z' f.arB:Nat):=Om;simp only[go_sem,i];refine fB (src:=[[ints [(k:Int)]]]) w (by simp only[go_sem];rfl) (by unfold roomFor;rw[xo];simp only[atD,maxLen];omega) λv' H' u _=>?_;rw[<-pe]at u;simp only[go_sem,wZz k];exact aE (k+1,v',H') ⟨hlt,u⟩ sO_ Lq b_;have i:¬(k:Int)<(Z' f.arB:Nat):=Om;have:k=Z' f.arB:=Om;subst this;simp only[go_sem,i];exact lO (.inr rfl) w Sq;rw[jm f y];simp only[go_sem,bH y];refine wp_loop (α:=T3_) (λs=>((((n_.set 1 (.j lv)).set 2 (.aU f.cells)).set 5 (s.2.1)).set 7 (.j s.1))) (λs=>s.2.2) (λs=>s.1<=Z' f.arE/\bC s.2.2 1 s.2.1 (rN (FG f lv s.1))) (λs=>Z' f.arE-s.1) (0,.aG,.nil) ⟨asQ _,.nil⟩ Lq b_ ?_;rintro⟨k,v,H⟩ ⟨A,w⟩;simp only at A w;simp only[go_sem,asO];by_cases hlt:k<Z' f.arE;have i:(k:Int)<(Z' f.arE:Nat):=Om;have l:=N5 f lv k;have F:=S7 f lv k;simp only[go_sem,i,fP hlt,tO hlt];by_cases c:lvl f k=lv;rw[aF c]at l;have x:=L.arB f k E;rw[G4 B hlt c]at x;simp only[go_sem,bR c];refine aD x Sq ?_;simp only[go_sem];refine fB (src:=[[ints (cA (rW f lv f.arB.length k))]]) w Sq (by unfold roomFor;rw[WC];simp only[atD,maxLen];omega) λv' H' u _=>?_;have e:rN (FG f lv k)++[[ints (cA (rW f lv f.arB.length k))]]=rN (FG f lv (k+1)):=by rw[l];unfold rN;rw[atK];rfl
 rw[e]at u;simp only[go_sem,wZz k];exact aE (k+1,v',H') ⟨hlt,u⟩ sO_ Lq b_;rw[aC c]at l;rw[<-l]at w;simp only[go_sem,bH c,wZz k];exact aE (k+1,v,H) ⟨hlt,w⟩ sO_ Lq b_;have i:¬(k:Int)<(Z' f.arE:Nat):=Om;have:k=Z' f.arE:=Om;subst this;simp only[go_sem,i];exact lO (.inr rfl) w Sq
theorem X5(L:j1 C)(sc:L2_)(J:Z' sc<=1000000000000000)(D:∀s∈sc,Z' s<=1000000000000000)(set:I_)(N:Z' set<=1000000000000000)(m:Int) :
  ow.wp C (aV Am.res (aK (.j (eO sc set m:Nat)))) (g_ [lay sc,ints set,.j m]) .nil:=by
 simp only[go_sem,ow,Am];refine wp_loop (α:=Nat) (λi=>(((((n_.set 0 (lay sc)).set 1 (ints set)).set 2 (.j m)).set 7 (.j ((sc.take i).countP λs=>decide (((lJ s set:Nat):Int)>m):Nat))).set 8 (.j i))) (λ_=>.nil) (λi=>i<=Z' sc) (λi=>Z' sc-i) 0 (asQ _) Lq a_ ?_;intro i hi;simp only[go_sem,asO];by_cases hlt:i<Z' sc;have w:(i:Int)<(Z' sc:Nat):=Om;have y:(sc.map λr=>[ints r])[i]?=some [ints sc[i]]:=by simp[hlt]
 have u:=BZ (λs=>decide (((lJ s set:Nat):Int)>m)) sc hlt;have K:=D sc[i] (asS hlt);have F:(sc.take i).countP (λs=>decide (((lJ s set:Nat):Int)>m))<=i:=atT List.countP_le_length (by rw[atF];omega);generalize(sc.take i).countP (λs=>decide (((lJ s set:Nat):Int)>m))=n at *
 generalize sc[i]=s at *
 simp only[go_sem,w];refine wp_loop (α:=Nat) (λj=>(((((((n_.set 0 (lay sc)).set 1 (ints set)).set 2 (.j m)).set 7 (.j n)).set 8 (.j i)).set 9 (.j ((set.take j).countP λd=>s.contains d:Nat))).set 10 (.j j))) (λ_=>.nil) (λj=>j<=Z' set) (λj=>Z' set-j) 0 (asQ _) Lq a_ ?_;intro j M;simp only[go_sem,asO];by_cases x:j<Z' set
 ·have l:(j:Int)<(Z' set:Nat):=Om;have B:(set.map λn=>[PV.int .i64 n])[j]?=some [.j set[j]]:=by simp[x]
  have e:=BZ (λd=>s.contains d) set x;have E:(set.take j).countP (λd=>s.contains d)<=j:=atT List.countP_le_length (by rw[atF];omega);generalize(set.take j).countP (λd=>s.contains d)=b at *
  generalize set[j]=d at *
  simp only[go_sem,l];refine bE .nil (cyS (.bool (s.contains d))) a_ ?_;simp only[go_sem,w,y,asO,l,B];refine cJ rfl (L.has s d K) Sq a_ ?_;cases hb:s.contains d with
  |true =>rw[hb]at e;simp only[go_sem,wZz b,wZz j];exact aE (j+1) x Om (by(repeat' (first|exact c_|refine e_ ?_ ?_))<;>first|(simp only[go_sem,e,zT]<;>rfl)|rfl) a_
  |false =>rw[hb]at e;simp only[go_sem,wZz j];exact aE (j+1) x Om (by(repeat' (first|exact c_|refine e_ ?_ ?_))<;>first|(simp only[go_sem,e,zT]<;>rfl)|rfl) a_
 have l:¬(j:Int)<(Z' set:Nat):=Om;have:j=Z' set:=Om;subst this;have A:set.countP (λd=>s.contains d)=lJ s set:=rfl;rw[atL,A];by_cases c:((lJ s set:Nat):Int)>m;rw[aW c]at u;simp only[go_sem,l,c,wZz n,wZz i];exact aE (i+1) hlt Om (by(repeat' (first|exact c_|refine e_ ?_ ?_))<;>first|(simp only[go_sem,u,zT]<;>rfl)|rfl) a_;rw[bD c]at u;simp only[go_sem,l,c,wZz i];exact aE (i+1) hlt Om (by(repeat' (first|exact c_|refine e_ ?_ ?_))<;>first|(simp only[go_sem,u,zT]<;>rfl)|rfl) a_;have w:¬(i:Int)<(Z' sc:Nat):=Om;have:i=Z' sc:=Om;subst this;rw[atL];simp only[go_sem,w];refine cZ (.inr rfl) Ev ?_;rfl
structure TG(C:Ctx):Prop extends j1 C where
 units:∀(f:aB)(lv:Int),f.Ok->cI f=true->1<=lv->lv<=5->aH C 217 [.agg f.cells,.int .i64 lv] .nil (aK (lay (jF f lv)))
theorem Ye{K:bP}[Up K](L:TG C)(B:PV)(U:L2_){n:Nat}(Y:UOk n U)(S:List N_)(j:Nat)(hj:j<Z' S)(s:N_)(Z:S[j]?=some s)(N:∀x∈s,x<Z' U)(β:Z' s<=1000)(V v:PV)(d:Nat){F:PF}{H:PH}
  (W:((((((((((n_.set 2 (B)).set 6 (lay U)).set 9 (lay (iR S))).set 10 (V)).set 11 (.j j)).set 12 (v)).set 13 (.j d)).set 14 (.bool false)).set 15 (.j 0))).le F)
  (X:K (.exit 6) (((((((((n_.set 2 (B)).set 6 (lay U)).set 9 (lay (iR S))).set 10 (V)).set 11 (.j j)).set 12 (v)).set 13 (.j d)).set 14 (.bool (oI U s d)))) H):aJ.wp C (.loop WE) K F H:=by
 have y:(j:Int)<(Z' S:Nat):=Om;have l:(iR S).length=Z' S:=asO _;have w:((iR S).map λr=>[ints r])[j]?=some [ints (cA s)]:=by unfold iR;rw[atC,atC,Z];rfl
 have A:(cA s).length=Z' s:=gT s;refine wp_loop (α:=Nat) (λk=>(((((((((n_.set 2 (B)).set 6 (lay U)).set 9 (lay (iR S))).set 10 (V)).set 11 (.j j)).set 12 (v)).set 13 (.j d)).set 14 (.bool (oI U (s.take k) d))).set 15 (.j k))) (λ_=>H) (λk=>k<=Z' s) (λk=>Z' s-k) 0 (asQ _) W b_ ?_;intro k hk;simp only[go_sem,WE,y,l,asO,w,A];by_cases hlt:k<Z' s
 ·have i:(k:Int)<(Z' s:Nat):=Om;have M:((cA s).map λn=>[PV.int .i64 n])[k]?=some [.j (s[k]:Nat)]:=BN hlt;have O:=N s[k] (asS hlt);have R:((s[k]:Nat):Int)<(Z' U:Nat):=Om;have J:=Y.at_ U[s[k]] (asS O);have E:U.getD s[k] []=U[s[k]]:=by simp[asW,O]
  have D:(U.map λr=>[ints r])[s[k]]?=some [ints U[s[k]]]:=by simp[O]
  have e:oI U (s.take (k+1)) d=(oI U (s.take k) d||(U[s[k]]).contains (d:Int)):=by unfold oI;rw[atW hlt,List.any_append,<-E];simp
  generalize U[s[k]]=u at *
  generalize s[k]=x at *
  cases hb:oI U (s.take k) d with
  |true =>rw[hb,Bool.true_or]at e;simp only[go_sem,i,wZz k];exact aE (k+1) hlt Om (lE2 e l) b_
  |false =>rw[hb,Bool.false_or]at e;simp only[go_sem,i,y,l,asO,w,A,M,R,D];refine aD (L.has u d (by have:=J.1;omega)) Sq ?_;simp only[go_sem,wZz k];exact aE (k+1) hlt Om (lE2 e l) b_
 have i:¬(k:Int)<(Z' s:Nat):=Om;have:k=Z' s:=Om;subst this;rw[atL];simp only[go_sem,i];exact Up.up (lE1 l) X
def dnL(U:L2_)(s:N_)(d:Nat):I_:=cA ((asP d).filter (oI U s))
theorem Vp(U:L2_)(s:N_)(d:Nat):dnL U s (d+1)=if oI U s d then dnL U s d++[(d:Int)]else dnL U s d:=by
 unfold dnL;rw[avH,awH,D7];by_cases h:oI U s d;rw[aF h];simp[cA,h];rw[aC h];simp[cA,h]
theorem abG(U:L2_)(s:N_)(d:Nat):(dnL U s d).length<=d:=by
 unfold dnL;rw[gT];exact atT (awJ ..) aZ
theorem Tb{K:bP}[Up K](L:TG C)(f:aB)(W:Z' f.arB<=24)(U:L2_){n:Nat}(O:UOk n U)(S:List N_)(j:Nat)(R:j<Z' S)(s:N_)(V:S[j]?=some s)(B:∀x∈s,x<Z' U)(A:Z' s<=1000)(w:PV){F:PF}{H:PH}{Ls:List LI}
  (l:aN H [] Ls)
  (M:((((((((n_.set 2 (.aU f.cells)).set 6 (lay U)).set 9 (lay (iR S))).set 10 (w)).set 11 (.j j)).set 12 (.aG)).set 13 (.j 0))).le F)
  (N:∀v H',aN H' [] (Ls++[(v,1,aM (dnL U s f.arB.length))])->K (.exit 4) (((((((n_.set 2 (.aU f.cells)).set 6 (lay U)).set 9 (lay (iR S))).set 10 (w)).set 11 (.j j)).set 12 (v))) H'):aJ.wp C (.loop WF) K F H:=by
 refine wp_loop (α:=T3_) (λt=>(((((((n_.set 2 (.aU f.cells)).set 6 (lay U)).set 9 (lay (iR S))).set 10 (w)).set 11 (.j j)).set 12 (t.2.1)).set 13 (.j t.1))) (λt=>t.2.2) (λt=>t.1<=Z' f.arB/\aN t.2.2 [] (Ls++[(t.2.1,1,aM (dnL U s t.1))])) (λt=>Z' f.arB-t.1) (0,.aG,H) ⟨asQ _,l.lE 1⟩ M b_ ?_;clear l;rintro⟨d,v,D⟩ ⟨y,l⟩;simp only at y l;simp only[go_sem,WF,asO];by_cases hlt:d<Z' f.arB
 ·have i:(d:Int)<(Z' f.arB:Nat):=Om;have e:=Vp U s d;have J:=abG U s d;simp only[go_sem,i];have inn:=λ{K:bP} [Up K] {F:PF} {H:PH}=>Ye (C:=C) (K:=K) L (.aU f.cells) U O S j R s V B A w v d (F:=F) (H:=H);refine inn Lq ?_;cases hb:oI U s d with
  |true=>
   rw[hb,aF rfl]at e;simp only[go_sem];refine l.append Ls.length (rows:=aM (dnL U s d)) (src:=[[.j d]]) (GF _ _ _ rfl) Sq (by unfold roomFor;rw[bV];simp only[atD,maxLen];omega) λv' H' E _=>?_;have u:aM (dnL U s d)++[[.j d]]=aM (dnL U s (d+1)):=by rw[e,zU];rfl
   rw[u,avQ _ _ (asU _),auK]at E;simp only[go_sem,wZz d];exact aE (d+1,v',H') ⟨hlt,E⟩ sO_ Lq b_
  |false =>rw[hb,aC aR]at e;rw[<-e]at l;simp only[go_sem,wZz d];exact aE (d+1,v,D) ⟨hlt,l⟩ sO_ Lq b_
 have i:¬(d:Int)<(Z' f.arB:Nat):=Om;have:d=Z' f.arB:=Om;subst this;simp only[go_sem,i];exact Up.up Lq (N v D l)
theorem Ta{K:bP}[Up K](L:TG C)(f:aB)(Y:Z' f.arB<=24)(U:L2_){n:Nat}(X:UOk n U)(S:List N_)(V:∀s∈S,Z' s<=1000/\∀x∈s,x<Z' U)(W:Z' S<=1099511627776){F:PF}{H:PH}
  (N:((((((n_.set 2 (.aU f.cells)).set 6 (lay U)).set 9 (lay (iR S))).set 10 (.aG)).set 11 (.j 0))).le F)
  (O:∀w ps H',aN H' [] (eZ w ps)->wls ps=S.map (λs=>dnL U s f.arB.length)->K (.exit 2) ((n_.set 10 (w))) H'):aJ.wp C (.loop WG) K F H:=by
 refine wp_loop (α:=Nat × PV × WPs × PH) (λt=>(((((n_.set 2 (.aU f.cells)).set 6 (lay U)).set 9 (lay (iR S))).set 10 (t.2.1)).set 11 (.j t.1))) (λt=>t.2.2.2) (λt=>t.1<=Z' S/\wls t.2.2.1=(S.take t.1).map (λs=>dnL U s f.arB.length)/\aN t.2.2.2 [] (eZ t.2.1 t.2.2.1)) (λt=>Z' S-t.1) (0,.aG,[],.nil) ⟨asQ _,rfl,aN.qS aN.nil⟩ N a_ ?_;rintro⟨j,w,ps,H⟩ ⟨Z,B,E⟩;simp only at Z B E;have u:(iR S).length=Z' S:=asO _;simp only[go_sem,WG,asO,u];by_cases hlt:j<Z' S;have i:(j:Int)<(Z' S:Nat):=Om;obtain⟨s1,s2⟩:=V S[j] (asS hlt);have β:Z' ps<=1099511627776:=by rw[<-BY,B,asO,atF];omega
 have A:(S.take (j+1)).map (λs=>dnL U s f.arB.length)=wls ps++[dnL U S[j] f.arB.length]:=by rw[atW hlt,atK,<-B];rfl
 have one:=λ{K:bP} [Up K] {F:PF} {H:PH}=>Tb (C:=C) (K:=K) L f Y U X S j hlt S[j] (asZ hlt) s2 s1 w (F:=F) (H:=H) (Ls:=eZ w ps);simp only[go_sem,i];refine one E (lE1 u) λv H2 h5=>?_;have R:=h5.own (eZ w ps).length (GF _ _ _ rfl);generalize dnL U S[j] f.arB.length=D at *
 have room:roomFor (dF ps).length 1 24:=by unfold roomFor;rw[mB];simp only[maxLen];omega
 have fin:∀(l:PV)(H':PH),aN H' [] ((eZ w ps++[(v,1,aM D)]).set 0 (l,1,dF ps++[[v]]))->aN H' [] (eZ l (ps++[(v,D)]))/\wls (ps++[(v,D)])=wls ps++[D]:=by
  intro l H' y;refine⟨?_,?_⟩;have e:eZ l (ps++[(v,D)])=(eZ w ps++[(v,1,aM D)]).set 0 (l,1,dF ps++[[v]]):=by unfold eZ dF kO;rw[atK,atK];rfl
  rw[e];exact y;unfold wls;rw[atK];rfl
 rcases R with⟨-,rfl⟩|⟨q,rs,rfl,-,-,-⟩
 simp only[go_sem,atG,atS,or_false,forall_eq];refine h5.append 0 (rows:=dF ps) (src:=[[PV.aG]]) rfl Sq room λl H' y _=>?_;obtain⟨J,M⟩:=fin l H' y;simp only[go_sem,wZz j];exact aE (j+1,l,_,H') ⟨hlt,M.trans A.symm,J⟩ sO_ (lE1 u) b_;simp only[go_sem,atG,atS,or_false,forall_eq];refine h5.append 0 (rows:=dF ps) (src:=[[PV.osl q 1 0 (aM D).length]]) rfl Sq room λl H' y _=>?_;obtain⟨J,M⟩:=fin l H' y;simp only[go_sem,wZz j];exact aE (j+1,l,_,H') ⟨hlt,M.trans A.symm,J⟩ sO_ (lE1 u) b_;have i:¬(j:Int)<(Z' S:Nat):=Om;have:j=Z' S:=Om;subst this;rw[atL]at B;simp only[go_sem,i];exact Up.up Lq (O w ps H E B)
theorem Yf(L:TG C)(f:aB)(hf:f.Ok)(lv l:Int) :
  pi.wp C (aV fY.res (cN (.tup [lay (lR f lv l),.j (fS f lv l)]))) (g_ [.agg f.cells,rI lv l]) .nil:=by
 have hB:lR f lv l=if fS f lv l=0 then FI f (jF f lv) l.toNat else[]:=rfl
 have E:fS f lv l=if cI f&&(decide (1<=lv)&&decide (lv<=5)&&decide (1<=l)&&decide (l<=3))then(if 12<Z' f.arB\/512<eK ((jF f lv).length:Nat) l.toNat then 2 else 0)else 1:=rfl
 have bad:∀(e:Int)(F:PF),e≠0->fS f lv l=e->F 4=some .aG->F 5=some (.j e)->aV [.tmp 4,.tmp 5] (cN (.tup [lay (lR f lv l),.j (fS f lv l)])) .ret F .nil:=by intro e F he u h2 h3;rw[u,aC he]at hB;rw[hB,u];exact kF (.inr rfl) (by simp only[go_sem,h2,h3]) (aN.qS aN.nil)
 have K:(cI f&&(decide (1<=lv)&&decide (lv<=5)&&decide (1<=l)&&decide (l<=3)))=false->fS f lv l=1:=λh=>by rw[E,h];rfl
 simp only[go_sem,pi,fY];refine aD (L.valid f hf) Ev ?_;cases hp:cI f with
 |false =>have u:=K (by rw[hp];rfl);simp only[go_sem,atH];exact bad 1 _ aR u Sq Sq
 |true=>
  have hV:=VF.of hp;by_cases B:lv<1;have u:=K (by rw[bD (Om:¬1<=lv)];simp);simp only[go_sem,asY,B];exact bad 1 _ aR u Sq Sq;by_cases D:lv>5;have u:=K (by rw[bD (Om:¬lv<=5)];simp);simp only[go_sem,asY,B,D];exact bad 1 _ aR u Sq Sq;by_cases M:l<1;have u:=K (by rw[bD (Om:¬1<=l)];simp);simp only[go_sem,asY,B,D,M];exact bad 1 _ aR u Sq Sq;by_cases O:l>3;have u:=K (by rw[bD (Om:¬l<=3)];simp);simp only[go_sem,asY,B,D,M,O];exact bad 1 _ aR u Sq Sq;obtain⟨n,rfl⟩:∃n:Nat,l=n:=⟨l.toNat,by omega⟩;rw[hp,aW (Om:1<=lv),aW (Om:lv<=5),aW (Om:(1:Int)<=(n:Int)),aW (Om:(n:Int)<=3),avW,avW,avW,avW,aF rfl,auL]at E;rw[auL]at hB;obtain⟨hU,Z⟩:=jn hV lv;have y:=L.units f lv hf hp Om Om;generalize jF f lv=U at *
  by_cases X:12<Z' f.arB;have u:fS f lv n=2:=by rw[E,aF (.inl X)]
  simp only[go_sem,asY,B,D,M,O,asO,show(Z' f.arB:Int)>12 by omega];exact bad 2 _ aR u Sq Sq;simp only[go_sem,asY,B,D,M,O,asO,show ¬(Z' f.arB:Int)>12 by omega];refine aD y Ev ?_;simp only[go_sem];refine wp_loop (α:=Nat) (λk=>(((((n_.set 2 (.aU f.cells)).set 3 (.aU [.j lv,.j n])).set 6 (lay U)).set 7 (.j (eK (Z' U:Nat) k))).set 8 (.j k))) (λ_=>.nil) (λk=>k<=n) (λk=>n-k) 0 (asQ _) (by(repeat' (first|exact c_|refine e_ ?_ ?_))<;>first|(simp only[go_sem,eK]<;>rfl)|rfl) a_ ?_;intro k hk;have V:Z' U<=1000:=Om;simp only[go_sem];by_cases hlt:k<n;have w:(k:Int)<(n:Nat):=Om;obtain⟨b1,b2⟩:=ED V (i:=k) Om;have N:=EC V k Om;have hb:((Z' U:Int)-(k:Int)).natAbs<=1000:=Om;have J:=awV (atT N (awW Om (Om:k<=2))) hb;rw[<-Int.natAbs_mul]at J;have e:(1000:Nat)^2*1000=1000000000:=by decide
  have w1:i_.wrap ((Z' U:Int)-(k:Int))=(Z' U:Int)-k:=wrap_i64 Om Om;have w2:i_.wrap (eK (Z' U:Nat) k*((Z' U:Int)-(k:Int)))=eK (Z' U:Nat) k*((Z' U:Int)-k):=wrap_i64 Om Om;have w3:i_.wrap ((k:Int)+1)=(k:Int)+1:=wrap_i64 Om Om;have W:¬((k:Int)+1)=0:=Om;obtain⟨b3,b4⟩:=ED V (i:=k+1) Om;have hq:eK (Z' U:Nat) (k+1)=Int.tdiv (eK (Z' U:Nat) k*((Z' U:Int)-k)) ((k:Int)+1):=by rw[eK]
  rw[hq]at b3 b4;have w4:i_.wrap (Int.tdiv (eK (Z' U:Nat) k*((Z' U:Int)-k)) ((k:Int)+1))=Int.tdiv (eK (Z' U:Nat) k*((Z' U:Int)-k)) ((k:Int)+1):=wrap_i64 Om Om;simp only[go_sem,w,asO,w1,w2,w3,W,w4,wZz k];exact aE (k+1) hlt Om (lE1 hq) a_;have w:¬(k:Int)<(n:Nat):=Om;have:k=n:=Om;subst this;by_cases Y:512<eK (Z' U:Nat) k;have u:fS f lv k=2:=by rw[E,aF (.inr Y)]
  simp only[go_sem,w,show eK (Z' U:Nat) k>512 by omega];exact bad 2 _ aR u Sq Sq;have u:fS f lv k=0:=by rw[E,aC (λh=>h.elim X Y)]
  rw[u,aF rfl]at hB;rw[hB,u];have R:=L.choose k 0 U.length Om Om Om;have A:=tF U.length k 0;have δ:=tG U.length k 0;have β:2^(Z' U-0)<=2^40:=awW Om Om;have γ:(2:Nat)^40=1099511627776:=by decide
  have hP:FI f U k=(dQ U.length k 0).map λs=>dnL U s f.arB.length:=rfl;rw[hP];generalize dQ U.length k 0=S at *
  simp only[go_sem,w,show ¬eK (Z' U:Nat) k>512 by omega,asO];refine aD R (by simp only[go_sem];rfl) ?_;simp only[go_sem];refine Ta (C:=C) L f Om U hU S (λs N=>⟨by have:=(A s N).1;omega,λx hx=>((A s N).2.1 x hx).2⟩) Om Lq λvo ps H' hH hw=>?_;simp only[go_sem];rw[<-hw];exact kF (.inr rfl) Sq hH



def k8:=bT [] Proofs.Tryz.f4
def NS:=cG k8






theorem aN.alN{F:PF}{H:PH}{B:List BX}{L:List LI}{args:List aP}{d:O_}{K:K_}(h:aN H B L){l:N_}(w:aH C 28 [.sl 1 (kN l)] .nil (se l))(i:aP.evs F args=some [.sl 1 (kN l)])(u:∀o v H',Tp (l.take 400) v->aN H' (B++[(o,aY v 0)]) L->K (F.put d (.ptr o 2 0 0)) H'):jX C 28 args [] d K F H:=by
 refine iL w i a_ ?_;rintro r H' ⟨o,v,rfl,T,rfl⟩ e;rw[PH.vK];exact u o v _ T (h.new (e o (aY v 0) (by rw[bK]) rfl) _)
def DX(l:N_):Nat × Nat:=aI l 5 0
def wY(l:N_):Nat × Nat:=aI l 2 (DX l).2
def rdF(l:N_)(d v:Nat):aB × Nat:=jN l d v (wY l).2
def rdR(l:N_)(d v:Nat):I_ × Nat:=uO l (rdF l d v).1 (rdF l d v).2
theorem X6(l:N_)(f:aB){a:Nat}(h:a<=Z' l):(uO l f a).2<=Z' l:=by
 have e:=bO l 4 h;unfold uO;simp only;split;exact e;exact(WA l e _).1
theorem aaI(l:N_)(d v:Nat):(wY l).2<=Z' l/\(rdF l d v).2<=Z' l/\(rdR l d v).2<=Z' l:=by
 have u:=bO l 5 (asQ l.length);have e:(wY l).2<=Z' l:=bO l 2 u;have i:(rdF l d v).2<=Z' l:=Q1 l d v e;exact⟨e,i,X6 l _ i⟩
def zl(l:N_)(d e:Nat)(r:PV)(H:PH):Prop:=∃o v,r=.tup [.agg (rdF (l.take 400) d e).1.cells,rI (1+(DX (l.take 400)).1:Nat) (1+(wY (l.take 400)).1:Nat),ints (rdR (l.take 400) d e).1,.ptr o 2 0 0]/\Tp (l.take 400) v/\H=h_.set o (aY v (rdR (l.take 400) d e).2)
structure Pn(C:Ctx):Prop where
 new:∀(l:N_),(∀x∈l,x<256)->Z' l<=9223372036854775807->aH C 28 [.sl 1 (kN l)] .nil (se l)
 tfleet:∀(l:N_)(v:PV),Tp l v->∀(o arB arD a:Nat),arB<=60->arD<=50->a<=Z' l ->
  aH C 0 [.ptr o 2 0 0,.int .i64 arB,.int .i64 arD] (h_.set o (aY v a)) (λr H=>r=.agg (jN l arB arD a).1.cells/\H=h_.set o (aY v (jN l arB arD a).2))
 JW:∀(l:N_)(v:PV),Tp l v->∀(o a:Nat)(f:aB),Z' f.arB<=1000->a<=Z' l->aH C 6 [.ptr o 2 0 0,.agg f.cells] (h_.set o (aY v a)) (λr H=>r=ints (uO l f a).1/\H=h_.set o (aY v (uO l f a).2))
 next:∀(l:N_)(v:PV),Tp l v->∀(o n a:Nat),n<=1000000->a<=Z' l->aH C 4 [.ptr o 2 0 0,.int .i64 n] (h_.set o (aY v a)) (λr H=>r=.int .i64 ((aI l n a).1:Nat)/\H=h_.set o (aY v (aI l n a).2))
theorem Vg(F:Pn C)(l:N_)(hb:∀x∈l,x<256)(hl:Z' l<=9223372036854775807)(d u:Nat)(hd:d<=24)(S:u<=12) :
  NS.wp C (aV k8.res (zl l d u)) (g_ [.sl 1 (kN l),.j (d:Nat),.j (u:Nat)]) .nil:=by
 have R:=cM (l.take 400) (n:=5) aR 0;have i1:=bO (l.take 400) 5 (asQ _);have O:=cM (l.take 400) (n:=2) aR (DX (l.take 400)).2;obtain⟨i2,i3,i4⟩:=aaI (l.take 400) d u;obtain⟨hv,hf⟩:=UO (l.take 400) d u (wY (l.take 400)).2 hd S;have β:=(VF.of hv).small.arB;have X:=λv T o=>F.next (l.take 400) v T o 5 0 aR (asQ _);have Y:=λv T o=>F.next (l.take 400) v T o 2 (DX (l.take 400)).2 aR i1;have Z:=λv T o=>F.tfleet (l.take 400) v T o d u (wY (l.take 400)).2 Om Om i2;have k3:=λv T o=>F.JW (l.take 400) v T o (rdF (l.take 400) d u).2 (rdF (l.take 400) d u).1 (by show(jN (l.take 400) d u (wY (l.take 400)).2).1.arB.length<=1000;omega) i3;unfold zl;show NS.wp C (aV k8.res (λr H=>∃o v,r=.tup [.agg (rdF (l.take 400) d u).1.cells,rI (1+(DX (l.take 400)).1:Nat) (1+(wY (l.take 400)).1:Nat),ints (rdR (l.take 400) d u).1,.ptr o 2 0 0]/\Tp (l.take 400) v/\H=h_.set o (aY v (rdR (l.take 400) d u).2))) _ _;change ∀v,Tp (l.take 400) v->∀o,aH C 4 [.ptr o 2 0 0,.j 5] (h_.set o (aY v 0)) (λr H=>r=.j ((DX (l.take 400)).1:Nat)/\H=h_.set o (aY v (DX (l.take 400)).2))at X;change ∀v,Tp (l.take 400) v->∀o,aH C 4 [.ptr o 2 0 0,.j 2] (h_.set o (aY v (DX (l.take 400)).2)) (λr H=>r=.j ((wY (l.take 400)).1:Nat)/\H=h_.set o (aY v (wY (l.take 400)).2))at Y;change ∀v,Tp (l.take 400) v->∀o,aH C 0 [.ptr o 2 0 0,.j (d:Nat),.j (u:Nat)] (h_.set o (aY v (wY (l.take 400)).2)) (λr H=>r=.agg (rdF (l.take 400) d u).1.cells/\H=h_.set o (aY v (rdF (l.take 400) d u).2))at Z;change ∀v,Tp (l.take 400) v->∀o,aH C 6 [.ptr o 2 0 0,.agg (rdF (l.take 400) d u).1.cells] (h_.set o (aY v (rdF (l.take 400) d u).2)) (λr H=>r=ints (rdR (l.take 400) d u).1/\H=h_.set o (aY v (rdR (l.take 400) d u).2))at k3;change(DX (l.take 400)).1<5 at R;change(wY (l.take 400)).1<2 at O;generalize(rdR (l.take 400) d u).1=room at *
 generalize(rdR (l.take 400) d u).2=L at *
 generalize(rdF (l.take 400) d u).2=af at *
 generalize(rdF (l.take 400) d u).1=f at *
 generalize(wY (l.take 400)).2=ac at *
 generalize(DX (l.take 400)).2=al at *
 generalize(wY (l.take 400)).1=E at *
 generalize(DX (l.take 400)).1=lv at *
 have w1:i_.wrap (1+((lv:Nat):Int))=((1+lv:Nat):Int):=wO_
 have w2:i_.wrap (1+((E:Nat):Int))=((1+E:Nat):Int):=wO_
 simp only[go_sem,NS,k8];refine aN.nil.TS λo6 H1 h1=>?_;simp only[go_sem];refine h1.TS λo7 H2 h2=>?_;simp only[go_sem];refine h2.alN (F.new l hb hl) Sq λo v H3 T h3=>?_;simp only[go_sem];refine h3.jk 2 rfl (X v T o) Sq λH4 h4=>?_;simp only[go_sem,w1];refine h4.jk 2 rfl (Y v T o) Sq λH5 h5=>?_;simp only[go_sem,w2];refine h5.TS λB H6 V=>?_;have e6:=V.at 3 rfl;have h7:=V.set 3 rfl (.rows 2 [[.j ((1+lv:Nat):Int),.j ((1+E:Nat):Int)]]);simp only[go_sem,e6];generalize H6.set B _=H7 at *
 try simp only[go_sem]
 refine h7.jk 2 rfl (Z v T o) Sq λH8 h8=>?_;simp only[go_sem];refine h8.TS λD H9 W=>?_;have e9:=W.at 4 rfl;have i:=W.set 4 rfl (.rows 7 [f.cells]);simp only[go_sem,e9];generalize H9.set D _=M at *
 have J:=i.at 4 rfl;have N:=i.at 3 rfl;have go:=i.at 2 rfl;have m1:=i.ne 2 3 rfl rfl aR;have m2:=i.ne 2 4 rfl rfl aR;have m3:=i.ne 0 3 rfl rfl aR;have m4:=i.ne 0 4 rfl rfl aR;have m5:=i.ne 1 3 rfl rfl aR;have m6:=i.ne 1 4 rfl rfl aR;have m7:=i.ne 3 4 rfl rfl aR;have m8:=i.ne 0 1 rfl rfl aR;have m9:=i.ne 0 2 rfl rfl aR;have γ:=i.ne 1 2 rfl rfl aR;have g6:=i.at 0 rfl;have g7:=i.at 1 rfl;refine bE ((h_.set D (.rows 7 [f.cells])).set B (.rows 2 [[.j ((1+lv:Nat):Int),.j ((1+E:Nat):Int)]])) (λ_ _=>some ([o],λ_ r H'=>r=ints room/\H'=h_.set o (aY v L))) (d_ (d_ a_ J) N) ?_;have U:¬D=B:=λe=>m7 e.symm;simp only[go_sem,U,J];have w:=i.set 2 rfl (aY v L);refine Ca rfl go (k3 v T o) ⟨rfl,rfl⟩ (λr' H' h=>h) Sq (d_ (d_ a_ (w.at 4 rfl)) (w.at 3 rfl)) ?_;generalize M.set o (aY v L)=α at *
 have q6:=w.at 0 rfl;have y:=w.set 0 rfl (.rows 7 [f.cells]);simp only[go_sem,q6];refine⟨d_ (d_ a_ (y.at 4 rfl)) (y.at 3 rfl),?_⟩;have q7:=w.at 1 rfl;have K:¬o7=o6:=λe=>m8 e.symm;have A:=y.set 1 rfl (.rows 2 [[.j ((1+lv:Nat):Int),.j ((1+E:Nat):Int)]]);simp only[go_sem,K,q7];refine⟨d_ (d_ a_ (A.at 4 rfl)) (A.at 3 rfl),?_⟩;exact bM (.inr rfl) (h_.set o (aY v L)) (vs:=[.agg f.cells,rI (1+lv:Nat) (1+E:Nat),ints room,.ptr o 2 0 0]) (by simp only[go_sem,m8,K]) (d_ a_ (A.at 2 rfl)) ⟨o,v,rfl,T,rfl⟩
def n8:=bT [1] Proofs.Tryz.f52
def bf:=cG n8
def oa:=bT [2] Proofs.Tryz.f54
def bg:=cG oa
def n6:=bT [2,78,115] Proofs.Tryz.f53
def bc:=cG n6
def HW:=bT [1] Proofs.Tryz.f17
def be:=cG HW
def oi:=bT [3] Proofs.Tryz.f50
def QN:=cG oi
def Nr:=bT [2] Proofs.Tryz.f49
def w9:=cG Nr
def oo:=bT [1] Proofs.Tryz.f18
def bj:=cG oo
def jC:=bT [2,52,95,124,147] Proofs.Tryz.f16
def ii:=aA jC 8
def ij:=dZ jC 3
def ik:=dZ jC 4
def im:=aA jC 11
def ib:aJ:=(dH (aA jC 7) 59 2 im (sq ii (jJ (aA jC 9) 72 (.region (aA jC 10)) (dq ij (.draw ik)))))
def ic:aJ:=(dH (aA jC 13) 102 4 (aA jC 15) (sq (aA jC 14) (.cond (Tm 108) (dq (dZ jC 5) (.draw (dZ jC 6))) .skip)))
def ie:aJ:=(dH (aA jC 5) 28 0 (aA jC 16) (dq (dZ jC 0) (.seq (dq (dZ jC 1) (.draw (dZ jC 2))) (.seq (cS (aA jC 6) 2 ib) (cS (aA jC 12) 4 ic)))))
def ig:aJ:=(dH (aA jC 19) 134 6 (aA jC 20) (dq (dZ jC 7) (.draw (dZ jC 8))))
def xb:aJ:=(sq (aA jC 0) (kK (aA jC 1) 16 (aA jC 2) (sq (aA jC 3) (.seq (cS (aA jC 4) 0 ie) (sq (aA jC 17) (.seq (cS (aA jC 18) 6 ig) (sq (aA jC 21) .ret)))))))
def sA:=bT [3,4,70] Proofs.Tryz.f19
def gy:aJ:=(dH (aA sA 6) 44 2 (aA sA 8) (dq (dZ sA 1) (.cond (Tm 62) (.region (aA sA 7)) .skip)))
def gz:=aA sA 10
def xa:aJ:=(sq (aA sA 0) (sq (aA sA 1) (.seq (cS (aA sA 2) 0 (dH (aA sA 3) 19 0 (aA sA 9) (dq (dZ sA 0) (jJ (aA sA 4) 39 (.exit 1) (cS (aA sA 5) 2 gy))))) (sq gz .ret))))
def oj:=bT [2] Proofs.Tryz.f6
def bi:=cG oj
def vR(H:PH)(s:Nat)(q:Nat)(v:PV)(rows:P2_):Prop:=
 ∃rs off,v=.osl q s off rows.length/\H q=some (.rows s rs)/\off+Z' rows<=Z' rs/\(rs.drop off).take rows.length=rows
section
variable {H:PH} {s b q:Nat} {v y:PV} {rows src:P2_}
theorem vR.view(h:vR H s q v rows):dG H s v=some rows:=by
 obtain⟨rs,off,rfl,e,i,l⟩:=h;simp only[dG,if_true,e,true_and,aF i,l]
theorem vR.ext{H':PH}(h:vR H s q v rows)(w:∀x,H q=some x->H' q=some x):vR H' s q v rows:=by
 obtain⟨rs,off,e,i,l,u⟩:=h;exact⟨rs,off,e,w _ i,l,u⟩
theorem vR.tail{r:V_}(h:vR H s q v (r::rows)):∃v',PV.slice s v 1 ((Z' rows+1:Nat):Int) none=some v'/\vR H s q v' rows:=by
 obtain⟨rs,off,rfl,i,l,e⟩:=h;rw[atZ]at l e;refine⟨.osl q s (off+1) rows.length,?_,rs,off+1,rfl,i,by omega,?_⟩;unfold PV.slice;show(if s=s/\(0:Int)<=1/\(1:Int)<=((Z' rows+1:Nat):Int)/\((Z' rows+1:Nat):Int)<=((r::rows).length:Nat)/\((none:Option Int)=none\/(none:Option Int)=some ((Z' rows+1:Nat):Int))then some (PV.osl q s (off+(1:Int).toNat) (((Z' rows+1:Nat):Int).toNat-(1:Int).toNat))else none)=_;rw[aF ⟨rfl,by omega,by omega,by rw[atZ];omega,.inl rfl⟩];rfl;have:=congrArg (List.drop 1) e;rw[List.drop_take,List.drop_drop,Nat.add_sub_cancel]at this;exact this
theorem vR.append{K:R_}(h:vR H s q v rows)(N:dG H s y=some src)(M:roomFor rows.length src.length b)
  (L:∀F v' H',vR H' s F v' (rows++src)->(F=q\/H F=none)->(∀o x,o≠q->H o=some x->H' o=some x)->(∀o,o≠F->H o=none->H' o=none)->K v' H'):kP H s b v y K:=by
 obtain⟨rs,off,rfl,J,E,B⟩:=h;have w:(rows++src).length=Z' rows+Z' src:=asX;have D:∀off,off+Z' rows<=Z' rs->(rs.drop off).take rows.length=rows->K (.osl q s off (Z' rows+Z' src)) (H.set q (.rows s (rs.take (off+Z' rows)++src))):=λoff E B=>by
  refine L q _ _ ⟨rs.take (off+Z' rows)++src,off,by rw[w],by simp only[aO,if_true],by rw[asX,asX,atF];omega,?_⟩ (.inl rfl) (λo x i u=>by simp only[aO,aC i,u]) λo i u=>by simp only[aO,aC i,u]
  have e:(rs.take (off+Z' rows)).drop off=rows:=by rw[List.drop_take,Nat.add_sub_cancel_left,B]
  rw[List.drop_append_of_le_length (by rw[atF];omega),e];exact atL
 have A:∀o,H o=none->K (.osl o s 0 (Z' rows+Z' src)) (H.set o (.rows s (rows++src))):=λo u=>by
  refine L o _ _ ⟨rows++src,0,by rw[w],by simp only[aO,if_true],by omega,by rw[avG,atL]⟩ (.inr u) (λo' x i l=>?_) λo' i l=>by simp only[aO,aC i,l]
  have:o'≠o:=by rintro rfl;rw[u]at l;cases l
  simp only[aO,aC this,l]
 cases off with
 |zero=>
  refine⟨src,N,rfl,rfl,M,rs,J,by omega,?_,λo u=>?_⟩;have:=D 0 E B
  rwa[atA]at this
  rw[avG]at B;rw[B];exact A o u
 |succ off =>refine⟨src,N,rfl,M,rs,J,E,D _ E B,λo u=>?_⟩;rw[B];exact A o u
end
theorem Iz{l:List dR}{k:Nat}(h:k<Z' l):(l.map dR.cells)[k]?=some (l[k]).cells:=by simp[h]
abbrev alG(n:dL):aS:=.rows 4 [n.cells]
abbrev iG(N:Nat)(v:PV):aS:=.rows 4 [[.int .i64 (N:Nat),.int .i64 0,.int .i64 1,v]]
def anN(f:aB)(room:I_):Prop:=∃u,XY f room u

def FP(f:aB)(a:dR):Nat:=(a.src-2-Z' f.arD)/(Z' f.arE-1)
def Nq(f:aB)(v:Nat)(a:dR)(x:Nat):Bool:=decide (fG f 0<=a.dst)&&(decide (x≠0)&&decide (FP f a=v))
def VS(f:aB)(v:Nat)(a:dR)(x:Nat):I_:=if Nq f v a x=true then[((a.dst-fG f 0:Nat):Int)]else[]
def qW(f:aB)(v:Nat):List dR->N_->I_
 |a::l,x::xs=>VS f v a x++qW f v l xs
 |_,_=>[]
def HQ(f:aB)(l:List dR)(xs:N_):L2_:=(asP f.arD.length).map λv=>qW f v l xs
theorem WB(f:aB)(v:Nat):∀{u:List dR}{w:N_}(e:List dR)(i:N_),Z' u=Z' w->qW f v (u++e) (w++i)=qW f v u w++qW f v e i
 |[],[],e,i,_=>rfl
 |a::l,x::xs,e,i,h=>by rw[awD,awD,qW,qW,WB f v e i (by simpa using h),atV]
theorem flatMap_nil{α β:Type}{g:α->List β}:∀{L:List α},(∀k∈L,g k=[])->L.flatMap g=[]
 |[],_=>rfl
 |k::L,h=>by rw[List.flatMap_cons,h k aZ,flatMap_nil λj e=>h j (by simp[e])];rfl
theorem aiN{f:aB}(h:VF f){v d:Nat}(i:d<Z' f.arB):FP f (pK f v d)=v:=by
 have w:=(h.drive d i).2.2.2;have x:=w.2;have y:=h.root;have l:cP f d≠0:=λe=>by have u:=(h.drive d i).2.2.2.2;rw[e]at u;have:=y.2.1;omega
 have hlt:cP f d<Z' f.arE:=by have:=(h.drive d i).2.2;omega
 unfold FP pK iA;simp only;rw[aC l,show 2+Z' f.arD+v*(Z' f.arE-1)+cP f d-1-2-Z' f.arD=(cP f d-1)+v*(Z' f.arE-1) by omega,Nat.add_mul_div_right _ _ Om,Nat.div_eq_of_lt Om,atA]
structure afT where
 vols:List Bool
 arL:List (List Bool)
 arV:List Bool
def afT.shape(f:aB)(c:afT):Bool:=decide (Z' c.vols=Z' f.arD)&&(decide (Z' c.arL=Z' f.arD)&&(decide (Z' c.arV=Z' f.arB)&&c.arL.all λr=>decide (Z' r=Z' f.arE-1)))

theorem Js{a b:Nat}(i:a<=100)(hb:b<=100):i_.wrap ((a:Int)*(b:Int))=((a*b:Nat):Int)/\a*b<=10000:=by
 have e:a*b<=100*100:=awV i hb;rw[<-Int.natCast_mul,wrap_i64 Om Om];exact⟨rfl,e⟩
theorem Xl{f:aB}(w:Small f){v i:Nat}(x:v<=100)(hi:i<=100)(e:i≠0)(A:0<Z' f.arE) :
  i_.wrap (i_.wrap (i_.wrap (i_.wrap (2+(Z' f.arD:Int))+i_.wrap ((v:Int)*i_.wrap ((Z' f.arE:Int)-1)))+(i:Int))-1)=((iA f v i:Nat):Int):=by
 obtain⟨s1,s2,s3,s4,B,D⟩:=w;rw[wrap_i64 (n:=(Z' f.arE:Int)-1) Om Om,show(Z' f.arE:Int)-1=((Z' f.arE-1:Nat):Int) by omega];obtain⟨l,y⟩:=Js (a:=v) (b:=Z' f.arE-1) x Om;rw[l];have u:iA f v i=2+Z' f.arD+v*(Z' f.arE-1)+i-1:=by unfold iA;rw[aC e]
 rw[u];generalize v*(Z' f.arE-1)=z at *
 rw[wrap_i64 (n:=2+(Z' f.arD:Int)) Om Om,wrap_i64 (n:=2+(Z' f.arD:Int)+(z:Int)) Om Om,wrap_i64 (n:=2+(Z' f.arD:Int)+(z:Int)+(i:Int)) Om Om,wrap_i64 Om Om];omega
theorem abJ{f:aB}(i:Small f){d:Nat}(u:d<=100) :
  i_.wrap (i_.wrap (2+i_.wrap ((Z' f.arD:Int)*(Z' f.arE:Int)))+(d:Int))=((fG f d:Nat):Int):=by
 obtain⟨s1,s2,s3,s4,w,x⟩:=i;obtain⟨e,l⟩:=Js (a:=Z' f.arD) (b:=Z' f.arE) Om Om;rw[e];unfold fG;generalize f.arD.length*Z' f.arE=z at *
 rw[wrap_i64 (n:=2+(z:Int)) Om Om,wrap_i64 Om Om];omega
theorem Xz(f:aB)(w:Small f)(u:0<Z' f.arE)(v i:Nat)(x:v<=100)(hi:i<=100) :
  QN.wp C (aV oi.res (aK (.j ((iA f v i:Nat):Int)))) (g_ [.agg f.cells,.j (v:Nat),.j (i:Nat)]) .nil:=by
 by_cases l:i=0;subst l;have e:i_.wrap (2+(v:Int))=((2+v:Nat):Int):=wO_
 simp only[go_sem,QN,oi,Int.natCast_zero,bR (show((0:Nat):Int)=0 from rfl),e];refine eD ?_;rfl;have e:=Xl w x hi l u;simp only[go_sem,QN,oi,bH (Om:¬((i:Nat):Int)=0),asO,e];refine eD ?_;rfl
theorem adT(f:aB)(l:Small f)(d:Nat)(i:d<=100):w9.wp C (aV Nr.res (aK (.j ((fG f d:Nat):Int)))) (g_ [.agg f.cells,.j (d:Nat)]) .nil:=by
 have e:=abJ l i;simp only[go_sem,w9,Nr,asO,e];refine eD ?_;rfl
theorem aaS{f:aB}(hV:VF f)(k:Nat)(i:k<=Z' f.arD):eM (lK f) k<=8*k:=by
 induction k with
 |zero=>exact asU _
 |succ k e =>have:=(AX hV (v:=k) Om).1;have:=e Om;rw[eM];omega
theorem Su(u:∀(f:aB)(v:Nat),VF f->v<Z' f.arD->aH C 82 [.agg f.cells,.j (v:Nat)] .nil (aK (.j (fX f v))))(f:aB)(hV:VF f) :
  bj.wp C (aV oo.res (aK (.j ((Bt f:Nat):Int)))) (g_ [.agg f.cells]) .nil:=by
 have y:=hV.small.arD;simp only[go_sem,bj,oo];refine wp_loop (α:=Nat) (λk=>(((n_.set 1 (.aU f.cells)).set 3 (.j ((eM (lK f) k:Nat):Int))).set 4 (.j (k:Nat)))) (λ_=>.nil) (λk=>k<=Z' f.arD) (λk=>Z' f.arD-k) 0 (asQ _) (by(repeat' (first|exact c_|refine e_ ?_ ?_))<;>first|(simp only[go_sem,eM]<;>rfl)|rfl) a_ ?_;intro k w;simp only[go_sem,asO];by_cases hlt:k<Z' f.arD;have i:(k:Int)<(Z' f.arD:Nat):=Om;obtain⟨b1,b2,l,-⟩:=AX hV hlt;have x:=aaS hV k w;have e:i_.wrap (((eM (lK f) k:Nat):Int)+fX f k)=((eM (lK f) (k+1):Nat):Int):=by rw[eM,<-l,wrap_i64 Om Om];omega
 simp only[go_sem,i];refine aD (u f k hV hlt) rfl ?_;simp only[go_sem,e,wZz k];exact aE (k+1) hlt Om Lq a_;have i:¬(k:Int)<(Z' f.arD:Nat):=Om;have:k=Z' f.arD:=Om;subst this;simp only[go_sem,i];refine eD ?_;rfl
abbrev tK:aS:=.rows 4 [[.int .i64 0,.int .i64 0,.int .i64 0,.aG]]
abbrev IB(p:bX):aS:=.rows 17 [p.cells]
theorem agW{a b:Nat}{x y:aS}(h:¬a=b):∃Hs:PH,Hs a=some x/\Hs b=some y/\∀H':PH,H' a=some x->H' b=some y->Hs.le H':=
 ⟨(h_.set a x).set b y,by rw[aO,aC h,bK],bK _ _,λH' e i=>d_ (d_ a_ e) i⟩
theorem Bw(pre:List dR)(g:Nat->dR)(k:Nat):pre++(asP (k+1)).map g=pre++(asP k).map g++[g k]:=by
 rw[avH,atK,atV];rfl
theorem Dj{G F:PF}{i:Nat}{v:PV}(h:G.le F)(hi:G i=none):G.le (F.set i v):=λj x l=>by
 rw[mL];by_cases e:j=i;subst e;rw[hi]at l;cases l;rw[aC e];exact h j x l
theorem G6(p:Nat->Bool)(k:Nat):(asP (k+1)).filter p=(asP k).filter p++if p k=true then[k]else[]:=by
 rw[avH,awH,List.filter_cons,List.filter_nil]
theorem qz(f:aB)(k:Nat):(asP (k+1)).flatMap (qB f)=(asP k).flatMap (qB f)++qB f k:=by
 rw[avH,List.flatMap_append,List.flatMap_cons,List.flatMap_nil,auA]
theorem XM{f:aB}(e:Small f):∀k,((asP k).flatMap (qB f)).length<=k*65
 |0=>asU _
 |k+1=>by have i:=XM e k;have l:=Gn f k;have u:=e.arE;have w:=e.arB;rw[qz,asX];omega
def D9(f:aB)(room:I_):dL:=if cI f=true then lD f room else⟨0,0,0,[]⟩
def Xk(f:aB):Int:=if cI f=true then 0 else 1
def tt(f:aB)(room:I_):PV:=.tup [.agg (D9 f room).cells,.int .i64 (Xk f)]
theorem Jv{f:aB}(h:cI f=true)(room:I_):D9 f room=lD f room:=aF h
theorem Ju{f:aB}(h:cI f=true):Xk f=0:=aF h
theorem adF{f:aB}(h:cI f=false):Xk f=1:=aC (by rw[h];decide)
theorem adG{f:aB}(h:cI f=false)(room:I_):D9 f room=⟨0,0,0,[]⟩:=aC (by rw[h];decide)
theorem coL{a b:PV}(h:Co a b)(x y z w:PV):Co (.tup [.agg [x,y,z,a],w]) (.tup [.agg [x,y,z,b],w]):=by
 refine .tup rfl λj p q hp hq=>?_
 match j with
 |0=>
  cases hp;cases hq;refine .agg rfl λj p q hp hq=>?_
  match j with
  |0=>cases hp;cases hq;exact .refl _
  |1=>cases hp;cases hq;exact .refl _
  |2=>cases hp;cases hq;exact .refl _
  |3=>cases hp;cases hq;exact h
  |j+4=>cases hp
 |1=>cases hp;cases hq;exact .refl _
 |j+2=>cases hp
theorem Je{H:PH}{B:List BX}{v:PV}{rows:P2_}{a b c e:Int}(h:aN H B [(v,4,rows)]):vQ (.tup [.agg [.j a,.j b,.j c,v],.j e]) H (cN (.tup [.agg [.j a,.j b,.j c,.sl 4 rows],.j e])):=by
 rcases h.own 0 rfl with⟨i,rfl⟩|⟨q,rs,rfl,_⟩
 subst i;exact .done (H2:=.nil) ⟨coL (.nil 4) _ _ _ _,rfl⟩ a_;obtain⟨rs,l,u,-,-,-⟩:=h.frz 0 rfl;refine .step l ?_;show vQ (.tup [.agg [.j a,.j b,.j c,PV.cO q 4 rs (.osl q 4 0 rows.length)],.j e]) _ _;rw[u];exact .done (H2:=.nil) ⟨.refl _,rfl⟩ a_
structure GT(C:Ctx):Prop where
 node:∀(f:aB),Small f->0<Z' f.arE->∀v i:Nat,v<=100->i<=100->aH C 304 [.agg f.cells,.int .i64 (v:Nat),.int .i64 (i:Nat)] .nil (aK (.int .i64 ((iA f v i:Nat):Int)))
 drv:∀(f:aB),Small f->∀d:Nat,d<=100->aH C 305 [.agg f.cells,.int .i64 (d:Nat)] .nil (aK (.int .i64 ((fG f d:Nat):Int)))
 total:∀f:aB,VF f->aH C 306 [.agg f.cells] .nil (aK (.int .i64 ((Bt f:Nat):Int)))
 qvalid:∀f:aB,f.Ok->aH C 67 [.agg f.cells] .nil (aK (.bool (cI f)))
 allowed:∀(f:aB)(p:bX)(d:Nat),VF f->Fits p.arC->d<Z' f.arB->aH C 77 [.agg p.cells,.agg f.cells,.int .i64 d] .nil (aK (.bool (p.arC.contains ((mdl f d:Nat):Int))))
 qroom:∀(f:aB)(room:I_),f.Ok->aH C 85 [.agg f.cells,ints room] .nil (aK (ints (oR f room)))
def quS(f:aB):Spec:=λname vs=>match name,vs with
 |304,[_,.int _ v,.int _ i]=>some ([],λ_=>aK (.int .i64 ((iA f v.toNat i.toNat:Nat):Int)))
 |305,[_,.int _ d]=>some ([],λ_=>aK (.int .i64 ((fG f d.toNat:Nat):Int)))
 |_,_=>none
section
variable {C:Ctx} {F:PF} {H Hs:PH} {st:Bool} {f:aB} {args:List aP} {d:O_} {K:K_}
theorem CW(l:GT C)(y:Small f)(u:0<Z' f.arE){v i:Nat}(A:v<=100)(hi:i<=100)(w:aP.evs F args=some [.agg f.cells,.j (v:Nat),.j (i:Nat)])(e:Hs.le H)(x:K (F.put d (.j ((iA f v i:Nat):Int))) H):dOp C Hs (quS f) st (.call 304 args) d K F H:=
 cJ (v:=.j ((iA f v i:Nat):Int)) (by rfl) (l.node f y u v i A hi) w e x
theorem dd(l:GT C)(x:Small f){i:Nat}(hi:i<=100)(u:aP.evs F args=some [.agg f.cells,.j (i:Nat)])(e:Hs.le H)(w:K (F.put d (.j ((fG f i:Nat):Int))) H):dOp C Hs (quS f) st (.call 305 args) d K F H:=
 cJ (v:=.j ((fG f i:Nat):Int)) (by rfl) (l.drv f x i hi) u e w
end
theorem EB{H:PH}{B:List BX}{v:PV}{l:List dR}{K:R_}(a:dR)(h:aN H B [(v,4,l.map dR.cells)])(w:Z' l<=1000000)(u:∀q n H',aN H' B [(.osl q 4 0 n,4,(l++[a]).map dR.cells)]->K (.osl q 4 0 n) H'):kP H 4 32 v (.sl 4 [a.cells]) K:=by
 refine h.append 0 (src:=[a.cells]) rfl rfl (by unfold roomFor;rw[asO];simp only[atD,maxLen];omega) λv' H' i e=>?_;obtain⟨q,hq⟩:=e aZ;generalize((l.map dR.cells++[a.cells]).length)=n at hq;subst hq;refine u q n H' ?_;rw[atK];exact i
structure QO where
 o:Nat
 z:Nat
 p:Nat
def nR(f:aB)(room:I_)(e:QO)(k:Nat):PF:=(((((n_.set 1 (ints room)).set 2 (.aU f.cells)).set 4 (.ptr e.z 4 0 0)).set 6 (.ptr e.o 4 0 0)).set 7 (.int .i64 (k:Nat)))
def ID(f:aB)(room:I_)(e:QO)(k i:Nat):PF:=((nR f room e k).set 8 (.ptr e.p 17 0 0)).set 9 (.int .i64 ((i+1:Nat):Int))
def ia(f:aB)(room:I_)(e:QO)(k i:Nat):PF:=((nR f room e k).set 8 (.ptr e.p 17 0 0)).set 11 (.int .i64 (i:Nat))
theorem Ht(f:aB)(p:bX){i:Nat}(hi:i<Z' f.arE)(E:0<=lvl f i)(J:lvl f i<5){op:Nat}(K:K_)(F:PF)(H:PH)(x:F 2=some (.aU f.cells))(y:F 9=some (.j (i:Nat)))(h8:F 8=some (.ptr op 17 0 0))(u:H op=some (IB p))
  (w:∀e:PF,e 10=some (.j (p.spread (lvl f i).toNat))->(∀G:PF,G.le F->(∀j,62<=j->j<71->G j=none)->G 10=none->G.le e)->K e H):wpOps C ii K F H:=by
 have h5:lvl f i<((5:Nat):Int):=Om;simp only[go_sem,ii,x,y,h8,fP hi,tO hi,E,h5,Nat.mul_one];have B:lvl f i=0\/lvl f i=1\/lvl f i=2\/lvl f i=3\/lvl f i=4:=Om;have fin:∀e:PF,e 10=some (.j (p.spread (lvl f i).toNat))->(∀G:PF,G.le F->(∀j,62<=j->j<71->G j=none)->G 10=none->G.le e)->K e H:=w;clear w;rcases B with h|h|h|h|h
 all_goals
  rw[h]at fin ⊢;simp only[go_sem,u];refine fin _ rfl λG A D l=>?_
  repeat' (first|exact A|exact l|(exact D _ aR aR)|refine Dj ?_ ?_)
theorem Sr(Lb:GT C){K:bP}[Up K](f:aB)(hV:VF f)(room:I_)(e:QO)(N k:Nat)(hk:k<Z' f.arD)(pre:List dR)(γ:Z' pre<=900000){F:PF}{H:PH}{B:List BX}(v:PV)
  (D:B[0]?=some (e.p,IB (bF f k)))
  (w:aN H ((e.o,iG N v)::B) [(v,4,pre.map dR.cells)]) (hF:(ID f room e k 0).le F)
  (hK:∀v' H',aN H' ((e.o,iG N v')::B) [(v',4,(pre++(asP (Z' f.arE-1)).map (DR f k)).map dR.cells)]->K (.exit 2) ((nR f room e k).set 8 (.ptr e.p 17 0 0)) H'):aJ.wp C (.loop ib) K F H:=by
 have R:=hV.small;have hr:=hV.root;have ε:=R.arE;have ζ:=R.arD;have δ:¬e.o=e.p:=w.ne 0 1 rfl D aR;refine wp_loop (α:=T3_) (λs=>ID f room e k s.1) (λs=>s.2.2) (λs=>s.1+1<=Z' f.arE/\aN s.2.2 ((e.o,iG N s.2.1)::B) [(s.2.1,4,(pre++(asP s.1).map (DR f k)).map dR.cells)]) (λs=>Z' f.arE-s.1) (0,v,H) ⟨by have:=hr.1;omega,by simpa using w⟩ hF b_ ?_;rintro⟨i,v,L⟩ ⟨hi,w⟩;simp only at hi w;simp only[go_sem,ib,ID,nR,asO];by_cases hlt:i+1<Z' f.arE
 ·have u:((i+1:Nat):Int)<(Z' f.arE:Nat):=Om;have Z:=fI (Om:i+1<9223372036854775807);obtain⟨d1,d2,d3,d4,d5⟩:=hV.dom (i+1) Om hlt;have β:=hV.MY (Om:0<i+1) hlt;have A:L e.p=some (IB (bF f k)):=w.at 1 D;have V:L e.o=some (iG N v):=w.at 0 rfl;obtain⟨b1,b2,b3,b4⟩:=AX hV hk;obtain⟨hp,he⟩:=iN hV hk;have x:=hV.arO _ (asS hp);rw[he]at x;have U:i_.wrap ((bF f k).k+(bF f k).m)=((lK f k:Nat):Int):=by rw[b3];exact wrap_i64 Om Om
  have η:=x.2.2.2.2.2.2.1 (lvl f (i+1)).toNat;have l:((QB f k (i+1):Nat):Int)=if(bF f k).spread (lvl f (i+1)).toNat=0 then((lK f k:Nat):Int)else(bF f k).spread (lvl f (i+1)).toNat:=by
   unfold QB dU;split
   ·rfl
   ·omega
  simp only[go_sem,u];refine Ht f (bF f k) hlt Om Om (op:=e.p) _ _ _ rfl rfl rfl A λF1 y J=>?_;have Y:=J (ID f room e k i) (by(repeat' (first|exact c_|refine e_ ?_ ?_))<;>first|(simp only[go_sem,ID,nR]<;>rfl)|rfl) (λj O h2=>by have:j=62\/j=63\/j=64\/j=65\/j=66\/j=67\/j=68\/j=69\/j=70:=Om;rcases this with rfl|rfl|rfl|rfl|rfl|rfl|rfl|rfl|rfl<;>rfl) rfl
  clear J;have E:∀S:PF,((ID f room e k i).set 10 (.j ((QB f k (i+1):Nat):Int))).le S ->
    aJ.wp C (.draw ij) (gL C (aJ.wp C (.draw ik)) (fL 3 (gL C (aJ.wp C (.region im)) (fK (λs:T3_=>ID f room e k s.1) (λs=>s.2.2) (λs=>s.1+1<=Z' f.arE/\aN s.2.2 ((e.o,iG N s.2.1)::B) [(s.2.1,4,(pre++(asP s.1).map (DR f k)).map dR.cells)]) (λs=>Z' f.arE-s.1) (Z' f.arE-i) K)))) S L:=by
   intro S X;refine jL _ (λ_ _ _ _ a b=>Up.up a b) X ?_;refine bE (h_.set e.o (iG N v)) (quS f) (d_ a_ V) ?_;simp only[go_sem,ij,ID,nR,fP hlt,MX hlt,β];refine CW Lb R hr.1 (v:=k) (i:=tA f (i+1)) Om Om rfl (d_ a_ V) ?_;simp only[go_sem];refine CW Lb R hr.1 (v:=k) (i:=i+1) Om Om rfl (d_ a_ V) ?_;simp only[go_sem];refine EB (DR f k i) w (by rw[asX,asO,List.length_range];omega) λq n H1 O=>?_;refine⟨d_ a_ (O.at 0 rfl),?_⟩;have W:=O.at 0 rfl;refine bE .nil cR a_ ?_;simp only[go_sem,ik,W];refine⟨a_,?_⟩;have h2:=O.set 0 rfl (iG N (.osl q 4 0 n));simp only[go_sem,im,Z];refine aE (i+1,.osl q 4 0 n,_) ⟨hlt,?_⟩ sO_ (by(repeat' (first|exact c_|refine e_ ?_ ?_))<;>first|(simp only[go_sem,ID,nR]<;>rfl)|rfl) b_;simp only;rw[Bw];exact h2
  by_cases M:(bF f k).spread (lvl f (i+1)).toNat=0
  ·rw[aF M]at l;have f8:=Y 8 _ rfl;simp only[go_sem,y,bR M,f8,A,U];refine E _ (e_ ?_ (by simp only[go_sem,l]))
   repeat' (first|exact Y|refine Dj ?_ rfl)
  ·rw[aC M]at l;simp only[go_sem,y,bH M];refine E _ (e_ ?_ (by simp only[go_sem,y,l]))
   repeat' (first|exact Y|refine Dj ?_ rfl)
 ·have u:¬((i+1:Nat):Int)<(Z' f.arE:Nat):=Om;have:i=Z' f.arE-1:=Om;subst this;simp only[go_sem,u];exact Up.up (by(repeat' (first|exact c_|refine e_ ?_ ?_))<;>first|(simp only[go_sem,ID,nR]<;>rfl)|rfl) (hK v L w)
theorem Ss(E:GT C){K:bP}[Up K](f:aB)(hV:VF f)(room:I_)(e:QO)(N k:Nat)(hk:k<Z' f.arD)(x:Fits (bF f k).arC)(pre:List dR)(V:Z' pre<=900000){F:PF}{H:PH}{B:List BX}(v:PV)
  (R:B[0]?=some (e.p,IB (bF f k)))
  (u:aN H ((e.o,iG N v)::B) [(v,4,pre.map dR.cells)]) (X:(ia f room e k 0).le F)
  (Y:∀v' H',aN H' ((e.o,iG N v')::B) [(v',4,(pre++((asP f.arB.length).filter (okD f k)).map (pK f k)).map dR.cells)]->K (.exit 4) (nR f room e k) H'):aJ.wp C (.loop ic) K F H:=by
 have A:=hV.small;have Z:=hV.root;have β:=A.arE;have γ:=A.arB;have δ:=A.arD;refine wp_loop (α:=T3_) (λs=>ia f room e k s.1) (λs=>s.2.2) (λs=>s.1<=Z' f.arB/\aN s.2.2 ((e.o,iG N s.2.1)::B) [(s.2.1,4,(pre++((asP s.1).filter (okD f k)).map (pK f k)).map dR.cells)]) (λs=>Z' f.arB-s.1) (0,v,H) ⟨asQ _,by simpa using u⟩ X b_ ?_;rintro⟨i,v,D⟩ ⟨hi,u⟩;simp only at hi u;simp only[go_sem,ic,ia,nR,asO];by_cases hlt:i<Z' f.arB
 ·have l:(i:Int)<(Z' f.arB:Nat):=Om;have y:=wZz i;obtain⟨d1,d2,d3,d4,d5⟩:=hV.drive i hlt;have U:okD f k i=(bF f k).arC.contains ((mdl f i:Nat):Int):=rfl;have J:D e.p=some (IB (bF f k)):=u.at 1 R;have L:D e.o=some (iG N v):=u.at 0 rfl;have w:=G6 (okD f k) i;simp only[go_sem,l,J];refine aD (E.allowed f (bF f k) i hV x hlt) rfl ?_;rw[<-U];cases hb:okD f k i with
  |false =>rw[hb,aC aR,auA]at w;rw[<-w]at u;simp only[go_sem,y];exact aE (i+1,v,D) ⟨hlt,u⟩ sO_ (by(repeat' (first|exact c_|refine e_ ?_ ?_))<;>first|(simp only[go_sem,ia,nR]<;>rfl)|rfl) b_
  |true=>
   rw[hb,aF rfl]at w;have S:=awJ (okD f k) (asP i);rw[List.length_range]at S;simp only[go_sem];refine bE (h_.set e.o (iG N v)) (quS f) (d_ a_ L) ?_;simp only[go_sem,kC hlt,hV.GH hlt];refine CW E A Z.1 (v:=k) (i:=cP f i) Om Om rfl (d_ a_ L) ?_;simp only[go_sem];refine dd E A (i:=i) Om rfl (d_ a_ L) ?_;simp only[go_sem];refine EB (pK f k i) u (by rw[asX,asO];omega) λq n H1 O=>?_;refine⟨d_ a_ (O.at 0 rfl),?_⟩;have M:=O.at 0 rfl;refine bE .nil cR a_ ?_;simp only[go_sem,M];refine⟨a_,?_⟩;have W:=O.set 0 rfl (iG N (.osl q 4 0 n));simp only[go_sem,y];refine aE (i+1,.osl q 4 0 n,_) ⟨hlt,?_⟩ sO_ (by(repeat' (first|exact c_|refine e_ ?_ ?_))<;>first|(simp only[go_sem,ia,nR]<;>rfl)|rfl) b_;simp only;have e2:pre++((asP (i+1)).filter (okD f k)).map (pK f k)=pre++((asP i).filter (okD f k)).map (pK f k)++[pK f k i]:=by rw[w,atK,<-atV];rfl
   rw[e2];exact W
 have l:¬(i:Int)<(Z' f.arB:Nat):=Om;have:i=Z' f.arB:=Om;subst this;simp only[go_sem,l];exact Up.up (by(repeat' (first|exact c_|refine e_ ?_ ?_))<;>first|(simp only[go_sem,ia,nR]<;>rfl)|rfl) (Y v D u)
theorem St(L:GT C){K:bP}[Up K](f:aB)(hf:f.Ok)(hV:VF f)(room:I_)(o z:Nat)(N:Nat){F:PF}{H:PH}
  (w:aN H [(o,iG N .aG),(z,tK)] [(.aG,4,[])]) (hF:(nR f room ⟨o,z,0⟩ 0).le F)
  (hK:∀v' H',aN H' [(o,iG N v'),(z,tK)] [(v',4,((asP f.arD.length).flatMap (qB f)).map dR.cells)]->K (.exit 0) (nR f room ⟨o,z,0⟩ f.arD.length) H'):aJ.wp C (.loop ie) K F H:=by
 have D:=hV.small;have hr:=hV.root;have γ:=D.arE;have δ:=D.arB;have ε:=D.arD;refine wp_loop (α:=T3_) (λs=>nR f room ⟨o,z,0⟩ s.1) (λs=>s.2.2) (λs=>s.1<=Z' f.arD/\aN s.2.2 [(o,iG N s.2.1),(z,tK)] [(s.2.1,4,((asP s.1).flatMap (qB f)).map dR.cells)]) (λs=>Z' f.arD-s.1) (0,.aG,H) ⟨asQ _,by simpa using w⟩ hF b_ ?_;rintro⟨k,v,Y⟩ ⟨hk,w⟩;simp only at hk w;simp only[go_sem,ie,nR,asO];by_cases hlt:k<Z' f.arD;have e:(k:Int)<(Z' f.arD:Nat):=Om;have S:=wZz k;obtain⟨hp,he⟩:=iN hV hlt;have l:=(hf.arO _ (asS hp)).arC;rw[he]at l;have A:=hV.arO _ (asS hp);rw[he]at A;obtain⟨b1,b2,b3,b4⟩:=AX hV hlt;have M:i_.wrap ((bF f k).k+(bF f k).m)=((lK f k:Nat):Int):=by rw[b3];exact wrap_i64 Om Om
 have β:=XM D k;simp only[go_sem,e];refine bE .nil cR a_ ?_;simp only[go_sem,oT hlt,hV.AH hlt,lG hp,he];refine w.TS λp Z X=>?_;have g1:=X.MF;have h2:=X.YY (IB (bF f k));simp only[go_sem,g1];refine⟨a_,?_⟩;generalize Z.set p (.rows 17 [(bF f k).cells])=H2 at *
 have E:aN H2 [(o,iG N v),(p,IB (bF f k)),(z,tK)] [(v,4,((asP k).flatMap (qB f)).map dR.cells)]:=by refine h2.perm ?_ (avN.refl _);exact .cons _ (.swap _ _ _)
 have V:H2 o=some (iG N v):=E.at 0 rfl;have W:H2 p=some (IB (bF f k)):=E.at 1 rfl;have U:¬o=p:=E.ne 0 1 rfl rfl aR;obtain⟨Hs,so,sp,u⟩:=agW (x:=iG N v) (y:=IB (bF f k)) U;refine bE Hs (quS f) (u _ V W) ?_;simp only[go_sem,so];refine CW L D hr.1 (v:=k) (i:=0) Om Om rfl (u _ V W) ?_;simp only[go_sem,sp,M];refine EB (⟨0,iA f k 0,lK f k⟩:dR) E Om λq n H3 J=>?_;refine⟨u _ (J.at 0 rfl) (J.at 1 rfl),?_⟩;have O:=J.at 0 rfl;refine bE .nil cR a_ ?_;simp only[go_sem,O];refine⟨a_,?_⟩;have h5:=J.set 0 rfl (iG N (.osl q 4 0 n))
 try simp only[go_sem]
 refine Sr L f hV room ⟨o,z,p⟩ N k hlt ((asP k).flatMap (qB f)++[(⟨0,iA f k 0,lK f k⟩:dR)]) (by rw[asX,atD];omega) (.osl q 4 0 n) (B:=[(p,IB (bF f k)),(z,tK)]) rfl h5 (by(repeat' (first|exact c_|refine e_ ?_ ?_))<;>first|(simp only[go_sem,ID,nR]<;>rfl)|rfl) λv2 H8 h9=>?_;simp only[go_sem,nR];refine Ss L f hV room ⟨o,z,p⟩ N k hlt l ((asP k).flatMap (qB f)++[(⟨0,iA f k 0,lK f k⟩:dR)]++(asP (Z' f.arE-1)).map (DR f k)) (by rw[asX,asX,atD,asO,List.length_range];omega) (B:=[(p,IB (bF f k)),(z,tK)]) v2 rfl h9 (by(repeat' (first|exact c_|refine e_ ?_ ?_))<;>first|(simp only[go_sem,ia,nR]<;>rfl)|rfl) λv3 H9 R=>?_;simp only[go_sem,nR,S];refine aE (k+1,v3,H9) ⟨hlt,?_⟩ sO_ (by(repeat' (first|exact c_|refine e_ ?_ ?_))<;>first|(simp only[go_sem,nR]<;>rfl)|rfl) b_;simp only;have ev:(asP (k+1)).flatMap (qB f)=(asP k).flatMap (qB f)++[(⟨0,iA f k 0,lK f k⟩:dR)]++(asP (Z' f.arE-1)).map (DR f k)++((asP f.arB.length).filter (okD f k)).map (pK f k):=by rw[qz];unfold qB;simp[iA]
 rw[ev];exact R.wC 1;have e:¬(k:Int)<(Z' f.arD:Nat):=Om;have:k=Z' f.arD:=Om;subst this;simp only[go_sem,e];exact Up.up (by(repeat' (first|exact c_|refine e_ ?_ ?_))<;>first|(simp only[go_sem,nR]<;>rfl)|rfl) (hK v Y w)
theorem Ns(L:GT C){K:bP}[Up K](f:aB)(hV:VF f)(room:I_)(o z N:Nat)(pre:List dR)(D:Z' pre<=900000){F:PF}{H:PH}(v:PV)
  (l:aN H [(o,iG N v),(z,tK)] [(v,4,pre.map dR.cells)])
  (O:((((((n_.set 2 (.aU f.cells)).set 4 (.ptr z 4 0 0)).set 6 (.ptr o 4 0 0)).set 12 (.sl 1 (aM (bA f room)))).set 13 (.j 0))).le F)
  (R:∀v' H',aN H' [(o,iG N v'),(z,tK)] [(v',4,(pre++(asP f.arB.length).map (JS f room)).map dR.cells)]->K (.exit 6) (((n_.set 4 (.ptr z 4 0 0)).set 6 (.ptr o 4 0 0))) H'):aJ.wp C (.loop ig) K F H:=by
 have E:=hV.small;have S:=E.arB;refine wp_loop (α:=T3_) (λs=>(((((n_.set 2 (.aU f.cells)).set 4 (.ptr z 4 0 0)).set 6 (.ptr o 4 0 0)).set 12 (.sl 1 (aM (bA f room)))).set 13 (.j (s.1:Nat)))) (λs=>s.2.2) (λs=>s.1<=Z' f.arB/\aN s.2.2 [(o,iG N s.2.1),(z,tK)] [(s.2.1,4,(pre++(asP s.1).map (JS f room)).map dR.cells)]) (λs=>Z' f.arB-s.1) (0,v,H) ⟨asQ _,by simpa using l⟩ O b_ ?_;rintro⟨i,v,J⟩ ⟨hi,l⟩;simp only at hi l;simp only[go_sem,ig,asO];by_cases hlt:i<Z' f.arB;have e:(i:Int)<(Z' f.arB:Nat):=Om;have y:=wZz i;have A:i<(bA f room).length:=by rw[pA];exact hlt
 have u:=rC A;obtain⟨r1,r2⟩:=o9 hV room hlt;rw[iy,<-r2]at u;have B:=l.at 0 rfl;simp only[go_sem,e];refine bE (h_.set o (iG N v)) (quS f) (d_ a_ B) ?_;simp only[go_sem];refine dd L E (i:=i) Om rfl (d_ a_ B) ?_;simp only[go_sem,u,bV,pA,e];refine EB (JS f room i) l (by rw[asX,asO,List.length_range];omega) λq n U x=>?_;refine⟨d_ a_ (x.at 0 rfl),?_⟩;have w:=x.at 0 rfl;refine bE .nil cR a_ ?_;simp only[go_sem,w];refine⟨a_,?_⟩;have M:=x.set 0 rfl (iG N (.osl q 4 0 n));simp only[go_sem,y];refine aE (i+1,.osl q 4 0 n,_) ⟨hlt,?_⟩ sO_ Lq b_;simp only;rw[Bw];exact M;have e:¬(i:Int)<(Z' f.arB:Nat):=Om;have:i=Z' f.arB:=Om;subst this;simp only[go_sem,e];exact Up.up Lq (R v J l)
theorem adV(l:GT C)(f:aB)(y:f.Ok)(room:I_) :
  xb.wp C (aV jC.res (cN (tt f room))) (g_ [.agg f.cells,ints room]) .nil:=by
 simp only[go_sem,xb,jC];refine aQ λz M=>?_;simp only[go_sem];refine aD (l.qvalid f y) rfl ?_;have x:aN (h_.set z tK) [(z,tK)] []:=aN.nil.new M tK;generalize(h_.set z tK)=O at *
 have F:=x.at 0 rfl;cases i:cI f with
 |false =>simp only[go_sem,atH,F];rw[tt,adG i,adF i];have J:=(x.set 0 rfl tK).lE 4;refine pE (vs:=[.agg [.int .i64 0,.int .i64 0,.int .i64 0,.aG],.int .i64 1]) (.inr rfl) Sq ?_;exact Je J
 |true=>
  have hV:=VF.of i;have w:=hV.small;rw[tt,Jv i,Ju i];simp only[go_sem,asY,asO];refine aD (l.drv f w f.arB.length (by have:=w.arB;omega)) rfl ?_;simp only[go_sem];refine x.TS λo D A=>?_;have g4:=A.at 1 rfl;have h5:=A.set 1 rfl (iG (fG f f.arB.length) .aG);simp only[go_sem,g4];generalize D.set o (.rows 4 [[.j ((fG f f.arB.length:Nat):Int),.j 0,.j 1,.aG]])=E at *
  have K:aN E [(o,iG (fG f f.arB.length) .aG),(z,tK)] [(.aG,4,[])]:=by refine(h5.lE 4).perm ?_ (avN.refl _);exact(List.reverse_perm _).symm
  try simp only[go_sem]
  refine St l f y hV room o z _ K (by(repeat' (first|exact c_|refine e_ ?_ ?_))<;>first|(simp only[go_sem,nR]<;>rfl)|rfl) λN R h7=>?_;have u:=l.qroom f room y;rw[oR,aF i]at u;simp only[go_sem,nR];refine aD u rfl ?_;simp only[go_sem];refine Ns l f hV room o z _ ((asP f.arD.length).flatMap (qB f)) (by have:=XM w f.arD.length;have:=w.arD;omega) N h7 Lq λB S h8=>?_;have a7:=h8.at 0 rfl;have a4:=h8.at 1 rfl;have L:=h8.set 1 rfl (iG (fG f f.arB.length) B);simp only[go_sem,a7,a4];refine⟨_,aF ?_,?_⟩;rcases h8.own 0 rfl with⟨_,e⟩|⟨q,rs,e,_⟩<;>rw[e]
  refine pE (vs:=[.agg [.j ((fG f f.arB.length:Nat):Int),.j 0,.j 1,B],.j 0]) (.inr rfl) Sq ?_;exact Je L
theorem Si(n:dL)(i:lH n):bf.wp C (aV n8.res (aK (.bool true))) (g_ [.agg n.cells]) .nil:=by
 have a1:¬(n.nodes:Int)<2:=by have:=i.two;omega
 have a2:¬(n.nodes:Int)>700:=by have:=i.few;omega
 have a3:¬(Z' n.arcs:Int)>2500:=by have:=i.num;omega
 have a4:¬(n.source:Int)=n.sink:=by have:=i.apart;omega
 have a5:¬(n.source:Int)<0:=Om;have a6:¬(n.source:Int)>=n.nodes:=by have:=i.source;omega
 have a7:¬(n.sink:Int)<0:=Om;have a8:¬(n.sink:Int)>=n.nodes:=by have:=i.sink;omega
 have D:=i.num;simp only[go_sem,bf,n8,a1,a2,a3,a5,a6,a7,a8,bH a4,asO];refine wp_loop (α:=Nat) (λk=>((n_.set 1 (.aU n.cells)).set 3 (.j (k:Nat)))) (λ_=>.nil) (λk=>k<=Z' n.arcs) (λk=>Z' n.arcs-k) 0 (asQ _) Lq a_ ?_;intro k y;simp only[go_sem,asO];by_cases hlt:k<Z' n.arcs;have e:(k:Int)<(Z' n.arcs:Nat):=Om;obtain⟨A,e2,B⟩:=i.ends _ (asS hlt);have b1:¬((n.arcs[k]).src:Int)<0:=Om;have b2:¬((n.arcs[k]).src:Int)>=n.nodes:=Om;have l:¬((n.arcs[k]).dst:Int)<0:=Om;have u:¬((n.arcs[k]).dst:Int)>=n.nodes:=Om;have w:¬((n.arcs[k]).cap:Int)<0:=Om;have x:¬((n.arcs[k]).cap:Int)>2147483647:=Om;simp only[go_sem,e,Iz hlt];refine aQ λp hp=>?_;simp only[go_sem,b1,b2,l,u,w,x,wZz k];exact aE (k+1) hlt Om Lq a_;have e:¬(k:Int)<(Z' n.arcs:Nat):=Om;simp only[go_sem,e];refine cZ (.inr rfl) Ev ?_;rfl
abbrev dJ:=Nat × Bool
def noA:dR:=⟨0,0,0⟩
def dA(n:dL)(i:Nat):dR:=n.arcs.getD i noA
def jV(n:dL)(s:dJ):Nat:=if s.2=true then(dA n s.1).dst else(dA n s.1).src
def fA(n:dL)(s:dJ):Nat:=if s.2=true then(dA n s.1).src else(dA n s.1).dst
def iO(n:dL)(xs:N_)(s:dJ):Nat:=if s.2=true then(dA n s.1).cap-xs.getD s.1 0 else xs.getD s.1 0
structure uR(n:dL)(xs:N_)(Q:N_)(way:Nat->dJ):Prop where
 first:∃t,Q=n.source::t
 nd:Q.Nodup
 lt:∀v∈Q,v<n.nodes
 way:∀v∈Q,v≠n.source->(way v).1<Z' n.arcs/\jV n (way v)=v/\0<iO n xs (way v)/\fA n (way v)∈Q/\Q.idxOf (fA n (way v))<Q.idxOf v
def NL(n:dL)(xs:N_)(Q:N_)(k:Nat):Prop:=∀v∈Q.take k,∀s:dJ,s.1<Z' n.arcs->fA n s=v->0<iO n xs s->jV n s∈Q
theorem xU{n:dL}{i:Nat}{a:dR}(h:n.arcs[i]?=some a):dA n i=a:=by unfold dA;rw[asW,h];rfl
theorem Yp{n:dL}(D:lH n){xs:N_}(y:mJ n xs){Q:N_}{way:Nat->dJ}(A:uR n xs Q way)(hD:NL n xs Q Q.length)(E:n.sink ∉ Q):vN n xs=mD (λv=>Q.contains v) n.arcs:=by
 obtain⟨t,F⟩:=A.first;refine y.full D (by rw[F];simp) (by simpa using E) λi a x e w=>⟨λl u=>?_,λl u=>?_⟩;have hi:=(atX.1 e).1;have l:a.src∈Q:=by simpa using l
 have u:a.dst ∉ Q:=by simpa using u
 have B:=y.le i a x e w;rcases atY x a.cap with c|c
 refine absurd (hD a.src (by rw[atL];exact l) (i,true) hi ?_ ?_) ?_;unfold fA;rw[aF rfl,xU e];unfold iO;rw[aF rfl,xU e,asW,w];simp only[auV];omega;unfold jV;rw[aF rfl,xU e];exact u;omega;have hi:=(atX.1 e).1;have l:a.src ∉ Q:=by simpa using l
 have u:a.dst∈Q:=by simpa using u
 rcases avB x with c|c
 exact c;refine absurd (hD a.dst (by rw[atL];exact u) (i,false) hi ?_ ?_) ?_;unfold fA;rw[aC (show ¬(false=true) by decide),xU e];unfold iO;rw[aC (show ¬(false=true) by decide),asW,w];exact c;unfold jV;rw[aC (show ¬(false=true) by decide),xU e];exact l
inductive BA (n:dL) (Q:N_) (way:Nat->dJ):Nat->List dJ->Prop
 |nil:BA n Q way n.source []
 |cons {v:Nat} {L:List dJ} (hv:v∈Q) (hne:v≠n.source) (h:BA n Q way (fA n (way v)) L):BA n Q way v (way v::L)
theorem P3{n:dL}{xs Q:N_}{way:Nat->dJ}(w:uR n xs Q way):∀(m v:Nat),Q.idxOf v=m->v∈Q->∃L,BA n Q way v L/\Z' L<=m:=by
 intro m
 induction m using Nat.strongRecOn with
 |ind m x =>intro v E i;by_cases e:v=n.source;subst e;exact⟨[],.nil,asQ _⟩;obtain⟨y,A,B,l,h5⟩:=w.way v i e;obtain⟨L,u,D⟩:=x _ Om (fA n (way v)) rfl l;exact⟨way v::L,.cons i e u,by simp;omega⟩
theorem BA.aoW{n:dL}{xs Q:N_}{way:Nat->dJ}(x:uR n xs Q way):∀{v:Nat}{L:List dJ},BA n Q way v L->v∈Q->∀s∈L,s.1<Z' n.arcs/\0<iO n xs s/\Q.idxOf (fA n s)<Q.idxOf (jV n s)/\Q.idxOf (jV n s)<=Q.idxOf v:=by
 intro v L h
 induction h with
 |nil=>intro _ s hs;cases hs
 |@cons v L y e h A=>
  intro _ s hs;obtain⟨l,i,u,w,h5⟩:=x.way v y e;rcases atG.1 hs with rfl|hs
  exact⟨l,u,by rw[i];exact h5,by rw[i];exact asU _⟩;obtain⟨g1,g2,g3,g4⟩:=A w s hs;exact⟨g1,g2,g3,by omega⟩
theorem BA.apart{n:dL}{xs Q:N_}{way:Nat->dJ}(w:uR n xs Q way){v:Nat}{s:dJ}{L:List dJ}(h:BA n Q way v (s::L))(B:v∈Q):∀s'∈L,s'.1≠s.1:=by
 intro s' u e;cases h with
 |cons _ l h=>
  obtain⟨D,y,E,A,h5⟩:=w.way v B l;obtain⟨g1,g2,g3,g4⟩:=h.aoW w A s' u;have x:Q.idxOf (fA n (way v))<Q.idxOf (jV n (way v)):=by rw[y];exact h5
  unfold jV fA at x g3 g4;rw[e]at g3 g4;have F:=g4;cases hb:(way v).2<;>cases i:s'.2<;>simp only[hb,i,auQ,if_true,if_false]at x g3 g4<;>omega
def push(e:Nat)(ys:N_)(s:dJ):N_:=ys.set s.1 (if s.2=true then ys.getD s.1 0+e else ys.getD s.1 0-e)
theorem Xv(e:Nat)(ys:N_)(s:dJ):(push e ys s).length=Z' ys:=by unfold push;rw[auD]
structure j6(n:dL)(xs ys:N_)(amt v:Nat)(L:List dJ):Prop where
 len:Z' ys=Z' n.arcs
 le:∀(i:Nat) a x,n.arcs[i]?=some a->ys[i]?=some x->x<=a.cap
 net:∀w,oM n.arcs ys w=oM n.arcs xs w-(if w=n.sink then(amt:Int)else 0)+(if w=v then(amt:Int)else 0)
 same:∀s∈L,ys.getD s.1 0=xs.getD s.1 0
theorem Rw{n:dL}{xs:N_}(i:mJ n xs)(e:Nat)(L:List dJ):j6 n xs xs e n.sink L:=⟨i.len,i.le,λw=>by split<;>omega,λ_ _=>rfl⟩
theorem Xa{n:dL}{xs ys Q:N_}{way:Nat->dJ}(R:uR n xs Q way){l v:Nat}{s:dJ}{L:List dJ}(u:j6 n xs ys l v (s::L))(hB:BA n Q way v (s::L))(U:v∈Q)(E:l<=iO n xs s) :
  fA n s∈Q/\BA n Q way (fA n s) L/\j6 n xs (push l ys s) l (fA n s) L:=by
 have M:=hB.apart R U;cases hB with
 |cons _ N hB=>
  obtain⟨O,D,W,V,h5⟩:=R.way v U N;generalize way v=s at *
  have y:n.arcs[s.1]?=some (dA n s.1):=by unfold dA;rw[asW,asZ O];rfl
  have J:s.1<Z' ys:=by rw[u.len];exact O
  have F:ys[s.1]?=some (ys.getD s.1 0):=by rw[asW,asZ J];rfl
  have A:=u.same s aZ;have S:=u.le _ _ _ y F;unfold iO at E;rw[<-A]at E;refine⟨V,hB,by rw[Xv];exact u.len,λi a x hi B=>?_,λw=>?_,λs' K=>?_⟩;unfold push at B;by_cases e:i=s.1
  ·subst e;rw[List.getElem?_set_self J]at B;rw[y]at hi;cases hi;simp only[auY.injEq]at B;subst B;cases hb:s.2 with
   |true=>rw[hb,aF rfl]at E;rw[aF rfl];omega
   |false=>rw[aC aR];omega
  rw[List.getElem?_set_ne (λh=>e h.symm)]at B;exact u.le i a x hi B
  ·unfold push;rw[Jw _ y F,u.net];unfold jV at D;unfold fA;cases hb:s.2 with
   |true =>rw[hb,aF rfl]at E D;simp only[if_true];rw[D];split<;>split<;>split<;>split<;>omega
   |false =>rw[hb,aC aR]at E D;simp only[auQ,if_false];rw[D];split<;>split<;>split<;>split<;>omega
  unfold push;have:=M s' K;rw[asW,List.getElem?_set_ne (λh=>this h.symm),<-asW];exact u.same s' (awN _ K)
theorem W9{n:dL}(x:lH n){xs ys:N_}(w:mJ n xs){e:Nat}{L:List dJ}(i:j6 n xs ys e n.source L):mJ n ys/\vN n ys=vN n xs+e:=by
 refine⟨⟨i.len,i.le,λv y l u=>?_⟩,?_⟩;rw[i.net,w.node v y l u,aC u,aC l];rfl;unfold vN;rw[i.net,aC x.apart,aF rfl];omega
abbrev jE(xs:N_):P2_:=xs.map λx=>[PV.int .i64 ((x:Nat):Int)]
theorem mO{xs:N_}{i:Nat}(h:i<Z' xs):(jE xs)[i]?=some [.j ((xs.getD i 0:Nat):Int)]:=by
 rw[atC,asZ h,asW,asZ h];rfl
def stI(s:dJ):Int:=if s.2=true then(s.1:Int)else -1-(s.1:Int)
structure CP(n:dL)(xs:N_):Prop where
 len:Z' xs=Z' n.arcs
 le:∀i,i<Z' n.arcs->xs.getD i 0<=(dA n i).cap
theorem tY{n:dL}{i:Nat}(h:i<Z' n.arcs):n.arcs[i]=dA n i:=(xU (asZ h)).symm
theorem qZ{n:dL}{i:Nat}(h:i<Z' n.arcs):(n.arcs.map dR.cells)[i]?=some (dA n i).cells:=by rw[Iz h,tY h]
def IS(way:Nat->dJ)(v:Nat)(s:dJ):Nat->dJ:=λw=>if w=v then s else way w
theorem Oc{n:dL}(l:lH n)(xs:N_)(way:Nat->dJ):uR n xs [n.source] way:=by
 refine⟨⟨[],rfl⟩,by simp,λv e=>?_,λv e i=>?_⟩;rw[auB]at e;subst e;exact l.source;exact absurd (auB.1 e) i
theorem fc{Q:N_}{v a:Nat}(h:v∈Q):(Q++[a]).idxOf v=Q.idxOf v:=by
 rw[List.idxOf_append,aF h]
theorem Tk{n:dL}(M:lH n){xs Q:N_}{way:Nat->dJ}(i:uR n xs Q way){s:dJ}(w:s.1<Z' n.arcs)(l:fA n s∈Q)(x:jV n s ∉ Q)(N:0<iO n xs s) :
  uR n xs (Q++[jV n s]) (IS way (jV n s) s):=by
 obtain⟨t,K⟩:=i.first;have y:jV n s<n.nodes:=by have:=M.ends _ (asS w);rw[show n.arcs[s.1]=dA n s.1 from(xU (asZ w)).symm]at this;unfold jV;split<;>omega
 refine⟨⟨t++[jV n s],by rw[K];rfl⟩,?_,λv A=>?_,λv A u=>?_⟩;rw[avU];refine⟨i.nd,by simp,λa L b hb=>?_⟩;rw[auB]at hb;subst hb;rintro rfl;exact x L;rcases auC.1 A with h|h
 exact i.lt v h;rw[auB]at h;subst h;exact y;rcases auC.1 A with h|h
 have B:v≠jV n s:=λe=>x (e ▸ h);obtain⟨D,F,J,E,h5⟩:=i.way v h u;unfold IS;rw[aC B];exact⟨D,F,J,List.mem_append_left _ E,by rw[fc E,fc h];exact h5⟩;rw[auB]at h;subst h;unfold IS;rw[aF rfl];refine⟨w,rfl,N,List.mem_append_left _ l,?_⟩;rw[fc l];have D:=List.idxOf_lt_length_of_mem l;rw[List.idxOf_append,aC x];omega
theorem Dp:∀(n:Nat)(Q:N_),Q.Nodup->(∀v∈Q,v<n)->Z' Q<=n
 |0,[],_,_=>asU _
 |0,v::Q,_,h=>absurd (h v aZ) Om
 |n+1,Q,l,h=>by
  by_cases e:n∈Q;have u:=Dp n (Q.erase n) (l.erase n) λv i=>by have w:=(l.mem_erase_iff).1 i;have:=h v w.2;omega
  rw[List.length_erase_of_mem e]at u;omega;have u:=Dp n Q l λv i=>by have:=h v i;have:v≠n:=λe2=>e (e2 ▸ i);omega
  omega
theorem i5{n:dL}{xs Q:N_}{way:Nat->dJ}(e:uR n xs Q way):Z' Q<=n.nodes:=Dp _ _ e.nd e.lt
theorem Qp(n:dL)(xs Q:N_):NL n xs Q 0:=λv e=>by simp at e
theorem Qn{n:dL}{xs Q:N_}{k:Nat}(h:NL n xs Q k)(w:k<=Z' Q)(a:Nat):NL n xs (Q++[a]) k:=λv e s i l u=>by
 rw[List.take_append_of_le_length w]at e;exact List.mem_append_left _ (h v e s i l u)
theorem Qo{n:dL}{xs Q:N_}{k v:Nat}(h:NL n xs Q k)(B:Q[k]?=some v)(i:∀s:dJ,s.1<Z' n.arcs->fA n s=v->0<iO n xs s->jV n s∈Q):NL n xs Q (k+1):=λw y s l u x=>by
 obtain⟨A,e⟩:=atX.1 B;rw[atW A,e]at y;rcases auC.1 y with g|g
 exact h w g s l u x;rw[auB]at g;subst g;exact i s l u x
structure ajU(n:dL)(outL:L2_):Prop where
 len:Z' outL=n.nodes
 all:∀s:dJ,s.1<Z' n.arcs->stI s∈outL.getD (fA n s) []
 only:∀v c,c∈outL.getD v []->∃s:dJ,s.1<Z' n.arcs/\fA n s=v/\c=stI s
 few:∀v,(outL.getD v []).length<=1000000
def byL(cd:dJ->Int)(n:dL)(Q:N_)(way:Nat->dJ):I_:=(asP n.nodes).map λv=>if v∈Q/\v≠n.source then cd (way v)else 0
def seL(n:dL)(Q:N_):List Bool:=(asP n.nodes).map λv=>Q.contains v
theorem qD{α:Type}(g h:Nat->α)(N t:Nat)(x:α)(w:h t=x)(u:∀v,v≠t->h v=g v):((asP N).map g).set t x=(asP N).map h:=by
 refine List.ext_getElem? λi=>?_;rw[avY,asO,List.length_range,atC,atC];by_cases e:t=i;subst e;rw[aF rfl];by_cases l:t<N;rw[aF l,auT l,<-w];rfl;rw[aC l,auE (by simpa using l)];rfl;rw[aC e];by_cases l:i<N;rw[auT l,atO,atO,u i λe2=>e e2.symm];rw[auE (by simpa using l)];rfl
theorem I3{cd:dJ->Int}{n:dL}{Q:N_}{way:Nat->dJ}{t:Nat}{s:dJ}(l:n.source∈Q)(u:t ∉ Q):(byL cd n Q way).set t (cd s)=byL cd n (Q++[t]) (IS way t s):=by
 refine qD _ _ _ _ _ ?_ λv i=>?_;have:t≠n.source:=λe=>u (e ▸ l);rw[aF ⟨by simp,this⟩,IS,aF rfl];rw[IS,aC i];have:(v∈Q++[t])↔v∈Q:=by simp[i]
 simp only[this]
theorem Kc(n:dL)(Q:N_)(t:Nat):(seL n Q).set t true=seL n (Q++[t]):=by
 refine qD _ _ _ _ _ ?_ λv e=>?_;simp;simp[e]
theorem U6(cd:dJ->Int)(n:dL)(way:Nat->dJ):asT n.nodes [PV.int .i64 0]=aM (byL cd n [n.source] way):=by
 refine List.ext_getElem? λi=>?_;unfold aM byL;rw[List.getElem?_replicate,atC,atC];by_cases l:i<n.nodes;rw[aF l,auT l,atO,atO,aC aZ];rw[aC l,auE (by simpa using l)];rfl
theorem Ym(n:dL):(asT n.nodes [PV.bool false]).set n.source [PV.bool true]=dE (seL n [n.source]):=by
 have w:asT n.nodes [PV.bool false]=(asP n.nodes).map λ_=>[PV.bool false]:=by refine List.ext_getElem? λi=>?_;rw[List.getElem?_replicate,atC];by_cases l:i<n.nodes;rw[aF l,auT l];rfl;rw[aC l,auE (by simpa using l)];rfl
 have u:[n.source].contains n.source=true:=by simp
 have e2:∀v,v≠n.source->[n.source].contains v=false:=by intro v e;simp[e]
 have x:=qD (λ_=>[PV.bool false]) (λv=>[PV.bool ([n.source].contains v)]) n.nodes n.source [PV.bool true] (by rw[u]) (λv e=>by rw[e2 v e]);rw[w,x];unfold dE seL;rw[avT];rfl
theorem sw(cd:dJ->Int)(n:dL)(Q:N_)(way:Nat->dJ):(byL cd n Q way).length=n.nodes:=by simp[byL]
theorem YX(n:dL)(Q:N_):(seL n Q).length=n.nodes:=by simp[seL]
theorem ud{n:dL}{Q:N_}{v:Nat}(h:v<n.nodes):(seL n Q).getD v false=Q.contains v:=by
 unfold seL;rw[asW,atC,auT h];rfl
structure RS where
 Q:N_
 k:Nat
 way:Nat->dJ
 v:PV
 q:Nat
 H:PH
 d:Nat
structure rR(n:dL)(xs:N_)(X:PH)(cd:dJ->Int)(b e:Nat)(a:RS):Prop where
 seen:uR n xs a.Q a.way
 done:NL n xs a.Q a.d
 dk:a.d<=a.k
 k:a.k<=Z' a.Q
 base:X.le a.H
 hb:a.H b=some (.rows 1 (aM (byL cd n a.Q a.way)))
 he:a.H e=some (.rows 1 (dE (seL n a.Q)))
 hq:vR a.H 1 a.q a.v (jE (a.Q.drop a.k))
 ne:X a.q=none/\a.q≠b/\a.q≠e
theorem EP{X H:PH}{o:Nat}{y:aS}(h:X.le H)(i:X o=none):X.le (H.set o y):=λq x hq=>by
 rw[aO,aC (λe=>by subst e;rw[i]at hq;cases hq)];exact h q x hq
theorem rR.step{n:dL}(R:lH n){xs:N_}{X:PH}{cd:dJ->Int}{b e:Nat}{a:RS}(h:rR n xs X cd b e a)(Z:X b=none/\X e=none/\¬b=e){s:dJ}(hs:s.1<Z' n.arcs)(hf:fA n s∈a.Q)(ht:jV n s ∉ a.Q)(hr:0<iO n xs s)
  {K:R_} (Y:∀u:RS,rR n xs X cd b e u->u.Q=a.Q++[jV n s]->u.k=a.k->u.d=a.d->K u.v u.H) :
  kP ((a.H.set e (.rows 1 (dE (seL n (a.Q++[jV n s]))))).set b (.rows 1 (aM (byL cd n (a.Q++[jV n s]) (IS a.way (jV n s) s))))) 1 8 a.v (.sl 1 [[.j ((jV n s:Nat):Int)]]) K:=by
 obtain⟨U,V,W⟩:=Z;obtain⟨S,L,M⟩:=h.ne;have N:=Tk R h.seen hs hf ht hr;have w:=i5 N;rw[asX,atD]at w;have O:=R.few;have hq:vR ((a.H.set e (.rows 1 (dE (seL n (a.Q++[jV n s]))))).set b (.rows 1 (aM (byL cd n (a.Q++[jV n s]) (IS a.way (jV n s) s))))) 1 a.q a.v (jE (a.Q.drop a.k)):=h.hq.ext λx i=>by rw[aO,aC L,aO,aC M];exact i
 refine hq.append (src:=[[.j ((jV n s:Nat):Int)]]) rfl ?_ λy v' H' g1 g2 g3 g4=>?_;unfold roomFor;rw[asO,auU,atD];simp only[maxLen];omega;have F:∀o x,o≠a.q->a.H o=some x->o≠b->o≠e->H' o=some x:=λo x hq J hb he=>g3 o x hq (by rw[aO,aC hb,aO,aC he];exact J);have E:jE (a.Q.drop a.k)++[[PV.int .i64 ((jV n s:Nat):Int)]]=jE ((a.Q++[jV n s]).drop a.k):=by rw[List.drop_append_of_le_length h.k,show ∀A B:N_,jE (A++B)=jE A++jE B from λA B=>atK];rfl
 rw[E]at g1;have l:∀o x,a.H o=some x->o≠a.q->y≠o:=λo x J hq e2=>by
  subst e2;rcases g2 with g|g
  exact hq g;rw[aO]at g;split at g;cases g;rw[aO]at g;split at g;cases g;rw[J]at g;cases g
 have D:X y=none:=by
  cases i:X y with
  |none=>rfl
  |some x=>exact absurd rfl (l y x (h.base _ _ i) λe2=>by rw[e2,S]at i;cases i)
 refine Y ⟨a.Q++[jV n s],a.k,IS a.way (jV n s) s,v',y,H',a.d⟩ ⟨N,Qn h.done (atT h.dk h.k) _,h.dk,?_,λo x i=>F o x (λe2=>by rw[e2,S]at i;cases i) (h.base _ _ i) (λe2=>by rw[e2,U]at i;cases i) (λe2=>by rw[e2,V]at i;cases i),?_,?_,g1,?_⟩ rfl rfl rfl;have:=h.k;show a.k<=(a.Q++[jV n s]).length;rw[asX];omega;exact g3 b _ L.symm (by rw[bK]);exact g3 e _ M.symm (by rw[aO,aC (λe2=>W e2.symm),bK]);exact⟨D,l _ _ h.hb L.symm,l _ _ h.he M.symm⟩
theorem du{H:PH}{o q s:Nat}{rs:P2_}{x:aS}(h:H o=some x)(e:¬o=q)(i:aS.frz q s rs x=x):(H.frz q s rs) o=some x:=by
 show(if o=q then none else(H o).map (aS.frz q s rs))=some x;rw[aC e,h,atO,i]
theorem dt{q s:Nat}{rs r:P2_}(h:Flat r)(z:Nat):aS.frz q s rs (.rows z r)=.rows z r:=by
 show aS.rows z (r.map λc=>c.map (PV.cO q s rs))=_;rw[h]
theorem Q5{H H2:PH}{b e m:Nat}{i l:P2_}{R:R_}(hb:H b=some (.rows 1 i))(he:H e=some (.rows 1 l))(u:¬e=b)(x:Flat l)(A:Z' i=m)(le:Z' l=m)
  (w:H2.le ((H.frz b 1 i).frz e 1 l)) (y:R (.tup [.sl 1 i,.sl 1 l]) H2):vQ (.tup [.osl b 1 0 m,.osl e 1 0 m]) H R:=by
 have B:PV.frz b 1 i (.tup [.osl b 1 0 m,.osl e 1 0 m])=.tup [.sl 1 i,.osl e 1 0 m]:=by simp[PV.frz,PV.mM,PV.cO,u,<-A]
 have D:PV.frz e 1 l (.tup [.sl 1 i,.osl e 1 0 m])=.tup [.sl 1 i,.sl 1 l]:=by simp[PV.frz,PV.mM,PV.cO,<-le]
 refine .step hb ?_;rw[B];refine .step (du he u (dt x 1)) ?_;rw[D];exact .done y w
theorem qI.at{u:P2_}{l:L2_}(h:qI u l){i:Nat}(hi:i<Z' l):∃lv,u[i]?=some [lv]/\(lv=ints (l.getD i [])\/(lv=.aG/\l.getD i []=[])):=by
 have w:i<Z' u:=by rw[h.1];exact hi
 have x:l.getD i []=l[i]:=by rw[asW,asZ hi];rfl
 rw[x];rcases h.2 i u[i] l[i] (asZ w) (asZ hi)with e|⟨e,e2⟩
 exact⟨_,by rw[asZ w,e],.inl rfl⟩;exact⟨_,by rw[asZ w,e],.inr ⟨rfl,e2⟩⟩
theorem room_le{n:dL}(l:lH n){xs:N_}(u:CP n xs){s:dJ}(e:s.1<Z' n.arcs):iO n xs s<=2147483647:=by
 have i:=(l.ends _ (asS e)).2.2;rw[tY e]at i;have w:=u.le _ e;unfold iO;split<;>omega
theorem xc(xs:N_)(i x:Nat):(jE xs).set i [.j (x:Nat)]=jE (xs.set i x):=by
 exact(avP ..).symm
theorem mJ.in{n:dL}{xs:N_}(h:mJ n xs):CP n xs:=⟨h.len,λi hi=>by
 have e:i<Z' xs:=by rw[h.len];exact hi
 have:=h.le i n.arcs[i] xs[i] (asZ hi) (asZ e);rw[tY hi]at this;rw[asW,asZ e];exact this⟩
theorem wh:∀{l:List dR}{xs:N_}(a:dR)(x w:Nat),Z' l=Z' xs->oM (l++[a]) (xs++[x]) w=oM l xs w+(if a.src=w then(x:Int)else 0)-(if a.dst=w then(x:Int)else 0)
 |[],[],a,x,w,_=>by show(if a.src=w then(x:Int)else 0)-(if a.dst=w then(x:Int)else 0)+0=0+(if a.src=w then(x:Int)else 0)-(if a.dst=w then(x:Int)else 0);omega
 |b::l,y::xs,a,x,w,h=>by rw[awD,awD,oM,oM,wh (l:=l) (xs:=xs) a x w (by simpa using h)];omega
def sY(n:dL)(xs:N_)(k w:Nat):Int:=oM (n.arcs.take k) (xs.take k) w
def HX(n:dL)(xs:N_)(k:Nat):I_:=(asP n.nodes).map (sY n xs k)
theorem wj{n:dL}{xs:N_}(l:CP n xs){k:Nat}(i:k<Z' n.arcs)(w:Nat):sY n xs (k+1) w=sY n xs k w+(if(dA n k).src=w then((xs.getD k 0:Nat):Int)else 0)-(if(dA n k).dst=w then((xs.getD k 0:Nat):Int)else 0):=by
 have e:k<Z' xs:=by rw[l.len];exact i
 unfold sY;rw[atW i,atW e,wh _ _ _ (by rw[atF,atF,l.len]),tY i];rw[asW,asZ e];rfl
theorem QC{n:dL}(l:lH n){xs:N_}(i:CP n xs)(w:Nat):∀(k:Nat),k<=Z' n.arcs->-((k:Int)*2147483647)<=sY n xs k w/\sY n xs k w<=(k:Int)*2147483647
 |0,_=>by have:sY n xs 0 w=0:=rfl;omega
 |k+1,h=>by have x:=QC l i w k Om;have e:k<Z' n.arcs:=Om;have y:=i.le k e;have u:=(l.ends _ (asS e)).2.2;rw[tY e]at u;rw[wj i e w];split<;>split<;>omega
theorem Sj(hc:∀n:dL,lH n->aH C 299 [.agg n.cells] .nil (aK (.bool true)))(n:dL)(M:lH n)(xs:N_)(hF:mJ n xs) :
  bg.wp C (aV oa.res (aK (.tup [.j (vN n xs),.bool true]))) (g_ [.agg n.cells,.sl 1 (jE xs)]) .nil:=by
 have N:=hF.in;have ο:=M.few;have hk:=M.num;have Z:(n.nodes:Int)*((8:Nat):Int)<=140737488355328:=Om;have β:(n.nodes:Int)<=9223372036854775807:=Om;have hl:(Z' xs:Int)=(Z' n.arcs:Nat):=by have:=N.len;omega
 have hz:asT n.nodes [PV.int .i64 0]=aM (HX n xs 0):=by refine List.ext_getElem? λi=>?_;unfold aM HX;rw[List.getElem?_replicate,atC,atC];by_cases l:i<n.nodes;rw[aF l,auT l];rfl;rw[aC l,auE (by simpa using l)];rfl
 simp only[go_sem,bg,oa];refine aD (hc n M) rfl ?_;simp only[go_sem,asO,cB hl,Z,β];refine aQ λb hb=>?_;simp only[go_sem];rw[hz];refine wp_loop (α:=Nat) (λk=>((((n_.set 1 (.sl 1 (jE xs))).set 2 (.aU n.cells)).set 6 (.osl b 1 0 n.nodes)).set 7 (.j (k:Nat)))) (λk=>h_.set b (.rows 1 (aM (HX n xs k)))) (λk=>k<=Z' n.arcs) (λk=>Z' n.arcs-k) 0 (asQ _) Lq (λ_ _ h=>h) ?_;intro k O;simp only[go_sem,asO];by_cases hlt:k<Z' n.arcs;have R:k<Z' xs:=by rw[N.len];exact hlt
 have E:(k:Int)<(Z' xs:Nat):=Om;obtain⟨e1,e2,e3⟩:=M.ends _ (asS hlt);rw[tY hlt]at e1 e2 e3;have ε:=N.le k hlt;have S:¬((xs.getD k 0:Nat):Int)<0:=Om;have U:¬((xs.getD k 0:Nat):Int)>((dA n k).cap:Int):=Om;have V:(((dA n k).src:Nat):Int)<(n.nodes:Nat):=Om;have W:(((dA n k).dst:Nat):Int)<(n.nodes:Nat):=Om;simp only[go_sem,E,qZ hlt];refine aQ λp hp=>?_;have F:¬p=b:=λe=>by rw[e,bK]at hp;cases hp
 have A:¬b=p:=λe=>F e.symm;simp only[go_sem,F,A];refine bE .nil cR a_ ?_;simp only[go_sem,F,A,mO R,S,U];obtain⟨r1,r2⟩:=QC M N (dA n k).src k O;obtain⟨r3,r4⟩:=QC M N (dA n k).dst k O;have J:=wj N hlt;have ξ:=ε;generalize μ:xs.getD k 0=x at *
 generalize ν:dA n k=a at *
 have B:∀(g:Nat->Int)(t:Nat),t<n.nodes->(aM ((asP n.nodes).map g))[t]?=some [.j (g t)]:=λg t ht=>by unfold aM;rw[atC,atC,auT ht];rfl
 let g1:Nat->Int:=λw=>sY n xs k w+(if a.src=w then(x:Int)else 0)
 have γ:g1 a.src=sY n xs k a.src+x:=by show _+(if a.src=a.src then(x:Int)else 0)=_;rw[aF rfl]
 have η:(aM (HX n xs k)).set a.src [.j (sY n xs k a.src+x)]=aM ((asP n.nodes).map g1):=by rw[iI];unfold HX;rw[qD (sY n xs k) g1 n.nodes a.src _ γ λv hv=>by show _+(if a.src=v then(x:Int)else 0)=_;rw[aC λe=>hv e.symm,Int.add_zero]]
 have θ:(aM ((asP n.nodes).map g1)).set a.dst [.j (g1 a.dst-x)]=aM (HX n xs (k+1)):=by rw[iI];unfold HX;rw[qD g1 (sY n xs (k+1)) n.nodes a.dst (g1 a.dst-x) (by rw[J,aF rfl]) λv hv=>by rw[J,aC (c:=a.dst=v) (λe=>hv e.symm),Int.sub_zero]]
 have X:(aM (HX n xs k))[a.src]?=some [.j (sY n xs k a.src)]:=B _ _ e1;have Y:(aM ((asP n.nodes).map g1))[a.dst]?=some [.j (g1 a.dst)]:=B _ _ e2;have ρ:g1 a.dst=sY n xs k a.dst\/g1 a.dst=sY n xs k a.dst+x:=by show _+(if a.src=a.dst then(x:Int)else 0)=_\/_+(if a.src=a.dst then(x:Int)else 0)=_;split;exact .inr rfl;exact .inl (Int.add_zero _)
 have ι:i_.wrap (sY n xs k a.src+(x:Int))=sY n xs k a.src+x:=wrap_i64 Om Om;have κ:i_.wrap (g1 a.dst-(x:Int))=g1 a.dst-x:=wrap_i64 Om Om;have D:=wZz k;have K:=mO R;rw[μ]at K;generalize g1=g2 at *
 refine bE .nil cR a_ ?_;simp only[go_sem,F,A,V,atA,X,K,ι,η];refine⟨a_,?_⟩;refine bE .nil cR a_ ?_;simp only[go_sem,F,A,W,atA,Y,K,κ,θ];refine⟨a_,?_⟩;simp only[go_sem,D];exact aE (k+1) hlt Om Lq (d_ a_ (by rw[bK]));have E:¬(k:Int)<(Z' xs:Nat):=Om;have δ:k=Z' n.arcs:=Om;subst δ;simp only[go_sem,E];have L:∀w,sY n xs n.arcs.length w=oM n.arcs xs w:=λw=>by unfold sY;rw[atP (asU _),atP (by rw[N.len];exact asU _)]
 have B:∀t,t<n.nodes->(aM (HX n xs n.arcs.length))[t]?=some [.j (oM n.arcs xs t)]:=λt ht=>by unfold aM HX;rw[atC,atC,auT ht,<-L];rfl
 refine wp_loop (α:=Nat) (λi=>((((n_.set 1 (.sl 1 (jE xs))).set 2 (.aU n.cells)).set 6 (.osl b 1 0 n.nodes)).set 9 (.j (i:Nat)))) (λ_=>h_.set b (.rows 1 (aM (HX n xs n.arcs.length)))) (λi=>i<=n.nodes) (λi=>n.nodes-i) 0 (asQ _) Lq (λ_ _ h=>h) ?_;intro i hi;simp only[go_sem];by_cases y:i<n.nodes;have u:(i:Int)<(n.nodes:Nat):=Om;have D:=wZz i;by_cases S:i=n.source;simp only[go_sem,u,cB (Om:((i:Nat):Int)=n.source),D];exact aE (i+1) y Om Lq (λ_ _ h=>h);by_cases U:i=n.sink;simp only[go_sem,u,cY (Om:¬((i:Nat):Int)=n.source),cB (Om:((i:Nat):Int)=n.sink),D];exact aE (i+1) y Om Lq (λ_ _ h=>h);have h0:=B i y;rw[hF.node i y S U]at h0;simp only[go_sem,u,cY (Om:¬((i:Nat):Int)=n.source),cY (Om:¬((i:Nat):Int)=n.sink),atA,h0,D];exact aE (i+1) y Om Lq (λ_ _ h=>h);have u:¬(i:Int)<(n.nodes:Nat):=Om;have hs:=M.source;have ζ:(n.source:Int)<(n.nodes:Nat):=Om;simp only[go_sem,u,ζ,atA,B n.source hs];refine eD ?_;rfl
theorem wp_cut{a c:aJ}{K:bP}[Up K]{F:PF}{H:PH}{α:Type}(w:α->PF)(Hs:α->PH)(P:α->Prop)(y:a.wp C (λe u H'=>e=.normal/\∃x,P x/\(w x).le u/\Hs x=H') F H)
  (A:∀x,P x->c.wp C K (w x) (Hs x)):a.wp C (gL C (c.wp C) K) F H:=by
 refine jL a (λe E J H' l D=>?_) (λi v h=>h) y;obtain⟨rfl,x,hp,B,rfl⟩:=D;exact jL c (λe F u H a h=>Up.up a h) (PF.le_trans B l) (A x hp)
def stO(m:Nat)(s:dJ):Int:=if s.2=true then(s.1:Int)else((m+s.1:Nat):Int)
abbrev oX(fo:Nat)(xs:N_):PH:=h_.set fo (.rows 1 (jE xs))
def Px(n:dL)(fo:Nat)(xs:N_)(r:PV)(H:PH):Prop:=
 ∃Q way,uR n xs Q way/\NL n xs Q Q.length/\r=.tup [.sl 1 (dE (seL n Q)),ints (byL (stO n.arcs.length) n Q way)]/\H=oX fo xs
theorem rR.new{n:dL}{xs:N_}{X:PH}{cd:dJ->Int}{b e:Nat}{a:RS}(h:rR n xs X cd b e a){p:Nat}(hp:a.H p=none)(y:aS):rR n xs X cd b e { a with H:=a.H.set p y }:=by
 have l:∀o x,a.H o=some x->(a.H.set p y) o=some x:=λo x i=>by rw[aO,aC (λe2=>by subst e2;rw[hp]at i;cases i)];exact i
 exact⟨h.seen,h.done,h.dk,h.k,λo x i=>l o x (h.base o x i),l _ _ h.hb,l _ _ h.he,h.hq.ext λx u=>l _ x u,h.ne⟩
theorem rR.box{n:dL}{xs:N_}{X:PH}{cd:dJ->Int}{b e:Nat}{a:RS}(h:rR n xs X cd b e a){p:Nat}(hp:a.H p=none)(y:aS):rR n xs (X.set p y) cd b e { a with H:=a.H.set p y }:=by
 have l:∀o x,a.H o=some x->(a.H.set p y) o=some x:=λo x i=>by rw[aO,aC (λe2=>by subst e2;rw[hp]at i;cases i)];exact i
 have hq:a.q≠p:=λe2=>by obtain⟨rs,off,_,u,_⟩:=h.hq;rw[e2,hp]at u;cases u
 refine⟨h.seen,h.done,h.dk,h.k,λo x i=>?_,l _ _ h.hb,l _ _ h.he,h.hq.ext λx w=>l _ x w,?_,h.ne.2⟩;show(a.H.set p y) o=some x;rw[aO]at i ⊢;by_cases e2:o=p;rw[aF e2]at i ⊢;exact i;rw[aC e2]at i ⊢;exact h.base o x i;rw[aO,aC hq];exact h.ne.1
theorem rR.unbox{n:dL}{xs:N_}{X:PH}{cd:dJ->Int}{b e:Nat}{a:RS}{p:Nat}{y:aS}(h:rR n xs (X.set p y) cd b e a)(hp:X p=none):rR n xs X cd b e a:=by
 have l:∀o x,X o=some x->(X.set p y) o=some x:=λo x i=>by rw[aO,aC (λe2=>by subst e2;rw[hp]at i;cases i)];exact i
 refine⟨h.seen,h.done,h.dk,h.k,λo x i=>h.base o x (l o x i),h.hb,h.he,h.hq,?_,h.ne.2⟩;have:=h.ne.1;rw[aO]at this;split at this;cases this;exact this
theorem afF{a1 a2 c:aJ}{K:bP}[Up K]{F:PF}{H:PH}{α:Type}(i:α->PF)(Hs:α->PH)(P:α->Prop)(u:a1.wp C (gL C (a2.wp C) (λe l H'=>e=.normal/\∃x,P x/\(i x).le l/\Hs x=H')) F H)
  (w:∀x,P x->c.wp C K (i x) (Hs x)):a1.wp C (gL C (a2.wp C) (gL C (c.wp C) K)) F H:=wp_cut (a:=.seq a1 a2) i Hs P u w
theorem Sg {C : Ctx} (n : dL) (hn : lH n) (fo : Nat) (xs : N_) (hx : CP n xs) :
    bc.wp C (aV n6.res (Px n fo xs)) (g_ [.agg n.cells, .osl fo 1 0 xs.length]) (oX fo xs) := by
  have hfew := hn.few;have hsrc := hn.source;have hmany := hn.num;have hb1 : (n.nodes : Int) * ((8 : Nat) : Int) <= 140737488355328 := Om;have hb2 : (n.nodes : Int) <= 9223372036854775807 := Om;have hb3 : (n.nodes : Int) * ((1 : Nat) : Int) <= 140737488355328 := Om;have hs1 : (n.source : Int) < (n.nodes : Nat) := Om;simp only[go_sem,bc,n6];refine bE .nil cR a_ ?_;simp only[go_sem,hb1,hb2,hb3];refine aQ fun e he => ?_;have e1 : ¬ fo = e := fun e0 => by rw [<- e0, bK] at he; cases he
  have e1' : ¬ e = fo := fun e0 => e1 e0.symm;simp only[go_sem,hb1,hb2,hb3];refine aQ fun b hb => ?_;have b1 : ¬ fo = b := fun e0 => by rw [<- e0, aO, aC e1, bK] at hb; cases hb
  have b2 : ¬ e = b := fun e0 => by rw [<- e0, bK] at hb; cases hb
  have b2' : ¬ b = e := fun e0 => b2 e0.symm;have hXb : (oX fo xs) b = none := by rw [aO, aC b2'] at hb; exact hb
  simp only[go_sem,b2,b2',hs1,List.getElem?_replicate,List.length_replicate,hsrc,atA];refine aQ fun q hq => ?_;have q3 : ¬ b = q := fun e0 => by rw [<- e0, aO, aC b2', bK] at hq; cases hq
  have q4 : ¬ e = q := fun e0 => by rw [<- e0, bK] at hq; cases hq
  have hXq : (oX fo xs) q = none := by rw [aO, aC (fun h => q4 h.symm), aO, aC (fun h => q3 h.symm), aO, aC (fun h => q4 h.symm)] at hq; exact hq
  have hfoX : (oX fo xs) fo = some (.rows 1 (jE xs)) := by rw [bK]
  simp only[go_sem];rw [U6 (stO n.arcs.length) n (fun _ => (0, true)), Ym];refine wp_loop (α := RS) (fun a => (((((n_.set 1 (.osl fo 1 0 xs.length)).set 2 (.aU n.cells)).set 6 (.osl e 1 0 n.nodes)).set 7 (.osl b 1 0 n.nodes)).set 8 (a.v))) (fun a => a.H) (fun a => rR n xs (oX fo xs) (stO n.arcs.length) b e a /\ a.d = a.k) (fun a => n.nodes - a.k)
    ⟨[n.source], 0, fun _ => (0, true), .osl q 1 0 1, q, ((((oX fo xs).set e (.rows 1 (asT n.nodes [.bool false]))).set b (.rows 1 (aM (byL (stO n.arcs.length) n [n.source] (fun _ => (0, true)))))).set e (.rows 1 (dE (seL n [n.source])))).set q (.rows 1 [[.j (n.source : Nat)]]), 0⟩
    ⟨⟨Oc hn xs _, Qp n xs _, asU _, asQ _, EP (EP (EP (EP (fun _ _ h => h) he) hXb) he) hXq,
      by rw [aO, aC q3, aO, aC b2', bK], by rw [aO, aC q4, bK], ⟨[[.j (n.source : Nat)]], 0, rfl, by rw [bK], by simp, rfl⟩, hXq, fun h => q3 h.symm, fun h => q4 h.symm⟩, rfl⟩ Lq (fun _ _ h => h) ?_
  rintro a ⟨hI, hdk⟩;obtain ⟨rs, off, hv, hq1, hq2, hq3⟩ := hI.hq;rw [asO, auU] at hv hq2 hq3;simp only[go_sem,hv];by_cases hk : a.k < a.Q.length
  · have c0 : ((a.Q.length - a.k : Nat) : Int) > 0 := Om
    have hc0 : (0 : Int) < ((a.Q.length - a.k : Nat) : Int) := c0;have hc1 : (1 : Int) <= ((a.Q.length - a.k : Nat) : Int) := Om;have hrs : rs[off]? = some [.j ((a.Q[a.k] : Nat) : Int)] := by
      have h5 : ((rs.drop off).take (a.Q.length - a.k))[0]? = (jE (a.Q.drop a.k))[0]? := by rw [hq3]
      rw [awI, aF Om, awM, auI, atC, awM, auI, asZ hk] at h5;exact h5
    simp only[go_sem,c0,hc0,hq1,auI,hrs,hc1,Int.le_refl];have hkn := i5 hI.seen;have hI0 : rR n xs (oX fo xs) (stO n.arcs.length) b e ⟨a.Q, a.k + 1, a.way, .osl a.q 1 (off + 1) (a.Q.length - a.k - 1), a.q, a.H, a.d⟩ := by
      have hfl : (jE (a.Q.drop (a.k + 1))).length = a.Q.length - a.k - 1 := by rw [asO, auU, Nat.sub_sub]
      refine ⟨hI.seen, hI.done, Nat.le_succ_of_le hI.dk, hk, hI.base, hI.hb, hI.he, ⟨rs, off + 1, by rw [hfl], hq1, by rw [hfl]; omega, ?_⟩, hI.ne⟩;rw [hfl];have h7 := congrArg (List.drop 1) hq3;rw [List.drop_take, List.drop_drop] at h7;rw [h7];show List.drop 1 (List.map _ _) = _;rw [<- List.map_drop, List.drop_drop]
    refine wp_loop (α := RS × Nat) (fun c => (((((((n_.set 1 (.osl fo 1 0 xs.length)).set 2 (.aU n.cells)).set 6 (.osl e 1 0 n.nodes)).set 7 (.osl b 1 0 n.nodes)).set 8 (c.1.v)).set 9 (.j ((a.Q[a.k] : Nat) : Int))).set 10 (.j (c.2 : Nat)))) (fun c => c.1.H)
      (fun c => rR n xs (oX fo xs) (stO n.arcs.length) b e c.1 /\ c.1.d = a.k /\ c.1.k = a.k + 1 /\ c.1.Q[a.k]? = some a.Q[a.k] /\ c.2 <= n.arcs.length /\ ∀ s : dJ, s.1 < c.2 -> fA n s = a.Q[a.k] -> 0 < iO n xs s -> jV n s ∈ c.1.Q) (fun c => n.arcs.length - c.2) (⟨a.Q, a.k + 1, a.way, .osl a.q 1 (off + 1) (a.Q.length - a.k - 1), a.q, a.H, a.d⟩, 0)
      ⟨hI0, hdk, rfl, asZ hk, asQ _, fun s h => by omega⟩ Lq (fun _ _ h => h) ?_
    rintro ⟨a', j⟩ ⟨hI', hd', hk', hQk, hj, asH⟩;dsimp only at hI' hd' hk' hQk hj asH;simp only[go_sem,asO];by_cases hlt : j < n.arcs.length
    · have arI : (j : Int) < (n.arcs.length : Nat) := Om
      have hjx : j < xs.length := by rw [hx.len]; exact hlt
      have hjx' : (j : Int) < (xs.length : Nat) := Om;have hm := hn.num;obtain ⟨z1, z2, z3⟩ := hn.ends _ (asS hlt);rw [tY hlt] at z1 z2 z3;have z1' : (((dA n j).src : Nat) : Int) < (n.nodes : Nat) := Om;have z2' : (((dA n j).dst : Nat) : Int) < (n.nodes : Nat) := Om;have hxle := hx.le j hlt;have hjw := wZz j;have hmw : i_.wrap ((n.arcs.length : Int) + (j : Int)) = ((n.arcs.length + j : Nat) : Int) := by rw [wrap_i64 Om Om]; omega
      have hwQ : a.Q[a.k] ∈ a'.Q := auZ hQk;simp only[go_sem,arI,qZ hlt];refine aQ fun p hp => ?_;have hXp : (oX fo xs) p = none := by
        cases hxp : (oX fo xs) p with
        | none => rfl
        | some y => rw [hI'.base _ _ hxp] at hp; cases hp
      have p1 : ¬ p = fo := fun e0 => by rw [e0, hfoX] at hXp; cases hXp
      have p1' : ¬ fo = p := fun e0 => p1 e0.symm;have p2 : ¬ p = e := fun e0 => by rw [e0, hI'.he] at hp; cases hp
      have p2' : ¬ e = p := fun e0 => p2 e0.symm;have p3 : ¬ p = b := fun e0 => by rw [e0, hI'.hb] at hp; cases hp
      have p3' : ¬ b = p := fun e0 => p3 e0.symm;simp only[go_sem];have hI1 := hI'.box hp (.rows 4 [(dA n j).cells]);have hQk1 : ({ a' with H := a'.H.set p (.rows 4 [(dA n j).cells]) } : RS).Q[a.k]? = some a.Q[a.k] := hQk;have hd1 : ({ a' with H := a'.H.set p (.rows 4 [(dA n j).cells]) } : RS).d = a.k := hd';have hk1 : ({ a' with H := a'.H.set p (.rows 4 [(dA n j).cells]) } : RS).k = a.k + 1 := hk';have hX1 : ((oX fo xs).set p (.rows 4 [(dA n j).cells])) b = none /\ ((oX fo xs).set p (.rows 4 [(dA n j).cells])) e = none /\ ¬ b = e := ⟨by rw [aO, aC p3']; exact hXb, by rw [aO, aC p2']; exact he, b2'⟩;have hQs : ∀ Q : N_, Q[a.k]? = some a.Q[a.k] -> ∀ t, (Q ++ [t])[a.k]? = some a.Q[a.k] := fun Q h t => by obtain ⟨l1, l2⟩ := atX.1 h;rw [avM l1]; exact h
      have hsrcQ : ∀ c : RS, rR n xs ((oX fo xs).set p (.rows 4 [(dA n j).cells])) (stO n.arcs.length) b e c -> n.source ∈ c.Q := fun c h => by obtain ⟨t, ht⟩ := h.seen.first; rw [ht]; simp
      refine afF (α := RS) (fun c => ((((((((n_.set 1 (.osl fo 1 0 xs.length)).set 2 (.aU n.cells)).set 6 (.osl e 1 0 n.nodes)).set 7 (.osl b 1 0 n.nodes)).set 8 (c.v)).set 9 (.j ((a.Q[a.k] : Nat) : Int))).set 10 (.j (j : Nat))).set 11 (.ptr p 4 0 0))) (fun c => c.H)
        (fun c => rR n xs ((oX fo xs).set p (.rows 4 [(dA n j).cells])) (stO n.arcs.length) b e c /\ c.d = a.k /\ c.k = a.k + 1 /\ c.Q[a.k]? = some a.Q[a.k] /\ (∀ v ∈ a'.Q, v ∈ c.Q) /\ ((dA n j).src = a.Q[a.k] -> xs.getD j 0 < (dA n j).cap -> (dA n j).dst ∈ c.Q)) ?_ ?_
      · have hel : (dA n j).dst < (seL n a'.Q).length := by rw [YX]; exact z2
        have hbl : (dA n j).dst < (byL (stO n.arcs.length) n a'.Q a'.way).length := by rw [sw]; exact z2
        have hbr := rB hel;rw [ud z2] at hbr;have hir := rC hbl;by_cases c1 : (dA n j).src = a.Q[a.k]
        · have c1' : ((((dA n j).src : Nat) : Int) == ((a.Q[a.k] : Nat) : Int)) = true := bR Om
          cases hc : a'.Q.contains (dA n j).dst with
          | true =>rw [hc] at hbr;refine bE .nil cR a_ ?_;simp only[go_sem,c1',p2,p2',z2',hI'.he,atA,hbr];exact ⟨_, ⟨hI1, hd1, hk1, hQk1, fun _ h => h, fun _ _ => avX.1 hc⟩, by exact Lq, rfl⟩
          | false =>
            rw [hc] at hbr;have hnin : (dA n j).dst ∉ a'.Q := fun h => by rw [avX.2 h] at hc; cases hc
            by_cases c3 : xs.getD j 0 < (dA n j).cap
            · have c3' : ((xs.getD j 0 : Nat) : Int) < ((dA n j).cap : Int) := Om
              have hs1 : (aM (byL (stO n.arcs.length) n a'.Q a'.way)).set (dA n j).dst [.j (j : Int)] = aM (byL (stO n.arcs.length) n (a'.Q ++ [(dA n j).dst]) (IS a'.way (dA n j).dst (j, true))) := by rw [iI]; exact congrArg aM (I3 (s := (j, true)) (by obtain ⟨t, ht⟩ := hI'.seen.first; rw [ht]; simp) hnin)
              refine bE .nil cR a_ ?_;simp only[go_sem,c1',p2,p2',z2',hI'.he,atA,hbr,p1,p1',hI'.base _ _ hfoX,hjx',mO hjx,c3'];refine bE (h_.set p (.rows 4 [(dA n j).cells])) cR (d_ a_ (by rw [bK])) ?_;simp only[go_sem,p2,p2',z2',hI'.he,atA,hbr];refine ⟨d_ a_ (by rw [aO, aC p2, bK]), ?_⟩;refine bE .nil cR a_ ?_;simp only[go_sem,b2,b2',p3,p3',hI'.hb,atA,hir,hs1,kB,Kc];refine ⟨a_, ?_⟩;simp only[go_sem,p2,p2',p3,p3'];refine rR.step hn hI1 hX1 (s := (j, true)) hlt (by rw [show fA n (j, true) = (dA n j).src from rfl, c1]; exact hwQ) hnin (by show 0 < (dA n j).cap - xs.getD j 0; omega) fun a2 g1 g2 g3 g4 => ?_;exact ⟨a2, ⟨g1, g4.trans hd', g3.trans hk', by rw [g2]; exact hQs _ hQk _, fun v h => by rw [g2]; exact List.mem_append_left _ h, fun _ _ => by rw [g2]; exact List.mem_append_right _ (auB.2 rfl)⟩, by exact Lq, rfl⟩
            · have c3' : ¬ ((xs.getD j 0 : Nat) : Int) < ((dA n j).cap : Int) := Om
              refine bE .nil cR a_ ?_;simp only[go_sem,c1',p2,p2',z2',hI'.he,atA,hbr,p1,p1',hI'.base _ _ hfoX,hjx',mO hjx,c3'];exact ⟨_, ⟨hI1, hd1, hk1, hQk1, fun _ h => h, fun _ h => absurd h c3⟩, by exact Lq, rfl⟩
        · have c1' : ((((dA n j).src : Nat) : Int) == ((a.Q[a.k] : Nat) : Int)) = false := bH Om
          refine bE .nil cR a_ ?_;simp only[go_sem,c1'];exact ⟨_, ⟨hI1, hd1, hk1, hQk1, fun _ h => h, fun h => absurd h c1⟩, by exact Lq, rfl⟩
      · rintro a2 ⟨hI2, hd2, hk2, hQk2, hup, hf⟩
        have hpp : a2.H p = some (.rows 4 [(dA n j).cells]) := hI2.base _ _ (by rw [bK]);have hfo2 : a2.H fo = some (.rows 1 (jE xs)) := hI2.base _ _ (by rw [aO, aC p1']; exact hfoX);have hel : (dA n j).src < (seL n a2.Q).length := by rw [YX]; exact z1
        have hbl : (dA n j).src < (byL (stO n.arcs.length) n a2.Q a2.way).length := by rw [sw]; exact z1
        have hbr := rB hel;rw [ud z1] at hbr;have hir := rC hbl;have hend : ∀ c : RS, rR n xs ((oX fo xs).set p (.rows 4 [(dA n j).cells])) (stO n.arcs.length) b e c -> (∀ v ∈ a2.Q, v ∈ c.Q) -> ((dA n j).dst = a.Q[a.k] -> 0 < xs.getD j 0 -> (dA n j).src ∈ c.Q) -> ∀ s : dJ, s.1 < j + 1 -> fA n s = a.Q[a.k] -> 0 < iO n xs s -> jV n s ∈ c.Q := fun c _ g2 g3 s g4 g5 g6 => by
          rcases atY s.1 j with h | h
          · exact g2 _ (hup _ (asH s h g5 g6))
          · obtain ⟨i, bb⟩ := s
            have hij : i = j := by have : i < j + 1 := g4; have : j <= i := h; omega
            subst hij;cases bb with
            | true => exact g2 _ (hf g5 (by have : 0 < (dA n i).cap - xs.getD i 0 := g6; omega))
            | false => exact g3 g5 g6
        by_cases c1 : (dA n j).dst = a.Q[a.k]
        · have c1' : ((((dA n j).dst : Nat) : Int) == ((a.Q[a.k] : Nat) : Int)) = true := bR Om
          cases hc : a2.Q.contains (dA n j).src with
          | true =>rw [hc] at hbr;simp only[go_sem,c1',hpp,z1',hI2.he,atA,hbr,hjw];exact aE (a2, j + 1) ⟨hI2.unbox hXp, hd2, hk2, hQk2, hlt, hend a2 hI2 (fun _ h => h) fun _ _ => avX.1 hc⟩ (by dsimp only; omega) Lq (fun _ _ h => h)
          | false =>
            rw [hc] at hbr;have hnin : (dA n j).src ∉ a2.Q := fun h => by rw [avX.2 h] at hc; cases hc
            by_cases c3 : 0 < xs.getD j 0
            · have c3' : ((xs.getD j 0 : Nat) : Int) > 0 := Om
              have hs1 : (aM (byL (stO n.arcs.length) n a2.Q a2.way)).set (dA n j).src [.j ((n.arcs.length + j : Nat) : Int)] = aM (byL (stO n.arcs.length) n (a2.Q ++ [(dA n j).src]) (IS a2.way (dA n j).src (j, false))) := by rw [iI]; exact congrArg aM (I3 (s := (j, false)) (hsrcQ _ hI2) hnin)
              simp only[go_sem,c1',hpp,z1',hI2.he,atA,hbr,hfo2,hjx',mO hjx,c3'];refine bE (h_.set p (.rows 4 [(dA n j).cells])) cR (d_ a_ hpp) ?_;simp only[go_sem,p2,p2',hpp,z1',hI2.he,atA,hbr,asO,hmw];refine ⟨d_ a_ (by rw [aO, aC p2]; exact hpp), ?_⟩;refine bE .nil cR a_ ?_;simp only[go_sem,b2,b2',p3,p3',hI2.hb,atA,hir,hs1,kB,Kc];refine ⟨a_, ?_⟩;simp only[go_sem,p2,p2',p3,p3',hpp];refine rR.step hn hI2 hX1 (s := (j, false)) hlt (by rw [show fA n (j, false) = (dA n j).dst from rfl, c1]; exact auZ hQk2) hnin c3 fun a3 g1 g2 g3 g4 => ?_;simp only[go_sem,hjw];exact aE (a3, j + 1) ⟨g1.unbox hXp, g4.trans hd2, g3.trans hk2, by rw [g2]; exact hQs _ hQk2 _, hlt, hend a3 g1 (fun v h => by rw [g2]; exact List.mem_append_left _ h) fun _ _ => by rw [g2]; exact List.mem_append_right _ (auB.2 rfl)⟩ (by dsimp only; omega) Lq (fun _ _ h => h)
            · have c3' : ¬ ((xs.getD j 0 : Nat) : Int) > 0 := Om
              simp only[go_sem,c1',hpp,z1',hI2.he,atA,hbr,hfo2,hjx',mO hjx,c3',hjw];exact aE (a2, j + 1) ⟨hI2.unbox hXp, hd2, hk2, hQk2, hlt, hend a2 hI2 (fun _ h => h) fun _ h => absurd h c3⟩ (by dsimp only; omega) Lq (fun _ _ h => h)
        · have c1' : ((((dA n j).dst : Nat) : Int) == ((a.Q[a.k] : Nat) : Int)) = false := bH Om
          simp only[go_sem,c1',hpp,hjw];exact aE (a2, j + 1) ⟨hI2.unbox hXp, hd2, hk2, hQk2, hlt, hend a2 hI2 (fun _ h => h) fun h => absurd h c1⟩ (by dsimp only; omega) Lq (fun _ _ h => h)
    · have arI : ¬ (j : Int) < (n.arcs.length : Nat) := Om
      have hdn : NL n xs a'.Q (a.k + 1) := Qo (by rw [<- hd']; exact hI'.done) hQk fun s g1 g2 g3 => asH s Om g2 g3;have hsl := i5 hI'.seen;obtain ⟨l1, l2⟩ := atX.1 hQk;simp only[go_sem,arI];exact aE { a' with d := a.k + 1 } ⟨⟨hI'.seen, hdn, by show a.k + 1 <= a'.k; omega, hI'.k, hI'.base, hI'.hb, hI'.he, hI'.hq, hI'.ne⟩, hk'.symm⟩ (by show n.nodes - a'.k < n.nodes - a.k; omega) Lq (fun _ _ h => h)
  · have c0 : ¬ ((a.Q.length - a.k : Nat) : Int) > 0 := Om
    have hkk : a.k = a.Q.length := by have := hI.k; omega
    simp only[go_sem,c0];refine pE (vs := [.osl e 1 0 n.nodes, .osl b 1 0 n.nodes]) (.inr rfl) rfl ?_;refine Q5 (H2 := oX fo xs) hI.he hI.hb b2' (Flat.map _ fun x c hc q s rs => by rw [auB] at hc; subst hc; rfl) (by rw [yP, YX]) (by unfold aM; rw [asO, sw]) ?_ ⟨a.Q, a.way, hI.seen, by rw [<- hkk, <- hdk]; exact hI.done, rfl, rfl⟩;have flx : Flat (jE xs) := Flat.map xs fun x c hc q s rs => by rw [auB] at hc;subst hc;rfl
    exact d_ a_ (du (du (hI.base _ _ hfoX) e1 (dt flx 1)) b1 (dt flx 1))
theorem P5{cd:dJ->Int}{n:dL}{Q:N_}{way:Nat->dJ}{v:Nat}(h:v<n.nodes)(i:v∈Q)(e:v≠n.source):((byL cd n Q way).map λx=>[PV.int .i64 x])[v]?=some [.j (cd (way v))]:=by
 unfold byL;rw[atC,atC,auT h,atO,atO,aF ⟨i,e⟩]
def Py(n:dL)(r:PV)(H:PH):Prop:=
 ∃xs S,mJ n xs/\vN n xs=mD S n.arcs/\S n.source=true/\S n.sink=false/\r=.tup [.sl 1 (jE xs),.int .i64 (vN n xs),.sl 1 (dE ((asP n.nodes).map S)),.int .i64 0]/\H=h_
def agH(n:dL):Nat:=mD (λv=>decide (v=n.source)) n.arcs
theorem Zk{n:dL}(i:lH n){xs:N_}(h:mJ n xs):vN n xs<=agH n:=h.ahC i aZ (by simpa using λe=>i.apart e.symm)
theorem Nu(m:Nat):asT m [PV.int .i64 0]=jE (asT m 0):=by
 show _=List.map _ (asT m 0);rw[List.map_replicate];rfl
theorem Sh(S:∀n:dL,lH n->aH C 299 [.agg n.cells] .nil (aK (.bool true)))
  (U:∀(n:dL)(xs:N_),lH n->mJ n xs->aH C 300 [.agg n.cells,.sl 1 (jE xs)] .nil (aK (.tup [.j (vN n xs),.bool true])))
  (O:∀(n:dL)(fo:Nat)(xs:N_),lH n->CP n xs->aH C 302 [.agg n.cells,.osl fo 1 0 n.arcs.length] (oX fo xs) (Px n fo xs))
  (n:dL) (y:lH n):be.wp C (aV HW.res (Py n)) (g_ [.agg n.cells]) .nil:=by
 have hm:=y.num;have ο:(Z' n.arcs:Int)*((8:Nat):Int)<=140737488355328:=Om;have ρ:(Z' n.arcs:Int)<=9223372036854775807:=Om;have Θ:(n.sink:Int)<(n.nodes:Nat):=by have:=y.sink;omega
 simp only[go_sem,be,HW];refine aD (S n y) rfl ?_;simp only[go_sem,asO,ο,ρ];refine aQ λfo ω=>?_;simp only[go_sem];rw[Nu];refine wp_loop (α:=N_) (λ_=>((n_.set 1 (.aU n.cells)).set 6 (.osl fo 1 0 n.arcs.length))) (λxs=>oX fo xs) (λxs=>mJ n xs) (λxs=>(agH n-vN n xs).toNat) (asT n.arcs.length 0) (Q2 n).1 Lq (λ_ _ h=>h) ?_;intro xs Z;have hx:=Z.in;have κ:=Z.len;simp only[go_sem];refine iL (O n fo xs y hx) rfl (λ_ _ h=>h) ?_;rintro r H' ⟨Q,way,W,hD,rfl,rfl⟩ -;rw[PH.over_self _ (λ_ _ h=>h)];have F:=rB (R:=seL n Q) (i:=n.sink) (by rw[YX];exact y.sink);rw[ud y.sink]at F;cases hc:Q.contains n.sink with
 |false=>
  rw[hc]at F;simp only[go_sem,F];have ι:n.sink ∉ Q:=λh=>by rw[avX.2 h]at hc;cases hc
  have hT:(jE xs).take n.arcs.length=jE xs:=atP (by rw[asO,κ];exact asU _);have θ:Z' n.arcs<=Z' xs:=Om;refine uG (o:=fo) (s:=1) (rs:=jE xs) (U n xs y Z) Sq (by simp only[go_sem,hT,θ];rfl) ?_;simp only[go_sem,hT,θ];refine bM (vs:=[.sl 1 (jE xs),.j (vN n xs),.sl 1 (dE (seL n Q)),.j 0]) (.inr rfl) .nil rfl a_ ⟨xs,λv=>Q.contains v,Z,Yp y Z W hD ι,?_,hc,rfl,rfl⟩;obtain⟨t,ht⟩:=W.first;rw[ht];simp
 |true=>
  rw[hc]at F;have J:n.sink∈Q:=avX.1 hc;simp only[go_sem,F];obtain⟨L0,ζ,-⟩:=P3 W _ n.sink rfl J;refine wp_loop (α:=Nat × List dJ × List dJ × Int) (λc=>(((((n_.set 1 (.aU n.cells)).set 6 (.osl fo 1 0 n.arcs.length)).set 8 (ints (byL (stO n.arcs.length) n Q way))).set 11 (.j c.2.2.2)).set 12 (.j (c.1:Nat)))) (λ_=>oX fo xs)
   (λc=>c.1∈Q/\BA n Q way c.1 c.2.1/\c.2.2.1++c.2.1=L0/\0<c.2.2.2/\c.2.2.2<=2147483647/\∀s∈c.2.2.1,c.2.2.2<=iO n xs s) (λc=>c.2.1.length) (n.sink,L0,[],2147483647)
   ⟨J,ζ,rfl,(show(0:Int)<2147483647 by decide),(show(2147483647:Int)<=2147483647 by decide),λs h=>by cases h⟩ Lq (λ_ _ h=>h) ?_
  rintro⟨v,L,P,z⟩ ⟨hv,hB,M,δ,φ,ε⟩;dsimp only at hv hB M δ φ ε;have υ:=W.lt v hv;have Ξ:(v:Int)<(n.nodes:Nat):=Om;simp only[go_sem];by_cases V:v=n.source;have hL:L=[]:=by
   cases hB with
   |nil=>rfl
   |cons _ h _=>exact absurd V h
  subst hL;rw[auA]at M;subst M;have N:(v:Int)=n.source:=Om;obtain⟨e,rfl⟩:∃e:Nat,z=e:=⟨z.toNat,by omega⟩;simp only[go_sem,cB N];refine wp_loop (α:=Nat × List dJ × N_) (λc=>(((((n_.set 1 (.aU n.cells)).set 6 (.osl fo 1 0 n.arcs.length)).set 8 (ints (byL (stO n.arcs.length) n Q way))).set 11 (.j (e:Nat))).set 14 (.j (c.1:Nat)))) (λc=>oX fo c.2.2)
   (λc=>c.1∈Q/\BA n Q way c.1 c.2.1/\j6 n xs c.2.2 e c.1 c.2.1/\∀s∈c.2.1,e<=iO n xs s) (λc=>c.2.1.length) (n.sink,P,xs)
   ⟨J,ζ,Rw Z e P,λs hs=>by have:=ε s hs;omega⟩ Lq (λ_ _ h=>h) ?_
  rintro⟨u,L,ys⟩ ⟨hu,D,hM,w⟩;dsimp only at hu D hM w;simp only[go_sem];have τ:=W.lt u hu;have Λ:(u:Int)<(n.nodes:Nat):=Om;by_cases K:u=n.source;have hL:L=[]:=by
   cases D with
   |nil=>rfl
   |cons _ h _=>exact absurd K h
  subst hL;subst K;obtain⟨k1,k2⟩:=W9 y Z hM;have ψ:=Zk y k1;simp only[go_sem,cB (show(n.source:Int)=n.source from rfl)];exact aE ys k1 Om Lq (λ_ _ h=>h)
  ·have η:¬(u:Int)=n.source:=Om;have ξ:=D;cases D with
   |nil=>exact absurd rfl K
   |@cons _ L _ _ D=>
   have σ:=w _ (axA ..);obtain⟨g1,g2,g3⟩:=Xa W hM ξ hu σ;obtain⟨s1,s2,s3,s4,s5⟩:=W.way u hu K;have γ:=hM.same _ (axA ..);have E:=P5 (cd:=stO n.arcs.length) (way:=way) τ hu K;generalize hs:way u=s at *
   obtain⟨i,bb⟩:=s;have s1:i<Z' n.arcs:=s1;have ν:i<Z' ys:=by rw[hM.len];exact s1
   have μ:(i:Int)<(Z' n.arcs:Nat):=Om;have χ:=room_le y hx (s:=(i,bb)) s1;have B:=hx.le i s1;have l:=(y.ends _ (asS s1)).2.2;rw[tY s1]at l;dsimp only at γ;have X:∀s∈L,e<=iO n xs s:=λs hs=>w s (awN _ hs);cases bb with
   |true=>
    have Y:stO n.arcs.length (i,true)=(i:Int):=rfl;have hp:push e ys (i,true)=ys.set i (ys.getD i 0+e):=rfl;have e2:iO n xs (i,true)=(dA n i).cap-xs.getD i 0:=rfl;have ew:i_.wrap (((ys.getD i 0:Nat):Int)+((e:Nat):Int))=((ys.getD i 0+e:Nat):Int):=wO_
    simp only[go_sem,cY η,E,Y,asO,μ,mO ν,atA,ew,xc,PH.set_set,qZ s1];rw[<-hp];exact aE (fA n (i,true),L,push e ys (i,true)) ⟨g1,g2,g3,X⟩ aZ Lq (λ_ _ h=>h)
   |false=>
    have Y:stO n.arcs.length (i,false)=((Z' n.arcs+i:Nat):Int):=rfl;have hp:push e ys (i,false)=ys.set i (ys.getD i 0-e):=rfl;have e2:iO n xs (i,false)=xs.getD i 0:=rfl;have β:¬((Z' n.arcs+i:Nat):Int)<(Z' n.arcs:Nat):=Om;have ei:i_.wrap (((Z' n.arcs+i:Nat):Int)-(Z' n.arcs:Int))=(i:Int):=wO_
    have ew:i_.wrap (((ys.getD i 0:Nat):Int)-((e:Nat):Int))=((ys.getD i 0-e:Nat):Int):=wO_
    simp only[go_sem,cY η,E,Y,asO,β];refine bE .nil cR a_ ?_;simp only[go_sem,asO,ei,μ,mO ν,atA,ew,xc,PH.set_set];rw[<-hp];refine⟨a_,?_⟩;simp only[go_sem,asO,ei,qZ s1];exact aE (fA n (i,false),L,push e ys (i,false)) ⟨g1,g2,g3,X⟩ aZ Lq (λ_ _ h=>h)
  ·have N:¬(v:Int)=n.source:=Om;cases hB with
   |nil=>exact absurd rfl V
   |@cons _ L _ _ hB=>
   obtain⟨s1,s2,s3,s4,s5⟩:=W.way v hv V;have E:=P5 (cd:=stO n.arcs.length) (way:=way) υ hv V;have Δ:=room_le y hx s1;have x:∀z2:Int,0<z2->z2<=z->z2<=iO n xs (way v)->fA n (way v)∈Q/\BA n Q way (fA n (way v)) L/\(P++[way v])++L=L0/\0<z2/\z2<=2147483647/\∀s∈P++[way v],z2<=iO n xs s:=λz2 h0 h1 h2=>
    ⟨s4,hB,by rw[atV];exact M,h0,by omega,λs hs=>by
     rcases auC.1 hs with g|g
     have:=ε s g;omega;rw[auB]at g;subst g;exact h2⟩
   generalize hs:way v=s at *
   obtain⟨i,bb⟩:=s;have s1:i<Z' n.arcs:=s1;have A:i<Z' xs:=by rw[κ];exact s1
   have B:(i:Int)<(Z' n.arcs:Nat):=Om;have Γ:=hx.le i s1;have l:=(y.ends _ (asS s1)).2.2;rw[tY s1]at l;cases bb with
   |true=>
    have Y:stO n.arcs.length (i,true)=(i:Int):=rfl;have e2:iO n xs (i,true)=(dA n i).cap-xs.getD i 0:=rfl;have ew:i_.wrap (((dA n i).cap:Int)-((xs.getD i 0:Nat):Int))=((iO n xs (i,true):Nat):Int):=by rw[wrap_i64 Om Om,e2];omega
    simp only[go_sem,cY N,E,Y,asO,B];refine bE .nil cR a_ ?_;by_cases hlt:((iO n xs (i,true):Nat):Int)<z;simp only[go_sem,qZ s1,B,mO A,atA,ew,hlt];exact aE (fA n (i,true),L,P++[(i,true)],((iO n xs (i,true):Nat):Int)) (x ((iO n xs (i,true):Nat):Int) Om Om (Int.le_refl _)) aZ Lq (λ_ _ h=>h);simp only[go_sem,qZ s1,B,mO A,atA,ew,hlt];exact aE (fA n (i,true),L,P++[(i,true)],z) (x z δ (Int.le_refl _) Om) aZ Lq (λ_ _ h=>h)
   |false=>
    have Y:stO n.arcs.length (i,false)=((Z' n.arcs+i:Nat):Int):=rfl;have e2:iO n xs (i,false)=xs.getD i 0:=rfl;have β:¬((Z' n.arcs+i:Nat):Int)<(Z' n.arcs:Nat):=Om;have ei:i_.wrap (((Z' n.arcs+i:Nat):Int)-(Z' n.arcs:Int))=(i:Int):=wO_
    simp only[go_sem,cY N,E,Y,asO,β];refine bE .nil cR a_ ?_;by_cases hlt:((xs.getD i 0:Nat):Int)<z;simp only[go_sem,asO,ei,qZ s1,B,mO A,atA,hlt];exact aE (fA n (i,false),L,P++[(i,false)],((xs.getD i 0:Nat):Int)) (x ((xs.getD i 0:Nat):Int) Om Om (Int.le_refl _)) aZ Lq (λ_ _ h=>h);simp only[go_sem,asO,ei,qZ s1,B,mO A,atA,hlt];exact aE (fA n (i,false),L,P++[(i,false)],z) (x z δ (Int.le_refl _) Om) aZ Lq (λ_ _ h=>h)
theorem aN.aaF{H:PH}{B:List BX}{L:List LI}(h:aN H B L):∀N:Nat,aN H B (L++asT N (.aG,1,[]))
 |0=>by rw[List.replicate_zero,auA];exact h
 |N+1=>by rw[List.replicate_succ',<-atV];exact(h.aaF N).lE 1
structure cz(n:dL)(T:dJ->Prop)(c:Nat)(ws:L2_):Prop where
 len:Z' ws=n.nodes
 all:∀s:dJ,T s->stI s∈ws.getD (fA n s) []
 only:∀v c,c∈ws.getD v []->∃s:dJ,T s/\fA n s=v/\c=stI s
 few:∀v,(ws.getD v []).length<=c
theorem cz.add{n:dL}{T:dJ->Prop}{c:Nat}{l:L2_}(h:cz n T c l){s0:dJ}(u:fA n s0<n.nodes) :
  cz n (λs=>T s\/s=s0) (c+1) (l.set (fA n s0) (l.getD (fA n s0) []++[stI s0])):=by
 have D:fA n s0<Z' l:=by rw[h.len];exact u
 have i:∀v,(l.set (fA n s0) (l.getD (fA n s0) []++[stI s0])).getD v []=if v=fA n s0 then l.getD v []++[stI s0]else l.getD v []:=λv=>by rw[asW,avY];by_cases e:v=fA n s0;subst e;rw[aF rfl,aF D,aF rfl];rfl;rw[aC (λe2=>e e2.symm),aC e,<-asW]
 refine⟨by rw[auD];exact h.len,λs u=>?_,λv x w=>?_,λv=>?_⟩;rw[i];rcases u with u|rfl
 split;exact List.mem_append_left _ (h.all s u);exact h.all s u;rw[aF rfl];simp;rw[i]at w;split at w;rename_i e;rcases auC.1 w with g|g
 obtain⟨s,y,A,B⟩:=h.only v x g;exact⟨s,.inl y,A,B⟩;rw[auB]at g;exact⟨s0,.inr rfl,e.symm,g⟩;obtain⟨s,y,A,B⟩:=h.only v x w;exact⟨s,.inl y,A,B⟩;have:=h.few v;rw[i];split;rw[asX,atD];omega;omega
theorem cz.zero(n:dL):cz n (λs=>s.1<0) 0 (asT n.nodes []):=by
 have:∀v,(asT n.nodes ([]:I_)).getD v []=[]:=λv=>by rw[asW,List.getElem?_replicate];split<;>rfl
 exact⟨by simp,λs i=>absurd i (Nat.not_lt_zero _),λv c e=>(by rw[this]at e;cases e),λv=>by rw[this];exact asU _⟩
theorem cz.ok{n:dL}(i:lH n){e:L2_}(h:cz n (λs=>s.1<Z' n.arcs) (2*Z' n.arcs) e):ajU n e:=
 ⟨h.len,h.all,h.only,λv=>by have:=h.few v;have:=i.num;omega⟩
theorem afD(ps:WPs)(i:Nat)(p:PV × I_):wls (ps.set i p)=(wls ps).set i p.2:=avP ..
theorem afC{ps:WPs}{i:Nat}{p:PV × I_}(h:ps[i]?=some p):(wls ps).getD i []=p.2:=by
 unfold wls;rw[asW,atC,h];rfl

def pZ(f:aB)(l:List dR)(xs:N_)(k:Nat):L2_:=(asP f.arD.length).map λv=>qW f v (l.take k) (xs.take k)
theorem Dh(f:aB)(l:List dR)(xs:N_)(k:Nat):(pZ f l xs k).length=Z' f.arD:=by simp[pZ]
theorem Rh(f:aB)(l:List dR)(xs:N_):pZ f l xs 0=asT f.arD.length []:=by
 refine avL (by simp[pZ]) λi e u=>?_;simp[pZ,qW]
theorem Wo{f:aB}{l:List dR}{xs:N_}(h:Z' xs=Z' l):pZ f l xs l.length=HQ f l xs:=by
 unfold pZ HQ;rw[atL,atP Om]
theorem QW(f:aB)(v:Nat){l:List dR}{xs:N_}(u:Z' xs=Z' l){k:Nat}(i:k<Z' l):qW f v (l.take (k+1)) (xs.take (k+1))=qW f v (l.take k) (xs.take k)++VS f v l[k] (xs.getD k 0):=by
 have e:k<Z' xs:=Om;rw[atW i,atW e,WB f v _ _ (by rw[atF,atF,u])];rw[show xs.getD k 0=xs[k] by simp[asW,e]];simp[qW]
theorem Rf{f:aB}{l:List dR}{xs:N_}(i:Z' xs=Z' l){k:Nat}(e:k<Z' l)(h:l[k].dst<fG f 0\/xs.getD k 0=0):pZ f l xs (k+1)=pZ f l xs k:=by
 unfold pZ;refine avO λv _=>?_;rw[QW f v i e];have:VS f v l[k] (xs.getD k 0)=[]:=by
  unfold VS Nq;rcases h with h|h
  rw[bD Om];rfl;rw[h];simp
 rw[this,auA]
theorem Wp{f:aB}{l:List dR}{xs:N_}(u:Z' xs=Z' l){k:Nat}(i:k<Z' l)(w:fG f 0<=l[k].dst)(x:xs.getD k 0≠0)(B:FP f l[k]<Z' f.arD) :
  (pZ f l xs k).set (FP f l[k]) ((pZ f l xs k).getD (FP f l[k]) []++[((l[k].dst-fG f 0:Nat):Int)])=pZ f l xs (k+1):=by
 have y:(pZ f l xs k).getD (FP f l[k]) []=qW f (FP f l[k]) (l.take k) (xs.take k):=by unfold pZ;rw[asW,atC,auT B];rfl
 rw[y];unfold pZ;refine qD _ _ _ _ _ ?_ λv A=>?_;rw[QW f _ u i];unfold VS Nq;rw[aW w,aW x,aW rfl];rfl;rw[QW f _ u i];unfold VS Nq;rw[bD (show ¬FP f l[k]=v from λe=>A e.symm),auF,auF];simp
theorem aaT{f:aB}(hV:VF f){room:I_}{a:dR}(ha:a∈mE f room)(h:fG f 0<=a.dst):∃v d,v<Z' f.arD/\d<Z' f.arB/\a=pK f v d:=by
 unfold mE at ha;rcases auC.1 ha with ha|ha
 obtain⟨v,e,ha⟩:=List.mem_flatMap.1 ha;have e:=atQ.1 e;unfold qB at ha;rcases atG.1 ha with rfl|ha
 have:=(FZ hV e hV.root.1).2;simp only[iA,if_true]at this;simp only at h;omega;rcases auC.1 ha with ha|ha
 obtain⟨i,hi,rfl⟩:=atM.1 ha;have:=atQ.1 hi;have:=(FZ (i:=i+1) hV e Om).2;simp only[DR]at h;omega;obtain⟨d,l,rfl⟩:=atM.1 ha;exact⟨v,d,e,atQ.1 (awT.1 l).1,rfl⟩;obtain⟨d,l,rfl⟩:=atM.1 ha;simp only[JS,fG]at h;omega
theorem W3{f:aB}(hV:VF f){d:Nat}(u:d<Z' f.arB):0<cP f d/\cP f d<Z' f.arE:=by
 have i:=hV.drive d u;refine⟨?_,i.2.2.2.1⟩;rcases avB (cP f d)with e|e
 have l:=i.2.2.2.2;rw[e,hV.root.2.1]at l;omega;exact e
theorem aN.anR{H:PH}{B:List BX}{L:List LI}{o s:Nat}{rows:P2_}(h:aN H ((o,.rows s rows)::B) L):aN H B ((.osl o s 0 rows.length,s,rows)::L):=by
 refine⟨λb hb=>h.box b (awN _ hb),λx hx=>?_,?_⟩;rcases atG.1 hx with rfl|hx
 exact .inr ⟨o,rows,rfl,h.box _ (axA ..),asU _,atL⟩;exact h.lst x hx;have e:fR ((.osl o s 0 rows.length,s,rows)::L)=o::fR L:=rfl;rw[e];exact(List.perm_middle.nodup_iff).2 h.nd
theorem aN.alH{H:PH}{B:List BX}(h:aN H B [])(N:Nat):aN H B (kO (asT N ((.aG,[]):PV × I_))):=by
 have i:=h.aaF N;have e:kO (asT N ((.aG,[]):PV × I_))=[]++asT N (.aG,1,[]):=by unfold kO;rw[List.map_replicate];rfl
 rw[e];exact i
theorem xm{res:List dX}{R A:R_}{e:lI}{F:PF}{H:PH}(B:∀r H',R r H'->A r H')(h:aV res R e F H):aV res A e F H:=by
 cases e with
 |exit=>exact h
 |normal =>obtain⟨vs,u,i,l,H2,w,x,v,y,h5⟩:=h;exact⟨vs,u,i,l,H2,w,x,v,y,B _ _ h5⟩
 |ret =>obtain⟨vs,u,i,l,H2,w,x,v,y,h5⟩:=h;exact⟨vs,u,i,l,H2,w,x,v,y,B _ _ h5⟩
def Iu(f:aB)(room:I_)(e:L2_)(c:Int):Prop:=
 (cI f=false/\e=[]/\c=1)\/(cI f=true/\(∃u,XY f room u/\e=aoM f u)/\c=0)\/(cI f=true/\¬anN f room/\e=[]/\c=12)
def afX(f:aB)(room:I_)(r:PV)(H:PH):Prop:=∃e c,Iu f room e c/\cN (.tup [lists e,.int .i64 c]) r H
def afW(f:aB)(room:I_)(r:PV)(H:PH):Prop:=∃e c,Iu f room e c/\r=.tup [lists e,.int .i64 c]/\H=h_
theorem aH.place{name:Nat}{args:V_}{f:aB}{room:I_}(h:aH C name args .nil (afX f room)):aH C name args .nil (afW f room):=
 h.post λr H' ⟨u,c,e,i,l⟩=>⟨_,i,u,c,e,rfl,l⟩
theorem iz(f:aB)(v:Nat):∀(l:List dR)(xs:N_),(qW f v l xs).length<=Z' l
 |[],_=>by simp[qW]
 |_::_,[]=>by simp[qW]
 |a::l,x::xs=>by
  have e:=iz f v l xs;have i:(VS f v a x).length<=1:=by unfold VS;split<;>simp
  rw[qW,asX,atZ];omega
theorem Nw{res:List dX}{F:PF}{H:PH}{i:PV}{ps:WPs}{e:lI}(he:e=.normal\/e=.ret)(h:dX.evs F H res=some [i])(l:aN H [] (eZ i ps)):aV res (cN (lists (wls ps))) e F H:=by
 obtain⟨φ,x,u,-,-,-,w,-⟩:=BO ps [] [] .nil l (λb hb=>by cases hb);refine pE he h ⟨_,_,.nil,w _,a_,φ (bN [i]),?_,?_⟩;rw[BV,mL,aF rfl];rfl;exact⟨u,rfl⟩
theorem Qk{f:aB}{v w i:Nat}(e:0<i)(hi:i<Z' f.arE)(h:iA f v i=iA f w i):v=w:=by
 unfold iA at h;rw[aC Om,aC Om]at h;rcases Nat.lt_trichotomy v w with c|c|c
 have:=auO (Z' f.arE-1) (Om:v+1<=w);rw[avS]at this;omega;exact c;have:=auO (Z' f.arE-1) (Om:w+1<=v);rw[avS]at this;omega
def wX(f:aB)(n:dL)(xs:N_)(e k:Nat):PF:=(((((n_.set 2 (.sl 1 (jE xs))).set 3 (.aU f.cells)).set 4 (.aU n.cells)).set 7 (.osl e 1 0 f.arD.length)).set 8 (.int .i64 (k:Nat)))
def gx(f:aB)(n:dL)(xs:N_)(e k:Nat)(d j:Nat):PF:=((wX f n xs e k).set 9 (.int .i64 (d:Nat))).set 10 (.int .i64 (j:Nat))
theorem Xy(Lb:GT C){K:bP}[Up K](f:aB)(hV:VF f)(room:I_)(xs:N_)(L k v d:Nat)(hk:k<(lD f room).arcs.length)(hv:v<Z' f.arD)(hd:d<Z' f.arB)(ha:dA (lD f room) k=pK f v d)(W X:L2_)(hW:Z' W=Z' f.arD)(δ:(W.getD v []).length<=1000000)
  (O:W.set v (W.getD v []++[(d:Int)])=X) (ps:WPs) (l:wls ps=W) {F:PF} {H:PH} (D:aN H [(L,.rows 1 (dF ps))] (kO ps)) (hF:(gx f (lD f room) xs L k d 0).le F)
  (hK:∀J H',wls J=X->aN H' [(L,.rows 1 (dF J))] (kO J)->K (.exit 2) (wX f (lD f room) xs L k) H'):aJ.wp C (.loop gy) K F H:=by
 have hs:=hV.small;have hr:=hV.root;have θ:=hs.arE;have ι:=hs.arD;have V:=W3 hV hd;refine wp_loop (α:=Nat × WPs × PH) (λs=>gx f (lD f room) xs L k d s.1) (λs=>s.2.2) (λs=>s.1<=Z' f.arD/\wls s.2.1=(if v<s.1 then X else W)/\aN s.2.2 [(L,.rows 1 (dF s.2.1))] (kO s.2.1)) (λs=>Z' f.arD-s.1) (0,ps,H) ⟨asQ _,by simpa using l,D⟩ hF b_ ?_;rintro⟨j,ps,H0⟩ ⟨hj,l,D⟩;simp only at hj l D;have N:Z' X=Z' f.arD:=by rw[<-O,auD,hW]
 have η:Z' ps=Z' f.arD:=by have:=congrArg awE l;unfold wls at this;rw[asO]at this;rw[this];split;exact N;exact hW
 simp only[go_sem,gy,gx,wX,asO];by_cases hlt:j<Z' f.arD;have y:(j:Int)<(Z' f.arD:Nat):=Om;have U:=wZz j;have R:=qZ hk;rw[ha]at R;have ζ:(k:Int)<((lD f room).arcs.length:Nat):=Om;have ε:(d:Int)<(Z' f.arB:Nat):=Om;simp only[go_sem,y];refine bE .nil (quS f) a_ ?_;simp only[go_sem,R,kC hd,hV.GH hd];refine CW Lb hs hr.1 (v:=j) (i:=cP f d) Om Om rfl a_ ?_;have B:(pK f v d).src=iA f v (cP f d):=rfl;by_cases c:j=v;subst c;rw[aC (Nat.lt_irrefl _)]at l;have S:j<Z' ps:=Om;obtain⟨u,w,A⟩:∃u w,ps[j]?=some (u,w):=⟨(ps[j]).1,(ps[j]).2,asZ S⟩;have E:(wls ps).getD j []=w:=afC A;rw[l]at E;have Y:=D.at 0 rfl;simp only[go_sem,bR (show(((pK f j d).src:Nat):Int)=((iA f j (cP f d):Nat):Int) by rw[B]),y,Y,atA,QJ A];refine D.append j (YK A) (src:=aM [(d:Int)]) rfl (by unfold roomFor;rw[bV,bV,<-E];simp only[atD,maxLen];omega) λM H3 Z hu=>?_;obtain⟨q',rfl⟩:=hu (by simp[aM]);rw[<-zU]at Z ⊢;have e3:=Z.at 0 rfl;have γ:j<(dF ps).length:=by rw[mB];exact S
 have h4:=Z.set 0 rfl (.rows 1 ((dF ps).set j [.osl q' 1 0 (aM (w++[(d:Int)])).length]));generalize(aM (w++[(d:Int)])).length=nn at *
 simp only[go_sem,y,e3,atA,QJ A,γ];refine⟨_,aF (λx hx=>by rw[auB]at hx;subst hx;rfl),?_⟩;generalize κ:PV.osl q' 1 0 nn=M at *
 simp only[go_sem,U];refine aE (j+1,ps.set j (M,w++[(d:Int)]),_) ⟨hlt,?_,?_⟩ sO_ (by(repeat' (first|exact c_|refine e_ ?_ ?_))<;>first|(simp only[go_sem,gx,wX]<;>rfl)|rfl) b_;simp only;rw[aF (Nat.lt_succ_self _),afD,l,<-E];exact O;simp only;have e5:dF (ps.set j (M,w++[(d:Int)]))=(dF ps).set j [M]:=avP ..;have e6:kO (ps.set j (M,w++[(d:Int)]))=(kO ps).set j (M,1,aM (w++[(d:Int)])):=avP ..;rw[e5,e6];exact h4;have β:¬(((pK f v d).src:Nat):Int)=((iA f j (cP f d):Nat):Int):=by rw[B];intro e;exact c (Qk V.1 V.2 Om).symm
 simp only[go_sem,bH β,U];refine aE (j+1,ps,H0) ⟨hlt,?_,D⟩ sO_ (by(repeat' (first|exact c_|refine e_ ?_ ?_))<;>first|(simp only[go_sem,gx,wX]<;>rfl)|rfl) b_;simp only;rw[l];by_cases c2:v<j;rw[aF c2,aF Om];rw[aC c2,aC Om];have y:¬(j:Int)<(Z' f.arD:Nat):=Om;rw[aF Om]at l;simp only[go_sem,y];exact Up.up (by(repeat' (first|exact c_|refine e_ ?_ ?_))<;>first|(simp only[go_sem,gx,wX]<;>rfl)|rfl) (hK ps H0 l D)
theorem adU(Lb:GT C)(f:aB)(hV:VF f)(room:I_)(xs:N_)(hx:CP (lD f room) xs) :
  xa.wp C (aV sA.res (cN (lists (HQ f (mE f room) xs)))) (g_ [.agg f.cells,.agg (lD f room).cells,.sl 1 (jE xs)]) .nil:=by
 have hs:=hV.small;have ι:=hs.arD;have hn:=Rz hV room;have hm:=hn.num;have η:=hn.few;have F:Z' xs=(mE f room).length:=hx.len;have V:(Z' f.arD:Int)*((24:Nat):Int)<=140737488355328:=Om;have W:(Z' f.arD:Int)<=9223372036854775807:=Om;have X:(0:Int)<=(Z' f.arD:Int):=Om;have eo:dF (asT f.arD.length ((.aG,[]):PV × I_))=asT f.arD.length [.aG]:=by unfold dF;rw[List.map_replicate]
 simp only[go_sem,xa,sA,asO,V,W,X,Int.le_refl,auL];refine aQ λJ γ=>?_;have h1:=(aN.nil.new γ (.rows 1 (asT f.arD.length [.aG]))).alH f.arD.length;generalize h_.set J (.rows 1 (asT f.arD.length [.aG]))=H1 at *
 rw[<-eo]at h1;simp only[go_sem];refine wp_loop (α:=Nat × WPs × PH) (λs=>wX f (lD f room) xs J s.1) (λs=>s.2.2) (λs=>s.1<=(lD f room).arcs.length/\wls s.2.1=pZ f (mE f room) xs s.1/\aN s.2.2 [(J,.rows 1 (dF s.2.1))] (kO s.2.1)) (λs=>(lD f room).arcs.length-s.1) (0,asT f.arD.length (.aG,[]),H1) ⟨asQ _,?_,h1⟩ (by(repeat' (first|exact c_|refine e_ ?_ ?_))<;>first|(simp only[go_sem,wX]<;>rfl)|rfl) b_ ?_;rw[Rh];unfold wls;simp only[List.map_replicate];rintro⟨k,ps,H0⟩ ⟨hk,y,U⟩;simp only at hk y U;have δ:Z' ps=Z' f.arD:=by have:=congrArg awE y;rw[Dh]at this;unfold wls at this;rw[asO]at this;exact this
 simp only[go_sem,wX,asO];by_cases hlt:k<(lD f room).arcs.length;have x:(k:Int)<((lD f room).arcs.length:Nat):=Om;have D:=wZz k;have B:k<(mE f room).length:=hlt;have β:k<Z' xs:=Om;have L:=qZ hlt;have K:dA (lD f room) k=(mE f room)[k]:=(tY hlt).symm;rw[K]at L;have Z:=asS B;obtain⟨z1,z2,z3⟩:=hn.ends _ (asS hlt);have z1:((mE f room)[k]).src<(lD f room).nodes:=z1;have z2:((mE f room)[k]).dst<(lD f room).nodes:=z2;have θ:fG f 0<=(lD f room).nodes:=by show fG f 0<=fG f f.arB.length;unfold fG;omega
 have E:=Rf (f:=f) (l:=mE f room) (xs:=xs) F B;have u:=Wp (f:=f) (l:=mE f room) (xs:=xs) F B;have N:=aaT hV (room:=room) Z;generalize(mE f room)[k]=a at *
 have A:(a.dst<fG f 0\/xs.getD k 0=0)->fK (λs:Nat × WPs × PH=>wX f (lD f room) xs J s.1) (λs=>s.2.2) (λs=>s.1<=(lD f room).arcs.length/\wls s.2.1=pZ f (mE f room) xs s.1/\aN s.2.2 [(J,.rows 1 (dF s.2.1))] (kO s.2.1)) (λs=>(lD f room).arcs.length-s.1) ((lD f room).arcs.length-k) (fL 0 (gL C (aJ.wp C (.seq (.region gz) .ret)) (aV sA.res (cN (lists (HQ f (mE f room) xs)))))) .normal (wX f (lD f room) xs J (k+1)) H0:=λh=>
  aE (k+1,ps,H0) ⟨hlt,by rw[E h];exact y,U⟩ sO_ (λ_ _ h=>h) b_
 have w7:i_.wrap ((a.dst:Int)-((fG f 0:Nat):Int))=(a.dst:Int)-((fG f 0:Nat):Int):=wrap_i64 Om Om;simp only[go_sem,x];refine bE .nil (quS f) a_ ?_;simp only[go_sem,L];refine dd Lb hs (i:=0) aR rfl a_ ?_;by_cases c1:a.dst<fG f 0;have w:(a.dst:Int)-((fG f 0:Nat):Int)<0:=Om;simp only[go_sem,w7,w,D];exact Up.up (by unfold wX;exact Lq) (A (.inl c1));have w:¬(a.dst:Int)-((fG f 0:Nat):Int)<0:=Om;have S:=mO β;by_cases c2:xs.getD k 0=0;simp only[go_sem,w7,w,S,bR (Om:((xs.getD k 0:Nat):Int)=0),D];exact Up.up (by unfold wX;exact Lq) (A (.inr c2));obtain⟨v,d,hv,hd,rfl⟩:=N Om;have R:=aiN hV (v:=v) hd;have u:=u Om c2 (by rw[R];exact hv);rw[R]at u;have Y:((pK f v d).dst-fG f 0:Nat)=d:=by simp only[pK,fG];omega
 have M:((pK f v d).dst:Int)-((fG f 0:Nat):Int)=(d:Int):=Om;rw[Y]at u;rw[M]at w;have ε:((pZ f (mE f room) xs k).getD v []).length<=1000000:=by unfold pZ;rw[asW,atC,auT hv];exact atT (iz f v _ _) (by rw[atF];omega)
 have w8:i_.wrap (d:Int)=(d:Int):=wrap_i64 Om Om;simp only[go_sem,M,w8,w,S,bH (Om:¬((xs.getD k 0:Nat):Int)=0)];refine Xy Lb f hV room xs J k v d hlt hv hd K (pZ f (mE f room) xs k) (pZ f (mE f room) xs (k+1)) (Dh ..) ε u ps y U (by(repeat' (first|exact c_|refine e_ ?_ ?_))<;>first|(simp only[go_sem,gx,wX]<;>rfl)|rfl) λζ H' O h'=>?_;simp only[go_sem,wX,D];exact aE (k+1,ζ,H') ⟨hlt,O,h'⟩ sO_ (by(repeat' (first|exact c_|refine e_ ?_ ?_))<;>first|(simp only[go_sem,wX]<;>rfl)|rfl) b_;have x:¬(k:Int)<((lD f room).arcs.length:Nat):=Om;have:k=(lD f room).arcs.length:=Om;subst this;have h2:=U.anR;rw[mB,δ]at h2;have e:HQ f (mE f room) xs=wls ps:=by rw[y];exact(Wo F).symm
 rw[e];simp only[go_sem,x,gz];exact Nw (.inr rfl) rfl h2

structure afY(C:Ctx):Prop extends GT C where
 jC:∀(f:aB)(room:I_),f.Ok->aH C 307 [.agg f.cells,ints room] .nil (aK (tt f room))
 HW:∀n:dL,lH n->aH C 303 [.agg n.cells] .nil (Py n)
 sA:∀(f:aB)(room:I_)(xs:N_),VF f->CP (lD f room) xs->aH C 308 [.agg f.cells,.agg (lD f room).cells,.sl 1 (jE xs)] .nil (aK (lists (HQ f (mE f room) xs)))
def Pv(r:PV)(H:PH):Prop:=∃e c,iD e/\r=.tup [lay e,.int .i64 c]/\H=h_
theorem iD.nil:iD []:=⟨by decide,by decide⟩
def Iv(r:PV)(H:PH):Prop:=∃e c,iD e/\cN (.tup [lay e,.int .i64 c]) r H
theorem aH.ahM{name:Nat}{args:V_}(h:aH C name args .nil Iv):aH C name args .nil Pv:=
 h.post λr H' ⟨u,c,e,i,l⟩=>⟨_,i,u,c,e,rfl,l⟩
theorem acO(f:aB)(B:Z' f.arD<=1000)(l:List dR)(w:Z' l<=10000)(xs:N_):iD (HQ f l xs):=by
 have u:(HQ f l xs).length=Z' f.arD:=by simp[HQ]
 have i:∀L:L2_,(∀r∈L,Z' r<=10000)->Z' L.flatten<=Z' L*10000:=by
  intro L
  induction L with
  |nil=>intro _;exact asQ _
  |cons x t y =>intro h;have u:=y λr e=>h r (awN _ e);have A:=h x axA;rw[awZ,asX,atZ,avS];omega
 refine⟨by omega,atT (i _ λr e=>?_) (by rw[u];omega)⟩;obtain⟨v,-,rfl⟩:=atM.1 e;exact atT (iz f v l xs) w
theorem Nt(e:afY C)(f:aB)(F:f.Ok)(l:cI f=true)(room:I_) :
  bi.wp C (aV oj.res Iv) (g_ [.agg f.cells,ints room]) .nil:=by
 simp only[go_sem,bi,oj];refine aD (e.jC f room F) Sq ?_;simp only[go_sem,tt];refine aQ λq hq=>?_;have w:aN (h_.set q tK) [(q,tK)] []:=aN.nil.new hq tK;generalize(h_.set q tK)=A at *
 have K:=w.at 0 rfl;have i:=w.set 0 rfl (alG (D9 f room));simp only[go_sem,K];generalize A.set q (.rows 4 [(D9 f room).cells])=H2 at *
 have u:=i.at 0 rfl;have hV:=VF.of l;have J:=hV.small;have x:=Rz hV room;rw[Jv l]at u i;simp only[go_sem,Ju l,u];refine iL (e.HW _ x) Sq a_ ?_;rintro r H' ⟨xs,S,B,y,D,E,rfl,rfl⟩ -;rw[PH.yG];simp only[go_sem];refine aD (e.total f hV) Sq ?_;by_cases hlt:vN (lD f room) xs<((Bt f:Nat):Int);simp only[go_sem,hlt];refine xm (R:=cN (.tup [lay [],.j 12])) (λr H' h=>⟨[],12,.nil,h⟩) ?_;exact kF (.inr rfl) Sq (aN.qS (i.wC 0));have L:(mE f room).length<=2500:=x.num;simp only[go_sem,hlt,u];refine aD (e.sA f room xs hV B.in) Sq ?_;simp only[go_sem];refine xm (R:=cN (.tup [lay (HQ f (mE f room) xs),.j 0])) (λr H' h=>⟨_,0,acO f (by have:=J.arD;omega) _ Om xs,h⟩) ?_;exact bM (vs:=[lists (HQ f (mE f room) xs),.j 0]) (.inr rfl) .nil Sq a_ ⟨.refl _,rfl⟩
theorem vn{f:aB}{sc:L2_}{room:I_}:∀(n:Nat){L:L2_},eU f L room=true->eU f (BI f sc (bA f room) n L) room=true/\pR f sc (BI f sc (bA f room) n L) L.length<=pR f sc L L.length
 |0,L,e=>⟨e,asU _⟩
 |n+1,L,e=>by
  rw[BI];cases h:gE f sc (bA f room) L L.length with
  |none=>exact⟨e,asU _⟩
  |some x =>obtain⟨i,l,u,w⟩:=qU _ _ h;obtain⟨B,D,E⟩:=AB e i l u;have F:=DF i E w;obtain⟨y,A⟩:=vn n B;rw[D]at A;exact⟨y,by simp only;omega⟩
theorem Mw(f:aB)(lv e:Int)(room:I_)(L:L2_):(OW f lv e room L).length<=1000/\∀w∈OW f lv e room L,Z' w<=1000:=by
 have u:HO f lv e room L=if fS f lv e≠0 then fS f lv e else if eU f L room then 0 else 1:=rfl
 unfold OW;by_cases c:HO f lv e room L=0;rw[aF c];have y:eU f L room=true:=by rw[u]at c;split at c;exact absurd c (by assumption);split at c;assumption;cases c
 have hi:=(vn (sc:=lR f lv e) (pR f (lR f lv e) L L.length+1) y).1;have x:=mN hi;have B:=(VF.of (gM hi)).small.arD;have l:=x.len;unfold pY;refine⟨by omega,λw i=>?_⟩;obtain⟨v,A,rfl⟩:=auG i;have:=(kS hi A).2.2.2;omega;rw[aC c];exact⟨asQ _,λw i=>by cases i⟩
structure Z1(C:Ctx):Prop where
 read:∀(l:N_),(∀x∈l,x<256)->Z' l<=9223372036854775807->aH C 375 [.sl 1 (kN l),.int .i64 (7:Nat),.int .i64 (3:Nat)] .nil (zl l 7 3)
 next:∀(l:N_)(v:PV),Tp l v->∀(o n a:Nat),n<=1000000->a<=Z' l->aH C 4 [.ptr o 2 0 0,.int .i64 n] (h_.set o (aY v a)) (λr H=>r=.int .i64 ((aI l n a).1:Nat)/\H=h_.set o (aY v (aI l n a).2))
 tlayout:∀(l:N_)(v:PV),Tp l v->∀(o a:Nat)(f:aB),VF f->a<=Z' l->aH C 3 [.ptr o 2 0 0,.agg f.cells] (h_.set o (aY v a)) (λr H=>r=lay (eE l f a f.arD.length).1/\H=h_.set o (aY v (eE l f a f.arD.length).2))
 place:∀(f:aB)(room:I_),f.Ok->cI f=true->aH C 309 [.agg f.cells,ints room] .nil Pv
 imp:∀(f:aB)(lv cnt:Int)(room:I_)(l:L2_),f.Ok->iD l->aH C 364 [.agg f.cells,rI lv cnt,ints room,lay l] .nil (aK (.tup [lay (OW f lv cnt room l),.int .i64 (HO f lv cnt room l)]))
 rimp:∀(f:aB)(lv cnt:Int)(room:I_)(l:L2_),f.Ok->iD l->aH C 380 [.agg f.cells,rI lv cnt,ints room,lay l] .nil (aK (.tup [lay (OW f lv cnt room l),.int .i64 (HO f lv cnt room l)]))
 sets:∀a:L2_,Z' a<=9000000000000000000->(∀w∈a,Z' w<=9000000000000000000)->aH C 212 [lay a,lay a] .nil (aK (.bool true))
 zn:aH C 362 [] .nil (aK (.bool true))
theorem Wy(A:Z1 C)(l:N_)(hb:∀x∈l,x<256)(hl:Z' l<=9223372036854775807) :
  nc.wp C (aV uL.res (aK (.bool true))) (g_ [.sl 1 (kN l)]) .nil:=by
 obtain⟨i2,i3,X⟩:=aaI (l.take 400) 7 3;obtain⟨W,U⟩:=UO (l.take 400) 7 3 (wY (l.take 400)).2 aR aR;have u:=A.read l hb hl;unfold zl at u;change cI (rdF (l.take 400) 7 3).1=true at W;change(rdF (l.take 400) 7 3).1.Ok at U;generalize(rdF (l.take 400) 7 3).1=f at *
 generalize(rdR (l.take 400) 7 3).1=room at *
 generalize(rdR (l.take 400) 7 3).2=i at *
 generalize(1+(DX (l.take 400)).1:Nat)=lv at *
 generalize(1+(wY (l.take 400)).1:Nat)=J at *
 have hV:=VF.of W;have kl:=λv T o=>A.tlayout (l.take 400) v T o i f hV X;obtain⟨s1,s2,s3⟩:=vu (l.take 400) hV X f.arD.length (asU _);have hS:BB f (eE (l.take 400) f i f.arD.length).1:=⟨s1,s2,s3⟩;have N:=(EO (l.take 400) f X f.arD.length).1;clear s1 s2 s3;generalize eE (l.take 400) f i f.arD.length=lt at *
 obtain⟨L,at2⟩:=lt;simp only at hS kl N;have M:=hS.ok hV;have kn:=λv T o=>A.next (l.take 400) v T o 4 at2 aR N;generalize aI (l.take 400) 4 at2=nx at *
 simp only[go_sem,nc,uL];refine iL u (by simp only[go_sem];rfl) a_ ?_;rintro r H' ⟨o,v,rfl,T,rfl⟩ α;rw[PH.vK];have h1:aN (h_.set o (aY v i)) [(o,aY v i)] []:=aN.nil.new (H:=h_) rfl _;generalize h_.set o (aY v i)=H1 at h1 ⊢;simp only[go_sem];refine h1.TS λO H2 h2=>?_;simp only[go_sem];refine h2.TS λy H3 R=>?_;have q9:=R.at 1 rfl;have h4:=R.set 1 rfl (.rows 7 [f.cells]);have n9:¬y=O:=λe=>R.ne 1 2 rfl rfl aR e.symm;have Y:¬O=y:=λe=>n9 e.symm;have Z:=R.at 2 rfl;have h5:=h4.set 2 rfl (.rows 2 [[.j ((lv:Nat):Int),.j ((J:Nat):Int)]]);simp only[go_sem,q9,Z,n9,Y];generalize(H3.set O _).set y _=H5 at *
 have D:=h5.at 1 rfl
 try simp only[go_sem,D]
 refine h5.jk 0 rfl (kl v T o) Sq λH6 S=>?_;have D:=S.at 1 rfl;simp only[go_sem,D];refine iL (A.place f room U W) Sq a_ ?_;rintro r H' ⟨P,c,hP,rfl,rfl⟩ -;rw[PH.yG];have B:∀(Q:L2_) (V:iD Q) (F:PF) (E:PH),(((((n_.set 3 (.ptr O 7 0 0)).set 4 (.ptr y 2 0 0)).set 5 (ints room)).set 7 (lay Q))).le F->E O=some (.rows 7 [f.cells])->E y=some (.rows 2 [[.j ((lv:Nat):Int),.j ((J:Nat):Int)]]) ->
   aJ.wp C (.seq (.region fk) (.seq (.region fl) (.seq (.region fm) .ret))) (aV uL.res (aK (.bool true))) F E:=by
  intro Q V F E hF D K;refine jL _ (λ_ _ _ _ a b=>Up.up a b) hF ?_;obtain⟨b1,b2⟩:=Mw f lv J room Q;simp only[go_sem,fk,D,K];refine aD (A.imp f lv J room Q U V) Ev ?_;simp only[go_sem,fl,D,K];refine aD (A.rimp f lv J room Q U V) Ev ?_;simp only[go_sem,fm,bR];refine aD (A.sets _ Om λw hw=>atT (b2 w hw) aR) Ev ?_;simp only[go_sem];refine aD A.zn Ev ?_;simp only[go_sem];exact kD Sq rfl
 simp only[go_sem];by_cases c0:c=0;simp only[go_sem,bR c0];refine S.jk 0 rfl (kn v T o) (by simp only[go_sem];rfl) λE h7=>?_;simp only[go_sem];by_cases c3:(nx.1:Int)>0;simp only[go_sem,c3];exact B P hP _ _ Lq (h7.at 1 rfl) (h7.at 2 rfl);simp only[go_sem,c3];exact B L M _ _ Lq (h7.at 1 rfl) (h7.at 2 rfl);simp only[go_sem,bH c0];exact B L M _ _ Lq (S.at 1 rfl) (S.at 2 rfl)
structure ajS(C:Ctx):Prop where
 fY:∀(f:aB)(lv cnt:Int),f.Ok->aH C 219 [.agg f.cells,rI lv cnt] .nil (aK (.tup [lay (lR f lv cnt),.int .i64 (fS f lv cnt)]))
 rholds:∀(f:aB)(l:L2_) (room:I_),f.Ok->iD l->aH C 83 [.agg f.cells,lay l,ints room] .nil (aK (.bool (eU f l room)))
 lost:∀(sc:L2_) (set:I_) (m:Int),Z' sc<=1000000000000000->(∀s∈sc,Z' s<=1000000000000000)->Z' set<=1000000000000000->aH C 220 [lay sc,ints set,.int .i64 m] .nil (aK (.int .i64 (eO sc set m:Nat)))
theorem Tr(f:aB)(l:L2_)(Y:iD l)(o i:Nat)(hlt:i<Z' l)(K:bP)[Up K](F:PF)(H:PH)
  (O:((((((n_.set 1 (lay l)).set 2 (.aU f.cells)).set 5 (.osl o 1 0 f.arB.length)).set 6 (.j i)).set 7 (.j 0)):PF).le F) (R:(h_.set o (.rows 1 (aM (fN f.arB.length (l.take i).flatten)))).le H)
  (V:K (.exit 2) (((((n_.set 1 (lay l)).set 2 (.aU f.cells)).set 5 (.osl o 1 0 f.arB.length)).set 6 (.j i))) (h_.set o (.rows 1 (aM (fN f.arB.length (l.take (i+1)).flatten))))):aJ.wp C (.loop RC) K F H:=by
 obtain⟨Z,β⟩:=Y;have M:(l.map λr=>[ints r])[i]?=some [ints l[i]]:=by simp[hlt]
 have S:=yR l hlt;have J:=HJ l (i+1);rw[S]at J V;rw[asX]at J;generalize W:l[i]=row at *
 generalize hn:Z' f.arB=n at *
 generalize hA:(l.take i).flatten=A at *
 refine wp_loop (α:=Nat) (λk=>(((((n_.set 1 (lay l)).set 2 (.aU f.cells)).set 5 (.osl o 1 0 n)).set 6 (.j i)).set 7 (.j k))) (λk=>h_.set o (.rows 1 (aM (fN n (A++row.take k))))) (λk=>k<=Z' row) (λk=>Z' row-k) 0 (asQ _) O (by rw[avA,auA];exact R) ?_;intro k hk;simp only[go_sem,RC,M,asO];by_cases y:k<Z' row;have e:(k:Int)<(Z' row:Nat):=Om;have B:(row.map λn=>[PV.int .i64 n])[k]?=some [.j row[k]]:=by simp[y]
 have D:A++row.take (k+1)=(A++row.take k)++[row[k]]:=by rw[atW y,atV]
 have fin:∀(F:PF),((((((n_.set 1 (lay l)).set 2 (.aU f.cells)).set 5 (.osl o 1 0 n)).set 6 (.j i)).set 7 (.j (k+1:Nat))):PF).le F->∀H:PH,H o=some (.rows 1 (aM (fN n (A++row.take (k+1))))) ->
   fK (λk:Nat=>(((((n_.set 1 (lay l)).set 2 (.aU f.cells)).set 5 (.osl o 1 0 n)).set 6 (.j i)).set 7 (.j k))) (λk=>h_.set o (.rows 1 (aM (fN n (A++row.take k))))) (λk=>k<=Z' row) (λk=>Z' row-k) (Z' row-k) K .normal F H:=by
  intro F O H R;exact aE (k+1) y Om O (d_ a_ R)
 generalize hx:row[k]=x at *
 by_cases N:x>=0;by_cases U:x<(n:Nat);obtain⟨d,rfl⟩:∃d:Nat,x=d:=⟨x.toNat,by omega⟩;have w:d<n:=Om;have E:=rC (l:=fN n (A++row.take k)) (i:=d) (by rw[iV];exact w);rw[YH _ w]at E;have X:(A++row.take k).count (d:Int)<=16777216:=by refine atT (List.count_le_length ..) ?_;rw[asX,atF];omega
 have L:=sy (A++row.take k) w;rw[<-D]at L;have hw:i_.wrap ((((A++row.take k).count (d:Int):Nat):Int)+1)=(((A++row.take k).count (d:Int):Nat):Int)+1:=wrap_i64 Om Om;simp only[go_sem,e,B,N,U,atA,E,hw,iI,L,wZz k,M];exact fin _ Lq _ Sq;have u:=HF (n:=n) (A++row.take k) (x:=x) Om;simp only[go_sem,e,B,N,U,wZz k,M];exact fin _ Lq _ (by rw[D,u];simp only[go_sem]);have u:=HF (n:=n) (A++row.take k) (x:=x) Om;simp only[go_sem,e,B,N,wZz k,M];exact fin _ Lq _ (by rw[D,u];simp only[go_sem]);have e:¬(k:Int)<(Z' row:Nat):=Om;have:k=Z' row:=Om;subst this;simp only[go_sem,e,atL];exact Up.up Lq V
theorem xy(L:TJ C)(f:aB)(A:f.Ok)(l:L2_)(y:iD l) :
  bw.wp C (aV nZ.res (zG (rY f l))) (g_ [.agg f.cells,lay l]) .nil:=by
 simp only[go_sem,bw,nZ];refine aD (L.valid f A) Sq ?_;unfold rY;cases D:cI f with
 |false =>simp only[go_sem,atH];exact bM (vs:=[.aG]) (.inr rfl) .nil Sq a_ (.inl ⟨rfl,rfl,rfl⟩)
 |true =>have E:=(VF.of D).small.arB;have w:(Z' f.arB:Int)*((8:Nat):Int)<=140737488355328:=Om;have x:(Z' f.arB:Int)<=9223372036854775807:=Om;simp only[go_sem,asY,asO,w,x];refine aQ λo F=>?_;simp only[go_sem];refine wp_loop (α:=Nat) (λi=>((((n_.set 1 (lay l)).set 2 (.aU f.cells)).set 5 (.osl o 1 0 f.arB.length)).set 6 (.int .i64 i))) (λi=>h_.set o (.rows 1 (aM (fN f.arB.length (l.take i).flatten)))) (λi=>i<=Z' l) (λi=>Z' l-i) 0 (asQ _) Lq (d_ a_ (by rw[avA,List.flatten_nil,db,oW];simp only[go_sem])) ?_;intro i hi;simp only[go_sem,asO];have B:=y.rows;by_cases hlt:i<Z' l;have e:(i:Int)<(Z' l:Nat):=Om;simp only[go_sem,e];have u:=Tr (C:=C) f l y o i hlt;simp only[aJ.wp,go_sem]at u;refine u _ _ _ Lq b_ ?_;simp only[go_sem,wZz i];exact aE (i+1) hlt Om Lq b_;have e:¬(i:Int)<(Z' l:Nat):=Om;have:i=Z' l:=Om;subst this;simp only[go_sem,e,atL];exact bM (vs:=[.osl o 1 0 f.arB.length]) (.inr rfl) _ Sq b_ (.inr ⟨o,by unfold cD;rw[iV];rfl,rfl⟩)
structure Iw(C:Ctx):Prop extends TJ C where
 bad:∀(f:aB)(row:I_),Z' row<=16777216->aH C 89 [.agg f.cells,ints row] .nil (aK (.int .i64 (c7 f row)))
def Fg(f:aB)(v:Nat)(row:I_):List jG:=
 if(Z' row:Int)=fX f v then(match gS (kY f) row 0 with|some i=>[⟨1,v,(i:Nat)⟩]|none=>tW f (bF f v) v row)else[⟨1,v,(Z' row:Nat)⟩]
theorem Xo(f:aB)(l:L2_)(v:Nat):vH f l v=Fg f v (l.getD v []):=by
 unfold vH tT Fg;split<;>rename_i h;split at h
 ·rename_i c;rw[aF c];cases hb:gS (kY f) (l.getD v []) 0 with
  |none=>rw[hb]at h;cases h
  |some i=>rw[hb]at h;cases h;rfl
 rename_i c;rw[aC c];cases h;rfl;split at h
 ·rename_i c;rw[aF c];cases hb:gS (kY f) (l.getD v []) 0 with
  |none=>rfl
  |some i=>rw[hb]at h;cases h
 cases h
end Go.PM
