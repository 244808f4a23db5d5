/-Lemmas for the law. No condition.-/
import Derived.Test.YtfeiflgckfjohabGreatDoorIR3
import Derived.Lib.SlicesCompact
import Derived.Shelf.Slices.CompactI
import Derived.Shelf.Slices.In.SortNone
set_option linter.unusedSimpArgs false
set_option linter.unusedVariables false
open Nat renaming reduceEqDiff->γ,reduceAdd->δ,reduceSub->ε,reduceMul->ζ,reduceLT->η,reduceLeDiff->θ,reduceBEq->τ
open Int renaming reduceLT->ι,reduceLE->κ,reduceEq->μ,reduceToNat->ν,reduceAdd->ξ,reduceNeg->ο,reduceBEq->ρ,reduceBNe->σ
open List renaming reduceReplicate->υ
open List renaming length_map->apP,range->apQ,length_append->apV,getElem_mem->apW,replicate->apX,getD_eq_getElem?_getD->apY,getElem?_eq_getElem->apZ,getElem?_map->aqE,length_take->aqF,mem_cons->aqG,length_singleton->aqH,mem_map->aqJ,all_eq_true->aqM,mem_range->aqN,take_length->aqO,map_append->aqP,map_cons->aqQ,take_of_length_le->aqR,not_mem_nil->aqS,append_assoc->aqT,getElem?_eq_some_iff->aqU,length_cons->aqV,append_nil->aqY,mem_append->aqZ,mem_singleton->arA,take_succ_eq_append_getElem->arB,getElem?_eq_none->arC,length_set->arD,getElem_of_mem->arF,getElem_map->arI,map_nil->arL,length_drop->arM,map_congr_left->arQ,getElem?_append_right->arS,getElem?_range->arU,range_succ->arV,range'->asD,getElem?_append_left->asE,Sublist->asF,length_nil->asG,drop_eq_getElem_cons->asI,ext_getElem->asJ,Perm->asM,drop_zero->asN,take_zero->asO,map_set->asP,mem_filter->asQ,map_map->asR,nodup_append->asS,set_cons_zero->asT,cons_append->asV,contains_iff_mem->asW,set_append_right->asY,take_append_drop->asZ,countP_cons->atE,flatMap_cons->atH,getElem?_drop->atI,mem_cons_of_mem->atK,length_range->atT,countP_append->atW,flatMap_append->atX,flatten_cons->atY,mem_cons_self->atZ,mem_or_eq_of_mem_set->auB,eq_nil_of_length_eq_zero->auF,getElem_range->auG,length_filter_le->auH
open Nat renaming zero_le->apR,gcd->apS,le_refl->apU,zero_add->aqA,le_trans->aqX,add_zero->arG,mul_add->arH,mul_le_mul_right->arK,mul_comm->arW,eq_zero_or_pos->arZ,sub_self->asA,div_le_self->asH,min_eq_left->asK,succ_mul->asL,pow_succ->atF,mul_le_mul->atU,div_eq_of_lt->auC
open Bool renaming and_eq_true->apT,not_true->aqC,false_and->aqD,not_false->aqI,true_and->aqL,and_false->arE,false_eq_true->arO,and_true->arY
open Option renaming map_eq_some_iff->aqB,map_some->aqK,getD_some->arT,bind_eq_some_iff->atV
open Int renaming toNat_natCast->arP
open Array renaming getElem?_eq_some_iff->atC,getElem?_eq_getElem->atP
open List renaming length->Z'
set_option maxRecDepth 100000
set_option maxHeartbeats 800000
open Go.IntKind renaming i64->i_,u64->u_
open Go.PM.PF renaming nil->n_,args->g_
open Go.PM.PH renaming nil->h_
noncomputable section
namespace Go.PM
open Go Go.Na
def dC(g:Nat->Nat):Nat->Nat
 |0=>0
 |n+1=>dC g n+g n
theorem AX(g h:Nat->Nat):∀n,dC (λk=>g k+h k) n=dC g n+dC h n
 |0=>rfl
 |n+1=>by rw[dC,dC,dC,AX g h n];omega
theorem AY{g h:Nat->Nat}:∀{n:Nat},(∀k,k<n->g k<=h k)->dC g n<=dC h n
 |0,_=>apU _
 |n+1,e=>by rw[dC,dC];exact Nat.add_le_add (AY λk i=>e k Om) (e n Om)
theorem iU{g h:Nat->Nat}:∀{n:Nat},(∀k,k<n->g k=h k)->dC g n=dC h n
 |0,_=>rfl
 |n+1,e=>by rw[dC,dC,iU (n:=n) λk i=>e k Om,e n Om]
theorem CP:∀n,dC (λ_=>0) n=0
 |0=>rfl
 |n+1=>by rw[dC,CP n]
theorem JG(g:Nat->Nat->Nat)(n:Nat):∀m,dC (λv=>dC (g v) n) m=dC (λd=>dC (λv=>g v d) m) n
 |0=>by rw[dC];exact(CP n).symm
 |m+1=>by rw[dC,JG g n m,<-AX];rfl
theorem Ik{g:Nat->Nat}:∀{n k:Nat},k<n->g k<=dC g n
 |0,_,h=>by omega
 |n+1,k,h=>by rw[dC];by_cases e:k=n;subst e;omega;have:=Ik (g:=g) (n:=n) (k:=k) Om;omega
theorem QE(c:Nat)(g:Nat->Nat):∀n,dC (λk=>c*g k) n=c*dC g n
 |0=>rfl
 |n+1=>by rw[dC,dC,QE c g n,arH]
def one(b:Bool):Nat:=if b=true then 1 else 0
theorem EF:one true=1:=rfl
theorem IT:one false=0:=rfl
def jZ(p:Nat->Bool)(n:Nat):Nat:=dC (λk=>one (p k)) n
theorem jh(p:Nat->Bool):∀n,jZ p n=(apQ n).countP p
 |0=>rfl
 |n+1=>by rw[arV,atW,<-jh p n,jZ,dC];cases h:p n<;>simp[one,h,jZ]
def dM(f:aB)(v i:Nat):Nat:=if i=0 then 2+v else 2+Z' f.aoE+v*(Z' f.aoF-1)+i-1
def cU(f:aB)(d:Nat):Nat:=2+Z' f.aoE*Z' f.aoF+d
def iQ(f:aB)(v:Nat):Nat:=(kW f v).toNat
def BK(f:aB)(v i:Nat):Nat:=if dR f (bF f v) i=0 then iQ f v else(dR f (bF f v) i).toNat
def XH(f:aB)(room:I_)(d:Nat):Nat:=(kJ f room d).toNat
def okD(f:aB)(v d:Nat):Bool:=FX f (bF f v) d
def pB(f:aB)(v k:Nat):dD:=⟨dM f v (jB f (k+1)),dM f v (k+1),BK f v (k+1)⟩
def iP(f:aB)(v d:Nat):dD:=⟨dM f v (cD f d),cU f d,1⟩
def iF(f:aB)(v:Nat):List dD:=⟨0,2+v,iQ f v⟩::((apQ (Z' f.aoF-1)).map (pB f v)++((apQ f.aoC.length).filter (okD f v)).map (iP f v))
def sO(f:aB)(room:I_)(d:Nat):dD:=⟨cU f d,1,XH f room d⟩
def iD(f:aB)(room:I_):List dD:=(apQ f.aoE.length).flatMap (iF f)++(apQ f.aoC.length).map (sO f room)
def jN(f:aB)(room:I_):dK:=⟨cU f f.aoC.length,0,1,iD f room⟩
def MN(f:aB):Nat:=dC (iQ f) f.aoE.length
theorem wC{f:aB}(h:VF f){v:Nat}(l:v<Z' f.aoE):iQ f v<=8/\1<=iQ f v/\(iQ f v:Int)=kW f v/\∀i,BK f v i<=8:=by
 obtain⟨hp,he⟩:=kB h l;have e:=h.aoP _ (apW hp);rw[he]at e;have u:kW f v=(bF f v).k+(bF f v).m:=rfl;unfold BK iQ;refine⟨by omega,by omega,by omega,λi=>?_⟩;have:=e.2.2.2.2.2.2.1 (lvl f i).toNat;unfold dR;split<;>omega
theorem PO{f:aB}(h:VF f)(room:I_){d:Nat}(e:d<Z' f.aoC):XH f room d<=16/\(XH f room d:Int)=kJ f room d:=by
 have:=Q1 h room e;unfold XH;omega
theorem mD{f:aB}(h:VF f){v i:Nat}(l:v<Z' f.aoE)(hi:i<Z' f.aoF):2<=dM f v i/\dM f v i<cU f 0:=by
 have w:=h.root.1;have e:(v+1)*(Z' f.aoF-1)<=Z' f.aoE*(Z' f.aoF-1):=arK _ l;rw[asL]at e;have u:Z' f.aoE*Z' f.aoF=Z' f.aoE*(Z' f.aoF-1)+Z' f.aoE:=by
  conv=>lhs;rw[show f.aoF.length=(Z' f.aoF-1)+1 by omega,Nat.mul_succ]
 unfold dM cU;split<;>omega
theorem Eh(f:aB)(v:Nat):(iF f v).length<=Z' f.aoF+Z' f.aoC+1:=by
 unfold iF;rw[aqV,apV,apP,apP,atT];have:=auH (okD f v) (apQ f.aoC.length);rw[atT]at this;omega
theorem Vo(f:aB)(room:I_):(iD f room).length<=Z' f.aoE*(Z' f.aoF+Z' f.aoC+1)+Z' f.aoC:=by
 unfold iD;rw[apV,apP,atT];have e:∀n,((apQ n).flatMap (iF f)).length<=n*(Z' f.aoF+Z' f.aoC+1):=by
  intro n
  induction n with
  |zero=>simp
  |succ n i =>rw[arV,atX,apV,asL];have:=Eh f n;simp only[atH,List.flatMap_nil,aqY];omega
 have:=e f.aoE.length;omega
theorem P0{f:aB}(h:VF f)(room:I_):lE (jN f room):=by
 obtain⟨s1,s2,s3,s4,K,L⟩:=h.small;have E:cU f f.aoC.length=cU f 0+Z' f.aoC:=by unfold cU;omega
 have J:Z' f.aoE*Z' f.aoF<=12*40:=atU Om Om;have B:=h.root.1;have hb:cU f 0=2+Z' f.aoE*Z' f.aoF:=rfl;refine⟨?_,?_,?_,?_,?_,(show(0:Nat)≠1 by decide),λa ha=>?_⟩;show 2<=cU f f.aoC.length;omega;show cU f f.aoC.length<=700;omega;refine aqX (Vo f room) ?_;have:Z' f.aoE*(Z' f.aoF+Z' f.aoC+1)<=12*(40+24+1):=atU Om Om;omega;show 0<cU f f.aoC.length;omega;show 1<cU f f.aoC.length;omega;show a.src<cU f f.aoC.length/\a.dst<cU f f.aoC.length/\a.cap<=2147483647;have w:∀d,d<Z' f.aoC->cU f d<cU f f.aoC.length:=λd w=>by unfold cU;omega
 rcases aqZ.1 (show a∈iD f room from ha)with ha|ha
 obtain⟨v,u,ha⟩:=List.mem_flatMap.1 ha;have u:=aqN.1 u;obtain⟨b1,b2,D,y⟩:=wC h u;rcases aqG.1 ha with rfl|ha
 have:=(mD h u B).2;simp only[dM,if_true]at this;simp only;exact⟨by omega,by omega,by omega⟩;rcases aqZ.1 ha with ha|ha
 obtain⟨k,x,rfl⟩:=aqJ.1 ha;have x:=aqN.1 x;have hp:=(h.dom (k+1) Om Om).2.1;have A:=(mD h u (i:=jB f (k+1)) Om).2;have F:=(mD h u (i:=k+1) Om).2;have:=y (k+1);simp only[pB];exact⟨by omega,by omega,by omega⟩;obtain⟨d,l,rfl⟩:=aqJ.1 ha;have e:=aqN.1 (asQ.1 l).1;have A:=(mD h u (i:=cD f d) (h.drive d e).2.2.2.1).2;have:=w d e;simp only[iP];exact⟨by omega,this,by omega⟩;obtain⟨d,l,rfl⟩:=aqJ.1 ha;have e:=aqN.1 l;have:=w d e;have:=PO h room e;simp only[sO];exact⟨by omega,by omega,by omega⟩
def inD(f:aB)(i d:Nat):Bool:=decide (cL f d (lvl f i)=i)
structure DC(f:aB)(room:I_)(u:Nat->Nat->Bool):Prop where
 num:∀v,v<Z' f.aoE->jZ (u v) f.aoC.length=iQ f v
 ok:∀v d,v<Z' f.aoE->d<Z' f.aoC->u v d=true->okD f v d=true
 bound:∀v i,v<Z' f.aoE->0<i->i<Z' f.aoF->dR f (bF f v) i≠0->jZ (λd=>u v d&&inD f i d) f.aoC.length<=(dR f (bF f v) i).toNat
 room:∀d,d<Z' f.aoC->jZ (λv=>u v d) f.aoE.length<=XH f room d
theorem tG(S:Nat->Bool):∀l m:List dD,lW S (l++m)=lW S l+lW S m
 |[],m=>by simp[lW]
 |a::l,m=>by rw[asV,lW,lW,tG S l m];omega
def pA(S:Nat->Bool)(a:dD):Nat:=if S a.src=true/\S a.dst=false then a.cap else 0
theorem bg(S:Nat->Bool)(F:Nat->dD):∀n,lW S ((apQ n).map F)=dC (λk=>pA S (F k)) n
 |0=>rfl
 |n+1=>by rw[arV,aqP,tG,bg S F n,dC];rfl
theorem te(S:Nat->Bool)(F:Nat->List dD):∀n,lW S ((apQ n).flatMap F)=dC (λk=>lW S (F k)) n
 |0=>rfl
 |n+1=>by rw[arV,atX,tG,te S F n,dC];simp
theorem YC(S:Nat->Bool)(F:Nat->dD)(p:Nat->Bool):∀n,lW S (((apQ n).filter p).map F)=dC (λk=>if p k=true then pA S (F k)else 0) n
 |0=>rfl
 |n+1=>by rw[arV,List.filter_append,aqP,tG,YC S F p n,dC];cases h:p n<;>simp[h,lW,pA]
theorem Li(a b:Bool)(h:a=true->b=true):one a<=one b:=by
 cases a<;>cases b<;>simp_all [one]
theorem Hv(a b:Bool):one (a&&b)=one a*one b:=by cases a<;>cases b<;>rfl
theorem N9{f:aB}(h:VF f){d:Nat}(x:d<Z' f.aoC)(S:Nat->Bool)(D:Nat->Nat)(w:S (D 0)=true):∀k,k<=4->S (D (upN f k (cD f d)))=false->∃i,0<i/\i<Z' f.aoF/\inD f i d=true/\S (D (jB f i))=true/\S (D i)=false:=by
 have top:upN f 4 (cD f d)=0:=by
  obtain⟨a,b⟩:=wS h x (k:=4) (apU _);rcases arZ (upN f 4 (cD f d))with e|e
  exact e;have:=(h.dom _ e a).2.2.2.1;omega
 intro k y l;obtain⟨m,B⟩:∃m,m=4-k:=⟨_,rfl⟩
 induction m generalizing k with
 |zero =>have:k=4:=Om;subst this;rw[top,w]at l;cases l
 |succ m A=>
  cases hp:S (D (upN f (k+1) (cD f d)))with
  |false=>exact A (k+1) Om hp Om
  |true=>
   obtain⟨a,b⟩:=wS h x y;have u:0<upN f k (cD f d):=by
    rcases arZ (upN f k (cD f d))with e|e
    rw[e,w]at l;cases l;exact e
   refine⟨upN f k (cD f d),u,a,?_,hp,l⟩;unfold inD cL;rw[b,dT_];congr 1;omega
theorem DC.vol{f:aB}(h:VF f){room:I_}{u:Nat->Nat->Bool}(A:DC f room u)(S:Nat->Bool)(L:S 0=true){v:Nat}(D:v<Z' f.aoE) :
  iQ f v<=lW S (iF f v)+dC (λd=>one (u v d)*one (S (cU f d))) f.aoC.length:=by
 have N:lW S (iF f v)=pA S ⟨0,2+v,iQ f v⟩+(dC (λk=>pA S (pB f v k)) (Z' f.aoF-1)+dC (λd=>if okD f v d=true then pA S (iP f v d)else 0) f.aoC.length):=by unfold iF;rw[lW,tG,bg,YC];rfl
 rw[N];cases K:S (2+v)with
 |false=>
  have:pA S ⟨0,2+v,iQ f v⟩=iQ f v:=by unfold pA;simp[L,K]
  omega
 |true=>
  have l:S (dM f v 0)=true:=K;have each:∀d,d<Z' f.aoC->one (u v d)<=one (u v d)*one (S (cU f d))+((if okD f v d=true then pA S (iP f v d)else 0)+dC (λk=>one (u v d&&inD f (k+1) d)*one (S (dM f v (jB f (k+1)))&&!S (dM f v (k+1)))) (Z' f.aoF-1)):=by
   intro d F;cases R:u v d with
   |false=>exact apR _
   |true=>
    have B:=A.ok v d D F R;cases M:S (cU f d)with
    |true=>rw[EF];omega
    |false=>
     cases E:S (dM f v (cD f d))with
     |true=>
      have:pA S (iP f v d)=1:=by unfold pA iP;simp[M,E]
      rw[aE B,this,EF,IT];omega
     |false =>obtain⟨i,X,Y,U,V,W⟩:=N9 h F S (dM f v) l 0 Om E;have J:=Ik (g:=λk=>one (true&&inD f (k+1) d)*one (S (dM f v (jB f (k+1)))&&!S (dM f v (k+1)))) (n:=Z' f.aoF-1) (k:=i-1) Om;simp only[show i-1+1=i by omega,U,V,W,EF,Bool.and_self,aqI]at J;rw[EF,IT];omega
  have w:=A.num v D;have x:=AY (n:=Z' f.aoC) each;rw[AX,AX,JG]at x;have y:dC (λk=>dC (λd=>one (u v d&&inD f (k+1) d)*one (S (dM f v (jB f (k+1)))&&!S (dM f v (k+1)))) f.aoC.length) (Z' f.aoF-1)<=dC (λk=>pA S (pB f v k)) (Z' f.aoF-1):=by
   refine AY λk J=>?_;have e:dC (λd=>one (u v d&&inD f (k+1) d)*one (S (dM f v (jB f (k+1)))&&!S (dM f v (k+1)))) f.aoC.length=one (S (dM f v (jB f (k+1)))&&!S (dM f v (k+1)))*jZ (λd=>u v d&&inD f (k+1) d) f.aoC.length:=by unfold jZ;rw[<-QE];exact iU λd _=>arW _ _
   rw[e];unfold pA pB;simp only;cases g1:S (dM f v (jB f (k+1)))<;>cases g2:S (dM f v (k+1))<;>simp only[EF,IT,arE,aqD,aqI,aqC,Bool.and_self,arO,if_false,if_true,Nat.zero_mul,Nat.one_mul,and_false,false_and,and_self,apU,apR,reduceCtorEq];unfold BK;split;have:jZ (λd=>u v d&&inD f (k+1) d) f.aoC.length<=jZ (u v) f.aoC.length:=AY λd _=>Li _ _ λh=>by rw[apT]at h;exact h.1
   omega;rename_i O;exact A.bound v (k+1) D Om Om O
  unfold jZ at w;omega
theorem DC.cut{f:aB}(h:VF f){room:I_}{u:Nat->Nat->Bool}(A:DC f room u)(S:Nat->Bool)(l:S 0=true)(w:S 1=false):MN f<=lW S (iD f room):=by
 unfold iD;rw[tG,te,bg];have i:MN f<=dC (λv=>lW S (iF f v)+dC (λd=>one (u v d)*one (S (cU f d))) f.aoC.length) f.aoE.length:=AY λv y=>A.vol h S l y;rw[AX,JG]at i;have e2:dC (λd=>dC (λv=>one (u v d)*one (S (cU f d))) f.aoE.length) f.aoC.length<=dC (λk=>pA S (sO f room k)) f.aoC.length:=by
  refine AY λd x=>?_;have e:dC (λv=>one (u v d)*one (S (cU f d))) f.aoE.length=one (S (cU f d))*jZ (λv=>u v d) f.aoE.length:=by unfold jZ;rw[<-QE];exact iU λv _=>arW _ _
  rw[e];have:=A.room d x;unfold pA sO;simp only[w];cases S (cU f d)with
  |false=>simp[IT]
  |true=>simp[EF];exact this
 omega
def fB(g:Nat->Int):Nat->Int
 |0=>0
 |n+1=>fB g n+g n
theorem Dy(g h:Nat->Int):∀n,fB (λk=>g k+h k) n=fB g n+fB h n
 |0=>rfl
 |n+1=>by rw[fB,fB,fB,Dy g h n];omega
theorem fH{g h:Nat->Int}:∀{n:Nat},(∀k,k<n->g k=h k)->fB g n=fB h n
 |0,_=>rfl
 |n+1,e=>by rw[fB,fB,fH (n:=n) λk i=>e k Om,e n Om]
theorem oS:∀n,fB (λ_=>0) n=0
 |0=>rfl
 |n+1=>by rw[fB,oS n];rfl
theorem HS(g:Nat->Int)(a:Nat):∀{n:Nat},a<n->fB (λk=>if k=a then g k else 0) n=g a
 |0,h=>by omega
 |n+1,h=>by rw[fB];by_cases e:n=a;subst e;rw[fH (h:=λ_=>0) (n:=n) λk i=>by rw[aC Om],oS,aE rfl];omega;rw[HS g a (n:=n) Om,aC e];omega
theorem HR(g:Nat->Nat):∀n,fB (λk=>(g k:Int)) n=(dC g n:Int)
 |0=>rfl
 |n+1=>by rw[fB,dC,HR g n];simp
theorem gn(g:Nat->Int):∀n,fB (λk=>- g k) n=- fB g n
 |0=>rfl
 |n+1=>by rw[fB,fB,gn g n];omega
def jA(a:dD)(x:Nat)(w:Nat):Int:=(if a.src=w then(x:Int)else 0)-(if a.dst=w then(x:Int)else 0)
theorem ED(w:Nat):∀{l:List dD}{xs:N_}(m:List dD)(ys:N_),Z' l=Z' xs->gG (l++m) (xs++ys) w=gG l xs w+gG m ys w
 |[],[],m,ys,_=>by simp[gG]
 |[],_::_,_,_,h=>by simp at h
 |_::_,[],_,_,h=>by simp at h
 |a::l,x::xs,m,ys,h=>by rw[asV,asV,gG,gG,ED w m ys (by simpa using h)];omega
theorem rx(w:Nat)(L:N_)(F:Nat->dD)(y:Nat->Nat):gG (L.map F) (L.map y) w=(L.map λk=>jA (F k) (y k) w).sum:=by
 induction L with
 |nil=>rfl
 |cons a L e=>rw[aqQ,aqQ,gG,e,aqQ,List.sum_cons];rfl
theorem VE(g:Nat->Int):∀n,((apQ n).map g).sum=fB g n
 |0=>rfl
 |n+1=>by rw[arV,aqP,List.sum_append,VE g n,fB];simp
theorem nc(g:Nat->Int)(p:Nat->Bool):∀n,(((apQ n).filter p).map g).sum=fB (λk=>if p k=true then g k else 0) n
 |0=>rfl
 |n+1=>by rw[arV,List.filter_append,aqP,List.sum_append,nc g p n,fB];cases h:p n<;>simp[h]
theorem Cl(w:Nat)(F:Nat->List dD)(X:Nat->N_):∀n,(∀v,v<n->(F v).length=(X v).length)->gG ((apQ n).flatMap F) ((apQ n).flatMap X) w=fB (λv=>gG (F v) (X v) w) n
 |0,_=>rfl
 |n+1,h=>by
  have i:((apQ n).flatMap F).length=((apQ n).flatMap X).length:=by rw[List.length_flatMap,List.length_flatMap];congr 1;exact arQ λv e=>h v (by have:=aqN.1 e;omega)
  rw[arV,atX,atX,ED w _ _ i,Cl w F X n λv e=>h v Om,fB];simp
theorem OA:∀{L:N_}{Y:N_},L.Nodup->Z' Y=Z' L->∃h:Nat->Nat,Y=L.map h
 |[],[],_,_=>⟨λ_=>0,rfl⟩
 |[],_::_,_,h=>by simp at h
 |_::_,[],_,h=>by simp at h
 |a::L,y::Y,x,w=>by obtain⟨i,l⟩:=List.nodup_cons.1 x;obtain⟨h,rfl⟩:=OA l (show Y.length=L.length by simpa using w);refine⟨λd=>if d=a then y else h d,?_⟩;rw[aqQ];refine List.cons_eq_cons.2 ⟨(aE rfl).symm,arQ λd u=>?_⟩;have:¬d=a:=λe=>i (by rw[<-e];exact u);exact(aC this).symm
theorem A2(F:Nat->List dD):∀(n:Nat)(xs:N_),Z' xs=((apQ n).flatMap F).length->∃X:Nat->N_,xs=(apQ n).flatMap X/\∀v,v<n->(X v).length=(F v).length
 |0,xs,h=>⟨λ_=>[],by
   have:xs=[]:=by simpa using h
   rw[this];rfl,λv i=>by omega⟩
 |n+1,xs,h=>by
  rw[arV,atX,apV]at h;have l:([n].flatMap F).length=(F n).length:=by simp
  rw[l]at h;obtain⟨X,u,w⟩:=A2 F n (xs.take ((apQ n).flatMap F).length) (by rw[aqF];omega);refine⟨λv=>if v=n then xs.drop ((apQ n).flatMap F).length else X v,?_,λv i=>?_⟩;rw[arV,atX];have e:(apQ n).flatMap (λv=>if v=n then xs.drop ((apQ n).flatMap F).length else X v)=(apQ n).flatMap X:=by rw[List.flatMap_def,List.flatMap_def];congr 1;exact arQ λv i=>by rw[aC (by have:=aqN.1 i;omega)]
  rw[e,<-u];simp;by_cases e:v=n;subst e;simp only[if_true];rw[arM];omega;simp only[aC e];exact w v Om
def uV(f:aB)(s:Nat->Nat)(g h:Nat->Nat->Nat)(v:Nat):N_:=s v::((apQ (Z' f.aoF-1)).map (g v)++((apQ f.aoC.length).filter (okD f v)).map (h v))
def sG(f:aB)(s:Nat->Nat)(g h:Nat->Nat->Nat)(t:Nat->Nat):N_:=(apQ f.aoE.length).flatMap (uV f s g h)++(apQ f.aoC.length).map t
theorem BA(f:aB)(s:Nat->Nat)(g h:Nat->Nat->Nat)(v:Nat):(iF f v).length=(uV f s g h v).length:=by
 unfold iF uV;simp
theorem J4(f:aB)(room:I_){xs:N_}(y:Z' xs=(iD f room).length):∃s g h t,xs=sG f s g h t:=by
 unfold iD at y;rw[apV,apP,atT]at y;obtain⟨X,B,x⟩:=A2 (iF f) f.aoE.length (xs.take ((apQ f.aoE.length).flatMap (iF f)).length) (by rw[aqF];omega);obtain⟨t,F⟩:=OA (L:=apQ f.aoC.length) (Y:=xs.drop ((apQ f.aoE.length).flatMap (iF f)).length) List.nodup_range (by rw[arM,atT];omega);have each:∀v,v<Z' f.aoE->∃s0 g0 w,X v=s0::((apQ (Z' f.aoF-1)).map g0++((apQ f.aoC.length).filter (okD f v)).map w):=by
  intro v u;have i:=x v u;unfold iF at i;rw[aqV,apV,apP,apP,atT]at i;cases A:X v with
  |nil=>rw[A]at i;simp at i
  |cons s0 Y =>rw[A,aqV]at i;obtain⟨g0,D⟩:=OA (L:=apQ (Z' f.aoF-1)) (Y:=Y.take (Z' f.aoF-1)) List.nodup_range (by rw[aqF,atT];omega);obtain⟨w,E⟩:=OA (L:=(apQ f.aoC.length).filter (okD f v)) (Y:=Y.drop (Z' f.aoF-1)) (List.nodup_range.filter _) (by rw[arM];omega);exact⟨s0,g0,w,by rw[<-D,<-E,asZ]⟩
 have l:∀v,∃q:Nat × (Nat->Nat) × (Nat->Nat),v<Z' f.aoE->X v=q.1::((apQ (Z' f.aoF-1)).map q.2.1++((apQ f.aoC.length).filter (okD f v)).map q.2.2):=λv=>by by_cases u:v<Z' f.aoE;obtain⟨a,b,c,e⟩:=each v u;exact⟨(a,b,c),λ_=>e⟩;exact⟨(0,λ_=>0,λ_=>0),λh=>absurd h u⟩
 refine⟨λv=>(Classical.choose (l v)).1,λv=>(Classical.choose (l v)).2.1,λv=>(Classical.choose (l v)).2.2,t,?_⟩;unfold sG;rw[<-F];have e:(apQ f.aoE.length).flatMap (uV f (λv=>(Classical.choose (l v)).1) (λv=>(Classical.choose (l v)).2.1) (λv=>(Classical.choose (l v)).2.2))=(apQ f.aoE.length).flatMap X:=by rw[List.flatMap_def,List.flatMap_def];congr 1;exact arQ λv u=>(Classical.choose_spec (l v) (aqN.1 u)).symm
 rw[e,<-B,asZ]
theorem uD{f:aB}{v i v' l:Nat}(E:v<Z' f.aoE)(y:v'<Z' f.aoE)(hi:i<Z' f.aoF)(x:l<Z' f.aoF)(e:dM f v i=dM f v' l):v=v'/\i=l:=by
 unfold dM at e;split at e<;>split at e;omega;omega;omega;rename_i B D;have u:0<Z' f.aoF-1:=Om;have e2:v*(Z' f.aoF-1)+(i-1)=v'*(Z' f.aoF-1)+(l-1):=Om;have w:(v*(Z' f.aoF-1)+(i-1))/(Z' f.aoF-1)=v:=by rw[arW,Nat.mul_add_div u,auC Om,arG]
 have A:(v'*(Z' f.aoF-1)+(l-1))/(Z' f.aoF-1)=v':=by rw[arW,Nat.mul_add_div u,auC Om,arG]
 rw[e2,A]at w;subst w;exact⟨rfl,by omega⟩
theorem XC(f:aB)(s:Nat->Nat)(g h:Nat->Nat->Nat)(v w:Nat):gG (iF f v) (uV f s g h v) w=jA ⟨0,2+v,iQ f v⟩ (s v) w+(fB (λk=>jA (pB f v k) (g v k) w) (Z' f.aoF-1)+fB (λd=>if okD f v d=true then jA (iP f v d) (h v d) w else 0) f.aoC.length):=by
 unfold iF uV;rw[gG,ED _ _ _ aX,rx,rx,VE,nc];rfl
theorem dp(f:aB)(room:I_)(s:Nat->Nat)(g h:Nat->Nat->Nat)(t:Nat->Nat)(w:Nat):gG (iD f room) (sG f s g h t) w=fB (λv=>gG (iF f v) (uV f s g h v) w) f.aoE.length+fB (λd=>jA (sO f room d) (t d) w) f.aoC.length:=by
 unfold iD sG;rw[ED,Cl _ _ _ _ λv _=>BA f s g h v,rx,VE];rw[List.length_flatMap,List.length_flatMap];congr 1;exact arQ λv _=>BA f s g h v
theorem Le{f:aB}(hV:VF f)(room:I_)(s:Nat->Nat)(g h:Nat->Nat->Nat)(t:Nat->Nat):gG (iD f room) (sG f s g h t) 0=(dC s f.aoE.length:Nat):=by
 rw[dp,<-HR];have u:fB (λd=>jA (sO f room d) (t d) 0) f.aoC.length=0:=by rw[fH (h:=λ_=>0) λd l=>?_,oS];unfold jA sO cU;simp only;rw[aC Om,aC Om];rfl
 rw[u,Int.add_zero];refine fH λv e=>?_;rw[XC];have e2:fB (λk=>jA (pB f v k) (g v k) 0) (Z' f.aoF-1)=0:=by rw[fH (h:=λ_=>0) λk A=>?_,oS];have x:=(mD hV e (i:=jB f (k+1)) (by have:=(hV.dom (k+1) Om Om).2.1;omega)).1;have y:=(mD hV e (i:=k+1) Om).1;unfold jA pB;simp only;rw[aC Om,aC Om];rfl
 have w:fB (λd=>if okD f v d=true then jA (iP f v d) (h v d) 0 else 0) f.aoC.length=0:=by
  rw[fH (h:=λ_=>0) λd l=>?_,oS];have x:=(mD hV e (i:=cD f d) (hV.drive d l).2.2.2.1).1;have z:jA (iP f v d) (h v d) 0=0:=by unfold jA iP cU;simp only;rw[aC Om,aC Om];rfl
  rw[z];split<;>rfl
 rw[e2,w];unfold jA;simp only;rw[aE trivial,aC Om];omega
theorem aaT{f:aB}(hV:VF f)(room:I_)(s:Nat->Nat)(g h:Nat->Nat->Nat)(t:Nat->Nat){v i:Nat}(l:v<Z' f.aoE)(hi:i<Z' f.aoF) :
  gG (iD f room) (sG f s g h t) (dM f v i)=fB (λk=>if jB f (k+1)=i then(g v k:Int)else 0) (Z' f.aoF-1)+fB (λd=>if okD f v d=true/\cD f d=i then(h v d:Int)else 0) f.aoC.length-(if i=0 then(s v:Int)else(g v (i-1):Int)):=by
 obtain⟨M,D⟩:=mD hV l hi;rw[dp];have K:fB (λd=>jA (sO f room d) (t d) (dM f v i)) f.aoC.length=0:=by rw[fH (h:=λ_=>0) λd w=>?_,oS];unfold jA sO;unfold cU at D ⊢;simp only;rw[aC Om,aC Om];rfl
 have e2:fB (λv'=>gG (iF f v') (uV f s g h v') (dM f v i)) f.aoE.length=gG (iF f v) (uV f s g h v) (dM f v i):=by
  have:=HS (λv'=>gG (iF f v') (uV f s g h v') (dM f v i)) v l;rw[<-this];refine fH λv' u=>?_;by_cases e:v'=v;rw[aE e];rw[aC e,XC];have a1:jA ⟨0,2+v',iQ f v'⟩ (s v') (dM f v i)=0:=by have L:dM f v' 0≠dM f v i:=λh=>e (uD u l hV.root.1 hi h).1;have A:2+v'≠dM f v i:=L;unfold jA;simp only;rw[aC Om,aC A];rfl
  have a2:fB (λk=>jA (pB f v' k) (g v' k) (dM f v i)) (Z' f.aoF-1)=0:=by rw[fH (h:=λ_=>0) λk B=>?_,oS];have hp:=(hV.dom (k+1) Om Om).2.1;unfold jA pB;simp only;rw[aC λh=>e (uD u l Om hi h).1,aC λh=>e (uD u l Om hi h).1];rfl
  have a3:fB (λd=>if okD f v' d=true then jA (iP f v' d) (h v' d) (dM f v i)else 0) f.aoC.length=0:=by
   rw[fH (h:=λ_=>0) λd w=>?_,oS];have z:jA (iP f v' d) (h v' d) (dM f v i)=0:=by unfold jA iP;simp only;rw[aC λh=>e (uD u l (hV.drive d w).2.2.2.1 hi h).1,aC (show ¬cU f d=dM f v i by unfold cU at D ⊢;omega)];rfl
   rw[z];split<;>rfl
  rw[a1,a2,a3];rfl
 rw[K,e2,Int.add_zero,XC];have b1:jA ⟨0,2+v,iQ f v⟩ (s v) (dM f v i)=- if i=0 then(s v:Int)else 0:=by unfold jA;simp only;rw[aC Om];by_cases e:i=0;subst e;rw[aE rfl,aE (show 2+v=dM f v 0 from rfl)];omega;have:¬2+v=dM f v i:=λh=>e ((uD l l hV.root.1 hi (show dM f v 0=dM f v i from h)).2).symm;rw[aC e,aC this];rfl
 have b2:fB (λk=>jA (pB f v k) (g v k) (dM f v i)) (Z' f.aoF-1)=fB (λk=>if jB f (k+1)=i then(g v k:Int)else 0) (Z' f.aoF-1)-(if i=0 then 0 else(g v (i-1):Int)):=by
  have x:fB (λk=>if k+1=i then(g v k:Int)else 0) (Z' f.aoF-1)=if i=0 then 0 else(g v (i-1):Int):=by by_cases e:i=0;subst e;rw[aE rfl,fH (h:=λ_=>0) λk B=>by rw[aC Om],oS];rw[aC e,<-HS (λk=>(g v k:Int)) (i-1) (n:=Z' f.aoF-1) Om];refine fH λk B=>?_;by_cases c:k+1=i;rw[aE c,aE Om];rw[aC c,aC Om]
  have:fB (λk=>jA (pB f v k) (g v k) (dM f v i)) (Z' f.aoF-1)=fB (λk=>(if jB f (k+1)=i then(g v k:Int)else 0)+- (if k+1=i then(g v k:Int)else 0)) (Z' f.aoF-1):=by refine fH λk B=>?_;have hp:=(hV.dom (k+1) Om Om).2.1;unfold jA pB;simp only;have y:dM f v (jB f (k+1))=dM f v i↔jB f (k+1)=i:=⟨λh=>(uD l l Om hi h).2,λh=>by rw[h]⟩;have J:dM f v (k+1)=dM f v i↔k+1=i:=⟨λh=>(uD l l Om hi h).2,λh=>by rw[h]⟩;simp only[y,J];omega
  rw[this,Dy,gn,x];rfl
 have E:fB (λd=>if okD f v d=true then jA (iP f v d) (h v d) (dM f v i)else 0) f.aoC.length=fB (λd=>if okD f v d=true/\cD f d=i then(h v d:Int)else 0) f.aoC.length:=by refine fH λd w=>?_;have y:dM f v (cD f d)=dM f v i↔cD f d=i:=⟨λh=>(uD l l (hV.drive d w).2.2.2.1 hi h).2,λh=>by rw[h]⟩;unfold jA iP;simp only[y];rw[aC (show ¬cU f d=dM f v i by unfold cU at D ⊢;omega)];by_cases x:okD f v d=true<;>by_cases F:cD f d=i<;>simp[x,F]
 rw[b1,b2,E];split<;>omega
theorem aaU{f:aB}(hV:VF f)(room:I_)(s:Nat->Nat)(g h:Nat->Nat->Nat)(t:Nat->Nat){d:Nat}(y:d<Z' f.aoC) :
  gG (iD f room) (sG f s g h t) (cU f d)=(t d:Int)-fB (λv=>if okD f v d=true then(h v d:Int)else 0) f.aoE.length:=by
 rw[dp];have w:∀v i,v<Z' f.aoE->i<Z' f.aoF->dM f v i≠cU f d:=λv i u hi e=>by have:=(mD hV u hi).2;unfold cU at this e;omega
 have A:fB (λl=>jA (sO f room l) (t l) (cU f d)) f.aoC.length=(t d:Int):=by rw[<-HS (λl=>(t l:Int)) d y];refine fH λl _=>?_;unfold jA sO cU;simp only;rw[aC (Om:¬1=2+Z' f.aoE*Z' f.aoF+d)];by_cases e:l=d;rw[aE e,aE Om];omega;rw[aC e,aC Om];rfl
 have e2:fB (λv=>gG (iF f v) (uV f s g h v) (cU f d)) f.aoE.length=fB (λv=>- (if okD f v d=true then(h v d:Int)else 0)) f.aoE.length:=by
  refine fH λv u=>?_;rw[XC];have a1:jA ⟨0,2+v,iQ f v⟩ (s v) (cU f d)=0:=by have B:2+v≠cU f d:=w v 0 u hV.root.1;unfold jA;simp only;rw[aC (by unfold cU;omega),aC B];rfl
  have a2:fB (λk=>jA (pB f v k) (g v k) (cU f d)) (Z' f.aoF-1)=0:=by rw[fH (h:=λ_=>0) λk D=>?_,oS];have hp:=(hV.dom (k+1) Om Om).2.1;unfold jA pB;simp only;rw[aC (w v _ u Om),aC (w v _ u Om)];rfl
  have a3:fB (λl=>if okD f v l=true then jA (iP f v l) (h v l) (cU f d)else 0) f.aoC.length=- (if okD f v d=true then(h v d:Int)else 0):=by have:=HS (λl=>- (if okD f v l=true then(h v l:Int)else 0)) d y;rw[<-this];refine fH λl x=>?_;unfold jA iP;simp only;rw[aC (w v _ u (hV.drive l x).2.2.2.1)];by_cases e:l=d;subst e;rw[aE rfl,aE rfl];split<;>omega;rw[aC (show ¬cU f l=cU f d by unfold cU;omega),aC e];split<;>rfl
  rw[a1,a2,a3];omega
 rw[A,e2,gn];omega
theorem I7{f:aB}(h:VF f){d:Nat}(e:d<Z' f.aoC):cL f d 4=cD f d:=by
 unfold cL;rfl
theorem W7{f:aB}(h:VF f){d i:Nat}(u:d<Z' f.aoC)(hi:i<Z' f.aoF):one (inD f i d)=dC (λk=>one (decide (jB f (k+1)=i)&&inD f (k+1) d)) (Z' f.aoF-1)+one (decide (cD f d=i)):=by
 have L:=h.kQ hi;have F:=h.drive d u;by_cases c:lvl f i=4;have l:dC (λk=>one (decide (jB f (k+1)=i)&&inD f (k+1) d)) (Z' f.aoF-1)=0:=by
  rw[iU (h:=λ_=>0) λk B=>?_,CP];obtain⟨g1,g2,g3,g4,E⟩:=h.dom (k+1) Om Om;have:¬jB f (k+1)=i:=λe=>by rw[e]at g3;omega
  rw[bG this,aqD];rfl
 rw[l,aqA];unfold inD;rw[c,I7 h u];have l:¬cD f d=i:=λe=>c (by rw[<-e];exact F.2.2.2.2);obtain⟨a1,a2⟩:=iz h u (lev:=lvl f i+1) Om Om;have K:0<cL f d (lvl f i+1):=by
  rcases arZ (cL f d (lvl f i+1))with e|e
  rw[e,h.root.2.1]at a2;omega;exact e
 have hp:jB f (cL f d (lvl f i+1))=cL f d (lvl f i):=by unfold cL;rw[show 4-(lvl f i).toNat=(4-(lvl f i+1).toNat)+1 by omega,upN]
 rw[bG l,show one false=0 from rfl,arG];have e2:∀k,k<Z' f.aoF-1->one (decide (jB f (k+1)=i)&&inD f (k+1) d)=if k=cL f d (lvl f i+1)-1 then one (inD f i d)else 0:=by
  intro k B;obtain⟨g1,g2,g3,g4,E⟩:=h.dom (k+1) Om Om;by_cases e:k=cL f d (lvl f i+1)-1;rw[aE e];have A:k+1=cL f d (lvl f i+1):=Om;have t:inD f (k+1) d=true:=by unfold inD;rw[A,a2,dT_]
  rw[t,arY,A,hp];rfl;rw[aC e];by_cases y:jB f (k+1)=i;have:inD f (k+1) d=false:=by unfold inD;rw[decide_eq_false_iff_not];intro D;rw[y]at g3;rw[show lvl f (k+1)=lvl f i+1 by omega]at D;omega
  rw[this,arE];rfl;rw[bG y,aqD];rfl
 rw[iU e2];have w:∀(n a x:Nat),a<n->dC (λk=>if k=a then x else 0) n=x:=by
  intro n
  induction n with
  |zero=>intro a x h;omega
  |succ n J =>intro a x h;rw[dC];by_cases e:n=a;subst e;rw[iU (h:=λ_=>0) λk B=>by rw[aC Om],CP,aE rfl];omega;rw[J a x Om,aC e];rfl
 rw[w _ _ _ Om]
structure Yw(f:aB)(room:I_)(s:Nat->Nat)(g h:Nat->Nat->Nat)(t:Nat->Nat):Prop where
 s:∀v,v<Z' f.aoE->s v<=iQ f v
 g:∀v k,v<Z' f.aoE->k<Z' f.aoF-1->g v k<=BK f v (k+1)
 h:∀v d,v<Z' f.aoE->d<Z' f.aoC->okD f v d=true->h v d<=1
 t:∀d,d<Z' f.aoC->t d<=XH f room d
theorem TP{l m:List dD}{xs ys:N_}(w:Z' l=Z' xs)(h:∀(i:Nat) a x,(l++m)[i]?=some a->(xs++ys)[i]?=some x->x<=a.cap) :
  (∀(i:Nat) a x,l[i]?=some a->xs[i]?=some x->x<=a.cap)/\∀(i:Nat) a x,m[i]?=some a->ys[i]?=some x->x<=a.cap:=by
 constructor;intro i a x e u;have y:=(aqU.1 e).1;exact h i a x (by rw[asE y];exact e) (by rw[asE Om];exact u);intro i a x e u;exact h (Z' l+i) a x (by rw[arS Om,Nat.add_sub_cancel_left];exact e) (by rw[arS Om,w,Nat.add_sub_cancel_left];exact u)
theorem Bt{L:N_}{F:Nat->dD}{y:Nat->Nat}(h:∀(i:Nat) a x,(L.map F)[i]?=some a->(L.map y)[i]?=some x->x<=a.cap):∀k∈L,y k<=(F k).cap:=by
 intro k e;obtain⟨i,hi,rfl⟩:=arF e;exact h i _ _ (by rw[aqE,apZ hi];rfl) (by rw[aqE,apZ hi];rfl)
theorem He{F:Nat->List dD}{X:Nat->N_}:∀{n:Nat},(∀v,v<n->(F v).length=(X v).length)->(∀(i:Nat) a x,((apQ n).flatMap F)[i]?=some a->((apQ n).flatMap X)[i]?=some x->x<=a.cap)->∀v,v<n->∀(i:Nat) a x,(F v)[i]?=some a->(X v)[i]?=some x->x<=a.cap
 |0,_,_,v,u=>by omega
 |n+1,w,h,v,u=>by
  rw[arV,atX,atX]at h;have l:((apQ n).flatMap F).length=((apQ n).flatMap X).length:=by rw[List.length_flatMap,List.length_flatMap];congr 1;exact arQ λv u=>w v (by have:=aqN.1 u;omega)
  obtain⟨y,A⟩:=TP l h;by_cases e:v=n;subst e;simpa using A;exact He (λv u=>w v Om) y v Om
theorem Vz{f:aB}{room:I_}{s:Nat->Nat}{g h:Nat->Nat->Nat}{t:Nat->Nat}(u:∀(i:Nat) a x,(iD f room)[i]?=some a->(sG f s g h t)[i]?=some x->x<=a.cap):Yw f room s g h t:=by
 unfold iD sG at u;have w:((apQ f.aoE.length).flatMap (iF f)).length=((apQ f.aoE.length).flatMap (uV f s g h)).length:=by rw[List.length_flatMap,List.length_flatMap];congr 1;exact arQ λv _=>BA f s g h v
 obtain⟨B,D⟩:=TP w u;have E:=He (λv _=>BA f s g h v) B;have F:=Bt D;have each:∀v,v<Z' f.aoE->s v<=iQ f v/\(∀k,k<Z' f.aoF-1->g v k<=BK f v (k+1))/\∀d,d<Z' f.aoC->okD f v d=true->h v d<=1:=by intro v e;have h5:=E v e;unfold iF uV at h5;refine⟨h5 0 _ _ rfl rfl,?_⟩;have J:∀(i:Nat) a x,((apQ (Z' f.aoF-1)).map (pB f v)++((apQ f.aoC.length).filter (okD f v)).map (iP f v))[i]?=some a->((apQ (Z' f.aoF-1)).map (g v)++((apQ f.aoC.length).filter (okD f v)).map (h v))[i]?=some x->x<=a.cap:=λi a x K M=>h5 (i+1) a x (by simpa using K) (by simpa using M);obtain⟨h7,h8⟩:=TP aX J;exact⟨λk y=>Bt h7 k (aqN.2 y),λd l A=>Bt h8 d (asQ.2 ⟨aqN.2 l,A⟩)⟩
 exact⟨λv e=>(each v e).1,λv k e y=>(each v e).2.1 k y,λv d e l L=>(each v e).2.2 d l L,λd l=>F d (aqN.2 l)⟩
def nB(f:aB)(h:Nat->Nat->Nat)(v d:Nat):Bool:=okD f v d&&decide (h v d≠0)
theorem T6{f:aB}(hV:VF f){room:I_}{s:Nat->Nat}{g h:Nat->Nat->Nat}{t:Nat->Nat}(M:kN (jN f room) (sG f s g h t))(A:(MN f:Int)<=rR (jN f room) (sG f s g h t)):DC f room (nB f h):=by
 have P:=Vz M.le;have J:∀v,v<Z' f.aoE->s v=iQ f v:=by
  have x:rR (jN f room) (sG f s g h t)=(dC s f.aoE.length:Nat):=Le hV room s g h t;rw[x]at A;have D:MN f<=dC s f.aoE.length:=Om;clear A x;unfold MN at D;have F:=P.s;generalize f.aoE.length=n at *
  induction n with
  |zero=>intro v l;omega
  |succ n L =>rw[dC,dC]at D;have X:=F n Om;have Y:dC s n<=dC (iQ f) n:=AY λv l=>F v Om;intro v l;by_cases e:v=n;subst e;omega;exact L Om (λv l=>F v Om) v Om
 have nodes:∀w,2<=w->w<cU f f.aoC.length->gG (iD f room) (sG f s g h t) w=0:=λw x D=>M.node w D (by show w≠0;omega) (by show w≠1;omega);have y:∀v d,v<Z' f.aoE->d<Z' f.aoC->one (nB f h v d)=if okD f v d=true then h v d else 0:=by
  intro v d l u;unfold nB;cases V:okD f v d with
  |false=>rfl
  |true =>have:=P.h v d l u V;simp only[aqL,if_true];by_cases e:h v d=0;rw[e];rfl;rw[aZ e];have:h v d=1:=Om;rw[this];rfl
 have below:∀v,v<Z' f.aoE->∀(m i:Nat),Z' f.aoF-i=m->i<Z' f.aoF->(if i=0 then s v else g v (i-1))=jZ (λd=>nB f h v d&&inD f i d) f.aoC.length:=by
  intro v l m
  induction m using Nat.strongRecOn with
  |ind m L=>
   intro i N hi;have B:=nodes (dM f v i) (mD hV l hi).1 (by have:=(mD hV l hi).2;unfold cU at this ⊢;omega);rw[aaT hV room s g h t l hi]at B;have E:fB (λk=>if jB f (k+1)=i then(g v k:Int)else 0) (Z' f.aoF-1)=(dC (λk=>if jB f (k+1)=i then jZ (λd=>nB f h v d&&inD f (k+1) d) f.aoC.length else 0) (Z' f.aoF-1):Nat):=by rw[<-HR];refine fH λk U=>?_;by_cases c:jB f (k+1)=i;have hp:=(hV.dom (k+1) Om Om).2.1;have:=L (Z' f.aoF-(k+1)) Om (k+1) rfl Om;rw[aC Om,Nat.add_sub_cancel]at this;rw[aE c,aE c,this];rw[aC c,aC c];rfl
   have e2:fB (λd=>if okD f v d=true/\cD f d=i then(h v d:Int)else 0) f.aoC.length=(dC (λd=>one (nB f h v d)*one (decide (cD f d=i))) f.aoC.length:Nat):=by rw[<-HR];refine fH λd u=>?_;rw[y v d l u];by_cases O:okD f v d=true<;>by_cases R:cD f d=i<;>simp[O,R,EF,IT]
   have S:jZ (λd=>nB f h v d&&inD f i d) f.aoC.length=dC (λk=>if jB f (k+1)=i then jZ (λd=>nB f h v d&&inD f (k+1) d) f.aoC.length else 0) (Z' f.aoF-1)+dC (λd=>one (nB f h v d)*one (decide (cD f d=i))) f.aoC.length:=by
    have a1:jZ (λd=>nB f h v d&&inD f i d) f.aoC.length=dC (λd=>dC (λk=>one (nB f h v d)*one (decide (jB f (k+1)=i)&&inD f (k+1) d)) (Z' f.aoF-1)+one (nB f h v d)*one (decide (cD f d=i))) f.aoC.length:=by unfold jZ;refine iU λd u=>?_;rw[Hv,W7 hV u hi,arH,QE]
    rw[a1,AX,JG];congr 1;refine iU λk U=>?_;by_cases c:jB f (k+1)=i;rw[aE c,aZ c];unfold jZ;exact iU λd _=>by rw[aqL];exact(Hv _ _).symm
    rw[aC c,bG c,iU (h:=λ_=>0) λd _=>by rw[aqD];rfl,CP]
   rw[E,e2]at B;rw[S];split<;>rename_i c;rw[aE c]at B;omega;rw[aC c]at B;omega
 have root:∀d,d<Z' f.aoC->inD f 0 d=true:=λd u=>by
  unfold inD;rw[hV.root.2.1,dT_];obtain⟨a,b⟩:=iz hV u (lev:=0) Om Om;rcases arZ (cL f d 0)with e|e
  exact e;have:=(hV.dom _ e a).2.2.2.1;omega
 refine⟨λv l=>?_,λv d l u K=>?_,λv i l W hi N=>?_,λd u=>?_⟩;have:=below v l _ 0 rfl hV.root.1;rw[aE rfl,J v l]at this;rw[this];unfold jZ;exact iU λd u=>by show one _=one (nB f h v d&&inD f 0 d);rw[root d u,arY]
 unfold nB at K;rw[apT]at K;exact K.1;have:=below v l _ i rfl hi;rw[aC Om]at this;rw[<-this];have x:=P.g v (i-1) l Om;rw[show i-1+1=i by omega]at x;unfold BK at x;rw[aC N]at x;exact x;have B:=nodes (cU f d) (by unfold cU;omega) (by unfold cU;omega);rw[aaU hV room s g h t u]at B;have E:fB (λv=>if okD f v d=true then(h v d:Int)else 0) f.aoE.length=(jZ (λv=>nB f h v d) f.aoE.length:Nat):=by unfold jZ;rw[<-HR];refine fH λv l=>?_;rw[y v d l u];split<;>rfl
 rw[E]at B;have:=P.t d u;omega
theorem sx{f:aB}{p:bY}{v:Nat}{row:I_}:tC f p v row=[]↔(∀i,i<Z' row->0<=row.getD i 0)/\(∀d,d<Z' f.aoC->row.count (d:Int)<=1)/\(∀i,i<Z' row->0<=row.getD i 0->p.aoD.contains ((mdl f (row.getD i 0).toNat:Nat):Int)=true)/\∀i,i<Z' f.aoF->dR f p i>0->fN f row i<=dR f p i:=by
 have e:∀d,d<Z' f.aoC->(fD f.aoC.length row).getD d 0=(row.count (d:Int):Nat):=λd h=>by simp[fD,apY,h]
 have l:∀i,i<Z' f.aoF->(eT f row).getD i 0=fN f row i:=λi h=>by simp[eT,apY,h]
 unfold tC;rw[List.append_eq_nil_iff,List.append_eq_nil_iff,List.append_eq_nil_iff,wT,wT,wT,wT,and_assoc,and_assoc];refine and_congr ?_ (and_congr ?_ (and_congr ?_ ?_));refine forall_congr' λi=>forall_congr' λhi=>?_;unfold home;rw[decide_eq_false_iff_not];omega;refine forall_congr' λd=>forall_congr' λu=>?_;unfold lJ;rw[e d u,decide_eq_false_iff_not];omega;refine forall_congr' λi=>forall_congr' λhi=>?_;unfold dS;by_cases c:0<=row.getD i 0<;>simp[c];refine forall_congr' λi=>forall_congr' λhi=>?_;unfold mW;rw[l i hi,Bool.and_eq_false_iff,decide_eq_false_iff_not,decide_eq_false_iff_not];omega
theorem AZ{f:aB}(i:cP f=true){l:L2_}(u:yO f l)(room:I_):dQ f l room=true↔(∀v (h:v<Z' l),tC f (bF f v) v l[v]=[])/\∀d,d<Z' f.aoC->((l.flatten.count (d:Int):Nat):Int)<=kJ f room d:=by
 rw[TK i u.len];refine and_congr ?_ ?_;unfold qU;rw[List.flatMap_eq_nil_iff];constructor;intro h v i;have:=h v (aqN.2 i);unfold uM at this;rw[u.shape i]at this;have e:l.getD v []=l[v]:=by simp[apY,i]
 rw[e]at this;exact this;intro h v A;have i:=aqN.1 A;unfold uM;rw[u.shape i];have e:l.getD v []=l[v]:=by simp[apY,i]
 simp only;rw[e];exact h v i;refine forall_congr' λd=>forall_congr' λw=>?_;have x:(dG f l).getD d 0=(l.flatten.count (d:Int):Nat):=by simp[dG,fD,apY,w]
 have y:(bM f room).getD d 0=kJ f room d:=by simp[bM,apY,w]
 unfold over;rw[x,y,decide_eq_false_iff_not];omega
theorem count_flatten(d:Int):∀l:L2_,l.flatten.count d=dC (λv=>(l.getD v []).count d) l.length:=by
 intro l;obtain⟨r,rfl⟩:∃r,l=List.reverse r:=⟨l.reverse,by simp⟩
 induction r with
 |nil=>rfl
 |cons x r i =>rw[List.reverse_cons,List.flatten_append,List.count_append,i,apV,aqH,dC];congr 1;refine iU λv e=>?_;rw[apY,apY,asE e];rw[apY,arS (apU _)];simp
theorem Q2{n:Nat}{row:I_}(l:∀x∈row,0<=x/\x<n)(F:∀d:Nat,d<n->row.count (d:Int)<=1)(p:Int->Bool):row.countP p=jZ (λd=>row.contains (d:Int)&&p d) n:=by
 have B:∀m:Nat,row.countP (λx=>decide (x<(m:Int))&&p x)=jZ (λd=>row.contains (d:Int)&&p d) (min m n):=by
  intro m
  induction m with
  |zero =>rw[Nat.zero_min];show _=0;rw[List.countP_eq_zero];intro x i;have:=(l x i).1;simp only[apT,dT_];omega
  |succ m w=>
   by_cases c:m<n;rw[asK Om]at w ⊢;have e:row.countP (λx=>decide (x<((m+1:Nat):Int))&&p x)=row.countP (λx=>decide (x<(m:Int))&&p x)+row.countP (λx=>decide (x=(m:Int))&&p x):=by
    clear w F l
    induction row with
    |nil=>rfl
    |cons y t A=>
     rw[atE,atE,atE,A];have:((if(decide (y<((m+1:Nat):Int))&&p y)=true then 1 else 0):Nat)=(if(decide (y<(m:Int))&&p y)=true then 1 else 0)+(if(decide (y=(m:Int))&&p y)=true then 1 else 0):=by
      cases p y with
      |false=>simp
      |true =>simp only[arY,dT_];by_cases D:y<(m:Int);rw[aE D,aE Om,aC Om];rw[aC D];by_cases E:y=(m:Int);rw[aE E,aE Om];rw[aC E,aC Om]
     omega
   rw[e,w,jZ,jZ,dC];congr 1;have J:=F m c;by_cases hp:p m=true;have:row.countP (λx=>decide (x=(m:Int))&&p x)=row.count (m:Int):=by unfold List.count;refine List.countP_congr λx _=>?_;simp only[apT,dT_,beq_iff_eq];exact⟨λh=>h.1,λh=>⟨h,by rw[h];exact hp⟩⟩
   rw[this,hp,arY];by_cases u:(m:Int)∈row;have K:=List.count_pos_iff.2 u;have h5:row.contains (m:Int)=true:=by simpa using u
   rw[h5,EF];omega;have h5:row.contains (m:Int)=false:=by simpa using u
   rw[h5,IT,List.count_eq_zero_of_not_mem u];have hp:p m=false:=by simpa using hp
   rw[hp,arE,IT,List.countP_eq_zero];intro x i;simp only[apT,dT_];rintro⟨rfl,h⟩;rw[hp]at h;cases h;have e:row.countP (λx=>decide (x<((m+1:Nat):Int))&&p x)=row.countP (λx=>decide (x<(m:Int))&&p x):=by refine List.countP_congr λx i=>?_;have:=l x i;simp only[apT,dT_];exact⟨λh=>⟨by omega,h.2⟩,λh=>⟨by omega,h.2⟩⟩
   rw[e,w,Nat.min_eq_right Om,Nat.min_eq_right Om]
 have:=B n;rw[Nat.min_self]at this;rw[<-this];refine List.countP_congr λx i=>?_;have:=l x i;simp only[apT,dT_];exact⟨λh=>⟨by omega,h⟩,λh=>h.2⟩
theorem Pe(f:aB)(i d:Nat):jR f i (d:Int)=inD f i d:=by
 unfold jR inD;rw[aZ (Om:(0:Int)<=(d:Int)),aqL,arP]
def sN(f:aB)(u:Nat->Nat->Bool)(v:Nat):I_:=cT ((apQ f.aoC.length).filter (u v))
def AN(f:aB)(u:Nat->Nat->Bool):L2_:=(apQ f.aoE.length).map (sN f u)
theorem Di(f:aB)(u:Nat->Nat->Bool)(v:Nat){d:Nat}(i:d<Z' f.aoC):(sN f u v).contains (d:Int)=u v d:=by
 refine Bool.eq_iff_iff.2 ?_;simp only[asW];unfold sN cT;rw[aqJ];constructor;rintro⟨e,he,h⟩;have:e=d:=Om;subst this;exact(asQ.1 he).2;intro h;exact⟨d,asQ.2 ⟨aqN.2 i,h⟩,rfl⟩
theorem XI(f:aB)(u:Nat->Nat->Bool)(v:Nat):(∀x∈sN f u v,0<=x/\x<(Z' f.aoC:Nat))/\(sN f u v).Nodup/\(sN f u v).length=jZ (u v) f.aoC.length:=by
 refine⟨λx l=>?_,?_,?_⟩;obtain⟨d,i,rfl⟩:=aqJ.1 l;have:=aqN.1 (asQ.1 i).1;omega;exact List.Pairwise.map _ (λa b h e=>h Om) (List.nodup_range.filter (u v));unfold sN cT;rw[apP,jh,List.countP_eq_length_filter]
theorem Y1{f:aB}(M:cP f=true){room:I_}{u:Nat->Nat->Bool}(A:DC f room u):yO f (AN f u)/\dQ f (AN f u) room=true:=by
 have hV:=VF.of M;have B:(AN f u).length=Z' f.aoE:=by unfold AN;rw[apP,atT]
 have F:∀v (h:v<(AN f u).length),(AN f u)[v]=sN f u v:=λv h=>(arI _).trans (by rw[auG]);have L:yO f (AN f u):=by
  refine⟨B,λv h=>?_,λr U x E=>?_⟩;have l:v<Z' f.aoE:=by rw[<-B];exact h
  rw[F v h,(XI f u v).2.2,A.num v l,(wC hV l).2.2.1];obtain⟨v,-,rfl⟩:=aqJ.1 U;have:=(XI f u v).1 x E;omega
 refine⟨L,(AZ M L room).2 ⟨λv h=>?_,λd w=>?_⟩⟩;have l:v<Z' f.aoE:=by rw[<-B];exact h
 rw[F v h];obtain⟨b1,b2,O⟩:=XI f u v;have J:∀i (h:i<(sN f u v).length),(sN f u v).getD i 0=(sN f u v)[i]:=λi h=>by simp[apY,h]
 refine sx.2 ⟨λi hi=>?_,λd w=>List.nodup_iff_count.1 b2 _,λi hi V=>?_,λi hi X=>?_⟩;rw[J i hi];exact(b1 _ (apW hi)).1;rw[J i hi];have E:=apW hi;have hb:=b1 _ E;obtain⟨d,w,he⟩:=aqJ.1 E;have y:=asQ.1 w;have:=A.ok v d l (aqN.1 y.1) y.2;rw[<-he];exact this;by_cases N:i=0;unfold fN;rw[aE N];omega;unfold fN;rw[aC N,Q2 b1 (λd _=>List.nodup_iff_count.1 b2 _) (jR f i)];have h5:=A.bound v i l Om hi Om;have S:jZ (λd=>(sN f u v).contains (d:Int)&&jR f i d) f.aoC.length=jZ (λd=>u v d&&inD f i d) f.aoC.length:=by unfold jZ;exact iU λd w=>by dsimp only;rw[Di f u v w,Pe]
 rw[S];omega;rw[count_flatten,B];have R:dC (λv=>((AN f u).getD v []).count (d:Int)) f.aoE.length=jZ (λv=>u v d) f.aoE.length:=by
  unfold jZ;refine iU λv l=>?_;have e:(AN f u).getD v []=sN f u v:=by rw[apY,apZ (by rw[B];exact l),arT,F]
  dsimp only;rw[e];obtain⟨b1,b2,O⟩:=XI f u v;have K:=Di f u v w;by_cases D:(d:Int)∈sN f u v;have W:=List.count_pos_iff.2 D;have h5:(sN f u v).contains (d:Int)=true:=by simpa using D
  have:=List.nodup_iff_count.1 b2 (d:Int);rw[<-K,h5,EF];omega;have h5:(sN f u v).contains (d:Int)=false:=by simpa using D
  rw[<-K,h5,IT,List.count_eq_zero_of_not_mem D]
 rw[R];have h7:=A.room d w;have:=PO hV room w;omega
def nE:=bV [3,4] Proofs.Tryz.f157
def bf:aI:=(eN (aA nE 14) 57 4 (aA nE 19) (sq (aA nE 15) (sq (aA nE 16) (sq (aA nE 17) (.cond (Tm 88) (sq (aA nE 18) .ret) .skip)))))
def GF:aI:=(gW (aA nE 9) 37 2 (aA nE 20) (sq (aA nE 10) (pI (aA nE 11) 49 (aA nE 12) (dF (aA nE 13) 4 bf))))
def td:aI:=(sq (aA nE 0) (sq (aA nE 1) (.seq (dF (aA nE 2) 0 (gW (aA nE 3) 23 0 (aA nE 6) (sq (aA nE 4) (.region (aA nE 5))))) (sq (aA nE 7) (.seq (dF (aA nE 8) 2 GF) (sq (aA nE 21) .ret))))))
def jf:=bV [2] Proofs.Tryz.f103
def YE:=cF jf
def call17:=bV [2] Proofs.Tryz.f60
def YA:=cF call17
def gJ:=bV [2,23,24,50,90] Proofs.Tryz.f54
def DE:aI:=(.seq (sq (aA gJ 21) (.cond (Tm 70) .skip (.exit 6))) (.block 7 (.region (aA gJ 22))))
def YH:aI:=(sq (aA gJ 0) (sq (aA gJ 1) (jQ (aA gJ 2) 14 (.seq (dF (aA gJ 3) 0 (gW (aA gJ 4) 19 0 (aA gJ 7) (sq (aA gJ 5) (.region (aA gJ 6))))) (sq (aA gJ 8) .ret)) (sq (aA gJ 9) (.seq (dF (aA gJ 10) 2 (gW (aA gJ 11) 36 2 (aA gJ 16) (sq (aA gJ 12) (sq (aA gJ 13) (.cond (Tm 43) (sq (aA gJ 14) (.region (aA gJ 15))) .skip))))) (.seq (dF (aA gJ 17) 4 (gW (aA gJ 18) 57 4 (aA gJ 23) (sq (aA gJ 19) (sq (aA gJ 20) (.seq (.block 6 (.loop DE)) (dq (eH gJ 0) (.draw (eH gJ 1)))))))) (sq (aA gJ 24) .ret)))))))
def WP:=bV [] Proofs.Tryz.f55
def SO:=cF WP
def mH:=bV [] Proofs.Tryz.f24
def BW:aI:=(.seq (sq (aA mH 9) (.cond (Tm 37) .skip (.exit 4))) (.block 5 (.region (aA mH 10))))
def IB:aI:=(gW (aA mH 7) 23 2 (aA mH 13) (sq (aA mH 8) (.seq (.block 4 (.loop BW)) (sq (aA mH 11) (.cond (Tm 51) (.region (aA mH 12)) .skip)))))
def jg:aI:=(sq (aA mH 0) (sq (aA mH 1) (.seq (dF (aA mH 2) 0 (gW (aA mH 3) 17 0 (aA mH 16) (sq (aA mH 4) (sq (aA mH 5) (.seq (dF (aA mH 6) 2 IB) (sq (aA mH 14) (.cond (Tm 57) (.region (aA mH 15)) .skip))))))) (sq (aA mH 17) .ret))))
def xp:=bV [] Proofs.Tryz.f56
def jp:=cF xp
def kO:=bV [] Proofs.Tryz.f99
def SX:aI:=(gW (aA kO 3) 16 0 (aA kO 6) (sq (aA kO 4) (.region (aA kO 5))))
def SY:=aA kO 7
def SZ:=aA kO 8
def yW:=eH kO 0
def MY:=aA kO 9
def DF:aI:=(.seq (dq yW (.cond (Tm 42) .skip (.exit 4))) (.block 5 (.region MY)))
def DH:=aA kO 10
def MZ:=aA kO 11
def NA:=aA kO 12
def DJ:=aA kO 13
def NB:=aA kO 14
def NC:=aA kO 15
def DG:aI:=(eN DJ 57 6 NC (.region NB))
def jr:aI:=(.seq (sq SY (.cond (Tm 26) .skip (.exit 2))) (.block 3 (sq SZ (.seq (.block 4 (.loop DF)) (jQ DH 46 .ret (sq MZ (dF NA 6 DG)))))))
def YI:aI:=(jQ (aA kO 0) 10 .ret (sq (aA kO 1) (.seq (dF (aA kO 2) 0 SX) (.block 2 (.loop jr)))))
def xr:=bV [] Proofs.Tryz.f10
def ju:=cF xr
theorem Vn(a b:N_):cT (a++b)=cT a++cT b:=aqP
theorem jM(a:N_):(cT a).length=Z' a:=apP _
theorem FG{a:N_}{i:Nat}(h:i<Z' a):(aN (cT a))[i]?=some [PV.int .i64 (a[i]:Nat)]:=by
 unfold aN cT;rw[aqE,aqE,apZ h];rfl
theorem dl(a:N_)(i x:Nat):(aN (cT a)).set i [PV.int .i64 (x:Nat)]=aN (cT (a.set i x)):=by
 unfold aN cT;rw[asP,asP]
theorem Ru{top n:Nat}(h:top<n):fA top n 0=[]:=by
 cases n with
 |zero=>omega
 |succ n =>rw[fA,show top-n-0=0 by omega];rfl
theorem rY.head{n:Nat}{s:N_}{l:List N_}(h:rY n s l):∃r,l=s::r:=by
 cases h with
 |last=>exact⟨_,rfl⟩
 |step=>exact⟨_,rfl⟩
def tO(n i:Nat):N_:=asD 0 i++apX (n-i) 0
theorem J3(n:Nat):tO n 0=apX n 0:=by unfold tO;simp
theorem Oz{n i:Nat}(h:i<=n):(tO n i).length=n:=by unfold tO;simp;omega
theorem J2(n:Nat):tO n n=asD 0 n:=by unfold tO;simp
theorem O0{n i:Nat}(h:i<n):(tO n i).set i i=tO n (i+1):=by
 unfold tO;obtain⟨m,e⟩:∃m,n-i=m+1:=⟨n-i-1,by omega⟩;rw[e,List.replicate_succ,asY _ _ aX,List.length_range',asA,asT,show n-(i+1)=m by omega,List.range'_concat];simp
def onU(s:N_)(j y m:Nat):N_:=s.take j++asD y (m-j)++s.drop m
theorem Ht{s:N_}{j y m:Nat}(e:j<=m)(i:m<=Z' s):(onU s j y m).length=Z' s:=by
 unfold onU;simp;omega
theorem aaY{s:N_}{j y:Nat}(h:j<Z' s):s.set j y=onU s j y (j+1):=by
 unfold onU;rw[List.set_eq_take_append_cons_drop,aE h,show j+1-j=1 by omega];simp
theorem Vu{s:N_}{j y m:Nat}(l:j<m)(i:m<=Z' s):∃h,(onU s j y m)[m-1]'h=y+(m-1-j):=by
 refine⟨by rw[Ht Om i];omega,?_⟩;unfold onU;have e:(s.take j).length=j:=by rw[aqF];omega
 rw[List.getElem_append_left (by simp;omega),List.getElem_append_right Om];simp[e]
theorem aaZ{s:N_}{j y m:Nat}(l:j<=m)(i:m<Z' s):(onU s j y m).set m (y+(m-j))=onU s j y (m+1):=by
 unfold onU;have e:(s.take j++asD y (m-j)).length=m:=by simp;omega
 rw[asY _ _ Om,e,asA,asI i,asT,show m+1-j=(m-j)+1 by omega,List.range'_concat];simp
theorem Vt{s:N_}{j y:Nat}:onU s j y s.length=s.take j++asD y (Z' s-j):=by
 unfold onU;simp
variable{C:Ctx}
theorem Za{K:bT}[Up K]{n o1 o2 q:Nat}{y:PV}{F:PF}{H:PH}(J:n<=1000)(hq:H q=some (.rows 1 (aN (cT (tO n 0)))))(A:(((((((n_.set 0 (y)).set 1 (.ptr o1 1 0 0)).set 2 (.ptr o2 1 0 0)).set 4 (.osl q 1 0 n)).set 14 (.j n)).set 15 (.j 0))).le F)
  (B:K (.exit 0) (((((n_.set 0 (y)).set 1 (.ptr o1 1 0 0)).set 2 (.ptr o2 1 0 0)).set 4 (.osl q 1 0 n))) (H.set q (.rows 1 (aN (cT (asD 0 n)))))):aI.wp C (.loop SX) K F H:=by
 refine wp_loop (α:=Nat × PH) (λs=>((((((n_.set 0 (y)).set 1 (.ptr o1 1 0 0)).set 2 (.ptr o2 1 0 0)).set 4 (.osl q 1 0 n)).set 14 (.j n)).set 15 (.j s.1))) (λs=>s.2) (λs=>s.1<=n/\s.2=H.set q (.rows 1 (aN (cT (tO n s.1))))) (λs=>n-s.1) (0,H) ⟨apR _,?_⟩ A b_ ?_;refine PH.ext λo=>?_;show H o=(H.set q _) o;rw[aM];split;rename_i e;rw[e,hq];rfl;rintro⟨i,D⟩ ⟨hi,x⟩;simp only at hi x;subst x;simp only[go_sem,SX];by_cases hlt:i<n;have l:(i:Int)<(n:Nat):=Om;have E:=Oz hi;have u:=FG (a:=tO n i) (i:=i) Om;have w:i<(aN (cT (tO n i))).length:=by rw[cI,jM];omega
 simp only[go_sem,l,u,w,aqA,dl,O0 hlt,wZz i];exact aF (i+1,_) ⟨hlt,rfl⟩ sO_ Lq b_;have l:¬(i:Int)<(n:Nat):=Om;have:i=n:=Om;subst this;rw[J2];simp only[go_sem,l];exact Up.up Lq B
def cyF(y:PV)(o1 o2 q n:Nat):PF:=((((n_.set 0 (y)).set 1 (.ptr o1 1 0 0)).set 2 (.ptr o2 1 0 0)).set 4 (.osl q 1 0 n))
theorem Oe{K:bT}[Up K]{n top o1 o2 q:Nat}{y:PV}{s:N_}(V:Z' s=n)(U:n<=1000)(W:top<=1000)(O:n<=top){F:PF}{H:PH}(b1:H o1=some (.rows 1 [[.j n]]))(b2:H o2=some (.rows 1 [[.j top]]))(hq:H q=some (.rows 1 (aN (cT s))))
  (N:((cyF y o1 o2 q n).set 6 (.j ((n:Int)-1))).le F)
  (D:∀m,m<=n->(∀i (h:i<Z' s),m<=i->s[i]+n=top+i)->(0<m->∀(h:m-1<Z' s),s[m-1]+n≠top+(m-1))->K (.exit 4) ((cyF y o1 o2 q n).set 6 (.j ((m:Int)-1))) H):aI.wp C (.loop DF) K F H:=by
 refine wp_loop (α:=Nat) (λm=>(cyF y o1 o2 q n).set 6 (.j ((m:Int)-1))) (λ_=>H) (λm=>m<=n/\∀i (h:i<Z' s),m<=i->s[i]+n=top+i) (λm=>m) n ⟨apU _,λi h S=>by omega⟩ N b_ ?_;rintro m ⟨E,l⟩;rw[show DF=(.seq (.seq (.draw yW) (.cond (.tmp 42) .skip (.exit 4))) (.block 5 (.region MY)))from rfl];simp only[go_sem];refine bE .nil cO a_ ?_;by_cases M:m=0;subst M;simp only[go_sem,yW,cyF,show ¬((0:Nat):Int)-1>=0 by omega];refine Up.up ?_ (D 0 E l (λh=>by omega));unfold cyF;exact Lq;obtain⟨k,rfl⟩:∃k,m=k+1:=⟨m-1,by omega⟩;have A:(((k+1:Nat):Int)-1)=(k:Int):=Om;have B:k<Z' s:=Om;have w:=FG B;have x:k<(aN (cT s)).length:=by rw[cI,jM];omega
 have J:i_.wrap ((top:Int)-(n:Int))=(top:Int)-n:=wrap_i64 Om Om;have L:i_.wrap ((top:Int)-(n:Int)+(k:Int))=(top:Int)-n+k:=wrap_i64 Om Om;have u:(k:Int)<(n:Nat):=Om;by_cases c:s[k]+n=top+k;simp only[go_sem,yW,cyF,A,show(k:Int)>=0 by omega,hq,w,x,u,b1,b2,aqA,J,L,cC (Om:((s[k]:Nat):Int)=(top:Int)-n+k),MY];have R:i_.wrap ((k:Int)-1)=(k:Int)-1:=wrap_i64 Om Om;refine aF k ⟨by omega,λi h hi=>?_⟩ Om (lE1 R) b_;by_cases e:i=k;subst e;exact c;exact l i h Om;simp only[go_sem,yW,cyF,A,show(k:Int)>=0 by omega,hq,w,x,u,b1,b2,aqA,J,L,bJ (Om:((s[k]:Nat):Int)≠(top:Int)-n+k)];refine Up.up ?_ (D (k+1) E l (λ_ h=>c));unfold cyF;exact lE1 A
theorem Zb{K:bT}[Up K]{n o1 o2 q j x:Nat}{y:PV}{s:N_}(U:Z' s=n)(Z:n<=1000)(hx:x<=1000000)(S:j<n){F:PF}{H:PH}(b1:H o1=some (.rows 1 [[.j n]]))(M:¬o1=q)(hq:H q=some (.rows 1 (aN (cT (onU s j x (j+1))))))
  (O:((cyF y o1 o2 q n).set 7 (.j (j+1:Nat))).le F)
  (R:K (.exit 6) (cyF y o1 o2 q n) (H.set q (.rows 1 (aN (cT (s.take j++asD x (n-j))))))):aI.wp C (.loop DG) K F H:=by
 refine wp_loop (α:=Nat × PH) (λm=>(cyF y o1 o2 q n).set 7 (.j m.1)) (λm=>m.2) (λm=>j+1<=m.1/\m.1<=n/\m.2=H.set q (.rows 1 (aN (cT (onU s j x m.1))))) (λm=>n-m.1) (j+1,H) ⟨apU _,S,?_⟩ O b_ ?_;refine PH.ext λo=>?_;show H o=(H.set q _) o;rw[aM];split;rename_i e;rw[e,hq];rfl;rintro⟨m,X⟩ ⟨E,J,N⟩;simp only at E J N;subst N;have B:¬q=o1:=λe=>M e.symm;rw[show DG=(.seq (.seq (.region DJ) (.cond (.tmp 57) .skip (.exit 6))) (.seq (.block 7 (.region NB)) (.region NC)))from rfl];by_cases hlt:m<n;have i:(m:Int)<(n:Nat):=Om;obtain⟨hp,he⟩:=Vu (s:=s) (j:=j) (y:=x) (m:=m) Om Om;have l:=FG hp;rw[he]at l;have Y:=Ht (s:=s) (j:=j) (y:=x) (m:=m) Om Om;have D:m-1<(aN (cT (onU s j x m))).length:=by rw[cI,jM];omega
 have w:m<(aN (cT (onU s j x m))).length:=by rw[cI,jM];omega
 have u:(aN (cT (onU s j x m)))[m]?=some [PV.int .i64 ((onU s j x m)[m]'Om:Nat)]:=FG Om;have V:i_.wrap ((m:Int)-1)=((m-1:Nat):Int):=wO_
 have W:i_.wrap (((x+(m-1-j):Nat):Int)+1)=((x+(m-j):Nat):Int):=wO_
 have A:((m-1:Nat):Int)<(n:Nat):=Om;have L:=aaZ (s:=s) (j:=j) (y:=x) (m:=m) Om Om;simp only[go_sem,DJ,cyF,b1,M,B,i,NB,V,A,l,D,aqA,W,u,w,dl,L,NC,wZz m];refine aF (m+1,_) ⟨by simp only;omega,hlt,rfl⟩ sO_ Lq b_;have i:¬(m:Int)<(n:Nat):=Om;have:m=n:=Om;subst this;have e:=Vt (s:=s) (j:=j) (y:=x);rw[U]at e;rw[e];simp only[go_sem,DJ,cyF,b1,M,B,i];refine Up.up ?_ R;unfold cyF;exact Lq
theorem rY.done{n:Nat}{s:N_}{l:List N_}(h:rY n s l)(i:qW n s=none):l=[s]:=by
 cases h with
 |last=>rfl
 |step e=>rw[i]at e;cases e
theorem rY.next{n:Nat}{s t:N_}{l:List N_}(h:rY n s l)(i:qW n s=some t):∃r,l=s::r/\rY n t r:=by
 cases h with
 |last e=>rw[i]at e;cases e
 |step e w=>rw[i]at e;cases e;exact⟨_,rfl,w⟩
structure S3(J:Nat->PH->Prop)(ss:List N_)(top n o1 o2 q k:Nat)(s:N_)(G H:PH):Prop where
 lt:k<Z' ss
 walk:rY top s (ss.drop k)
 len:Z' s=n
 rng:∀x∈s,x<top
 j:J k G
 le:G.le H
 g1:G o1=none
 g2:G o2=none
 gq:G q=none
 b1:H o1=some (.rows 1 [[.int .i64 n]])
 b2:H o2=some (.rows 1 [[.int .i64 top]])
 bq:H q=some (.rows 1 (aN (cT s)))
theorem Ac{l o1 o2 n top:Nat}(J:Nat->PH->Prop)(u:List N_)(R:u=fA top n 0)(h1:1<=n)(hn:n<=1000)(ht:top<=1000)
  (hY:∀k (hk:k<Z' u) G c,J k G->G c=none->LC C l [.osl c 1 0 n] (G.set c (.rows 1 (aN (cT u[k])))) (λr H'=>r=.bool true/\J (k+1) H'))
  {M H:PH} (V:J 0 M) (w:M.le H) (b1:H o1=some (.rows 1 [[.j n]])) (b2:H o2=some (.rows 1 [[.j top]])) (g1:M o1=none) (g2:M o2=none) :
  YI.wp C (aW kO.res (λ_ H'=>∃G,J u.length G/\G.le H')) (g_ [CV l,.ptr o1 1 0 0,.ptr o2 1 0 0]) H:=by
 simp only[go_sem,YI,kO,b1,b2];by_cases c:n>top;have:u=[]:=by rw[R];exact Ru c
 subst this;simp only[go_sem,show(n:Int)>(top:Nat) by omega];exact bK (vs:=[]) (.inr rfl) M rfl w ⟨M,V,b_⟩;simp only[go_sem,show ¬(n:Int)>(top:Nat) by omega,b1,show(0:Int)<=n by omega,Int.le_refl,show(n:Int)*((8:Nat):Int)<=140737488355328 by omega,show(n:Int)<=9223372036854775807 by omega,arP];refine aQ λq hq=>?_;obtain⟨a1,τ⟩:¬o1=q/\¬q=o1:=⟨(λe=>by rw[e,hq]at b1;cases b1),λe=>by rw[<-e,hq]at b1;cases b1⟩;obtain⟨a2,υ⟩:¬o2=q/\¬q=o2:=⟨(λe=>by rw[e,hq]at b2;cases b2),λe=>by rw[<-e,hq]at b2;cases b2⟩;have ez:apX n [PV.int .i64 0]=aN (cT (tO n 0)):=by rw[J3];unfold aN cT;rw[List.map_replicate,List.map_replicate];rfl
 rw[ez];simp only[go_sem];refine Za (n:=n) (o1:=o1) (o2:=o2) (q:=q) (y:=CV l) hn (by rw[bL]) Lq ?_;rw[PH.set_set];have Y:M q=none:=by
  cases h:M q with
  |none=>rfl
  |some x=>rw[w q x h]at hq;cases hq
 have hw:=WC top n 0 Om;rw[<-R]at hw;obtain⟨r0,δ⟩:=hw.head;have N:=HQ top n 0;rw[<-R]at N;simp only[go_sem];refine wp_loop (α:=Nat × N_ × PH × PH) (λ_=>cyF (CV l) o1 o2 q n) (λx=>x.2.2.2) (λx=>S3 J u top n o1 o2 q x.1 x.2.1 x.2.2.1 x.2.2.2) (λx=>Z' u-x.1) (0,asD 0 n,M,H.set q (.rows 1 (aN (cT (asD 0 n))))) ?_ (by unfold cyF;exact Lq) b_ ?_;exact⟨(by simp only;rw[δ];simp),hw,List.length_range',(λx hx=>by rw[List.mem_range'_1]at hx;omega),V,PH.le_trans w (PH.TQ _ hq),g1,g2,Y,(by simp only;rw[aM,aC a1];exact b1),(by simp only;rw[aM,aC a2];exact b2),(by simp only;rw[bL])⟩;clear b1 b2 g1 g2 Y hq w V hw δ ez;rintro⟨k,s,G,H⟩ A;have A:S3 J u top n o1 o2 q k s G H:=A;obtain⟨hlt,U,D,ε,V,w,g1,g2,gq,b1,b2,bq⟩:=A;have E:u.drop k=u[k]::u.drop (k+1):=asI hlt;have ρ:u[k]=s:=by obtain⟨r,K⟩:=U.head;rw[E]at K;injection K
 have S:dH H 1 (.osl q 1 0 n)=some (aN (cT s)):=by
  have:=(show bA H 1 (.osl q 1 0 (aN (cT s)).length) (aN (cT s))from .inr ⟨q,_,rfl,bq,apU _,aqO⟩).view
  rwa[cI,jM,D]at this
 rw[show jr=(.seq (.seq (.region SY) (.cond (.tmp 26) .skip (.exit 2))) (.block 3 (.seq (.region SZ) (.seq (.block 4 (.loop DF)) (.seq (.seq (.region DH) (.cond (.tmp 46) .ret .skip)) (.seq (.region MZ) (.seq (.region NA) (.block 6 (.loop DG)))))))))from rfl];simp only[go_sem,SY,cyF];refine rS S (by unfold roomFor;rw[cI,jM];simp only[maxLen];omega) (λh=>?_) λ_ c hc=>?_;have:=congrArg List.length h;rw[cI,jM,D]at this;simp at this;omega;rw[cI,jM,D];have η:G c=none:=by
  cases h:G c with
  |none=>rfl
  |some x=>rw[w c x h]at hc;cases hc
 have hy:=hY k hlt G c V η;rw[ρ]at hy;have ne:∀{b:Nat}{x:aR},H b=some x->¬b=c:=λhb e=>by rw[e,hc]at hb;cases hb
 refine⟨l,rfl,.inl ⟨_,G.set c (.rows 1 (aN (cT s))),_,Ev,?_,hy,?_⟩⟩;intro o x L;rw[aM]at L ⊢;split at L;rename_i e;rw[aE e];exact L;rename_i e;rw[aC e];exact w o x L;rintro _ H' ⟨rfl,W⟩ θ;have keep:∀{b:Nat}{x:aR},H b=some x->G b=none->H' b=none/\((H.set c (.rows 1 (aN (cT s)))).over (G.set c (.rows 1 (aN (cT s)))) H') b=some x:=λ{b}{x} hb hg=>by
  have e:=ne hb;have h':H' b=none:=by
   cases h:H' b with
   |none=>rfl
   |some y =>have:=θ b y h (by rw[aM,aC e];exact hg);rw[aM,aC e,hb]at this;cases this
  refine⟨h',?_⟩;rw[iN,h'];simp only[aM,aC e,hg,hb]
 obtain⟨k1,d1⟩:=keep b1 g1;obtain⟨k2,d2⟩:=keep b2 g2;obtain⟨kq,dq⟩:=keep bq gq;have O:H'.le ((H.set c (.rows 1 (aN (cT s)))).over (G.set c (.rows 1 (aN (cT s)))) H'):=λo x L=>by rw[iN,L]
 generalize(H.set c (.rows 1 (aN (cT s)))).over (G.set c (.rows 1 (aN (cT s)))) H'=H2 at *
 have w1:i_.wrap ((n:Int)-1)=(n:Int)-1:=wrap_i64 Om Om;simp only[go_sem,SZ,d1,w1];refine Oe (n:=n) (top:=top) (o1:=o1) (o2:=o2) (q:=q) (y:=CV l) (s:=s) D hn ht Om d1 d2 dq (by unfold cyF;exact Lq) λm hm F Z=>?_;by_cases m0:m=0;subst m0;have ξ:qW top s=none:=OU λi hi=>by have:=F i hi (apR _);omega
 have X:k+1=Z' u:=by have:=congrArg List.length (U.done ξ);rw[arM,aqH]at this;omega
 simp only[go_sem,cyF,DH,show((0:Nat):Int)-1<0 by omega];exact bK (vs:=[]) (.inr rfl) H' rfl O ⟨H',by rw[<-X];exact W,b_⟩;obtain⟨j,rfl⟩:∃j,m=j+1:=⟨m-1,by omega⟩;have B:j<Z' s:=Om;have ν:(j:Int)<(n:Nat):=Om;have e0:(((j+1:Nat):Int)-1)=(j:Int):=Om;have β:=Cn (n:=top) (s:=s) j B (λi hi μ=>by have:=F i hi μ;omega) (by have:=Z (Nat.succ_pos _) B;simp only[Nat.add_sub_cancel]at this;omega);rw[D]at β;have φ:=ε s[j] (apW B);have ι:=FG B;have κ:j<(aN (cT s)).length:=by rw[cI,jM];exact B
 have w2:i_.wrap (((s[j]:Nat):Int)+1)=((s[j]+1:Nat):Int):=fQ Om;have γ:=aaY (s:=s) (j:=j) (y:=s[j]+1) B;simp only[go_sem,cyF,DH,e0,show ¬(j:Int)<0 by omega,MZ,dq,ι,κ,ν,aqA,w2,dl,γ,NA,wZz j];refine Zb (n:=n) (o1:=o1) (o2:=o2) (q:=q) (j:=j) (x:=s[j]+1) (y:=CV l) (s:=s) D hn Om Om (by rw[aM,aC a1];exact d1) a1 (by rw[bL]) (by unfold cyF;exact Lq) ?_;rw[PH.set_set];have aoZ:k+1<Z' u/\rY top (s.take j++asD (s[j]+1) (n-j)) (u.drop (k+1)):=by
  obtain⟨r,K,ζ⟩:=U.next β;rw[E]at K;injection K with _ K
  rw[K];refine⟨?_,ζ⟩;obtain⟨r2,ο⟩:=ζ.head;have:=congrArg List.length K;rw[ο,arM,aqV]at this;omega
 have σ:S3 J u top n o1 o2 q (k+1) (s.take j++asD (s[j]+1) (n-j)) H' (H2.set q (.rows 1 (aN (cT (s.take j++asD (s[j]+1) (n-j)))))):={
     lt:=aoZ.1
     walk:=aoZ.2
     len:=by simp;omega
     rng:=λx hx=>by
      have h2:=N (u[k+1]'aoZ.1) (apW _);have h3:u[k+1]'aoZ.1=s.take j++asD (s[j]+1) (n-j):=by obtain⟨r,K⟩:=aoZ.2.head;rw[asI aoZ.1]at K;injection K
      rw[h3]at h2;exact(h2.2.1 x hx).2
     j:=W
     le:=λo x L=>by
      have:¬o=q:=λe=>by rw[e,kq]at L;cases L
      rw[aM,aC this];exact O o x L
     g1:=k1,g2:=k2,gq:=kq
     b1:=by rw[aM,aC a1];exact d1
     b2:=by rw[aM,aC a2];exact d2
     bq:=by rw[bL] }
 simp only[go_sem,cyF];exact aF (k+1,s.take j++asD (s[j]+1) (n-j),H',H2.set q (.rows 1 (aN (cT (s.take j++asD (s[j]+1) (n-j)))))) σ sO_ Lq b_
def wH(f:aB)(p:bY)(xs:I_)(i:Nat):Bool:=!(decide (dR f p i>0)&&decide (fN f xs i>dR f p i))
theorem zX(f:aB)(p:bY)(xs:I_):lR f p xs=(apQ f.aoF.length).all (wH f p xs):=rfl
theorem Oh(f:aB)(xs ys:I_)(i:Nat):fN f xs i<=fN f (xs++ys) i:=by
 unfold fN;rw[atW];split<;>omega
theorem P8{f:aB}{p:bY}{xs ys:I_}{i:Nat}(h:wH f p xs i=false):wH f p (xs++ys) i=false:=by
 have:=Oh f xs ys i;unfold wH at h ⊢;simp only[Bool.not_eq_false',apT,dT_]at h ⊢;omega
theorem my{f:aB}{p:bY}{xs:I_}{i:Nat}(hi:i<Z' f.aoF)(h:wH f p xs i=false):lR f p xs=false:=by
 rw[zX];simp only[List.all_eq_false,aqN];exact⟨i,hi,by rw[h];simp⟩
theorem Dt{f:aB}{p:bY}{xs ys:I_}(h:lR f p xs=false):lR f p (xs++ys)=false:=by
 rw[zX]at h;simp only[List.all_eq_false,aqN]at h;obtain⟨i,hi,h⟩:=h;exact my hi (P8 (by simpa using h))
theorem F8(f:aB)(p:bY):lR f p []=true:=by
 rw[zX];simp only[aqM,aqN];intro i _;unfold wH fN;simp;omega
theorem Mh{f:aB}(hV:VF f){p:bY}{xs:I_}(h:∀i,i<Z' f.aoF->0<lvl f i->wH f p xs i=true):lR f p xs=true:=by
 rw[zX];simp only[aqM,aqN];intro i hi;have l:=hV.kQ hi;by_cases e:i=0;unfold wH fN;rw[aE e];simp;omega;exact h i hi Om
theorem aaW{f:aB}{p:bY}{xs:I_}(h:lR f p xs=true){i:Nat}(hi:i<Z' f.aoF):wH f p xs i=true:=by
 rw[zX]at h;exact aqM.1 h i (aqN.2 hi)
theorem Rs(p:bY)(t:V_){n:Nat}(h:n<5):(if 1<=(List.drop n (PV.int .i64 p.s0::PV.int .i64 p.s1::PV.int .i64 p.s2::PV.int .i64 p.s3::PV.int .i64 p.s4::t)).length then some (List.take 1 (List.drop n (PV.int .i64 p.s0::PV.int .i64 p.s1::PV.int .i64 p.s2::PV.int .i64 p.s3::PV.int .i64 p.s4::t)))else none)=some [PV.int .i64 (p.spread n)]:=by
 have:n=0\/n=1\/n=2\/n=3\/n=4:=Om;rcases this with rfl|rfl|rfl|rfl|rfl<;>simp[bY.spread]
def MS(f:aB)(p:bY)(e oD:Nat)(set:I_)(k:Nat):PF:=(((((((n_.set 3 (.aU f.cells)).set 4 (.aU p.cells)).set 7 (.osl e 1 0 f.aoD.length)).set 10 (.osl oD 1 0 f.aoF.length)).set 34 (ints set)).set 35 (.int .i64 (Z' set:Nat))).set 36 (.int .i64 k))
def Jj(f:aB)(p:bY)(e oD:Nat)(set:I_)(k:Nat)(at_:Nat):PF:=((((((((n_.set 3 (.aU f.cells)).set 4 (.aU p.cells)).set 7 (.osl e 1 0 f.aoD.length)).set 10 (.osl oD 1 0 f.aoF.length)).set 34 (ints set)).set 35 (.int .i64 (Z' set:Nat))).set 36 (.int .i64 k)).set 13 (.int .i64 at_))
theorem Y8{K:bT}[Up K](f:aB)(hV:VF f)(p:bY)(oA oD:Nat)(set:I_)(k:Nat)(xs:I_)(ζ:Z' xs<=16777216)(β:lR f p xs=true)(d:Nat)(hd:d<Z' f.aoC){F:PF}{H:PH}
  (hF:(Jj f p oA oD set k (cD f d)).le F) (hD:H oD=some (.rows 1 (aN (eT f xs))))
  (hR:∀F' H',F' 6=some (.bool false)->lR f p (xs++[(d:Int)])=false->K .ret F' H')
  (hK:lR f p (xs++[(d:Int)])=true->K (.exit 4) (MS f p oA oD set k) (H.set oD (.rows 1 (aN (eT f (xs++[(d:Int)])))))) :
  aI.wp C (.loop bf) K F H:=by
 refine wp_loop (α:=Nat × PH) (λt=>Jj f p oA oD set k (upN f t.1 (cD f d))) (λt=>t.2) (λt=>t.1<=4/\t.2=H.set oD (.rows 1 (aN (pC f xs d t.1)))/\∀i,i<Z' f.aoF->4-(t.1:Int)<lvl f i->wH f p (xs++[(d:Int)]) i=true) (λt=>4-t.1) (0,H) ⟨apR _,?_,?_⟩ (by rw[upN];exact hF) b_ ?_;rw[tj hV];refine PH.ext λo=>?_;show H o=(H.set oD _) o;rw[aM];split;rename_i e;rw[e,hD];rfl;intro i hi hl;have:=(hV.kQ hi).2.1;simp only at hl;omega;rintro⟨j,H0⟩ ⟨hj,hH,w⟩;simp only at hj hH w;subst hH;obtain⟨x,U⟩:=wS hV hd (k:=j) hj;simp only[go_sem,bf,Jj];by_cases hlt:j<4;have Z:0<upN f j (cD f d):=by
  rcases arZ (upN f j (cD f d))with e|e
  rw[e,hV.root.2.1]at U;omega;exact e
 have V:((upN f j (cD f d):Nat):Int)>0:=Om;obtain⟨b1,b2⟩:=G2 hV xs hd hlt;have L:(aN (pC f xs d j))[upN f j (cD f d)]?=some [.j (fN f xs (upN f j (cD f d)))]:=by unfold aN;rw[aqE,b1];rfl
 have δ:=G1 f xs (upN f j (cD f d));have hw:i_.wrap (fN f xs (upN f j (cD f d))+1)=fN f xs (upN f j (cD f d))+1:=wrap_i64 Om Om;have y:((upN f j (cD f d):Nat):Int)<(Z' f.aoF:Nat):=Om;have X:upN f j (cD f d)<(aN (pC f xs d j)).length:=by rw[cI,Ts];exact x
 have O:fN f (xs++[(d:Int)]) (upN f j (cD f d))=fN f xs (upN f j (cD f d))+1:=by rw[ID f xs d Om,cL,U,show 4-(4-(j:Int)).toNat=j by omega,aE rfl]
 have l:wH f p (xs++[(d:Int)]) (upN f j (cD f d))=!(decide (dR f p (upN f j (cD f d))>0)&&decide (fN f xs (upN f j (cD f d))+1>dR f p (upN f j (cD f d)))):=by rw[wH,O]
 have aoZ:wH f p (xs++[(d:Int)]) (upN f j (cD f d))=true->∀i,i<Z' f.aoF->4-((j+1:Nat):Int)<lvl f i->wH f p (xs++[(d:Int)]) i=true:=by
  intro h i hi hl;by_cases e:i=upN f j (cD f d);rw[e];exact h;by_cases c:4-(j:Int)<lvl f i;exact w i hi c;have N:lvl f i=4-(j:Int):=Om;have W:i≠0:=by intro e;subst e;rw[hV.root.2.1]at N;omega
  have E:fN f (xs++[(d:Int)]) i=fN f xs i:=by rw[ID f xs d W,cL,N,show 4-(4-(j:Int)).toNat=j by omega,aC (λh=>e h.symm)];simp
  have:=aaW β hi;unfold wH at this ⊢;rw[E];exact this
 have M:wH f p (xs++[(d:Int)]) (upN f j (cD f d))=false->lR f p (xs++[(d:Int)])=false:=my x;have Y:dR f p (upN f j (cD f d))=p.spread (4-(j:Int)).toNat:=by rw[dR,U]
 rw[Y]at l;have γ:=L;have D:(aN (pC f xs d j)).set (upN f j (cD f d)) [.j (fN f xs (upN f j (cD f d))+1)]=aN (pC f xs d (j+1)):=by rw[iZ,b2]
 have A:(aN (pC f xs d (j+1)))[upN f j (cD f d)]?=some [.j (fN f xs (upN f j (cD f d))+1)]:=by rw[<-D,List.getElem?_set_self X]
 have R:upN f (j+1) (cD f d)=jB f (upN f j (cD f d)):=rfl;have B:=hV.MB Z x;generalize ε:upN f j (cD f d)=u at *
 generalize fN f xs u=dc at *
 have l0:(0:Int)<=4-(j:Int):=Om;have h5:4-(j:Int)<((5:Nat):Int):=Om;simp only[go_sem,V,y,aqA,L,hw,D,gD x,zF x,U,l0,h5,Nat.mul_one];rw[Rs p _ (Om:(4-(j:Int)).toNat<5)];by_cases J:p.spread (4-(j:Int)).toNat>0;by_cases S:dc+1>p.spread (4-(j:Int)).toNat;simp only[go_sem,J,S,y,A,aqA];exact hR _ _ Sq (M (by rw[l,aZ J,aZ S];rfl));simp only[go_sem,J,S,y,A,aqA,gD x,MA x,B];exact aF (j+1,_) ⟨hlt,rfl,aoZ (by rw[l,bG S,arE];rfl)⟩ sO_ (lE1 R) b_;simp only[go_sem,J,y,aqA,gD x,MA x,B];exact aF (j+1,_) ⟨hlt,rfl,aoZ (by rw[l,bG J];rfl)⟩ sO_ (lE1 R) b_;have:j=4:=Om;subst this;have h0:upN f 4 (cD f d)=0:=by have:=hV.kQ x;omega
 have V:¬((upN f 4 (cD f d):Nat):Int)>0:=Om;simp only[go_sem,V];rw[ti hV];refine Up.up ?_ (hK (Mh hV λi hi h=>w i hi (by simpa using h)));unfold MS;exact Lq
theorem S6{f:aB}{p:bY}{set:I_}{d:Int}(e:d∈set)(h:FX f p d=false):nY f p set=false:=by
 unfold nY;have:set.all (FX f p)=false:=by simp only[List.all_eq_false];exact⟨d,e,by rw[h];simp⟩
 rw[this];rfl
theorem S5{f:aB}{p:bY}{set:I_}{k:Nat}(h:lR f p (set.take k)=false):nY f p set=false:=by
 have:=Dt (ys:=set.drop k) h;rw[asZ]at this;unfold nY;rw[this,arE]
def xl(f:aB)(set:I_):Prop:=Z' set<=16777216/\∀x∈set,0<=x/\x<(Z' f.aoC:Nat)
theorem N3{K:bT}[Up K](f:aB)(hV:VF f)(p:bY)(M oD:Nat)(hn:M≠oD)(set:I_)(hs:xl f set){F:PF}{H:PH}
  (Y:(MS f p M oD set 0).le F) (L:H M=some (.rows 1 (dE (marks f.aoD.length p.aoD)))) (hD:H oD=some (.rows 1 (aN (eT f []))))
  (V:∀N H',N 6=some (.bool false)->nY f p set=false->K .ret N H')
  (Z:∀N H',nY f p set=true->K (.exit 2) N H') :
  aI.wp C (.loop GF) K F H:=by
 obtain⟨β,U⟩:=hs;refine wp_loop (α:=Nat × PH) (λt=>MS f p M oD set t.1) (λt=>t.2) (λt=>t.1<=Z' set/\t.2 M=some (.rows 1 (dE (marks f.aoD.length p.aoD)))/\t.2 oD=some (.rows 1 (aN (eT f (set.take t.1))))/\(set.take t.1).all (FX f p)=true/\lR f p (set.take t.1)=true) (λt=>Z' set-t.1) (0,H) ⟨apR _,L,hD,rfl,F8 f p⟩ Y b_ ?_;rintro⟨k,W⟩ ⟨hk,L,hD,i,B⟩;simp only at hk L hD i B;by_cases hlt:k<Z' set
 ·have u:(k:Int)<(Z' set:Nat):=Om;have S:(set.map λn=>[PV.int .i64 n])[k]?=some [.j set[k]]:=by simp[hlt]
  have D:set.take (k+1)=set.take k++[set[k]]:=arB hlt;have hx:=U set[k] (apW hlt);have hm:=apW hlt;generalize γ:set[k]=x at *
  obtain⟨d,rfl⟩:∃d:Nat,x=d:=⟨x.toNat,by omega⟩;have e:d<Z' f.aoC:=Om;have E:(d:Int)<(Z' f.aoC:Nat):=Om;obtain⟨w1,w2,w3,w4,w5⟩:=hV.drive d e;have J:((mdl f d:Nat):Int)<(Z' f.aoD:Nat):=Om;have A:(dE (marks f.aoD.length p.aoD))[mdl f d]?=some [.bool (p.aoD.contains ((mdl f d:Nat):Int))]:=by have:=xN (n:=Z' f.aoD) (l:=p.aoD) (m:=((mdl f d:Nat):Int)) Om J;rw[arP]at this;unfold dE;rw[aqE,this];rfl
  have w:FX f p (d:Int)=p.aoD.contains ((mdl f d:Nat):Int):=by rw[FX,arP]
  cases hb:p.aoD.contains ((mdl f d:Nat):Int)with
  |false =>rw[hb]at A w;simp only[go_sem,GF,MS,u,S,kE e,E,hV.CH e,J,aqA,L,A,aqI];exact V _ _ Sq (S6 hm w)
  |true=>
   rw[hb]at A w;simp only[go_sem,GF,MS,u,S,kE e,E,hV.CH e,J,aqA,L,A,aqC,hV.FC e];have up:=λ{K:bT} [Up K] {F:PF} {H:PH}=>Y8 (C:=C) (K:=K) f hV p M oD set k (set.take k) (by rw[aqF];omega) B d e (F:=F) (H:=H);refine up (by unfold Jj;exact Lq) hD ?_ ?_;intro N H' X O;simp only[go_sem];exact V _ _ X (S5 (k:=k+1) (by rw[D];exact O));intro R;simp only[go_sem,MS,wZz k];refine aF (k+1,W.set oD (.rows 1 (aN (eT f (set.take k++[(d:Int)]))))) ⟨hlt,?_,?_,?_,by rw[D];exact R⟩ sO_ Lq b_;simp only[aM,aC hn];exact L;simp only[bL,D];rw[D];intro y hy;rcases aqZ.1 hy with h|h
   exact aqM.1 i y h;rw[arA.1 h];exact w
 have u:¬(k:Int)<(Z' set:Nat):=Om;have:k=Z' set:=Om;subst this;rw[aqO]at i B;simp only[go_sem,GF,MS,u];exact Z _ _ (by rw[nY,i,B];rfl)

def aiB(down:I_)(d:Int):Bool:=decide (0<=d)&&down.contains d
def aiC(down:I_)(d:Int):Bool:=decide (0<=d)&&!down.contains d
def alQ(down row:I_):Bool:=row.any (aiB down)
def abA(down row:I_):Nat:=row.countP (aiC down)
def afK(f:aB)(e:Int)(down:I_)(v:Nat)(row:I_):Bool:=alQ down row&&decide (((abA down row:Nat):Int)<(bF f v).k+e)
def aiD(f:aB)(i:L2_)(e:Int)(down:I_)(n:Nat):Bool:=(apQ n).all λv=>!afK f e down v (i.getD v [])
def xt(f:aB)(i:L2_)(e:Int)(down:I_):Bool:=aiD f i e down i.length

def qY:=bV [2,44] Proofs.Tryz.f43
def gg:=aA qY 8
def VB:=aA qY 9
def VC:=aA qY 10
def QB:aI:=(sq (aA qY 0) (pI (aA qY 1) 10 (aA qY 2) (sq (aA qY 3) (.seq (dF (aA qY 4) 0 (eN (aA qY 5) 15 0 VB (dq (eH qY 0) (jQ (aA qY 6) 34 (.region (aA qY 7)) (.region gg))))) (sq VC .ret)))))
def mo:=bV [3] Proofs.Tryz.f163
def ZH:=cF mo
def nP:=bV [2] Proofs.Tryz.f72
def PY:aI:=(eN (aA nP 7) 27 2 (aA nP 10) (sq (aA nP 8) (.cond (Tm 49) (.region (aA nP 9)) .skip)))
def ZM:aI:=(sq (aA nP 0) (pI (aA nP 1) 10 (aA nP 2) (sq (aA nP 3) (.seq (dF (aA nP 4) 0 (eN (aA nP 5) 18 0 (aA nP 11) (dF (aA nP 6) 2 PY))) (sq (aA nP 12) .ret)))))
def Mb:=bV [2] Proofs.Tryz.f116
def vr:=cF Mb
def PS:=bV [3,4] Proofs.Tryz.f42
def RW:=cF PS
def uT:=bV [3] Proofs.Tryz.f117
def UV:=aA uT 6
def ZK:aI:=(sq (aA uT 0) (sq (aA uT 1) (.seq (dF (aA uT 2) 0 (eN (aA uT 3) 12 0 (aA uT 5) (dq (eH uT 0) (.cond (Tm 35) (.region (aA uT 4)) .skip)))) (sq UV .ret))))
def iT:=bV [3,27,36,52,81,118,150] Proofs.Tryz.f71
def gh:aI:=(eN (aA iT 8) 40 0 (aA iT 11) (sq (aA iT 9) (.cond (Tm 47) (.region (aA iT 10)) .skip)))
def gi:aI:=(eN (aA iT 16) 64 4 (aA iT 19) (sq (aA iT 17) (.cond (Tm 72) (.region (aA iT 18)) .skip)))
def gj:aI:=(eN (aA iT 13) 58 2 (aA iT 22) (sq (aA iT 14) (.seq (dF (aA iT 15) 4 gi) (sq (aA iT 20) (.cond (Tm 76) (.region (aA iT 21)) .skip)))))
def gk:aI:=(eN (aA iT 24) 96 6 (aA iT 26) (dq (eH iT 1) (.cond (Tm 113) (.region (aA iT 25)) .skip)))
def QC:=aA iT 30
def gm:=aA iT 31
def HP:=aA iT 32
def gl:aI:=(eN (aA iT 28) 124 8 HP (sq (aA iT 29) (sq QC (.cond (Tm 145) (.region gm) .skip))))
def v6:aI:=(sq (aA iT 0) (pI (aA iT 1) 22 (aA iT 2) (.seq (sq (aA iT 3) (sq (aA iT 4) (.cond (Tm 32) (sq (aA iT 5) .ret) .skip))) (sq (aA iT 6) (.seq (dF (aA iT 7) 0 gh) (.seq (dF (aA iT 12) 2 gj) (dq (eH iT 0) (.seq (dF (aA iT 23) 6 gk) (.seq (dF (aA iT 27) 8 gl) (sq (aA iT 33) .ret))))))))))
def mZ:=bV [3,24,64] Proofs.Tryz.f32
def VG:aI:=(eN (aA mZ 10) 49 2 (aA mZ 12) (dq (eH mZ 2) (.cond (Tm 60) (.region (aA mZ 11)) .skip)))
def ni:aI:=(sq (aA mZ 0) (pI (aA mZ 1) 14 (aA mZ 2) (pI (aA mZ 3) 20 (aA mZ 4) (sq (aA mZ 5) (.seq (dF (aA mZ 6) 0 (eN (aA mZ 7) 28 0 (aA mZ 8) (.draw (eH mZ 0)))) (dq (eH mZ 1) (.seq (dF (aA mZ 9) 2 VG) (sq (aA mZ 13) .ret))))))))
def mu:=bV [3] Proofs.Tryz.f9
def ZL:=cF mu
theorem Q8(f:aB)(l:VF f)(d:Nat)(h:d<Z' f.aoC)(level:Int)(y:0<=level)(A:level<=4) :
  ZH.wp C (aW mo.res (aL (.j (cL f d level:Nat)))) (g_ [.agg f.cells,.j d,.j level]) .nil:=by
 simp only[go_sem,ZH,mo,kE h,l.FC h];refine wp_loop (α:=Nat) (λk=>(((n_.set 2 (.j level)).set 3 (.aU f.cells)).set 7 (.j (upN f k (cD f d))))) (λ_=>.nil) (λk=>k<=4-level.toNat) (λk=>4-level.toNat-k) 0 (apR _) (by(repeat' (first|exact d_|refine e_ ?_ ?_))<;>first|(simp only[go_sem,upN]<;>rfl)|rfl) a_ ?_;intro k B;obtain⟨i,x⟩:=wS l h (k:=k) Om;simp only[go_sem,gD i,zF i];by_cases hlt:k<4-level.toNat;have u:lvl f (upN f k (cD f d))>level:=by rw[x];omega
 have w:0<upN f k (cD f d):=by
  rcases arZ (upN f k (cD f d))with e|e
  rw[e,l.root.2.1]at x;omega;exact e
 simp only[go_sem,u,gD i,MA i,l.MB w i];exact aF (k+1) hlt Om (by(repeat' (first|exact d_|refine e_ ?_ ?_))<;>first|(simp only[go_sem,upN]<;>rfl)|rfl) a_;have u:¬lvl f (upN f k (cD f d))>level:=by rw[x];omega
 have:k=4-level.toNat:=Om;subst this;simp only[go_sem,u];refine cR (.inr rfl) Ev ?_;rfl
structure Nt(C:Ctx):Prop where
 valid:∀f:aB,f.Ok->aJ C 67 [.agg f.cells] .nil (aL (.bool (cP f)))
 yR:∀(f:aB)(d:Nat)(level:Int),VF f->d<Z' f.aoC->0<=level->level<=4->aJ C 88 [.agg f.cells,.int .i64 d,.int .i64 level] .nil (aL (.int .i64 (cL f d level:Nat)))
structure SB(C:Ctx):Prop extends Nt C where
 bu:∀(f:aB)(v:Nat),VF f->v<Z' f.aoE->aJ C 82 [.agg f.cells,.int .i64 v] .nil (aL (.int .i64 (kW f v)))
def soS(f:aB):Spec:=λname vs=>match name,vs with
 |88,[_,.int _ d,.int _ l]=>some ([],λ_=>aL (.int .i64 (cL f d.toNat l:Nat)))
 |82,[_,.int _ v]=>some ([],λ_=>aL (.int .i64 (kW f v.toNat)))
 |_,_=>none
theorem Rr(f:aB)(d:Nat)(l:Int):soS f 88 [.agg f.cells,.j d,.j l]=some ([],λ_=>aL (.j (cL f d l:Nat))):=rfl
theorem aeN{f:aB}(hV:VF f){n:Nat}(i:n<Z' f.aoF):0<=lvl f n/\lvl f n<=4:=by
 rcases arZ n with e|e
 rw[e,hV.root.2.1];decide;have:=hV.dom n e i;omega
def bc(f:aB)(row:I_):Int:=match gL (kZ f) row 0 with
 |some i=>i
 |none=>-1
theorem abQ(f:aB)(row:I_)(A:Z' row<=16777216):vr.wp C (aW Mb.res (aL (.j (bc f row)))) (g_ [.agg f.cells,ints row]) .nil:=by
 unfold bc;simp only[go_sem,vr,Mb];refine wp_loop (α:=Nat) (λk=>(((n_.set 1 (ints row)).set 2 (.aU f.cells)).set 5 (.j k))) (λ_=>.nil) (λk=>k<=Z' row/\gL (kZ f) row 0=gL (kZ f) (row.drop k) k) (λk=>Z' row-k) 0 ⟨apR _,rfl⟩ Lq a_ ?_;rintro k ⟨y,i⟩;simp only[go_sem,apP];by_cases hlt:k<Z' row;have e:(k:Int)<(Z' row:Nat):=Om;have l:(row.map λx=>[PV.int .i64 x])[k]?=some [.j row[k]]:=by simp[hlt]
 rw[asI hlt,gL]at i;generalize row[k]=x at *
 simp only[go_sem,e];refine bE .nil cO a_ ?_;by_cases u:x < -1;rw[show kZ f x=true from by unfold kZ;rw[aZ u];rfl,aE rfl]at i;simp only[go_sem,l,u];refine cR (.inr rfl) Ev ?_;rw[bO,i];by_cases w:x>=(Z' f.aoC:Nat);rw[show kZ f x=true from by unfold kZ;rw[aZ w,Bool.or_true],aE rfl]at i;simp only[go_sem,l,u,apP,w];refine cR (.inr rfl) Ev ?_;rw[bO,i];rw[show kZ f x=false from by unfold kZ;rw[bG u,bG w];rfl,aC aT]at i;simp only[go_sem,l,u,apP,w,wZz k];exact aF (k+1) ⟨hlt,i⟩ Om Lq b_;have e:¬(k:Int)<(Z' row:Nat):=Om;have:k=Z' row:=Om;subst this;rw[List.drop_length,gL]at i;simp only[go_sem,e];refine cR (.inr rfl) Ev ?_;rw[bO,i]
theorem aaJ{r e:Int}(h:0<=e):max 0 (min r e)=min (max r 0) e:=Om
theorem Lv(f:aB)(room:I_){k:Nat}(h:k<Z' f.aoC):(bM f room).take (k+1)=(bM f room).take k++[kJ f room k]:=by
 have e:k<(bM f room).length:=by rw[qF];exact h
 rw[arB e,fw]
theorem Rt(valid:∀f:aB,f.Ok->aJ C 67 [.agg f.cells] .nil (aL (.bool (cP f))))(f:aB)(M:f.Ok)(room:I_) :
  QB.wp C (aW qY.res (cY (ints (qG f room)))) (g_ [.agg f.cells,ints room]) .nil:=by
 simp only[go_sem,QB,qY];refine aD (valid f M) Sq ?_;unfold qG;cases O:cP f with
 |false =>simp only[go_sem,aqI];exact De Ev
 |true=>
  have hV:=VF.of O;have E:=hV.small.aoC;have A:=qF f room;simp only[go_sem,aqC];refine wp_loop (α:=T3_) (λt=>((((n_.set 1 (ints room)).set 2 (.aU f.cells)).set 5 (t.2.1)).set 6 (.j t.1))) (λt=>t.2.2) (λt=>t.1<=Z' f.aoC/\bA t.2.2 1 t.2.1 (aN ((bM f room).take t.1))) (λt=>Z' f.aoC-t.1) (0,.aG,.nil) ⟨apR _,.nil⟩ Lq a_ ?_;rintro⟨k,v,K⟩ ⟨N,w⟩;simp only at N w ⊢;simp only[go_sem,apP];by_cases hlt:k<Z' f.aoC;have e:(k:Int)<(Z' f.aoC:Nat):=Om;obtain⟨J,he⟩:=hV.As hlt;have B:=hV.model _ (apW J);rw[he]at B;have y:(1:Nat)*1<=16777216:=by decide
  have i:=Lv f room hlt;have rest:∀(x:Int)(F:PF),x=kJ f room k->((((((n_.set 1 (ints room)).set 2 (.aU f.cells)).set 5 (v)).set 6 (.j k)).set 7 (.j x)):PF).le F ->
    aI.wp C (.region gg) (fE 1 (gH C (aI.wp C (.region VB)) (fK (λt:T3_=>((((n_.set 1 (ints room)).set 2 (.aU f.cells)).set 5 (t.2.1)).set 6 (.j t.1))) (λt=>t.2.2) (λt=>t.1<=Z' f.aoC/\bA t.2.2 1 t.2.1 (aN ((bM f room).take t.1))) (λt=>Z' f.aoC-t.1) (Z' f.aoC-k) (fE 0 (gH C (aI.wp C (.seq (.region VC) .ret)) (aW [.tmp 4] (cY (ints (bM f room))))))))) F K:=by
   intro x F R L;refine mA _ (λ_ _ _ _ a b=>Up.up a b) L ?_;simp only[go_sem,gg,y];refine fS (src:=[[.j x]]) w Sq (by unfold roomFor;rw[cI,aqF];simp only[aqH,maxLen];omega) λv' H' l _=>?_;rw[Ku,R,<-i]at l;simp only[go_sem,VB,wZz k];exact aF (k+1,v',H') ⟨hlt,l⟩ sO_ Lq b_
  simp only[aI.wp,go_sem]at rest;simp only[go_sem,e];refine bE .nil cO a_ ?_;simp only[go_sem,kE hlt,hV.CH hlt,uq J,he];by_cases c:Z' room=Z' f.aoC;have u:k<Z' room:=Om;have D:(room.map λn=>[PV.int .i64 n])[k]?=some [.j room[k]]:=by simp[u]
  simp only[go_sem,apP,cC (Om:(Z' room:Int)=(Z' f.aoC:Nat)),D,max_eq,Hk];refine rest _ _ ?_ Lq;rw[kJ,aE c,aaJ Om,apY,apZ u,arT];simp only[go_sem,apP,bJ (Om:(Z' room:Int)≠(Z' f.aoC:Nat))];refine rest _ _ ?_ Lq;rw[kJ,aC c];have e:¬(k:Int)<(Z' f.aoC:Nat):=Om;have:k=Z' f.aoC:=Om;subst this;rw[<-A,aqO]at w;simp only[go_sem,e,VC];exact sd w Sq
theorem Du(L:SB C)(f:aB)(e:f.Ok)(room:I_) :
  QB.wp C (aW qY.res (cY (ints (qG f room)))) (g_ [.agg f.cells,ints room]) .nil:=Rt L.valid f e room
theorem ZI(f:aB)(hV:VF f)(p:bY)(hp:Fits p.aoD)(d:Nat)(w:d<Z' f.aoC) :
  RW.wp C (aW PS.res (aL (.bool (p.aoD.contains ((mdl f d:Nat):Int))))) (g_ [.agg p.cells,.agg f.cells,.j d]) .nil:=by
 have y:Z' p.aoD<=9223372036854775807:=hp;simp only[go_sem,RW,PS];refine wp_loop (α:=Nat) (λk=>((((n_.set 2 (.j d)).set 3 (.aU p.cells)).set 4 (.aU f.cells)).set 7 (.j k))) (λ_=>.nil) (λk=>k<=Z' p.aoD/\p.aoD.contains ((mdl f d:Nat):Int)=(p.aoD.drop k).contains ((mdl f d:Nat):Int)) (λk=>Z' p.aoD-k) 0 ⟨apR _,rfl⟩ Lq a_ ?_;rintro k ⟨A,l⟩;simp only[go_sem,apP];by_cases hlt:k<Z' p.aoD
 ·have i:(k:Int)<(Z' p.aoD:Nat):=Om;have u:(p.aoD.map λx=>[PV.int .i64 x])[k]?=some [.j p.aoD[k]]:=by simp[hlt]
  rw[asI hlt,List.contains_cons]at l;have e:(p.aoD[k]==((mdl f d:Nat):Int))=(((mdl f d:Nat):Int)==p.aoD[k]):=BEq.comm;simp only[go_sem,i];refine bE .nil cO a_ ?_;cases c:((mdl f d:Nat):Int)==p.aoD[k]with
  |true =>rw[c]at e;rw[c,Bool.true_or]at l;simp only[go_sem,u,kE w,hV.CH w,e];refine cR (.inr rfl) Ev ?_;rw[bO,l]
  |false =>rw[c]at e;rw[c,Bool.false_or]at l;simp only[go_sem,u,kE w,hV.CH w,e,wZz k];exact aF (k+1) ⟨hlt,l⟩ Om Lq b_
 have i:¬(k:Int)<(Z' p.aoD:Nat):=Om;have:k=Z' p.aoD:=Om;subst this;rw[List.drop_length]at l;simp only[go_sem,i];refine cR (.inr rfl) Ev ?_;rw[bO,l];rfl
theorem YG{p:Int->Bool}{xs:I_}{k:Nat}(h:k<Z' xs):(xs.take (k+1)).countP p=(xs.take k).countP p+if p xs[k]then 1 else 0:=by
 rw[arB h,atW];by_cases hp:p xs[k]<;>simp[atE,hp]
theorem Ra(L:Nt C)(f:aB)(hV:VF f)(row:I_)(K:BD f row)(n:Nat)(E:n<Z' f.aoF) :
  ZK.wp C (aW uT.res (aL (.j (row.countP (jR f n):Nat)))) (g_ [.agg f.cells,ints row,.j n]) .nil:=by
 have J:=K.len;have w:=aeN hV E;simp only[go_sem,ZK,uT];refine wp_loop (α:=Nat) (λk=>(((((n_.set 1 (ints row)).set 2 (.j n)).set 3 (.aU f.cells)).set 7 (.j ((row.take k).countP (jR f n):Nat))).set 8 (.j k))) (λ_=>.nil) (λk=>k<=Z' row) (λk=>Z' row-k) 0 (apR _) Lq a_ ?_;intro k O;simp only[go_sem,apP];by_cases hlt:k<Z' row;have i:(k:Int)<(Z' row:Nat):=Om;have A:(row.map λx=>[PV.int .i64 x])[k]?=some [.j row[k]]:=by simp[hlt]
 have R:=K.at_ _ (apW hlt);have y:=YG (p:=jR f n) hlt;have N:(row.take k).countP (jR f n)<=16777216:=by have:=List.countP_le_length (p:=jR f n) (l:=row.take k);rw[aqF]at this;omega
 have u:jR f n row[k]=(decide (0<=row[k])&&decide (cL f row[k].toNat (lvl f n)=n)):=rfl;have fin:∀(c:Nat)(B:PF),(row.take (k+1)).countP (jR f n)=c->((((((n_.set 1 (ints row)).set 2 (.j n)).set 3 (.aU f.cells)).set 7 (.j c)).set 8 (.j (k+1:Nat))):PF).le B->fK (λk:Nat=>(((((n_.set 1 (ints row)).set 2 (.j n)).set 3 (.aU f.cells)).set 7 (.j ((row.take k).countP (jR f n):Nat))).set 8 (.j k))) (λ_=>.nil) (λk=>k<=Z' row) (λk=>Z' row-k) (Z' row-k) (fE 0 (gH C (aI.wp C (.seq (.region UV) .ret)) (aW [.tmp 6] (aL (.j (row.countP (jR f n):Nat)))))) .normal B .nil:=
  λc B e h=>aF (k+1) hlt Om (by rw[e];exact h) b_
 generalize(row.take k).countP (jR f n)=c at *
 generalize row[k]=x at *
 simp only[go_sem,i];refine bE .nil (soS f) a_ ?_;by_cases D:x>=0;obtain⟨d,rfl⟩:∃d:Nat,x=d:=⟨x.toNat,by omega⟩;have M:d<Z' f.aoC:=Om;rw[aZ (Om:(0:Int)<=d),aqL,arP]at u;rw[u]at y;simp only[go_sem,A,D,gD E,zF E];refine cM (Rr f d (lvl f n)) (L.yR f d (lvl f n) hV M w.1 w.2) Sq a_ ?_;by_cases F:cL f d (lvl f n)=n;rw[aZ F,aE rfl]at y;simp only[go_sem,cC (show((cL f d (lvl f n):Nat):Int)=(n:Int) by omega),wZz c,wZz k];exact fin (c+1) _ y Lq;rw[bG F,aC aT,arG]at y;simp only[go_sem,bJ (show((cL f d (lvl f n):Nat):Int)≠(n:Int) by omega),wZz k];exact fin c _ y Lq;rw[bG (show ¬0<=x from D),aqD]at u;rw[u,aC aT,arG]at y;simp only[go_sem,A,D,wZz k];exact fin c _ y Lq;have i:¬(k:Int)<(Z' row:Nat):=Om;have:k=Z' row:=Om;subst this;simp only[go_sem,i,UV,aqO];refine cR (.inr rfl) Ev ?_;rfl
theorem Uk{xs:I_}{k:Nat}{d:Int}(h:k<Z' xs):(xs.take (k+1)).contains d=((xs.take k).contains d||decide (xs[k]=d)):=by
 rw[Bool.eq_iff_iff];rw[asW,arB h,aqZ,arA,Bool.or_eq_true,asW,dT_];exact⟨λh=>h.imp id Eq.symm,λh=>h.imp id Eq.symm⟩

def qb:=bV [1] Proofs.Tryz.f68
def av:=cF qb
def XV:=bV [] Proofs.Tryz.f107
def WI:=cF XV
def kC:=bV [1] Proofs.Tryz.f65
def ig:=aA kC 17
def RA:aI:=(eN (aA kC 18) 111 6 (aA kC 20) (.region (aA kC 19)))
def ii:=aA kC 21
def ib:aI:=(eN (aA kC 15) 90 4 ii (sq (aA kC 16) (dF ig 6 RA)))
def ic:aI:=(eN (aA kC 13) 85 2 (aA kC 22) (dF (aA kC 14) 4 ib))
def ie:aI:=(eN (aA kC 24) 141 8 (aA kC 27) (sq (aA kC 25) (.cond (Tm 148) (sq (aA kC 26) .ret) .skip)))
def ij:=aA kC 28
def wu:aI:=(sq (aA kC 0) (sq (aA kC 1) (pI (aA kC 2) 41 (aA kC 3) (.seq (dF (aA kC 4) 0 (eN (aA kC 5) 44 0 (aA kC 8) (sq (aA kC 6) (.cond (Tm 66) (sq (aA kC 7) .ret) .skip)))) (.seq (sq (aA kC 9) (dq (eH kC 0) (.cond (Tm 80) (sq (aA kC 10) .ret) .skip))) (sq (aA kC 11) (.seq (dF (aA kC 12) 2 ic) (.seq (dF (aA kC 23) 8 ie) (sq ij .ret)))))))))
def Ni:=bV [] Proofs.Tryz.f114
def ww:=cF Ni
def ML:=bV [] Proofs.Tryz.f62
def HX:=cF ML
def qa:=bV [] Proofs.Tryz.f63
def au:=cF qa
def RB:=bV [7] Proofs.Tryz.f69
def RY:=cF RB
def Nf:=bV [6,7] Proofs.Tryz.f70
def wr:=cF Nf
def p9:=bV [] Proofs.Tryz.f106
def ao:=cF p9
def dJ:=bV [1] Proofs.Tryz.f31
def RC:aI:=(eN (aA dJ 6) 61 0 (aA dJ 9) (sq (aA dJ 7) (.region (aA dJ 8))))
def RD:aI:=(eN (aA dJ 11) 91 2 (aA dJ 15) (sq (aA dJ 12) (sq (aA dJ 13) (.region (aA dJ 14)))))
def RG:=aA dJ 18
def EQ:aI:=(eN (aA dJ 19) 169 4 (aA dJ 22) (sq (aA dJ 20) (sq (aA dJ 21) (.draw (eH dJ 0)))))
def RH:=aA dJ 23
def ER:aI:=(eN (aA dJ 24) 227 6 (aA dJ 28) (sq (aA dJ 25) (sq (aA dJ 26) (.region (aA dJ 27)))))
def RI:=aA dJ 29
def RE:aI:=(eN (aA dJ 37) 344 12 (aA dJ 38) (.draw (eH dJ 2)))
def ES:aI:=(eN (aA dJ 35) 329 10 (aA dJ 39) (dq (eH dJ 1) (dF (aA dJ 36) 12 RE)))
def RJ:=aA dJ 40
def ET:aI:=(eN (aA dJ 30) 278 8 RJ (sq (aA dJ 31) (sq (aA dJ 32) (sq (aA dJ 33) (dF (aA dJ 34) 10 ES)))))
def RK:=aA dJ 41
def EU:aI:=(eN (aA dJ 42) 368 14 (aA dJ 44) (sq (aA dJ 43) (.draw (eH dJ 3))))
def RL:=aA dJ 45
def aw:aI:=(sq (aA dJ 0) (pI (aA dJ 1) 53 (aA dJ 2) (sq (aA dJ 3) (sq (aA dJ 4) (.seq (dF (aA dJ 5) 0 RC) (.seq (dF (aA dJ 10) 2 RD) (sq (aA dJ 16) (sq (aA dJ 17) (.seq (dF RG 4 EQ) (.seq (dF RH 6 ER) (.seq (dF RI 8 ET) (.seq (dF RK 14 EU) (sq RL .ret)))))))))))))
def p8:=bV [8] Proofs.Tryz.f64
def an:=cF p8

theorem uF{t:Nat}{b i:Bool}{F:PF}{H:PH}(h:F t=some (.bool b))(e:b=i):aW [.tmp t] (aL (.bool i)) .ret F H:=by
 subst e;exact bK (.inr rfl) .nil (vs:=[.bool b]) (by rw[nM,rK,h,tK]) a_ ⟨rfl,rfl⟩
theorem Y7(f:aB)(hV:VF f)(p:bY)(hp:∀m∈p.aoD,0<=m/\m<Z' f.aoD)(u:Fits p.aoD)(set:I_)(V:xl f set) :
  td.wp C (aW nE.res (aL (.bool (nY f p set)))) (g_ [.agg f.cells,.agg p.cells,ints set]) .nil:=by
 have i:=hV.small;have x:(Z' f.aoD:Int)*((1:Nat):Int)<=140737488355328:=by have:=i.aoD;omega
 have y:(Z' f.aoD:Int)<=9223372036854775807:=by have:=i.aoD;omega
 have A:(0:Int)<=(Z' f.aoD:Int):=Om;have E:(Z' f.aoF:Int)*((8:Nat):Int)<=140737488355328:=by have:=i.aoF;omega
 have F:(Z' f.aoF:Int)<=9223372036854775807:=by have:=i.aoF;omega
 have J:(0:Int)<=(Z' f.aoF:Int):=Om;simp only[go_sem,td,nE,apP,x,y,A,Int.le_refl,arP];refine aQ λw W=>?_;rw[GD];simp only[go_sem,apP];refine wp_loop (α:=Nat) (λk=>(((((((n_.set 2 (ints set)).set 3 (.aU f.cells)).set 4 (.aU p.cells)).set 7 (.osl w 1 0 f.aoD.length)).set 20 (ints p.aoD)).set 21 (.j (Z' p.aoD:Nat))).set 22 (.j k))) (λk=>h_.set w (.rows 1 (dE (marks f.aoD.length (p.aoD.take k))))) (λk=>k<=Z' p.aoD) (λk=>Z' p.aoD-k) 0 (apR _) Lq (by rw[asO];exact b_) ?_;intro k X;simp only[go_sem];by_cases hlt:k<Z' p.aoD;have e:(k:Int)<(Z' p.aoD:Nat):=Om;have K:(p.aoD.map λn=>[PV.int .i64 n])[k]?=some [.j p.aoD[k]]:=by simp[hlt]
 obtain⟨M,N⟩:=hp _ (apW hlt);have B:(p.aoD[k]).toNat<(dE (marks f.aoD.length (p.aoD.take k))).length:=by rw[yA,IQ];omega
 have D:(dE (marks f.aoD.length (p.aoD.take k)))[(p.aoD[k]).toNat]?=some [.bool ((p.aoD.take k).contains p.aoD[k])]:=by unfold dE;rw[aqE,xN M N];rfl
 have O:Z' p.aoD<=9223372036854775807:=by have:=u;omega
 simp only[go_sem,e,K,M,N,aqA,D,B,kD,IR M N,wZz k];refine aF (k+1) hlt Om Lq ?_;rw[arB hlt];exact b_;have e:¬(k:Int)<(Z' p.aoD:Nat):=Om;have:k=Z' p.aoD:=Om;subst this;rw[aqO];simp only[go_sem,e,apP,E,F,J,Int.le_refl,arP];refine aQ λoD hD=>?_;have R:w≠oD:=by rintro rfl;simp only[bL]at hD;cases hD
 rw[wt];simp only[go_sem,apP];refine N3 (C:=C) f hV p w oD R set V (by unfold MS;exact lM) (by simp only[aM,aC R,if_true]) (by rw[bL]) ?_ ?_;intro S H' U l;simp only[go_sem];exact uF U l.symm;intro S H' L;simp only[go_sem];exact uF Sq L.symm
theorem Bn{f:aB}{aoP:Int}(h:sX f aoP=true):VF f/\0<=aoP/\aoP.toNat<Z' f.aoG/\aoP=(aoP.toNat:Nat):=by
 unfold sX at h;simp only[apT,dT_]at h;exact⟨VF.of h.1,h.2.1,by omega,by omega⟩
theorem Pf{f:aB}{aoP:Int}(h:sX f aoP=true):nJ f aoP∈f.aoG/\f.aoG[aoP.toNat]?=some (nJ f aoP):=by
 obtain⟨_,_,i,_⟩:=Bn h;have e:nJ f aoP=f.aoG[aoP.toNat]:=by simp[nJ,apY,i]
 rw[e];exact⟨apW i,apZ i⟩
theorem N6(val:∀f:aB,f.Ok->aJ C 96 [.agg f.cells] .nil (aL (.j (xW f))))(f:aB)(l:f.Ok)(aoP:Int) :
  YE.wp C (aW jf.res (aL (.bool (sX f aoP)))) (g_ [.agg f.cells,.j aoP]) .nil:=by
 have i:=val f l;unfold xW at i;simp only[go_sem,YE,jf];refine aD i Ev ?_;have e:sX f aoP=(cP f&&(decide (0<=aoP)&&decide (aoP<Z' f.aoG))):=rfl;cases hp:cP f with
 |false =>rw[hp,aqD]at e;simp only[go_sem,bJ (show(1:Int)≠0 by decide)];exact uF Sq e.symm
 |true =>rw[hp,aqL]at e;by_cases c:aoP>=0;rw[aZ (Om:0<=aoP),aqL]at e;simp only[go_sem,cC (show(0:Int)=0 from rfl),c,apP];exact uF (b:=decide (aoP<Z' f.aoG)) Sq e.symm;rw[bG (Om:¬0<=aoP),aqD]at e;simp only[go_sem,cC (show(0:Int)=0 from rfl),c,apP];exact uF Sq e.symm
structure Nm(C:Ctx):Prop where
 adm:∀(f:aB)(p:bY)(set:I_),VF f->(∀m∈p.aoD,0<=m/\m<Z' f.aoD)->Fits p.aoD->xl f set->aJ C 201 [.agg f.cells,.agg p.cells,ints set] .nil (aL (.bool (nY f p set)))
 known:∀(f:aB)(aoP:Int),f.Ok->aJ C 203 [.agg f.cells,.int .i64 aoP] .nil (aL (.bool (sX f aoP)))
theorem MT{m:Nat}(e:m<=1000):∀i,i<=1000->(gN m i).natAbs<=1000^i
 |0,_=>apU _
 |i+1,h=>by have l:=MT e i Om;have hb:((m:Int)-(i:Int)).natAbs<=1000:=Om;rw[gN,Int.natAbs_tdiv,Int.natAbs_mul,atF];exact aqX (asH _ _) (atU l hb)
theorem jc{m:Nat}(l:m<=1000){i:Nat}(hi:i<=3):-1000000000<=gN m i/\gN m i<=1000000000:=by
 have h:=MT l i Om;have:1000^i<=1000^3:=Nat.pow_le_pow_right Om hi;have e:(1000:Nat)^3=1000000000:=by decide
 omega
theorem Jn(m n:Nat)(w:m<=1000)(M:n<=3) :
  SO.wp C (aW WP.res (aL (.j (max (gN m n) 0)))) (g_ [.j m,.j n]) .nil:=by
 simp only[go_sem,SO,WP];refine wp_loop (α:=Nat) (λk=>((((n_.set 0 (.j m)).set 1 (.j n)).set 5 (.j (gN m k))).set 6 (.j k))) (λ_=>.nil) (λk=>k<=n) (λk=>n-k) 0 (apR _) (by(repeat' (first|exact d_|refine e_ ?_ ?_))<;>first|(simp only[go_sem,gN]<;>rfl)|rfl) a_ ?_;intro k L;simp only[go_sem];by_cases hlt:k<n;have l:(k:Int)<(n:Nat):=Om;obtain⟨b1,b2⟩:=jc w (i:=k) Om;have D:=MT w k Om;have hb:((m:Int)-(k:Int)).natAbs<=1000:=Om;have u:=atU (aqX D (Nat.pow_le_pow_right Om (Om:k<=2))) hb;rw[<-Int.natAbs_mul]at u;have e:(1000:Nat)^2*1000=1000000000:=by decide
 have E:i_.wrap ((m:Int)-(k:Int))=(m:Int)-k:=wrap_i64 Om Om;have F:i_.wrap (gN m k*((m:Int)-(k:Int)))=gN m k*((m:Int)-k):=wrap_i64 Om Om;have J:i_.wrap ((k:Int)+1)=(k:Int)+1:=wrap_i64 Om Om;have y:¬((k:Int)+1)=0:=Om;obtain⟨A,B⟩:=jc w (i:=k+1) Om;have hq:gN m (k+1)=Int.tdiv (gN m k*((m:Int)-k)) ((k:Int)+1):=by rw[gN]
 rw[hq]at A B;have K:i_.wrap (Int.tdiv (gN m k*((m:Int)-k)) ((k:Int)+1))=Int.tdiv (gN m k*((m:Int)-k)) ((k:Int)+1):=wrap_i64 Om Om;simp only[go_sem,l,E,F,J,y,K]
 try simp only[go_sem,wZz k]
 exact aF (k+1) hlt Om (lE1 hq) a_;have l:¬(k:Int)<(n:Nat):=Om;have:k=n:=Om;subst this;simp only[go_sem,l];have x:(if gN m k<0 then 0 else gN m k)=max (gN m k) 0:=by split<;>omega
 rw[x];refine cR (.inr rfl) Ev ?_;rfl
def NX(k:Nat)(b:Bool):Nat:=if b then k+1 else k
theorem YF{α:Type}(q:α->Bool)(l:List α){i:Nat}(h:i<Z' l):(l.take (i+1)).countP q=NX ((l.take i).countP q) (q l[i]):=by
 rw[arB h,atW];unfold NX;cases hq:q l[i]<;>simp[hq]
def IN(sc:L2_)(set:I_)(m:Int)(n i:Nat):PF:=((((((n_.set 1 (ints set)).set 2 (.int .i64 m)).set 7 (.int .i64 n)).set 14 (lay sc)).set 15 (.int .i64 (Z' sc:Nat))).set 16 (.int .i64 i))
def qC(sc:L2_)(set:I_)(m:Int)(n i:Nat)(b:Nat)(s:I_)(j:Nat):PF:=((((((((((n_.set 1 (ints set)).set 2 (.int .i64 m)).set 7 (.int .i64 n)).set 14 (lay sc)).set 15 (.int .i64 (Z' sc:Nat))).set 16 (.int .i64 i)).set 10 (.int .i64 b)).set 20 (ints s)).set 21 (.int .i64 (Z' s:Nat))).set 22 (.int .i64 j))
theorem Jo{K:bT}[Up K](sc:L2_)(set:I_)(B:Z' set<=1000000000000000)(m:Int)(n i b:Nat)(s:I_)(j:Nat)(d:Int)(k:Nat)(x:k<=fL set d){F:PF}{H:PH}
  (y:(((qC sc set m n i b s j).set 13 (.j d)).set 11 (.j k)).le F)
  (w:K (.exit 4) (((qC sc set m n i b s j).set 13 (.j d)).set 11 (.j (fL set d:Nat))) H) :
  aI.wp C (.loop BW) K F H:=by
 refine wp_loop (α:=Nat) (λk=>((qC sc set m n i b s j).set 13 (.j d)).set 11 (.j k)) (λ_=>H) (λk=>k<=fL set d) (λk=>fL set d-k) k x y b_ ?_;intro k x;have A:=sk set d;by_cases hlt:k<Z' set;have l:(k:Int)<(Z' set:Nat):=Om;have u:(set.map λn=>[PV.int .i64 n])[k]?=some [.j set[k]]:=by simp[hlt]
 by_cases c:k<fL set d;have hb:set[k]<d:=PU set d c;simp only[go_sem,BW,qC,apP,l,u,hb,wZz k];exact aF (k+1) c Om Lq b_;have e:k=fL set d:=Om;subst e;have hb:¬set[fL set d]<d:=Ij set d hlt;simp only[go_sem,BW,qC,apP,l,u,hb];refine Up.up ?_ w;unfold qC;exact Lq;have l:¬(k:Int)<(Z' set:Nat):=Om;have e:k=fL set d:=Om;subst e;simp only[go_sem,BW,qC,apP,l];refine Up.up ?_ w;unfold qC;exact Lq
theorem N7{K:bT}[Up K](sc:L2_)(set:I_)(U:Z' set<=1000000000000000)(W:set.Pairwise (· < ·))(m:Int)(n i:Nat)(s:I_)(X:Z' s<=1000000000000000)(E:s.Pairwise (· < ·)){F:PF}{H:PH}
  (L:((qC sc set m n i 0 s 0).set 11 (.j 0)).le F)
  (M:K (.exit 2) ((IN sc set m n i).set 10 (.j (pW set s:Nat))) H) :
  aI.wp C (.loop IB) K F H:=by
 refine wp_loop (α:=Nat × Nat) (λt=>(qC sc set m n i ((s.take t.1).countP λd=>set.contains d) s t.1).set 11 (.j t.2)) (λ_=>H) (λt=>t.1<=Z' s/\∀d∈s.drop t.1,t.2<=fL set d) (λt=>Z' s-t.1) (0,0) ⟨apR _,λd _=>apR _⟩ (by simpa using L) b_ ?_;rintro⟨j,k⟩ ⟨S,J⟩;simp only at S J;by_cases hlt:j<Z' s;have w:(j:Int)<(Z' s:Nat):=Om;have B:(s.map λn=>[PV.int .i64 n])[j]?=some [.j s[j]]:=by simp[hlt]
 have l:=YF (λd=>set.contains d) s hlt;have u:s.drop j=s[j]::s.drop (j+1):=asI hlt;have D:k<=fL set s[j]:=J _ (by rw[u];exact atZ ..);have aoZ:∀d∈s.drop (j+1),fL set s[j]<=fL set d:=by intro d O;have:=E.sublist (List.drop_sublist j s);rw[u,List.pairwise_cons]at this;exact Rb set (Int.le_of_lt (this.1 d O))
 have e:=Wt W s[j];have N:(s.take j).countP (λd=>set.contains d)<=j:=aqX List.countP_le_length (by rw[aqF];omega);generalize(s.take j).countP (λd=>set.contains d)=b at *
 generalize s[j]=d at *
 simp only[go_sem,IB,qC,w,B];have Y:=λ{K:bT} [Up K] {F:PF}=>Jo (C:=C) (K:=K) sc set U m n i b s j d k D (F:=F) (H:=H);refine Y (by unfold qC;exact Lq) ?_;have V:=sk set d;by_cases c:fL set d<Z' set;have y:((fL set d:Nat):Int)<(Z' set:Nat):=Om;have x:(set.map λn=>[PV.int .i64 n])[fL set d]?=some [.j set[fL set d]]:=by simp[c]
 have R:set.getD (fL set d) 0=set[fL set d]:=by simp[apY,c]
 rw[aZ c,aqL,R]at e;by_cases A:set[fL set d]=d;rw[aZ A]at e;rw[e]at l;simp only[go_sem,qC,apP,y,x,cC A,wZz b,wZz j];exact aF (j+1,fL set d) ⟨hlt,aoZ⟩ sO_ (by(repeat' (first|exact d_|refine e_ ?_ ?_))<;>first|(simp only[go_sem,l,NX]<;>rfl)|rfl) b_;rw[bG A]at e;rw[e]at l;simp only[go_sem,qC,apP,y,x,bJ A,wZz j];exact aF (j+1,fL set d) ⟨hlt,aoZ⟩ sO_ (by(repeat' (first|exact d_|refine e_ ?_ ?_))<;>first|(simp only[go_sem,l,NX]<;>rfl)|rfl) b_;have y:¬((fL set d:Nat):Int)<(Z' set:Nat):=Om;rw[bG c,aqD]at e;rw[e]at l;simp only[go_sem,qC,apP,y,wZz j];exact aF (j+1,fL set d) ⟨hlt,aoZ⟩ sO_ (by(repeat' (first|exact d_|refine e_ ?_ ?_))<;>first|(simp only[go_sem,l,NX]<;>rfl)|rfl) b_;have w:¬(j:Int)<(Z' s:Nat):=Om;have:j=Z' s:=Om;subst this;simp only[go_sem,IB,qC,w,aqO];refine Up.up ?_ M;unfold IN pW;exact Lq
theorem Td(sc:L2_)(E:Z' sc<=1000000000000000)(x:∀s∈sc,Z' s<=1000000000000000/\s.Pairwise (· < ·))(set:I_)(D:Z' set<=1000000000000000)(y:set.Pairwise (· < ·))(m:Int) :
  jg.wp C (aW mH.res (aL (.j (fF sc set m:Nat)))) (g_ [lay sc,ints set,.j m]) .nil:=by
 simp only[go_sem,jg,mH,apP];refine wp_loop (α:=Nat) (λi=>IN sc set m ((sc.take i).countP λs=>decide (((pW s set:Nat):Int)>m)) i) (λ_=>.nil) (λi=>i<=Z' sc) (λi=>Z' sc-i) 0 (apR _) (by unfold IN;exact Lq) a_ ?_;intro i hi;by_cases hlt:i<Z' sc;have l:(i:Int)<(Z' sc:Nat):=Om;have w:(sc.map λr=>[ints r])[i]?=some [ints sc[i]]:=by simp[hlt]
 have e:=YF (λs=>decide (((pW s set:Nat):Int)>m)) sc hlt;obtain⟨J,A⟩:=x sc[i] (apW hlt);have B:(sc.take i).countP (λs=>decide (((pW s set:Nat):Int)>m))<=i:=aqX List.countP_le_length (by rw[aqF];omega);generalize(sc.take i).countP (λs=>decide (((pW s set:Nat):Int)>m))=n at *
 generalize sc[i]=s at *
 have u:pW set s=pW s set:=SK (y.imp (λh=>by omega)) (A.imp (λh=>by omega));simp only[go_sem,IN,l,w,apP];have one:=λ{K:bT} [Up K] {F:PF} {H:PH}=>N7 (C:=C) (K:=K) sc set D y m n i s J A (F:=F) (H:=H);refine one (by unfold qC;exact Lq) ?_;rw[u];by_cases c:((pW s set:Nat):Int)>m;rw[aZ c]at e;simp only[go_sem,IN,c,wZz n,wZz i];exact aF (i+1) hlt Om (by(repeat' (first|exact d_|refine e_ ?_ ?_))<;>first|(simp only[go_sem,e,NX]<;>rfl)|rfl) a_;rw[bG c]at e;simp only[go_sem,IN,c,wZz i];exact aF (i+1) hlt Om (by(repeat' (first|exact d_|refine e_ ?_ ?_))<;>first|(simp only[go_sem,e,NX]<;>rfl)|rfl) a_;have l:¬(i:Int)<(Z' sc:Nat):=Om;have:i=Z' sc:=Om;subst this;rw[aqO];simp only[go_sem,IN,l];refine cR (.inr rfl) Ev ?_;rfl
def Kept(f:aB)(p:bY)(xs:I_):Prop:=∀i,i<Z' f.aoF->dR f p i>0->fN f xs i<=dR f p i
theorem Kept.nil(f:aB)(p:bY):Kept f p []:=λi _ h=>by
 have:fN f [] i=0:=by unfold fN;split<;>simp
 omega
theorem F7{f:aB}{p:bY}{xs:I_}:lR f p xs=true↔Kept f p xs:=by
 unfold lR Kept;rw[aqM];constructor;intro h i hi e;have:=h i (aqN.2 hi);rw[Bool.not_eq_true',Bool.and_eq_false_iff,decide_eq_false_iff_not,decide_eq_false_iff_not]at this;omega;intro h i hi;have:=h i (aqN.1 hi);rw[Bool.not_eq_true',Bool.and_eq_false_iff,decide_eq_false_iff_not,decide_eq_false_iff_not];omega
def FO(f:aB)(p:bY)(xs:I_)(d:Nat)(k:Nat):Prop:=∀i,i<Z' f.aoF->4-(k:Int)<lvl f i->dR f p i>0->fN f (xs++[(d:Int)]) i<=dR f p i
theorem FO.zero{f:aB}(hV:VF f){p:bY}(xs:I_)(d:Nat):FO f p xs d 0:=λi hi h _=>by
 have:=hV.kQ hi;omega
theorem FO.done{f:aB}(hV:VF f){p:bY}(u:dR f p 0<=0){xs:I_}{d:Nat}(h:FO f p xs d 4):Kept f p (xs++[(d:Int)]):=λi hi l=>by
 have:=hV.kQ hi;by_cases e:i=0;subst e;omega;exact h i hi Om l
theorem FO.next{f:aB}(hV:VF f){p:bY}{xs:I_}{d k:Nat}(y:d<Z' f.aoC)(A:k<4)(w:Kept f p xs)(h:FO f p xs d k)(x:dR f p (upN f k (cD f d))>0->fN f (xs++[(d:Int)]) (upN f k (cD f d))<=dR f p (upN f k (cD f d))):FO f p xs d (k+1):=λi hi B u=>by
 by_cases e:4-(k:Int)<lvl f i;exact h i hi e u;have l:lvl f i=4-(k:Int):=Om;by_cases c:i=upN f k (cD f d);subst c;exact x u;have:fN f (xs++[(d:Int)]) i=fN f xs i:=by
  unfold fN;split;rfl;rw[atW,atE,List.countP_nil];have:jR f i (d:Int)=false:=by unfold jR cL;rw[l,show(4-(4-(k:Int)).toNat)=k by omega,arP];simp[show ¬upN f k (cD f d)=i from λh=>c h.symm]
  rw[this];simp
 rw[this];exact w i hi u
theorem O1{q:Nat->Bool}{n:Nat}:∀{i:Nat},i<n->q i=true->((apQ n).filter q)[(apQ i).countP q]?=some i:=by
 intro i hi hq;have e:apQ n=apQ i++(i::asD (i+1) (n-i-1)):=by rw[List.range_eq_range',List.range_eq_range',show i::asD (i+1) (n-i-1)=asD i (n-i-1+1)from rfl];have:=List.range'_append (s:=0) (m:=i) (n:=n-i-1+1) (step:=1);rw[Nat.one_mul,aqA]at this;rw[this];congr 1;omega
 rw[e,List.filter_append,List.filter_cons_of_pos hq,List.countP_eq_length_filter,arS (apU _),asA];rfl
def InR(l:I_)(n:Nat):Prop:=∀x∈l,0<=x/\x<(n:Int)
def WD(f:aB)(e:L2_)(r:Int)(l:I_):Bool:=!l.isEmpty&&xt f e r l
def V3(f:aB)(u:L2_)(r:Int)(e:L2_)(d:Nat):L2_:=match e.findIdx? (λl=>xt f u r (l++[(d:Int)]))with
 |some i=>e.set i (e.getD i []++[(d:Int)])
 |none=>e++[[(d:Int)]]
def pu(f:aB)(e:L2_)(r:Int):Nat->L2_
 |0=>[]
 |d+1=>V3 f e r (pu f e r d) d
def Nx(f:aB)(e:L2_)(r:Int):Bool:=(apQ f.aoC.length).all λd=>xt f e r [(d:Int)]
theorem set_perm:∀(e:L2_) (i:Nat) (x:Int),i<Z' e->((e.set i (e.getD i []++[x])).flatten).Perm (e.flatten++[x])
 |[],i,x,h=>by cases h
 |l::e,0,x,_=>by simp only[asT,List.getD_cons_zero,atY,aqT];exact asM.append_left _ List.perm_append_comm
 |l::e,i+1,x,h=>by have:=set_perm e i x (by simpa using h);simp only[List.set_cons_succ,List.getD_cons_succ,atY,aqT];exact asM.append_left _ this
structure zq(f:aB)(now:L2_)(r:Int)(n:Nat)(w:L2_):Prop where
 ok:∀l∈w,WD f now r l=true
 len:Z' w.flatten=n
 nd:w.flatten.Nodup
 rng:InR w.flatten n
theorem zq.put{f:aB}{e:L2_}{r:Int}{n:Nat}{w:L2_}(h:zq f e r n w)(B:xt f e r [(n:Int)]=true):zq f e r (n+1) (V3 f e r w n):=by
 have A:∀u:L2_,u.flatten.Perm (w.flatten++[(n:Int)])->(∀l∈u,WD f e r l=true)->zq f e r (n+1) u:=λu hp D=>by
  refine⟨D,by rw[hp.length_eq,apV,h.len];rfl,hp.nodup_iff.2 ?_,λx E=>?_⟩;rw[asS];refine⟨h.nd,by simp,λa B b hb=>?_⟩;rw[arA]at hb;subst hb;have:=h.rng a B;omega;have:=hp.mem_iff.1 E;rw[aqZ,arA]at this;rcases this with E|rfl
  have:=h.rng x E;omega;omega
 unfold V3;split;rename_i i hi;obtain⟨hlt,hp,-⟩:=List.findIdx?_eq_some_iff_getElem.1 hi;refine A _ (set_perm w i n hlt) λl y=>?_;rcases auB y with y|rfl
 exact h.ok l y;unfold WD;rw[apY,apZ hlt,arT,hp];simp;refine A _ (by rw[List.flatten_append];simp) λl y=>?_;rw[aqZ,arA]at y;rcases y with y|rfl
 exact h.ok l y;unfold WD;rw[B];rfl
theorem wk{f:aB}{e:L2_}{r:Int}(i:Nx f e r=true):∀d,d<=Z' f.aoC->zq f e r d (pu f e r d)
 |0,_=>⟨(λl h=>by cases h),rfl,.nil,λx h=>by cases h⟩
 |d+1,u=>(wk i d Om).put (aqM.1 i d (aqN.2 Om))
end Go.PM
namespace Go.RO
open Go
def ins(x:Int):I_->I_
 |[]=>[x]
 |y::ys=>if y<x then y::ins x ys else if y=x then y::ys else x::y::ys
def srt(xs:I_):I_:=xs.mergeSort λx y=>decide (x<=y)
end Go.RO
namespace Go.PM
open Go Go.Na

def JB(l:I_):jY:=λk=>match k with
 |[.int .i64 d]=>if l.contains d then some (.bool true)else none
 |_=>none
theorem Rh:JB []=(λ_=>none:jY):=by
 funext k;unfold JB;split<;>rfl
theorem Ri(l:I_)(d:Int):jY.upd (JB l) [KS.int .i64 d] (.bool true)=JB (l++[d]):=by
 funext k;unfold jY.upd;by_cases c:k=[KS.int .i64 d];subst c;rw[aE rfl];show _=if(l++[d]).contains d then some (PV.bool true)else none
 rw[aE aX];rw[aC c];unfold JB;split;rename_i e;have i:¬e=d:=λh=>c (by rw[h]);have:(l++[d]).contains e=l.contains e:=by rw[List.contains_eq_any_beq,List.contains_eq_any_beq,List.any_append];simp[i]
 rw[this];rfl




def Yj(c:UInt8)(n:Nat):List UInt8:=[c,UInt8.ofNat (97+n/26%26),UInt8.ofNat (97+n%26)]
def Ak(ds:List cQ)(level parent aoX:Nat):List cQ:=ds++[⟨Yj 110 ds.length,(level:Nat),(parent:Nat),(aoX:Nat),mB⟩]
theorem Vi(a b:Nat)(l:a<4294967296)(hb:b<4294967296):(mkT (a:Int) (b:Int)).Ok:=by
 rw[WZ];have e:=asH a (apS a b);have i:=asH b (apS a b);have u:nl (a/apS a b)<=1:=(oG _ _).2 Om;have w:nl (b/apS a b)<=1:=(oG _ _).2 Om;refine⟨cA _,cA _,?_,?_⟩;show(aS _).length<=_;rw[cE];omega;show(aS _).length<=_;rw[cE];omega
theorem Bl{n:Nat}(h:n<=1000000):eK (n:Int):=by unfold eK;omega
def za(ds:List cQ):Prop:=∀x∈ds,x.aoS.Ok/\eK x.level/\eK x.parent
theorem za.dom{ds:List cQ}(h:za ds){level parent aoX:Nat}(i:level<=1000)(l:parent<=1000):za (Ak ds level parent aoX):=λx e=>by
 unfold Ak at e;rw[aqZ,arA]at e;rcases e with e|rfl
 exact h x e;exact⟨Vi 0 1 aT aT,Bl Om,Bl Om⟩
structure FM(f:aB):Prop where
 ok:f.Ok
 km:∀p∈f.aoG,1<=p.k/\p.k<=2/\0<=p.m/\p.m<=2
 aoC:Z' f.aoC<=9
 pols:1<=Z' f.aoG/\Z' f.aoG<=2
 vols:∀x∈f.aoE,0<=x.aoP/\x.aoP<Z' f.aoG
theorem FM.pol{f:aB}(h:FM f){v:Nat}(i:v<Z' f.aoE):dZ f v<Z' f.aoG/\bF f v∈f.aoG:=by
 have l:=h.vols _ (apW i);have u:dZ f v=(f.aoE[v]).aoP.toNat:=by rw[dZ,getD_at i]
 have e:dZ f v<Z' f.aoG:=Om;refine⟨e,?_⟩;unfold bF;rw[apY,apZ e,arT];exact apW e
theorem FM.bu{f:aB}(h:FM f){v:Nat}(e:v<Z' f.aoE):1<=kW f v/\kW f v<=4:=by
 have:=h.km _ (h.pol e).2;unfold kW;omega
abbrev aiR(l:I_)(a:Nat):aR:=.rows 2 [[ints l,.int .i64 (a:Nat)]]
structure ME where
 o:Nat
 o4:Nat
 o5:Nat
 vols:Nat
abbrev ME.boxes(E:ME)(l:I_)(ext e i u w wp wv:PV)(a:Nat):List BX:=[(E.o5,flB ext e i u w wp wv),(E.o,aiR l a),(E.o4,flZ)]





def akR(ds:List cQ)(i:Nat)(d:cQ):Prop:=∃lev p u:Nat,d.name=Yj 110 (i+1)/\d.level=lev/\1<=lev/\lev<=4/\d.parent=p/\p<=i/\(lvs ds)[p]?=some ((lev:Int)-1)/\d.aoX=u/\1<=u/\u<=64/\d.aoS=mB
structure DV(ds:List cQ):Prop where
 root:ds[0]?=some mM
 dom:∀i (hi:i+1<Z' ds),akR ds i ds[i+1]
theorem DV.new{ds:List cQ}(h:DV ds){level parent up:Nat}(x:1<=level)(y:level<=4)(hp:(lvs ds)[parent]?=some ((level:Int)-1))(B:1<=up)(D:up<=64) :
  DV (Ak ds level parent up)/\(lvs (Ak ds level parent up))[Z' ds]?=some (level:Int):=by
 have A:parent<Z' ds:=by
  have:=(aqU.1 hp).1
  rwa[apP]at this
 unfold Ak;refine⟨⟨by rw[asE Om];exact h.root,λi hi=>?_⟩,?_⟩;simp only[apV,aqH]at hi;by_cases hlt:i+1<Z' ds;rw[List.getElem_append_left hlt];obtain⟨lev,p,v,g1,g2,g3,g4,e,l,u,w⟩:=h.dom i hlt;exact⟨lev,p,v,g1,g2,g3,g4,e,l,FB u,w⟩;have:i+1=Z' ds:=Om;rw[List.getElem_append_right Om];simp only[List.getElem_singleton];exact⟨level,parent,up,by rw[this],rfl,x,y,rfl,by omega,FB hp,rfl,B,D,rfl⟩;unfold lvs;rw[aqP,arS (by rw[apP];exact apU _),apP,asA];rfl




theorem aO.store{H:PH}{B:List BX}{L:List LI}(h:aO H B L)(i:Nat){q s n:Nat}{rows:P2_}(hi:L[i]?=some (.osl q s 0 n,s,rows))(k:Nat)(c:V_) :
  ∃rs,H q=some (.rows s rs)/\n<=Z' rs/\rs.take n=rows/\aO (H.set q (.rows s (rs.set k c))) B (L.set i (.osl q s 0 n,s,rows.set k c)):=by
 obtain⟨rs,u,w,e,l⟩:=(h.own i hi).id rfl;injection w with _ _ _ x
 subst x;refine⟨rs,u,e,l,h.JJ i hi (.inr ⟨q,rs.set k c,by rw[arD],by rw[bL],by rw[arD,arD];exact e,by rw[arD,List.take_set,l]⟩) (λp hp=>.inl hp) λp _ hp=>?_⟩;have:p≠q:=hp q rfl;rw[aM,aC this]

open Go Go.RowKit Go.Sort Go.Shelf Go.Proofs
section
variable {E:Env} {H:PH} {w:World}
theorem bS.z8(hW:bS E H w){u:World}(y:w.heap.size<=u.heap.size)(hb:∀b,b<w.heap.size->u.heap[b]?=w.heap[b]?):bS E H u:=by
 refine⟨λb cs h=>?_,λo x h=>?_,λo n h=>?_⟩;obtain⟨e,ty,fr,i⟩:=hW.g b cs h;exact⟨e,ty,fr,(hb b (atC.1 i).1).trans i⟩;obtain⟨e,i⟩:=hW.h o x h;exact⟨Nat.lt_of_lt_of_le e y,i.mono (.refl E) (hb o e)⟩;obtain⟨l,ty,fr,e,i⟩:=hW.s o n h;exact⟨l,ty,fr,(hb o (atC.1 e).1).trans e,i⟩
theorem Ext.z8{l:Env}{H':PH}{e i:World}(h:Ext E H w l H' e)(x:i.os=e.os)(A:i.tape=e.tape)(hp:i.output=e.output)(y:e.heap.size<=i.heap.size)
  (hb:∀b,b<e.heap.size->i.heap[b]?=e.heap[b]?):Ext E H w l H' i:=
 ⟨h.env,x.trans h.os,A.trans h.tape,hp.trans h.output,aqX h.size y,λb hlt u=>(hb b (Nat.lt_of_lt_of_le hlt h.size)).trans (h.block b hlt u),h.new,h.newG⟩
theorem Ko(hW:bS E H w){o off:Nat}{rs:P2_}{xs:I_}(J:H o=some (.rows 1 rs))(K:(rs.drop off).take xs.length=aN xs):Holds (Value.int .i64) w o off xs.toArray:=by
 obtain⟨-,y,ty,x,L,M,N,h5⟩:=hW.h o _ J;intro j F;have i:j<Z' xs:=by simpa using F
 have l:at2 rs (off+j) 0=some (.j xs[j]):=by
  have e:((rs.drop off).take xs.length)[j]?=(aN xs)[j]?:=by rw[K]
  rw[List.getElem?_take_of_lt i,atI]at e;unfold at2;rw[e];simp[aN,i]
 obtain⟨u,A,e2,B⟩:=h5 _ 0 _ l;cases B;have D:xs.toArray[j]! = xs[j]:=by simp[i]
 refine⟨?_,?_⟩;simp only[World.cell?,x,Option.isSome_none,arO,if_false];rw[D];simpa using A;simp[World.frozen?,x]
theorem abE(hW:bS E H w){o:Nat}{xs ys:I_}(J:H o=some (.rows 1 (aN xs)))(V:Z' ys=Z' xs)(n:Nat)(os:Array Obj) :
  bS E (H.set o (.rows 1 (aN ys))) (grow (putRow (Value.int .i64) (Sort.ahead w n) o 0 ys.toArray) os)/\Ext E H w E (H.set o (.rows 1 (aN ys))) (grow (putRow (Value.int .i64) (Sort.ahead w n) o 0 ys.toArray) os):=by
 obtain⟨-,l,ty,B,S,U,L,h5⟩:=hW.h o _ J;have D:Z' xs<=l.size:=by simpa[aN]using L
 have M:mO E 1 (aN ys) (putCells (Value.int .i64) 0 ys.toArray l):=by
  refine⟨λr y=>?_,?_,λi j pv hp=>?_⟩;unfold aN at y;rw[aqJ]at y;obtain⟨n,-,rfl⟩:=y;rfl;simp[aN,putCells];omega
  ·unfold at2 aN at hp;rw[aqE,atV]at hp;obtain⟨r,y,hp⟩:=hp;rw[aqB]at y;obtain⟨m,F,rfl⟩:=y;have hi:=(aqU.1 F).1;cases j with
   |succ j=>simp at hp
   |zero=>
    simp at hp;subst hp;refine⟨.int .i64 m,?_,rfl,.int _ _⟩;have N:i<l.size:=Om;simp only[Nat.mul_one,arG,putCells,Array.getElem?_mapIdx,atP N,aqK,apR,true_and,aqA,Nat.sub_zero,List.size_toArray];rw[aE hi];have:ys.toArray[i]! = m:=by obtain⟨h,e⟩:=aqU.1 F;simp[h,e]
    rw[this]
 obtain⟨O,R⟩:=hW.XL J B (by simp[putCells]) M;have u:∀b,b<(w.setRow o (putCells (Value.int .i64) 0 ys.toArray l)).heap.size->(grow (putRow (Value.int .i64) (Sort.ahead w n) o 0 ys.toArray) os).heap[b]?=(w.setRow o (putCells (Value.int .i64) 0 ys.toArray l)).heap[b]?:=by
  intro b hb;have A:b<w.heap.size:=by simpa[World.setRow]using hb
  have K:(grow (putRow (Value.int .i64) (Sort.ahead w n) o 0 ys.toArray) os).heap[b]?=(putRow (Value.int .i64) (Sort.ahead w n) o 0 ys.toArray).heap[b]?:=by unfold grow;exact Array.getElem?_append_left (by simpa using A)
  rw[K];simp only[putRow,mapBlock,World.setRow,Array.getElem?_modify,heap_ahead];by_cases e:o=b;subst e;simp[B,onCells];simp[e]
 have x:(w.setRow o (putCells (Value.int .i64) 0 ys.toArray l)).heap.size<=(grow (putRow (Value.int .i64) (Sort.ahead w n) o 0 ys.toArray) os).heap.size:=by simp[World.setRow]
 exact⟨O.z8 x u,R.z8 rfl rfl rfl x u⟩
end
section
variable {C:Ctx} {ρ:Ren} {name:Nat}
def sorted(xs:I_):I_:=xs.mergeSort λx y=>decide (x<=y)
theorem F6(L:Lays.n191 C.P ρ)(U:C.num name=ρ.f 191)(R:∃fn,C.P.funcs[C.num name]?=some fn/\fn.body.isSome=true/\(fn.name=="runtime.NumGoroutine")=false)(o:Nat)(xs:I_)(V:xs≠[])(S:Z' xs<4611686018427387904) :
  aJ C name [.osl o 1 0 xs.length] (h_.set o (.rows 1 (aN xs))) (λr H'=>r=.tup []/\H'=h_.set o (.rows 1 (aN (sorted xs)))):=by
 refine⟨R,λE w vs W hW A=>?_⟩;have x:(h_.set o (.rows 1 (aN xs))) o=some (.rows 1 (aN xs)):=by simp[cV]
 obtain⟨Z⟩:=vs;cases A with
 |cons K M=>
 cases M;cases K with
 |@osl _ _ _ _ cap n a hb u i B D X y=>
 have l:cap≠0:=by intro e;subst e;exact V (auF Om)
 have O:a=⟨o,0,none⟩:=by
  obtain⟨b,off,Y⟩:=a;simp only at hb u i;subst hb;subst u;rcases i with h|h
  exact(l h).elim;simp at h;subst h;rfl
 subst O;rw[U];have N:=Ko hW (off:=0) (xs:=xs) x (by rw[asN];exact aqR (by simp[aN]));refine(Any.sort_Ints L o 0 cap xs w N (hW.h o _ x).1 S).mono λe w' he=>?_;obtain⟨rfl,n,os,rfl⟩:=he;obtain⟨F,J⟩:=abE hW x (ys:=sorted xs) (by simp[sorted]) n os;rw[show(h_.set o (.rows 1 (aN xs))).set o (.rows 1 (aN (sorted xs)))=h_.set o (.rows 1 (aN (sorted xs)))from PH.ext λq=>by simp only[cV];split<;>rfl]at F J;exact⟨_,.tup [],E,_,rfl,F,.tup #[] rfl aX,J,rfl,rfl⟩
end
open Go Go.RowKit Go.Sort Go.Shelf Go.Proofs
abbrev lists(e:L2_):PV:=.sl 1 (e.map λw=>[ints w])
abbrev WPs:=List (PV × I_)
def dX(ps:WPs):P2_:=ps.map λp=>[p.1]
def mE(ps:WPs):List LI:=ps.map λp=>(p.1,1,aN p.2)
def wls(ps:WPs):L2_:=ps.map (·.2)
def gX(e:PV)(ps:WPs):List LI:=(e,1,dX ps)::mE ps
section
variable {H:PH} {B:List BX}
theorem oQ(ps:WPs):(dX ps).length=Z' ps:=apP _
theorem WV{ps:WPs}{i:Nat}{v:PV}{w:I_}(hi:ps[i]?=some (v,w)):(mE ps)[i]?=some (v,1,aN w):=by
 unfold mE;rw[aqE,hi];rfl
theorem PA{ps:WPs}{i:Nat}{v:PV}{w:I_}(hi:ps[i]?=some (v,w)):(dX ps)[i]?=some [v]:=by
 unfold dX;rw[aqE,hi];rfl
theorem aO.EC(h:aO H B []):aO H B (gX .aG []):=h.oF 1
theorem aO.inner{e:PV}{ps:WPs}(h:aO H B (gX e ps)){i:Nat}{v:PV}{w:I_}(hi:ps[i]?=some (v,w)):bA H 1 v (aN w):=h.own (i+1) (WV hi)
theorem aO.outer{e:PV}{ps:WPs}(h:aO H B (gX e ps)):bA H 1 e (dX ps):=h.own 0 rfl
theorem GT(a b:I_):aN (a++b)=aN a++aN b:=aqP
theorem aO.aiO{A:PV}{ps:WPs}(h:aO H B (gX A ps)){i b:Nat}{v y:PV}{w src:I_}{K:R_}(hi:ps[i]?=some (v,w))(J:dH H 1 y=some (aN src))(E:roomFor w.length src.length b)(u:src≠[])
  (D:∀q H',aO H' B ((A,1,dX ps)::(mE ps).set i (.osl q 1 0 (w++src).length,1,aN (w++src)))->K (.osl q 1 0 (w++src).length) H'):kM H 1 b v y K:=by
 have l:aN src≠[]:=λe=>u (List.map_eq_nil_iff.1 e);refine h.append (i+1) (WV hi) J (by rw[cI,cI];exact E) λv' H' x F=>?_;obtain⟨q,rfl⟩:=F l;rw[<-GT,cI]at x ⊢;exact D q H' x
theorem aO.afL{l n i:Nat}{ps:WPs}{v':PV}{u:I_}(h:aO H B ((.osl l 1 0 n,1,dX ps)::(mE ps).set i (v',1,aN u))) :
  ∃rs,H l=some (.rows 1 rs)/\n<=Z' rs/\rs.take n=dX ps/\aO (H.set l (.rows 1 (rs.set i [v']))) B (gX (.osl l 1 0 n) (ps.set i (v',u))):=by
 obtain⟨rs,w,x,y,A⟩:=h.store 0 rfl i [v'];refine⟨rs,w,x,y,?_⟩;have e:gX (.osl l 1 0 n) (ps.set i (v',u))=((.osl l 1 0 n,1,dX ps)::(mE ps).set i (v',1,aN u)).set 0 (.osl l 1 0 n,1,(dX ps).set i [v']):=by unfold gX dX mE;rw[asP,asP];rfl
 rw[e];exact A
theorem aO.aaN{i:PV}{ps:WPs}{b:Nat}{y:PV}{K:R_}(h:aO H B (gX i ps))(D:dH H 1 y=some [[.aG]])(x:roomFor ps.length 1 b)
  (w:∀q H',aO H' B (gX (.osl q 1 0 (Z' ps+1)) (ps++[(.aG,[])]))->K (.osl q 1 0 (Z' ps+1)) H'):kM H 1 b i y K:=by
 refine h.append 0 (src:=[[.aG]]) rfl D (by rw[oQ];exact x) λv' H' u A=>?_;obtain⟨q,rfl⟩:=A aX;have l:=u.oF 1;rw[apV,oQ]at l ⊢;refine w q H' ?_;have e:gX (.osl q 1 0 (Z' ps+1)) (ps++[(.aG,[])])=(((i,1,dX ps)::mE ps).set 0 (.osl q 1 0 (Z' ps+1),1,dX ps++[[.aG]]))++[(.aG,1,[])]:=by unfold gX dX mE;rw[aqP,aqP];rfl
 rw[e];exact l
def sT(e:P2_)(l:L2_):Prop:=Z' e=Z' l/\∀(i:Nat) r w,e[i]?=some r->l[i]?=some w->r=[ints w]\/(r=[.aG]/\w=[])
theorem sT.nil:sT [] []:=⟨rfl,λi r w h=>by cases h⟩
theorem sT.snoc{y:P2_}{A:L2_}{u:PV}{w:I_}(h:sT y A)(D:u=ints w\/(u=.aG/\w=[])):sT (y++[[u]]) (A++[w]):=by
 refine⟨by simp[h.1],λi r x e l=>?_⟩;rcases Nat.lt_trichotomy i y.length with c|c|c
 rw[asE c]at e;rw[asE (by rw[<-h.1];exact c)]at l;exact h.2 i r x e l;subst c;rw[arS (apU _),asA]at e;rw[h.1,arS (apU _),asA]at l;cases e;cases l;rcases D with rfl|⟨rfl,rfl⟩
 exact .inl rfl;exact .inr ⟨rfl,rfl⟩;rw[arS Om,arC (by simp;omega)]at e;cases e
theorem sT.flat{l:P2_}{x:L2_}(h:sT l x):Flat l:=Flat.of λr w c e q s rs=>by
 obtain⟨i,hi⟩:=List.mem_iff_getElem?.1 w;have u:=(aqU.1 hi).1;rcases h.2 i r _ hi (apZ (by rw[<-h.1];exact u))with rfl|⟨rfl,-⟩
 rw[arA]at e;subst e;rfl;rw[arA]at e;subst e;rfl
theorem sT.co{y:P2_}{x:L2_}(h:sT y x):Co (.sl 1 y) (lists x):=by
 have u:∀(i:Nat) r t,y[i]?=some r->(x.map λw=>[ints w])[i]?=some t->∃w,t=[ints w]/\(r=[ints w]\/(r=[.aG]/\w=[])):=λi r t l e=>by
  rw[aqE]at e;cases D:x[i]? with
  |none=>rw[D]at e;cases e
  |some w =>rw[D]at e;cases e;exact⟨w,rfl,h.2 i r w l D⟩
 refine .sl (by rw[apP,h.1]) (λi r t l e=>?_) (λi j p q hp hq=>?_);obtain⟨w,rfl,A|⟨A,-⟩⟩:=u i r t l e<;>subst A<;>rfl
 ·unfold at2 at hp hq;cases l:y[i]? with
  |none=>rw[l]at hp;cases hp
  |some r=>
   cases e:(x.map λw=>[ints w])[i]? with
   |none=>rw[e]at hq;cases hq
   |some t=>
    rw[l]at hp;rw[e]at hq;obtain⟨w,rfl,A⟩:=u i r t l e;rcases A with rfl|⟨rfl,rfl⟩
    have:some p=some q:=hp.symm.trans hq;cases this;exact .refl _
    ·cases j with
     |zero=>cases hp;cases hq;exact .nil 1
     |succ j=>cases hp
end
def Fx(u:PV):Prop:=∀q s rs,PV.frz q s rs u=u
theorem Fx.int(k:IntKind)(n:Int):Fx (.int k n):=λ_ _ _=>rfl
theorem Fx.bool(b:Bool):Fx (.bool b):=λ_ _ _=>rfl
theorem Fx.sl(n:Nat)(r:P2_):Fx (.sl n r):=λ_ _ _=>rfl
theorem Fx.aG:Fx .aG:=λ_ _ _=>rfl
theorem Fx.ptr(q z i c:Nat):Fx (.ptr q z i c):=λ_ _ _=>rfl
theorem Fx.aU(c:V_):Fx (.aU c):=λ_ _ _=>rfl
theorem bA.cZ{H:PH}{s:Nat}{v:PV}{rows:P2_}(h:bA H s v rows)(q z:Nat)(rs:P2_):PV.frz q z rs v=PV.cZ q z rs v:=by
 rcases h with⟨-,rfl⟩|⟨p,rs',rfl,-⟩<;>rfl
def Eg(φ:PV->PV)(F:PF):PF:=λi=>(F i).map φ
theorem FK(φ:PV->PV)(F:PF)(i:Nat):Eg φ F i=(F i).map φ:=rfl
theorem HA:∀(ps:WPs){H:PH}{B:List BX}{A:PV}(y:P2_) (l:L2_),sT y l->aO H B ((A,1,y++dX ps)::mE ps)->(∀b∈B,∀q s rs,aR.frz q s rs b.2=b.2) ->
  ∃(φ:PV->PV)(D:PH),Co (φ A) (lists (l++wls ps))/\(∀u,Fx u->φ u=u)/\(∀e:Int,φ (.tup [A,.j e])=.tup [φ A,.j e])/\aO D B []/\(∀F:PF,jJ F H (Eg φ F) D)/\∀o,(H o=none\/A.oid=some o\/∃p∈ps,p.1.oid=some o)->D o=none
 |[],H,B,A,y,l,J,h,hB=>by
  have M:y++dX []=y:=aqY y;have e1:l++wls []=l:=aqY l;rw[M]at h;rw[e1];rcases h.own 0 rfl with⟨R,rfl⟩|⟨q,rs,rfl,_⟩
  ·refine⟨id,H,?_,λ_ _=>rfl,λ_=>rfl,h.Jv 0,λF=>?_,λo ho=>?_⟩
   ·subst R;have:l=[]:=List.length_eq_zero_iff.1 J.1.symm;subst this;exact .nil 1
   ·have:Eg id F=F:=funext λi=>by rw[FK];simp
    rw[this];exact .refl _ _
   ·rcases ho with ho|ho|⟨p,hp,-⟩
    ·exact ho
    ·cases ho
    ·cases hp
  ·obtain⟨rs,Y,Z,z3,z4,L⟩:=h.frz 0 rfl;refine⟨PV.frz q 1 rs,H.frz q 1 rs,?_,λu N=>N _ _ _,λe=>?_,?_,λF=>.step q Y (.refl _ _),λo ho=>?_⟩
   ·rw[z3];exact J.co
   ·show PV.tup [PV.cZ q 1 rs (.osl q 1 0 y.length),.j e]=_;rw[Z,z3]
   ·have O:(B.map λb=>(b.1,b.2.frz q 1 rs))=B:=by
     conv=>rhs;rw[<-List.map_id B]
     refine arQ λb hb=>?_;rw[hB b hb q 1 rs];rfl
    rw[O]at L;exact L
   ·rw[AL];rcases ho with ho|ho|⟨p,hp,-⟩
    ·rw[ho];split<;>rfl
    ·have:q=o:=by injection ho
     rw[aE this.symm]
    ·cases hp
 |(v,w)::ps,H,B,A,y,l,J,h,hB=>by
  have eo:∀u:PV,y++[[u]]++dX ps=y++[u]::dX ps:=λu=>by rw[aqT];rfl
  have ew:l++[w]++wls ps=l++wls ((v,w)::ps):=by rw[aqT];rfl
  have ho:bA H 1 v (aN w):=h.own 1 rfl;rcases ho with⟨R,rfl⟩|⟨q,rs,rfl,_⟩
  ·have hw:w=[]:=List.map_eq_nil_iff.1 R;have h2:=h.Jv 1;obtain⟨φ,D,K,S,U,V,W,X⟩:=HA ps (y++[[.aG]]) (l++[w]) (J.snoc (.inr ⟨rfl,hw⟩)) (by rw[eo];exact h2) hB;rw[ew]at K;refine⟨φ,D,K,S,U,V,W,λo ho=>X o ?_⟩;rcases ho with ho|ho|⟨p,hp,ho⟩
   ·exact .inl ho
   ·exact .inr (.inl ho)
   ·rcases aqG.1 hp with rfl|hp
    ·cases ho
    ·exact .inr (.inr ⟨p,hp,ho⟩)
  ·obtain⟨rs,Y,Z,z3,z4,L⟩:=h.frz 1 rfl;have O:(B.map λb=>(b.1,b.2.frz q 1 rs))=B:=by
    conv=>rhs;rw[<-List.map_id B]
    refine arQ λb hb=>?_;rw[hB b hb q 1 rs];rfl
   have y0:PV.cZ q 1 rs A=A:=z4 0 _ aT rfl;have E:PV.frz q 1 rs A=A:=((h.own 0 rfl).cZ q 1 rs).trans y0;have yp:∀p∈ps,PV.cZ q 1 rs p.1=p.1:=λp hp=>by obtain⟨j,hj⟩:=List.mem_iff_getElem?.1 hp;exact z4 (j+2) (p.1,1,aN p.2) Om (WV hj)
   have er:(y++dX ((.osl q 1 0 (aN w).length,w)::ps)).map (λr=>r.map (PV.cZ q 1 rs))=y++[[ints w]]++dX ps:=by
    rw[aqP,J.flat,aqT];congr 1;show[PV.cZ q 1 rs (.osl q 1 0 (aN w).length)]::(dX ps).map _=_;rw[Z];have:(dX ps).map (λr=>r.map (PV.cZ q 1 rs))=dX ps:=by unfold dX;rw[asR];refine arQ λp hp=>?_;show[PV.cZ q 1 rs p.1]=_;rw[yp p hp]
    rw[this];rfl
   have ei:(mE ps).map (λx=>(x.1,x.2.1,x.2.2.map λr=>r.map (PV.cZ q 1 rs)))=mE ps:=by unfold mE;rw[asR];refine arQ λp _=>?_;show(p.1,1,(aN p.2).map λr=>r.map (PV.cZ q 1 rs))=_;rw[show(aN p.2).map (λr=>r.map (PV.cZ q 1 rs))=aN p.2 from Flat.map p.2 (λx c hc q s rs=>by rw[arA]at hc;subst hc;rfl) q 1 rs]
   have z6:aO (H.frz q 1 rs) B ((A,1,y++[[ints w]]++dX ps)::mE ps):=by rw[O]at L;have z7:aO (H.frz q 1 rs) B ((A,1,(y++dX ((.osl q 1 0 (aN w).length,w)::ps)).map (λr=>r.map (PV.cZ q 1 rs)))::(mE ps).map (λx=>(x.1,x.2.1,x.2.2.map λr=>r.map (PV.cZ q 1 rs)))):=L;rw[er,ei]at z7;exact z7
   obtain⟨φ,D,K,S,U,V,W,X⟩:=HA ps (y++[[ints w]]) (l++[w]) (J.snoc (.inl rfl)) z6 hB;rw[ew]at K;refine⟨λu=>φ (PV.frz q 1 rs u),D,?_,λu N=>?_,λe=>?_,V,λF=>.step q Y ?_,λo ho=>X o ?_⟩
   ·simp only;rw[E];exact K
   ·simp only;rw[N,S u N]
   ·simp only;rw[E];have yt:PV.frz q 1 rs (.tup [A,.j e])=.tup [PV.frz q 1 rs A,.j e]:=by rcases h.own 0 rfl with⟨-,M⟩|⟨p,rs',M,-⟩<;>(subst M;rfl)
    rw[yt,E,U]
   ·have:Eg (λu=>φ (PV.frz q 1 rs u)) F=Eg φ (F.frz q 1 rs):=funext λi=>by rw[FK,FK,uE,Option.map_map];rfl
    rw[this];exact W _
   ·rw[AL];rcases ho with ho|ho|⟨p,hp,ho⟩
    ·left;rw[ho];split<;>rfl
    ·exact .inr (.inl ho)
    ·rcases aqG.1 hp with rfl|hp
     ·have:q=o:=by injection ho
      left;rw[aE this.symm]
     ·exact .inr (.inr ⟨p,hp,ho⟩)
theorem uR{res:List dY}{F:PF}{H:PH}{i:PV}{ps:WPs}{c:Int}{e:lY}(he:e=.normal\/e=.ret)(h:dY.evs F H res=some [i,.j c])(l:aO H [] (gX i ps)):aW res (cY (.tup [lists (wls ps),.j c])) e F H:=by
 obtain⟨φ,y,u,-,w,-,x,-⟩:=HA ps [] [] .nil l (λb hb=>by cases hb);refine rJ he h ⟨_,_,.nil,x _,a_,φ (bO [i,.j c]),?_,?_⟩;rw[FK,mU,aE rfl];rfl
 ·show cY _ (φ (.tup [i,.j c])) .nil;rw[w];refine⟨.tup rfl λj p q hp hq=>?_,rfl⟩
  match j with
  |0=>cases hp;cases hq;exact u
  |1=>cases hp;cases hq;exact .refl _
  |j+2=>cases hp
theorem bA.lenOf{H:PH}{v:PV}{rows:P2_}{s:Nat}(h:bA H s v rows):PV.sI v=some (.j (Z' rows:Nat)):=by
 rcases h with⟨rfl,rfl⟩|⟨q,rs,rfl,-⟩<;>rfl
theorem aO.aeP{H:PH}{B:List BX}{u:PV}{ps:WPs}(h:aO H B (gX u ps)){i:Nat}(hi:i<Z' ps) :
  ∃l rs,u=.osl l 1 0 ps.length/\H l=some (.rows 1 rs)/\rs[i]?=some [ps[i].1]/\i<Z' rs:=by
 rcases h.outer with⟨e,-⟩|⟨q,rs,rfl,e,h2,h3⟩
 have:(dX ps).length=0:=by rw[e];rfl
 rw[oQ]at this;omega;rw[oQ]at h2 h3;refine⟨q,rs,by rw[oQ],e,?_,by omega⟩;have:=PA (ps:=ps) (i:=i) (v:=ps[i].1) (w:=ps[i].2) (by rw[apZ hi]);rw[<-h3,List.getElem?_take_of_lt hi]at this;exact this
theorem aO.aaQ{H:PH}{B:List BX}{e:PV}{ps:WPs}(h:aO H B (gX e ps)):PV.sI e=some (.j (Z' ps:Nat)):=by
 have:=h.outer.lenOf
 rwa[oQ]at this
theorem MJ(ps:WPs):(wls ps).length=Z' ps:=apP _
theorem mj{res:List dY}{F:PF}{H:PH}{i:PV}{ps:WPs}{e:lY}(he:e=.normal\/e=.ret)(h:dY.evs F H res=some [i])(l:aO H [] (gX i ps)):aW res (cY (lists (wls ps))) e F H:=by
 obtain⟨φ,x,u,-,-,-,w,-⟩:=HA ps [] [] .nil l (λb hb=>by cases hb);refine rJ he h ⟨_,_,.nil,w _,a_,φ (bO [i]),?_,?_⟩;rw[FK,mU,aE rfl];rfl;exact⟨u,rfl⟩
def qy(f:aB)(lv:Int)(i:Nat):Bool:=decide (lvl f i=lv)
def IE(f:aB)(lv:Int):N_:=(apQ f.aoF.length).filter (qy f lv)
def fP(f:aB)(lv:Int)(i:Nat):Nat:=(apQ i).countP (qy f lv)
def hZ(f:aB)(lv:Int)(k:Nat):I_:=(apQ f.aoF.length).map λi=>if i<k/\lvl f i=lv then((fP f lv i:Nat):Int)else 0
def CE(f:aB)(lv:Int)(d i:Nat):N_:=(apQ d).filter λe=>decide (cL f e lv=i)
def tB(f:aB)(lv:Int)(d:Nat):L2_:=(IE f lv).map λi=>cT (CE f lv d i)
theorem D8(f:aB){lv:Int}(h:lv≠5):lL f lv=tB f lv f.aoC.length:=by
 unfold lL;rw[aC h];rfl
theorem we(f:aB):lL f 5=(apQ f.aoC.length).map λ(d:Nat)=>[(d:Int)]:=by
 unfold lL;rw[aE rfl]
theorem Lm(f:aB)(lv:Int)(k:Nat):(hZ f lv k).length=Z' f.aoF:=by unfold hZ;simp
theorem Fq(f:aB)(lv:Int):hZ f lv 0=apX f.aoF.length 0:=by
 unfold hZ;refine asJ aX λi e l=>?_;simp
theorem u6{f:aB}{lv:Int}{k i:Nat}(hi:i<Z' f.aoF):(hZ f lv k)[i]?=some (if i<k/\lvl f i=lv then((fP f lv i:Nat):Int)else 0):=by
 unfold hZ;rw[aqE,arU hi];rfl
theorem Ll{f:aB}{lv:Int}{k:Nat}(h:lvl f k=lv):(hZ f lv k).set k ((fP f lv k:Nat):Int)=hZ f lv (k+1):=by
 refine asJ (by simp[hZ]) λi l u=>?_;simp only[hZ,List.getElem_set,arI,auG];by_cases e:k=i;subst e;rw[aE rfl,aE ⟨by omega,h⟩];rw[aC e];have:i<k↔i<k+1:=Om;simp only[this]
theorem Fp{f:aB}{lv:Int}{k:Nat}(h:lvl f k≠lv):hZ f lv k=hZ f lv (k+1):=by
 refine asJ (by simp[hZ]) λi l u=>?_;simp only[hZ,arI,auG];by_cases e:k=i;subst e;rw[aC Om,aC (λx=>h x.2)];have:i<k↔i<k+1:=Om;simp only[this]
theorem My{f:aB}{lv:Int}{k:Nat}(h:lvl f k=lv):fP f lv (k+1)=fP f lv k+1:=by
 unfold fP qy;rw[arV,atW];simp[h]
theorem Gc{f:aB}{lv:Int}{k:Nat}(h:lvl f k≠lv):fP f lv (k+1)=fP f lv k:=by
 unfold fP qy;rw[arV,atW];simp[h]
theorem Sd(f:aB)(lv:Int)(k:Nat):fP f lv k<=k:=aqX List.countP_le_length aX
theorem Im{f:aB}{lv:Int}{a:Nat}(e:a<Z' f.aoF)(h:lvl f a=lv):(IE f lv)[fP f lv a]?=some a:=O1 (q:=qy f lv) e (by rw[qy,aZ h])
theorem Fa(f:aB)(lv:Int)(d i:Nat):CE f lv (d+1) i=if cL f d lv=i then CE f lv d i++[d]else CE f lv d i:=by
 unfold CE;rw[arV,List.filter_append];by_cases h:cL f d lv=i<;>simp[h]
theorem ko(f:aB)(lv:Int)(d i:Nat):(CE f lv d i).length<=d:=aqX (auH ..) aX
theorem Tt(f:aB)(lv:Int):(IE f lv).Nodup:=List.nodup_range.filter _
theorem Xk{f:aB}{lv:Int}{d:Nat}(D:cL f d lv<Z' f.aoF)(h:lvl f (cL f d lv)=lv){ps:WPs}(hp:wls ps=tB f lv d){v:PV}{w:I_}(hi:ps[fP f lv (cL f d lv)]?=some (v,w))(v':PV) :
  w.length<=d/\wls (ps.set (fP f lv (cL f d lv)) (v',w++[(d:Int)]))=tB f lv (d+1):=by
 have u:=Im D h;have y:w=cT (CE f lv d (cL f d lv)):=by
  have l:(wls ps)[fP f lv (cL f d lv)]?=some w:=by unfold wls;rw[aqE,hi];rfl
  rw[hp,tB,aqE,u]at l;injection l with l
  exact l.symm
 refine⟨by rw[y];unfold cT;rw[apP];exact ko ..,?_⟩;have x:wls (ps.set (fP f lv (cL f d lv)) (v',w++[(d:Int)]))=(tB f lv d).set (fP f lv (cL f d lv)) (w++[(d:Int)]):=by rw[<-hp];unfold wls;rw[asP]
 rw[x,y];unfold tB;refine asJ aX λi l x=>?_;have il:i<(IE f lv).length:=by simpa using x
 rw[List.getElem_set];simp only[arI];rw[Fa];obtain⟨E,A⟩:=aqU.1 u;by_cases e:fP f lv (cL f d lv)=i;subst e;rw[aE rfl,A,aE rfl];unfold cT;rw[aqP];rfl;rw[aC e,aC];intro e2;have B:(IE f lv)[fP f lv (cL f d lv)]=(IE f lv)[i]:=A.trans e2;exact e ((List.getElem_inj (Tt f lv)).1 B)
def IY(n:Nat):P2_:=(apQ n).map λ(d:Nat)=>[ints [(d:Int)]]
theorem Q5(n:Nat):(IY n).length=n:=by unfold IY;simp
theorem L7(n:Nat):IY (n+1)=IY n++[[ints [(n:Int)]]]:=by unfold IY;rw[arV,aqP];rfl
theorem Se(f:aB):lay (lL f 5)=.sl 1 (IY f.aoC.length):=by
 rw[we];unfold IY;show PV.sl 1 (List.map _ (List.map _ _))=_;rw[asR];rfl
theorem Gb(f:aB)(lv:Int):tB f lv 0=apX (fP f lv f.aoF.length) []:=by
 unfold tB fP;rw[List.countP_eq_length_filter];refine asJ (by simp[IE]) λi e l=>?_;simp[CE,cT]
theorem oj(f:aB)(lv:Int)(d:Nat):(tB f lv d).length=(IE f lv).length:=by unfold tB;simp
def unB(f:aB)(lv:Int)(e:Nat)(i:PV)(k:Nat):PF:=(((((((n_.set 1 (.int .i64 lv)).set 2 (.aU f.cells)).set 5 (i)).set 7 (.osl e 1 0 f.aoF.length)).set 33 (.sl 7 (f.aoF.map cQ.cells))).set 34 (.int .i64 (Z' f.aoF:Nat))).set 35 (.int .i64 k))
def unC(f:aB)(lv:Int)(e:Nat)(i:PV)(d:Nat):PF:=(((((((n_.set 1 (.int .i64 lv)).set 2 (.aU f.cells)).set 5 (i)).set 7 (.osl e 1 0 f.aoF.length)).set 54 (.sl 3 (f.aoC.map eG.cells))).set 55 (.int .i64 (Z' f.aoC:Nat))).set 56 (.int .i64 d))
def unE(f:aB)(lv:Int)(e:Nat)(i:PV)(d at_:Nat):PF:=(((((((((n_.set 1 (.int .i64 lv)).set 2 (.aU f.cells)).set 5 (i)).set 7 (.osl e 1 0 f.aoF.length)).set 54 (.sl 3 (f.aoC.map eG.cells))).set 55 (.int .i64 (Z' f.aoC:Nat))).set 56 (.int .i64 d)).set 10 (.int .i64 d)).set 12 (.int .i64 at_))
variable{C:Ctx}
theorem Od{K:bT}[Up K](f:aB)(hV:VF f)(lv:Int)(M:1<=lv)(N:lv<=4)(A:Nat)(D:PV)(d:Nat)(L:d<Z' f.aoC){F:PF}{H:PH}
  (J:(unE f lv A D d (cD f d)).le F) (E:K (.exit 6) (unE f lv A D d (cL f d lv)) H):aI.wp C (.loop DE) K F H:=by
 refine wp_loop (α:=Nat) (λj=>unE f lv A D d (upN f j (cD f d))) (λ_=>H) (λj=>(j:Int)<=4-lv) (λj=>4-j) 0 Om (by rw[upN];exact J) b_ ?_;intro j O;obtain⟨l,B⟩:=wS hV L (k:=j) Om;have u:((upN f j (cD f d):Nat):Int)<(Z' f.aoF:Nat):=Om;by_cases c:(j:Int)<4-lv;have i:4-(j:Int)>lv:=Om;have x:0<upN f j (cD f d):=by
  rcases arZ (upN f j (cD f d))with e|e
  rw[e,hV.root.2.1]at B;omega;exact e
 have y:upN f (j+1) (cD f d)=jB f (upN f j (cD f d)):=rfl;have w:=hV.MB x l;simp only[go_sem,DE,unE,u,gD l,zF l,B,i,MA l,w];exact aF (j+1) Om Om (lE1 y) b_;have i:¬4-(j:Int)>lv:=Om;have e:cL f d lv=upN f j (cD f d):=by rw[cL,show 4-lv.toNat=j by omega]
 rw[e]at E;simp only[go_sem,DE,unE,u,gD l,zF l,B,i];refine Up.up ?_ E;unfold unE;exact Lq
theorem Oc(f:aB)(hV:VF f)(lv:Int)(h1:1<=lv)(h5:lv<=5) :
  YH.wp C (aW gJ.res (cY (lay (lL f lv)))) (g_ [.agg f.cells,.j lv]) .nil:=by
 have Z:=hV.small;have hd:=Z.aoC;have μ:=Z.aoF;simp only[go_sem,YH,gJ];by_cases c5:lv=5;subst c5;rw[Se];simp only[go_sem,cC (show(5:Int)=5 from rfl),apP];refine wp_loop (α:=T3_) (λs=>(((n_.set 5 (s.2.1)).set 17 (.j (Z' f.aoC:Nat))).set 18 (.j s.1))) (λs=>s.2.2) (λs=>s.1<=Z' f.aoC/\bA s.2.2 1 s.2.1 (IY s.1)) (λs=>Z' f.aoC-s.1) (0,.aG,.nil) ⟨apR _,.nil⟩ Lq b_ ?_;rintro⟨k,v,H⟩ ⟨hk,hO⟩;simp only at hk hO;simp only[go_sem];by_cases hlt:k<Z' f.aoC;have e:(k:Int)<(Z' f.aoC:Nat):=Om;simp only[go_sem,e];refine fS (src:=[[ints [(k:Int)]]]) hO (by simp only[go_sem];rfl) (by unfold roomFor;rw[Q5];simp only[aqH,maxLen];omega) λv' H' V _=>?_;rw[<-L7]at V;simp only[go_sem,wZz k];exact aF (k+1,v',H') ⟨hlt,V⟩ sO_ Lq b_;have e:¬(k:Int)<(Z' f.aoC:Nat):=Om;have:k=Z' f.aoC:=Om;subst this;simp only[go_sem,e];exact oK (.inr rfl) hO Sq;have h4:lv<=4:=Om;rw[D8 f c5];have δ:(Z' f.aoF:Int)*((8:Nat):Int)<=140737488355328:=Om;have ε:(Z' f.aoF:Int)<=9223372036854775807:=Om;have ζ:(0:Int)<=(Z' f.aoF:Int):=Om;simp only[go_sem,bJ c5,apP,δ,ε,ζ,Int.le_refl,arP];refine aQ λB hP=>?_;have ez:apX f.aoF.length [PV.int .i64 0]=aN (hZ f lv 0):=by rw[Fq,qO]
 rw[ez];have U:aO (h_.set B (.rows 1 (aN (hZ f lv 0)))) [(B,.rows 1 (aN (hZ f lv 0)))] (gX .aG []):=((aO.nil (H:=h_)).new hP _).EC;simp only[go_sem,apP];refine wp_loop (α:=Nat × PV × WPs × PH) (λs=>unB f lv B s.2.1 s.1) (λs=>s.2.2.2) (λs=>s.1<=Z' f.aoF/\wls s.2.2.1=apX (fP f lv s.1) []/\aO s.2.2.2 [(B,.rows 1 (aN (hZ f lv s.1)))] (gX s.2.1 s.2.2.1)) (λs=>Z' f.aoF-s.1) (0,.aG,[],_) ⟨apR _,rfl,U⟩ (by unfold unB;exact Lq) b_ ?_;clear U ez hP;rintro⟨i,vo,ps,H⟩ ⟨hi,l,y⟩;simp only at hi l y;simp only[go_sem,unB];by_cases hlt:i<Z' f.aoF;have e:(i:Int)<(Z' f.aoF:Nat):=Om;have ι:Z' ps=fP f lv i:=by have:=congrArg List.length l;rw[MJ,List.length_replicate]at this;exact this
 have O:=Sd f lv i;simp only[go_sem,e,gD hlt];refine aQ λq hq=>?_;have E:=y.at 0 rfl;have n1:¬B=q:=by rintro rfl;rw[E]at hq;cases hq
 have L:=λx=>y.new hq x;simp only[go_sem,zF hlt];by_cases c:lvl f i=lv;have X:=y.aaQ;have D:=u6 (f:=f) (lv:=lv) (k:=i) hlt;have A:(aN (hZ f lv i))[i]?=some [.j (if i<i/\lvl f i=lv then((fP f lv i:Nat):Int)else 0)]:=by unfold aN;rw[aqE,D];rfl
 have θ:i<(aN (hZ f lv i)).length:=by rw[cI,Lm];exact hlt
 have R:(aN (hZ f lv i)).set i [.j (Z' ps:Nat)]=aN (hZ f lv (i+1)):=by rw[iZ,ι,Ll c]
 have h3:=λx=>(L x).set 0 rfl (.rows 1 (aN (hZ f lv (i+1))));simp only[go_sem,cC c,X,e,n1,E,A,θ,aqA,R];refine(h3 _).aaN Sq (by unfold roomFor;simp only[maxLen];omega) λq2 H2 h4=>?_;simp only[go_sem,wZz i];refine aF (i+1,PV.osl q2 1 0 (Z' ps+1),ps++[(PV.aG,[])],H2) ⟨hlt,?_,h4.wW 1⟩ sO_ Lq b_;simp only;rw[My c,List.replicate_succ'];unfold wls at l ⊢;rw[aqP,l];rfl;have R:hZ f lv i=hZ f lv (i+1):=Fp c;simp only[go_sem,bJ c,wZz i];refine aF (i+1,vo,ps,_) ⟨hlt,?_,?_⟩ sO_ Lq b_;simp only;rw[Gc c];exact l;simp only;rw[<-R];exact(L _).wW 1;have e:¬(i:Int)<(Z' f.aoF:Nat):=Om;have:i=Z' f.aoF:=Om;subst this;rw[<-Gb]at l;simp only[go_sem,e,apP];refine wp_loop (α:=Nat × PV × WPs × PH) (λs=>unC f lv B s.2.1 s.1) (λs=>s.2.2.2) (λs=>s.1<=Z' f.aoC/\wls s.2.2.1=tB f lv s.1/\aO s.2.2.2 [(B,.rows 1 (aN (hZ f lv f.aoF.length)))] (gX s.2.1 s.2.2.1)) (λs=>Z' f.aoC-s.1) (0,vo,ps,H) ⟨apR _,l,y⟩ (by unfold unC;exact Lq) b_ ?_;clear l y hi hlt e;rintro⟨d,vo,ps,H⟩ ⟨η,l,y⟩;simp only at η l y;simp only[go_sem,unC];by_cases hlt:d<Z' f.aoC;have e:(d:Int)<(Z' f.aoC:Nat):=Om;simp only[go_sem,e,kE hlt];refine aQ λq hq=>?_;have E:=y.at 0 rfl;have n1:¬B=q:=by rintro rfl;rw[E]at hq;cases hq
 have L:=λx=>(y.new hq x).wW 1;simp only[go_sem,hV.FC hlt];generalize hx:aR.rows 3 _=x;have L:=L x;have M:=L.at 0 rfl;generalize H.set q x=H1 at *
 have up:=λ{K:bT} [Up K] {F:PF} {H:PH}=>Od (C:=C) (K:=K) f hV lv h1 h4 B vo d hlt (F:=F) (H:=H);refine up (by unfold unE;exact Lq) ?_;obtain⟨a1,a2⟩:=wS hV hlt (k:=4-lv.toNat) Om;have a3:lvl f (cL f d lv)=lv:=by rw[cL,a2];omega
 have a1:cL f d lv<Z' f.aoF:=a1;have γ:((cL f d lv:Nat):Int)<(Z' f.aoF:Nat):=Om;have D:=u6 (f:=f) (lv:=lv) (k:=Z' f.aoF) a1;rw[aE ⟨a1,a3⟩]at D;have A:(aN (hZ f lv f.aoF.length))[cL f d lv]?=some [.j (fP f lv (cL f d lv):Nat)]:=by unfold aN;rw[aqE,D];rfl
 have J:fP f lv (cL f d lv)<Z' ps:=by have:=(aqU.1 (Im a1 a3)).1;rw[<-MJ,l,oj];exact this
 have N:=λv'=>Xk (ps:=ps) a1 a3 l (apZ J) v';have O:ps[fP f lv (cL f d lv)]?=some (ps[fP f lv (cL f d lv)].1,ps[fP f lv (cL f d lv)].2):=by rw[apZ J]
 have ν:ps[fP f lv (cL f d lv)]=(ps[fP f lv (cL f d lv)].1,ps[fP f lv (cL f d lv)].2):=rfl;obtain⟨qo,rs,rfl,b1,b2,b3⟩:=L.aeP J;generalize ps[fP f lv (cL f d lv)].2=w at *
 generalize ps[fP f lv (cL f d lv)].1=v at *
 generalize fP f lv (cL f d lv)=u at *
 have β:(u:Int)<(Z' ps:Nat):=Om;have ξ:=(N .aG).1;simp only[go_sem,unE];refine bE (h_.set B (.rows 1 (aN (hZ f lv f.aoF.length)))) cO (c_ a_ M) ?_;simp only[go_sem,γ,M,A,aqA,β,b1,b2,b3];refine L.aiO (src:=[(d:Int)]) O (by simp only[go_sem];rfl) (by unfold roomFor;simp only[aqH,maxLen];omega) aX λq2 H2 h5=>?_;have Y:=h5.at 0 rfl;refine⟨c_ a_ Y,?_⟩;obtain⟨S,e1,e2,e3,h6⟩:=h5.afL;have κ:u<Z' S:=Om;have W:S[u]?=some [v]:=by have:=PA O;rw[<-e3,List.getElem?_take_of_lt J]at this;exact this
 refine bE .nil cO a_ ?_;simp only[go_sem,e1,κ,W,wZz d];refine⟨a_,?_⟩;refine aF (d+1,PV.osl qo 1 0 ps.length,ps.set u (PV.osl q2 1 0 (w++[(d:Int)]).length,w++[(d:Int)]),H2.set qo (.rows 1 (S.set u [.osl q2 1 0 (w++[(d:Int)]).length]))) ⟨hlt,(N _).2,h6⟩ sO_ Lq (by simp only;exact b_);have e:¬(d:Int)<(Z' f.aoC:Nat):=Om;have:d=Z' f.aoC:=Om;subst this;simp only[go_sem,e];rw[<-l];exact mj (.inr rfl) Sq (y.wW 0)
def rX.rs : rX->List Rg
 | .seq a b=>a.rs++b.rs | .range _ _ _ _ _ a b c=>a.rs++b.rs++c.rs
def rsT(ro:N_)(f:Func)(x:{l:List Rg//((Go.Proofs.YtfeiflgckfjohabGreatDoor.T ro).xu f).map (·.body.rs)=some l}:=by refine⟨?_,?_⟩;rotate_left;conv=>lhs;reduce;try simp only[FJ,UInt8.reduceOfNat,Int.reduceOfNat,Int.reduceNegSucc]):List Rg:=x.1
def jI(q:List Rg)(k:Nat)(x:{l:Rg//q.getD k []=l}:=by refine⟨?_,?_⟩;rotate_left;conv=>lhs;reduce;try simp only[FJ,UInt8.reduceOfNat,Int.reduceOfNat,Int.reduceNegSucc]):Rg:=x.1
@[go_sem ↓] theorem anR(q:List Rg)(k:Nat)(l:Rg)(h:q.getD k []=l):jI q k ⟨l,h⟩=l:=(rfl)
end Go.PM
namespace Go.PM
open Go
def uC:=rsT [2,3,23] Proofs.Tryz.f104
def tg:aI:=(.region (jI uC 3))
def th:aI:=(.block 1 (.seq (.region (jI uC 4)) (.cond (.tmp 20) (.region (jI uC 5)) .skip)))
def jo:aI:=(.seq (.region (jI uC 6)) .ret)
def MX(e i:Code):rX:=(.seq (.region (jI uC 0)) (.seq (.region (jI uC 1)) (.seq (.region (jI uC 2)) (.range (.tmp 15) 26 16 e i tg th jo))))
def Tk:N_:=[2,3,23]
def xo(e i:Code):FP:=⟨2,26,MX e i,[.tmp 4]⟩
def eO:=rsT [2,3,96,101] Proofs.Tryz.f22
def SU:aI:=(.seq (.region (jI eO 14)) (.seq (.cond (.tmp 78) .skip (.exit 4)) (.seq (.block 5 (.seq (.region (jI eO 15)) (.region (jI eO 16)))) (.region (jI eO 17)))))
def SV:aI:=(.seq (.region (jI eO 11)) (.seq (.cond (.tmp 69) .skip (.exit 2)) (.seq (.block 3 (.seq (.region (jI eO 12)) (.seq (.region (jI eO 13)) (.block 4 (.loop SU))))) (.region (jI eO 18)))))
def SW:aI:=(.seq (.region (jI eO 21)) (.seq (.cond (.tmp 89) .skip (.exit 6)) (.seq (.block 7 (.seq (.region (jI eO 22)) (.seq (.region (jI eO 23)) (.cond (.tmp 93) (.region (jI eO 24)) .skip)))) (.region (jI eO 25)))))
def SR:aI:=(.region (jI eO 8))
def SS:aI:=(.block 1 (.seq (.region (jI eO 9)) (.seq (.seq (.region (jI eO 10)) (.block 2 (.loop SV))) (.seq (.region (jI eO 19)) (.seq (.seq (.region (jI eO 20)) (.block 6 (.loop SW))) (.region (jI eO 26)))))))
def jn:aI:=(.seq (.region (jI eO 27)) .ret)
def MW(e i:Code):rX:=(.seq (.region (jI eO 0)) (.seq (.seq (.region (jI eO 1)) (.cond (.tmp 39) (.seq (.region (jI eO 2)) .ret) .skip)) (.seq (.region (jI eO 3)) (.seq (.seq (.region (jI eO 4)) (.cond (.tmp 55) (.seq (.region (jI eO 5)) .ret) .skip)) (.seq (.region (jI eO 6)) (.seq (.region (jI eO 7)) (.range (.tmp 60) 104 61 e i SR SS jn)))))))
def Tj:N_:=[2,3,96,101]
def Js(e i:Code):FP:=⟨2,104,MW e i,[.tmp 4,.tmp 5]⟩
variable{C:Ctx}
theorem Pl{H:PH}{name:Nat}{pre:V_}{v u:PV}{l:I_}(A:Plain u)(hp:∀x∈pre,Fx x)(y:bA H 1 v (aN l))(i:l≠[])(h:aJ C name (pre++[ints l]) .nil (aL u)) :
  ∃q,v=.osl q 1 0 l.length/\(∃x,H q=some x)/\aJ C name (pre++[v]) (H.only [q]) (λr H'=>r=u/\H'=H.only [q]):=by
 rcases y with⟨w,-⟩|⟨q,rs,rfl,h1,h2,h3⟩
 ·exact absurd (List.map_eq_nil_iff.1 w) i
 ·rw[cI]at h2 h3 ⊢;refine⟨q,rfl,⟨_,h1⟩,?_⟩;rw[dy h1];refine aJ.U1 A ?_;have e:pre.map (PV.frz q 1 rs)=pre:=by
   conv=>rhs;rw[<-List.map_id pre]
   exact arQ λx B=>hp x B q 1 rs
  rw[aqP,e,aqQ,arL,AK h2,h3];exact h
theorem rc{α:Type}(L:List α)(x:α)(n:Nat)(h:Z' L=n):(L++[x])[n]?=some x:=by
 subst h;simp
structure adN(f:aB)(now:L2_)(r:Int)(d:Nat)(ps:WPs):Prop where
 eq:wls ps=pu f now r d
 num:Z' ps<=d
 len:∀i (h:i<Z' ps),1<=(ps[i].2).length/\(ps[i].2).length<=d
theorem adN.of{f:aB}{e:L2_}{r:Int}(A:Nx f e r=true){d:Nat}(B:d<=Z' f.aoC){ps:WPs}(h:wls ps=pu f e r d):adN f e r d ps:=by
 have k:=wk A d B;rw[<-h]at k;have u:∀i (h:i<Z' ps),ps[i].2∈wls ps:=λi hi=>aqJ.2 ⟨ps[i],apW hi,rfl⟩;have ne:∀l∈wls ps,1<=Z' l:=λl D=>by
  have:=k.ok l D;unfold WD at this;cases l with
  |nil=>cases this
  |cons x xs=>rw[aqV];omega
 refine⟨h,?_,λi hi=>⟨ne _ (u i hi),?_⟩⟩;have y:(wls ps).length<=(wls ps).flatten.length:=by
  generalize wls ps=w at ne
  induction w with
  |nil=>exact apU _
  |cons l w F =>have:=F λx E=>ne x (atK _ E);have:=ne l aX;rw[atY,apV,aqV];omega
 rw[MJ,k.len]at y;exact y;have:=(List.sublist_flatten_of_mem (u i hi)).length_le;rw[k.len]at this;exact this
def adM(n top:Int)(r:PV)(H':PH):Prop:=∃o1 o2,o1≠o2/\r=.fn 211 [.ptr o1 1 0 0,.ptr o2 1 0 0]/\H'=(h_.set o1 (.rows 1 [[.int .i64 n]])).set o2 (.rows 1 [[.int .i64 top]])
theorem Ag(n top:Int):jp.wp C (aW xp.res (adM n top)) (g_ [.j n,.j top]) .nil:=by
 simp only[go_sem,jp,xp];refine aQ λo1 l=>?_;simp only[go_sem];refine aQ λo2 e=>?_;have i:o1≠o2:=by rintro rfl;simp only[bL]at e;cases e
 simp only[go_sem];exact bK (.inr rfl) _ (vs:=[.fn 211 [.ptr o1 1 0 0,.ptr o2 1 0 0]]) Sq b_ ⟨o1,o2,i,rfl,rfl⟩
structure KY(C:Ctx):Prop where
 subs:∀n top:Int,aJ C 210 [.int .i64 n,.int .i64 top] .nil (adM n top)
 iter:∀(l o1 o2 n top:Nat)(J:Nat->PH->Prop)(ss:List N_),ss=fA top n 0->1<=n->n<=1000->top<=1000 ->
  (∀k (hk:k<Z' ss) G c,J k G->G c=none->LC C l [.osl c 1 0 n] (G.set c (.rows 1 (aN (cT ss[k])))) (λr H'=>r=.bool true/\J (k+1) H')) ->
  ∀G0 H:PH,J 0 G0->G0.le H->H o1=some (.rows 1 [[.int .i64 n]])->H o2=some (.rows 1 [[.int .i64 top]])->G0 o1=none->G0 o2=none->aJ C 211 [CV l,.ptr o1 1 0 0,.ptr o2 1 0 0] H (λ_ H'=>∃G,J ss.length G/\G.le H')
structure Nn(C:Ctx):Prop extends Nm C,KY C
theorem kr(Lb:KY C){F:PF}{H:PH}{n m t o1 o2 top:Nat}{i u:Code}{R S:aI}{E:List N_}(Z:E=fA top n 0)(h1:1<=n)(hn:n<=1000)(ht:top<=1000)(α:o1≠o2)
  (I:Nat->PH->Prop) (A:PH) (hI:I 0 A) (O:A.le H) (b1:H o1=some (.rows 1 [[.j n]])) (b2:H o2=some (.rows 1 [[.j top]])) (g1:A o1=none) (g2:A o2=none)
  (hY:∀(l:Nat)(x:PV)(J:PH)(J':PH->Prop),J l=none->R.wp C (gH C (S.wp C) (IG J')) (F.set t x) J->LC C l [x] (J.set l (.loop F m t i u)) (λr H'=>r=.bool true/\∃H2,J' H2/\H2 l=none/\H'=H2.set l (.loop F m t i u)))
  (hb:∀k (hk:k<Z' E) G c,I k G->G c=none->R.wp C (gH C (S.wp C) (IG (I (k+1)))) (F.set t (.osl c 1 0 n)) (G.set c (.rows 1 (aN (cT E[k]))))) :
  zd C 211 [.ptr o1 1 0 0,.ptr o2 1 0 0] F H m t i u (I E.length):=by
 intro l U;have L:A l=none:=by
  cases h:A l with
  |none=>rfl
  |some x=>rw[O l x h]at U;cases U
 have n1:¬o1=l:=λe=>by rw[e,U]at b1;cases b1
 have n2:¬o2=l:=λe=>by rw[e,U]at b2;cases b2
 refine(Lb.iter l o1 o2 n top (λk G=>∃w,I k w/\w l=none/\G=w.set l (.loop F m t i u)) E Z h1 hn ht ?_ (A.set l (.loop F m t i u)) (H.set l (.loop F m t i u)) ⟨A,hI,L,rfl⟩ ?_ ?_ ?_ ?_ ?_).post ?_;rintro k hk G c ⟨w,K,y,rfl⟩ W;have M:¬c=l:=λe=>by rw[e,bL]at W;cases W
 have N:¬l=c:=λe=>M e.symm;have X:w c=none:=by rwa[aM,aC M]at W
 have:=hY l (.osl c 1 0 n) (w.set c (.rows 1 (aN (cT E[k])))) (I (k+1)) (by rw[aM,aC N];exact y) (hb k hk w c K X);have e:(w.set c (.rows 1 (aN (cT E[k])))).set l (.loop F m t i u)=(w.set l (.loop F m t i u)).set c (.rows 1 (aN (cT E[k]))):=by refine PH.ext λo=>?_;simp only[aM];by_cases V:o=l;subst V;rw[aE rfl,aC N,aE rfl];rw[aC V,aC V]
 rw[e]at this;exact this;intro o x D;rw[aM]at D ⊢;split at D;rename_i e;rw[aE e];exact D;rename_i e;rw[aC e];exact O o x D;rw[aM,aC n1];exact b1;rw[aM,aC n2];exact b2;rw[aM,aC n1];exact g1;rw[aM,aC n2];exact g2;rintro r H' ⟨G,⟨w,K,y,rfl⟩,B⟩;have Y:H' l=some (.loop F m t i u):=B l _ (by rw[bL]);exact⟨r,.refl _,w,K,(λo x D=>B o x (by
  have:¬o=l:=λe=>by rw[e,y]at D;cases D
  rw[aM,aC this];exact D)),y,Y⟩
def X9(i:Nat)(l:L2_)(G:PH):Prop:=∃e ps,aO G [(i,.rows 1 [[e]])] (gX e ps)/\wls ps=l
theorem Af(Lb:KY C)(J K:Code)(f:aB)(hd:Z' f.aoC<=12)(p:bY)(adm:∀set,xl f set->set∈(fA f.aoC.length (mY p).toNat 0).map cT->aJ C 201 [.agg f.cells,.agg p.cells,ints set] .nil (aL (.bool (nY f p set))))(hk:1<=p.k)(μ:p.k<=6)(hm:0<=p.m)(ν:p.m<=4) :
  (MX J K).wp C (aW (xo J K).res (cY (lay (iX f p)))) (g_ [.agg f.cells,.agg p.cells]) .nil:=by
 obtain⟨n,hn⟩:∃n:Nat,(n:Int)=mY p:=⟨(p.k+p.m).toNat,by unfold mY;omega⟩;have β:1<=n/\n<=10:=by unfold mY at hn;omega
 have hw:i_.wrap (p.k+p.m)=(n:Int):=by rw[hn];exact wrap_i64 Om Om
 simp only[go_sem,MX,rX.wp,xo];refine aQ λD γ=>?_;simp only[go_sem,hw,apP];refine jG (Lb.subs n f.aoC.length) Sq a_ ?_;rintro r H' ⟨o1,o2,w,rfl,rfl⟩ R;have X:¬D=o1:=λe=>by have:=R o1 _ (by rw[aM,aC w,bL]) rfl;rw[<-e,bL]at this;cases this
 have Y:¬D=o2:=λe=>by have:=R o2 _ (by rw[bL]) rfl;rw[<-e,bL]at this;cases this
 have ι:¬o2=o1:=λe=>w e.symm;simp only[go_sem];generalize M:PF.set _ 15 _=F;have f2:F 2=some (.aU f.cells):=by rw[<-M];simp only[go_sem]
 have f3:F 3=some (.aU p.cells):=by rw[<-M];simp only[go_sem]
 have f5:F 5=some (.ptr D 1 0 0):=by rw[<-M];simp only[go_sem]
 have κ:F 15=some (.fn 211 [.ptr o1 1 0 0,.ptr o2 1 0 0]):=by rw[<-M];simp only[go_sem]
 clear M;have V:fA f.aoC.length n 0=fA f.aoC.length (mY p).toNat 0:=by rw[<-hn];rfl
 have O:=HQ f.aoC.length n 0;have hE:iX f p=((fA f.aoC.length n 0).map cT).filter (nY f p):=by rw[V];rfl
 refine⟨211,[.ptr o1 1 0 0,.ptr o2 1 0 0],X9 D (((((fA f.aoC.length n 0).take (fA f.aoC.length n 0).length)).map cT).filter (nY f p)),rfl,λhY=>?_,λH2 N=>?_⟩
 ·refine kr (m:=26) (t:=16) Lb rfl β.1 Om Om w (λk=>X9 D ((((fA f.aoC.length n 0).take k).map cT).filter (nY f p))) (h_.set D (.rows 1 [[.aG]])) ⟨.aG,[],((aO.nil (H:=h_)).new γ _).EC,rfl⟩ ?_ ?_ ?_ ?_ ?_ hY ?_;intro o x ho;rw[aM]at ho;split at ho;rename_i e;rw[iN];simp only[aM,e,aC X,aC Y,WT,if_true];exact ho;cases ho;rw[iN];simp only[aM,aC w,if_true];rw[iN];simp only[aM,if_true];rw[aM,aC (λe=>X e.symm)];rfl;rw[aM,aC (λe=>Y e.symm)];rfl;rintro k hk G c ⟨vo,ps,E,A⟩ hc;have δ:=O _ (apW hk);have ε:(fA f.aoC.length n 0).take (k+1)=(fA f.aoC.length n 0).take k++[(fA f.aoC.length n 0)[k]]:=arB hk;have S:cT (fA f.aoC.length n 0)[k]∈(fA f.aoC.length (mY p).toNat 0).map cT:=by rw[<-V];exact List.mem_map_of_mem (apW hk)
  generalize(fA f.aoC.length n 0)[k]=s at *
  obtain⟨sl,Z,-⟩:=δ;have l:((((fA f.aoC.length n 0).take (k+1)).map cT).filter (nY f p))=wls ps++if nY f p (cT s)then[cT s]else[]:=by rw[ε,aqP,List.filter_append,A];congr 1;by_cases c:nY f p (cT s)<;>simp[c]
  have U:(aN (cT s)).length=n:=by rw[cI,jM,sl]
  have L:=E.Vq (s:=1) (rows:=aN (cT s)) hc;have hO:bA (G.set c (.rows 1 (aN (cT s)))) 1 (.osl c 1 0 n) (aN (cT s)):=by
   have:=L.own ((gX vo ps).length) (rc _ _ _ rfl)
   rwa[U]at this
  have ξ:Z' ps<=4096:=by
   rw[<-MJ,A];refine aqX (auH ..) ?_;rw[apP,aqF];have h1:=AW f.aoC.length n 0;have L:2^(Z' f.aoC-0)<=2^12:=Nat.pow_le_pow_right Om Om;have e:(2:Nat)^12=4096:=by decide
   omega
  have i:=adm (cT s) ⟨by rw[jM];omega,λx W=>by obtain⟨y,hy,rfl⟩:=aqJ.1 W;have:=Z y hy;omega⟩ S;obtain⟨q,e1,W,i⟩:=Pl (C:=C) (name:=201) (pre:=[.agg f.cells,.agg p.cells]) (u:=.bool (nY f p (cT s))) (.bool _) (λx W=>by
   simp only[aqG,aqS,or_false]at W;rcases W with rfl|rfl
   exact λ_ _ _=>rfl;exact λ_ _ _=>rfl) hO (λe=>by have:=congrArg List.length e;rw[jM,sl]at this;simp at this;omega) i
  have eq:c=q:=by injection e1
  subst eq;have θ:=L.at 0 rfl;have η:¬D=c:=λe=>by have:=E.at 0 rfl;rw[e,hc]at this;cases this
  simp only[go_sem,tg,th,f2,f3];refine AD (cs:=[]) (vs:=[.agg f.cells,.agg p.cells,.osl c 1 0 n]) (by rw[aqY];exact i) Sq (XE _ _) ?_;cases B:nY f p (cT s)with
  |true=>
   rw[B,aE rfl]at l;simp only[go_sem,f5,η,E.at 0 rfl];refine L.append 0 (rows:=dX ps) (src:=[[.osl c 1 0 n]]) rfl Sq (by unfold roomFor;rw[oQ];simp only[aqH,maxLen];omega) λv' H' h3 ζ=>?_;obtain⟨q2,rfl⟩:=ζ aX;have α:=h3.at 0 rfl;have h4:=h3.set 0 rfl (aR.rows 1 [[PV.osl q2 1 0 (dX ps++[[PV.osl c 1 0 n]]).length]]);simp only[go_sem,α,f5,aqG,aqS,or_false,forall_eq];refine⟨PV.osl q2 1 0 (dX ps++[[PV.osl c 1 0 n]]).length,ps++[(.osl c 1 0 n,cT s)],?_,?_⟩;have e:gX (.osl q2 1 0 (dX ps++[[PV.osl c 1 0 n]]).length) (ps++[(PV.osl c 1 0 n,cT s)])=((gX vo ps)++[(PV.osl c 1 0 (aN (cT s)).length,1,aN (cT s))]).set 0 (.osl q2 1 0 (dX ps++[[PV.osl c 1 0 n]]).length,1,dX ps++[[PV.osl c 1 0 n]]):=by rw[U];unfold gX dX mE;rw[aqP,aqP];rfl
   rw[e];exact h4;rw[l];unfold wls;rw[aqP];rfl
  |false =>rw[B,aC aT,aqY]at l;simp only[go_sem];exact⟨vo,ps,L.sub (asF.refl _) (List.sublist_append_left ..),l.symm⟩
 rw[aqO,<-hE]at N;obtain⟨vo,ps,E,A⟩:=N;have hb:=E.at 0 rfl;simp only[go_sem,jo,f5,hb];rw[<-A];exact mj (.inr rfl) Sq (E.wW 0)
def FU(f:aB)(aoP:Int):Int:=if sX f aoP then(if f.aoC.length>12 then 2 else 0)else 1
def SF(f:aB)(aoP:Int):L2_:=if FU f aoP=0 then iX f (nJ f aoP)else[]
structure No(C:Ctx):Prop extends Nn C where
 sets:∀(f:aB)(p:bY),VF f->Z' f.aoC<=12->(∀m∈p.aoD,0<=m/\m<Z' f.aoD)->Fits p.aoD->1<=p.k->p.k<=6->0<=p.m->p.m<=4->aJ C 229 [.agg f.cells,.agg p.cells] .nil (aL (lay (iX f p)))
def cyS(r:PV):Spec:=λ_ _=>some ([],λ_=>aL r)
theorem N4(A:No C)(f:aB)(B:f.Ok)(aoP:Int) :
  YA.wp C (aW call17.res (cY (.tup [lay (SF f aoP),.j (FU f aoP)]))) (g_ [.agg f.cells,.j aoP]) .nil:=by
 have hB:SF f aoP=if FU f aoP=0 then iX f (nJ f aoP)else[]:=rfl
 have i:FU f aoP=if sX f aoP then(if f.aoC.length>12 then 2 else 0)else 1:=rfl
 simp only[go_sem,YA,call17];refine aD (A.known f aoP B) Ev ?_;cases x:sX f aoP with
 |false =>rw[x,aC aT]at i;rw[i,aC aT]at hB;rw[hB,i];simp only[go_sem,aqI];exact uR (.inr rfl) Sq (aO.EC aO.nil)
 |true=>
  rw[x,aE rfl]at i;obtain⟨hV,D,E,he⟩:=Bn x;obtain⟨w,y⟩:=Pf x;have e:=hV.aoP _ w;have u:=(B.aoP _ w).aoD;have l:(f.aoG.map bY.cells)[aoP.toNat]?=some (nJ f aoP).cells:=by rw[aqE,y];rfl
  have hlt:aoP<(Z' f.aoG:Nat):=Om;by_cases c:Z' f.aoC>12;rw[aE c]at i;rw[i,aC aT]at hB;rw[hB,i];simp only[go_sem,aqC,apP,show(Z' f.aoC:Int)>12 by omega];exact uR (.inr rfl) Sq (aO.EC aO.nil);rw[aC c]at i;rw[i,aE rfl]at hB;rw[hB,i];simp only[go_sem,aqC,apP,show ¬(Z' f.aoC:Int)>12 by omega];refine bE .nil (cyS (lay (iX f (nJ f aoP)))) a_ ?_;simp only[go_sem,D,hlt,apP,l];refine cM rfl (A.sets f (nJ f aoP) hV Om e.2.2.2.2.2.2.2 u e.1 e.2.1 e.2.2.1 e.2.2.2.1) Sq a_ ?_;simp only[go_sem];exact bK (.inr rfl) .nil (vs:=[lay (iX f (nJ f aoP)),.j 0]) Sq a_ (aL.Me ⟨rfl,rfl⟩)
structure UOk(n:Nat)(U:L2_):Prop where
 len:Z' U<=1000
 at_:∀u∈U,Z' u<=1000/\∀d∈u,0<=d/\d<n
def rQ(U:L2_)(s:N_):I_:=s.flatMap λi=>U.getD i []
theorem D7(U:L2_)(s:N_){i:Nat}(h:i<Z' s):rQ U (s.take (i+1))=rQ U (s.take i)++U.getD s[i] []:=by
 unfold rQ;rw[arB h,atX];simp
theorem Gd(U:L2_)(s:N_)(d:Nat):(rQ U s).contains (d:Int)=DN U s d:=by
 unfold rQ DN
 induction s with
 |nil=>rfl
 |cons i s e=>rw[atH,List.contains_append,e,List.any_cons]
theorem Ob{K:bT}[Up K](Y X x c nd n i:Nat)(J:PV)(u:I_)(β:Z' u<=1000)(hu:∀d∈u,0<=d/\d<nd)(l:I_){F:PF}{H:PH}{B:List BX}{L:List LI}
  (y:aO H B L) (b:Nat) (hb:B[b]?=some (x,.rows 1 (dE (marks nd l))))
  (hF:(((((((((((n_.set 2 (J)).set 6 (.ptr Y 1 0 0)).set 7 (.ptr X 1 0 0)).set 9 (.osl x 1 0 nd)).set 66 (.osl c 1 0 n)).set 67 (.j n)).set 68 (.j i)).set 75 (ints u)).set 76 (.j (Z' u:Nat))).set 77 (.j 0))).le F)
  (hK:∀H',aO H' (B.set b (x,.rows 1 (dE (marks nd (l++u))))) L->K (.exit 4) ((((((((n_.set 2 (J)).set 6 (.ptr Y 1 0 0)).set 7 (.ptr X 1 0 0)).set 9 (.osl x 1 0 nd)).set 66 (.osl c 1 0 n)).set 67 (.j n)).set 68 (.j i))) H') :
  aI.wp C (.loop SU) K F H:=by
 refine wp_loop (α:=Nat × PH) (λs=>((((((((((n_.set 2 (J)).set 6 (.ptr Y 1 0 0)).set 7 (.ptr X 1 0 0)).set 9 (.osl x 1 0 nd)).set 66 (.osl c 1 0 n)).set 67 (.j n)).set 68 (.j i)).set 75 (ints u)).set 76 (.j (Z' u:Nat))).set 77 (.j s.1))) (λs=>s.2) (λs=>s.1<=Z' u/\aO s.2 (B.set b (x,.rows 1 (dE (marks nd (l++u.take s.1))))) L) (λs=>Z' u-s.1) (0,H) ⟨apR _,?_⟩ hF b_ ?_;rw[asO,aqY];have e:B.set b (x,.rows 1 (dE (marks nd l)))=B:=by obtain⟨h1,E⟩:=aqU.1 hb;rw[<-E,List.set_getElem_self]
 rw[e];exact y;rintro⟨j,Z⟩ ⟨hj,y⟩;simp only at hj y;have M:b<Z' B:=(aqU.1 hb).1;have A:(B.set b (x,aR.rows 1 (dE (marks nd (l++u.take j)))))[b]?=some (x,.rows 1 (dE (marks nd (l++u.take j)))):=List.getElem?_set_self M;simp only[go_sem,SU];by_cases hlt:j<Z' u;have w:(j:Int)<(Z' u:Nat):=Om;have S:(u.map λn=>[PV.int .i64 n])[j]?=some [.j u[j]]:=by simp[hlt]
 obtain⟨V,W⟩:=hu _ (apW hlt);have U:u.take (j+1)=u.take j++[u[j]]:=arB hlt;have O:(u[j]).toNat<(dE (marks nd (l++u.take j))).length:=by rw[yA,IQ];omega
 have N:(dE (marks nd (l++u.take j)))[(u[j]).toNat]?=some [.bool ((l++u.take j).contains u[j])]:=by unfold dE;rw[aqE,xN V W];rfl
 have R:=y.at b A;have E:=y.set b A (.rows 1 (dE (marks nd (l++u.take (j+1)))));rw[List.set_set]at E;have D:=IR (l:=l++u.take j) V W;rw[aqT,<-U]at D;simp only[go_sem,w,S,V,W,aqA,R,N,O,kD,D,wZz j];exact aF (j+1,Z.set x (.rows 1 (dE (marks nd (l++u.take (j+1)))))) ⟨hlt,E⟩ sO_ Lq b_;have w:¬(j:Int)<(Z' u:Nat):=Om;have:j=Z' u:=Om;subst this;rw[aqO]at y;simp only[go_sem,w];exact Up.up Lq (hK Z y)
def scB(e u c i:Nat)(w:PV)(U:L2_)(s:N_)(nd:Nat)(l:I_):List BX:=[(e,.rows 1 [[w]]),(u,.rows 1 [[lay U]]),(c,.rows 1 (aN (cT s))),(i,.rows 1 (dE (marks nd l)))]
theorem Ex{K:bT}[Up K](B y A c nd n:Nat)(E X:PV)(U:L2_)(hU:UOk nd U)(s:N_)(hs:Z' s=n)(S:∀x∈s,x<Z' U)(hn:n<=1000){F:PF}{H:PH}{L:List LI}
  (w:aO H (scB y B c A X U s nd []) L)
  (hF:((((((((n_.set 2 (E)).set 6 (.ptr B 1 0 0)).set 7 (.ptr y 1 0 0)).set 9 (.osl A 1 0 nd)).set 66 (.osl c 1 0 n)).set 67 (.j n)).set 68 (.j 0))).le F)
  (hK:∀H',aO H' (scB y B c A X U s nd (rQ U s)) L->K (.exit 2) (((((n_.set 2 (E)).set 6 (.ptr B 1 0 0)).set 7 (.ptr y 1 0 0)).set 9 (.osl A 1 0 nd))) H') :
  aI.wp C (.loop SV) K F H:=by
 refine wp_loop (α:=Nat × PH) (λt=>(((((((n_.set 2 (E)).set 6 (.ptr B 1 0 0)).set 7 (.ptr y 1 0 0)).set 9 (.osl A 1 0 nd)).set 66 (.osl c 1 0 n)).set 67 (.j n)).set 68 (.j t.1))) (λt=>t.2) (λt=>t.1<=Z' s/\aO t.2 (scB y B c A X U s nd (rQ U (s.take t.1))) L) (λt=>Z' s-t.1) (0,H) ⟨apR _,w⟩ hF b_ ?_;rintro⟨i,Z⟩ ⟨hi,w⟩;simp only at hi w;simp only[go_sem,SV];by_cases hlt:i<Z' s;have e:(i:Int)<(n:Nat):=Om;have hc:=w.at 2 rfl;have R:=w.at 1 rfl;have N:=FG hlt;have O:i<(aN (cT s)).length:=by rw[cI,jM];exact hlt
 have V:=S s[i] (apW hlt);have W:((s[i]:Nat):Int)<(Z' U:Nat):=Om;have l:=D7 U s hlt;have D:=hU.at_ U[s[i]] (apW V);have M:U.getD s[i] []=U[s[i]]:=by simp[apY,V]
 have J:(U.map λr=>[ints r])[s[i]]?=some [ints U[s[i]]]:=by simp[V]
 rw[M]at l;generalize U[s[i]]=u at *
 generalize s[i]=x at *
 simp only[go_sem,e,hc,N,O,aqA,R,W,apP,J];have one:=λ{K:bT} [Up K] {F:PF}=>Ob (C:=C) (K:=K) B y A c nd n i E u D.1 D.2 (rQ U (s.take i)) (F:=F) w 3 rfl;refine one lM λH' Y=>?_;rw[<-l]at Y;simp only[go_sem,wZz i];exact aF (i+1,H') ⟨hlt,Y⟩ sO_ Lq b_;have e:¬(i:Int)<(n:Nat):=Om;have:i=Z' s:=Om;subst this;rw[aqO]at w;simp only[go_sem,e];exact Up.up Lq (hK Z w)
def scD(l:I_)(k:Nat):I_:=cT ((apQ k).filter λd=>l.contains (d:Int))
theorem Wn(l:I_)(k:Nat):scD l (k+1)=if l.contains (k:Int)then scD l k++[(k:Int)]else scD l k:=by
 unfold scD;rw[arV,List.filter_append,Vn];by_cases h:l.contains (k:Int);rw[aE h];simp[cT]at h ⊢;simp[h];rw[aC h];simp[cT]at h ⊢;simp[h]
theorem abR(l:I_)(k:Nat):(scD l k).length<=k:=by
 unfold scD;rw[jM];exact aqX (auH ..) aX
theorem Ae{K:bT}[Up K](y x E c nd:Nat)(Y:nd<=1000)(J M:PV)(U:L2_)(s:N_)(l:I_){F:PF}{H:PH}{L:List LI}
  (u:aO H (scB x y c E M U s nd l) L)
  (V:((((((((n_.set 2 (J)).set 6 (.ptr y 1 0 0)).set 7 (.ptr x 1 0 0)).set 14 (.aG)).set 86 (.osl E 1 0 nd)).set 87 (.j nd)).set 88 (.j 0))).le F)
  (W:∀v H',aO H' (scB x y c E M U s nd l) (L++[(v,1,aN (scD l nd))])->K (.exit 6) (((((n_.set 2 (J)).set 6 (.ptr y 1 0 0)).set 7 (.ptr x 1 0 0)).set 14 (v))) H') :
  aI.wp C (.loop SW) K F H:=by
 refine wp_loop (α:=T3_) (λt=>(((((((n_.set 2 (J)).set 6 (.ptr y 1 0 0)).set 7 (.ptr x 1 0 0)).set 14 (t.2.1)).set 86 (.osl E 1 0 nd)).set 87 (.j nd)).set 88 (.j t.1))) (λt=>t.2.2) (λt=>t.1<=nd/\aO t.2.2 (scB x y c E M U s nd l) (L++[(t.2.1,1,aN (scD l t.1))])) (λt=>nd-t.1) (0,.aG,H) ⟨apR _,u.oF 1⟩ V b_ ?_;clear u;rintro⟨k,v,N⟩ ⟨X,u⟩;simp only at X u;simp only[go_sem,SW];by_cases hlt:k<nd
 ·have i:(k:Int)<(nd:Nat):=Om;have B:=u.at 3 rfl;have e:=Wn l k;have S:=abR l k;have A:k<(dE (marks nd l)).length:=by rw[yA,IQ];exact hlt
  have w:(dE (marks nd l))[k]?=some [.bool (l.contains (k:Int))]:=by have:=xN (n:=nd) (l:=l) (m:=(k:Int)) Om i;rw[arP]at this;unfold dE;rw[aqE,this];rfl
  cases R:l.contains (k:Int)with
  |true=>
   rw[R]at w e;rw[aE rfl]at e;simp only[go_sem,i,B,w,A,aqA];refine u.append L.length (rows:=aN (scD l k)) (src:=[[.j k]]) (rc _ _ _ rfl) Sq (by unfold roomFor;rw[cI];simp only[aqH,maxLen];omega) λv' H' O _=>?_;have D:aN (scD l k)++[[.j k]]=aN (scD l (k+1)):=by rw[e,GT];rfl
   rw[D,asY _ _ (apU _),asA]at O;simp only[go_sem,wZz k];exact aF (k+1,v',H') ⟨hlt,O⟩ sO_ Lq b_
  |false =>rw[R]at w e;rw[aC aT]at e;rw[<-e]at u;simp only[go_sem,i,B,w,A,aqA,wZz k];exact aF (k+1,v,N) ⟨hlt,u⟩ sO_ Lq b_
 have i:¬(k:Int)<(nd:Nat):=Om;have:k=nd:=Om;subst this;simp only[go_sem,i];exact Up.up Lq (W v N u)
def gK(f:aB)(lv cnt:Int):Int:=if cP f&&(decide (1<=lv)&&decide (lv<=5)&&decide (1<=cnt)&&decide (cnt<=3))then(if 12<Z' f.aoC\/512<gN ((lL f lv).length:Nat) cnt.toNat then 2 else 0)else 1
def gY(f:aB)(lv cnt:Int):L2_:=if gK f lv cnt=0 then PT f (lL f lv) cnt.toNat else[]
structure Np(C:Ctx):Prop extends KY C where
 val:∀f:aB,f.Ok->aJ C 96 [.agg f.cells] .nil (aL (.int .i64 (xW f)))
 units:∀(f:aB)(lv:Int),VF f->1<=lv->lv<=5->aJ C 206 [.agg f.cells,.int .i64 lv] .nil (aL (lay (lL f lv)))
 choose:∀m n:Nat,m<=1000->n<=3->aJ C 207 [.int .i64 m,.int .i64 n] .nil (aL (.int .i64 (max (gN m n) 0)))
theorem D9{f:aB}(hV:VF f)(lv:Int):UOk f.aoC.length (lL f lv)/\(lL f lv).length<=40:=by
 have E:=hV.small.aoC;have A:=hV.small.aoF;by_cases c:lv=5;subst c;rw[we];refine⟨⟨by simp;omega,λu l=>?_⟩,by simp;omega⟩;obtain⟨d,e,rfl⟩:=aqJ.1 l;rw[aqN]at e;refine⟨by simp,λx w=>?_⟩;rw[arA]at w;omega;rw[D8 f c];have B:(tB f lv f.aoC.length).length<=40:=by rw[oj];exact aqX (auH ..) (by simp;omega)
 refine⟨⟨by omega,λu l=>?_⟩,B⟩;obtain⟨i,-,rfl⟩:=aqJ.1 l;refine⟨by rw[jM];have:=ko f lv f.aoC.length i;omega,λx w=>?_⟩;obtain⟨y,D,rfl⟩:=aqJ.1 w;have:=aqN.1 (asQ.1 D).1;omega
theorem afG(U:L2_)(s:N_)(nd:Nat):scD (rQ U s) nd=cT ((apQ nd).filter (DN U s)):=by
 unfold scD;congr 2;funext d;exact Gd U s d
instance upDone{R:PH->Prop}:Up (IG R):=⟨λ{e F i H} _ h=>by cases e<;>exact h⟩
def zn(i l:Nat)(U:L2_)(u:L2_)(G:PH):Prop:=∃e ps,aO G [(i,.rows 1 [[e]]),(l,.rows 1 [[lay U]])] (gX e ps)/\wls ps=u
theorem Ey(f:aB)(hV:VF f)(U:L2_)(hU:UOk f.aoC.length U)(Z:Z' U<=40)(n:Nat)(α:1<=n)(hn:n<=3)(E u:Nat)(F:PF)(f2:F 2=some (.aU f.cells))(f6:F 6=some (.ptr E 1 0 0))(f7:F 7=some (.ptr u 1 0 0))(k:Nat)(hk:k<(fA U.length n 0).length)(G:PH)(c:Nat)
  (hI:zn u E U (((fA U.length n 0).take k).map λs=>cT ((apQ f.aoC.length).filter (DN U s))) G) (hc:G c=none) :
  SR.wp C (gH C (SS.wp C) (IG (zn u E U (((fA U.length n 0).take (k+1)).map λs=>cT ((apQ f.aoC.length).filter (DN U s)))))) (F.set 61 (.osl c 1 0 n)) (G.set c (.rows 1 (aN (cT (fA U.length n 0)[k])))):=by
 obtain⟨w,ps,hH,hw⟩:=hI;have A:=hV.small;have N:(Z' f.aoC:Int)*((1:Nat):Int)<=140737488355328:=by have:=A.aoC;omega
 have O:(Z' f.aoC:Int)<=9223372036854775807:=by have:=A.aoC;omega
 have i:(0:Int)<=(Z' f.aoC:Int):=Om;have S:=HQ U.length n 0 _ (apW hk);have V:(fA U.length n 0).take (k+1)=(fA U.length n 0).take k++[(fA U.length n 0)[k]]:=arB hk;have β:Z' ps<=1099511627776:=by
  rw[<-MJ,hw,apP,aqF];have h1:=AW U.length n 0;have X:2^(Z' U-0)<=2^40:=Nat.pow_le_pow_right Om Om;have e:(2:Nat)^40=1099511627776:=by decide
  omega
 generalize(fA U.length n 0)[k]=s at *
 obtain⟨sl,M,-⟩:=S;rw[V,aqP,<-hw];have X:=hH.new hc (.rows 1 (aN (cT s)));simp only[go_sem,SR,SS,f2,apP,N,O,i,Int.le_refl,arP];refine aQ λW R=>?_;rw[GD];have h3:=X.new R (.rows 1 (dE (marks f.aoC.length [])));simp only[go_sem];have mk:=λ{K:bT} [Up K] {F:PF} {H:PH}=>Ex (C:=C) (K:=K) E u W c f.aoC.length n (.aU f.cells) w U hU s sl (λx hx=>(M x hx).2) Om (F:=F) (H:=H) (L:=gX w ps);refine mk h3 (lE3 f2 f6 f7) λH1 h4=>?_;simp only[go_sem];have dr:=λ{K:bT} [Up K] {F:PF} {H:PH}=>Ae (C:=C) (K:=K) E u W c f.aoC.length (by have:=A.aoC;omega) (.aU f.cells) w U s (rQ U s) (F:=F) (H:=H) (L:=gX w ps);refine dr h4 Lq λv H2 h5=>?_;have Y:=h5.own (gX w ps).length (rc _ _ _ rfl);have J:=h5.at 0 rfl;rw[afG]at h5 Y;generalize hD:cT ((apQ f.aoC.length).filter (DN U s))=D at *
 have fin:∀(l:Nat)(H':PH),aO H' (scB u E c W w U s f.aoC.length (rQ U s)) ((gX w ps++[(v,1,aN D)]).set 0 (PV.osl l 1 0 (dX ps++[[v]]).length,1,dX ps++[[v]]))->zn u E U (wls ps++[D]) (H'.set u (.rows 1 [[PV.osl l 1 0 (dX ps++[[v]]).length]])):=by
  intro l H' y;have h7:=y.set 0 rfl (aR.rows 1 [[PV.osl l 1 0 (dX ps++[[v]]).length]]);refine⟨PV.osl l 1 0 (dX ps++[[v]]).length,ps++[(v,D)],?_,?_⟩;have e:gX (PV.osl l 1 0 (dX ps++[[v]]).length) (ps++[(v,D)])=(gX w ps++[(v,1,aN D)]).set 0 (PV.osl l 1 0 (dX ps++[[v]]).length,1,dX ps++[[v]]):=by unfold gX dX mE;rw[aqP,aqP];rfl
  rw[e];exact(h7.wW 3).wW 2;unfold wls;rw[aqP];rfl
 have room:roomFor (dX ps).length 1 24:=by unfold roomFor;rw[oQ];simp only[maxLen];omega
 rcases Y with⟨-,rfl⟩|⟨q,rs,rfl,-,-,-⟩
 simp only[go_sem,J,aqG,aqS,or_false,forall_eq];refine h5.append 0 (rows:=dX ps) (src:=[[PV.aG]]) rfl Sq room λv' H' y B=>?_;obtain⟨l,rfl⟩:=B aX;have i:=y.at 0 rfl;simp only[go_sem,i,aqG,aqS,or_false,forall_eq];exact fin l H' y;simp only[go_sem,J,aqG,aqS,or_false,forall_eq];refine h5.append 0 (rows:=dX ps) (src:=[[PV.osl q 1 0 (aN D).length]]) rfl Sq room λv' H' y B=>?_;obtain⟨l,rfl⟩:=B aX;have i:=y.at 0 rfl;simp only[go_sem,i,aqG,aqS,or_false,forall_eq];exact fin l H' y
abbrev vJ(lv cnt:Int):PV:=.agg [.int .i64 lv,.int .i64 cnt]
theorem Ti(J:Np C)(K L:Code)(f:aB)(hf:f.Ok)(lv cnt:Int) :
  (MW K L).wp C (aW (Js K L).res (cY (.tup [lay (gY f lv cnt),.j (gK f lv cnt)]))) (g_ [.agg f.cells,vJ lv cnt]) .nil:=by
 have hB:gY f lv cnt=if gK f lv cnt=0 then PT f (lL f lv) cnt.toNat else[]:=rfl
 have N:gK f lv cnt=if cP f&&(decide (1<=lv)&&decide (lv<=5)&&decide (1<=cnt)&&decide (cnt<=3))then(if 12<Z' f.aoC\/512<gN ((lL f lv).length:Nat) cnt.toNat then 2 else 0)else 1:=rfl
 have hv:=J.val f hf;unfold xW at hv;have bad:∀(e:Int)(F:PF)(H:PH),e≠0->gK f lv cnt=e->F 4=some .aG->F 5=some (.j e)->aW [.tmp 4,.tmp 5] (cY (.tup [lay (gY f lv cnt),.j (gK f lv cnt)])) .ret F H:=by intro e F H he i h2 h3;rw[i,aC he]at hB;rw[hB,i];exact uR (H:=H) (.inr rfl) (by simp only[go_sem,h2,h3]) (show aO H [] (gX .aG [])from aO.EC aO.nil)
 have X:(cP f&&(decide (1<=lv)&&decide (lv<=5)&&decide (1<=cnt)&&decide (cnt<=3)))=false->gK f lv cnt=1:=λh=>by rw[N,h];rfl
 simp only[go_sem,MW,rX.wp,Js];refine aD hv Ev ?_;cases hp:cP f with
 |false =>have i:=X (by rw[hp];rfl);simp only[go_sem,cX (show(1:Int)≠0 by decide)];exact bad 1 _ _ aT i Sq Sq
 |true=>
  have hV:=VF.of hp;by_cases M:lv<1;have i:=X (by rw[bG (Om:¬1<=lv)];simp);simp only[go_sem,bW (show(0:Int)=0 from rfl),M];exact bad 1 _ _ aT i Sq Sq;by_cases c2:lv>5;have i:=X (by rw[bG (Om:¬lv<=5)];simp);simp only[go_sem,bW (show(0:Int)=0 from rfl),M,c2];exact bad 1 _ _ aT i Sq Sq;by_cases c3:cnt<1;have i:=X (by rw[bG (Om:¬1<=cnt)];simp);simp only[go_sem,bW (show(0:Int)=0 from rfl),M,c2,c3];exact bad 1 _ _ aT i Sq Sq;by_cases c4:cnt>3;have i:=X (by rw[bG (Om:¬cnt<=3)];simp);simp only[go_sem,bW (show(0:Int)=0 from rfl),M,c2,c3,c4];exact bad 1 _ _ aT i Sq Sq;obtain⟨n,rfl⟩:∃n:Nat,cnt=n:=⟨cnt.toNat,by omega⟩;rw[hp,aZ (Om:1<=lv),aZ (Om:lv<=5),aZ (Om:(1:Int)<=(n:Int)),aZ (Om:(n:Int)<=3),Bool.and_self,Bool.and_self,Bool.and_self,Bool.and_self,aE rfl,arP]at N;rw[arP]at hB;obtain⟨hU,R⟩:=D9 hV lv;have y:=J.units f lv hV Om Om;generalize lL f lv=U at *
  simp only[go_sem,bW (show(0:Int)=0 from rfl),M,c2,c3,c4];refine aD y Ev ?_;simp only[go_sem];refine aQ λu δ=>?_;simp only[go_sem,apP];by_cases c5:12<Z' f.aoC;have i:gK f lv n=2:=by rw[N,aE (.inl c5)]
  simp only[go_sem,show(Z' f.aoC:Int)>12 by omega];exact bad 2 _ _ aT i Sq Sq;simp only[go_sem,show ¬(Z' f.aoC:Int)>12 by omega];refine aD (J.choose U.length n Om Om) Ev ?_;by_cases c6:512<gN (Z' U:Nat) n;have i:gK f lv n=2:=by rw[N,aE (.inr c6)]
  simp only[go_sem,show max (gN (Z' U:Nat) n) 0>512 by omega];exact bad 2 _ _ aT i Sq Sq;have i:gK f lv n=0:=by rw[N,aC (λh=>h.elim c5 c6)]
  rw[i,aE rfl]at hB;rw[hB,i];simp only[go_sem,show ¬max (gN (Z' U:Nat) n) 0>512 by omega];refine aQ λl E=>?_;have ζ:¬l=u:=by rintro rfl;rw[bL]at E;cases E
  have A:¬u=l:=λe=>ζ e.symm;simp only[go_sem,A,apP];refine jG (J.subs n U.length) Sq a_ ?_;rintro r H' ⟨o1,o2,D,rfl,rfl⟩ γ;have α:∀o x,(((h_.set o1 (.rows 1 [[.j n]])).set o2 (.rows 1 [[.j (Z' U:Nat)]])):PH) o=some x->¬l=o/\¬u=o:=λo x h=>by have:=γ o x h rfl;refine⟨λe=>?_,λe=>?_⟩;rw[<-e,bL]at this;cases this;rw[<-e,aM,aC A,bL]at this;cases this
  obtain⟨V,Y⟩:=α o1 _ (by rw[aM,aC D,bL]);obtain⟨W,Z⟩:=α o2 _ (by rw[bL]);simp only[go_sem];generalize O:PF.set _ 60 _=F;have f2:F 2=some (.aU f.cells):=by rw[<-O];simp only[go_sem]
  have f6:F 6=some (.ptr u 1 0 0):=by rw[<-O];simp only[go_sem]
  have f7:F 7=some (.ptr l 1 0 0):=by rw[<-O];simp only[go_sem]
  have η:F 60=some (.fn 211 [.ptr o1 1 0 0,.ptr o2 1 0 0]):=by rw[<-O];simp only[go_sem]
  clear O;have B:PT f U n=((fA U.length n 0).take (fA U.length n 0).length).map λs=>cT ((apQ f.aoC.length).filter (DN U s)):=by rw[aqO];rfl
  have w:aO ((h_.set u (.rows 1 [[lay U]])).set l (.rows 1 [[.aG]])) [(l,.rows 1 [[.aG]]),(u,.rows 1 [[lay U]])] (gX .aG []):=((((aO.nil (H:=h_)).new δ _).new E _).perm (asM.swap _ _ _) (asM.refl _)).EC;refine⟨211,[.ptr o1 1 0 0,.ptr o2 1 0 0],zn l u U (PT f U n),rfl,λhY=>?_,λH2 β=>?_⟩;rw[B];refine kr (m:=104) (t:=61) J.toKY rfl Om Om Om D (λk=>zn l u U (((fA U.length n 0).take k).map λs=>cT ((apQ f.aoC.length).filter (DN U s)))) ((h_.set u (.rows 1 [[lay U]])).set l (.rows 1 [[.aG]])) ⟨.aG,[],w,rfl⟩ ?_ ?_ ?_ ?_ ?_ hY λk hk G c hI hc=>Ey f hV U hU R n Om Om u l F f2 f6 f7 k hk G c hI hc;intro o x S;rw[iN];have e1:¬o=o1:=λe=>by rw[e,aM,aC (λh=>V h.symm),aM,aC (λh=>Y h.symm)]at S;cases S
  have e2:¬o=o2:=λe=>by rw[e,aM,aC (λh=>W h.symm),aM,aC (λh=>Z h.symm)]at S;cases S
  have:((h_.set o1 (.rows 1 [[.j n]])).set o2 (.rows 1 [[.j (Z' U:Nat)]]):PH) o=none:=by rw[aM,aC e2,aM,aC e1];rfl
  rw[this];exact S;rw[iN];simp only[aM,aC D,if_true];rw[iN];simp only[aM,if_true];rw[aM,aC (λe=>V e.symm),aM,aC (λe=>Y e.symm)];rfl;rw[aM,aC (λe=>W e.symm),aM,aC (λe=>Z e.symm)];rfl;obtain⟨vo,ps,hH,ε⟩:=β;have hb:=hH.at 0 rfl;simp only[go_sem,jn,f7,hb];rw[<-ε];exact uR (.inr rfl) Sq ((hH.wW 0).wW 0)
theorem Fj{l:N_}(h:l.Pairwise (· < ·)):(cT l).Pairwise (· < ·):=by
 unfold cT;rw[List.pairwise_map];exact h.imp λh=>by omega
theorem Wo{f:aB}(hV:VF f)(U:L2_)(w:Z' U<=40)(n:Nat):(PT f U n).length<=1099511627776/\∀s∈PT f U n,Z' s<=24/\s.Pairwise (· < ·):=by
 have x:=hV.small.aoC;unfold PT;constructor;rw[apP];have l:=AW U.length n 0;have u:2^(Z' U-0)<=2^40:=Nat.pow_le_pow_right Om Om;have e:(2:Nat)^40=1099511627776:=by decide
 omega;intro s i;obtain⟨t,-,rfl⟩:=aqJ.1 i;refine⟨?_,Fj (List.pairwise_lt_range.filter _)⟩;rw[jM];exact aqX (auH ..) (by simp;omega)

theorem T1(i:∀l:I_,Fits l->aJ C 94 [ints l,ints l] .nil (aL (.bool true)))(a:L2_)(y:Z' a<=9000000000000000000)(hb:∀w∈a,Z' w<=9000000000000000000) :
  ju.wp C (aW xr.res (aL (.bool true))) (g_ [lay a,lay a]) .nil:=by
 simp only[go_sem,ju,xr,apP,bW (show(Z' a:Int)=(Z' a:Nat)from rfl)];refine wp_loop (α:=Nat) (λk=>(((n_.set 0 (lay a)).set 1 (lay a)).set 5 (.j k))) (λ_=>.nil) (λk=>k<=Z' a) (λk=>Z' a-k) 0 (apR _) Lq a_ ?_;intro k A;simp only[go_sem,apP];by_cases hlt:k<Z' a;have e:(k:Int)<(Z' a:Nat):=Om;have u:(a.map λw=>[ints w])[k]?=some [ints a[k]]:=by simp[hlt]
 have B:=hb a[k] (apW hlt);generalize a[k]=x at *
 simp only[go_sem,e];refine bE .nil (cyS (.bool true)) a_ ?_;simp only[go_sem,u,apP];refine cM rfl (i x Om) Sq a_ ?_;simp only[go_sem,aqC,wZz k];exact aF (k+1) hlt Om Lq a_;have e:¬(k:Int)<(Z' a:Nat):=Om;simp only[go_sem,e];refine cR (.inr rfl) Ev ?_;rfl
noncomputable def Mm:aB:=(iJ [] 1 0 0).1

def Grow(P:N_->Bool):Prop:=∀s t:N_,(∀x∈s,x∈t)->P s=true->P t=true
theorem Grow.cons{P:N_->Bool}(h:Grow P)(a:Nat):Grow λs=>P (a::s):=λs t i u=>
 h (a::s) (a::t) (λx l=>(aqG.1 l).elim (λe=>e ▸ atZ) λl=>atK _ (i x l)) u
def lvC(L:Int)(ds:List cQ):Nat:=ds.countP λx=>decide (x.level=L)
def lvT:Nat->Int->Nat
 |0,_=>0
 |k+1,L=>(if 4-k=2 then 1 else 2)*((if((4-k:Nat):Int)=L then 1 else 0)+lvT k L)
theorem NO(l:N_)(mc aoC domain:Nat)(s:GS):∀i,(kX l mc aoC domain s i).aoM=s.aoM
 |0=>rfl
 |i+1=>by rw[kX];simp only;split;exact NO l mc aoC domain s i;exact NO l mc aoC domain s i
theorem Zf(l:N_)(level domain:Nat)(s:GS)(L:Int):lvC L (nZ l level domain s).aoM=lvC L s.aoM+if(level:Int)=L then 1 else 0:=by
 unfold nZ lvC;simp only[atW,atE,List.countP_nil,aqA,dT_]
theorem Ba{l:N_}{level aoC domain b:Nat}{rec:Nat->GS->GS}{L:Int}(e:∀d s,lvC L (rec d s).aoM<=lvC L s.aoM+b)(s:GS):∀i,lvC L (iB l level aoC domain rec s i).aoM<=lvC L s.aoM+i*((if(level:Int)=L then 1 else 0)+b)
 |0=>by rw[iB];omega
 |i+1=>by have w:=Ba (l:=l) (level:=level) (aoC:=aoC) (domain:=domain) e s i;rw[iB];simp only;rw[asL];split;omega;have u:=e ((nZ l level domain (iB l level aoC domain rec s i)).aoM.length-1) (nZ l level domain (iB l level aoC domain rec s i));rw[Zf]at u;omega
theorem Bc(l:N_)(mc aoC:Nat)(L:Int):∀(k domain:Nat)(s:GS),lvC L (fR l mc aoC k domain s).aoM<=lvC L s.aoM+lvT k L
 |0,domain,s=>by rw[fR];rw[NO];exact Nat.le_add_right _ _
 |k+1,domain,s=>by rw[fR];have e:=Ba (l:=l) (level:=4-k) (aoC:=aoC) (domain:=domain) (rec:=fR l mc aoC k) (Bc l mc aoC L k) { s with a:=(aH l 2 s.a).2 } (if 4-k=2 then 1 else 1+(aH l 2 s.a).1);refine aqX e (Nat.add_le_add_left ?_ _);rw[lvT];refine arK _ ?_;have:=cJ l (show 0<2 by decide) s.a;split<;>omega
theorem O3(l:N_)(aoC aoE a:Nat){L:Int}(i:1<=L)(u:L<=4):lvC L (iJ l aoC aoE a).1.aoF<=8:=by
 unfold iJ;simp only;refine aqX (Bc l _ aoC L 4 0 _) ?_;have e:lvC L [mM]=0:=by unfold lvC mM;simp only[atE,List.countP_nil,dT_];rw[aC Om]
 rw[e];have:L=1\/L=2\/L=3\/L=4:=Om;rcases this with rfl|rfl|rfl|rfl<;>decide
theorem U9(f:aB)(L:Int):((apQ f.aoF.length).filter λi=>decide (lvl f i=L)).length=lvC L f.aoF:=by
 rw[<-List.countP_eq_length_filter];unfold lvC lvl;have e:∀(ds:List cQ),(apQ ds.length).countP (λi=>decide ((ds.map cQ.level).getD i 0=L))=ds.countP λx=>decide (x.level=L):=by
  intro ds
  induction ds with
  |nil=>rfl
  |cons d ds l =>rw[aqV,List.range_succ_eq_map,atE,List.countP_map,atE,<-l];rfl
 exact e f.aoF
theorem Ab:∀m:Fin 10,∀c:Fin 4,gN (m.val:Int) c.val<=512:=by decide
theorem wy(l:N_)(aoC aoE:Nat){a:Nat}(h:a<=Z' l):(iJ l aoC aoE a).1.aoC.length<=aoC:=by
 have x:=bN l 2 h;have u:=bN l 2 x;obtain⟨i,-⟩:=GU l u (1+(aH l 2 (aH l 2 a).2).1);have w:=bN l 2 i;obtain⟨e,-⟩:=zI l (1+(aH l 2 (aH l 2 a).2).1) w (1+(aH l 2 (jE l (aH l 2 (aH l 2 a).2).2 (1+(aH l 2 (aH l 2 a).2).1)).2).1);obtain⟨y,-⟩:=GN (mc:=1+(aH l 2 (jE l (aH l 2 (aH l 2 a).2).2 (1+(aH l 2 (aH l 2 a).2).1)).2).1) 4 0 (⟨by simp,apR _,e⟩:GOk l aoC ⟨[mM],[],_⟩);exact y.aoW
theorem Sf(f:aB)(lv:Int):(lL f lv).length=if lv=5 then f.aoC.length else lvC lv f.aoF:=by
 unfold lL;split;simp;rw[apP];exact U9 f lv
structure HZ(f:aB):Prop where
 ok:f.Ok
 valid:cP f=true
 aoC:Z' f.aoC<=9
 lv:∀L:Int,1<=L->L<=4->lvC L f.aoF<=8
theorem HZ.num{f:aB}(h:HZ f){lv:Int}(e:1<=lv)(h5:lv<=5):(lL f lv).length<=9:=by
 rw[Sf];split;exact h.aoC;have:=h.lv lv e Om;omega
theorem HZ.ga{f:aB}(h:HZ f){lv:Int}(e:1<=lv)(h5:lv<=5){c:Nat}(l:1<=c)(u:c<=3):gK f lv c=0:=by
 have w:=h.num e h5;have i:=Ab ⟨(lL f lv).length,by omega⟩ ⟨c,by omega⟩;simp only at i;unfold gK;rw[h.valid,aZ e,aZ h5,aZ (Om:(1:Int)<=(c:Int)),aZ (Om:(c:Int)<=3),Bool.and_self,Bool.and_self,Bool.and_self,Bool.and_self,aE rfl,arP,aC];have:=h.aoC;omega
theorem HZ.all{f:aB}(h:HZ f){p:Int}(i:sX f p=true):FU f p=0/\SF f p=iX f (nJ f p):=by
 have e:FU f p=0:=by unfold FU;rw[i,aE rfl,aC];have:=h.aoC;omega
 exact⟨e,by unfold SF;rw[aE e]⟩

def iH(f:aB)(sc L:L2_):Nat->Nat
 |0=>0
 |k+1=>iH f sc L k+fF sc (L.getD k []) (bF f k).m
def IC(f:aB)(lv cnt:Int)(L:L2_):Int:=if gK f lv cnt≠0 then gK f lv cnt else if dQ f L []then 0 else 1
def jk(f:aB)(lv cnt:Int)(L:L2_):Nat:=if IC f lv cnt L=0 then iH f (gY f lv cnt) L L.length else 0
theorem IP{s t:I_}(h:s.Perm t)(sc:L2_)(m:Int):fF sc s m=fF sc t m:=by
 unfold fF;refine List.countP_congr λx _=>?_;unfold pW;rw[h.countP_eq]
theorem AO(sc:L2_)(set:I_)(m:Int):fF sc set m<=Z' sc:=List.countP_le_length
theorem Ad(f:aB)(sc L:L2_):∀k,iH f sc L k<=k*Z' sc
 |0=>apR _
 |k+1=>by have:=Ad f sc L k;have:=AO sc (L.getD k []) (bF f k).m;rw[iH,asL];omega
theorem iY{f:aB}{L:L2_}{room:I_}(h:dQ f L room=true):cP f=true:=by
 unfold dQ at h;rw[apT]at h;exact h.1
theorem oV{f:aB}{L:L2_}{room:I_}(h:dQ f L room=true):yO f L:=by
 have i:=iY h;unfold dQ sQ at h;rw[i,aqL,aE rfl,dT_]at h;by_cases c:Z' L=Z' f.aoE;rw[aE c]at h;have h:=List.append_eq_nil_iff.1 (auF h);have D:∀v (i:v<Z' L),sZ f L v=none:=λv i=>by have l:=List.flatMap_eq_nil_iff.1 h.1 v (aqN.2 i);unfold uM at l;split at l;cases l;assumption
 have u:∀v (i:v<Z' L),((L[v].length:Nat):Int)=kW f v/\∀x∈L[v],-1<=x/\x<Z' f.aoC:=λv i=>by
  have l:=D v i;have e:L.getD v []=L[v]:=by simp[apY,i]
  unfold sZ at l;rw[e]at l;split at l;rename_i y;refine⟨y,λx w=>?_⟩;have A:=wX (Option.map_eq_none_iff.1 l) x w;simp only[kZ,Bool.or_eq_false_iff,decide_eq_false_iff_not]at A;omega;cases l
 refine⟨c,λv i=>(u v i).1,λr B x w=>?_⟩;obtain⟨v,i,rfl⟩:=arF B;exact(u v i).2 x w;rw[aC c]at h;cases h
theorem qB{f:aB}{L:L2_}{room:I_}(h:dQ f L room=true){v:Nat}(B:v<Z' L):L[v].Nodup/\(∀x∈L[v],0<=x/\x<Z' f.aoC)/\L[v]≠[]/\L[v].length<=10:=by
 have D:=iY h;have y:=oV h;have K:=((AZ D y room).1 h).1 v B;obtain⟨E,F,-,-⟩:=sx.1 K;have A:∀x∈L[v],0<=x/\x<Z' f.aoC:=λx l=>by
  obtain⟨i,hi,rfl⟩:=arF l;have:=E i hi;have e:L[v].getD i 0=L[v][i]:=by simp[apY,hi]
  rw[e]at this;exact⟨this,(y.home _ (apW B) _ l).2⟩
 have hV:=VF.of D;obtain⟨hp,he⟩:=kB hV (show v<f.aoE.length by have:=y.len;omega);have w:=hV.aoP _ (apW hp);rw[he]at w;have u:=y.row v B;have J:kW f v=(bF f v).k+(bF f v).m:=rfl;refine⟨List.nodup_iff_count.2 λx=>?_,A,λe=>?_,by omega⟩;by_cases l:x∈L[v];have:=F x.toNat (by have:=A x l;omega)
 rwa[Int.toNat_of_nonneg (A x l).1]at this
 rw[List.count_eq_zero_of_not_mem l];omega;rw[e,asG]at u;omega
theorem sorted_perm(xs:I_):(sorted xs).Perm xs:=List.mergeSort_perm ..
theorem EJ(xs:I_):(sorted xs).length=Z' xs:=(sorted_perm xs).length_eq
theorem mw{xs:I_}(h:xs.Nodup):(sorted xs).Pairwise (· < ·):=by
 have e:(sorted xs).Pairwise λa b=>decide (a<=b)=true:=List.pairwise_mergeSort (λa b c e i=>by simp at *;omega) (λa b=>by simp;omega) xs;have i:(sorted xs).Nodup:=(sorted_perm xs).nodup_iff.2 h;refine(List.Pairwise.and e i).imp λh=>?_;have:=of_decide_eq_true h.1;omega
def WX:=bV [] Proofs.Tryz.f25
def TU:=cF WX
def x7:=bV [3,4] Proofs.Tryz.f8
def kw:=cF x7
structure WN(C:Ctx):Prop where
 sort:∀(o:Nat)(xs:I_),xs≠[]->Z' xs<4611686018427387904->aJ C 373 [.osl o 1 0 xs.length] (h_.set o (.rows 1 (aN xs))) (λr H'=>r=.tup []/\H'=h_.set o (.rows 1 (aN (sorted xs))))
theorem K4(u:WN C)(row:I_)(l:row≠[])(w:Z' row<=1000) :
  TU.wp C (aW WX.res (aL (ints (sorted row)))) (g_ [ints row]) .nil:=by
 have i:aN row≠[]:=λe=>l (List.map_eq_nil_iff.1 e);simp only[go_sem,TU,WX];refine rS (src:=aN row) (by simp only[go_sem];rfl) (by unfold roomFor;rw[cI];simp only[maxLen];omega) (λh=>absurd h i) λ_ o x=>?_;rw[cI]
 try simp only[go_sem]
 refine jG (u.sort o row l Om) Ev b_ ?_;rintro r H' ⟨rfl,rfl⟩ -;rw[PH.HE,PH.set_set];simp only[go_sem];refine PL (o:=o) (s:=1) (k:=Z' row) (rs:=aN (sorted row)) (.inr rfl) Sq Sq (by rw[cI,EJ];omega) ?_;rw[show(aN (sorted row)).take row.length=aN (sorted row)from aqR (by rw[cI,EJ];omega)];exact⟨rfl,rfl⟩
end Go.PM
