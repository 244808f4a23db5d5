/-Lemmas for the law. No condition.-/
import Derived.Test.YtjlbgiaeggfcaabGreatDoorWK5

set_option linter.unusedSimpArgs false
set_option linter.unusedVariables false
open Nat renaming reduceEqDiff->γ,reduceAdd->δ,reduceSub->ε,reduceMul->ζ,reduceLT->η,reduceLeDiff->θ,reduceBEq->τ
open Int renaming reduceLT->ι,reduceLE->κ,reduceEq->μ,reduceToNat->ν,reduceAdd->ξ,reduceNeg->ο,reduceBEq->ρ,reduceBNe->σ
open List renaming reduceReplicate->υ
open List renaming length_map->bhO,range->bhP,getElem_mem->bhS,replicate->bhU,length_append->bhW,getD_eq_getElem?_getD->bhX,all_eq_true->biB,length_singleton->biC,getElem?_eq_getElem->biD,mem_cons->biG,length_take->biI,mem_map->biJ,take_of_length_le->biK,getElem?_map->biL,mem_range->biM,not_mem_nil->biO,take_length->biS,map_cons->biU,map_append->biV,append_assoc->biY,getElem?_eq_some_iff->biZ,mem_append->bjB,getElem_of_mem->bjD,take_succ_eq_append_getElem->bjF,mem_singleton->bjH,append_nil->bjI,getElem?_eq_none->bjJ,getElem_map->bjK,length_cons->bjL,length_set->bjO,map_nil->bjP,mem_of_getElem?->bjQ,Sublist->bkD,getElem?_append_left->bkE,getElem?_append_right->bkF,map_congr_left->bkP,ext_getElem->bkS,map_map->bkT,mem_filter->bkU,map_take->bkY,set_append_right->blC,take_zero->blF,all_cons->blJ,countP_cons->blK,nil_append->blM,countP_append->blO,getElem?_drop->blW,getElem?_range->blX,getElem?_set->blY,mem_or_eq_of_mem_set->blZ,mem_of_mem_take->bmB
open Bool renaming and_eq_true->bhQ,false_and->bhY,not_true->bhZ,true_and->biA,not_false->biF,and_false->bjE,false_eq_true->bjW,and_true->bjY,and_self->bkO,or_eq_true->blI
open Nat renaming gcd->bhR,zero_le->bhT,le_refl->bhV,mul_add->biH,zero_add->biN,le_trans->biQ,lt_or_ge->biR,mul_comm->biW,mul_le_mul_right->biX,beq->bjT,mul_le_mul_left->bkH,succ_mul->bkI,eq_zero_or_pos->bkM,sub_self->bkR,mul_le_mul->blA,mul_one->blB,pow_le_pow_right->blS
open Option renaming map_some->biP,some->bjV,getD_some->bkC,bind_some->blG
open Int renaming toNat->bjA,toNat_natCast->bjN,mul_assoc->bkJ
open List renaming length->Z'
set_option maxRecDepth 100000
set_option maxHeartbeats 800000
open Go.IntKind renaming i64->i_,u64->u_
open Go.PM.PF renaming nil->n_,args->g_
open Go.PM.PH renaming nil->h_
noncomputable section
namespace Go.PM
open Go
def Fx(u:PV):Prop:=∀q s rs,PV.frz q s rs u=u
theorem Fx.int(k:IntKind)(n:Int):Fx (.int k n):=λ_ _ _=>rfl
theorem Fx.bool(b:Bool):Fx (.bool b):=λ_ _ _=>rfl
theorem Fx.sl(n:Nat)(r:P2_):Fx (.sl n r):=λ_ _ _=>rfl
theorem Fx.aK:Fx .aK:=λ_ _ _=>rfl
theorem Fx.ptr(q z i c:Nat):Fx (.ptr q z i c):=λ_ _ _=>rfl
theorem Fx.bK(c:List PV):Fx (.bK c):=λ_ _ _=>rfl
theorem cA.dV{H:PH}{s:Nat}{v:PV}{rows:P2_}(h:cA H s v rows)(q z:Nat)(rs:P2_):PV.frz q z rs v=PV.dV q z rs v:=by
 rcases h with⟨-,rfl⟩|⟨p,rs',rfl,-⟩<;>rfl
def apF(φ:PV->PV)(F:PF):PF:=λi=>(F i).map φ
theorem SU(φ:PV->PV)(F:PF)(i:Nat):apF φ F i=(F i).map φ:=rfl
theorem WS:∀(ps:WPs){H:PH}{B:List BX}{y:PV}(l:P2_) (d:L2_),xS l d->aR H B ((y,1,l++fE ps)::vK ps)->(∀b∈B,∀q s rs,aY.frz q s rs b.2=b.2) ->
  ∃(φ:PV->PV)(A:PH),Co (φ y) (lists (d++wls ps))/\(∀u,Fx u->φ u=u)/\(∀e:Int,φ (.tup [y,.int .i64 e])=.tup [φ y,.int .i64 e])/\aR A B []/\(∀F:PF,kN F H (apF φ F) A)/\∀o,(H o=none\/y.oid=some o\/∃p∈ps,p.1.oid=some o)->A o=none
 |[],H,B,y,l,d,J,h,hB=>by
  have M:l++fE []=l:=bjI l;have e1:d++wls []=d:=bjI d;rw[M]at h;rw[e1];rcases h.own 0 rfl with⟨Q,rfl⟩|⟨q,rs,rfl,_⟩
  ·refine⟨id,H,?_,λ_ _=>rfl,λ_=>rfl,h.Wx 0,λF=>?_,λo ho=>?_⟩
   ·subst Q;have:d=[]:=List.length_eq_zero_iff.1 J.1.symm;subst this;exact .nil 1
   ·have:apF id F=F:=funext λi=>by rw[SU];simp
    rw[this];exact .refl _ _
   ·rcases ho with ho|ho|⟨p,hp,-⟩
    ·exact ho
    ·cases ho
    ·cases hp
  ·obtain⟨rs,W,X,Y,Z,K⟩:=h.frz 0 rfl;refine⟨PV.frz q 1 rs,H.frz q 1 rs,?_,λu N=>N _ _ _,λe=>?_,?_,λF=>.step q W (.refl _ _),λo ho=>?_⟩
   ·rw[Y];exact J.co
   ·show PV.tup [PV.dV q 1 rs (.osl q 1 0 l.length),.int .i64 e]=_;rw[X,Y]
   ·have O:(B.map λb=>(b.1,b.2.frz q 1 rs))=B:=by
     conv=>rhs;rw[<-List.map_id B]
     refine bkP λb hb=>?_;rw[hB b hb q 1 rs];rfl
    rw[O]at K;exact K
   ·rw[IG];rcases ho with ho|ho|⟨p,hp,-⟩
    ·rw[ho];split<;>rfl
    ·have:q=o:=by injection ho
     rw[aG this.symm]
    ·cases hp
 |(v,w)::ps,H,B,y,l,d,J,h,hB=>by
  have eo:∀u:PV,l++[[u]]++fE ps=l++[u]::fE ps:=λu=>by rw[biY];rfl
  have ew:d++[w]++wls ps=d++wls ((v,w)::ps):=by rw[biY];rfl
  have ho:cA H 1 v (bJ w):=h.own 1 rfl;rcases ho with⟨Q,rfl⟩|⟨q,rs,rfl,_⟩
  ·have hw:w=[]:=List.map_eq_nil_iff.1 Q;have h2:=h.Wx 1;obtain⟨φ,A,k1,k2,R,S,U,V⟩:=WS ps (l++[[.aK]]) (d++[w]) (J.snoc (.inr ⟨rfl,hw⟩)) (by rw[eo];exact h2) hB;rw[ew]at k1;refine⟨φ,A,k1,k2,R,S,U,λo ho=>V o ?_⟩;rcases ho with ho|ho|⟨p,hp,ho⟩
   ·exact .inl ho
   ·exact .inr (.inl ho)
   ·rcases biG.1 hp with rfl|hp
    ·cases ho
    ·exact .inr (.inr ⟨p,hp,ho⟩)
  ·obtain⟨rs,W,X,Y,Z,K⟩:=h.frz 1 rfl;have O:(B.map λb=>(b.1,b.2.frz q 1 rs))=B:=by
    conv=>rhs;rw[<-List.map_id B]
    refine bkP λb hb=>?_;rw[hB b hb q 1 rs];rfl
   have y0:PV.dV q 1 rs y=y:=Z 0 _ aS rfl;have E:PV.frz q 1 rs y=y:=((h.own 0 rfl).dV q 1 rs).trans y0;have yp:∀p∈ps,PV.dV q 1 rs p.1=p.1:=λp hp=>by obtain⟨j,hj⟩:=List.mem_iff_getElem?.1 hp;exact Z (j+2) (p.1,1,bJ p.2) Om (K8 hj)
   have er:(l++fE ((.osl q 1 0 (bJ w).length,w)::ps)).map (λr=>r.map (PV.dV q 1 rs))=l++[[ints w]]++fE ps:=by
    rw[biV,J.flat,biY];congr 1;show[PV.dV q 1 rs (.osl q 1 0 (bJ w).length)]::(fE ps).map _=_;rw[X];have:(fE ps).map (λr=>r.map (PV.dV q 1 rs))=fE ps:=by unfold fE;rw[bkT];refine bkP λp hp=>?_;show[PV.dV q 1 rs p.1]=_;rw[yp p hp]
    rw[this];rfl
   have ei:(vK ps).map (λx=>(x.1,x.2.1,x.2.2.map λr=>r.map (PV.dV q 1 rs)))=vK ps:=by unfold vK;rw[bkT];refine bkP λp _=>?_;show(p.1,1,(bJ p.2).map λr=>r.map (PV.dV q 1 rs))=_;rw[show(bJ p.2).map (λr=>r.map (PV.dV q 1 rs))=bJ p.2 from Flat.map p.2 (λx c hc q s rs=>by rw[bjH]at hc;subst hc;rfl) q 1 rs]
   have z6:aR (H.frz q 1 rs) B ((y,1,l++[[ints w]]++fE ps)::vK ps):=by rw[O]at K;have z7:aR (H.frz q 1 rs) B ((y,1,(l++fE ((.osl q 1 0 (bJ w).length,w)::ps)).map (λr=>r.map (PV.dV q 1 rs)))::(vK ps).map (λx=>(x.1,x.2.1,x.2.2.map λr=>r.map (PV.dV q 1 rs)))):=K;rw[er,ei]at z7;exact z7
   obtain⟨φ,A,k1,k2,R,S,U,V⟩:=WS ps (l++[[ints w]]) (d++[w]) (J.snoc (.inl rfl)) z6 hB;rw[ew]at k1;refine⟨λu=>φ (PV.frz q 1 rs u),A,?_,λu N=>?_,λe=>?_,S,λF=>.step q W ?_,λo ho=>V o ?_⟩
   ·simp only;rw[E];exact k1
   ·simp only;rw[N,k2 u N]
   ·simp only;rw[E];have yt:PV.frz q 1 rs (.tup [y,.int .i64 e])=.tup [PV.frz q 1 rs y,.int .i64 e]:=by rcases h.own 0 rfl with⟨-,M⟩|⟨p,rs',M,-⟩<;>(subst M;rfl)
    rw[yt,E,R]
   ·have:apF (λu=>φ (PV.frz q 1 rs u)) F=apF φ (F.frz q 1 rs):=funext λi=>by rw[SU,SU,xX,Option.map_map];rfl
    rw[this];exact U _
   ·rw[IG];rcases ho with ho|ho|⟨p,hp,ho⟩
    ·left;rw[ho];split<;>rfl
    ·exact .inr (.inl ho)
    ·rcases biG.1 hp with rfl|hp
     ·have:q=o:=by injection ho
      left;rw[aG this.symm]
     ·exact .inr (.inr ⟨p,hp,ho⟩)
theorem MZ{res:List eE}{F:PF}{H:PH}{d:PV}{ps:WPs}{c:Int}{e:oH}(u:e=.normal\/e=.ret)(h:eE.evs F H res=some [d,.int .i64 c])(l:aR H [] (jI d ps)):aZ res (cM (.tup [lists (wls ps),.int .i64 c])) e F H:=by
 obtain⟨φ,y,k1,-,w,-,x,-⟩:=WS ps [] [] .nil l (λb hb=>by cases hb);refine AA u h ⟨_,_,.nil,x _,a_,φ (bN [d,.int .i64 c]),?_,?_⟩
 ·rw[SU,pR,aG rfl];rfl
 ·show cM _ (φ (.tup [d,.int .i64 c])) .nil;rw[w];refine⟨.tup rfl λj p q hp i=>?_,rfl⟩
  match j with
  |0=>cases hp;cases i;exact k1
  |1=>cases hp;cases i;exact .refl _
  |j+2=>cases hp
variable{C:Ctx}
theorem aMF{F:PF}{H Hs:PH}{S:Spec}{name:Nat}{D:List Nat}{vs:List PV}{v:PV}{args:List aP}{st:Bool}{d:Option Nat}{K:PF->PH->Prop}(l:S name vs=some (D,λG r H'=>r=v/\H'=G))(hD:∀o∈D,∃x,H o=some x)
  (h:aH C name vs (H.only D) (λr H'=>r=v/\H'=H.only D)) (p:aP.evs F args=some vs) (e:Hs.le H) (u:K (F.put d v) H):dOp C Hs S st (.call name args) d K F H:=by
 refine⟨vs,D,_,p,l,hD,h,λG=>⟨v,_,⟨rfl,rfl⟩,λq y A i=>?_⟩,λr H' w _=>?_⟩
 ·rw[A]at i;cases i
 ·obtain⟨rfl,rfl⟩:=w;rw[PH.over_self _ (SK H D)];exact⟨e,u⟩
open Go Go.Na
theorem cA.lenOf{H:PH}{v:PV}{rows:P2_}{s:Nat}(h:cA H s v rows):PV.uP v=some (.int .i64 (Z' rows:Nat)):=by
 rcases h with⟨rfl,rfl⟩|⟨q,rs,rfl,-⟩<;>rfl
theorem aR.a6T{H:PH}{B:List BX}{l:PV}{ps:WPs}(h:aR H B (jI l ps)){i:Nat}(hi:i<Z' ps) :
  ∃e rs,l=.osl e 1 0 ps.length/\H e=some (.rows 1 rs)/\rs[i]?=some [ps[i].1]/\i<Z' rs:=by
 rcases h.outer with⟨d,-⟩|⟨q,rs,rfl,d,h2,h3⟩
 ·have:(fE ps).length=0:=by rw[d];rfl
  rw[tF]at this;omega
 ·rw[tF]at h2 h3;refine⟨q,rs,by rw[tF],d,?_,by omega⟩;have:=ajI (ps:=ps) (i:=i) (v:=ps[i].1) (w:=ps[i].2) (by rw[biD hi]);rw[<-h3,List.getElem?_take_of_lt hi]at this;exact this
theorem aR.a3J{H:PH}{B:List BX}{d:PV}{ps:WPs}(h:aR H B (jI d ps)):PV.uP d=some (.int .i64 (Z' ps:Nat)):=by
 have:=h.outer.lenOf
 rwa[tF]at this
theorem SW(ps:WPs):(wls ps).length=Z' ps:=bhO _
theorem Gv{res:List eE}{F:PF}{H:PH}{d:PV}{ps:WPs}{e:oH}(l:e=.normal\/e=.ret)(h:eE.evs F H res=some [d])(i:aR H [] (jI d ps)):aZ res (cM (lists (wls ps))) e F H:=by
 obtain⟨φ,u,k1,-,-,-,p,-⟩:=WS ps [] [] .nil i (λb hb=>by cases hb);refine AA l h ⟨_,_,.nil,p _,a_,φ (bN [d]),?_,?_⟩
 ·rw[SU,pR,aG rfl];rfl
 ·exact⟨k1,rfl⟩
def K9(f:aD)(lv:Int)(i:Nat):Bool:=decide (lvl f i=lv)
def MC(f:aD)(lv:Int):List Nat:=(bhP f.bgG.length).filter (K9 f lv)
def fP(f:aD)(lv:Int)(i:Nat):Nat:=(bhP i).countP (K9 f lv)
def jE(f:aD)(lv:Int)(k:Nat):List Int:=(bhP f.bgG.length).map λi=>if i<k/\lvl f i=lv then((fP f lv i:Nat):Int)else 0
def ET(f:aD)(lv:Int)(d i:Nat):List Nat:=(bhP d).filter λe=>decide (dM f e lv=i)
def uE(f:aD)(lv:Int)(d:Nat):L2_:=(MC f lv).map λi=>cT (ET f lv d i)
theorem aoI(f:aD){lv:Int}(h:lv≠5):kJ f lv=uE f lv f.bgD.length:=by
 unfold kJ;rw[aE h];rfl
theorem Ul(f:aD):kJ f 5=(bhP f.bgD.length).map λ(d:Nat)=>[(d:Int)]:=by
 unfold kJ;rw[aG rfl]
theorem aIW(f:aD)(lv:Int)(k:Nat):(jE f lv k).length=Z' f.bgG:=by unfold jE;simp
theorem arX(f:aD)(lv:Int):jE f lv 0=bhU f.bgG.length 0:=by
 unfold jE;refine bkS bH λi d e=>?_;simp
theorem Sp{f:aD}{lv:Int}{k i:Nat}(hi:i<Z' f.bgG):(jE f lv k)[i]?=some (if i<k/\lvl f i=lv then((fP f lv i:Nat):Int)else 0):=by
 unfold jE;rw[biL,blX hi];rfl
theorem aIV{f:aD}{lv:Int}{k:Nat}(h:lvl f k=lv):(jE f lv k).set k ((fP f lv k:Nat):Int)=jE f lv (k+1):=by
 refine bkS (by simp[jE]) λi d l=>?_;simp only[jE,List.getElem_set,bjK,List.getElem_range];by_cases e:k=i
 ·subst e;rw[aG rfl,aG ⟨by omega,h⟩]
 ·rw[aE e];have:i<k↔i<k+1:=Om;simp only[this]
theorem arW{f:aD}{lv:Int}{k:Nat}(h:lvl f k≠lv):jE f lv k=jE f lv (k+1):=by
 refine bkS (by simp[jE]) λi d l=>?_;simp only[jE,bjK,List.getElem_range];by_cases e:k=i
 ·subst e;rw[aE Om,aE (λx=>h x.2)]
 ·have:i<k↔i<k+1:=Om;simp only[this]
theorem aKC{f:aD}{lv:Int}{k:Nat}(h:lvl f k=lv):fP f lv (k+1)=fP f lv k+1:=by
 unfold fP K9;rw[List.range_succ,blO];simp[h]
theorem asK{f:aD}{lv:Int}{k:Nat}(h:lvl f k≠lv):fP f lv (k+1)=fP f lv k:=by
 unfold fP K9;rw[List.range_succ,blO];simp[h]
theorem aQS(f:aD)(lv:Int)(k:Nat):fP f lv k<=k:=biQ List.countP_le_length bH
theorem aCI{f:aD}{lv:Int}{a:Nat}(d:a<Z' f.bgG)(h:lvl f a=lv):(MC f lv)[fP f lv a]?=some a:=aMR (q:=K9 f lv) d (by rw[K9,bA h])
theorem arN(f:aD)(lv:Int)(d i:Nat):ET f lv (d+1) i=if dM f d lv=i then ET f lv d i++[d]else ET f lv d i:=by
 unfold ET;rw[List.range_succ,List.filter_append];by_cases h:dM f d lv=i<;>simp[h]
theorem Ea(f:aD)(lv:Int)(d i:Nat):(ET f lv d i).length<=d:=biQ (List.length_filter_le ..) bH
theorem aTI(f:aD)(lv:Int):(MC f lv).Nodup:=List.nodup_range.filter _
theorem aYH{f:aD}{lv:Int}{d:Nat}(B:dM f d lv<Z' f.bgG)(h:lvl f (dM f d lv)=lv){ps:WPs}(hp:wls ps=uE f lv d){v:PV}{w:List Int}(hi:ps[fP f lv (dM f d lv)]?=some (v,w))(v':PV) :
  w.length<=d/\wls (ps.set (fP f lv (dM f d lv)) (v',w++[(d:Int)]))=uE f lv (d+1):=by
 have p:=aCI B h;have x:w=cT (ET f lv d (dM f d lv)):=by
  have l:(wls ps)[fP f lv (dM f d lv)]?=some w:=by unfold wls;rw[biL,hi];rfl
  rw[hp,uE,biL,p]at l;injection l with l
  exact l.symm
 refine⟨by rw[x];unfold cT;rw[bhO];exact Ea ..,?_⟩;have u:wls (ps.set (fP f lv (dM f d lv)) (v',w++[(d:Int)]))=(uE f lv d).set (fP f lv (dM f d lv)) (w++[(d:Int)]):=by rw[<-hp];unfold wls;rw[List.map_set]
 rw[u,x];unfold uE;refine bkS bH λi l u=>?_;have il:i<(MC f lv).length:=by simpa using u
 rw[List.getElem_set];simp only[bjK];rw[arN];obtain⟨E,y⟩:=biZ.1 p;by_cases e:fP f lv (dM f d lv)=i
 ·subst e;rw[aG rfl,y,aG rfl];unfold cT;rw[biV];rfl
 ·rw[aE e,aE];intro e2;have A:(MC f lv)[fP f lv (dM f d lv)]=(MC f lv)[i]:=y.trans e2;exact e ((List.getElem_inj (aTI f lv)).1 A)
def NB(n:Nat):P2_:=(bhP n).map λ(d:Nat)=>[ints [(d:Int)]]
theorem aPO(n:Nat):(NB n).length=n:=by unfold NB;simp
theorem aJD(n:Nat):NB (n+1)=NB n++[[ints [(n:Int)]]]:=by unfold NB;rw[List.range_succ,biV];rfl
theorem aQT(f:aD):lay (kJ f 5)=.sl 1 (NB f.bgD.length):=by
 rw[Ul];unfold NB;show PV.sl 1 (List.map _ (List.map _ _))=_;rw[bkT];rfl
theorem asJ(f:aD)(lv:Int):uE f lv 0=bhU (fP f lv f.bgG.length) []:=by
 unfold uE fP;rw[List.countP_eq_length_filter];refine bkS (by simp[MC]) λi d e=>?_;simp[ET,cT]
theorem Ht(f:aD)(lv:Int)(d:Nat):(uE f lv d).length=(MC f lv).length:=by unfold uE;simp
def unB(f:aD)(lv:Int)(d:Nat)(e:PV)(k:Nat):PF:=(((((((n_.set 1 (.int .i64 lv)).set 2 (.bK f.cells)).set 5 (e)).set 7 (.osl d 1 0 f.bgG.length)).set 33 (.sl 7 (f.bgG.map cS.cells))).set 34 (.int .i64 (Z' f.bgG:Nat))).set 35 (.int .i64 k))
def unC(f:aD)(lv:Int)(e:Nat)(i:PV)(d:Nat):PF:=(((((((n_.set 1 (.int .i64 lv)).set 2 (.bK f.cells)).set 5 (i)).set 7 (.osl e 1 0 f.bgG.length)).set 54 (.sl 3 (f.bgD.map eJ.cells))).set 55 (.int .i64 (Z' f.bgD:Nat))).set 56 (.int .i64 d))
def unE(f:aD)(lv:Int)(e:Nat)(i:PV)(d at_:Nat):PF:=(((((((((n_.set 1 (.int .i64 lv)).set 2 (.bK f.cells)).set 5 (i)).set 7 (.osl e 1 0 f.bgG.length)).set 54 (.sl 3 (f.bgD.map eJ.cells))).set 55 (.int .i64 (Z' f.bgD:Nat))).set 56 (.int .i64 d)).set 10 (.int .i64 d)).set 12 (.int .i64 at_))
theorem aMD{K:cF}[Up K](f:aD)(hV:VF f)(lv:Int)(N:1<=lv)(O:lv<=4)(y:Nat)(B:PV)(d:Nat)(M:d<Z' f.bgD){F:PF}{H:PH}
  (J:(unE f lv y B d (eM f d)).le F) (E:K (.exit 6) (unE f lv y B d (dM f d lv)) H):aC.wp C (.loop GA) K F H:=by
 refine wp_loop (α:=Nat) (λj=>unE f lv y B d (upN f j (eM f d))) (λ_=>H) (λj=>(j:Int)<=4-lv) (λj=>4-j) 0 Om (by rw[upN];exact J) b_ ?_;intro j Q;obtain⟨l,A⟩:=KZ hV M (k:=j) Om;have p:((upN f j (eM f d):Nat):Int)<(Z' f.bgG:Nat):=Om;by_cases c:(j:Int)<4-lv
 ·have i:4-(j:Int)>lv:=Om;have w:0<upN f j (eM f d):=by
   rcases bkM (upN f j (eM f d))with e|e
   ·rw[e,hV.root.2.1]at A;omega
   ·exact e
  have x:upN f (j+1) (eM f d)=XJ f (upN f j (eM f d)):=rfl;have u:=hV.Mb w l;simp only[go_sem,GA,TY,unE,p,kE l,KE l,A,i,C8,Gn l,u];exact aJ (j+1) Om Om (by(repeat' (first|exact c_|refine d_ ?_ ?_))<;>first|(simp only[go_sem,x]<;>rfl)|rfl) b_
 ·have i:¬4-(j:Int)>lv:=Om;have e:dM f d lv=upN f j (eM f d):=by rw[dM,show 4-lv.toNat=j by omega]
  rw[e]at E;simp only[go_sem,GA,TY,unE,p,kE l,KE l,A,i];refine Up.up ?_ E;unfold unE;exact Lq
theorem aMC(f:aD)(hV:VF f)(lv:Int)(h1:1<=lv)(h5:lv<=5) :
  OD.wp C (aZ Zu.res (cM (lay (kJ f lv)))) (g_ [.agg f.cells,.int .i64 lv]) .nil:=by
 have Z:=hV.small;have hd:=Z.bgD;have μ:=Z.bgG;simp only[go_sem,OD,Pc,Pd,Pe,Zu];by_cases c5:lv=5
 ·subst c5;rw[aQT];simp only[go_sem,bY (show(5:Int)=5 from rfl),Pf,bhO];refine wp_loop (α:=Nat × PV × PH) (λs=>(((n_.set 5 (s.2.1)).set 17 (.int .i64 (Z' f.bgD:Nat))).set 18 (.int .i64 s.1))) (λs=>s.2.2) (λs=>s.1<=Z' f.bgD/\cA s.2.2 1 s.2.1 (NB s.1)) (λs=>Z' f.bgD-s.1) (0,.aK,.nil) ⟨bhT _,.nil⟩ Lq b_ ?_;rintro⟨k,v,H⟩ ⟨hk,hO⟩;simp only at hk hO;simp only[go_sem,Pb,Pg];by_cases hlt:k<Z' f.bgD
  ·have e:(k:Int)<(Z' f.bgD:Nat):=Om;simp only[go_sem,e,Ph,Pi];refine fL (src:=[[ints [(k:Int)]]]) hO (by simp only[go_sem];rfl) (by unfold roomFor;rw[aPO];simp only[biC,maxLen];omega) λv' H' V _=>?_;rw[<-aJD]at V;simp only[go_sem,Pj,wZz k];exact aJ (k+1,v',H') ⟨hlt,V⟩ (by simp only;omega) Lq b_
  ·have e:¬(k:Int)<(Z' f.bgD:Nat):=Om;have:k=Z' f.bgD:=Om;subst this;simp only[go_sem,e,Pk];exact tV (.inr rfl) hO Sq
 have h4:lv<=4:=Om;rw[aoI f c5];have δ:(Z' f.bgG:Int)*((8:Nat):Int)<=140737488355328:=Om;have ε:(Z' f.bgG:Int)<=9223372036854775807:=Om;have ζ:(0:Int)<=(Z' f.bgG:Int):=Om;simp only[go_sem,bL c5,Cx,bhO,δ,ε,ζ,Int.le_refl,bjN];refine aQ λA hP=>?_;have ez:bhU f.bgG.length [PV.int .i64 0]=bJ (jE f lv 0):=by rw[arX,xZ]
 rw[ez];have U:aR (h_.set A (.rows 1 (bJ (jE f lv 0)))) [(A,.rows 1 (bJ (jE f lv 0)))] (jI .aK []):=((aR.nil (H:=h_)).new hP _).mq;simp only[go_sem,Cy,bhO];refine wp_loop (α:=Nat × PV × WPs × PH) (λs=>unB f lv A s.2.1 s.1) (λs=>s.2.2.2) (λs=>s.1<=Z' f.bgG/\wls s.2.2.1=bhU (fP f lv s.1) []/\aR s.2.2.2 [(A,.rows 1 (bJ (jE f lv s.1)))] (jI s.2.1 s.2.2.1)) (λs=>Z' f.bgG-s.1) (0,.aK,[],_) ⟨bhT _,rfl,U⟩ (by unfold unB;exact Lq) b_ ?_;clear U ez hP;rintro⟨i,vo,ps,H⟩ ⟨hi,l,p⟩;simp only at hi l p;simp only[go_sem,Cv,Cz,unB];by_cases hlt:i<Z' f.bgG
 ·have e:(i:Int)<(Z' f.bgG:Nat):=Om;have ι:Z' ps=fP f lv i:=by have:=congrArg List.length l;rw[SW,List.length_replicate]at this;exact this
  have Q:=aQS f lv i;simp only[go_sem,e,C0,kE hlt];refine aQ λq R=>?_;have E:=p.at 0 rfl;have n1:¬A=q:=by rintro rfl;rw[E]at R;cases R
  have M:=λx=>p.new R x;simp only[go_sem,C1,KE hlt];by_cases c:lvl f i=lv
  ·have X:=p.a3J;have B:=Sp (f:=f) (lv:=lv) (k:=i) hlt;have y:(bJ (jE f lv i))[i]?=some [.int .i64 (if i<i/\lvl f i=lv then((fP f lv i:Nat):Int)else 0)]:=by unfold bJ;rw[biL,B];rfl
   have θ:i<(bJ (jE f lv i)).length:=by rw[dN,aIW];exact hlt
   have S:(bJ (jE f lv i)).set i [.int .i64 (Z' ps:Nat)]=bJ (jE f lv (i+1)):=by rw[vL,ι,aIV c]
   have h3:=λx=>(M x).set 0 rfl (.rows 1 (bJ (jE f lv (i+1))));simp only[go_sem,bY c,C2,X,e,n1,E,y,θ,biN,S,C3];refine(h3 _).a2Z Sq (by unfold roomFor;simp only[maxLen];omega) λq2 H2 h4=>?_;simp only[go_sem,TX,wZz i];refine aJ (i+1,PV.osl q2 1 0 (Z' ps+1),ps++[(PV.aK,[])],H2) ⟨hlt,?_,h4.tM 1⟩ (by simp only;omega) Lq b_;simp only;rw[aKC c,List.replicate_succ'];unfold wls at l ⊢;rw[biV,l];rfl
  ·have S:jE f lv i=jE f lv (i+1):=arW c;simp only[go_sem,bL c,TX,wZz i];refine aJ (i+1,vo,ps,_) ⟨hlt,?_,?_⟩ (by simp only;omega) Lq b_
   ·simp only;rw[asK c];exact l
   ·simp only;rw[<-S];exact(M _).tM 1
 have e:¬(i:Int)<(Z' f.bgG:Nat):=Om;have:i=Z' f.bgG:=Om;subst this;rw[<-asJ]at l;simp only[go_sem,e,C4,bhO];refine wp_loop (α:=Nat × PV × WPs × PH) (λs=>unC f lv A s.2.1 s.1) (λs=>s.2.2.2) (λs=>s.1<=Z' f.bgD/\wls s.2.2.1=uE f lv s.1/\aR s.2.2.2 [(A,.rows 1 (bJ (jE f lv f.bgG.length)))] (jI s.2.1 s.2.2.1)) (λs=>Z' f.bgD-s.1) (0,vo,ps,H) ⟨bhT _,l,p⟩ (by unfold unC;exact Lq) b_ ?_;clear l p hi hlt e;rintro⟨d,vo,ps,H⟩ ⟨η,l,p⟩;simp only at η l p;simp only[go_sem,Cw,C5,unC];by_cases hlt:d<Z' f.bgD
 ·have e:(d:Int)<(Z' f.bgD:Nat):=Om;simp only[go_sem,e,C6,rL hlt];refine aQ λq R=>?_;have E:=p.at 0 rfl;have n1:¬A=q:=by rintro rfl;rw[E]at R;cases R
  have M:=λx=>(p.new R x).tM 1;simp only[go_sem,C7,hV.Lf hlt];generalize hx:aY.rows 3 _=x;have M:=M x;have N:=M.at 0 rfl;generalize H.set q x=H1 at *
  have up:=λ{K:cF} [Up K] {F:PF} {H:PH}=>aMD (C:=C) (K:=K) f hV lv h1 h4 A vo d hlt (F:=F) (H:=H);refine up (by unfold unE;exact Lq) ?_;obtain⟨a1,a2⟩:=KZ hV hlt (k:=4-lv.toNat) Om;have a3:lvl f (dM f d lv)=lv:=by rw[dM,a2];omega
  have a1:dM f d lv<Z' f.bgG:=a1;have γ:((dM f d lv:Nat):Int)<(Z' f.bgG:Nat):=Om;have B:=Sp (f:=f) (lv:=lv) (k:=Z' f.bgG) a1;rw[aG ⟨a1,a3⟩]at B;have y:(bJ (jE f lv f.bgG.length))[dM f d lv]?=some [.int .i64 (fP f lv (dM f d lv):Nat)]:=by unfold bJ;rw[biL,B];rfl
  have J:fP f lv (dM f d lv)<Z' ps:=by have:=(biZ.1 (aCI a1 a3)).1;rw[<-SW,l,Ht];exact this
  have O:=λv'=>aYH (ps:=ps) a1 a3 l (biD J) v';have Q:ps[fP f lv (dM f d lv)]?=some (ps[fP f lv (dM f d lv)].1,ps[fP f lv (dM f d lv)].2):=by rw[biD J]
  have ν:ps[fP f lv (dM f d lv)]=(ps[fP f lv (dM f d lv)].1,ps[fP f lv (dM f d lv)].2):=rfl;obtain⟨qo,rs,rfl,b1,b2,b3⟩:=M.a6T J;generalize ps[fP f lv (dM f d lv)].2=w at *
  generalize ps[fP f lv (dM f d lv)].1=v at *
  generalize fP f lv (dM f d lv)=u at *
  have β:(u:Int)<(Z' ps:Nat):=Om;have ξ:=(O .aK).1;simp only[go_sem,unE];refine bV (h_.set A (.rows 1 (bJ (jE f lv f.bgG.length)))) eW (e_ a_ N) ?_;simp only[go_sem,C9,γ,N,y,biN,β,b1,b2,b3];refine M.baO (src:=[(d:Int)]) Q (by simp only[go_sem];rfl) (by unfold roomFor;simp only[biC,maxLen];omega) bH λq2 H2 h5=>?_;have Y:=h5.at 0 rfl;refine⟨e_ a_ Y,?_⟩;obtain⟨rs2,e1,e2,e3,h6⟩:=h5.a7S;have κ:u<Z' rs2:=Om;have W:rs2[u]?=some [v]:=by have:=ajI Q;rw[<-e3,List.getElem?_take_of_lt J]at this;exact this
  refine bV .nil eW a_ ?_;simp only[go_sem,Da,e1,κ,W,Db,wZz d];refine⟨a_,?_⟩;refine aJ (d+1,PV.osl qo 1 0 ps.length,ps.set u (PV.osl q2 1 0 (w++[(d:Int)]).length,w++[(d:Int)]),H2.set qo (.rows 1 (rs2.set u [.osl q2 1 0 (w++[(d:Int)]).length]))) ⟨hlt,(O _).2,h6⟩ (by simp only;omega) Lq (by simp only;exact b_)
 ·have e:¬(d:Int)<(Z' f.bgD:Nat):=Om;have:d=Z' f.bgD:=Om;subst this;simp only[go_sem,e,Dc];rw[<-l];exact Gv (.inr rfl) Sq (p.tM 0)
def Zk:List aW:=[
 ⟨(some 2),.box true (.tmp 0),none⟩,
 ⟨(some 3),.box true (.tmp 1),none⟩,
 ⟨(some 4),.mv (.const .aK),none⟩]
def Zl:List aW:=[
 ⟨(some 5),.alloc [.aK],none⟩]
def Zm:List aW:=[
 ⟨(some 7),.bhG 1 (.tmp 3),none⟩,
 ⟨(some 8),.load none (.tmp 7),none⟩,
 ⟨(some 9),.bhG 2 (.tmp 3),none⟩,
 ⟨(some 10),.load none (.tmp 9),none⟩,
 ⟨(some 11),.bin .add (.tmp 8) (.tmp 10),none⟩,
 ⟨(some 12),.bhG 4 (.tmp 2),none⟩,
 ⟨(some 13),.load none (.tmp 12),none⟩,
 ⟨(some 14),.len (.tmp 13),none⟩,
 ⟨(some 15),.call 210 [(.tmp 11),(.tmp 14)],none⟩]
def Zn:List aW:=[
 ⟨(some 6),.mv (.tmp 16),none⟩]
def Zo:List aW:=[
 ⟨(some 17),.load (some 7) (.tmp 2),none⟩,
 ⟨(some 18),.load (some 17) (.tmp 3),none⟩,
 ⟨(some 19),.mv (.tmp 6),none⟩,
 ⟨(some 20),.call 201 [(.tmp 17),(.tmp 18),(.tmp 19)],none⟩]
def Zp:List aW:=[
 ⟨(some 21),.load none (.tmp 5),none⟩,
 ⟨(some 22),.mv (.tmp 6),none⟩,
 ⟨(some 23),.bgJ true 1 1 [.aK] [(0,(.tmp 22))],none⟩,
 ⟨(some 24),.append 1 24 (.tmp 21) (.tmp 23),none⟩,
 ⟨none,.store 1 (.tmp 5) (.tmp 24),none⟩]
def Zq:List aW:=[
 ⟨(some 25),.load none (.tmp 5),none⟩,
 ⟨(some 4),.mv (.tmp 25),none⟩]
def O5:aC:=(.region Zn)
def O6:aC:=(.block 1 (.seq (.region Zo) (.cond (.tmp 20) (.region Zp) .skip)))
def Ct:aC:=(.seq (.region Zq) .ret)
def TV(d e:Code):wI:=(.seq (.region Zk) (.seq (.region Zl) (.seq (.region Zm) (.range (.tmp 15) 26 16 d e O5 O6 Ct))))
def aTC:List Nat:=[2,3,23]
def aFR(d e:Code):IV:=⟨2,26,TV d e,[.tmp 4]⟩
def Zc:List aW:=[
 ⟨(some 2),.box true (.tmp 0),none⟩,
 ⟨(some 3),.box true (.tmp 1),none⟩,
 ⟨(some 4),.mv (.const .aK),none⟩,
 ⟨(some 5),.mv (.const (.int .i64 0)),none⟩]
def Zd:List aW:=[
 ⟨(some 17),.load (some 7) (.tmp 2),none⟩,
 ⟨(some 18),.call 96 [(.tmp 17)],none⟩,
 ⟨(some 19),.bin .neq (.tmp 18) (.const (.int .i64 0)),none⟩,
 ⟨(some 20),.mv (.tmp 19),none⟩,
 ⟨(some 21),.bhG 0 (.tmp 3),(some (20,false))⟩,
 ⟨(some 22),.load none (.tmp 21),(some (20,false))⟩,
 ⟨(some 23),.bin .lss (.tmp 22) (.const (.int .i64 1)),(some (20,false))⟩,
 ⟨(some 24),.pick (.tmp 20) (.const (.bool true)) (.tmp 23),none⟩,
 ⟨(some 25),.mv (.tmp 24),none⟩,
 ⟨(some 26),.bhG 0 (.tmp 3),(some (25,false))⟩,
 ⟨(some 27),.load none (.tmp 26),(some (25,false))⟩,
 ⟨(some 28),.bin .gtr (.tmp 27) (.const (.int .i64 5)),(some (25,false))⟩,
 ⟨(some 29),.pick (.tmp 25) (.const (.bool true)) (.tmp 28),none⟩,
 ⟨(some 30),.mv (.tmp 29),none⟩,
 ⟨(some 31),.bhG 1 (.tmp 3),(some (30,false))⟩,
 ⟨(some 32),.load none (.tmp 31),(some (30,false))⟩,
 ⟨(some 33),.bin .lss (.tmp 32) (.const (.int .i64 1)),(some (30,false))⟩,
 ⟨(some 34),.pick (.tmp 30) (.const (.bool true)) (.tmp 33),none⟩,
 ⟨(some 35),.mv (.tmp 34),none⟩,
 ⟨(some 36),.bhG 1 (.tmp 3),(some (35,false))⟩,
 ⟨(some 37),.load none (.tmp 36),(some (35,false))⟩,
 ⟨(some 38),.bin .gtr (.tmp 37) (.const (.int .i64 3)),(some (35,false))⟩,
 ⟨(some 39),.pick (.tmp 35) (.const (.bool true)) (.tmp 38),none⟩]
def CS:List aW:=[
 ⟨(some 4),.mv (.const .aK),none⟩,
 ⟨(some 5),.mv (.const (.int .i64 1)),none⟩]
def Ze:List aW:=[
 ⟨(some 40),.load (some 7) (.tmp 2),none⟩,
 ⟨(some 41),.bhG 0 (.tmp 3),none⟩,
 ⟨(some 42),.load none (.tmp 41),none⟩,
 ⟨(some 43),.call 206 [(.tmp 40),(.tmp 42)],none⟩,
 ⟨(some 6),.alloc [.aK],none⟩,
 ⟨none,.store 1 (.tmp 6) (.tmp 43),none⟩]
def Zf:List aW:=[
 ⟨(some 44),.bhG 4 (.tmp 2),none⟩,
 ⟨(some 45),.load none (.tmp 44),none⟩,
 ⟨(some 46),.len (.tmp 45),none⟩,
 ⟨(some 47),.bin .gtr (.tmp 46) (.const (.int .i64 12)),none⟩,
 ⟨(some 48),.mv (.tmp 47),none⟩,
 ⟨(some 49),.load none (.tmp 6),(some (48,false))⟩,
 ⟨(some 50),.len (.tmp 49),(some (48,false))⟩,
 ⟨(some 51),.bhG 1 (.tmp 3),(some (48,false))⟩,
 ⟨(some 52),.load none (.tmp 51),(some (48,false))⟩,
 ⟨(some 53),.call 207 [(.tmp 50),(.tmp 52)],(some (48,false))⟩,
 ⟨(some 54),.bin .gtr (.tmp 53) (.const (.int .i64 512)),(some (48,false))⟩,
 ⟨(some 55),.pick (.tmp 48) (.const (.bool true)) (.tmp 54),none⟩]
def ux:List aW:=[
 ⟨(some 4),.mv (.const .aK),none⟩,
 ⟨(some 5),.mv (.const (.int .i64 2)),none⟩]
def Zg:List aW:=[
 ⟨(some 7),.alloc [.aK],none⟩]
def Zh:List aW:=[
 ⟨(some 56),.bhG 1 (.tmp 3),none⟩,
 ⟨(some 57),.load none (.tmp 56),none⟩,
 ⟨(some 58),.load none (.tmp 6),none⟩,
 ⟨(some 59),.len (.tmp 58),none⟩,
 ⟨(some 60),.call 210 [(.tmp 57),(.tmp 59)],none⟩]
def Zi:List aW:=[
 ⟨(some 8),.mv (.tmp 61),none⟩]
def Zj:List aW:=[
 ⟨(some 62),.bhG 4 (.tmp 2),none⟩,
 ⟨(some 63),.load none (.tmp 62),none⟩,
 ⟨(some 64),.len (.tmp 63),none⟩,
 ⟨(some 65),.bgL 1 1 [(.bool false)] (.tmp 64) (.tmp 64),none⟩,
 ⟨(some 9),.mv (.tmp 65),none⟩]
def Oo:List aW:=[
 ⟨(some 66),.mv (.tmp 8),none⟩,
 ⟨(some 67),.len (.tmp 66),none⟩,
 ⟨(some 68),.mv (.const (.int .i64 0)),none⟩]
def Oq:List aW:=[
 ⟨(some 69),.bin .lss (.tmp 68) (.tmp 67),none⟩]
def Ot:List aW:=[
 ⟨(some 70),.bgU 1 (.tmp 66) (.tmp 68),none⟩,
 ⟨(some 71),.load none (.tmp 70),none⟩,
 ⟨(some 11),.mv (.tmp 71),none⟩]
def Ou:List aW:=[
 ⟨(some 72),.load none (.tmp 6),none⟩,
 ⟨(some 73),.mv (.tmp 11),none⟩,
 ⟨(some 74),.bgU 1 (.tmp 72) (.tmp 73),none⟩,
 ⟨(some 75),.load none (.tmp 74),none⟩,
 ⟨(some 76),.len (.tmp 75),none⟩,
 ⟨(some 77),.mv (.const (.int .i64 0)),none⟩]
def Ov:List aW:=[
 ⟨(some 78),.bin .lss (.tmp 77) (.tmp 76),none⟩]
def Ow:List aW:=[
 ⟨(some 79),.bgU 1 (.tmp 75) (.tmp 77),none⟩,
 ⟨(some 80),.load none (.tmp 79),none⟩,
 ⟨(some 13),.mv (.tmp 80),none⟩]
def Ox:List aW:=[
 ⟨(some 81),.mv (.tmp 9),none⟩,
 ⟨(some 82),.mv (.tmp 13),none⟩,
 ⟨(some 83),.bgU 1 (.tmp 81) (.tmp 82),none⟩,
 ⟨none,.store 1 (.tmp 83) (.const (.bool true)),none⟩]
def Oy:List aW:=[
 ⟨(some 84),.bin .add (.tmp 77) (.const (.int .i64 1)),none⟩,
 ⟨(some 77),.mv (.tmp 84),none⟩]
def c8:aC:=(.seq (.region Ov) (.seq (.cond (.tmp 78) .skip (.exit 4)) (.seq (.block 5 (.seq (.region Ow) (.region Ox))) (.region Oy))))
def Oz:List aW:=[
 ⟨(some 85),.bin .add (.tmp 68) (.const (.int .i64 1)),none⟩,
 ⟨(some 68),.mv (.tmp 85),none⟩]
def c9:aC:=(.seq (.region Oq) (.seq (.cond (.tmp 69) .skip (.exit 2)) (.seq (.block 3 (.seq (.region Ot) (.seq (.region Ou) (.block 4 (.loop c8))))) (.region Oz))))
def O0:List aW:=[
 ⟨(some 14),.mv (.const .aK),none⟩]
def O1:List aW:=[
 ⟨(some 86),.mv (.tmp 9),none⟩,
 ⟨(some 87),.len (.tmp 86),none⟩,
 ⟨(some 88),.mv (.const (.int .i64 0)),none⟩]
def O2:List aW:=[
 ⟨(some 89),.bin .lss (.tmp 88) (.tmp 87),none⟩]
def db:List aW:=[
 ⟨(some 90),.mv (.tmp 88),none⟩,
 ⟨(some 91),.bgU 1 (.tmp 86) (.tmp 88),none⟩,
 ⟨(some 92),.load none (.tmp 91),none⟩,
 ⟨(some 15),.mv (.tmp 90),none⟩,
 ⟨(some 16),.mv (.tmp 92),none⟩]
def dd:List aW:=[
 ⟨(some 93),.mv (.tmp 16),none⟩]
def O3:List aW:=[
 ⟨(some 94),.mv (.tmp 14),none⟩,
 ⟨(some 95),.mv (.tmp 15),none⟩,
 ⟨(some 96),.bgJ true 1 1 [(.int .i64 0)] [(0,(.tmp 95))],none⟩,
 ⟨(some 97),.append 1 8 (.tmp 94) (.tmp 96),none⟩,
 ⟨(some 14),.mv (.tmp 97),none⟩]
def de:List aW:=[
 ⟨(some 98),.bin .add (.tmp 88) (.const (.int .i64 1)),none⟩,
 ⟨(some 88),.mv (.tmp 98),none⟩]
def da:aC:=(.seq (.region O2) (.seq (.cond (.tmp 89) .skip (.exit 6)) (.seq (.block 7 (.seq (.region db) (.seq (.region dd) (.cond (.tmp 93) (.region O3) .skip)))) (.region de))))
def df:List aW:=[
 ⟨(some 99),.load none (.tmp 7),none⟩,
 ⟨(some 100),.mv (.tmp 14),none⟩,
 ⟨(some 101),.bgJ true 1 1 [.aK] [(0,(.tmp 100))],none⟩,
 ⟨(some 102),.append 1 24 (.tmp 99) (.tmp 101),none⟩,
 ⟨none,.store 1 (.tmp 7) (.tmp 102),none⟩]
def O4:List aW:=[
 ⟨(some 103),.load none (.tmp 7),none⟩,
 ⟨(some 4),.mv (.tmp 103),none⟩,
 ⟨(some 5),.mv (.const (.int .i64 0)),none⟩]
def cz:aC:=(.region Zi)
def c7:aC:=(.block 1 (.seq (.region Zj) (.seq (.seq (.region Oo) (.block 2 (.loop c9))) (.seq (.region O0) (.seq (.seq (.region O1) (.block 6 (.loop da))) (.region df))))))
def Cs:aC:=(.seq (.region O4) .ret)
def TU(d e:Code):wI:=(.seq (.region Zc) (.seq (.seq (.region Zd) (.cond (.tmp 39) (.seq (.region CS) .ret) .skip)) (.seq (.region Ze) (.seq (.seq (.region Zf) (.cond (.tmp 55) (.seq (.region ux) .ret) .skip)) (.seq (.region Zg) (.seq (.region Zh) (.range (.tmp 60) 104 61 d e cz c7 Cs)))))))
def aTA:List Nat:=[2,3,96,101]
def aFQ(d e:Code):IV:=⟨2,104,TU d e,[.tmp 4,.tmp 5]⟩
theorem aNH{H:PH}{name:Nat}{pre:List PV}{v u:PV}{l:List Int}(w:Plain u)(hp:∀x∈pre,Fx x)(p:cA H 1 v (bJ l))(d:l≠[])(h:aH C name (pre++[ints l]) .nil (aI u)) :
  ∃q,v=.osl q 1 0 l.length/\(∃x,H q=some x)/\aH C name (pre++[v]) (H.only [q]) (λr H'=>r=u/\H'=H.only [q]):=by
 rcases p with⟨i,-⟩|⟨q,rs,rfl,h1,h2,h3⟩
 ·exact absurd (List.map_eq_nil_iff.1 i) d
 ·rw[dN]at h2 h3 ⊢;refine⟨q,rfl,⟨_,h1⟩,?_⟩;rw[XG h1];refine aH.aHM w ?_;have e:pre.map (PV.frz q 1 rs)=pre:=by
   conv=>rhs;rw[<-List.map_id pre]
   exact bkP λx y=>hp x y q 1 rs
  rw[biV,e,biU,bjP,zQ h2,h3];exact h
theorem Lc{α:Type}(L:List α)(x:α)(n:Nat)(h:Z' L=n):(L++[x])[n]?=some x:=by
 subst h;simp
structure a5W(f:aD)(now:L2_)(r:Int)(d:Nat)(ps:WPs):Prop where
 eq:wls ps=Ip f now r d
 num:Z' ps<=d
 len:∀i (h:i<Z' ps),1<=(ps[i].2).length/\(ps[i].2).length<=d
theorem a5W.of{f:aD}{e:L2_}{r:Int}(y:aLI f e r=true){d:Nat}(A:d<=Z' f.bgD){ps:WPs}(h:wls ps=Ip f e r d):a5W f e r d ps:=by
 have k:=Vg y d A;rw[<-h]at k;have p:∀i (h:i<Z' ps),ps[i].2∈wls ps:=λi hi=>biJ.2 ⟨ps[i],bhS hi,rfl⟩;have ne:∀l∈wls ps,1<=Z' l:=λl B=>by
  have:=k.ok l B;unfold kj at this;cases l with
  |nil=>cases this
  |cons x xs=>rw[bjL];omega
 refine⟨h,?_,λi hi=>⟨ne _ (p i hi),?_⟩⟩
 ·have u:(wls ps).length<=(wls ps).flatten.length:=by
   generalize wls ps=w at ne
   induction w with
   |nil=>exact bhV _
   |cons l w F =>have:=F λx E=>ne x (List.mem_cons_of_mem _ E);have:=ne l bH;rw[List.flatten_cons,bhW,bjL];omega
  rw[SW,k.len]at u;exact u
 ·have:=(List.sublist_flatten_of_mem (p i hi)).length_le;rw[k.len]at this;exact this
def a5V(n top:Int)(r:PV)(H':PH):Prop:=∃o1 o2,o1≠o2/\r=.fn 211 [.ptr o1 1 0 0,.ptr o2 1 0 0]/\H'=(h_.set o1 (.rows 1 [[.int .i64 n]])).set o2 (.rows 1 [[.int .i64 top]])
theorem aTD(n top:Int):TW.wp C (aZ aFS.res (a5V n top)) (g_ [.int .i64 n,.int .i64 top]) .nil:=by
 simp only[go_sem,TW,Zs,aFS];refine aQ λo1 i=>?_;simp only[go_sem];refine aQ λo2 d=>?_;have e:o1≠o2:=by rintro rfl;simp only[cZ]at d;cases d
 simp only[go_sem,Zt];exact bE (.inr rfl) _ (vs:=[.fn 211 [.ptr o1 1 0 0,.ptr o2 1 0 0]]) Sq b_ ⟨o1,o2,e,rfl,rfl⟩
structure zu(C:Ctx):Prop extends aLA C where
 subs:∀n top:Int,aH C 210 [.int .i64 n,.int .i64 top] .nil (a5V n top)
 iter:∀(l o1 o2 n top:Nat)(J:Nat->PH->Prop)(ss:List (List Nat)),ss=eT top n 0->1<=n->n<=1000->top<=1000 ->
  (∀k (hk:k<Z' ss) G c,J k G->G c=none->RP C l [.osl c 1 0 n] (G.set c (.rows 1 (bJ (cT ss[k])))) (λr H'=>r=.bool true/\J (k+1) H')) ->
  ∀G0 H:PH,J 0 G0->G0.le H->H o1=some (.rows 1 [[.int .i64 n]])->H o2=some (.rows 1 [[.int .i64 top]])->G0 o1=none->G0 o2=none->aH C 211 [FH l,.ptr o1 1 0 0,.ptr o2 1 0 0] H (λ_ H'=>∃G,J ss.length G/\G.le H')
theorem Ec(Lb:zu C){F:PF}{H:PH}{n m t o1 o2 top:Nat}{d i:Code}{Q R:aC}{B:List (List Nat)}(Y:B=eT top n 0)(h1:1<=n)(hn:n<=1000)(ht:top<=1000)(α:o1≠o2)
  (I:Nat->PH->Prop) (w:PH) (hI:I 0 w) (O:w.le H) (b1:H o1=some (.rows 1 [[.int .i64 n]])) (b2:H o2=some (.rows 1 [[.int .i64 top]])) (g1:w o1=none) (g2:w o2=none)
  (hY:∀(l:Nat)(x:PV)(J:PH)(Z:PH->Prop),J l=none->Q.wp C (kB C (R.wp C) (MF Z)) (F.set t x) J->RP C l [x] (J.set l (.loop F m t d i)) (λr H'=>r=.bool true/\∃H2,Z H2/\H2 l=none/\H'=H2.set l (.loop F m t d i)))
  (hb:∀k (hk:k<Z' B) G c,I k G->G c=none->Q.wp C (kB C (R.wp C) (MF (I (k+1)))) (F.set t (.osl c 1 0 n)) (G.set c (.rows 1 (bJ (cT B[k]))))) :
  Xp C 211 [.ptr o1 1 0 0,.ptr o2 1 0 0] F H m t d i (I B.length):=by
 intro l S;have K:w l=none:=by
  cases h:w l with
  |none=>rfl
  |some x=>rw[O l x h]at S;cases S
 have n1:¬o1=l:=λe=>by rw[e,S]at b1;cases b1
 have n2:¬o2=l:=λe=>by rw[e,S]at b2;cases b2
 refine(Lb.iter l o1 o2 n top (λk G=>∃p,I k p/\p l=none/\G=p.set l (.loop F m t d i)) B Y h1 hn ht ?_ (w.set l (.loop F m t d i)) (H.set l (.loop F m t d i)) ⟨w,hI,K,rfl⟩ ?_ ?_ ?_ ?_ ?_).post ?_
 ·rintro k hk G c ⟨p,E,u,rfl⟩ V;have M:¬c=l:=λe=>by rw[e,cZ]at V;cases V
  have N:¬l=c:=λe=>M e.symm;have W:p c=none:=by rwa[bC,aE M]at V
  have:=hY l (.osl c 1 0 n) (p.set c (.rows 1 (bJ (cT B[k])))) (I (k+1)) (by rw[bC,aE N];exact u) (hb k hk p c E W);have e:(p.set c (.rows 1 (bJ (cT B[k])))).set l (.loop F m t d i)=(p.set l (.loop F m t d i)).set c (.rows 1 (bJ (cT B[k]))):=by
   refine PH.ext λo=>?_;simp only[bC];by_cases U:o=l
   ·subst U;rw[aG rfl,aE N,aG rfl]
   ·rw[aE U,aE U]
  rw[e]at this;exact this
 ·intro o x A;rw[bC]at A ⊢;split at A
  ·rename_i e;rw[aG e];exact A
  ·rename_i e;rw[aE e];exact O o x A
 ·rw[bC,aE n1];exact b1
 ·rw[bC,aE n2];exact b2
 ·rw[bC,aE n1];exact g1
 ·rw[bC,aE n2];exact g2
 ·rintro r H' ⟨G,⟨p,E,u,rfl⟩,y⟩;have X:H' l=some (.loop F m t d i):=y l _ (by rw[cZ]);exact⟨r,.refl _,p,E,(λo x A=>y o x (by
   have:¬o=l:=λe=>by rw[e,u]at A;cases A
   rw[bC,aE this];exact A)),u,X⟩
def aZL(e:Nat)(i:L2_)(G:PH):Prop:=∃d ps,aR G [(e,.rows 1 [[d]])] (jI d ps)/\wls ps=i
theorem aTB(Lb:zu C)(J K:Code)(f:aD)(hV:VF f)(hd:Z' f.bgD<=12)(p:cE)(hp:∀m∈p.bgE,0<=m/\m<Z' f.bgE)(S:Fits p.bgE)(hk:1<=p.k)(ν:p.k<=6)(hm:0<=p.m)(ξ:p.m<=4) :
  (TV J K).wp C (aZ (aFR J K).res (cM (lay (jZ f p)))) (g_ [.agg f.cells,.agg p.cells]) .nil:=by
 obtain⟨n,hn⟩:∃n:Nat,(n:Int)=mY p:=⟨(p.k+p.m).toNat,by unfold mY;omega⟩;have β:1<=n/\n<=10:=by unfold mY at hn;omega
 have hw:i_.wrap (p.k+p.m)=(n:Int):=by rw[hn];exact wrap_i64 Om Om
 simp only[go_sem,TV,wI.wp,Zk,Zl,aFR];refine aQ λB γ=>?_;simp only[go_sem,Zm,hw,bhO];refine nE (Lb.subs n f.bgD.length) Sq a_ ?_;rintro r H' ⟨o1,o2,l,rfl,rfl⟩ R;have W:¬B=o1:=λe=>by have:=R o1 _ (by rw[bC,aE l,cZ]) rfl;rw[<-e,cZ]at this;cases this
 have X:¬B=o2:=λe=>by have:=R o2 _ (by rw[cZ]) rfl;rw[<-e,cZ]at this;cases this
 have κ:¬o2=o1:=λe=>l e.symm;simp only[go_sem];generalize N:PF.set _ 15 _=F;have f2:F 2=some (.bK f.cells):=by rw[<-N];simp only[go_sem]
 have f3:F 3=some (.bK p.cells):=by rw[<-N];simp only[go_sem]
 have f5:F 5=some (.ptr B 1 0 0):=by rw[<-N];simp only[go_sem]
 have μ:F 15=some (.fn 211 [.ptr o1 1 0 0,.ptr o2 1 0 0]):=by rw[<-N];simp only[go_sem]
 clear N;have ε:eT f.bgD.length n 0=eT f.bgD.length (mY p).toNat 0:=by rw[<-hn];rfl
 have Q:=zJ f.bgD.length n 0;have hE:jZ f p=((eT f.bgD.length n 0).map cT).filter (sA f p):=by rw[ε];rfl
 refine⟨211,[.ptr o1 1 0 0,.ptr o2 1 0 0],aZL B (((((eT f.bgD.length n 0).take (eT f.bgD.length n 0).length)).map cT).filter (sA f p)),rfl,λhY=>?_,λH2 O=>?_⟩
 ·refine Ec (m:=26) (t:=16) Lb rfl β.1 Om Om l (λk=>aZL B ((((eT f.bgD.length n 0).take k).map cT).filter (sA f p))) (h_.set B (.rows 1 [[.aK]])) ⟨.aK,[],((aR.nil (H:=h_)).new γ _).mq,rfl⟩ ?_ ?_ ?_ ?_ ?_ hY ?_
  ·intro o x Z;rw[bC]at Z;split at Z
   ·rename_i e;rw[lO];simp only[bC,e,aE W,aE X,mf,if_true];exact Z
   ·cases Z
  ·rw[lO];simp only[bC,aE l,if_true]
  ·rw[lO];simp only[bC,if_true]
  ·rw[bC,aE (λe=>W e.symm)];rfl
  ·rw[bC,aE (λe=>X e.symm)];rfl
  rintro k hk G c ⟨vo,ps,E,w⟩ hc;have δ:=Q _ (bhS hk);have ζ:(eT f.bgD.length n 0).take (k+1)=(eT f.bgD.length n 0).take k++[(eT f.bgD.length n 0)[k]]:=bjF hk;generalize(eT f.bgD.length n 0)[k]=s at *
  obtain⟨sl,Y,-⟩:=δ;have i:((((eT f.bgD.length n 0).take (k+1)).map cT).filter (sA f p))=wls ps++if sA f p (cT s)then[cT s]else[]:=by rw[ζ,biV,List.filter_append,w];congr 1;by_cases c:sA f p (cT s)<;>simp[c]
  have U:(bJ (cT s)).length=n:=by rw[dN,jY,sl]
  have M:=E.aWE (s:=1) (rows:=bJ (cT s)) hc;have hO:cA (G.set c (.rows 1 (bJ (cT s)))) 1 (.osl c 1 0 n) (bJ (cT s)):=by
   have:=M.own ((jI vo ps).length) (Lc _ _ _ rfl)
   rwa[U]at this
  have ο:Z' ps<=4096:=by
   rw[<-SW,w];refine biQ (List.length_filter_le ..) ?_;rw[bhO,biI];have h1:=KW f.bgD.length n 0;have M:2^(Z' f.bgD-0)<=2^12:=blS Om Om;have e:(2:Nat)^12=4096:=by decide
   omega
  have d:=Lb.adm f p (cT s) hV hp S ⟨by rw[jY];omega,λx V=>by obtain⟨y,hy,rfl⟩:=biJ.1 V;have:=Y y hy;omega⟩;obtain⟨q,e1,V,d⟩:=aNH (C:=C) (name:=201) (pre:=[.agg f.cells,.agg p.cells]) (u:=.bool (sA f p (cT s))) (.bool _) (λx V=>by
   simp only[biG,biO,or_false]at V;rcases V with rfl|rfl
   ·exact λ_ _ _=>rfl
   ·exact λ_ _ _=>rfl) hO (λe=>by have:=congrArg List.length e;rw[jY,sl]at this;simp at this;omega) d
  have eq:c=q:=by injection e1
  subst eq;have ι:=M.at 0 rfl;have θ:¬B=c:=λe=>by have:=E.at 0 rfl;rw[e,hc]at this;cases this
  simp only[go_sem,O5,Zn,O6,Zo,f2,f3];refine aKU (cs:=[]) (vs:=[.agg f.cells,.agg p.cells,.osl c 1 0 n]) (by rw[bjI];exact d) Sq (SK _ _) ?_;cases A:sA f p (cT s)with
  |true=>
   rw[A,aG rfl]at i;simp only[go_sem,Zp,f5,θ,E.at 0 rfl];refine M.append 0 (rows:=fE ps) (src:=[[.osl c 1 0 n]]) rfl Sq (by unfold roomFor;rw[tF];simp only[biC,maxLen];omega) λv' H' h3 η=>?_;obtain⟨q2,rfl⟩:=η bH;have α:=h3.at 0 rfl;have h4:=h3.set 0 rfl (aY.rows 1 [[PV.osl q2 1 0 (fE ps++[[PV.osl c 1 0 n]]).length]]);simp only[go_sem,α,f5,biG,biO,or_false,forall_eq];refine⟨PV.osl q2 1 0 (fE ps++[[PV.osl c 1 0 n]]).length,ps++[(.osl c 1 0 n,cT s)],?_,?_⟩
   ·have e:jI (.osl q2 1 0 (fE ps++[[PV.osl c 1 0 n]]).length) (ps++[(PV.osl c 1 0 n,cT s)])=((jI vo ps)++[(PV.osl c 1 0 (bJ (cT s)).length,1,bJ (cT s))]).set 0 (.osl q2 1 0 (fE ps++[[PV.osl c 1 0 n]]).length,1,fE ps++[[PV.osl c 1 0 n]]):=by rw[U];unfold jI fE vK;rw[biV,biV];rfl
    rw[e];exact h4
   ·rw[i];unfold wls;rw[biV];rfl
  |false =>rw[A,aE aS,bjI]at i;simp only[go_sem];exact⟨vo,ps,M.sub (bkD.refl _) (List.sublist_append_left ..),i.symm⟩
 ·rw[biS,<-hE]at O;obtain⟨vo,ps,E,w⟩:=O;have hb:=E.at 0 rfl;simp only[go_sem,Ct,Zq,f5,hb];rw[<-w];exact Gv (.inr rfl) Sq (E.tM 0)
def SZ(f:aD)(bgP:Int):Int:=if lC f bgP then(if f.bgD.length>12 then 2 else 0)else 1
def J8(f:aD)(bgP:Int):L2_:=if SZ f bgP=0 then jZ f (dW f bgP)else[]
structure Xk(C:Ctx):Prop extends zu C where
 sets:∀(f:aD)(p:cE),VF f->Z' f.bgD<=12->(∀m∈p.bgE,0<=m/\m<Z' f.bgE)->Fits p.bgE->1<=p.k->p.k<=6->0<=p.m->p.m<=4->aH C 229 [.agg f.cells,.agg p.cells] .nil (aI (lay (jZ f p)))
def cyS(r:PV):Spec:=λ_ _=>some ([],λ_=>aI r)
theorem aLQ(x:Xk C)(f:aD)(y:f.Ok)(bgP:Int) :
  NW.wp C (aZ call17.res (cM (.tup [lay (J8 f bgP),.int .i64 (SZ f bgP)]))) (g_ [.agg f.cells,.int .i64 bgP]) .nil:=by
 have hB:J8 f bgP=if SZ f bgP=0 then jZ f (dW f bgP)else[]:=rfl
 have e:SZ f bgP=if lC f bgP then(if f.bgD.length>12 then 2 else 0)else 1:=rfl
 simp only[go_sem,NW,Nu,Nv,call17];refine aB (x.known f bgP y) Ev ?_;cases u:lC f bgP with
 |false =>rw[u,aE aS]at e;rw[e,aE aS]at hB;rw[hB,e];simp only[go_sem,biF,Nw];exact MZ (.inr rfl) Sq (aR.mq aR.nil)
 |true=>
  rw[u,aG rfl]at e;obtain⟨hV,A,E,B⟩:=vM u;obtain⟨p,w⟩:=EU u;have d:=hV.bgP _ p;have l:=(y.bgP _ p).bgE;have i:(f.bgH.map cE.cells)[bgP.toNat]?=some (dW f bgP).cells:=by rw[biL,w];rfl
  have hlt:bgP<(Z' f.bgH:Nat):=Om;by_cases c:Z' f.bgD>12
  ·rw[aG c]at e;rw[e,aE aS]at hB;rw[hB,e];simp only[go_sem,bhZ,cn,bhO,show(Z' f.bgD:Int)>12 by omega,Nx];exact MZ (.inr rfl) Sq (aR.mq aR.nil)
  ·rw[aE c]at e;rw[e,aG rfl]at hB;rw[hB,e];simp only[go_sem,bhZ,cn,bhO,show ¬(Z' f.bgD:Int)>12 by omega];refine bV .nil (cyS (lay (jZ f (dW f bgP)))) a_ ?_;simp only[go_sem,Ny,A,hlt,bhO,i];refine bX rfl (x.sets f (dW f bgP) hV Om d.2.2.2.2.2.2.2 l d.1 d.2.1 d.2.2.1 d.2.2.2.1) Sq a_ ?_;simp only[go_sem];exact bE (.inr rfl) .nil (vs:=[lay (jZ f (dW f bgP)),.int .i64 0]) Sq a_ (aI.a7O ⟨rfl,rfl⟩)
structure UOk(n:Nat)(U:L2_):Prop where
 len:Z' U<=1000
 at_:∀u∈U,Z' u<=1000/\∀d∈u,0<=d/\d<n
def tB(U:L2_)(s:List Nat):List Int:=s.flatMap λi=>U.getD i []
theorem aoH(U:L2_)(s:List Nat){i:Nat}(h:i<Z' s):tB U (s.take (i+1))=tB U (s.take i)++U.getD s[i] []:=by
 unfold tB;rw[bjF h,List.flatMap_append];simp
theorem asL(U:L2_)(s:List Nat)(d:Nat):(tB U s).contains (d:Int)=wP U s d:=by
 unfold tB wP
 induction s with
 |nil=>rfl
 |cons i s e=>rw[List.flatMap_cons,List.contains_append,e,List.any_cons]
theorem aLZ{K:cF}[Up K](X W w c nd n i:Nat)(J:PV)(u:List Int)(β:Z' u<=1000)(hu:∀d∈u,0<=d/\d<nd)(l:List Int){F:PF}{H:PH}{B:List BX}{L:List LI}
  (x:aR H B L) (b:Nat) (hb:B[b]?=some (w,.rows 1 (eK (marks nd l))))
  (Z:(((((((((((n_.set 2 (J)).set 6 (.ptr X 1 0 0)).set 7 (.ptr W 1 0 0)).set 9 (.osl w 1 0 nd)).set 66 (.osl c 1 0 n)).set 67 (.int .i64 n)).set 68 (.int .i64 i)).set 75 (ints u)).set 76 (.int .i64 (Z' u:Nat))).set 77 (.int .i64 0))).le F)
  (hK:∀H',aR H' (B.set b (w,.rows 1 (eK (marks nd (l++u))))) L->K (.exit 4) ((((((((n_.set 2 (J)).set 6 (.ptr X 1 0 0)).set 7 (.ptr W 1 0 0)).set 9 (.osl w 1 0 nd)).set 66 (.osl c 1 0 n)).set 67 (.int .i64 n)).set 68 (.int .i64 i))) H') :
  aC.wp C (.loop c8) K F H:=by
 refine wp_loop (α:=Nat × PH) (λs=>((((((((((n_.set 2 (J)).set 6 (.ptr X 1 0 0)).set 7 (.ptr W 1 0 0)).set 9 (.osl w 1 0 nd)).set 66 (.osl c 1 0 n)).set 67 (.int .i64 n)).set 68 (.int .i64 i)).set 75 (ints u)).set 76 (.int .i64 (Z' u:Nat))).set 77 (.int .i64 s.1))) (λs=>s.2) (λs=>s.1<=Z' u/\aR s.2 (B.set b (w,.rows 1 (eK (marks nd (l++u.take s.1))))) L) (λs=>Z' u-s.1) (0,H) ⟨bhT _,?_⟩ Z b_ ?_
 ·rw[blF,bjI];have e:B.set b (w,.rows 1 (eK (marks nd l)))=B:=by obtain⟨h1,E⟩:=biZ.1 hb;rw[<-E,List.set_getElem_self]
  rw[e];exact x
 rintro⟨j,Y⟩ ⟨hj,x⟩;simp only at hj x;have M:b<Z' B:=(biZ.1 hb).1;have y:(B.set b (w,aY.rows 1 (eK (marks nd (l++u.take j)))))[b]?=some (w,.rows 1 (eK (marks nd (l++u.take j)))):=List.getElem?_set_self M;simp only[go_sem,c8,Ov];by_cases hlt:j<Z' u
 ·have p:(j:Int)<(Z' u:Nat):=Om;have R:(u.map λn=>[PV.int .i64 n])[j]?=some [.int .i64 u[j]]:=by simp[hlt]
  obtain⟨U,V⟩:=hu _ (bhS hlt);have S:u.take (j+1)=u.take j++[u[j]]:=bjF hlt;have O:(u[j]).toNat<(eK (marks nd (l++u.take j))).length:=by rw[LS,fw];omega
  have N:(eK (marks nd (l++u.take j)))[(u[j]).toNat]?=some [.bool ((l++u.take j).contains u[j])]:=by unfold eK;rw[biL,KF U V];rfl
  have Q:=x.at b y;have E:=x.set b y (.rows 1 (eK (marks nd (l++u.take (j+1)))));rw[List.set_set]at E;have A:=fx (l:=l++u.take j) U V;rw[biY,<-S]at A;simp only[go_sem,p,Ow,R,Ox,U,V,biN,Q,N,O,oQ,A,Oy,wZz j];exact aJ (j+1,Y.set w (.rows 1 (eK (marks nd (l++u.take (j+1)))))) ⟨hlt,E⟩ (by simp only;omega) Lq b_
 ·have p:¬(j:Int)<(Z' u:Nat):=Om;have:j=Z' u:=Om;subst this;rw[biS]at x;simp only[go_sem,p];exact Up.up Lq (hK Y x)
def scB(d i c e:Nat)(p:PV)(U:L2_)(s:List Nat)(nd:Nat)(l:List Int):List BX:=[(d,.rows 1 [[p]]),(i,.rows 1 [[lay U]]),(c,.rows 1 (bJ (cT s))),(e,.rows 1 (eK (marks nd l)))]
theorem arF{K:cF}[Up K](y p w c nd n:Nat)(B V:PV)(U:L2_)(hU:UOk nd U)(s:List Nat)(hs:Z' s=n)(Q:∀x∈s,x<Z' U)(hn:n<=1000){F:PF}{H:PH}{L:List LI}
  (l:aR H (scB p y c w V U s nd []) L)
  (Y:((((((((n_.set 2 (B)).set 6 (.ptr y 1 0 0)).set 7 (.ptr p 1 0 0)).set 9 (.osl w 1 0 nd)).set 66 (.osl c 1 0 n)).set 67 (.int .i64 n)).set 68 (.int .i64 0))).le F)
  (Z:∀H',aR H' (scB p y c w V U s nd (tB U s)) L->K (.exit 2) (((((n_.set 2 (B)).set 6 (.ptr y 1 0 0)).set 7 (.ptr p 1 0 0)).set 9 (.osl w 1 0 nd))) H') :
  aC.wp C (.loop c9) K F H:=by
 refine wp_loop (α:=Nat × PH) (λt=>(((((((n_.set 2 (B)).set 6 (.ptr y 1 0 0)).set 7 (.ptr p 1 0 0)).set 9 (.osl w 1 0 nd)).set 66 (.osl c 1 0 n)).set 67 (.int .i64 n)).set 68 (.int .i64 t.1))) (λt=>t.2) (λt=>t.1<=Z' s/\aR t.2 (scB p y c w V U s nd (tB U (s.take t.1))) L) (λt=>Z' s-t.1) (0,H) ⟨bhT _,l⟩ Y b_ ?_;rintro⟨i,X⟩ ⟨hi,l⟩;simp only at hi l;simp only[go_sem,c9,Oq];by_cases hlt:i<Z' s
 ·have d:(i:Int)<(n:Nat):=Om;have hc:=l.at 2 rfl;have O:=l.at 1 rfl;have M:=IM hlt;have N:i<(bJ (cT s)).length:=by rw[dN,jY];exact hlt
  have R:=Q s[i] (bhS hlt);have S:((s[i]:Nat):Int)<(Z' U:Nat):=Om;have e:=aoH U s hlt;have A:=hU.at_ U[s[i]] (bhS R);have J:U.getD s[i] []=U[s[i]]:=by simp[bhX,R]
  have E:(U.map λr=>[ints r])[s[i]]?=some [ints U[s[i]]]:=by simp[R]
  rw[J]at e;generalize U[s[i]]=u at *
  generalize s[i]=x at *
  simp only[go_sem,d,Ot,hc,M,N,biN,Ou,O,S,bhO,E];have one:=λ{K:cF} [Up K] {F:PF}=>aLZ (C:=C) (K:=K) y p w c nd n i B u A.1 A.2 (tB U (s.take i)) (F:=F) l 3 rfl;refine one (by(repeat' (first|exact c_|refine d_ ?_ ?_))<;>first|(simp only[go_sem,bhO]<;>rfl)|rfl) λH' W=>?_;rw[<-e]at W;simp only[go_sem,Oz,wZz i];exact aJ (i+1,H') ⟨hlt,W⟩ (by simp only;omega) Lq b_
 ·have d:¬(i:Int)<(n:Nat):=Om;have:i=Z' s:=Om;subst this;rw[biS]at l;simp only[go_sem,d];exact Up.up Lq (Z X l)
def scD(l:List Int)(k:Nat):List Int:=cT ((bhP k).filter λd=>l.contains (d:Int))
theorem aXJ(l:List Int)(k:Nat):scD l (k+1)=if l.contains (k:Int)then scD l k++[(k:Int)]else scD l k:=by
 unfold scD;rw[List.range_succ,List.filter_append,aWA];by_cases h:l.contains (k:Int)
 ·rw[aG h];simp[cT]at h ⊢;simp[h]
 ·rw[aE h];simp[cT]at h ⊢;simp[h]
theorem a4H(l:List Int)(k:Nat):(scD l k).length<=k:=by
 unfold scD;rw[jY];exact biQ (List.length_filter_le ..) bH
theorem Za{K:cF}[Up K](w u B c nd:Nat)(W:nd<=1000)(E J:PV)(U:L2_)(s:List Nat)(l:List Int){F:PF}{H:PH}{L:List LI}
  (i:aR H (scB u w c B J U s nd l) L)
  (R:((((((((n_.set 2 (E)).set 6 (.ptr w 1 0 0)).set 7 (.ptr u 1 0 0)).set 14 (.aK)).set 86 (.osl B 1 0 nd)).set 87 (.int .i64 nd)).set 88 (.int .i64 0))).le F)
  (S:∀v H',aR H' (scB u w c B J U s nd l) (L++[(v,1,bJ (scD l nd))])->K (.exit 6) (((((n_.set 2 (E)).set 6 (.ptr w 1 0 0)).set 7 (.ptr u 1 0 0)).set 14 (v))) H') :
  aC.wp C (.loop da) K F H:=by
 refine wp_loop (α:=Nat × PV × PH) (λt=>(((((((n_.set 2 (E)).set 6 (.ptr w 1 0 0)).set 7 (.ptr u 1 0 0)).set 14 (t.2.1)).set 86 (.osl B 1 0 nd)).set 87 (.int .i64 nd)).set 88 (.int .i64 t.1))) (λt=>t.2.2) (λt=>t.1<=nd/\aR t.2.2 (scB u w c B J U s nd l) (L++[(t.2.1,1,bJ (scD l t.1))])) (λt=>nd-t.1) (0,.aK,H) ⟨bhT _,i.qU 1⟩ R b_ ?_;clear i;rintro⟨k,v,M⟩ ⟨V,i⟩;simp only at V i;simp only[go_sem,da,O2];by_cases hlt:k<nd
 ·have e:(k:Int)<(nd:Nat):=Om;have y:=i.at 3 rfl;have d:=aXJ l k;have Q:=a4H l k;have x:k<(eK (marks nd l)).length:=by rw[LS,fw];exact hlt
  have p:(eK (marks nd l))[k]?=some [.bool (l.contains (k:Int))]:=by have:=KF (n:=nd) (l:=l) (m:=(k:Int)) Om e;rw[bjN]at this;unfold eK;rw[biL,this];rfl
  cases O:l.contains (k:Int)with
  |true=>
   rw[O]at p d;rw[aG rfl]at d;simp only[go_sem,e,db,y,p,x,biN,dd,O3];refine i.append L.length (rows:=bJ (scD l k)) (src:=[[.int .i64 k]]) (Lc _ _ _ rfl) Sq (by unfold roomFor;rw[dN];simp only[biC,maxLen];omega) λv' H' N _=>?_;have A:bJ (scD l k)++[[.int .i64 k]]=bJ (scD l (k+1)):=by rw[d,JY];rfl
   rw[A,blC _ _ (bhV _),bkR]at N;simp only[go_sem,de,wZz k];exact aJ (k+1,v',H') ⟨hlt,N⟩ (by simp only;omega) Lq b_
  |false =>rw[O]at p d;rw[aE aS]at d;rw[<-d]at i;simp only[go_sem,e,db,y,p,x,biN,dd,de,wZz k];exact aJ (k+1,v,M) ⟨hlt,i⟩ (by simp only;omega) Lq b_
 ·have e:¬(k:Int)<(nd:Nat):=Om;have:k=nd:=Om;subst this;simp only[go_sem,e];exact Up.up Lq (S v M i)
def gJ(f:aD)(lv cnt:Int):Int:=if dC f&&(decide (1<=lv)&&decide (lv<=5)&&decide (1<=cnt)&&decide (cnt<=3))then(if 12<Z' f.bgD\/512<gU ((kJ f lv).length:Nat) cnt.toNat then 2 else 0)else 1
def gP(f:aD)(lv cnt:Int):L2_:=if gJ f lv cnt=0 then xH f (kJ f lv) cnt.toNat else[]
structure Xl(C:Ctx):Prop extends Xk C where
 val:∀f:aD,f.Ok->aH C 96 [.agg f.cells] .nil (aI (.int .i64 (uR f)))
 units:∀(f:aD)(lv:Int),VF f->1<=lv->lv<=5->aH C 206 [.agg f.cells,.int .i64 lv] .nil (aI (lay (kJ f lv)))
 choose:∀m n:Nat,m<=1000->n<=3->aH C 207 [.int .i64 m,.int .i64 n] .nil (aI (.int .i64 (max (gU m n) 0)))
theorem YX{f:aD}(hV:VF f)(lv:Int):UOk f.bgD.length (kJ f lv)/\(kJ f lv).length<=40:=by
 have E:=hV.small.bgD;have w:=hV.small.bgG;by_cases c:lv=5
 ·subst c;rw[Ul];refine⟨⟨by simp;omega,λu l=>?_⟩,by simp;omega⟩;obtain⟨d,e,rfl⟩:=biJ.1 l;rw[biM]at e;refine⟨by simp,λx p=>?_⟩;rw[bjH]at p;omega
 ·rw[aoI f c];have A:(uE f lv f.bgD.length).length<=40:=by rw[Ht];exact biQ (List.length_filter_le ..) (by simp;omega)
  refine⟨⟨by omega,λu l=>?_⟩,A⟩;obtain⟨i,-,rfl⟩:=biJ.1 l;refine⟨by rw[jY];have:=Ea f lv f.bgD.length i;omega,λx p=>?_⟩;obtain⟨y,B,rfl⟩:=biJ.1 p;have:=biM.1 (bkU.1 B).1;omega
theorem a7N(U:L2_)(s:List Nat)(nd:Nat):scD (tB U s) nd=cT ((bhP nd).filter (wP U s)):=by
 unfold scD;congr 2;funext d;exact asL U s d
instance upDone{R:PH->Prop}:Up (MF R):=⟨λ{e F d H} _ h=>by cases e<;>exact h⟩
def Xz(e i:Nat)(U:L2_)(l:L2_)(G:PH):Prop:=∃d ps,aR G [(e,.rows 1 [[d]]),(i,.rows 1 [[lay U]])] (jI d ps)/\wls ps=l
theorem arG(f:aD)(hV:VF f)(U:L2_)(hU:UOk f.bgD.length U)(W:Z' U<=40)(n:Nat)(α:1<=n)(hn:n<=3)(A l:Nat)(F:PF)(f2:F 2=some (.bK f.cells))(f6:F 6=some (.ptr A 1 0 0))(f7:F 7=some (.ptr l 1 0 0))(k:Nat)(X:k<(eT U.length n 0).length)(G:PH)(c:Nat)
  (hI:Xz l A U (((eT U.length n 0).take k).map λs=>cT ((bhP f.bgD.length).filter (wP U s))) G) (hc:G c=none) :
  cz.wp C (kB C (c7.wp C) (MF (Xz l A U (((eT U.length n 0).take (k+1)).map λs=>cT ((bhP f.bgD.length).filter (wP U s)))))) (F.set 61 (.osl c 1 0 n)) (G.set c (.rows 1 (bJ (cT (eT U.length n 0)[k])))):=by
 obtain⟨p,ps,hH,Y⟩:=hI;have w:=hV.small;have J:(Z' f.bgD:Int)*((1:Nat):Int)<=140737488355328:=by have:=w.bgD;omega
 have M:(Z' f.bgD:Int)<=9223372036854775807:=by have:=w.bgD;omega
 have d:(0:Int)<=(Z' f.bgD:Int):=Om;have O:=zJ U.length n 0 _ (bhS X);have Q:(eT U.length n 0).take (k+1)=(eT U.length n 0).take k++[(eT U.length n 0)[k]]:=bjF X;have β:Z' ps<=1099511627776:=by
  rw[<-SW,Y,bhO,biI];have h1:=KW U.length n 0;have S:2^(Z' U-0)<=2^40:=blS Om Om;have e:(2:Nat)^40=1099511627776:=by decide
  omega
 generalize(eT U.length n 0)[k]=s at *
 obtain⟨sl,E,-⟩:=O;rw[Q,biV,<-Y];have S:=hH.new hc (.rows 1 (bJ (cT s)));simp only[go_sem,cz,Zi,c7,Zj,f2,bhO,J,M,d,Int.le_refl,bjN];refine aQ λR N=>?_;rw[cj];have h3:=S.new N (.rows 1 (eK (marks f.bgD.length [])));simp only[go_sem,Oo];have mk:=λ{K:cF} [Up K] {F:PF} {H:PH}=>arF (C:=C) (K:=K) A l R c f.bgD.length n (.bK f.cells) p U hU s sl (λx hx=>(E x hx).2) Om (F:=F) (H:=H) (L:=jI p ps);refine mk h3 (by(repeat' (first|exact c_|refine d_ ?_ ?_))<;>first|(simp only[go_sem,f2,f6,f7]<;>rfl)|rfl) λH1 h4=>?_;simp only[go_sem,O0,O1];have Z:=λ{K:cF} [Up K] {F:PF} {H:PH}=>Za (C:=C) (K:=K) A l R c f.bgD.length (by have:=w.bgD;omega) (.bK f.cells) p U s (tB U s) (F:=F) (H:=H) (L:=jI p ps);refine Z h4 Lq λv H2 h5=>?_;have V:=h5.own (jI p ps).length (Lc _ _ _ rfl);have B:=h5.at 0 rfl;rw[a7N]at h5 V;generalize hD:cT ((bhP f.bgD.length).filter (wP U s))=D at *
 have fin:∀(i:Nat)(H':PH),aR H' (scB l A c R p U s f.bgD.length (tB U s)) ((jI p ps++[(v,1,bJ D)]).set 0 (PV.osl i 1 0 (fE ps++[[v]]).length,1,fE ps++[[v]]))->Xz l A U (wls ps++[D]) (H'.set l (.rows 1 [[PV.osl i 1 0 (fE ps++[[v]]).length]])):=by
  intro i H' u;have h7:=u.set 0 rfl (aY.rows 1 [[PV.osl i 1 0 (fE ps++[[v]]).length]]);refine⟨PV.osl i 1 0 (fE ps++[[v]]).length,ps++[(v,D)],?_,?_⟩
  ·have e:jI (PV.osl i 1 0 (fE ps++[[v]]).length) (ps++[(v,D)])=(jI p ps++[(v,1,bJ D)]).set 0 (PV.osl i 1 0 (fE ps++[[v]]).length,1,fE ps++[[v]]):=by unfold jI fE vK;rw[biV,biV];rfl
   rw[e];exact(h7.tM 3).tM 2
  ·unfold wls;rw[biV];rfl
 have room:roomFor (fE ps).length 1 24:=by unfold roomFor;rw[tF];simp only[maxLen];omega
 rcases V with⟨-,rfl⟩|⟨q,rs,rfl,-,-,-⟩
 ·simp only[go_sem,df,B,biG,biO,or_false,forall_eq];refine h5.append 0 (rows:=fE ps) (src:=[[PV.aK]]) rfl Sq room λv' H' u y=>?_;obtain⟨i,rfl⟩:=y bH;have d:=u.at 0 rfl;simp only[go_sem,d,biG,biO,or_false,forall_eq];exact fin i H' u
 ·simp only[go_sem,df,B,biG,biO,or_false,forall_eq];refine h5.append 0 (rows:=fE ps) (src:=[[PV.osl q 1 0 (bJ D).length]]) rfl Sq room λv' H' u y=>?_;obtain⟨i,rfl⟩:=y bH;have d:=u.at 0 rfl;simp only[go_sem,d,biG,biO,or_false,forall_eq];exact fin i H' u
abbrev rN(lv cnt:Int):PV:=.agg [.int .i64 lv,.int .i64 cnt]
theorem Zb(E:Xl C)(J K:Code)(f:aD)(hf:f.Ok)(lv cnt:Int) :
  (TU J K).wp C (aZ (aFQ J K).res (cM (.tup [lay (gP f lv cnt),.int .i64 (gJ f lv cnt)]))) (g_ [.agg f.cells,rN lv cnt]) .nil:=by
 have hB:gP f lv cnt=if gJ f lv cnt=0 then xH f (kJ f lv) cnt.toNat else[]:=rfl
 have N:gJ f lv cnt=if dC f&&(decide (1<=lv)&&decide (lv<=5)&&decide (1<=cnt)&&decide (cnt<=3))then(if 12<Z' f.bgD\/512<gU ((kJ f lv).length:Nat) cnt.toNat then 2 else 0)else 1:=rfl
 have hv:=E.val f hf;unfold uR at hv;have bad:∀(e:Int)(F:PF)(H:PH),e≠0->gJ f lv cnt=e->F 4=some .aK->F 5=some (.int .i64 e)->aZ [.tmp 4,.tmp 5] (cM (.tup [lay (gP f lv cnt),.int .i64 (gJ f lv cnt)])) .ret F H:=by intro e F H he d h2 h3;rw[d,aE he]at hB;rw[hB,d];exact MZ (H:=H) (.inr rfl) (by simp only[go_sem,h2,h3]) (show aR H [] (jI .aK [])from aR.mq aR.nil)
 have W:(dC f&&(decide (1<=lv)&&decide (lv<=5)&&decide (1<=cnt)&&decide (cnt<=3)))=false->gJ f lv cnt=1:=λh=>by rw[N,h];rfl
 simp only[go_sem,TU,wI.wp,Zc,Zd,aFQ];refine aB hv Ev ?_;cases hp:dC f with
 |false =>have d:=W (by rw[hp];rfl);simp only[go_sem,dX (show(1:Int)≠0 by decide),CS];exact bad 1 _ _ aS d Sq Sq
 |true=>
  have hV:=VF.of hp;by_cases M:lv<1
  ·have d:=W (by rw[bG (Om:¬1<=lv)];simp);simp only[go_sem,cN (show(0:Int)=0 from rfl),M,CS];exact bad 1 _ _ aS d Sq Sq
  by_cases c2:lv>5
  ·have d:=W (by rw[bG (Om:¬lv<=5)];simp);simp only[go_sem,cN (show(0:Int)=0 from rfl),M,c2,CS];exact bad 1 _ _ aS d Sq Sq
  by_cases c3:cnt<1
  ·have d:=W (by rw[bG (Om:¬1<=cnt)];simp);simp only[go_sem,cN (show(0:Int)=0 from rfl),M,c2,c3,CS];exact bad 1 _ _ aS d Sq Sq
  by_cases c4:cnt>3
  ·have d:=W (by rw[bG (Om:¬cnt<=3)];simp);simp only[go_sem,cN (show(0:Int)=0 from rfl),M,c2,c3,c4,CS];exact bad 1 _ _ aS d Sq Sq
  obtain⟨n,rfl⟩:∃n:Nat,cnt=n:=⟨cnt.toNat,by omega⟩;rw[hp,bA (Om:1<=lv),bA (Om:lv<=5),bA (Om:(1:Int)<=(n:Int)),bA (Om:(n:Int)<=3),bkO,bkO,bkO,bkO,aG rfl,bjN]at N;rw[bjN]at hB;obtain⟨hU,Q⟩:=YX hV lv;have u:=E.units f lv hV Om Om;generalize kJ f lv=U at *
  simp only[go_sem,cN (show(0:Int)=0 from rfl),M,c2,c3,c4,Ze];refine aB u Ev ?_;simp only[go_sem];refine aQ λl γ=>?_;simp only[go_sem,Zf,bhO];by_cases c5:12<Z' f.bgD
  ·have d:gJ f lv n=2:=by rw[N,aG (.inl c5)]
   simp only[go_sem,show(Z' f.bgD:Int)>12 by omega,ux];exact bad 2 _ _ aS d Sq Sq
  simp only[go_sem,show ¬(Z' f.bgD:Int)>12 by omega];refine aB (E.choose U.length n Om Om) Ev ?_;by_cases c6:512<gU (Z' U:Nat) n
  ·have d:gJ f lv n=2:=by rw[N,aG (.inr c6)]
   simp only[go_sem,show max (gU (Z' U:Nat) n) 0>512 by omega,ux];exact bad 2 _ _ aS d Sq Sq
  have d:gJ f lv n=0:=by rw[N,aE (λh=>h.elim c5 c6)]
  rw[d,aG rfl]at hB;rw[hB,d];simp only[go_sem,show ¬max (gU (Z' U:Nat) n) 0>512 by omega,Zg];refine aQ λi B=>?_;have ε:¬i=l:=by rintro rfl;rw[cZ]at B;cases B
  have w:¬l=i:=λe=>ε e.symm;simp only[go_sem,Zh,w,bhO];refine nE (E.subs n U.length) Sq a_ ?_;rintro r H' ⟨o1,o2,A,rfl,rfl⟩ β;have Z:∀o x,(((h_.set o1 (.rows 1 [[.int .i64 n]])).set o2 (.rows 1 [[.int .i64 (Z' U:Nat)]])):PH) o=some x->¬i=o/\¬l=o:=λo x h=>by
   have:=β o x h rfl;refine⟨λe=>?_,λe=>?_⟩
   ·rw[<-e,cZ]at this;cases this
   ·rw[<-e,bC,aE w,cZ]at this;cases this
  obtain⟨S,X⟩:=Z o1 _ (by rw[bC,aE A,cZ]);obtain⟨V,Y⟩:=Z o2 _ (by rw[cZ]);simp only[go_sem];generalize O:PF.set _ 60 _=F;have f2:F 2=some (.bK f.cells):=by rw[<-O];simp only[go_sem]
  have f6:F 6=some (.ptr l 1 0 0):=by rw[<-O];simp only[go_sem]
  have f7:F 7=some (.ptr i 1 0 0):=by rw[<-O];simp only[go_sem]
  have ζ:F 60=some (.fn 211 [.ptr o1 1 0 0,.ptr o2 1 0 0]):=by rw[<-O];simp only[go_sem]
  clear O;have y:xH f U n=((eT U.length n 0).take (eT U.length n 0).length).map λs=>cT ((bhP f.bgD.length).filter (wP U s)):=by rw[biS];rfl
  have p:aR ((h_.set l (.rows 1 [[lay U]])).set i (.rows 1 [[.aK]])) [(i,.rows 1 [[.aK]]),(l,.rows 1 [[lay U]])] (jI .aK []):=((((aR.nil (H:=h_)).new γ _).new B _).perm (List.Perm.swap _ _ _) (List.Perm.refl _)).mq;refine⟨211,[.ptr o1 1 0 0,.ptr o2 1 0 0],Xz i l U (xH f U n),rfl,λhY=>?_,λH2 α=>?_⟩
  ·rw[y];refine Ec (m:=104) (t:=61) E.tozu rfl Om Om Om A (λk=>Xz i l U (((eT U.length n 0).take k).map λs=>cT ((bhP f.bgD.length).filter (wP U s)))) ((h_.set l (.rows 1 [[lay U]])).set i (.rows 1 [[.aK]])) ⟨.aK,[],p,rfl⟩ ?_ ?_ ?_ ?_ ?_ hY λk hk G c hI hc=>arG f hV U hU Q n Om Om l i F f2 f6 f7 k hk G c hI hc
   ·intro o x R;rw[lO];have e1:¬o=o1:=λe=>by rw[e,bC,aE (λh=>S h.symm),bC,aE (λh=>X h.symm)]at R;cases R
    have e2:¬o=o2:=λe=>by rw[e,bC,aE (λh=>V h.symm),bC,aE (λh=>Y h.symm)]at R;cases R
    have:((h_.set o1 (.rows 1 [[.int .i64 n]])).set o2 (.rows 1 [[.int .i64 (Z' U:Nat)]]):PH) o=none:=by rw[bC,aE e2,bC,aE e1];rfl
    rw[this];exact R
   ·rw[lO];simp only[bC,aE A,if_true]
   ·rw[lO];simp only[bC,if_true]
   ·rw[bC,aE (λe=>S e.symm),bC,aE (λe=>X e.symm)];rfl
   ·rw[bC,aE (λe=>V e.symm),bC,aE (λe=>Y e.symm)];rfl
  ·obtain⟨vo,ps,hH,δ⟩:=α;have hb:=hH.at 0 rfl;simp only[go_sem,Cs,O4,f7,hb];rw[<-δ];exact MZ (.inr rfl) Sq ((hH.tM 0).tM 0)
theorem NS{set:List Int}{n top:Int}(h:qL set n top=true):set.Pairwise (· < ·):=by
 unfold qL at h;simp only[bhQ,dT_,biB,biM]at h;have e:∀i (hi:i+1<Z' set),set[i]<set[i+1]:=by
  intro i hi;have:=h.2 (i+1) hi;unfold qX at this;have g1:set.getD (i+1) 0=set[i+1]:=by simp[bhX,hi]
  have g2:set.getD (i+1-1) 0=set[i]:=by simp[bhX,show i<set.length by omega]
  rw[g1,g2]at this;simp only[bhQ,blI,dT_]at this;rcases this.2 with h|h
  ·omega
  ·exact h
 rw[List.pairwise_iff_getElem];intro i j hi w l;obtain⟨d,rfl⟩:∃d,j=i+1+d:=⟨j-i-1,by omega⟩;clear l
 induction d with
 |zero=>exact e i w
 |succ d x =>have p:=x Om;have u:=e (i+1+d) Om;exact Int.lt_trans p u
theorem qq{l:List Nat}(h:l.Pairwise (· < ·)):(cT l).Pairwise (· < ·):=by
 unfold cT;rw[List.pairwise_map];exact h.imp λh=>by omega
theorem yd{f:aD}(hV:VF f)(U:L2_)(p:Z' U<=40)(n:Nat):(xH f U n).length<=1099511627776/\∀s∈xH f U n,Z' s<=24/\s.Pairwise (· < ·):=by
 have u:=hV.small.bgD;unfold xH;constructor
 ·rw[bhO];have i:=KW U.length n 0;have l:2^(Z' U-0)<=2^40:=blS Om Om;have e:(2:Nat)^40=1099511627776:=by decide
  omega
 ·intro s d;obtain⟨t,-,rfl⟩:=biJ.1 d;refine⟨?_,qq (List.pairwise_lt_range.filter _)⟩;rw[jY];exact biQ (List.length_filter_le ..) (by simp;omega)
def sJ(f:aD)(bgP:Int)(set:List Int)(lv cnt:Int):Int:=if gJ f lv cnt≠0 then gJ f lv cnt else if sB f bgP set then 0 else 1
def rU(f:aD)(bgP:Int)(set:List Int)(lv cnt:Int):Nat:=if sJ f bgP set lv cnt=0 then oK (gP f lv cnt) set (dW f bgP).m else 0
structure aLC(C:Ctx):Prop extends Xl C where
 DK:∀(f:aD)(lv cnt:Int),f.Ok->aH C 230 [.agg f.cells,rN lv cnt] .nil (aI (.tup [lay (gP f lv cnt),.int .i64 (gJ f lv cnt)]))
 loss:∀(sc:L2_) (set:List Int) (m:Int),Z' sc<=1000000000000000->(∀s∈sc,Z' s<=1000000000000000/\s.Pairwise (· < ·))->Z' set<=1000000000000000->set.Pairwise (· < ·)->aH C 208 [lay sc,ints set,.int .i64 m] .nil (aI (.int .i64 (oK sc set m:Nat)))
structure aLB(C:Ctx):Prop extends aLC C where
 admis:∀(f:aD)(bgP:Int)(set:List Int),f.Ok->Z' set<=1000000000000000->aH C 204 [.agg f.cells,.int .i64 bgP,ints set] .nil (aI (.bool (sB f bgP set)))
theorem aFH(l:aLB C)(f:aD)(w:f.Ok)(bgP:Int)(set:List Int)(x:Z' set<=1000000000000000)(lv cnt:Int) :
  JF.wp C (aZ Kg.res (aI (.tup [.int .i64 (rU f bgP set lv cnt:Nat),.int .i64 (sJ f bgP set lv cnt)]))) (g_ [.agg f.cells,.int .i64 bgP,ints set,rN lv cnt]) .nil:=by
 have hB:rU f bgP set lv cnt=if sJ f bgP set lv cnt=0 then oK (gP f lv cnt) set (dW f bgP).m else 0:=rfl
 have d:sJ f bgP set lv cnt=if gJ f lv cnt≠0 then gJ f lv cnt else if sB f bgP set then 0 else 1:=rfl
 simp only[go_sem,JF,A8,A9,Kg];refine aB (l.DK f lv cnt w) Ev ?_;by_cases c:gJ f lv cnt≠0
 ·rw[aG c]at d;rw[d,aE c]at hB;simp only[go_sem,TJ,dX c,Ba];refine aT (.inr rfl) Ev ?_;rw[hB,d];rfl
 have c:gJ f lv cnt=0:=Decidable.not_not.1 c;rw[aE (λh=>h c)]at d;simp only[go_sem,TJ,c,cN (show(0:Int)=0 from rfl),Bb];refine aB (l.admis f bgP set w x) Ev ?_;cases e:sB f bgP set with
 |false =>rw[e,aE aS]at d;rw[d,aE aS]at hB;simp only[go_sem,biF,Bc];refine aT (.inr rfl) Ev ?_;rw[hB,d];rfl
 |true=>
  rw[e,aG rfl]at d;rw[d,aG rfl]at hB;have hp:lC f bgP=true/\qL set (mY (dW f bgP)) f.bgD.length=true:=by unfold sB at e;simp only[bhQ]at e;exact⟨e.1,e.2.1⟩
  obtain⟨hV,A,F,E⟩:=vM hp.1;obtain⟨B,p⟩:=EU hp.1;have i:(f.bgH.map cE.cells)[bgP.toNat]?=some (dW f bgP).cells:=by rw[biL,p];rfl
  have hlt:bgP<(Z' f.bgH:Nat):=Om;have u:gP f lv cnt=xH f (kJ f lv) cnt.toNat:=by unfold gP;rw[aG c]
  obtain⟨k1,k2⟩:=yd hV (kJ f lv) (YX hV lv).2 cnt.toNat;rw[<-u]at k1 k2;simp only[go_sem,bhZ,Be,A,hlt,bhO,i];refine aB (l.loss (gP f lv cnt) set (dW f bgP).m Om (λs y=>⟨by have:=(k2 s y).1;omega,(k2 s y).2⟩) x (NS hp.2)) Ev ?_;simp only[go_sem];refine aT (.inr rfl) Ev ?_;rw[hB,d];rfl
def FR.got:FR->FV
 | .ok x=>x
 | .error _=>(false,0,0)
def FR.err:FR->Int
 | .ok _=>0
 | .error e=>e
theorem l8(r:FR):frV r=.tup [.agg r.got.rf.cells,.int .i64 r.err]:=by
 rcases r with e|⟨n,a,b⟩
 ·show frV (.error e)=.tup [.agg (eZ false (aL 0) (aL 0)),.int .i64 e];rw[fG];rfl
 ·rfl
def aiA:FV->FV
 |(n,a,b)=>(!n,a,b)
def KV(x y:FV):FR:=gY x (aiA y)
def Cst(j:Nat)(x:FV):Prop:=x.2.2≠0/\nl x.2.1<=2+9*j/\nl x.2.2<=1+8*j
theorem a2P{neg:Bool}{a b m n:Nat}(hb:b≠0)(d:nl a<=m)(e:nl b<=n)(l:m<=128)(p:n<=128):∃x,jP neg a b=.ok x/\x.2.2≠0/\nl x.2.1<=m/\nl x.2.2<=n:=by
 have u:=(jT (a/bhR a b) 128).2 (biQ (yC _ d) l);have e2:=(jT (b/bhR a b) 128).2 (biQ (yC _ e) p);unfold jP;rw[aE Om];refine⟨_,rfl,?_,yC _ d,yC _ e⟩;have i:0<bhR a b:=Nat.gcd_pos_of_pos_right _ Om;have:=Nat.div_pos (Nat.le_of_dvd Om (Nat.gcd_dvd_right a b)) i;show b/bhR a b≠0;omega
theorem a4Q{j:Nat}{x y:FV}(B:Cst j x)(N:j<=12)(E:y.2.2≠0/\nl y.2.1<=8/\nl y.2.2<=8):∃r,KV x y=.ok r/\Cst (j+1) r:=by
 obtain⟨Q,a1,b1⟩:=x;obtain⟨R,a2,b2⟩:=y;obtain⟨e,l,i⟩:=B;obtain⟨g1,g2,g3⟩:=E;simp only at e l i g1 g2 g3;have K:cC a1 b1=true:=eY.2 ⟨e,by omega,by omega⟩;have M:cC a2 b2=true:=eY.2 ⟨g1,by omega,by omega⟩;have F:=mJ l g3;have H:=mJ g2 i;have J:=mJ i g3;have p:b1*b2≠0:=Nat.mul_ne_zero e g1;have d:∀neg A,nl A<=2+9*j+8+1->∃r,jP neg A (b1*b2)=.ok r/\Cst (j+1) r:=by intro neg A u;obtain⟨r,w,k1,k2,O⟩:=a2P (neg:=neg) p u J Om Om;exact⟨r,w,k1,by omega,by omega⟩
 unfold KV aiA;simp only[gY,K,M,bkO,if_true];have s1:=Ge (m:=2+9*j+8) F (biQ H Om);have s2:=jL (Om:a1*b2-a2*b1<=a1*b2);have s3:=jL (Om:a2*b1-a1*b2<=a2*b1);split
 ·exact d _ _ s1
 ·split
  ·exact d _ _ Om
  ·exact d _ _ Om
def jC(prices:List RF)(d:Int):FV:=(prices.map RF.v).getD d.toNat (false,0,1)
def rJ(prices:List RF)(n:Nat)(l:List Int):FV:=l.foldl (λc d=>(KV c (jC prices d)).got) (false,n,1)
theorem FU(prices:List RF)(n:Nat)(l:List Int)(d:Int):rJ prices n (l++[d])=(KV (rJ prices n l) (jC prices d)).got:=by
 unfold rJ;rw[List.foldl_append];rfl
def Modest(prices:List RF):Prop:=∀x∈prices,val x.den≠0/\nl (val x.num)<=8/\nl (val x.den)<=8
theorem arY{prices:List RF}(h:Modest prices)(d:Int):(jC prices d).2.2≠0/\nl (jC prices d).2.1<=8/\nl (jC prices d).2.2<=8:=by
 unfold jC;rw[bhX];cases e:(prices.map RF.v)[d.toNat]? with
 |none=>
  refine⟨Nat.one_ne_zero,?_,?_⟩
  ·show nl 0<=8;rw[nl,fG];simp
  ·show nl 1<=8;rw[nl,oW];simp
 |some x =>obtain⟨y,i,rfl⟩:=biJ.1 (bjQ e);exact h y i
theorem Yz{prices:List RF}(h:Modest prices){n:Nat}(A:n<18446744073709551616)(l:List Int)(i:Z' l<=12):Cst l.length (rJ prices n l):=by
 obtain⟨r,rfl⟩:∃r,l=List.reverse r:=⟨l.reverse,by simp⟩
 induction r with
 |nil=>
  refine⟨Nat.one_ne_zero,?_,?_⟩
  ·exact biQ (jM (n:=n) (k:=2) Om) Om
  ·show nl 1<=_;rw[nl,oW];simp
 |cons d r y=>
  rw[List.reverse_cons]at i ⊢;have u:Z' r.reverse+1<=12:=by simpa using i
  have p:=y Om;rw[FU];obtain⟨x,w,e⟩:=a4Q p Om (arY h d);rw[w,bhW];exact e
def pH(x y:FV):Int:=sU x.1 x.2.1 x.2.2 y.1 y.2.1 y.2.2
def MW{α:Type}(d:α->FV):Option α->α->Option α
 |none,s=>some s
 |some b,s=>if pH (d s) (d b)<0 then some s else some b
def pB{α:Type}(d:α->FV)(l:List α):Option α:=l.foldl (MW d) none
theorem ce{α:Type}(d:α->FV)(l:List α)(s:α):pB d (l++[s])=MW d (pB d l) s:=by
 unfold pB;rw[List.foldl_append];rfl
def gW(x:RF):Bool:=match oZ x with
 | .ok (_,a,b)=>decide (nl a<=2)&&decide (nl b<=2)
 | .error _=>false
def uD(f:aD)(bgP lv cnt:Int)(prices:List RF):Int:=
 if gJ f lv cnt≠0 then gJ f lv cnt
 else if(decide (0<=bgP)&&decide (bgP<Z' f.bgH))&&(decide (Z' prices=Z' f.bgD)&&prices.all gW)then(if jZ f (dW f bgP)=[]then 12 else 0)else 1
def tQ(f:aD)(bgP lv cnt:Int)(prices:List RF)(set:List Int):FV:=rJ prices (oK (gP f lv cnt) set (dW f bgP).m) set
def yE(f:aD)(bgP lv cnt:Int)(prices:List RF):Option (List Int):=if uD f bgP lv cnt prices=0 then pB (tQ f bgP lv cnt prices) (jZ f (dW f bgP))else none
def vZ(f:aD)(bgP lv cnt:Int)(prices:List RF):PV:=.tup [ints ((yE f bgP lv cnt prices).getD []),.agg ((yE f bgP lv cnt prices).elim (FV.rf (false,0,0)) λs=>(tQ f bgP lv cnt prices s).rf).cells,.int .i64 (uD f bgP lv cnt prices)]
def BI:FV->FV->FR
 |(d,a1,b1),(e,a2,b2)=>if cC a1 b1&&cC a2 b2 then jP (d != e) (a1*a2) (b1*b2)else .error 1
theorem a3C{x y r:FV}(h:BI x y=.ok r):r.rf.Ok:=by
 obtain⟨d,a1,b1⟩:=x;obtain⟨e,a2,b2⟩:=y;simp only[BI]at h;split at h
 ·exact(wY h).2
 ·cases h
theorem Ni:(FV.rf (false,0,0)).Ok:=by
 have h:FV.rf (false,0,0)=⟨false,[],[]⟩:=by show RF.mk false (aL 0) (aL 0)=_;rw[fG]
 rw[h];exact⟨λx d=>(biO d).elim,λx d=>(biO d).elim,bhT _,bhT _⟩
theorem a6P(x y:FV):(BI x y).got.rf.Ok:=by
 cases h:BI x y with
 |ok r=>exact a3C h
 |error e=>exact Ni
theorem aLG(x y:FV):(gY x y).got.rf.Ok:=by
 cases h:gY x y with
 |ok r=>exact lg h
 |error e=>exact Ni
def BP(s x:FV)(n:Nat):FV:=(gY s (BI x (false,n,1)).got).got
theorem a3X(s x:FV)(n:Nat):(BP s x n).rf.Ok:=aLG _ _
def oI(s:FV):List FV->List Nat->FV
 |x::xs,n::ns=>oI (BP s x n) xs ns
 |_,_=>s
def pU(f:aD):List Int:=jK f.bgH.length (f.bgF.map eG.bgP)
def jD(l:List RF)(n:Nat):Bool:=l.all gW&&decide (Z' l=n)
def vI(f:aD)(room:List Int)(a b:List RF):FV:=oI (oI (false,0,1) (a.map RF.v) ((pU f).map bjA)) (b.map RF.v) ((kW f room).map bjA)
def JB(f:aD)(a b:List RF):Bool:=dC f&&(jD a f.bgH.length&&jD b f.bgD.length)
def RU(f:aD)(room:List Int)(a b:List RF):PV:=
 if JB f a b then .tup [.agg (vI f room a b).rf.cells,.int .i64 0]else .tup [.agg (eZ false [] []),.int .i64 1]
def JG(x y:FV):Int:=if cC x.2.1 x.2.2&&cC y.2.1 y.2.2 then sU x.1 x.2.1 x.2.2 y.1 y.2.1 y.2.2 else 0
theorem aTS(x y:FV):wQ x.1 x.2.1 x.2.2 y.1 y.2.1 y.2.2=.tup [.int .i64 (JG x y),.int .i64 (if cC x.2.1 x.2.2&&cC y.2.1 y.2.2 then 0 else 1)]:=by
 unfold wQ JG;split<;>rfl
def yB(f:aD)(bgP lv cnt:Int)(b:List RF):FV:=(yE f bgP lv cnt b).elim (false,0,0) (tQ f bgP lv cnt b)
theorem aPC(f:aD)(bgP lv cnt:Int)(b:List RF):vZ f bgP lv cnt b=.tup [ints ((yE f bgP lv cnt b).getD []),.agg (yB f bgP lv cnt b).rf.cells,.int .i64 (uD f bgP lv cnt b)]:=by
 unfold vZ yB;cases yE f bgP lv cnt b<;>rfl
theorem a0U(b:List RF)(n:Nat)(i:n<=9223372036854775807)(l:List Int):(rJ b n l).rf.Ok:=by
 obtain⟨r,rfl⟩:∃r,l=List.reverse r:=⟨l.reverse,by simp⟩;cases r with
 |nil=>
  have e:nl n<=2:=jM Om;refine⟨aX _,aX _,?_,?_⟩
  ·show(aL n).length<=_;rw[bF];omega
  ·show(aL 1).length<=_;rw[oW];simp
 |cons d r =>rw[List.reverse_cons,FU];exact aLG _ _
theorem mj(sc:L2_)(set:List Int)(m:Int):oK sc set m<=Z' sc:=by
 unfold oK;exact List.countP_le_length ..
def BB(y:RF):Bool:=!decide (JG y.v (false,0,1)>0)
def PS(f:aD)(lv cnt:Int)(a b:List RF)(p:Nat):Bool:=decide ((pU f).getD p 0=0)||!(decide (uD f p lv cnt b=0)&&decide (JG (yB f p lv cnt b) ((a.map RF.v).getD p (false,0,1))<0))
def zW(f:aD)(lv cnt:Int)(a b:List RF):Bool:=
 (decide (gJ f lv cnt=0)&&(jD a f.bgH.length&&jD b f.bgD.length))&&(b.all BB&&(bhP f.bgH.length).all (PS f lv cnt a b))
def iW:=bT [4] Proofs.Tryz.f10
def N0:=aA iW 0
def N1:=aA iW 1
def LW:=aA iW 2
def N2:=aA iW 3
def N3:=aA iW 4
def N4:=aA iW 5
def N5:=aA iW 6
def N6:=cV iW 0
def N7:=aA iW 7
def Nz:aC:=(fI N4 40 0 N7 (sq N5 (.draw N6)))
def Ao:=aA iW 8
def Ap:=aA iW 9
def Aq:=aA iW 10
def Ar:=cV iW 1
def As:=aA iW 11
def An:aC:=(fI Ap 57 2 As (sq Aq (.draw Ar)))
def Au:=aA iW 12
def NX:aC:=(sq N0 (dP N1 33 LW (sq N2 (.seq (cH N3 0 Nz) (.seq (cH Ao 2 An) (sq Au .ret))))))
def Ym:bD:=⟨4,70,NX,[.cell 8 (some 3),.tmp 9]⟩
def oR:=bT [] Proofs.Tryz.f21
def Cj:=aA oR 0
def Ck:=aA oR 1
def Cl:=aA oR 2
def Cm:=aA oR 3
def Cn:=aA oR 4
def Cp:=aA oR 5
def Cq:=aA oR 6
def Ch:aC:=(fI Cl 10 0 Cq (sq Cm (sq Cn (.cond (Tm 15) (sq Cp .ret) .skip))))
def Cr:=aA oR 7
def JN:aC:=(sq Cj (.seq (cH Ck 0 Ch) (sq Cr .ret)))
def Ko:bD:=⟨2,21,JN,[.tmp 4]⟩
def JJ:=bT [] Proofs.Tryz.f23
def Bh:=aA JJ 0
def Bi:=aA JJ 1
def Bj:=aA JJ 2
def JI:aC:=(sq Bh (sq Bi (sq Bj .ret)))
def Ki:bD:=⟨1,11,JI,[.cell 2 (some 3)]⟩
def nL:=bT [1] Proofs.Tryz.f24
def nz:=aA nL 0
def n0:=aA nL 1
def n6:=aA nL 2
def n8:=aA nL 3
def n9:=aA nL 4
def oa:=aA nL 5
def oc:=aA nL 6
def ny:aC:=(fI n8 14 0 oc (sq n9 (.region oa)))
def oe:=aA nL 7
def FI:aC:=(sq nz (sq n0 (.seq (cH n6 0 ny) (sq oe .ret))))
def ut:bD:=⟨1,26,FI,[.tmp 2]⟩
def FW:=bT [4] Proofs.Tryz.f34
def Y0:=aA FW 0
def Y1:=cV FW 0
def Y2:=aA FW 1
def Y3:=aA FW 2
def TM:aC:=(sq Y0 (dq Y1 (sq Y2 (sq Y3 .ret))))
def aFM:bD:=⟨3,23,TM,[.cell 6 (some 3)]⟩
def OC:=bT [1] Proofs.Tryz.f49
def O7:=aA OC 0
def O8:=aA OC 1
def dg:=aA OC 2
def OB:aC:=(sq O7 (sq O8 (sq dg .ret)))
def Zr:bD:=⟨1,24,OB,[.tmp 2]⟩
def EP:=bT [2,3] Proofs.Tryz.f81
def auW:=aA EP 0
def auX:=aA EP 1
def Kv:=aA EP 2
def auY:=cV EP 0
def auZ:=cV EP 1
def d7:aC:=(sq auW (dP auX 13 Kv (.seq (dq auY (.draw auZ)) .ret)))
def aTV:bD:=⟨2,33,d7,[.cell 4 (some 3),.tmp 5]⟩
def OH:=bT [] Proofs.Tryz.f100
def Py:=aA OH 0
def Pz:=aA OH 1
def P0:=aA OH 2
def OG:aC:=(sq Py (sq Pz (sq P0 .ret)))
def aaP:bD:=⟨1,8,OG,[.cell 2 (some 3)]⟩
def d9:=bT [2,3] Proofs.Tryz.f57
def avB:=aA d9 0
def avC:=cV d9 0
def avD:=cV d9 1
def d8:aC:=(sq avB (.seq (dq avC (.draw avD)) .ret))
def Kx:bD:=⟨2,12,d8,[.cell 4 (some 3),.tmp 5]⟩
def JL:=bT [1] Proofs.Tryz.f55
def Bl:=aA JL 0
def Bm:=aA JL 1
def TN:=aA JL 2
def JK:aC:=(sq Bl (sq Bm (sq TN .ret)))
def Kl:bD:=⟨1,24,JK,[.tmp 2]⟩
def dJ:=bT [4,6] Proofs.Tryz.f25
def Oe:=aA dJ 0
def Of:=aA dJ 1
def cy:=aA dJ 2
def Og:=aA dJ 3
def Oh:=aA dJ 4
def MA:=aA dJ 5
def Oi:=aA dJ 6
def Oj:=aA dJ 7
def Ol:=aA dJ 8
def On:=aA dJ 9
def Bp:=aA dJ 10
def Bq:=aA dJ 11
def Bn:aC:=(fI Oj 59 1 Bq (sq Ol (sq On (.cond (Tm 64) (sq Bp .ret) .skip))))
def Br:=aA dJ 12
def Bs:=aA dJ 13
def Bt:=aA dJ 14
def Bu:=aA dJ 15
def Bv:=aA dJ 16
def Bw:=aA dJ 17
def Bx:=aA dJ 18
def By:=aA dJ 19
def Bz:=aA dJ 20
def B0:=aA dJ 21
def B5:=cV dJ 0
def B6:=aA dJ 22
def TO:aC:=(fI Bz 92 5 B6 (sq B0 (.draw B5)))
def TP:=aA dJ 23
def TQ:=aA dJ 24
def TR:=cV dJ 1
def FX:=aA dJ 25
def Bo:aC:=(fI Bv 77 3 FX (sq Bw (sq Bx (.seq (cH By 5 TO) (sq TP (sq TQ (.cond (Tm 116) (.draw TR) .skip)))))))
def TS:=aA dJ 26
def B7:=aA dJ 27
def B8:=cV dJ 2
def OA:aC:=(sq Oe (sq Of (.seq (.block 0 (sq cy (.cond (Tm 32) (sq Og .ret) (sq Oh (.cond (Tm 37) (sq MA .ret) .skip))))) (.seq (cH Oi 1 Bn) (sq Br (sq Bs (sq Bt (.seq (cH Bu 3 Bo) (dP TS 121 B7 (dq B8 .ret))))))))))
def Y4:bD:=⟨4,125,OA,[.tmp 8,.cell 9 (some 3),.tmp 10]⟩
def RF.xk(x:RF):RF:=⟨!x.neg,x.num,x.den⟩
theorem a6R(x:RF):x.xk.v=aiA x.v:=rfl
theorem a3I{x:RF}(h:x.Ok):x.xk.Ok:=h
theorem aMT(x:RF):OG.wp C (aZ aaP.res (aI (.agg x.xk.cells))) (g_ [.agg x.cells]) .nil:=by
 simp only[go_sem,OG,Py,aaP];refine aQ λo p=>?_;simp only[go_sem];refine aQ λo2 l=>?_;have d:¬o=o2:=λe=>by rw[<-e,cZ]at l;cases l
 have i:¬o2=o:=λe=>d e.symm;simp only[go_sem,Pz,d,i,P0];refine aT (.inr rfl) Ev ?_;rfl
def stS(k:Nat)(a b:PV):Spec:=λname _=>if name=k then some ([],λ_=>aI a)else some ([],λ_=>aI b)
theorem a1Q(L:AJ C)(e:∀x:RF,aH C 279 [.agg x.cells] .nil (aI (.agg x.xk.cells)))(x y:RF)(i:x.Ok)(l:y.Ok) :
  d8.wp C (aZ Kx.res (aI (frV (KV x.v y.v)))) (g_ [.agg x.cells,.agg y.cells]) .nil:=by
 have d:=L.plus x y.xk i (a3I l);rw[a6R]at d;unfold KV;generalize gY x.v (aiA y.v)=r at *
 rw[l8]at d ⊢;simp only[go_sem,d8,avB,Kx];refine aQ λo p=>?_;simp only[go_sem];refine bV .nil (stS 279 (.agg y.xk.cells) (.tup [.agg r.got.rf.cells,.int .i64 r.err])) a_ ?_;simp only[go_sem,avC];refine bX rfl (e y) Sq a_ ?_;simp only[go_sem];refine bX rfl d Sq a_ ?_;simp only[go_sem];refine bV .nil eW a_ ?_;simp only[go_sem,avD];refine⟨a_,?_⟩;refine aT (.inr rfl) Ev ?_;rfl
theorem aNU{x:RF}(h:gW x=true):∃r,oZ x=.ok r/\nl r.2.1<=2/\nl r.2.2<=2/\val x.den≠0:=by
 unfold gW at h;split at h
 ·rename_i n a b e;simp only[bhQ,dT_]at h;refine⟨_,e,h.1,h.2,?_⟩;unfold oZ at e;split at e
  ·rename_i d;exact(eY.1 d).1
  ·cases e
 ·cases h
theorem aFN(L:AJ C)(x:RF)(B:x.Ok):JK.wp C (aZ Kl.res (aI (.bool (gW x)))) (g_ [.agg x.cells]) .nil:=by
 have p:=L.red x B;have l:gW x=match oZ x with | .ok (_,a,b)=>decide (nl a<=2)&&decide (nl b<=2) | .error _=>false:=rfl
 simp only[go_sem,JK,Bl,Kl,Bm];refine aB p Sq ?_;cases u:oZ x with
 |error e =>have w:=XP u;rw[u]at l;simp only at l;rw[l];simp only[go_sem,frV];refine aQ λo A=>?_;simp only[go_sem,TN,bL w];refine aT (.inr rfl) Ev ?_;rfl
 |ok r=>
  obtain⟨n,a,b⟩:=r;rw[u]at l;simp only at l;rw[l];have E:=jT a 2;have F:=jT b 2;have d:=Mg u;simp only[go_sem,frV];refine aQ λo A=>?_;simp only[go_sem,TN];refine aB (L.bits (aL a) d.1 d.2.2.1) Sq ?_;simp only[go_sem,aV];by_cases y:nl a<=2
  ·have i:((cX a:Nat):Int)<=64:=Om;simp only[go_sem,i];refine aB (L.bits (aL b) d.2.1 d.2.2.2) Sq ?_;simp only[go_sem,aV];refine aT (.inr rfl) Ev ?_;rw[bN,bA y,biA,decide_eq_decide.2 (Om:((cX b:Nat):Int)<=64↔nl b<=2)]
  ·have i:¬((cX a:Nat):Int)<=64:=Om;simp only[go_sem,i];refine aT (.inr rfl) Ev ?_;rw[bN,bG y,bhY]
theorem Yw(a b:Nat):eI a b<0↔a<b:=by
 unfold eI;split
 ·rename_i h;exact⟨λ_=>h,λ_=>by decide⟩
 ·split
  ·rename_i d e;exact⟨λh=>absurd h aS,λh=>by omega⟩
  ·exact⟨λh=>absurd h aS,λh=>by omega⟩
theorem aSS(a b:Nat):eI a b=0↔a=b:=by
 unfold eI;split
 ·rename_i h;exact⟨λh=>absurd h aS,λh=>by omega⟩
 ·split
  ·exact⟨λh=>absurd h aS,λh=>by omega⟩
  ·exact⟨λh=>by omega,λ_=>rfl⟩
def sgF(x:FV):Int:=if x.1 then -(x.2.1:Int)else x.2.1
theorem xD{x y:FV}(l:x.2.2≠0)(p:y.2.2≠0):(pH x y<0↔sgF x*(y.2.2:Nat)<sgF y*(x.2.2:Nat))/\(pH x y=0↔sgF x*(y.2.2:Nat)=sgF y*(x.2.2:Nat)):=by
 obtain⟨u,a1,b1⟩:=x;obtain⟨w,a2,b2⟩:=y;simp only at l p;unfold pH sU sgF;simp only;have E:0<a1->0<a1*b2:=λh=>Nat.mul_pos h Om;have F:0<a2->0<a2*b1:=λh=>Nat.mul_pos h Om;have H:a1=0->a1*b2=0:=λh=>by rw[h,Nat.zero_mul]
 have J:a2=0->a2*b1=0:=λh=>by rw[h,Nat.zero_mul]
 have i:(a1:Int)*(b2:Int)=((a1*b2:Nat):Int):=by simp
 have e2:(a2:Int)*(b1:Int)=((a2*b1:Nat):Int):=by simp
 have O:=Yw (a1*b2) (a2*b1);have Q:=aSS (a1*b2) (a2*b1);have R:=Yw (a2*b1) (a1*b2);have S:=cx (a1*b2) (a2*b1);generalize eI (a1*b2) (a2*b1)=c at *
 generalize eI (a2*b1) (a1*b2)=N at *
 generalize a1*b2=A at *
 generalize a2*b1=B at *
 by_cases d:a1=0<;>by_cases e:a2=0<;>cases u<;>cases w <;>
  simp only[d,e,ne_eq,not_true_eq_false,not_false_eq_true,decide_true,decide_false,bjY,bjE,bhY,if_true,if_false,bjW,Int.neg_mul,i,e2,Int.neg_zero,Int.zero_mul] <;>
  (first|(have K:=H d)|(have K:=E Om))<;>(first|(have M:=J e)|(have M:=F Om))<;>constructor<;>constructor<;>intro h<;>first|omega|(simp only[d,e,Int.ofNat_zero]at *;omega)
theorem aTW{e sy sz d bm bz:Int}(u:0<bm)(p:0<d)(i:0<bz)(a:e*bm<sy*d)(b:sy*bz<=sz*bm):e*bz<sz*d:=by
 have k1:e*bm*bz<sy*d*bz:=Int.mul_lt_mul_of_pos_right a i;have k2:sy*bz*d<=sz*bm*d:=Int.mul_le_mul_of_nonneg_right b Om;have l:(e*bz)*bm<(sz*d)*bm:=by rw[show e*bz*bm=e*bm*bz by rw[bkJ,Int.mul_comm bz,<-bkJ],show sz*d*bm=sz*bm*d by rw[bkJ,Int.mul_comm d,<-bkJ]];rw[show sy*d*bz=sy*bz*d by rw[bkJ,Int.mul_comm d,<-bkJ]]at k1;omega
 exact Int.lt_of_mul_lt_mul_right l Om
theorem aIT{x y z:FV}(d:x.2.2≠0)(e:y.2.2≠0)(i:z.2.2≠0)(a:pH x y<0)(b:¬pH z y<0):pH x z<0:=by
 rw[(xD d e).1]at a;rw[(xD i e).1]at b;rw[(xD d i).1];exact aTW (sy:=sgF y) (bm:=(y.2.2:Nat)) Om Om Om a Om
theorem Sl{x y:FV}(d:x.2.2≠0)(e:y.2.2≠0)(a:pH x y<0):¬pH y x<0/\pH y x≠0:=by
 rw[(xD d e).1]at a;constructor
 ·rw[(xD e d).1];omega
 ·intro h;rw[(xD e d).2]at h;omega
theorem Sm{x:FV}(d:x.2.2≠0):pH x x=0:=by rw[(xD d d).2]
theorem Nn{α:Type}(d:α->FV)(l:List α)(e:∀s∈l,(d s).2.2≠0) :
  (pB d l=none/\l=[])\/∃(i:Nat)(b:α),pB d l=some b/\l[i]?=some b/\(∀t∈l,¬pH (d t) (d b)<0)/\∀j t,j<i->l[j]?=some t->pH (d t) (d b)≠0:=by
 obtain⟨r,rfl⟩:∃r,l=List.reverse r:=⟨l.reverse,by simp⟩
 induction r with
 |nil=>exact .inl ⟨rfl,rfl⟩
 |cons s r E=>
  rw[List.reverse_cons]at e ⊢;have w:(d s).2.2≠0:=e s bH;have u:∀t∈r.reverse,(d t).2.2≠0:=λt ht=>e t (List.mem_append_left _ ht);rw[ce];refine .inr ?_;have last:(r.reverse++[s])[Z' r.reverse]?=some s:=by simp
  rcases E u with⟨y,x⟩|⟨i,b,y,x,h3,h4⟩
  ·rw[y,x];refine⟨0,s,rfl,rfl,λt ht=>?_,λj t h=>by omega⟩;rw[blM,bjH]at ht;subst ht;rw[Sm w];decide
  ·rw[y];have B:(d b).2.2≠0:=u b (bjQ x);have hi:i<Z' r.reverse:=(biZ.1 x).1;unfold MW;by_cases c:pH (d s) (d b)<0
   ·simp only[aG c];have lt:∀t∈r.reverse,pH (d s) (d t)<0:=λt ht=>aIT w B (u t ht) c (h3 t ht);refine⟨Z' r.reverse,s,rfl,last,λt ht=>?_,λj t A p=>?_⟩
    ·rcases bjB.1 ht with ht|ht
     ·exact(Sl w (u t ht) (lt t ht)).1
     ·rw[bjH]at ht;subst ht;rw[Sm w];decide
    ·rw[bkE A]at p;have ht:=bjQ p;exact(Sl w (u t ht) (lt t ht)).2
   ·simp only[aE c];refine⟨i,b,rfl,by rw[bkE hi];exact x,λt ht=>?_,λj t A p=>?_⟩
    ·rcases bjB.1 ht with ht|ht
     ·exact h3 t ht
     ·rw[bjH]at ht;subst ht;exact c
    ·rw[bkE Om]at p;exact h4 j t A p
theorem Gz{f:aD}{lv cnt:Int}(h:gJ f lv cnt=0):dC f=true/\Z' f.bgD<=12:=by
 unfold gJ at h;split at h
 ·rename_i c;simp only[bhQ]at c;split at h
  ·cases h
  ·exact⟨c.1,by omega⟩
 ·cases h
theorem Q9{n:Nat}(h:n<=9223372036854775807):MS n 1=.tup [.agg (FV.rf (false,n,1)).cells,.int .i64 0]:=by
 have d:nl n<=2:=jM Om;have i:=(jT n 128).2 Om;have l:nl 1=1:=by rw[nl,oW];rfl
 have p:=(jT 1 128).2 Om;unfold MS;rw[aE aS,SF,Int.natAbs_natCast,show(1:Int).natAbs=1 from rfl];unfold jP;rw[Nat.gcd_one_right,Nat.div_one,Nat.div_one,aE Om];have e:decide ((n:Int)<0)=false:=bG Om;rw[e];rfl
structure aSB(C:Ctx):Prop extends aLC C where
 fr:AJ C
 Kx:∀x y:RF,x.Ok->y.Ok->aH C 278 [.agg x.cells,.agg y.cells] .nil (aI (frV (KV x.v y.v)))
 price1:∀x:RF,x.Ok->aH C 232 [.agg x.cells] .nil (aI (.bool (gW x)))
theorem aMB{j:Nat}{x:FV}(h:Cst j x)(l:j<=12):x.rf.Ok/\cC x.2.1 x.2.2=true:=by
 obtain⟨n,a,b⟩:=x;obtain⟨d,e,i⟩:=h;simp only at d e i;have k1:cC a b=true:=eY.2 ⟨d,by omega,by omega⟩;refine⟨⟨aX _,aX _,?_,?_⟩,k1⟩
 ·show(aL a).length<=_;rw[bF];omega
 ·show(aL b).length<=_;rw[bF];omega
theorem arE(Lb:aSB C)(prices:List RF)(hp:∀x∈prices,x.Ok)(hm:Modest prices)(n:Nat)(hn:n<18446744073709551616)(set:List Int)(hs:Z' set<=12)(X:∀d∈set,0<=d/\d<Z' prices)
  (o9 E J i:Nat) (M N O:PV) (y A:Int) (B:List BX) (K:cF) [Up K] (F:PF) (H:PH)
  (hF:(((((((((((((((n_.set 3 (frs prices)).set 9 (.ptr o9 3 0 0)).set 11 (M)).set 15 (.ptr E 17 0 0)).set 16 (N)).set 17 (.ptr J 3 0 0)).set 19 (ints set)).set 20 (.ptr i 3 0 0)).set 74 (O)).set 75 (.int .i64 y)).set 76 (.int .i64 A)).set 89 (ints set)).set 90 (.int .i64 (Z' set:Nat))).set 91 (.int .i64 0))).le F)
  (hH:aR H (B++[(i,.rows 3 [(FV.rf (false,n,1)).cells])]) [])
  (hK:∀H',aR H' (B++[(i,.rows 3 [(FV.rf (rJ prices n set)).cells])]) []->K (.exit 5) ((((((((((((n_.set 3 (frs prices)).set 9 (.ptr o9 3 0 0)).set 11 (M)).set 15 (.ptr E 17 0 0)).set 16 (N)).set 17 (.ptr J 3 0 0)).set 19 (ints set)).set 20 (.ptr i 3 0 0)).set 74 (O)).set 75 (.int .i64 y)).set 76 (.int .i64 A))) H') :
  aC.wp C (.loop TO) K F H:=by
 refine uY _ (λ_ _ _ _ a b=>Up.up a b) hF ?_;refine wp_loop (α:=Nat × PH) (λt=>((((((((((((((n_.set 3 (frs prices)).set 9 (.ptr o9 3 0 0)).set 11 (M)).set 15 (.ptr E 17 0 0)).set 16 (N)).set 17 (.ptr J 3 0 0)).set 19 (ints set)).set 20 (.ptr i 3 0 0)).set 74 (O)).set 75 (.int .i64 y)).set 76 (.int .i64 A)).set 89 (ints set)).set 90 (.int .i64 (Z' set:Nat))).set 91 (.int .i64 t.1))) (λt=>t.2)
  (λt=>t.1<=Z' set/\aR t.2 (B++[(i,.rows 3 [(FV.rf (rJ prices n (set.take t.1))).cells])]) []) (λt=>Z' set-t.1) (0,H) ⟨bhT _,hH⟩ Lq b_ ?_
 rintro⟨j,H1⟩ ⟨hj,R⟩;simp only at hj R ⊢;simp only[go_sem,TO,Bz];by_cases hlt:j<Z' set
 ·have l:(j:Int)<(Z' set:Nat):=Om;have V:(set.map λx=>[PV.int .i64 x])[j]?=some [.int .i64 set[j]]:=by simp[hlt]
  have hd:=X _ (bhS hlt);have S:=Yz hm hn (set.take j) (by rw[biI];omega);have w:rJ prices n (set.take (j+1))=(KV (rJ prices n (set.take j)) (jC prices set[j])).got:=by rw[bjF hlt,FU]
  obtain⟨Y,-⟩:=aMB S (by rw[biI];omega);have Q:=R.RR;generalize set[j]=d at *
  obtain⟨e,rfl⟩:∃e:Nat,d=e:=⟨d.toNat,by omega⟩;have u:e<Z' prices:=Om;have U:(e:Int)<(Z' prices:Nat):=hd.2;have Z:(prices.map RF.cells)[e]?=some (prices[e]).cells:=by simp[u]
  have β:jC prices e=(prices[e]).v:=by unfold jC;simp[bhX,u]
  have p:=Lb.Kx (FV.rf (rJ prices n (set.take j))) prices[e] Y (hp _ (bhS u));rw[FV.PW,<-β,l8,<-w]at p;generalize rJ prices n (set.take j)=c at *
  generalize W:rJ prices n (set.take (j+1))=c' at *
  simp only[go_sem,l,B0,V,bhO];refine bV .nil (stS 278 (.tup [.agg c'.rf.cells,.int .i64 (KV c (jC prices e)).err]) .aK) a_ ?_;simp only[go_sem,B5,Q,U,bhO,Z];refine bX rfl p Sq a_ ?_;simp only[go_sem,Q];refine⟨a_,?_⟩;simp only[go_sem,B6,wZz j];refine aJ (j+1,_) ⟨hlt,?_⟩ (by simp only;omega) Lq b_;show aR _ (B++[(i,.rows 3 [(FV.rf (rJ prices n (set.take (j+1)))).cells])]) [];rw[W];exact R.na _
 ·have l:¬(j:Int)<(Z' set:Nat):=Om;have:j=Z' set:=Om;subst this;rw[biS]at R;simp only[go_sem,l];exact Up.up Lq (hK _ R)
def muS:Spec:=λname vs=>match name,vs with
 |121,[x,y]=>some ([],λ_=>aI (aN (aL (val (lE x)*val (lE y)))))
 |120,[.bool n,x,y]=>some ([],λ_=>aI (DC n (val (lE x)) (val (lE y))))
 |_,_=>none
theorem Ru(a b:List Nat):muS 121 [aN a,aN b]=some ([],λ_=>aI (aN (aL (val a*val b)))):=by
 show some _=_;rw[fA,fA]
theorem a3B(n:Bool)(a b:List Nat):muS 120 [.bool n,aN a,aN b]=some ([],λ_=>aI (DC n (val a) (val b))):=by
 show some _=_;rw[fA,fA]
theorem a1M(L:LO C)(x y:RF)(R:x.Ok)(S:y.Ok):d7.wp C (aZ aTV.res (cM (frV (BI x.v y.v)))) (g_ [.agg x.cells,.agg y.cells]) .nil:=by
 obtain⟨F,a1,b1⟩:=x;obtain⟨H,a2,b2⟩:=y;obtain⟨d,l,w,B⟩:=R;obtain⟨i,u,A,E⟩:=S;simp only at d l w B i u A E;have M:frV (BI (RF.v ⟨F,a1,b1⟩) (RF.v ⟨H,a2,b2⟩))=if cC (val a1) (val b1)&&cC (val a2) (val b2)then DC (F != H) (val a1*val a2) (val b1*val b2)else GL 1:=by
  show frV (if cC (val a1) (val b1)&&cC (val a2) (val b2)then _ else _)=_;split
  ·rw[SF]
  ·rfl
 rw[M];simp only[go_sem,d7,auW,aTV];refine aQ λo ho=>?_;simp only[go_sem,auX];refine aB (L.valid F a1 b1 d l w B) Ev ?_;cases O:cC (val a1) (val b1)with
 |false =>simp only[go_sem,biF,Kv,bhY];exact jV Sq
 |true=>
  obtain⟨U,V,W⟩:=eY.1 O;simp only[go_sem,bhZ];refine aB (L.valid H a2 b2 i u A E) Ev ?_;cases Q:cC (val a2) (val b2)with
  |false =>simp only[go_sem,biF,Kv,bjE];exact jV Sq
  |true =>obtain⟨X,Y,Z⟩:=eY.1 Q;simp only[go_sem,bhZ,bjY];refine bV .nil muS a_ ?_;simp only[go_sem,auY];refine bX (Ru a1 a2) (L.times a1 a2 d i w A Om Om) Ev a_ ?_;simp only[go_sem];refine bX (Ru b1 b2) (L.times b1 b2 l u B E Om Om) Ev a_ ?_;simp only[go_sem];have m1:=mJ W Z;have m2:=mJ V Y;have J:=L.lowest (F != H) (aL (val a1*val a2)) (aL (val b1*val b2)) (aX _) (aX _) (by rw[bF];omega) (by rw[bF];omega) (by rw[aV];omega) (by rw[aV];omega) (by rw[aV];exact Nat.mul_ne_zero U X);have K:=a3B (F != H) (aL (val a1*val a2)) (aL (val b1*val b2));rw[aV,aV]at J K;obtain⟨m,p,q,e,N⟩:=wg (F != H) (val a1*val a2) (val b1*val b2);rw[N]at J K ⊢;refine bX K J Ev a_ ?_;simp only[go_sem];refine bV .nil eW a_ ?_;simp only[go_sem,auZ];refine⟨a_,?_⟩;exact bE (.inr rfl) .nil (by simp only[go_sem];rfl) a_ ⟨.refl _,rfl⟩
theorem Bg(L:AJ C)(n:Nat)(i:n<=9223372036854775807):JI.wp C (aZ Ki.res (aI (.agg (FV.rf (false,n,1)).cells))) (g_ [.int .i64 (n:Nat)]) .nil:=by
 have h:=L.frac n 1 (by unfold dL;omega) aS;rw[Q9 i]at h;generalize FV.rf (false,n,1)=y at *
 simp only[go_sem,JI,Bh,Ki];refine aQ λo p=>?_;simp only[go_sem,Bi];refine aB h Ev ?_;simp only[go_sem];refine aQ λo2 d=>?_;have l:¬o=o2:=λe=>by rw[<-e,cZ]at d;cases d
 simp only[go_sem,Bj,l];refine aT (.inr rfl) Ev ?_;rfl
theorem aMA(L:AJ C)(x:RF)(B:x.Ok):OB.wp C (aZ Zr.res (aI (.bool (gW x)))) (g_ [.agg x.cells]) .nil:=by
 have p:=L.red x B;have l:gW x=match oZ x with | .ok (_,a,b)=>decide (nl a<=2)&&decide (nl b<=2) | .error _=>false:=rfl
 simp only[go_sem,OB,O7,Zr,O8];refine aB p Sq ?_;cases u:oZ x with
 |error e =>have w:=XP u;rw[u]at l;simp only at l;rw[l];simp only[go_sem,frV];refine aQ λo A=>?_;simp only[go_sem,dg,bL w];refine aT (.inr rfl) Ev ?_;rfl
 |ok r=>
  obtain⟨n,a,b⟩:=r;rw[u]at l;simp only at l;rw[l];have E:=jT a 2;have F:=jT b 2;have d:=Mg u;simp only[go_sem,frV];refine aQ λo A=>?_;simp only[go_sem,dg];refine aB (L.bits (aL a) d.1 d.2.2.1) Sq ?_;simp only[go_sem,aV];by_cases y:nl a<=2
  ·have i:((cX a:Nat):Int)<=64:=Om;simp only[go_sem,i];refine aB (L.bits (aL b) d.2.1 d.2.2.2) Sq ?_;simp only[go_sem,aV];refine aT (.inr rfl) Ev ?_;rw[bN,bA y,biA,decide_eq_decide.2 (Om:((cX b:Nat):Int)<=64↔nl b<=2)]
  ·have i:¬((cX a:Nat):Int)<=64:=Om;simp only[go_sem,i];refine aT (.inr rfl) Ev ?_;rw[bN,bG y,bhY]
theorem aFP(short:∀x:RF,x.Ok->aH C 348 [.agg x.cells] .nil (aI (.bool (gW x))))(l:List RF)(A:∀x∈l,x.Ok)(w:Z' l<=9223372036854775807)(n:Nat) :
  JN.wp C (aZ Ko.res (aI (.bool (jD l n)))) (g_ [frs l,.int .i64 (n:Nat)]) .nil:=by
 simp only[go_sem,JN,Cj,Ko,Ck,bhO];refine wp_loop (α:=Nat) (λk=>(((((n_.set 0 (frs l)).set 1 (.int .i64 (n:Nat))).set 7 (frs l)).set 8 (.int .i64 (Z' l:Nat))).set 9 (.int .i64 k))) (λ_=>.nil) (λk=>k<=Z' l/\∀x∈l.take k,gW x=true) (λk=>Z' l-k) 0 ⟨bhT _,λx h=>by cases h⟩ Lq a_ ?_;rintro k ⟨H,d⟩;have d:(l.take k).all gW=true:=biB.2 d;simp only[go_sem,Ch,Cl];by_cases hlt:k<Z' l
 ·have i:(k:Int)<(Z' l:Nat):=Om;have E:(l.map RF.cells)[k]?=some (l[k]).cells:=by simp[hlt]
  have F:=short l[k] (A _ (bhS hlt));have p:(l.take (k+1)).all gW=((l.take k).all gW&&gW l[k]):=by rw[bjF hlt,List.all_append];simp
  rw[d,biA]at p;have u:gW l[k]=false->jD l n=false:=λe=>by
   have:l.all gW=false:=by
    cases e2:l.all gW with
    |false=>rfl
    |true=>rw[biB.1 e2 _ (bhS hlt)]at e;cases e
   rw[jD,this,bhY]
  generalize l[k]=x at *
  simp only[go_sem,i,Cm,E];refine aQ λo J=>?_;simp only[go_sem,Cn];refine aB F Sq ?_;cases y:gW x with
  |true =>simp only[go_sem,bhZ,Cq,wZz k];exact aJ (k+1) ⟨hlt,biB.1 (p.trans y)⟩ Om Lq a_
  |false =>simp only[go_sem,biF,Cp];exact fM Sq (u y).symm
 ·have i:¬(k:Int)<(Z' l:Nat):=Om;have:k=Z' l:=Om;subst this;rw[biS]at d;have B:((Z' l:Int)==(n:Nat))=decide (Z' l=n):=by
   by_cases c:Z' l=n
   ·rw[bY Om,bA c]
   ·rw[bL Om,bG c]
  simp only[go_sem,i,Cr,bhO,B];refine fM (b:=decide (Z' l=n)) Sq ?_;rw[jD,d,biA]
def plS(y:RF)(r:PV):Spec:=λname _=>if name=336 then some ([],λ_=>aI (.agg y.cells))else some ([],λ_=>aI r)
theorem aSX(L:AJ C)(number:∀n:Nat,n<=9223372036854775807->aH C 336 [.int .i64 (n:Nat)] .nil (aI (.agg (FV.rf (false,n,1)).cells)))
  (mul:∀x y:RF,x.Ok->y.Ok->aH C 349 [.agg x.cells,.agg y.cells] .nil (aI (frV (BI x.v y.v)))) (s x:RF) (K:s.Ok) (M:x.Ok) (n:Nat) (H:n<=9223372036854775807) :
  TM.wp C (aZ aFM.res (aI (.agg (BP s.v x.v n).rf.cells))) (g_ [.agg s.cells,.agg x.cells,.int .i64 (n:Nat)]) .nil:=by
 have B:=number n H;have N:(FV.rf (false,n,1)).Ok:=by
  have B:nl n<=2:=jM Om;refine⟨aX _,aX _,?_,?_⟩
  ·show(aL n).length<=_;rw[bF];omega
  ·show(aL 1).length<=_;rw[oW];simp
 have E:=mul x (FV.rf (false,n,1)) M N;rw[FV.PW,l8]at E;have F:=L.plus s _ K (a6P x.v (false,n,1));rw[FV.PW,l8]at F;unfold BP;generalize(gY s.v (BI x.v (false,n,1)).got).got=z at *
 generalize(gY s.v (BI x.v (false,n,1)).got).err=R at *
 generalize(BI x.v (false,n,1)).got=w at *
 generalize(BI x.v (false,n,1)).err=Q at *
 generalize FV.rf (false,n,1)=y at *
 simp only[go_sem,TM,Y0,aFM];refine aQ λA J=>?_;simp only[go_sem];refine aQ λo6 i=>?_;have l:¬A=o6:=λe=>by rw[<-e,cZ]at i;cases i
 simp only[go_sem];refine bV .nil (plS y (.tup [.agg w.rf.cells,.int .i64 Q])) a_ ?_;simp only[go_sem,Y1];refine bX rfl B Sq a_ ?_;simp only[go_sem];refine bX rfl E Sq a_ ?_;simp only[go_sem];refine aQ λo7 d=>?_;rw[kP,kP]at d;have p:¬o6=o7:=λe=>d.1 e.symm;have u:¬A=o7:=λe=>d.2.1 e.symm;simp only[go_sem,l,p,u];refine⟨a_,?_⟩;simp only[go_sem,Y2,l,p,u];refine aB F (by simp only[go_sem,l,p,u]) ?_;have O:¬o6=A:=λe=>l e.symm;simp only[go_sem,Y3,l,p,u,O];refine aT (.inr rfl) Ev ?_;rfl
theorem arD(f:aD)(hV:VF f)(hp:Z' f.bgH<=1000000)(hv:Z' f.bgF<=1000000) :
  FI.wp C (aZ ut.res (cM (ints (pU f)))) (g_ [.agg f.cells]) .nil:=by
 have H:(Z' f.bgH:Int)*((8:Nat):Int)<=140737488355328:=Om;have J:(Z' f.bgH:Int)<=9223372036854775807:=Om;have E:∀v (h:v<Z' f.bgF),∃d:Nat,(f.bgF[v]).bgP=(d:Int)/\d<Z' f.bgH:=λv h=>by obtain⟨Y,Q⟩:=hV.volume v h;refine⟨zD f v,?_,Q⟩;unfold zD;simp only[bhX,biL,biD h,biP,bkC];omega
 unfold pU;simp only[go_sem,FI,nz,n0,ut,bhO,H,J];refine aQ λo Z=>?_;simp only[go_sem,n6,bhO];generalize f.bgH.length=n at *
 generalize f.bgF=vs at *
 generalize F:f.cells=X at *
 refine wp_loop (α:=Nat) (λi=>((((n_.set 3 (.osl o 1 0 n)).set 11 (.sl 2 (vs.map eG.cells))).set 12 (.int .i64 (Z' vs:Nat))).set 13 (.int .i64 i))) (λi=>h_.set o (.rows 1 (bJ (jK n ((vs.map eG.bgP).take i))))) (λi=>i<=Z' vs) (λi=>Z' vs-i) 0 (bhT _) ?_ ?_ ?_
 ·exact Lq
 ·refine e_ a_ ?_;simp only[go_sem,blF];rw[Yx,xZ]
 intro i hi;simp only[go_sem,ny,n8];by_cases hlt:i<Z' vs
 ·have p:(i:Int)<(Z' vs:Nat):=Om;have U:(vs.map eG.cells)[i]?=some (vs[i]).cells:=by simp[hlt]
  obtain⟨d,N,u⟩:=E i hlt;have K:(vs.map eG.bgP).take (i+1)=(vs.map eG.bgP).take i++[((d:Nat):Int)]:=by rw[bjF (by simpa using hlt),bjK,N]
  generalize vs[i]=x at *
  have w:=wb (l:=jK n ((vs.map eG.bgP).take i)) (i:=d) (by rw[oE];exact u);rw[Kh _ u]at w;have R:((vs.map eG.bgP).take i).count (d:Int)<=1000000:=by refine biQ (List.count_le_length ..) ?_;rw[biI,bhO];omega
  have A:=atV ((vs.map eG.bgP).take i) u;rw[<-K]at A;have W:i_.wrap (((((vs.map eG.bgP).take i).count (d:Int):Nat):Int)+1)=((((vs.map eG.bgP).take i).count (d:Int):Nat):Int)+1:=wrap_i64 Om Om;have y:(d:Int)<(n:Nat):=Om;have S:(d:Int)>=0:=Om;simp only[go_sem,p,n9,U];refine aQ λo2 B=>?_;have M:¬o=o2:=λe=>by rw[<-e,cZ]at B;cases B
  have O:¬o2=o:=λe=>M e.symm;simp only[go_sem,oa,N,M,O,biN,w,W,oc,vL,A,y,wZz i];refine aJ (i+1) hlt Om Lq (e_ a_ ?_);simp only[go_sem,M,O]
 ·have p:¬(i:Int)<(Z' vs:Nat):=Om;have:i=Z' vs:=Om;subst this;have V:(vs.map eG.bgP).take vs.length=vs.map eG.bgP:=by rw[biK bH]
  simp only[go_sem,p,oe,V];refine ya (.inr rfl) (o:=o) (s:=1) (k:=n) (rs:=bJ (jK n (vs.map eG.bgP))) Sq Sq (by rw[dN,oE];omega) ⟨?_,rfl⟩;rw[Eb,biK (by rw[dN,oE];omega)];exact .refl _
theorem O9:∀{xs:List FV}{ns:List Nat}(s x:FV)(n:Nat),Z' xs=Z' ns->oI s (xs++[x]) (ns++[n])=BP (oI s xs ns) x n
 |[],[],s,x,n,_=>rfl
 |y::xs,m::ns,s,x,n,h=>by simp only[List.cons_append,oI];exact O9 _ x n (by simpa using h)
 |[],_::_,_,_,_,h=>by simp at h
 |_::_,[],_,_,_,h=>by simp at h
theorem Pa{xs:List FV}{ns:List Nat}(s:FV){k:Nat}(d:k<Z' xs)(e:k<Z' ns):oI s (xs.take (k+1)) (ns.take (k+1))=BP (oI s (xs.take k) (ns.take k)) xs[k] ns[k]:=by
 rw[bjF d,bjF e];exact O9 s _ _ (by rw[biI,biI];omega)
theorem RX:∀{xs:List FV}{ns:List Nat}{s:FV},s.rf.Ok->(oI s xs ns).rf.Ok
 |[],_,s,h=>by cases ‹List Nat›<;>exact h
 |x::xs,[],s,h=>h
 |x::xs,n::ns,s,h=>by show(oI (BP s x n) xs ns).rf.Ok;exact RX (s:=BP s x n) (a3X s x n)
theorem Gj(n:Nat)(e:n<=9223372036854775807):(FV.rf (false,n,1)).Ok:=by
 have d:nl n<=2:=jM Om;refine⟨aX _,aX _,?_,?_⟩
 ·show(aL n).length<=_;rw[bF];omega
 ·show(aL 1).length<=_;rw[oW];simp
structure aEJ(C:Ctx):Prop where
 vald:∀f:aD,f.Ok->aH C 96 [.agg f.cells] .nil (aI (.int .i64 (uR f)))
 prices:∀(l:List RF),(∀x∈l,x.Ok)->Z' l<=9223372036854775807->∀n:Nat,aH C 335 [frs l,.int .i64 (n:Nat)] .nil (aI (.bool (jD l n)))
 number:∀n:Nat,n<=9223372036854775807->aH C 336 [.int .i64 (n:Nat)] .nil (aI (.agg (FV.rf (false,n,1)).cells))
 demands:∀f:aD,VF f->Z' f.bgH<=1000000->Z' f.bgF<=1000000->aH C 337 [.agg f.cells] .nil (aI (ints (pU f)))
 plus:∀s x:RF,s.Ok->x.Ok->∀n:Nat,n<=9223372036854775807->aH C 338 [.agg s.cells,.agg x.cells,.int .i64 (n:Nat)] .nil (aI (.agg (BP s.v x.v n).rf.cells))
 room:∀(f:aD)(room:List Int),f.Ok->aH C 152 [.agg f.cells,ints room] .nil (aI (ints (kW f room)))
def Xu(l:List Int):Prop:=∀x∈l,0<=x/\x<=9223372036854775807
theorem Kp(f:aD)(i:Z' f.bgF<=1000000):Xu (pU f):=by
 intro x e;unfold pU jK at e;obtain⟨d,-,rfl⟩:=biJ.1 e;have:((f.bgF.map eG.bgP).count (d:Int))<=Z' f.bgF:=by refine biQ (List.count_le_length ..) ?_;rw[bhO];exact bhV _
 omega
theorem aLS(L:aEJ C)(f:aD)(hf:f.Ok)(room:List Int)(a b:List RF)(ha:∀x∈a,x.Ok)(hb:∀x∈b,x.Ok)(la:Z' a<=9223372036854775807)(lb:Z' b<=9223372036854775807)
  (M:dC f=true->Xu (kW f room)/\(kW f room).length=Z' f.bgD) (ε:dC f=true->Z' f.bgH<=1000000/\Z' f.bgF<=1000000) :
  NX.wp C (aZ Ym.res (cM (RU f room a b))) (g_ [.agg f.cells,ints room,frs a,frs b]) .nil:=by
 have k1:=L.vald f hf;have k2:=L.prices a ha la f.bgH.length;have k3:=L.prices b hb lb f.bgD.length;have hB:RU f room a b=if JB f a b then .tup [.agg (vI f room a b).rf.cells,.int .i64 0]else .tup [.agg (eZ false [] []),.int .i64 1]:=rfl
 have i:JB f a b=(dC f&&(jD a f.bgH.length&&jD b f.bgD.length)):=rfl;have y:JB f a b=false->∀{F:PF}{o:Nat}{H:PH},F 8=some (.ptr o 3 0 0)->H o=some (.rows 3 [[.bool false,.aK,.aK]])->F 9=some (.int .i64 1)->aZ [.cell 8 (some 3),.tmp 9] (cM (RU f room a b)) .ret F H:=by intro e F o H h8 ho h9;rw[hB,e];exact jV (e:=1) (by simp only[go_sem,h8,ho,h9])
 simp only[go_sem,NX,N0,Ym];refine aQ λo8 θ=>?_;simp only[go_sem,N1];refine aB k1 Sq ?_;cases hp:dC f with
 |false =>rw[hp,bhY]at i;simp only[go_sem,Hy hp,dX (show(1:Int)≠0 by decide),LW];exact y i (o:=o8) Sq Sq Sq
 |true=>
  have ζ:uR f=0:=by rw[uR,hp];rfl
  have hV:=VF.of hp;obtain⟨δ,U⟩:=ε hp;obtain⟨γ,S⟩:=M hp;have k4:=L.demands f hV δ U;have k5:=L.room f room hf;have Z:=Kp f U;have Q:(pU f).length=Z' f.bgH:=oE _ _;rw[hp,biA]at i;simp only[go_sem,ζ,cN (show(0:Int)=0 from rfl),bhO];refine aB k2 Sq ?_;cases V:jD a f.bgH.length with
  |false =>rw[V,bhY]at i;simp only[go_sem,biF,LW];exact y i (o:=o8) Sq Sq Sq
  |true=>
   rw[V,biA]at i;simp only[go_sem,bhZ,bhO];refine aB k3 Sq ?_;cases W:jD b f.bgD.length with
   |false =>rw[W]at i;simp only[go_sem,biF,LW];exact y i (o:=o8) Sq Sq Sq
   |true=>
    rw[W]at i;rw[i,aG rfl]at hB;have l2:Z' a=Z' f.bgH:=by simp only[jD,bhQ,dT_]at V;exact V.2
    have l3:Z' b=Z' f.bgD:=by simp only[jD,bhQ,dT_]at W;exact W.2
    rw[<-l2]at Q;rw[<-l3]at S;have k6:aH C 336 [.int .i64 0] .nil (aI (.agg (FV.rf (false,0,1)).cells)):=L.number 0 aS;rw[hB];unfold vI;generalize pU f=ns at *
    generalize kW f room=rs at *
    have A:=L.plus;have O:=Gj 0 aS;have w:∀(l:List RF),(∀x∈l,x.Ok)->∀(ms:List Int),Xu ms->Z' ms=Z' l->∀(s:FV),s.rf.Ok->∀k,k<Z' l->∃x m,(l.map RF.cells)[k]?=some (RF.cells x)/\(ms.map λn=>[PV.int .i64 n])[k]?=some [.int .i64 m] /\
      aH C 338 [.agg (oI s ((l.map RF.v).take k) ((ms.map bjA).take k)).rf.cells,.agg x.cells,.int .i64 m] .nil (aI (.agg (oI s ((l.map RF.v).take (k+1)) ((ms.map bjA).take (k+1))).rf.cells)):=by
     intro l hl ms β η s hs k R;have J:k<Z' ms:=Om;obtain⟨g1,g2⟩:=β _ (bhS J);refine⟨l[k],ms[k],by simp[R],by simp[J],?_⟩;have h:=A (oI s ((l.map RF.v).take k) ((ms.map bjA).take k)).rf l[k] (RX hs) (hl _ (bhS R)) ms[k].toNat Om;rw[Int.toNat_of_nonneg g1,FV.PW]at h;rw[Pa s (by simpa using R) (by simpa using J),bjK,bjK];exact h
    have hA:=w a ha ns Z Q (false,0,1) O;have Y:=w b hb rs γ S (oI (false,0,1) (a.map RF.v) (ns.map bjA)) (RX O);clear w A;simp only[go_sem,bhZ,N2];refine aB k6 Sq ?_;simp only[go_sem];refine aQ λp E=>?_;have u:¬o8=p:=λe=>by rw[<-e,cZ]at E;cases E
    have B:¬p=o8:=λe=>u e.symm;simp only[go_sem,N3];refine aB k4 Sq ?_;simp only[go_sem,bhO];refine wp_loop (α:=Nat) (λk=>(((((((((n_.set 1 (ints room)).set 2 (frs a)).set 3 (frs b)).set 4 (.bK f.cells)).set 8 (.ptr o8 3 0 0)).set 10 (.ptr p 3 0 0)).set 37 (ints ns)).set 38 (.int .i64 (Z' ns:Nat))).set 39 (.int .i64 k)))
     (λk=>(h_.set o8 (.rows 3 [[.bool false,.aK,.aK]])).set p (.rows 3 [(oI (false,0,1) ((a.map RF.v).take k) ((ns.map bjA).take k)).rf.cells])) (λk=>k<=Z' ns) (λk=>Z' ns-k) 0 (bhT _) ?_ ?_ ?_
    ·exact Lq
    ·refine e_ (e_ a_ (by simp only[go_sem,u])) ?_;simp only[go_sem,blF];rfl
    intro k R;simp only[go_sem,Nz,N4];by_cases hlt:k<Z' ns
    ·have d:(k:Int)<(Z' ns:Nat):=Om;obtain⟨x,m,X,e2,N⟩:=hA k Om;generalize hz:oI (false,0,1) ((a.map RF.v).take (k+1)) ((ns.map bjA).take (k+1))=z at N;simp only[go_sem,d,N5,e2];refine bV .nil (λ_ _=>some ([],λ_=>aI (.agg z.rf.cells))) a_ ?_;simp only[go_sem,N6,X];refine bX rfl N Sq a_ ?_;simp only[go_sem,u,B];refine⟨a_,?_⟩;simp only[go_sem,N7,wZz k];refine aJ (k+1) hlt Om Lq (e_ (e_ a_ (by simp only[go_sem,u,B])) ?_);rw[hz];simp only[go_sem,u,B]
    ·have d:¬(k:Int)<(Z' ns:Nat):=Om;have K:k=Z' ns:=Om;subst K;have t1:(a.map RF.v).take ns.length=a.map RF.v:=by rw[biK (by rw[bhO];omega)]
     have t2:(ns.map bjA).take ns.length=ns.map bjA:=by rw[biK (by rw[bhO];exact bhV _)]
     rw[t1,t2];generalize oI (false,0,1) (a.map RF.v) (ns.map bjA)=s1 at *
     simp only[go_sem,d,Ao];refine aB k5 Sq ?_;simp only[go_sem,bhO];refine wp_loop (α:=Nat) (λk=>((((((n_.set 3 (frs b)).set 8 (.ptr o8 3 0 0)).set 10 (.ptr p 3 0 0)).set 54 (ints rs)).set 55 (.int .i64 (Z' rs:Nat))).set 56 (.int .i64 k)))
      (λk=>(h_.set o8 (.rows 3 [[.bool false,.aK,.aK]])).set p (.rows 3 [(oI s1 ((b.map RF.v).take k) ((rs.map bjA).take k)).rf.cells])) (λk=>k<=Z' rs) (λk=>Z' rs-k) 0 (bhT _) ?_ ?_ ?_
     ·exact Lq
     ·refine e_ (e_ a_ (by simp only[go_sem,u,B])) ?_;simp only[go_sem,blF,u,B];rfl
     intro k R;simp only[go_sem,An,Ap];by_cases hlt:k<Z' rs
     ·have d:(k:Int)<(Z' rs:Nat):=Om;obtain⟨x,m,X,e2,N⟩:=Y k Om;generalize hz:oI s1 ((b.map RF.v).take (k+1)) ((rs.map bjA).take (k+1))=z at N;simp only[go_sem,d,Aq,e2];refine bV .nil (λ_ _=>some ([],λ_=>aI (.agg z.rf.cells))) a_ ?_;simp only[go_sem,Ar,X];refine bX rfl N Sq a_ ?_;simp only[go_sem,u,B];refine⟨a_,?_⟩;simp only[go_sem,As,wZz k];refine aJ (k+1) hlt Om Lq (e_ (e_ a_ (by simp only[go_sem,u,B])) ?_);rw[hz];simp only[go_sem,u,B]
     ·have d:¬(k:Int)<(Z' rs:Nat):=Om;have K:k=Z' rs:=Om;subst K;have t3:(b.map RF.v).take rs.length=b.map RF.v:=by rw[biK (by rw[bhO];omega)]
      have t4:(rs.map bjA).take rs.length=rs.map bjA:=by rw[biK (by rw[bhO];exact bhV _)]
      rw[t3,t4];simp only[go_sem,d,Au,u,B];exact bE (.inr rfl) .nil (by simp only[go_sem,u,B];rfl) a_ ⟨.refl _,rfl⟩
abbrev yQ:List PV:=[.bool false,.aK,.aK]
theorem zV{f:aD}{bgP lv cnt:Int}{prices:List RF}{e:Int}{res:List eE}(i:e≠0)(h:uD f bgP lv cnt prices=e){F:PF}{H:PH}(d:eE.evs F H res=some [.aK,.agg yQ,.int .i64 e]) :
  aZ res (cM (vZ f bgP lv cnt prices)) .ret F H:=by
 have l:vZ f bgP lv cnt prices=.tup [ints [],.agg (eZ false [] []),.int .i64 e]:=by unfold vZ yE;rw[h,aE i];show PV.tup [ints [],.agg (eZ false (aL 0) (aL 0)),.int .i64 e]=_;rw[fG]
 rw[l];exact bE (.inr rfl) .nil d a_ ⟨CoL.tup (.cons (.nil 1) (.cons (CoL.agg (.cons (.refl _) (.cons (.nil 1) (.cons (.nil 1) .nil)))) (.cons (.refl _) .nil))),rfl⟩
def Wv:Option (List Int)->PV
 |none=>.aK
 |some s=>ints s
theorem Ai:Wv none=.aK:=(rfl)
theorem AR(s:List Int):Wv (some s)=ints s:=(rfl)
def Ah(d:List Int->FV):Option (List Int)->List PV
 |none=>yQ
 |some s=>(d s).rf.cells
theorem aIY{f:aD}{bgP lv cnt:Int}{prices:List RF}{res:List eE}(h:uD f bgP lv cnt prices=0){s:List Int}(hb:pB (tQ f bgP lv cnt prices) (jZ f (dW f bgP))=some s){F:PF}{H:PH}
  (d:eE.evs F H res=some [ints s,.agg (tQ f bgP lv cnt prices s).rf.cells,.int .i64 0]):aZ res (cM (vZ f bgP lv cnt prices)) .ret F H:=by
 have e:vZ f bgP lv cnt prices=.tup [ints s,.agg (tQ f bgP lv cnt prices s).rf.cells,.int .i64 0]:=by unfold vZ yE;rw[h,aG rfl,hb];rfl
 rw[e];exact bE (.inr rfl) .nil d a_ ⟨.refl _,rfl⟩
theorem aXM{f:aD}{p:cE}{s:List Int}(h:s∈jZ f p):Z' s=(mY p).toNat/\∀d∈s,0<=d/\d<Z' f.bgD:=by
 unfold jZ at h;obtain⟨t,u,rfl⟩:=biJ.1 (bkU.1 h).1;obtain⟨e,i,-⟩:=zJ _ _ _ t u;refine⟨by rw[jY,e],λd l=>?_⟩;obtain⟨x,w,rfl⟩:=biJ.1 l;have:=i x w;omega
theorem akO{f:aD}{p:cE}{s:List Int}(h:s∈jZ f p):s.Pairwise (· < ·):=by
 unfold jZ at h;obtain⟨t,d,rfl⟩:=biJ.1 (bkU.1 h).1;exact qq (zJ _ _ _ t d).2.2
theorem aPZ(f:aD)(p:cE)(l:Z' f.bgD<=12):(jZ f p).length<=4096:=by
 unfold jZ;refine biQ (List.length_filter_le ..) ?_;rw[bhO];have d:=KW f.bgD.length (mY p).toNat 0;have i:2^(Z' f.bgD-0)<=2^12:=blS Om Om;have e:(2:Nat)^12=4096:=by decide
 omega
theorem uk{α:Type}{d:α->FV}{l:List α}{b:α}(h:pB d l=some b):b∈l:=by
 obtain⟨r,rfl⟩:∃r,l=List.reverse r:=⟨l.reverse,by simp⟩
 induction r with
 |nil=>cases h
 |cons s r e=>
  rw[List.reverse_cons]at h ⊢;rw[ce]at h;cases hb:pB d r.reverse with
  |none =>rw[hb]at h;simp only[MW,bjV.injEq]at h;simp[h]
  |some i=>
   rw[hb]at h;unfold MW at h;simp only at h;split at h
   ·cases h;simp
   ·cases h;exact List.mem_append_left _ (e hb)
theorem iz(x:FV):val x.rf.num=x.2.1/\val x.rf.den=x.2.2/\x.rf.neg=x.1:=by
 have:=x.PW;unfold RF.v at this;obtain⟨n,a,b⟩:=x;injection this with e d
 injection d with d i
 exact⟨d,i,e⟩
theorem auV(x y:FV):wQ x.rf.neg (val x.rf.num) (val x.rf.den) y.rf.neg (val y.rf.num) (val y.rf.den)=if cC x.2.1 x.2.2&&cC y.2.1 y.2.2 then .tup [.int .i64 (pH x y),.int .i64 0]else .tup [.int .i64 0,.int .i64 1]:=by
 obtain⟨d,e,i⟩:=iz x;obtain⟨g1,g2,g3⟩:=iz y;rw[d,e,i,g1,g2,g3];rfl
theorem asM(a:Nat):cC a 0=false:=by
 cases h:cC a 0 with
 |false=>rfl
 |true=>exact absurd rfl (eY.1 h).1
theorem aLX(R:aSB C)(f:aD)(hf:f.Ok)(bgP lv cnt:Int)(prices:List RF)(hp:∀x∈prices,x.Ok)(Φ:∀x∈prices,nl (val x.num)<=8/\nl (val x.den)<=8)(c':Z' prices<=1000000) :
  OA.wp C (aZ Y4.res (cM (vZ f bgP lv cnt prices))) (g_ [.agg f.cells,.int .i64 bgP,rN lv cnt,frs prices]) .nil:=by
 have U:uD f bgP lv cnt prices=if gJ f lv cnt≠0 then gJ f lv cnt else if(decide (0<=bgP)&&decide (bgP<Z' f.bgH))&&(decide (Z' prices=Z' f.bgD)&&prices.all gW)then(if jZ f (dW f bgP)=[]then 12 else 0)else 1:=rfl
 simp only[go_sem,OA,Oe,Y4];refine aQ λJ f'=>?_;have h1:aR (h_.set J (.rows 3 [yQ])) [(J,.rows 3 [yQ])] []:=aR.nil.new (H:=h_) rfl _;generalize(h_.set J _)=H1 at *
 have N:=h1.at 0 rfl;simp only[go_sem,Of];refine aB (R.DK f lv cnt hf) Sq ?_;by_cases c:gJ f lv cnt≠0
 ·simp only[go_sem,cy,dX c,Og,N];exact zV c (by rw[U,aG c]) Sq
 have c:gJ f lv cnt=0:=Decidable.not_not.1 c;rw[aE (λh=>h c)]at U;obtain⟨Γ,V⟩:=Gz c;have bad:((decide (0<=bgP)&&decide (bgP<Z' f.bgH))&&(decide (Z' prices=Z' f.bgD)&&prices.all gW))=false->uD f bgP lv cnt prices=1:=λh=>by rw[U,h];rfl
 simp only[go_sem,cy,c,cN (show(0:Int)=0 from rfl),Oh];by_cases c1:bgP<0
 ·simp only[go_sem,c1,MA,N];exact zV aS (bad (by rw[bG (Om:¬0<=bgP)];simp)) Sq
 by_cases c2:bgP>=(Z' f.bgH:Nat)
 ·simp only[go_sem,c1,bhO,c2,MA,N];exact zV aS (bad (by rw[bG (Om:¬bgP<(Z' f.bgH:Nat))];simp)) Sq
 by_cases c3:Z' prices=Z' f.bgD
 rotate_left
 ·simp only[go_sem,c1,bhO,c2,dX (Om:(Z' prices:Int)≠(Z' f.bgD:Nat)),MA,N];exact zV aS (bad (by rw[bG c3];simp)) Sq
 simp only[go_sem,c1,bhO,c2,cN (Om:(Z' prices:Int)=(Z' f.bgD:Nat)),Oi];have ρ:lC f bgP=true:=by unfold lC;rw[Γ,bA (Om:0<=bgP),bA (Om:bgP<(Z' f.bgH:Nat))];rfl
 refine wp_loop (α:=Nat × PH) (λt=>((((((((n_.set 1 (.int .i64 bgP)).set 3 (frs prices)).set 4 (.bK f.cells)).set 9 (.ptr J 3 0 0)).set 11 (lay (gP f lv cnt))).set 56 (frs prices)).set 57 (.int .i64 (Z' prices:Nat))).set 58 (.int .i64 t.1))) (λt=>t.2)
  (λt=>t.1<=Z' prices/\(∀x∈prices.take t.1,gW x=true)/\aR t.2 [(J,.rows 3 [yQ])] []) (λt=>Z' prices-t.1) (0,H1) ⟨bhT _,(λx h=>by cases h),h1⟩ Lq b_ ?_
 rintro⟨k,H2⟩ ⟨hk,A,h2⟩;simp only at hk A h2 ⊢;have N:=h2.at 0 rfl;simp only[go_sem,Bn,Oj];by_cases hlt:k<Z' prices
 ·have u:(k:Int)<(Z' prices:Nat):=Om;have hr:(prices.map RF.cells)[k]?=some (prices[k]).cells:=by simp[hlt]
  have Θ:=R.price1 prices[k] (hp _ (bhS hlt));have Ω:prices.take (k+1)=prices.take k++[prices[k]]:=bjF hlt;have σ:prices[k]∈prices:=bhS hlt;generalize prices[k]=y at *
  simp only[go_sem,u,Ol,bhO,hr];refine aQ λg' τ=>?_;have h3:=(h2.new τ (.rows 3 [y.cells])).dropLast;have N:=h3.at 0 rfl;simp only[go_sem,On];refine aB Θ Sq ?_;cases hm:gW y with
  |false=>
   simp only[go_sem,biF,Bp,N];refine zV aS (bad ?_) Sq;have:prices.all gW=false:=by
    cases hh:prices.all gW with
    |false=>rfl
    |true=>rw[biB.1 hh _ σ]at hm;cases hm
   rw[this];simp
  |true=>
   simp only[go_sem,bhZ,Bq,wZz k];refine aJ (k+1,_) ⟨hlt,λx hx=>?_,h3⟩ (by simp only;omega) Lq b_;simp only at hx;rw[Ω]at hx;rcases bjB.1 hx with hx|hx
   ·exact A x hx
   ·rw[bjH.1 hx];exact hm
 have u:¬(k:Int)<(Z' prices:Nat):=Om;have ε:k=Z' prices:=Om;subst ε;rw[biS]at A;rw[bA (Om:0<=bgP),bA (Om:bgP<(Z' f.bgH:Nat)),bA c3,biB.2 A,bkO,bkO,aG rfl]at U;have W:Modest prices:=λx hx=>⟨(aNU (A x hx)).elim λr h=>h.2.2.2,Φ x hx⟩;obtain⟨hV,h0,hm,he⟩:=vM ρ;obtain⟨ο,ω⟩:=EU ρ;have B:=hV.bgP _ ο;have ξ:=(hf.bgP _ ο).bgE;have μ:(f.bgH.map cE.cells)[bgP.toNat]?=some (dW f bgP).cells:=by rw[biL,ω];rfl
 have Δ:bgP<(Z' f.bgH:Nat):=Om;have θ:=R.sets f (dW f bgP) hV V B.2.2.2.2.2.2.2 ξ B.1 B.2.1 B.2.2.1 B.2.2.2.1;obtain⟨b',ι⟩:=yd hV (kJ f lv) (YX hV lv).2 cnt.toNat;have Λ:gP f lv cnt=xH f (kJ f lv) cnt.toNat:=by unfold gP;rw[aG c]
 rw[<-Λ]at b' ι;have ζ:=λ(set:List Int)(h:Z' set<=1000000000000000)(hs:set.Pairwise (· < ·))=>R.loss (gP f lv cnt) set (dW f bgP).m Om (λs hs=>⟨by have:=(ι s hs).1;omega,(ι s hs).2⟩) h hs;have hP:∀set,tQ f bgP lv cnt prices set=rJ prices (oK (gP f lv cnt) set (dW f bgP).m) set:=λ_=>rfl;have K:∀set,oK (gP f lv cnt) set (dW f bgP).m<=9223372036854775807:=λset=>by have:oK (gP f lv cnt) set (dW f bgP).m<=(gP f lv cnt).length:=List.countP_le_length;omega
 have Ξ:(mY (dW f bgP)).toNat<=8/\1<=(mY (dW f bgP)).toNat:=by unfold mY;omega
 have F:=λs (h:s∈jZ f (dW f bgP))=>aXM h;have Ψ:=λs (h:s∈jZ f (dW f bgP))=>akO h;have e':=aPZ f (dW f bgP) V;simp only[go_sem,u,Br,h0,Δ,bhO,μ];refine aQ λE υ=>?_;have h3:=h2.new υ (.rows 17 [(dW f bgP).cells]);simp only[go_sem,Bs,Bt];refine aQ λw φ=>?_;have h4:=h3.new φ (.rows 3 [yQ]);generalize d':(H2.set E _).set w _=H4 at *
 have X:=h4.at 1 rfl;simp only[go_sem,Bu,X];refine aB θ Sq ?_;simp only[go_sem,bhO];have γ:∀t∈jZ f (dW f bgP),(tQ f bgP lv cnt prices t).rf.Ok/\cC (tQ f bgP lv cnt prices t).2.1 (tQ f bgP lv cnt prices t).2.2=true:=λt ht=>by have h1:=K t;have h2:=(F t ht).1;exact aMB (Yz W (n:=oK (gP f lv cnt) t (dW f bgP).m) Om t Om) Om
 generalize hS:jZ f (dW f bgP)=S at *
 generalize δ:tQ f bgP lv cnt prices=e at *
 refine wp_loop (α:=Nat × PH) (λt=>(((((((((n_.set 3 (frs prices)).set 9 (.ptr J 3 0 0)).set 11 (lay (gP f lv cnt))).set 15 (.ptr E 17 0 0)).set 16 (Wv (pB e (S.take t.1)))).set 17 (.ptr w 3 0 0)).set 74 (lay S)).set 75 (.int .i64 (Z' S:Nat))).set 76 (.int .i64 t.1))) (λt=>t.2)
  (λt=>t.1<=Z' S/\aR t.2 [(J,.rows 3 [yQ]),(E,.rows 17 [(dW f bgP).cells]),(w,.rows 3 [Ah e (pB e (S.take t.1))])] []) (λt=>Z' S-t.1) (0,H4) ⟨bhT _,h4⟩ Lq b_ ?_
 rintro⟨k,H5⟩ ⟨hk,h5⟩;simp only at hk h5 ⊢;have N:=h5.at 0 rfl;have X:=h5.at 1 rfl;have l:=h5.at 2 rfl;simp only[go_sem,Bo,Bv];by_cases hlt:k<Z' S
 ·have u:(k:Int)<(Z' S:Nat):=Om;have ν:(S.map λr=>[ints r])[k]?=some [ints S[k]]:=by simp[hlt]
  have η:S[k]∈S:=bhS hlt;obtain⟨g1,g2⟩:=F _ η;have g3:=ζ S[k] Om (Ψ _ η);have g4:=K S[k];have g5:e S[k]=rJ prices (oK (gP f lv cnt) S[k] (dW f bgP).m) S[k]:=by rw[<-δ];rfl
  have g6:=R.fr.frac (oK (gP f lv cnt) S[k] (dW f bgP).m) 1 (by unfold dL;omega) (by unfold dL;omega);rw[Q9 g4]at g6;have p:=ce e (S.take k) S[k];rw[<-bjF hlt]at p;obtain⟨κ,ψ⟩:=γ _ η;generalize hs:S[k]=s at *
  generalize oK (gP f lv cnt) s (dW f bgP).m=n at *
  simp only[go_sem,u,Bw,ν,bhO,Bx,X];refine aB g3 Sq ?_;simp only[go_sem];refine aB g6 Sq ?_;simp only[go_sem];refine aQ λa' χ=>?_;have h6:=h5.new χ (.rows 3 [(FV.rf (false,n,1)).cells]);simp only[go_sem,By,bhO];refine arE R prices hp W n Om s Om (λd hd=>by have:=g2 d hd;omega) J E w a' (lay (gP f lv cnt)) (Wv (pB e (S.take k))) (lay S) (Z' S:Nat) k [(J,.rows 3 [yQ]),(E,.rows 17 [(dW f bgP).cells]),(w,.rows 3 [Ah e (pB e (S.take k))])] _ _ _ Lq h6 λH7 h7=>?_;rw[<-g5]at h7;have l:=h7.at 2 rfl;have O:=h7.at 3 rfl;cases hb:pB e (S.take k)with
  |none=>
   have hc:=(R.fr.ord (e s).rf (FV.rf (false,0,0)) κ ⟨aX _,aX _,(by show(aL 0).length<=_;rw[fG];decide),(by show(aL 0).length<=_;rw[fG];decide)⟩);rw[auV]at hc;simp only[asM,bjE,bjW,if_false]at hc;have hz:(FV.rf (false,0,0)).cells=eZ false [] []:=by show eZ false (aL 0) (aL 0)=_;rw[fG]
   rw[hz]at hc;rw[hb]at h7 p l;have l:H7 w=some (.rows 3 [yQ]):=l;simp only[go_sem,TP,O,l,Ai];refine aB (hc.args (.cons (.refl _) (.cons (CoL.agg (.cons (.refl _) (.cons (.nil 1) (.cons (.nil 1) .nil)))) .nil))) Sq ?_;simp only[go_sem,TQ];refine bV .nil eW a_ ?_;simp only[go_sem,TR,O,l];refine⟨a_,?_⟩;simp only[go_sem,FX,wZz k];refine aJ (k+1,_) ⟨hlt,?_⟩ (by simp only;omega) (by(repeat' (first|exact c_|refine d_ ?_ ?_))<;>first|(simp only[go_sem,p,MW,AR]<;>rfl)|rfl) b_;show aR _ [(J,.rows 3 [yQ]),(E,.rows 17 [(dW f bgP).cells]),(w,.rows 3 [Ah e (pB e (S.take (k+1)))])] [];rw[p];exact(h7.set 2 rfl (.rows 3 [(e s).rf.cells])).tM 3
  |some b=>
   obtain⟨b1,b2⟩:=γ b (by rw[<-hS]at *;exact bmB (uk hb));have Z:=(F b (bmB (uk hb))).1;have hc:=R.fr.ord (e s).rf (e b).rf κ b1;rw[auV,ψ,b2,bkO,aG rfl]at hc;rw[hb]at h7 p l;have l:H7 w=some (.rows 3 [(e b).rf.cells]):=l;obtain⟨x,r,rfl⟩:∃x r,b=x::r:=by
    cases b with
    |nil=>simp at Z;omega
    |cons x r=>exact⟨x,r,rfl⟩
   have M:(ints (x::r)).uB=some false:=rfl;simp only[go_sem,TP,O,l,AR];refine aB hc Sq ?_;simp only[go_sem,TQ,M];by_cases Q:pH (e s) (e (x::r))<0
   ·have p:pB e (S.take (k+1))=some s:=by rw[p];unfold MW;simp only[aG Q]
    simp only[go_sem,Q];refine bV .nil eW a_ ?_;simp only[go_sem,TR,O,l];refine⟨a_,?_⟩;simp only[go_sem,FX,wZz k];refine aJ (k+1,_) ⟨hlt,?_⟩ (by simp only;omega) (by(repeat' (first|exact c_|refine d_ ?_ ?_))<;>first|(simp only[go_sem,p,AR]<;>rfl)|rfl) b_;show aR _ [(J,.rows 3 [yQ]),(E,.rows 17 [(dW f bgP).cells]),(w,.rows 3 [Ah e (pB e (S.take (k+1)))])] [];rw[p];exact(h7.set 2 rfl (.rows 3 [(e s).rf.cells])).tM 3
   ·have p:pB e (S.take (k+1))=some (x::r):=by rw[p];unfold MW;simp only[aE Q]
    simp only[go_sem,Q,FX,wZz k];refine aJ (k+1,_) ⟨hlt,?_⟩ (by simp only;omega) (by(repeat' (first|exact c_|refine d_ ?_ ?_))<;>first|(simp only[go_sem,p,AR]<;>rfl)|rfl) b_;show aR _ [(J,.rows 3 [yQ]),(E,.rows 17 [(dW f bgP).cells]),(w,.rows 3 [Ah e (pB e (S.take (k+1)))])] [];rw[p];exact h7.tM 3
 have u:¬(k:Int)<(Z' S:Nat):=Om;have ε:k=Z' S:=Om;subst ε;rw[biS]at h5 l;simp only[go_sem,u,biS];cases hb:pB e S with
 |none=>
  have Y:S=[]:=by
   rcases Nn e S (λt ht=>(eY.1 (γ t ht).2).1)with⟨-,h⟩|⟨i,b,h,-⟩
   ·exact h
   ·rw[h]at hb;cases hb
  rw[aG Y]at U;simp only[go_sem,TS,Ai,B7,N];exact zV aS U Sq
 |some b=>
  have β:=uk hb;have Y:¬S=[]:=λh=>by rw[h]at β;cases β
  have Z:=(F b β).1;rw[aE Y]at U;rw[hb]at l;have l:H5 w=some (.rows 3 [(e b).rf.cells]):=l;have M:(ints b).uB=some false:=by
   cases b with
   |nil=>simp at Z;omega
   |cons x r=>rfl
  simp only[go_sem,TS,AR,M];refine bV .nil eW a_ ?_;simp only[go_sem,B8,N,l];refine⟨a_,?_⟩;rw[<-δ,<-hS]at hb;rw[<-δ];exact aIY U hb Sq









noncomputable def aJR:aD:=(kO [] 1 0 0).1

theorem asH(n k a:Nat)(h:a<n):eT n (k+1) a=(eT n k (a+1)).map (a::·)++eT n (k+1) (a+1):=by
 rw[eT];by_cases c:n-k-a=0
 ·have d:n-k-(a+1)=0:=Om;rw[eT,c,d];have:eT n k (a+1)=[]:=by
   cases k with
   |zero=>omega
   |succ k=>rw[eT,show n-k-(a+1)=0 by omega];rfl
  rw[this];rfl
 ·obtain⟨m,e⟩:∃m,n-k-a=m+1:=⟨n-k-a-1,by omega⟩;rw[eT,e,List.range'_succ,List.flatMap_cons,show n-k-(a+1)=m by omega]
def Grow(P:List Nat->Bool):Prop:=∀s t:List Nat,(∀x∈s,x∈t)->P s=true->P t=true
theorem Grow.cons{P:List Nat->Bool}(h:Grow P)(a:Nat):Grow λs=>P (a::s):=λs t d l=>
 h (a::s) (a::t) (λx i=>(biG.1 i).elim (λe=>e ▸ List.mem_cons_self) λi=>List.mem_cons_of_mem _ (d x i)) l
def mG(n k a:Nat)(P:List Nat->Bool):Nat:=(eT n k a).countP P
theorem JH(n k a:Nat)(h:a<n)(P:List Nat->Bool):mG n (k+1) a P=mG n k (a+1) (λs=>P (a::s))+mG n (k+1) (a+1) P:=by
 unfold mG;rw[asH n k a h,blO,List.countP_map];rfl
theorem aLV(n k a:Nat){P Q:List Nat->Bool}(h:∀s,P s=true->Q s=true):mG n k a P<=mG n k a Q:=List.countP_mono_left λs _ d=>h s d
theorem NZ(n a:Nat)(P:List Nat->Bool):mG n 0 a P=if P []then 1 else 0:=by
 unfold mG;rw[eT,blK,List.countP_nil,biN]
theorem TK(n:Nat):∀(m k a:Nat)(P:List Nat->Bool),Grow P->a+m=n->(m-k)*mG n k a P<=(k+1)*mG n (k+1) a P
 |0,k,a,P,_,_=>by rw[Nat.zero_sub,Nat.zero_mul];exact bhT _
 |m+1,0,a,P,d,h=>by
  rw[JH n 0 a Om,NZ,NZ];have i:=TK n m 0 (a+1) P d Om;rw[NZ]at i;cases hp:P []with
  |false=>rw[aE bH];omega
  |true =>have l:P [a]=true:=d [] [a] (λx e=>by cases e) hp;rw[aG hp]at i;rw[aG rfl,aG l];omega
 |m+1,k+1,a,P,d,h=>by
  have A:=TK n m (k+1) (a+1) P d Om;have B:=TK n m k (a+1) (λs=>P (a::s)) (d.cons a) Om;have p:=aLV n (k+1) (a+1) (P:=P) (Q:=λs=>P (a::s)) λs u=>d s (a::s) (λx e=>List.mem_cons_of_mem _ e) u;rw[JH n k a Om,JH n (k+1) a Om];generalize mG n (k+1) (a+1) P=x at *
  generalize mG n (k+1+1) (a+1) P=y at *
  generalize mG n k (a+1) (λs=>P (a::s))=z at *
  generalize mG n (k+1) (a+1) (λs=>P (a::s))=w at *
  rw[show m+1-(k+1)=m-k by omega,biH,biH];have E:(m-k)*x<=(m-(k+1))*x+x:=by
   rcases biR k m with c|c
   ·rw[show m-k=(m-(k+1))+1 by omega,bkI];exact bhV _
   ·rw[show m-k=0 by omega,Nat.zero_mul];exact bhT _
  have e2:(k+1+1)*w=(k+1)*w+w:=bkI _ _;omega
theorem aSV{n k:Nat}{P:List Nat->Bool}(i:Grow P)(h:2*k+1<=n):mG n k 0 P<=mG n (k+1) 0 P:=by
 have d:=TK n n k 0 P i Om;have e:(k+1)*mG n k 0 P<=(n-k)*mG n k 0 P:=biX _ Om;exact Nat.le_of_mul_le_mul_left (biQ e d) Om
theorem aeU(f:aD)(u:L2_)(k:Nat)(set:List Int)(m:Int):oK (xH f u k) set m=mG u.length k 0 λs=>decide (((qY (cT ((bhP f.bgD.length).filter (wP u s))) set:Nat):Int)>m):=by
 unfold oK xH mG;rw[List.countP_map];rfl
theorem aNM{f:aD}{u:L2_}{k:Nat}{set:List Int}{m:Int}(h:2*k+1<=Z' u):oK (xH f u k) set m<=oK (xH f u (k+1)) set m:=by
 rw[aeU,aeU];refine aSV (λs t p y=>?_) h;have A:=of_decide_eq_true y;refine bA ?_;have:qY (cT ((bhP f.bgD.length).filter (wP u s))) set<=qY (cT ((bhP f.bgD.length).filter (wP u t))) set:=by unfold qY;refine List.countP_mono_left λd _ l=>?_;rw[List.contains_iff_mem]at l ⊢;unfold cT at l ⊢;rw[biJ]at l ⊢;obtain⟨x,e,rfl⟩:=l;refine⟨x,?_,rfl⟩;rw[bkU]at e ⊢;refine⟨e.1,?_⟩;unfold wP at e ⊢;rw[List.any_eq_true]at e ⊢;obtain⟨-,i,hi,w⟩:=e;exact⟨i,p i hi,w⟩
 omega
def lvC(L:Int)(ds:List cS):Nat:=ds.countP λx=>decide (x.level=L)
theorem aVG(f:aD)(L:Int):((bhP f.bgG.length).filter λi=>decide (lvl f i=L)).length=lvC L f.bgG:=by
 rw[<-List.countP_eq_length_filter];unfold lvC lvl;have e:∀(ds:List cS),(bhP ds.length).countP (λi=>decide ((ds.map cS.level).getD i 0=L))=ds.countP λx=>decide (x.level=L):=by
  intro ds
  induction ds with
  |nil=>rfl
  |cons d ds l =>rw[bjL,List.range_succ_eq_map,blK,List.countP_map,blK,<-l];rfl
 exact e f.bgG
theorem Yn:∀m:Fin 10,∀c:Fin 4,gU (m.val:Int) c.val<=512:=by decide
theorem aQU(f:aD)(lv:Int):(kJ f lv).length=if lv=5 then f.bgD.length else lvC lv f.bgG:=by
 unfold kJ;split
 ·simp
 ·rw[bhO];exact aVG f lv
structure LQ(f:aD):Prop where
 ok:f.Ok
 valid:dC f=true
 bgD:Z' f.bgD<=9
 lv:∀L:Int,1<=L->L<=4->lvC L f.bgG<=8
theorem LQ.num{f:aD}(h:LQ f){lv:Int}(d:1<=lv)(h5:lv<=5):(kJ f lv).length<=9:=by
 rw[aQU];split
 ·exact h.bgD
 ·have:=h.lv lv d Om;omega
theorem LQ.DK{f:aD}(h:LQ f){lv:Int}(d:1<=lv)(h5:lv<=5){c:Nat}(i:1<=c)(l:c<=3):gJ f lv c=0:=by
 have p:=h.num d h5;have e:=Yn ⟨(kJ f lv).length,by omega⟩ ⟨c,by omega⟩;simp only at e;unfold gJ;rw[h.valid,bA d,bA h5,bA (Om:(1:Int)<=(c:Int)),bA (Om:(c:Int)<=3),bkO,bkO,bkO,bkO,aG rfl,bjN,aE];have:=h.bgD;omega
theorem LQ.all{f:aD}(h:LQ f){p:Int}(e:lC f p=true):SZ f p=0/\J8 f p=jZ f (dW f p):=by
 have d:SZ f p=0:=by unfold SZ;rw[e,aG rfl,aE];have:=h.bgD;omega
 exact⟨d,by unfold J8;rw[aG d]⟩
theorem aSJ{s:List Nat}{n top:Nat}(l:Z' s=n)(p:∀x∈s,x<top)(u:s.Pairwise (· < ·)):qL (cT s) n top=true:=by
 unfold qL;rw[jY,l,bA rfl,biA];simp only[biB,biM];intro i hi;have d:i<Z' s:=Om;have g:(cT s).getD i 0=(s[i]:Nat):=by unfold cT;simp[bhX,d]
 unfold qX;rw[g];have w:=p _ (bhS d);simp only[bhQ,blI,dT_];refine⟨by omega,?_⟩;by_cases c:i=0
 ·exact .inl c
 ·right;have e:i-1<Z' s:=Om;have g2:(cT s).getD (i-1) 0=(s[i-1]:Nat):=by unfold cT;simp[bhX,e]
  rw[g2];have:=List.pairwise_iff_getElem.1 u (i-1) i e d Om;omega
theorem akP{f:aD}{p:Int}(d:lC f p=true){set:List Int}(h:set∈jZ f (dW f p)):sB f p set=true/\Z' set<=8:=by
 obtain⟨hV,-⟩:=vM d;have i:=hV.bgP _ (EU d).1;unfold jZ at h;rw[bkU]at h;obtain⟨l,u⟩:=h;obtain⟨s,w,rfl⟩:=biJ.1 l;obtain⟨k1,k2,A⟩:=zJ _ _ _ _ w;have e:((mY (dW f p)).toNat:Int)=mY (dW f p):=by unfold mY;omega
 have:=aSJ k1 (λx y=>(k2 x y).2) A;rw[e]at this;refine⟨by unfold sB;rw[d,this,u];rfl,?_⟩;rw[jY,k1];unfold mY;omega
theorem LQ.more{f:aD}(h:LQ f){p:Int}(u:lC f p=true){lv:Int}(e:1<=lv)(h5:lv<=5){c:Nat}(l:1<=c)(y:c<=2)(w:2*c+1<=(kJ f lv).length){set:List Int}(x:set∈jZ f (dW f p)) :
  sJ f p set lv c=0/\sJ f p set lv ((c+1:Nat):Int)=0/\rU f p set lv c<=rU f p set lv ((c+1:Nat):Int):=by
 have s1:=h.DK e h5 l (Om:c<=3);have s2:=h.DK e h5 (Om:1<=c+1) (Om:c+1<=3);obtain⟨i,-⟩:=akP u x;have d:sJ f p set lv c=0:=by unfold sJ;rw[s1,i];rfl
 have e2:sJ f p set lv ((c+1:Nat):Int)=0:=by unfold sJ;rw[s2,i];rfl
 refine⟨d,e2,?_⟩;unfold rU gP;rw[aG d,aG e2,aG s1,aG s2,bjN,bjN];exact aNM w

theorem EB(f:aD)(lv cnt:Int):(gP f lv cnt).length<=1099511627776/\∀w∈gP f lv cnt,Z' w<=1000:=by
 unfold gP;split
 ·rename_i h;unfold gJ at h;split at h
  ·rename_i e;simp only[bhQ]at e;have hV:=VF.of e.1;obtain⟨k1,k2⟩:=yd hV (kJ f lv) (YX hV lv).2 cnt.toNat;exact⟨k1,λw d=>by have:=(k2 w d).1;omega⟩
  ·cases h
 ·exact⟨by simp,λw d=>by cases d⟩
theorem a2U(n:Nat):mkT n 1=FV.rf (false,n,1):=by
 rw[IK,Int.natAbs_natCast,bG (Om:¬(n:Int)<0)];rfl
theorem a6Z(x y:FV):sV x.rf y.rf=pH x y:=by
 obtain⟨d,e,i⟩:=iz x;obtain⟨g1,g2,g3⟩:=iz y;unfold sV;rw[d,e,i,g1,g2,g3];rfl
theorem apA{x:FV}(h:cC x.2.1 x.2.2=true):x.rf.valid:=by
 obtain⟨d,e,i⟩:=iz x;unfold RF.valid;rw[d,e];exact h
section
variable {C:Ctx} {F:PF} {H:PH}
end
theorem a2T(n d:Int)(i:dL n)(e:dL d)(u:d≠0):(mkT n d).Ok/\nl (val (mkT n d).num)<=8/\nl (val (mkT n d).den)<=8:=by
 have l:nl n.natAbs<=2:=jM (by unfold dL at i;omega);have p:nl d.natAbs<=2:=jM (by unfold dL at e;omega);unfold mkT pF FV.rf;simp only;have w:=yC (bhR n.natAbs d.natAbs) l;have x:=yC (bhR n.natAbs d.natAbs) p;refine⟨⟨aX _,aX _,?_,?_⟩,?_,?_⟩
 ·simp only[bF];omega
 ·simp only[bF];omega
 ·simp only[aV];omega
 ·simp only[aV];omega
abbrev SC(l:List RF):P2_:=l.map RF.cells
theorem arJ(l:List RF)(h:Z' l<=1000):roomFor (SC l).length 1 56:=by
 unfold roomFor;simp only[bhO,maxLen];omega
def Sx(x:FV)(z:Int):Prop:=x.2.2≠0/\bhR x.2.1 x.2.2=1/\6*sgF x=z*(x.2.2:Nat)
theorem a4L(x:FV):(sgF x).natAbs=x.2.1:=by
 unfold sgF;split<;>omega
theorem Sx.le{x:FV}{z:Int}(h:Sx x z):x.2.2<=6/\x.2.1<=z.natAbs:=by
 obtain⟨p,e,i⟩:=h;have d:6*x.2.1=z.natAbs*x.2.2:=by have:=congrArg Int.natAbs i;rw[Int.natAbs_mul,Int.natAbs_mul,a4L,Int.natAbs_natCast]at this;exact this
 have l:x.2.2 ∣ 6:=by have:x.2.2 ∣ 6*x.2.1:=⟨z.natAbs,by rw[d,biW]⟩;exact Nat.Coprime.dvd_of_dvd_mul_right (by rw[Nat.coprime_iff_gcd_eq_one,Nat.gcd_comm];exact e) this
 have h5:=Nat.le_of_dvd aS l;refine⟨h5,?_⟩;have:6*x.2.1<=6*z.natAbs:=by rw[d,biW 6];exact bkH _ h5
 omega
theorem Sx.valid{x:FV}{z:Int}(h:Sx x z)(i:z.natAbs<1152921504606846976):cC x.2.1 x.2.2=true:=by
 obtain⟨d,e⟩:=h.le;have a1:nl x.2.1<=2:=jM Om;have a2:nl x.2.2<=2:=jM Om;exact eY.2 ⟨h.1,by omega,by omega⟩
theorem aNN{neg:Bool}{a b:Nat}{z:Int}(hb:b≠0)(h:6*(if neg then -(a:Int)else a)=z*(b:Nat)):Sx (pF neg a b) z:=by
 have A:0<bhR a b:=Nat.gcd_pos_of_pos_right _ Om;obtain⟨d,y⟩:=Nat.gcd_dvd_left a b;obtain⟨i,e⟩:=Nat.gcd_dvd_right a b;have x:a/bhR a b=d:=by
  conv=>lhs;arg 1;rw[y]
  exact Nat.mul_div_cancel_left _ A
 have e2:b/bhR a b=i:=by
  conv=>lhs;arg 1;rw[e]
  exact Nat.mul_div_cancel_left _ A
 have p:bhR d i=1:=by rw[<-x,<-e2];exact Nat.gcd_div_gcd_div_gcd_of_pos_right Om
 unfold pF;rw[x,e2];refine⟨λl=>hb (by rw[e];simp only at l;rw[l,Nat.mul_zero]),p,?_⟩;have E:sgF (neg&&decide (d≠0),d,i)=if neg then -(d:Int)else d:=by
  unfold sgF;by_cases l:d=0
  ·rw[l];cases neg<;>rfl
  ·cases neg<;>simp[l]
 rw[E];have u:((bhR a b:Nat):Int)≠0:=Om;refine Int.eq_of_mul_eq_mul_right u ?_;have w:(a:Int)=(bhR a b:Nat)*(d:Nat):=by have:=congrArg (Nat.cast (R:=Int)) y;rw[Int.natCast_mul]at this;exact this
 have B:(b:Int)=(bhR a b:Nat)*(i:Nat):=by have:=congrArg (Nat.cast (R:=Int)) e;rw[Int.natCast_mul]at this;exact this
 generalize F:((bhR a b:Nat):Int)=G at *
 rw[B]at h;rw[bkJ z,Int.mul_comm (i:Int),<-h];cases neg
 ·rw[aE aS,aE aS,w,Int.mul_comm G,bkJ]
 ·rw[aG rfl,aG rfl,w,Int.mul_comm G,bkJ,Int.neg_mul]
theorem axE{neg:Bool}{a b:Nat}{z:Int}(hb:b≠0)(h:6*(if neg then -(a:Int)else a)=z*(b:Nat))(l:z.natAbs<1152921504606846976):∃r,jP neg a b=.ok r/\Sx r z:=by
 have d:=aNN hb h;have p:=d.valid l;refine⟨_,?_,d⟩;obtain⟨e,i⟩:=d.le;unfold pF at e i;simp only at e i;have a1:nl (a/bhR a b)<=2:=jM Om;have a2:nl (b/bhR a b)<=2:=jM Om;have b1:=(jT (a/bhR a b) 128).2 Om;have b2:=(jT (b/bhR a b) 128).2 Om;unfold jP;rw[aE Om];rfl
theorem aLH{x y:FV}{z w:Int}(u:Sx x z)(B:Sx y w)(N:z.natAbs<1152921504606846976)(O:w.natAbs<1152921504606846976)(Q:(z+w).natAbs<1152921504606846976):∃r,gY x y=.ok r/\Sx r (z+w):=by
 have E:=u.valid N;have F:=B.valid O;obtain⟨l,a1,b1⟩:=x;obtain⟨p,a2,b2⟩:=y;obtain⟨H,-,J⟩:=u;obtain⟨K,-,M⟩:=B;simp only at E F H K J M;have hb:b1*b2≠0:=Nat.mul_ne_zero H K;have i:∀(neg:Bool)(A:Nat),(if neg then -(A:Int)else A)=sgF (l,a1,b1)*(b2:Nat)+sgF (p,a2,b2)*(b1:Nat)->∃r,jP neg A (b1*b2)=.ok r/\Sx r (z+w):=by
  intro neg A e;refine axE hb ?_ Q;rw[e,Int.mul_add,<-bkJ,<-bkJ,J,M,Int.natCast_mul,Int.add_mul];congr 1
  ·rw[bkJ]
  ·rw[bkJ,Int.mul_comm (b2:Int)]
 simp only[gY,E,F,bkO,if_true];split
 ·rename_i e;subst e;refine i _ _ ?_;unfold sgF;cases l
  ·simp[Int.natCast_add]
  ·simp[Int.natCast_add,Int.neg_add,Int.neg_mul]
 ·rename_i e;split
  ·rename_i d;refine i _ _ ?_;unfold sgF;cases l<;>cases p<;>simp only[bjW,not_true_eq_false,if_true,if_false]at e ⊢
   ·rw[Int.ofNat_sub d,Int.natCast_mul,Int.natCast_mul,Int.neg_mul];omega
   ·rw[Int.ofNat_sub d,Int.natCast_mul,Int.natCast_mul,Int.neg_mul];omega
  ·rename_i d;refine i _ _ ?_;unfold sgF;cases l<;>cases p<;>simp only[bjW,not_true_eq_false,if_true,if_false]at e ⊢
   ·rw[Int.ofNat_sub Om,Int.natCast_mul,Int.natCast_mul,Int.neg_mul];omega
   ·rw[Int.ofNat_sub Om,Int.natCast_mul,Int.natCast_mul,Int.neg_mul];omega
theorem a6S{x:FV}{z:Int}(h:Sx x z):Sx (aiA x) (-z):=by
 obtain⟨n,a,b⟩:=x;obtain⟨d,i,l⟩:=h;refine⟨d,i,?_⟩;show 6*sgF (!n,a,b)=_;have e:sgF (!n,a,b)=- sgF (n,a,b):=by unfold sgF;cases n<;>simp
 rw[e,Int.mul_neg,l,Int.neg_mul];rfl
theorem a7V{x y:FV}{z w:Int}(l:Sx x z)(p:Sx y w)(d:z.natAbs<1152921504606846976)(u:w.natAbs<1152921504606846976)(A:(z-w).natAbs<1152921504606846976):Sx (KV x y).got (z-w):=by
 obtain⟨r,e,i⟩:=aLH l (a6S p) d Om Om;unfold KV;rw[e];exact i
theorem KK(n:Nat):Sx (false,n,1) (6*n):=⟨Nat.one_ne_zero,Nat.gcd_one_right n,by show(6:Int)*(n:Int)=6*n*((1:Nat):Int);omega⟩
theorem a6Q{x:FV}{z:Int}(l:Sx x z)(n:Nat)(w:z.natAbs<1152921504606846976)(H:n<192153584101141162)(y:(z*n).natAbs<1152921504606846976):Sx (BI x (false,n,1)).got (z*n):=by
 have p:=l.valid w;have E:cC n 1=true:=(KK n).valid Om;obtain⟨d,a1,b1⟩:=x;obtain⟨F,-,u⟩:=l;simp only at p F u;have i:∃r,jP (d != false) (a1*n) (b1*1)=.ok r/\Sx r (z*n):=by
  refine axE Om ?_ y;rw[blB];have e:(if(d != false)=true then -((a1*n:Nat):Int)else((a1*n:Nat):Int))=sgF (d,a1,b1)*(n:Nat):=by unfold sgF;cases d<;>simp[Int.neg_mul]
  rw[e,<-bkJ,u,bkJ,bkJ,Int.mul_comm (b1:Int)]
 obtain⟨r,A,B⟩:=i;simp only[BI,p,E,bkO,if_true];rw[A];exact B
theorem a3Y{s x:FV}{z w:Int}(A:Sx s z)(B:Sx x w)(n:Nat)(e:z.natAbs<1152921504606846976)(i:w.natAbs<1152921504606846976)(p:n<192153584101141162)(d:(w*n).natAbs<1152921504606846976)(l:(z+w*n).natAbs<1152921504606846976):Sx (BP s x n) (z+w*n):=by
 obtain⟨r,y,u⟩:=aLH A (a6Q B n i p d) e d l;unfold BP;rw[y];exact u
theorem Gl{x y:FV}{z w:Int}(d:Sx x z)(e:Sx y w):pH x y<0↔z<w:=by
 rw[(xD d.1 e.1).1];obtain⟨H,-,u⟩:=d;obtain⟨J,-,E⟩:=e;have i:0<(x.2.2:Int):=Om;have l:0<(y.2.2:Int):=Om;have F:6*(sgF x*(y.2.2:Nat))=z*((x.2.2:Nat)*(y.2.2:Nat)):=by rw[<-bkJ,u,bkJ]
 have e2:6*(sgF y*(x.2.2:Nat))=w*((x.2.2:Nat)*(y.2.2:Nat)):=by rw[<-bkJ,E,bkJ,Int.mul_comm (y.2.2:Int)]
 have p:0<(x.2.2:Int)*(y.2.2:Nat):=Int.mul_pos i l;generalize(x.2.2:Int)*(y.2.2:Nat)=P at *
 generalize sgF x*(y.2.2:Int)=A at *
 generalize sgF y*(x.2.2:Int)=B at *
 constructor
 ·intro h;refine Int.lt_of_mul_lt_mul_right (a:=P) ?_ Om;omega
 ·intro h;have:=Int.mul_lt_mul_of_pos_right h p;omega
def oG:Nat->(Nat->Int)->Int
 |0,_=>0
 |n+1,g=>oG n g+g n
theorem y6{g:Nat->Int}{B:Nat}:∀{n:Nat},(∀i,i<n->(g i).natAbs<=B)->(oG n g).natAbs<=n*B
 |0,_=>by simp[oG]
 |n+1,h=>by have d:=y6 (g:=g) (B:=B) (n:=n) λi hi=>h i Om;have e:=h n Om;rw[oG,bkI];omega
theorem atW{xs:List FV}{ns:List Nat}{s:FV}{z:Int}{g:Nat->Int}{B:Nat}(p:Z' xs=Z' ns)(x:Sx s z)(y:∀i (h:i<Z' xs),Sx xs[i] (g i)/\(g i).natAbs<=100)(w:∀n∈ns,n<=B)(hB:B<=1000000000)(u:Z' xs<=1000)(M:z.natAbs<=100000000000000) :
  Sx (oI s xs ns) (z+oG xs.length λi=>g i*(ns.getD i 0:Nat)):=by
 have l:∀k,k<=Z' xs->Sx (oI s (xs.take k) (ns.take k)) (z+oG k λi=>g i*(ns.getD i 0:Nat))/\(oG k λi=>g i*(ns.getD i 0:Nat)).natAbs<=k*(100*B):=by
  intro k
  induction k with
  |zero =>intro _;refine⟨?_,by simp[oG]⟩;show Sx s (z+0);rw[Int.add_zero];exact x
  |succ k E=>
   intro K;obtain⟨A,N⟩:=E Om;obtain⟨F,H⟩:=y k Om;have d:k<Z' ns:=Om;have J:=w _ (bhS d);have e:ns.getD k 0=ns[k]:=by simp[bhX,d]
   rw[Pa s Om d,oG,e];generalize(oG k λi=>g i*(ns.getD i 0:Nat))=S at *
   have O:(g k*(ns[k]:Nat)).natAbs<=100*B:=by rw[Int.natAbs_mul,Int.natAbs_natCast];exact blA H J
   have Q:k*(100*B)<=1000*(100*B):=biX _ Om;rw[bkI];refine⟨?_,by omega⟩;rw[<-Int.add_assoc];refine a3Y A F _ Om Om Om Om Om
 have h:=(l xs.length (bhV _)).1;rw[biS,p,biS]at h;rw[p];exact h
def sF(g:Int->Int):List Int->Int
 |[]=>0
 |x::t=>g x+sF g t
theorem QE(g:Int->Int):∀l t:List Int,sF g (l++t)=sF g l+sF g t
 |[],t=>by simp[sF]
 |x::l,t=>by rw[List.cons_append,sF,sF,QE g l t,Int.add_assoc]
theorem yz{g:Int->Int}{B:Nat}(h:∀x,(g x).natAbs<=B):∀l:List Int,(sF g l).natAbs<=Z' l*B
 |[]=>by simp[sF]
 |x::l=>by have d:=yz h l;have e:=h x;rw[sF,bjL,bkI];omega
theorem a0V{b:List RF}{g:Int->Int}(hb:∀d,Sx (jC b d) (g d)/\(g d).natAbs<=100)(n:Nat)(y:n<=100000000000000):∀l:List Int,Z' l<=1000->Sx (rJ b n l) (6*n-sF g l):=by
 intro l i;obtain⟨r,rfl⟩:∃r,l=List.reverse r:=⟨l.reverse,by simp⟩
 induction r with
 |nil =>show Sx (false,n,1) (6*n-0);rw[Int.sub_zero];exact KK n
 |cons d r u=>
  rw[List.reverse_cons]at i ⊢;rw[bhW,biC]at i;have p:=u Om;have A:=yz (λx=>(hb x).2) r.reverse;obtain⟨w,E⟩:=hb d;have B:Z' r.reverse*100<=1000*100:=biX _ Om;rw[FU,QE];have e:(6*(n:Int)-(sF g r.reverse+sF g [d]))=6*(n:Int)-sF g r.reverse-g d:=by show 6*(n:Int)-(_+(g d+0))=_;omega
  rw[e];exact a7V p w Om Om Om
def lM:Nat->List Int->List Int
 |0,row=>row.filter λ(x:Int)=>decide (x=-1)
 |n+1,row=>lM n row++row.filter λ(x:Int)=>decide (x=(n:Int))
theorem YF(p:Int->Bool)(row:List Int):∀n:Nat,(lM n row).countP p=row.countP λx=>p x&&(decide (-1<=x)&&decide (x<n))
 |0=>by rw[lM,List.countP_filter];refine List.countP_congr λx _=>?_;simp only[bhQ,dT_];exact and_congr_right λ_=>by omega
 |n+1=>by
  rw[lM,blO,YF p row n,List.countP_filter]
  induction row with
  |nil=>rfl
  |cons x t l=>
   rw[blK,blK,blK];have i:((if(p x&&(decide (-1<=x)&&decide (x<(n:Int))))=true then 1 else 0)+(if(p x&&decide (x=(n:Int)))=true then 1 else 0):Nat)=if(p x&&(decide (-1<=x)&&decide (x<((n+1:Nat):Int))))=true then 1 else 0:=by
    cases p x with
    |false=>simp
    |true=>
     simp only[biA,bhQ,dT_];by_cases d:-1<=x/\x<(n:Int)
     ·rw[aG d,aE Om,aG Om]
     ·rw[aE d];by_cases e:x=(n:Int)
      ·rw[aG e,aG Om]
      ·rw[aE e,aE Om]
   omega
theorem yf{row:List Int}{n:Nat}(h:∀x∈row,-1<=x/\x<n)(p:Int->Bool):(lM n row).countP p=row.countP p:=by
 rw[YF];refine List.countP_congr λx d=>?_;have:=h x d;simp only[bhQ,dT_];exact⟨λh=>h.1,λh=>⟨h,this⟩⟩
theorem akZ{row:List Int}{n:Nat}(h:∀x∈row,-1<=x/\x<n){x:Int}(i:x∈lM n row):x∈row:=by
 have d:0<(lM n row).countP λy=>decide (y=x):=List.countP_pos_iff.2 ⟨x,i,by simp⟩;rw[yf h]at d;obtain⟨y,l,e⟩:=List.countP_pos_iff.1 d;rw[dT_]at e;exact e ▸ l
theorem aXN{row:List Int}{n:Nat}(h:∀x∈row,-1<=x/\x<n):(lM n row).length=Z' row:=by
 have:=yf h λ_=>true;simpa using this
theorem aAL(row:List Int):∀n:Nat,∀x∈lM n row,x<n
 |0,x,hx=>by have:=(bkU.1 hx).2;rw[dT_]at this;omega
 |n+1,x,hx=>by
  rw[lM,bjB]at hx;rcases hx with hx|hx
  ·have:=aAL row n x hx;omega
  ·have:=(bkU.1 hx).2;rw[dT_]at this;omega
theorem aAD{l:List Int}{a:Int}(h:∀x∈l,x=a):l.Pairwise (·<=·):=by
 induction l with
 |nil=>exact .nil
 |cons y t i =>refine List.pairwise_cons.2 ⟨λz e=>?_,i λx d=>h x (List.mem_cons_of_mem _ d)⟩;rw[h y bH,h z (List.mem_cons_of_mem _ e)];exact Int.le_refl _
theorem sr(row:List Int):∀n:Nat,(lM n row).Pairwise (·<=·)
 |0=>aAD (a:=-1) λx d=>by
  have:=(bkU.1 d).2
  rwa[dT_]at this
 |n+1=>by
  have e:∀x∈row.filter λx=>decide (x=(n:Int)),x=n:=λx d=>by
   have:=(bkU.1 d).2
   rwa[dT_]at this
  rw[lM];refine List.pairwise_append.2 ⟨sr row n,aAD e,λx d y i=>?_⟩;have:=aAL row n x d;rw[e y i];omega
theorem a6A{set:List Int}{n top:Int}(e:(Z' set:Int)=n)(l:∀x∈set,0<=x/\x<top)(p:set.Pairwise (· < ·)):qL set n top=true:=by
 unfold qL;rw[bA e,biA];simp only[biB,biM];intro i hi;have g:set.getD i 0=set[i]:=by simp[bhX,hi]
 unfold qX;rw[g];have u:=l _ (bhS hi);simp only[bhQ,blI,dT_];refine⟨u,?_⟩;by_cases c:i=0
 ·exact .inl c
 ·right;have d:i-1<Z' set:=Om;have g2:set.getD (i-1) 0=set[i-1]:=by simp[bhX,d]
  rw[g2];exact List.pairwise_iff_getElem.1 p (i-1) i d hi Om
theorem uh{set:List Int}{n top:Int}(h:qL set n top=true):∀x∈set,0<=x:=by
 unfold qL at h;simp only[bhQ,dT_,biB,biM]at h;intro x d;obtain⟨i,hi,rfl⟩:=bjD d;have:=h.2 i hi;unfold qX at this;have g:set.getD i 0=set[i]:=by simp[bhX,hi]
 rw[g]at this;simp only[bhQ,dT_]at this;exact this.1.1
def nB(f:aD)(v:Nat):Int:=(f.bgF.map eG.bgP).getD v 0
theorem apO{f:aD}(v:Nat):dW f (nB f v)=kI f v:=rfl
theorem a0I{f:aD}(V:dC f=true){v:Nat}(H:v<Z' f.bgF){row:List Int}(K:(Z' row:Int)=kF f v)(F:∀x∈row,-1<=x/\x<Z' f.bgD) :
  sB f (nB f v) (lM f.bgD.length row)=i5 f (kI f v) row:=by
 have hV:=VF.of V;obtain⟨hp,he⟩:=vY hV H;have E:=hV.bgP _ (bhS hp);rw[he]at E;have X:=hV.volume v H;have W:nB f v=(f.bgF[v]).bgP:=by unfold nB;simp[bhX,H]
 have O:lC f (nB f v)=true:=by unfold lC;have:zD f v=(nB f v).toNat:=rfl;rw[V,bA (show 0<=nB f v by rw[W];exact X.1),bA (Om:nB f v<(Z' f.bgH:Nat))];rfl
 have U:mY (kI f v)=(Z' row:Nat):=by rw[K];rfl
 have p:=λq=>yf F q;have Q:=aXN F;have S:=sr row f.bgD.length;have B:∀i,fY f (lM f.bgD.length row) i=fY f row i:=λi=>by unfold fY;rw[p]
 have Y:∀d,d<Z' f.bgD->(jK f.bgD.length row).getD d 0=(row.count (d:Int):Nat):=λd h=>by simp[jK,bhX,h]
 have Z:∀i,i<Z' f.bgG->(lH f row).getD i 0=fY f row i:=λi h=>by simp[lH,bhX,h]
 have M:∀i (h:i<Z' row),row.getD i 0=row[i]:=λi h=>by simp[bhX,h]
 refine Bool.eq_iff_iff.2 ?_;rw[<-aAA V (λl=>(E.2.2.2.2.2.2.1 l).1) v F];unfold LD sB;rw[List.append_eq_nil_iff,List.append_eq_nil_iff,List.append_eq_nil_iff,oN,oN,oN,oN,O,biA,apO,bhQ,U];unfold sA oF;rw[bhQ,biB,biB];constructor
 ·rintro⟨ha,hb,hs⟩;have h0:=uh ha;have hlt:=NS ha;have A:∀x∈row,0<=x:=λx w=>by have u:(lM f.bgD.length row).countP (λy=>decide (y=x))=row.countP λy=>decide (y=x):=p _;have J:0<row.countP λy=>decide (y=x):=List.countP_pos_iff.2 ⟨x,w,by simp⟩;rw[<-u]at J;obtain⟨y,hy,e⟩:=List.countP_pos_iff.1 J;rw[dT_]at e;exact e ▸ h0 y hy
  refine⟨⟨⟨λi hi=>?_,λd hd=>?_⟩,λi hi=>?_⟩,λi hi=>?_⟩
  ·unfold home;rw[M i hi,decide_eq_false_iff_not];have:=A _ (bhS hi);omega
  ·unfold sN;rw[Y d hd,decide_eq_false_iff_not];have u:(lM f.bgD.length row).count (d:Int)<=1:=List.nodup_iff_count.1 (hlt.imp λh=>Int.ne_of_lt h) (d:Int);unfold List.count at u ⊢;rw[p]at u;omega
  ·unfold gI;rw[M i hi];have hm:=bhS hi;have u:row.countP (λx=>!xT f (kI f v) x)=0:=by rw[<-p];exact List.countP_eq_zero.2 λx w=>by rw[hb x w];decide
   have J:=List.countP_eq_zero.1 u _ hm;have N:xT f (kI f v) row[i]=true:=by simpa using J
   unfold xT at N;rw[N];simp
  ·have:=hs i (biM.2 hi);rw[B]at this;unfold sI;rw[Z i hi];simp only[Bool.not_eq_true',Bool.and_eq_false_iff,decide_eq_false_iff_not]at this ⊢;exact this
 ·rintro⟨⟨⟨J,N⟩,h4⟩,h5⟩;have A:∀x∈row,0<=x:=λx w=>by obtain⟨i,hi,rfl⟩:=bjD w;have:=J i hi;unfold home at this;rw[M i hi,decide_eq_false_iff_not]at this;omega
  refine⟨?_,λx w=>?_,λi hi=>?_⟩
  ·refine a6A (by rw[Q]) (λx w=>?_) ?_
   ·have u:=akZ F w;exact⟨A x u,(F x u).2⟩
   ·have R:(lM f.bgD.length row).Nodup:=List.nodup_iff_count.2 λx=>by
     by_cases w:x∈row
     ·have u:=A x w;have α:=(F x w).2;have:=N x.toNat Om;unfold sN at this;rw[Y _ Om,decide_eq_false_iff_not,Int.toNat_of_nonneg u]at this;have h6:(lM f.bgD.length row).count x=row.count x:=p _;omega
     ·have h6:(lM f.bgD.length row).count x=row.count x:=p _;rw[h6,List.count_eq_zero_of_not_mem w];omega
    exact(List.Pairwise.and S R).imp λ⟨a,b⟩=>by omega
  ·have u:=akZ F w;obtain⟨i,hi,rfl⟩:=bjD u;have:=h4 i hi;unfold gI at this;rw[M i hi,bA (A _ u),biA]at this;unfold xT;simpa using this
  ·have:=h5 i (biM.1 hi);unfold sI at this;rw[Z i (biM.1 hi)]at this;rw[B];simp only[Bool.not_eq_true',Bool.and_eq_false_iff,decide_eq_false_iff_not]at this ⊢;exact this
def adZ(f:aD)(l:L2_)(room:List Int):Bool:=((bhP f.bgD.length).all λd=>decide ((mV f l).getD d 0<=(fZ f room).getD d 0))&&(bhP l.length).all λv=>sB f (nB f v) (lM f.bgD.length (l.getD v []))
theorem aHC{f:aD}(y:dC f=true){l:L2_}(u:CO f l)(room:List Int):BC f l room=adZ f l room:=by
 rw[aFL y u];unfold Kj adZ;rw[mK];have p:∀{a b c d:Bool},a=c->b=d->(a&&b)=(c&&d):=λh g=>by rw[h,g]
 refine p ?_ ?_
 ·refine Bool.eq_iff_iff.2 ?_;rw[biB,biB];refine forall_congr' λd=>forall_congr' λw=>?_;have w:=biM.1 w;have A:(mV f l).getD d 0=(l.flatten.count (d:Int):Nat):=by simp[mV,jK,bhX,w]
  have x:d<(fZ f room).length:=by rw[mK];exact w
  have B:(amC (fZ f room) l.flatten).getD d 0=(fZ f room).getD d 0-(l.flatten.count (d:Int):Nat):=by simp[amC,bhX,x]
  rw[A,B,dT_,dT_];omega
 ·refine Bool.eq_iff_iff.2 ?_;rw[biB,biB];refine forall_congr' λv=>forall_congr' λE=>?_;have i:=biM.1 E;have e:l.getD v []=l[v]:=by simp[bhX,i]
  rw[e,a0I y (by rw[<-u.len];exact i) (u.row v i) (u.home _ (bhS i))]
def eO:=bT [4,5] Proofs.Tryz.f7
def B9:=aA eO 0
def Ca:=aA eO 1
def TT:=aA eO 2
def FY:=aA eO 3
def Cb:=aA eO 4
def Cc:=aA eO 5
def Cd:=aA eO 6
def Ce:=cV eO 0
def Cf:=aA eO 7
def Cg:=aA eO 8
def ou:=aA eO 9
def oq:aC:=(fI Cc 49 0 ou (sq Cd (dq Ce (sq Cf (.cond (Tm 59) (sq Cg .ret) .skip)))))
def ov:=aA eO 10
def ow:=aA eO 11
def oz:=aA eO 12
def pd:=aA eO 13
def pi:=aA eO 14
def pj:=cV eO 1
def pn:=aA eO 15
def po:=aA eO 16
def DP:=aA eO 17
def ot:aC:=(fI ow 65 2 DP (sq oz (jB pd 70 (.exit 3) (sq pi (dq pj (sq pn (.cond (Tm 94) (sq po .ret) .skip)))))))
def pq:=aA eO 18
def JM:aC:=(sq B9 (.seq (sq Ca (sq TT (.cond (Tm 45) (sq FY .ret) .skip))) (.seq (cH Cb 0 oq) (.seq (cH ov 2 ot) (sq pq .ret)))))
def Km:bD:=⟨4,96,JM,[.tmp 8]⟩
structure Xj(C:Ctx):Prop extends aEJ C where
 DK:∀(f:aD)(lv cnt:Int),f.Ok->aH C 230 [.agg f.cells,rN lv cnt] .nil (aI (.tup [lay (gP f lv cnt),.int .i64 (gJ f lv cnt)]))
 ord:∀x y:RF,x.Ok->y.Ok->aH C 114 [.agg x.cells,.agg y.cells] .nil (aI (wQ x.neg (val x.num) (val x.den) y.neg (val y.num) (val y.den)))
 price:∀(f:aD)(bgP lv cnt:Int)(prices:List RF),f.Ok->(∀x∈prices,x.Ok)->(∀x∈prices,nl (val x.num)<=8/\nl (val x.den)<=8)->Z' prices<=1000000->aH C 231 [.agg f.cells,.int .i64 bgP,rN lv cnt,frs prices] .nil (aI (vZ f bgP lv cnt prices))
theorem azV(L:Xj C)(x y:RF)(d:x.Ok)(e:y.Ok):aH C 114 [.agg x.cells,.agg y.cells] .nil (aI (.tup [.int .i64 (JG x.v y.v),.int .i64 (if cC x.v.2.1 x.v.2.2&&cC y.v.2.1 y.v.2.2 then 0 else 1)])):=by
 have:=L.ord x y d e;rw[<-aTS];exact this
def prS(y:RF)(r:PV):Spec:=λname _=>if name=336 then some ([],λ_=>aI (.agg y.cells))else some ([],λ_=>aI r)
theorem aFO(L:Xj C)(f:aD)(hf:f.Ok)(lv cnt:Int)(a b:List RF)(ha:∀x∈a,x.Ok)(hb:∀x∈b,x.Ok)(U:∀x∈b,nl (val x.num)<=8/\nl (val x.den)<=8)(la:Z' a<=1000000)(lb:Z' b<=1000000)
  (ε:dC f=true->Z' f.bgH<=1000000/\Z' f.bgF<=1000000) :
  JM.wp C (aZ Km.res (aI (.bool (zW f lv cnt a b)))) (g_ [.agg f.cells,rN lv cnt,frs a,frs b]) .nil:=by
 have k1:=L.DK f lv cnt hf;have k2:=L.prices a ha Om f.bgH.length;have k3:=L.prices b hb Om f.bgD.length;have hB:zW f lv cnt a b=((decide (gJ f lv cnt=0)&&(jD a f.bgH.length&&jD b f.bgD.length))&&(b.all BB&&(bhP f.bgH.length).all (PS f lv cnt a b))):=rfl;have M:=Gz (f:=f) (lv:=lv) (cnt:=cnt);simp only[go_sem,JM,B9,Km,Ca];refine aB k1 Sq ?_;by_cases O:gJ f lv cnt=0
 ·have hp:=(M O).1;have hV:=VF.of hp;obtain⟨δ,S⟩:=ε hp;rw[bA O,biA]at hB;simp only[go_sem,TT,cN O,bhO];refine aB k2 Sq ?_;cases N:jD a f.bgH.length with
  |false =>rw[N,bhY,bhY]at hB;simp only[go_sem,biF,FY];exact fM Sq hB.symm
  |true=>
   rw[N,biA]at hB;simp only[go_sem,bhZ,bhO];refine aB k3 Sq ?_;cases h3:jD b f.bgD.length with
   |false =>rw[h3,bhY]at hB;simp only[go_sem,biF,FY];exact fM Sq hB.symm
   |true=>
    rw[h3,biA]at hB;have l2:Z' a=Z' f.bgH:=by simp only[jD,bhQ,dT_]at N;exact N.2
    have k6:aH C 336 [.int .i64 0] .nil (aI (.agg (FV.rf (false,0,1)).cells)):=L.number 0 aS;have β:=Gj 0 aS;simp only[go_sem,bhZ,Cb,bhO];refine wp_loop (α:=Nat) (λk=>(((((((n_.set 2 (frs a)).set 3 (frs b)).set 4 (.bK f.cells)).set 5 (.bK [.int .i64 lv,.int .i64 cnt])).set 46 (frs b)).set 47 (.int .i64 (Z' b:Nat))).set 48 (.int .i64 k))) (λ_=>.nil) (λk=>k<=Z' b/\∀x∈b.take k,BB x=true) (λk=>Z' b-k) 0 ⟨bhT _,λx h=>by cases h⟩ Lq a_ ?_;rintro k ⟨hk,w⟩;simp only[go_sem,oq,Cc];by_cases hlt:k<Z' b
    ·have d:(k:Int)<(Z' b:Nat):=Om;have hr:(b.map RF.cells)[k]?=some (b[k]).cells:=by simp[hlt]
     have u:=azV L b[k] (FV.rf (false,0,1)) (hb _ (bhS hlt)) β;rw[FV.PW]at u;have l:BB b[k]=true->∀x∈b.take (k+1),BB x=true:=λe x hx=>by
      rw[bjF hlt]at hx;rcases bjB.1 hx with h|h
      ·exact w x h
      ·rw[bjH]at h;rw[h];exact e
     have A:BB b[k]=false->zW f lv cnt a b=false:=λe=>by
      have:b.all BB=false:=by
       cases e2:b.all BB with
       |false=>rfl
       |true=>rw[biB.1 e2 _ (bhS hlt)]at e;cases e
      rw[hB,this,bhY]
     have E:BB b[k]=!decide (JG (b[k]).v (false,0,1)>0):=rfl;generalize hx:b[k]=x at *
     generalize FV.rf (false,0,1)=z at *
     generalize JG x.v (false,0,1)=q at *
     simp only[go_sem,d,Cd,hr];refine aQ λo ho=>?_;simp only[go_sem];refine bV _ (prS z (.tup [.int .i64 q,.int .i64 (if cC x.v.2.1 x.v.2.2&&cC 0 1 then 0 else 1)])) b_ ?_;simp only[go_sem,Ce];refine bX rfl k6 Sq b_ ?_;simp only[go_sem];refine bX rfl u Sq b_ ?_;simp only[go_sem,Cf];by_cases R:q>0
     ·rw[bA R]at E;simp only[go_sem,R,Cg];exact fM Sq (A E).symm
     ·rw[bG R]at E;simp only[go_sem,R,ou,wZz k];exact aJ (k+1) ⟨hlt,l E⟩ Om Lq a_
    ·have d:¬(k:Int)<(Z' b:Nat):=Om;have K:k=Z' b:=Om;subst K;rw[biS]at w;rw[biB.2 w,biA]at hB;have k4:=L.demands f hV δ S;have η:=Kp f S;have ζ:(pU f).length=Z' f.bgH:=oE _ _;have Y:∀p:Nat,p<Z' f.bgH->PS f lv cnt a b p=(decide ((pU f).getD p 0=0)||!(decide (uD f p lv cnt b=0)&&decide (JG (yB f p lv cnt b) ((a.map RF.v).getD p (false,0,1))<0))):=λp _=>rfl;have Z:∀p:Int,(yB f p lv cnt b).rf.Ok:=λp=>by
      unfold yB;cases yE f p lv cnt b with
      |none=>exact Ni
      |some s =>refine a0U b _ ?_ s;have h1:=mj (gP f lv cnt) s (dW f p).m;have N:=(EB f lv cnt).1;omega
     generalize θ:Z' f.bgH=np at *
     generalize pU f=ns at *
     simp only[go_sem,d,ov];refine aB k4 Sq ?_;simp only[go_sem,bhO];refine wp_loop (α:=Nat) (λk=>(((((((n_.set 2 (frs a)).set 3 (frs b)).set 4 (.bK f.cells)).set 5 (.bK [.int .i64 lv,.int .i64 cnt])).set 62 (ints ns)).set 63 (.int .i64 (Z' ns:Nat))).set 64 (.int .i64 k))) (λ_=>.nil) (λk=>k<=Z' ns/\∀p<k,PS f lv cnt a b p=true) (λk=>Z' ns-k) 0 ⟨bhT _,λx h=>absurd h (Nat.not_lt_zero x)⟩ Lq a_ ?_;rintro k ⟨hk,y⟩;simp only[go_sem,ot,ow];by_cases hlt:k<Z' ns
     ·have d:(k:Int)<(Z' ns:Nat):=Om;have hr:(ns.map λn=>[PV.int .i64 n])[k]?=some [.int .i64 ns[k]]:=by simp[hlt]
      have J:k<Z' a:=Om;have γ:(a.map RF.cells)[k]?=some (a[k]).cells:=by simp[J]
      have Q:=L.price f k lv cnt b hf hb U lb;rw[aPC]at Q;have u:=azV L (yB f k lv cnt b).rf a[k] (Z k) (ha _ (bhS J));rw[FV.PW]at u;have i:=Y k Om;have W:ns.getD k 0=ns[k]:=by rw[bhX,biD hlt];rfl
      have X:(a.map RF.v).getD k (false,0,1)=(a[k]).v:=by rw[bhX,biL,biD J];rfl
      rw[W,X]at i;have l:PS f lv cnt a b k=true->∀p<k+1,PS f lv cnt a b p=true:=λe p hp=>by
       rcases Nat.lt_succ_iff_lt_or_eq.1 hp with h|h
       ·exact y p h
       ·rw[h];exact e
      have A:PS f lv cnt a b k=false->zW f lv cnt a b=false:=λe=>by
       rw[hB];cases e2:(bhP np).all (PS f lv cnt a b)with
       |false=>rfl
       |true=>rw[biB.1 e2 k (biM.2 Om)]at e;cases e
      generalize ns[k]=nk at *
      generalize a[k]=x at *
      generalize yB f k lv cnt b=z at *
      generalize uD f k lv cnt b=pe at *
      generalize(yE f k lv cnt b).getD []=st at *
      generalize R:JG z x.v=q at *
      simp only[go_sem,d,oz,hr,pd];by_cases F:nk=0
      ·rw[bA F,Bool.true_or]at i;simp only[go_sem,bY F,DP,wZz k];exact aJ (k+1) ⟨hlt,l i⟩ Om Lq a_
      ·rw[bG F,Bool.false_or]at i;simp only[go_sem,bL F,pi];refine aB Q Sq ?_;simp only[go_sem];refine aQ λo ho=>?_;simp only[go_sem];refine bV _ (λ_ _=>some ([],λ_=>aI (.tup [.int .i64 q,.int .i64 (if cC z.2.1 z.2.2&&cC x.v.2.1 x.v.2.2 then 0 else 1)]))) b_ ?_;simp only[go_sem,pj,γ];refine bX rfl u Sq b_ ?_;simp only[go_sem,pn];by_cases B:pe=0
       ·rw[bA B,biA]at i;by_cases H:q<0
        ·rw[bA H]at i;simp only[go_sem,bY B,H,po];exact fM Sq (A i).symm
        ·rw[bG H]at i;simp only[go_sem,bY B,H,DP,wZz k];exact aJ (k+1) ⟨hlt,l i⟩ Om Lq a_
       ·rw[bG B,bhY]at i;simp only[go_sem,bL B,DP,wZz k];exact aJ (k+1) ⟨hlt,l i⟩ Om Lq a_
     ·have d:¬(k:Int)<(Z' ns:Nat):=Om;have K:k=Z' ns:=Om;subst K;simp only[go_sem,d,pq];refine fM (b:=true) Sq ?_;rw[hB];exact(biB.2 λp hp=>y p (by have:=biM.1 hp;omega)).symm
 ·have V:decide (gJ f lv cnt=0)=false:=bG O;rw[V,bhY,bhY]at hB;simp only[go_sem,TT,dX O,FY];exact fM Sq hB.symm
def AV:=bT [] Proofs.Tryz.f4
def Y5:=aA AV 0
def Y6:=aA AV 1
def Y7:=aA AV 2
def Y8:=aA AV 3
def Y9:=cV AV 0
def FZ:aC:=(sq Y5 (sq Y6 (sq Y7 (sq Y8 (dq Y9 .ret)))))
def Ww:bD:=⟨3,32,FZ,[.cell 6 (some 7),.cell 7 (some 2),.tmp 8,.tmp 9]⟩
def oX:=bT [29] Proofs.Tryz.f5
def Ei:=aA oX 0
def Ej:=aA oX 1
def Ek:=aA oX 2
def El:=aA oX 3
def Em:=aA oX 4
def En:=aA oX 5
def Eo:=aA oX 6
def Eh:aC:=(dK El 13 0 Eo (sq Em (.region En)))
def Ep:=aA oX 7
def KC:aC:=(sq Ei (sq Ej (.seq (cH Ek 0 Eh) (sq Ep .ret))))
def Le:bD:=⟨3,32,KC,[.tmp 6]⟩




theorem aR.baQ{F:PF}{H:PH}{B:List BX}{L:List LI}{args:List aP}{d:Option Nat}{K:PF->PH->Prop}(h:aR H B L){l:List Nat}(u:aH C 28 [.sl 1 (mE l)] .nil (J1 l))(i:aP.evs F args=some [.sl 1 (mE l)])(p:∀o v H',Tp (l.take 400) v->aR H' (B++[(o,bB v 0)]) L->K (F.put d (.ptr o 2 0 0)) H'):lD C 28 args [] d K F H:=by
 refine nE u i a_ ?_;rintro r H' ⟨o,v,rfl,T,rfl⟩ e;rw[PH.qV];exact p o v _ T (h.new (e o (bB v 0) (by rw[cZ]) rfl) _)
def FQ(l:List Nat):Nat × Nat:=aF l 5 0
def xP(l:List Nat):Nat × Nat:=aF l 2 (FQ l).2
def rdF(l:List Nat)(d v:Nat):aD × Nat:=kO l d v (xP l).2
def rdR(l:List Nat)(d v:Nat):List Int × Nat:=uX l (rdF l d v).1 (rdF l d v).2
theorem aWZ(l:List Nat)(f:aD){a:Nat}(h:a<=Z' l):(uX l f a).2<=Z' l:=by
 have d:=bP l 4 h;unfold uX;simp only;split
 ·exact d
 ·exact(i0 l d _).1
theorem aZZ(l:List Nat)(d v:Nat):(xP l).2<=Z' l/\(rdF l d v).2<=Z' l/\(rdR l d v).2<=Z' l:=by
 have p:=bP l 5 (bhT l.length);have e:(xP l).2<=Z' l:=bP l 2 p;have i:(rdF l d v).2<=Z' l:=aMS l d v e;exact⟨e,i,aWZ l _ i⟩
def Wu(l:List Nat)(d e:Nat)(r:PV)(H:PH):Prop:=∃o v,r=.tup [.agg (rdF (l.take 400) d e).1.cells,rN (1+(FQ (l.take 400)).1:Nat) (1+(xP (l.take 400)).1:Nat),ints (rdR (l.take 400) d e).1,.ptr o 2 0 0]/\Tp (l.take 400) v/\H=h_.set o (bB v (rdR (l.take 400) d e).2)
structure aKZ(C:Ctx):Prop where
 new:∀(l:List Nat),(∀x∈l,x<256)->Z' l<=9223372036854775807->aH C 28 [.sl 1 (mE l)] .nil (J1 l)
 tfleet:∀(l:List Nat)(v:PV),Tp l v->∀(o bgD bgF a:Nat),bgD<=60->bgF<=50->a<=Z' l ->
  aH C 0 [.ptr o 2 0 0,.int .i64 bgD,.int .i64 bgF] (h_.set o (bB v a)) (λr H=>r=.agg (kO l bgD bgF a).1.cells/\H=h_.set o (bB v (kO l bgD bgF a).2))
 nn:∀(l:List Nat)(v:PV),Tp l v->∀(o a:Nat)(f:aD),Z' f.bgD<=1000->a<=Z' l->aH C 6 [.ptr o 2 0 0,.agg f.cells] (h_.set o (bB v a)) (λr H=>r=ints (uX l f a).1/\H=h_.set o (bB v (uX l f a).2))
 next:∀(l:List Nat)(v:PV),Tp l v->∀(o n a:Nat),n<=1000000->a<=Z' l->aH C 4 [.ptr o 2 0 0,.int .i64 n] (h_.set o (bB v a)) (λr H=>r=.int .i64 ((aF l n a).1:Nat)/\H=h_.set o (bB v (aF l n a).2))
theorem aSY(F:aKZ C)(l:List Nat)(hb:∀x∈l,x<256)(hl:Z' l<=9223372036854775807)(d p:Nat)(hd:d<=24)(S:p<=12) :
  FZ.wp C (aZ Ww.res (Wu l d p)) (g_ [.sl 1 (mE l),.int .i64 (d:Nat),.int .i64 (p:Nat)]) .nil:=by
 have R:=cG (l.take 400) (n:=5) aS 0;have i1:=bP (l.take 400) 5 (bhT _);have Q:=cG (l.take 400) (n:=2) aS (FQ (l.take 400)).2;obtain⟨i2,i3,i4⟩:=aZZ (l.take 400) d p;obtain⟨hv,hf⟩:=d3 (l.take 400) d p (xP (l.take 400)).2 hd S;have β:=(VF.of hv).small.bgD;have X:=λv T o=>F.next (l.take 400) v T o 5 0 aS (bhT _);have k1:=λv T o=>F.next (l.take 400) v T o 2 (FQ (l.take 400)).2 aS i1;have k2:=λv T o=>F.tfleet (l.take 400) v T o d p (xP (l.take 400)).2 Om Om i2;have Y:=λv T o=>F.nn (l.take 400) v T o (rdF (l.take 400) d p).2 (rdF (l.take 400) d p).1 (by show(kO (l.take 400) d p (xP (l.take 400)).2).1.bgD.length<=1000;omega) i3;unfold Wu;show FZ.wp C (aZ Ww.res (λr H=>∃o v,r=.tup [.agg (rdF (l.take 400) d p).1.cells,rN (1+(FQ (l.take 400)).1:Nat) (1+(xP (l.take 400)).1:Nat),ints (rdR (l.take 400) d p).1,.ptr o 2 0 0]/\Tp (l.take 400) v/\H=h_.set o (bB v (rdR (l.take 400) d p).2))) _ _;change ∀v,Tp (l.take 400) v->∀o,aH C 4 [.ptr o 2 0 0,.int .i64 5] (h_.set o (bB v 0)) (λr H=>r=.int .i64 ((FQ (l.take 400)).1:Nat)/\H=h_.set o (bB v (FQ (l.take 400)).2))at X;change ∀v,Tp (l.take 400) v->∀o,aH C 4 [.ptr o 2 0 0,.int .i64 2] (h_.set o (bB v (FQ (l.take 400)).2)) (λr H=>r=.int .i64 ((xP (l.take 400)).1:Nat)/\H=h_.set o (bB v (xP (l.take 400)).2))at k1;change ∀v,Tp (l.take 400) v->∀o,aH C 0 [.ptr o 2 0 0,.int .i64 (d:Nat),.int .i64 (p:Nat)] (h_.set o (bB v (xP (l.take 400)).2)) (λr H=>r=.agg (rdF (l.take 400) d p).1.cells/\H=h_.set o (bB v (rdF (l.take 400) d p).2))at k2;change ∀v,Tp (l.take 400) v->∀o,aH C 6 [.ptr o 2 0 0,.agg (rdF (l.take 400) d p).1.cells] (h_.set o (bB v (rdF (l.take 400) d p).2)) (λr H=>r=ints (rdR (l.take 400) d p).1/\H=h_.set o (bB v (rdR (l.take 400) d p).2))at Y;change(FQ (l.take 400)).1<5 at R;change(xP (l.take 400)).1<2 at Q;generalize(rdR (l.take 400) d p).1=room at *
 generalize(rdR (l.take 400) d p).2=M at *
 generalize(rdF (l.take 400) d p).2=af at *
 generalize(rdF (l.take 400) d p).1=f at *
 generalize(xP (l.take 400)).2=ac at *
 generalize(FQ (l.take 400)).2=al at *
 generalize(xP (l.take 400)).1=E at *
 generalize(FQ (l.take 400)).1=lv at *
 have w1:i_.wrap (1+((lv:Nat):Int))=((1+lv:Nat):Int):=by rw[wrap_i64 Om Om];omega
 have w2:i_.wrap (1+((E:Nat):Int))=((1+E:Nat):Int):=by rw[wrap_i64 Om Om];omega
 simp only[go_sem,FZ,Y5,Ww];refine aR.nil.ci λo6 H1 h1=>?_;simp only[go_sem];refine h1.ci λo7 H2 h2=>?_;simp only[go_sem,Y6];refine h2.baQ (F.new l hb hl) Sq λo v H3 T h3=>?_;simp only[go_sem,Y7];refine h3.jt 2 rfl (X v T o) Sq λH4 h4=>?_;simp only[go_sem,w1];refine h4.jt 2 rfl (k1 v T o) Sq λH5 h5=>?_;simp only[go_sem,w2];refine h5.ci λA H6 V=>?_;have e6:=V.at 3 rfl;have h7:=V.set 3 rfl (.rows 2 [[.int .i64 ((1+lv:Nat):Int),.int .i64 ((1+E:Nat):Int)]]);simp only[go_sem,e6];generalize H6.set A _=H7 at *
 simp only[go_sem,Y8];refine h7.jt 2 rfl (k2 v T o) Sq λH8 h8=>?_;simp only[go_sem];refine h8.ci λB H9 W=>?_;have e9:=W.at 4 rfl;have i:=W.set 4 rfl (.rows 7 [f.cells]);simp only[go_sem,e9];generalize H9.set B _=N at *
 have J:=i.at 4 rfl;have O:=i.at 3 rfl;have go:=i.at 2 rfl;have m1:=i.ne 2 3 rfl rfl aS;have m2:=i.ne 2 4 rfl rfl aS;have m3:=i.ne 0 3 rfl rfl aS;have m4:=i.ne 0 4 rfl rfl aS;have m5:=i.ne 1 3 rfl rfl aS;have m6:=i.ne 1 4 rfl rfl aS;have m7:=i.ne 3 4 rfl rfl aS;have Z:=i.ne 0 1 rfl rfl aS;have m9:=i.ne 0 2 rfl rfl aS;have γ:=i.ne 1 2 rfl rfl aS;have g6:=i.at 0 rfl;have g7:=i.at 1 rfl;refine bV ((h_.set B (.rows 7 [f.cells])).set A (.rows 2 [[.int .i64 ((1+lv:Nat):Int),.int .i64 ((1+E:Nat):Int)]])) (λ_ _=>some ([o],λ_ r H'=>r=ints room/\H'=h_.set o (bB v M))) (e_ (e_ a_ J) O) ?_;have U:¬B=A:=λe=>m7 e.symm;simp only[go_sem,Y9,U,J];have u:=i.set 2 rfl (bB v M);refine UF rfl go (Y v T o) ⟨rfl,rfl⟩ (λr' H' h=>h) Sq (e_ (e_ a_ (u.at 4 rfl)) (u.at 3 rfl)) ?_;generalize N.set o (bB v M)=α at *
 have q6:=u.at 0 rfl;have w:=u.set 0 rfl (.rows 7 [f.cells]);simp only[go_sem,q6];refine⟨e_ (e_ a_ (w.at 4 rfl)) (w.at 3 rfl),?_⟩;have q7:=u.at 1 rfl;have K:¬o7=o6:=λe=>Z e.symm;have y:=w.set 1 rfl (.rows 2 [[.int .i64 ((1+lv:Nat):Int),.int .i64 ((1+E:Nat):Int)]]);simp only[go_sem,K,q7];refine⟨e_ (e_ a_ (y.at 4 rfl)) (y.at 3 rfl),?_⟩;exact bE (.inr rfl) (h_.set o (bB v M)) (vs:=[.agg f.cells,rN (1+lv:Nat) (1+E:Nat),ints room,.ptr o 2 0 0]) (by simp only[go_sem,Z,K]) (e_ a_ (y.at 2 rfl)) ⟨o,v,rfl,T,rfl⟩
def prT(l:List Nat)(sh:Nat)(a:Nat):Nat->List RF × Nat
 |0=>([],a)
 |k+1=>((prT l sh a k).1++[mkT (((aF l 9 (prT l sh a k).2).1:Int)-sh) (1+((aF l 3 (aF l 9 (prT l sh a k).2).2).1:Int))],(aF l 3 (aF l 9 (prT l sh a k).2).2).2)
theorem Gr(l:List Nat)(sh:Nat){a:Nat}(h:a<=Z' l):∀k,(prT l sh a k).2<=Z' l/\(prT l sh a k).1.length=k
 |0=>⟨h,rfl⟩
 |k+1=>by obtain⟨d,e⟩:=Gr l sh h k;exact⟨bP l 3 (bP l 9 d),by simp only[prT,bhW,biC,e]⟩
theorem ajQ(l:List Nat)(sh:Nat)(d:sh<=100)(a:Nat):∀k,∀x∈(prT l sh a k).1,x.Ok/\nl (val x.num)<=8/\nl (val x.den)<=8
 |0,x,h=>by cases h
 |k+1,x,h=>by
  simp only[prT]at h;rcases bjB.1 h with h|h
  ·exact ajQ l sh d a k x h
  ·rw[bjH]at h;subst h;have e:=cG l (n:=9) aS (prT l sh a k).2;have i:=cG l (n:=3) aS (aF l 9 (prT l sh a k).2).2;exact a2T _ _ (by unfold dL;omega) (by unfold dL;omega) Om
structure asU(C:Ctx):Prop extends aKZ C where
 fmk:∀n d:Int,dL n->dL d->aH C 50 [.int .i64 n,.int .i64 d] .nil (aI (yH n d))
theorem aHP(x:asU C)(l:List Nat)(v:PV)(T:Tp l v)(o n sh a:Nat)(hn:n<=500)(W:sh<=100)(U:a<=Z' l) :
  KC.wp C (aZ Le.res (λr H=>Co r (frs (prT l sh a n).1)/\H=h_.set o (bB v (prT l sh a n).2))) (g_ [.ptr o 2 0 0,.int .i64 (n:Nat),.int .i64 (sh:Nat)]) (h_.set o (bB v a)):=by
 simp only[go_sem,KC,Ei,Le,Ej,Ek];refine wp_loop (α:=Nat × PV × PH) (λt=>(((((n_.set 0 (.ptr o 2 0 0)).set 1 (.int .i64 (n:Nat))).set 2 (.int .i64 (sh:Nat))).set 7 (t.2.1)).set 8 (.int .i64 t.1))) (λt=>t.2.2)
  (λt=>t.1<=n/\aR t.2.2 [(o,bB v (prT l sh a t.1).2)] [(t.2.1,3,SC (prT l sh a t.1).1)]) (λt=>n-t.1) (0,.aK,h_.set o (bB v a)) ⟨bhT _,(aR.nil.new (H:=h_) rfl _).qU 3⟩ Lq b_ ?_
 rintro⟨k,w,H1⟩ ⟨V,e⟩;simp only at V e ⊢;obtain⟨F,i2⟩:=Gr l sh U k;simp only[go_sem,Eh,El];by_cases hlt:k<n
 ·have d:(k:Int)<(n:Nat):=Om;have x1:=cG l (n:=9) aS (prT l sh a k).2;have x2:=cG l (n:=3) aS (aF l 9 (prT l sh a k).2).2;have X:=x.next l v T o 9 (prT l sh a k).2 aS F;have k1:=x.next l v T o 3 (aF l 9 (prT l sh a k).2).2 aS (bP l 9 F);have M:(prT l sh a (k+1)).1=(prT l sh a k).1++[mkT (((aF l 9 (prT l sh a k).2).1:Int)-sh) (1+((aF l 3 (aF l 9 (prT l sh a k).2).2).1:Int))]:=rfl;have e2:(prT l sh a (k+1)).2=(aF l 3 (aF l 9 (prT l sh a k).2).2).2:=rfl;have i:(prT l sh a k).1.length<=1000:=Om;generalize prT l sh a k=p at *
  generalize aF l 9 p.2=q at *
  generalize aF l 3 q.2=s at *
  have w1:i_.wrap ((q.1:Nat)-(sh:Int))=(q.1:Nat)-(sh:Int):=wrap_i64 Om Om;have w2:i_.wrap (1+(s.1:Int))=1+(s.1:Int):=wrap_i64 Om Om;have u:=x.fmk ((q.1:Nat)-(sh:Int)) (1+(s.1:Int)) (by unfold dL;omega) (by unfold dL;omega);rw[yH,aE Om]at u;generalize mkT ((q.1:Nat)-(sh:Int)) (1+(s.1:Int))=y at *
  simp only[go_sem,d,Em];refine e.jt 0 rfl X (by simp only[go_sem];rfl) λH2 Q=>?_;simp only[go_sem,w1];refine Q.jt 0 rfl k1 (by simp only[go_sem];rfl) λH3 R=>?_;simp only[go_sem,w2];refine aB u Sq ?_;simp only[go_sem];refine R.ci λY J E=>?_;have O:=E.at 1 rfl;have h5:=E.set 1 rfl (.rows 3 [y.cells]);simp only[go_sem,O];have A:=h5.at 1 rfl;generalize J.set Y _=H5 at *
  simp only[go_sem,En,A];refine h5.append 0 (src:=[y.cells]) rfl Sq (arJ _ i) λZ K S _=>?_;simp only[go_sem,Eo,wZz k];refine aJ (k+1,Z,K) ⟨hlt,?_⟩ (by simp only;omega) Lq b_;have h7:=S.tM 1;rw[M,e2];have N:SC (p.1++[y])=SC p.1++[y.cells]:=by simp[SC]
  rw[N];exact h7
 ·have d:¬(k:Int)<(n:Nat):=Om;have:k=n:=Om;subst this;simp only[go_sem,d,Ep];rcases e.own 0 rfl with⟨B,rfl⟩|⟨q,rs,rfl,_⟩
  ·refine bE (vs:=[.aK]) (.inr rfl) (h_.set o (bB v (prT l sh a k).2)) Sq (e_ a_ (e.at 0 rfl)) ?_;rw[bN];refine⟨?_,rfl⟩;unfold frs;rw[show(prT l sh a k).1.map RF.cells=[]from B];exact .nil 3
  ·obtain⟨rs,g1,g2,g3,-,g4⟩:=e.frz 0 rfl;refine AA (vs:=[.osl q 3 0 (SC (prT l sh a k).1).length]) (.inr rfl) Sq (.step g1 (.done (H2:=h_.set o (bB v (prT l sh a k).2)) ?_ (e_ a_ ?_)))
   ·rw[bN,g3];exact⟨.refl _,rfl⟩
   ·have:=g4.at 0 rfl;rw[this];simp only[aY.frz,biU,bjP,T.frz];rfl
theorem aPN{f:aD}(hV:VF f)(room:List Int):Xu (fZ f room):=by
 intro x e;unfold fZ at e;obtain⟨d,i,rfl⟩:=biJ.1 e;obtain⟨p,l⟩:=hV.Dg (biM.1 i);have:=hV.model _ (bhS p);rw[l]at this;unfold pQ;split<;>omega
def bdQ(o:Nat)(d e:PV->PH->Prop):Spec:=λ_ vs=>match vs with
 |[_,_,.int _ sh]=>if sh=4 then some ([o],λ_=>d)else some ([o],λ_=>e)
 |_=>none
theorem amE(n:Nat):∀(k a:Nat)(s:List Nat),Z' s=k->(∀x∈s,a<=x/\x<n)->s.Pairwise (· < ·)->s∈eT n k a
 |0,a,s,h,_,_=>by rw[List.length_eq_zero_iff]at h;subst h;exact bjH.2 rfl
 |k+1,a,[],h,_,_=>by simp at h
 |k+1,a,x::t,h,e,hp=>by
  obtain⟨E,u⟩:=List.pairwise_cons.1 hp;have A:Z' t=k:=by simpa using h
  have room:∀(t:List Nat)(b:Nat),(∀y∈t,b<=y/\y<n)->t.Pairwise (· < ·)->Z' t<=n-b:=by
   intro t
   induction t with
   |nil=>intro b _ _;exact bhT _
   |cons y t B =>intro b d w;obtain⟨F,H⟩:=List.pairwise_cons.1 w;have J:=d y bH;have K:=B (y+1) (λz p=>⟨F z p,(d z (List.mem_cons_of_mem _ p)).2⟩) H;rw[bjL];omega
  have M:=e x bH;have i:∀y∈t,x+1<=y/\y<n:=λy l=>⟨E y l,(e y (List.mem_cons_of_mem _ l)).2⟩;have h5:=room t (x+1) i u;rw[eT];refine List.mem_flatMap.2 ⟨x,?_,biJ.2 ⟨t,amE n k (x+1) t A i u,rfl⟩⟩;rw[List.mem_range'_1];omega
theorem a0H{f:aD}{p:Int}{set:List Int}(h:sB f p set=true):set∈jZ f (dW f p):=by
 unfold sB at h;simp only[bhQ]at h;obtain⟨-,d,w⟩:=h;have A:=NS d;have h5:=uh d;have B:∀x∈set,x<Z' f.bgD/\(Z' set:Int)=mY (dW f p):=by
  unfold qL at d;simp only[bhQ,dT_,biB,biM]at d;intro x l;obtain⟨i,hi,rfl⟩:=bjD l;have:=d.2 i hi;unfold qX at this;have g:set.getD i 0=set[i]:=by simp[bhX,hi]
  rw[g]at this;simp only[bhQ,dT_]at this;exact⟨this.1.2,d.1⟩
 have h7:Z' set=(mY (dW f p)).toNat:=by unfold qL at d;simp only[bhQ,dT_]at d;omega
 have e:set=cT (set.map bjA):=by
  unfold cT;rw[bkT]
  conv=>lhs;rw[<-List.map_id set]
  refine bkP λx l=>?_;have:=h5 x l;show x=(x.toNat:Int);omega
 unfold jZ;rw[bkU];refine⟨biJ.2 ⟨set.map bjA,amE _ _ _ _ (by rw[bhO];exact h7) (λx l=>?_) ?_,e.symm⟩,w⟩
 ·obtain⟨y,u,rfl⟩:=biJ.1 l;have h8:=h5 y u;have E:=(B y u).1;omega
 ·rw[List.pairwise_map];refine List.Pairwise.imp_of_mem (λ{x y} l u F=>?_) A;have h8:=h5 x l;have E:=h5 y u;omega
def pL:Nat->List Int->List Int
 |0,_=>[]
 |n+1,row=>pL n row++row.filter λ(x:Int)=>decide (x=(n:Int))
theorem jj(row:List Int):∀n,lM n row=(row.filter λ(x:Int)=>decide (x=-1))++pL n row
 |0=>by rw[lM,pL,bjI]
 |n+1=>by rw[lM,pL,jj row n,biY]
theorem a7U{row:List Int}{n:Nat}(h:∀x∈lM n row,0<=x):pL n row=lM n row:=by
 rw[jj]at h ⊢;have:(row.filter λ(x:Int)=>decide (x=-1))=[]:=by rw[List.eq_nil_iff_forall_not_mem];intro x d;have i:=h x (List.mem_append_left _ d);have e:=(bkU.1 d).2;rw[dT_]at e;omega
 rw[this,blM]
theorem aAU(row:List Int)(n:Nat):(pL n row).length<=Z' row:=by
 have h:=YF (λ_=>true) row n;rw[jj,blO]at h;have d:row.countP (λx=>true&&(decide (-1<=x)&&decide (x<(n:Int))))<=Z' row:=List.countP_le_length;rw[List.countP_true]at h;omega
theorem amG(g h:Nat->Int):∀n,oG n (λi=>g i+h i)=oG n g+oG n h
 |0=>rfl
 |n+1=>by rw[oG,oG,oG,amG g h n];omega
theorem ni{g h:Nat->Int}:∀{n},(∀i,i<n->g i<=h i)->oG n g<=oG n h
 |0,_=>Int.le_refl _
 |n+1,e=>by have d:=ni (g:=g) (h:=h) (n:=n) λi hi=>e i Om;have l:=e n Om;rw[oG,oG];omega
theorem HI{g h:Nat->Int}{n:Nat}(e:∀i,i<n->g i=h i):oG n g=oG n h:=
 Int.le_antisymm (ni λi hi=>Int.le_of_eq (e i hi)) (ni λi hi=>Int.le_of_eq (e i hi).symm)
theorem jm:∀n,oG n (λ_=>0)=0
 |0=>rfl
 |n+1=>by rw[oG,jm n];rfl
def rD(n:Nat)(g:Int->Int)(xs:List Int):Int:=oG n λi=>g i*((xs.count (i:Int):Nat):Int)
theorem Z6(n:Nat)(g:Int->Int):rD n g []=0:=by
 unfold rD;rw[<-jm n];exact HI λi _=>by rw[List.count_nil];simp
theorem pw(n:Nat)(g:Int->Int)(xs ys:List Int):rD n g (xs++ys)=rD n g xs+rD n g ys:=by
 unfold rD;rw[<-amG];exact HI λi _=>by rw[List.count_append,Int.natCast_add,Int.mul_add]
theorem Z7(g:Int->Int)(x:Int):∀n:Nat,0<=x->x<n->rD n g [x]=g x
 |0,d,l=>by omega
 |n+1,d,l=>by
  have e:rD (n+1) g [x]=rD n g [x]+g n*(([x].count (n:Int):Nat):Int):=rfl;rw[e];by_cases c:x=n
  ·subst c;have z:rD n g [(n:Int)]=0:=by unfold rD;rw[<-jm n];refine HI λi hi=>?_;rw[List.count_eq_zero.2 (by simp;omega)];simp
   rw[z];simp
  ·rw[Z7 g x n d Om,List.count_eq_zero.2 (by simp;omega)];simp
theorem Z8(g:Int->Int)(row:List Int):∀n:Nat,sF g (pL n row)=rD n g row
 |0=>rfl
 |n+1=>by
  have e:rD (n+1) g row=rD n g row+g n*((row.count (n:Int):Nat):Int):=rfl;rw[e,pL,QE,Z8 g row n];congr 1;clear e
  induction row with
  |nil=>simp[sF]
  |cons x t d=>
   rw[List.count_cons];by_cases c:x=n
   ·subst c;rw[List.filter_cons_of_pos bH,sF,d];simp[Int.mul_add,Int.add_comm]
   ·rw[List.filter_cons_of_neg (by simpa using c),d];have:(x==(n:Int))=false:=by simpa using c
    rw[this];simp
structure cc(f:aD)(lv cnt:Int)(a b:List RF)(zA zB:Int->Int):Prop where
 priced:zW f lv cnt a b=true
 az:∀d:Int,Sx (jC a d) (zA d)/\(zA d).natAbs<=100
 bz:∀d:Int,Sx (jC b d) (zB d)/\(zB d).natAbs<=100
theorem cc.parts{f:aD}{lv cnt:Int}{a b:List RF}{d zB:Int->Int}(h:cc f lv cnt a b d zB) :
  gJ f lv cnt=0/\jD a f.bgH.length=true/\jD b f.bgD.length=true/\(∀x∈b,BB x=true)/\∀p,p<Z' f.bgH->PS f lv cnt a b p=true:=by
 have:=h.priced;unfold zW at this;simp only[bhQ,dT_,biB,biM]at this;exact⟨this.1.1,this.1.2.1,this.1.2.2,this.2.1,this.2.2⟩
theorem atU{x y:FV}{z w:Int}(i:Sx x z)(l:Sx y w)(d:z.natAbs<1152921504606846976)(e:w.natAbs<1152921504606846976):JG x y=pH x y:=by
 unfold JG;rw[i.valid d,l.valid e,bkO,aG rfl];rfl
theorem cc.free{f:aD}{lv cnt:Int}{a b:List RF}{A zB:Int->Int}(h:cc f lv cnt a b A zB)(d:Nat):zB d<=0:=by
 obtain⟨-,-,-,y,-⟩:=h.parts;obtain⟨l,B⟩:=h.bz d;have i:Sx (false,0,1) 0:=KK 0;by_cases w:d<Z' b
 ·have e:jC b d=(b[d]).v:=by unfold jC;rw[bjN];simp[bhX,w]
  rw[e]at l;have u:=y _ (bhS w);unfold BB at u;rw[atU l i Om aS]at u;have E:¬pH (b[d]).v (false,0,1)>0:=by simpa using u
  by_cases c:pH (b[d]).v (false,0,1)<0
  ·have:=(Gl l i).1 c;omega
  ·have h5:pH (b[d]).v (false,0,1)=0:=Om;rw[(xD l.1 i.1).2]at h5;have x:sgF (b[d]).v=0:=by have p:sgF (false,0,1)=0:=rfl;rw[p,Int.zero_mul]at h5;simpa using h5
   have h7:=l.2.2;rw[x,Int.mul_zero]at h7;have h8:=l.1;rcases Int.mul_eq_zero.1 h7.symm with h9|h9<;>omega
 ·have e:jC b d=(false,0,1):=by unfold jC;rw[bjN];simp[bhX,Nat.le_of_not_lt w]
  rw[e]at l;have h7:=l.2.2;have p:sgF (false,0,1)=0:=rfl;rw[p]at h7;simp only[Int.mul_zero]at h7;omega
theorem cc.row{f:aD}{lv cnt:Int}{a b:List RF}{N zB:Int->Int}(h:cc f lv cnt a b N zB){p:Int}(O:(pU f).getD p.toNat 0≠0){row:List Int}(w:sB f p row=true) :
  sJ f p row lv cnt=0/\N p<=6*(rU f p row lv cnt:Nat)-sF zB row:=by
 obtain⟨H,U,y,-,h5⟩:=h.parts;have K:lC f p=true:=by unfold sB at w;simp only[bhQ]at w;exact w.1
 obtain⟨hV,Q,k1,k2⟩:=vM K;have J:sJ f p row lv cnt=0:=by unfold sJ;rw[aE (λh=>h H),w];rfl
 have A:rU f p row lv cnt=oK (gP f lv cnt) row (dW f p).m:=by unfold rU;rw[aG J]
 have d:=a0H w;simp only[jD,bhQ,dT_]at y;have u:uD f p lv cnt b=0:=by unfold uD;rw[aE (λh=>h H),bA Q,bA (Om:p<(Z' f.bgH:Nat)),bA y.2,y.1,bkO,bkO,aG rfl,aE];intro e;rw[e]at d;cases d
 have small:∀s∈jZ f (dW f p),Sx (tQ f p lv cnt b s) (6*(oK (gP f lv cnt) s (dW f p).m:Nat)-sF zB s)/\(6*((oK (gP f lv cnt) s (dW f p).m:Nat):Int)-sF zB s).natAbs<1152921504606846976:=by intro s E;have s1:=(akP K E).2;have s2:=mj (gP f lv cnt) s (dW f p).m;have s3:=(EB f lv cnt).1;have s4:=yz (λx=>(h.bz x).2) s;have X:Z' s*100<=8*100:=biX _ s1;refine⟨a0V h.bz _ Om s Om,by omega⟩
 rcases Nn (tQ f p lv cnt b) (jZ f (dW f p)) (λs E=>(small s E).1.1)with⟨-,e⟩|⟨i,s,g1,g2,g3,-⟩
 ·rw[e]at d;cases d
 ·obtain⟨F,R⟩:=small s (bjQ g2);obtain⟨S,V⟩:=small row d;have B:yB f p lv cnt b=tQ f p lv cnt b s:=by unfold yB yE;rw[aG u,g1];rfl
  have l:=h5 p.toNat k1;unfold PS at l;rw[<-k2]at l;rw[bG O,bA u,Bool.false_or,biA,B]at l;obtain⟨M,W⟩:=h.az p;rw[show(a.map RF.v).getD p.toNat (false,0,1)=jC a p from rfl,atU F M R Om]at l;have h7:¬pH (tQ f p lv cnt b s) (jC a p)<0:=by simpa using l
  rw[Gl F M]at h7;have h8:=g3 row d;rw[Gl S F]at h8;refine⟨J,?_⟩;rw[A];omega
def pW(f:aD)(L:L2_)(lv cnt:Int):Nat->Nat
 |0=>0
 |k+1=>pW f L lv cnt k+rU f (nB f k) (pL f.bgD.length (L.getD k [])) lv cnt
theorem aYY{f:aD}(W:dC f=true){L:L2_}(hS:CO f L){room:List Int}(U:BC f L room=true){lv cnt:Int}{a b:List RF}{F zB:Int->Int}(h:cc f lv cnt a b F zB) :
  JB f a b=true/\(∀v,v<Z' L->sB f (nB f v) (pL f.bgD.length (L.getD v []))=true/\sJ f (nB f v) (pL f.bgD.length (L.getD v [])) lv cnt=0)/\¬pH (false,pW f L lv cnt L.length,1) (vI f room a b)<0/\cC (vI f room a b).2.1 (vI f room a b).2.2=true:=by
 have hV:=VF.of W;have y:=hV.small;obtain⟨h1,S,Q,-,-⟩:=h.parts;have α:=y.bgF;have Z:=y.bgH;have δ:=y.bgD;have γ:=hS.len;rw[aHC W hS]at U;unfold adZ at U;simp only[bhQ,biB,biM,dT_]at U;obtain⟨hl,hr⟩:=U;have A:∀v,v<Z' L->sB f (nB f v) (pL f.bgD.length (L.getD v []))=true:=by
  intro v u;have g:=hr v u;have pos:∀x∈lM f.bgD.length (L.getD v []),0<=x:=by unfold sB at g;simp only[bhQ]at g;exact uh g.2.1
  rw[a7U pos];exact g
 have K:∀v,v<Z' L->∃q,(f.bgF.map eG.bgP)[v]?=some q/\nB f v=q/\0<=q/\q<Z' f.bgH:=by
  intro v u;have w:v<Z' f.bgF:=Om;have hk:lC f (nB f v)=true:=by have g:=A v u;unfold sB at g;simp only[bhQ]at g;exact g.1
  obtain⟨-,k0,k1,-⟩:=vM hk;refine⟨_,biD (by rw[bhO];exact w),?_,?_⟩
  ·unfold nB;simp[bhX,w]
  ·have e:nB f v=(f.bgF.map eG.bgP)[v]'(by rw[bhO];exact w):=by unfold nB;simp[bhX,w]
   rw[<-e];omega
 have H:∀p:Nat,p<Z' f.bgH->(pU f).getD p 0=(((f.bgF.map eG.bgP).count (p:Int):Nat):Int):=by intro p hp;unfold pU jK;simp[bhX,hp]
 have J:∀v,v<Z' L->sJ f (nB f v) (pL f.bgD.length (L.getD v [])) lv cnt=0/\F (nB f v)<=6*(rU f (nB f v) (pL f.bgD.length (L.getD v [])) lv cnt:Nat)-sF zB (pL f.bgD.length (L.getD v [])):=by intro v u;obtain⟨q,q1,X,q3,q4⟩:=K v u;refine h.row ?_ (A v u);rw[X,H q.toNat Om,show(q.toNat:Int)=q by omega];have:=List.count_pos_iff.2 (bjQ q1);omega
 have β:∀k,k<=Z' L->rD f.bgH.length F ((f.bgF.map eG.bgP).take k)<=6*(pW f L lv cnt k:Nat)-rD f.bgD.length zB (L.take k).flatten/\pW f L lv cnt k<=k*1099511627776:=by
  intro k
  induction k with
  |zero =>intro _;refine⟨?_,bhT _⟩;rw[blF,blF,List.flatten_nil,Z6,Z6];exact Int.le_refl _
  |succ k ih=>
   intro hk;obtain⟨i1,i2⟩:=ih Om;obtain⟨q,q1,X,q3,q4⟩:=K k Om;obtain⟨-,r2⟩:=J k Om;have R:L.getD k []=L[k]:=by simp[bhX,show k<L.length by omega]
   obtain⟨hq,eq⟩:=biZ.1 q1;rw[bjF hq,eq,pw,Z7 F q _ q3 q4,bjF (Om:k<Z' L),List.flatten_append,pw,List.flatten_singleton,<-Z8 zB L[k],pW];rw[X,R]at r2;rw[X,R];refine⟨by rw[Int.natCast_add];omega,?_⟩;have l1:rU f q (pL f.bgD.length L[k]) lv cnt<=1099511627776:=by
    unfold rU;split
    ·exact biQ (mj ..) (EB f lv cnt).1
    ·exact bhT _
   rw[bkI];omega
 obtain⟨k1,k2⟩:=β L.length (bhV _);rw[biS,biK (by rw[bhO];omega)]at k1;have hB:JB f a b=true:=by unfold JB;rw[W,S,Q];rfl
 refine⟨hB,λv u=>⟨A v u,(J v u).1⟩,?_⟩;simp only[jD,bhQ,dT_]at S Q;have at_:∀(l:List RF)(i:Nat)(hi:i<(l.map RF.v).length),(l.map RF.v)[i]=jC l i:=by intro l i hi;unfold jC;rw[bjN];simp only[bhO]at hi;simp[bhX,hi]
 have d1:((pU f).map bjA).length=Z' f.bgH:=by rw[bhO];unfold pU;exact oE ..
 have Y:kW f room=fZ f room:=by unfold kW;rw[aG W]
 have d2:((kW f room).map bjA).length=Z' f.bgD:=by rw[bhO,Y,mK]
 have M:∀d:Nat,d<Z' f.bgD->0<=pQ f room d/\pQ f room d<=16/\(fZ f room).getD d 0=pQ f room d:=by
  intro d V;obtain⟨hm,he⟩:=hV.Dg V;have:=hV.model _ (bhS hm);rw[he]at this;refine⟨?_,?_,by simp[fZ,bhX,V]⟩
  ·unfold pQ;split<;>omega
  ·unfold pQ;split<;>omega
 have c1:=atW (xs:=a.map RF.v) (ns:=(pU f).map bjA) (s:=(false,0,1)) (z:=0) (g:=λi=>F i) (B:=1000000) (by rw[d1,bhO];exact S.2) (KK 0) (λi hi=>by rw[at_];exact h.az i) (λn N=>by obtain⟨x,O,rfl⟩:=biJ.1 N;have:=Kp f Om x O;unfold pU jK at O;obtain⟨d,-,rfl⟩:=biJ.1 O;have:((f.bgF.map eG.bgP).count (d:Int))<=Z' f.bgF:=biQ (List.count_le_length ..) (by rw[bhO];exact bhV _);omega) aS (by rw[bhO];omega) aS;have e1:(oG (a.map RF.v).length λi=>F i*((((pU f).map bjA).getD i 0:Nat):Int))=rD f.bgH.length F (f.bgF.map eG.bgP):=by
  unfold rD;rw[bhO,S.2];refine HI λi hi=>?_;have:=H i hi;have e:((pU f).map bjA).getD i 0=((pU f).getD i 0).toNat:=by
   have E:i<(pU f).length:=by unfold pU;rw[oE];exact hi
   simp[bhX,E]
  rw[e,this];rfl
 rw[e1,Int.zero_add]at c1;have a1:(rD f.bgH.length F (f.bgF.map eG.bgP)).natAbs<=100000:=by
  unfold rD;have:=y6 (g:=λi=>F i*(((f.bgF.map eG.bgP).count (i:Int):Nat):Int)) (B:=100*12) (n:=Z' f.bgH) λi hi=>by rw[Int.natAbs_mul,Int.natAbs_natCast];refine blA (h.az i).2 ?_;refine biQ (List.count_le_length ..) ?_;rw[bhO];exact α
  have:Z' f.bgH*(100*12)<=4*(100*12):=biX _ Z;omega
 have c2:=atW (xs:=b.map RF.v) (ns:=(kW f room).map bjA) (g:=λi=>zB i) (B:=16) (by rw[d2,bhO];exact Q.2) c1 (λi hi=>by rw[at_];exact h.bz i) (λn N=>by rw[Y]at N;obtain⟨x,O,rfl⟩:=biJ.1 N;unfold fZ at O;obtain⟨d,V,rfl⟩:=biJ.1 O;have:=M d (biM.1 V);omega) aS (by rw[bhO];omega) Om;have ε:(oG (b.map RF.v).length λi=>zB i*((((kW f room).map bjA).getD i 0:Nat):Int))<=rD f.bgD.length zB L.flatten:=by
  unfold rD;rw[bhO,Q.2];refine ni λi hi=>?_;obtain⟨r1,-,r3⟩:=M i hi;have e:((kW f room).map bjA).getD i 0=(pQ f room i).toNat:=by
   have E:i<(fZ f room).length:=by rw[mK];exact hi
   rw[Y,<-r3];simp[bhX,E]
  rw[e];have h4:=hl i hi;have h5:(mV f L).getD i 0=(L.flatten.count (i:Int):Nat):=by simp[mV,jK,bhX,hi]
  rw[h5,r3]at h4;exact Int.mul_le_mul_of_nonpos_left (h.free i) Om
 have N:=KK (pW f L lv cnt L.length);have a2:=y6 (g:=λi=>zB i*((((kW f room).map bjA).getD i 0:Nat):Int)) (B:=100*16) (n:=(b.map RF.v).length) λi hi=>by
  rw[Int.natAbs_mul,Int.natAbs_natCast];refine blA (h.bz i).2 ?_;rw[bhO,Q.2]at hi;obtain⟨r1,r2,r3⟩:=M i hi;have E:i<(fZ f room).length:=by rw[mK];exact hi
  have e:((kW f room).map bjA).getD i 0=(pQ f room i).toNat:=by rw[Y,<-r3];simp[bhX,E]
  rw[e];omega
 have a3:(b.map RF.v).length*(100*16)<=24*(100*16):=biX _ (by rw[bhO];omega);unfold vI;rw[Gl N c2];exact⟨by omega,c2.valid Om⟩
def eR:=bT [94] Proofs.Tryz.f3
def aeX:=aA eR 0
def aeY:=aA eR 1
def aeZ:=cV eR 0
def afA:=aA eR 2
def afB:=aA eR 3
def wh:=aA eR 4
def afC:=aA eR 5
def afD:=aA eR 6
def afE:=aA eR 7
def afF:=aA eR 8
def Qt:=aA eR 9
def Qu:=aA eR 10
def Qv:=aA eR 11
def Qw:=aA eR 12
def Qx:=aA eR 13
def Qy:=aA eR 14
def Qz:=aA eR 15
def fv:=aA eR 16
def fq:aC:=(dK Qx 80 4 fv (sq Qy (.cond (Tm 91) (.region Qz) .skip)))
def Q1:=aA eR 17
def ft:aC:=(dK Qv 71 2 Q1 (cH Qw 4 fq))
def Q2:=cV eR 1
def Q3:=aA eR 18
def aNO:=aA eR 19
def Q4:=aA eR 20
def Q5:=aA eR 21
def Qs:aC:=(dK afF 64 0 Q5 (sq Qt (.seq (cH Qu 2 ft) (dq Q2 (dP Q3 110 aNO (.region Q4))))))
def Q6:=cV eR 2
def VV:aC:=(sq aeX (sq aeY (dq aeZ (sq afA (dP afB 51 wh (sq afC (sq afD (.seq (cH afE 0 Qs) (dq Q6 .ret)))))))))
def W3:bD:=⟨1,126,VV,[.tmp 2]⟩
theorem aVB{H:PH}{name:Nat}{pre post:List PV}{v u:PV}{l:List Int}(A:Plain u)(hp:∀x∈pre,Fx x)(w:∀x∈post,Fx x)(p:cA H 1 v (bJ l))(d:l≠[])(h:aH C name (pre++ints l::post) .nil (aI u)) :
  ∃q,v=.osl q 1 0 l.length/\(∃x,H q=some x)/\aH C name (pre++v::post) (H.only [q]) (λr H'=>r=u/\H'=H.only [q]):=by
 rcases p with⟨i,-⟩|⟨q,rs,rfl,h1,h2,h3⟩
 ·exact absurd (List.map_eq_nil_iff.1 i) d
 ·rw[dN]at h2 h3 ⊢;refine⟨q,rfl,⟨_,h1⟩,?_⟩;rw[XG h1];refine aH.aHM A ?_;have e:∀t:List PV,(∀x∈t,Fx x)->t.map (PV.frz q 1 rs)=t:=by
   intro t y
   conv=>rhs;rw[<-List.map_id t]
   exact bkP λx B=>y x B q 1 rs
  rw[biV,e _ hp,biU,e _ w,zQ h2,h3];exact h
theorem aVH(q:Nat)(c:List PV)(B:List BX)(S A E J:PV)(L:L2_)(v:Nat)(hv:v<Z' L)(row:List Int)(N:L[v]=row)(W:Z' row<=100)(d:Int)(l:List Int)(V:Z' l<=100)(w:PV)(K:cF)[Up K](F:PF)(H:PH)
  (hF:(((((((((((n_.set 3 (.ptr q 7 0 0)).set 4 (S)).set 9 (lay L)).set 10 (A)).set 11 (E)).set 12 (J)).set 13 (.int .i64 v)).set 14 (w)).set 15 (.int .i64 d)).set 16 (.int .i64 0))).le F)
  (hH:aR H ((q,.rows 7 [c])::B) [(w,1,bJ l)])
  (hK:∀X H',aR H' ((q,.rows 7 [c])::B) [(X,1,bJ (l++row.filter λx=>decide (x=d)))]->K (.exit 4) ((((((((((n_.set 3 (.ptr q 7 0 0)).set 4 (S)).set 9 (lay L)).set 10 (A)).set 11 (E)).set 12 (J)).set 13 (.int .i64 v)).set 14 (X)).set 15 (.int .i64 d))) H') :
  aC.wp C (.loop fq) K F H:=by
 have y:(L.map λr=>[ints r])[v]?=some [ints row]:=by rw[biL,biD hv,N];rfl
 have O:(v:Int)<(Z' L:Nat):=Om;refine uY _ (λ_ _ _ _ a b=>Up.up a b) hF ?_;refine wp_loop (α:=Nat × PV × PH) (λt=>((((((((((n_.set 3 (.ptr q 7 0 0)).set 4 (S)).set 9 (lay L)).set 10 (A)).set 11 (E)).set 12 (J)).set 13 (.int .i64 v)).set 14 (t.2.1)).set 15 (.int .i64 d)).set 16 (.int .i64 t.1))) (λt=>t.2.2)
  (λt=>t.1<=Z' row/\aR t.2.2 ((q,.rows 7 [c])::B) [(t.2.1,1,bJ (l++(row.take t.1).filter λx=>decide (x=d)))]) (λt=>Z' row-t.1) (0,w,H) ⟨bhT _,by rw[blF,List.filter_nil,bjI];exact hH⟩ Lq b_ ?_
 rintro⟨i,R,U⟩ ⟨hi,M⟩;simp only at hi M ⊢;simp only[go_sem,fq,Qx,O,y,bhO];by_cases hlt:i<Z' row
 ·have p:(i:Int)<(Z' row:Nat):=Om;have Q:(row.map λx=>[PV.int .i64 x])[i]?=some [.int .i64 row[i]]:=by simp[hlt]
  have u:(row.take (i+1)).filter (λx=>decide (x=d))=(row.take i).filter (λx=>decide (x=d))++if row[i]=d then[row[i]]else[]:=by
   rw[bjF hlt,List.filter_append];congr 1;by_cases e:row[i]=d
   ·simp[e]
   ·simp[e]
  have β:((row.take i).filter λx=>decide (x=d)).length<=100:=biQ (List.length_filter_le ..) (by rw[biI];omega);simp only[go_sem,p,Qy,O,y,Q,bhO];by_cases e:row[i]=d
  ·rw[aG e,e]at u;simp only[go_sem,bY e,Qz];refine M.append 0 (src:=[[.int .i64 d]]) rfl Sq (by unfold roomFor;rw[dN,bhW];simp only[biC,maxLen];omega) λY H2 Z _=>?_;simp only[go_sem,fv,wZz i];refine aJ (i+1,Y,H2) ⟨hlt,?_⟩ (by simp only;omega) Lq b_;show aR H2 ((q,.rows 7 [c])::B) [(Y,1,bJ (l++(row.take (i+1)).filter λx=>decide (x=d)))];rw[u,<-biY,JY _ [d]];exact Z
  ·rw[aE e,bjI]at u;simp only[go_sem,bL e,fv,wZz i];refine aJ (i+1,R,U) ⟨hlt,?_⟩ (by simp only;omega) Lq b_;show aR U ((q,.rows 7 [c])::B) [(R,1,bJ (l++(row.take (i+1)).filter λx=>decide (x=d)))];rw[u];exact M
 ·have p:¬(i:Int)<(Z' row:Nat):=Om;have:i=Z' row:=Om;subst this;rw[biS]at M;simp only[go_sem,p];exact Up.up Lq (hK R _ M)
theorem aNP(f:aD)(q:Nat)(B:List BX)(y e i l:PV)(S:Z' f.bgD<=24)(L:L2_)(v:Nat)(Q:v<Z' L)(row:List Int)(u:L[v]=row)(p:Z' row<=100)(K:cF)[Up K](F:PF)(H:PH)
  (J:((((((((((n_.set 3 (.ptr q 7 0 0)).set 4 (y)).set 9 (lay L)).set 10 (e)).set 11 (i)).set 12 (l)).set 13 (.int .i64 v)).set 14 (.aK)).set 15 (.int .i64 0))).le F)
  (M:aR H ((q,.rows 7 [f.cells])::B) [])
  (N:∀x H',aR H' ((q,.rows 7 [f.cells])::B) [(x,1,bJ (pL f.bgD.length row))]->K (.exit 2) (((((((((n_.set 3 (.ptr q 7 0 0)).set 4 (y)).set 9 (lay L)).set 10 (e)).set 11 (i)).set 12 (l)).set 13 (.int .i64 v)).set 14 (x))) H') :
  aC.wp C (.loop ft) K F H:=by
 refine uY _ (λ_ _ _ _ a b=>Up.up a b) J ?_;refine wp_loop (α:=Nat × PV × PH) (λt=>(((((((((n_.set 3 (.ptr q 7 0 0)).set 4 (y)).set 9 (lay L)).set 10 (e)).set 11 (i)).set 12 (l)).set 13 (.int .i64 v)).set 14 (t.2.1)).set 15 (.int .i64 t.1))) (λt=>t.2.2)
  (λt=>t.1<=Z' f.bgD/\aR t.2.2 ((q,.rows 7 [f.cells])::B) [(t.2.1,1,bJ (pL t.1 row))]) (λt=>Z' f.bgD-t.1) (0,.aK,H) ⟨bhT _,M.qU 1⟩ Lq b_ ?_
 rintro⟨j,A,R⟩ ⟨O,w⟩;simp only at O w ⊢;have eq:=w.at 0 rfl;simp only[go_sem,ft,Qv,eq,bhO];by_cases hlt:j<Z' f.bgD
 ·have d:(j:Int)<(Z' f.bgD:Nat):=Om;simp only[go_sem,d,Qw];refine aVH q f.cells B y e i l L v Q row u p j (pL j row) (biQ (aAU row j) p) A _ _ _ Lq w λx H' E=>?_;simp only[go_sem,Q1,wZz j];exact aJ (j+1,x,H') ⟨hlt,E⟩ (by simp only;omega) Lq b_
 ·have d:¬(j:Int)<(Z' f.bgD:Nat):=Om;have:j=Z' f.bgD:=Om;subst this;simp only[go_sem,d];exact Up.up Lq (N A _ w)
theorem a6O(n d:Int)(p:-16<=n/\n<=16)(l:d=1\/d=2\/d=3):∃z,Sx (mkT n d).v z/\z.natAbs<=100:=by
 have i:∀z:Int,6*(if(decide (n<0) != decide (d<0))=true then -(n.natAbs:Int)else n.natAbs)=z*(d.natAbs:Nat)->Sx (mkT n d).v z:=by intro z h;unfold mkT;rw[FV.PW];exact aNN Om h
 have e:(if(decide (n<0) != decide (d<0))=true then -(n.natAbs:Int)else n.natAbs)=n:=by
  rw[bG (Om:¬d<0)];by_cases c:n<0
  ·rw[bA c,aG aS];omega
  ·rw[bG c,aE aS];omega
 rw[e]at i;rcases l with rfl|rfl|rfl
 ·exact⟨6*n,i _ (by show 6*n=6*n*((1:Nat):Int);omega),by omega⟩
 ·exact⟨3*n,i _ (by show 6*n=3*n*((2:Nat):Int);omega),by omega⟩
 ·exact⟨2*n,i _ (by show 6*n=2*n*((3:Nat):Int);omega),by omega⟩
theorem ajR(l:List Nat)(sh:Nat)(d:sh<=8)(a:Nat):∀k,∀x∈(prT l sh a k).1,∃z,Sx x.v z/\z.natAbs<=100
 |0,x,h=>by cases h
 |k+1,x,h=>by
  simp only[prT]at h;rcases bjB.1 h with h|h
  ·exact ajR l sh d a k x h
  ·rw[bjH]at h;subst h;have e:=cG l (n:=9) aS (prT l sh a k).2;have i:=cG l (n:=3) aS (aF l 9 (prT l sh a k).2).2;exact a6O _ _ Om Om
theorem ajS{l:List RF}(h:∀x∈l,∃z,Sx x.v z/\z.natAbs<=100):∃g:Int->Int,∀d,Sx (jC l d) (g d)/\(g d).natAbs<=100:=by
 have i:∀d,∃z,Sx (jC l d) z/\z.natAbs<=100:=by
  intro d;unfold jC;rw[bhX];cases e:(l.map RF.v)[d.toNat]? with
  |none=>exact⟨0,KK 0,by decide⟩
  |some x =>obtain⟨y,p,rfl⟩:=biJ.1 (bjQ e);exact h y p
 exact⟨λd=>Classical.choose (i d),λd=>Classical.choose_spec (i d)⟩
structure aZN(C:Ctx):Prop where
 read:∀(l:List Nat),(∀x∈l,x<256)->Z' l<=9223372036854775807->aH C 326 [.sl 1 (mE l),.int .i64 (7:Nat),.int .i64 (3:Nat)] .nil (Wu l 7 3)
 prs:∀(l:List Nat)(v:PV),Tp l v->∀(o n sh a:Nat),n<=500->sh<=100->a<=Z' l->aH C 327 [.ptr o 2 0 0,.int .i64 (n:Nat),.int .i64 (sh:Nat)] (h_.set o (bB v a)) (λr H=>r=frs (prT l sh a n).1/\H=h_.set o (bB v (prT l sh a n).2))
 tlayout:∀(l:List Nat)(v:PV),Tp l v->∀(o a:Nat)(f:aD),VF f->a<=Z' l->aH C 3 [.ptr o 2 0 0,.agg f.cells] (h_.set o (bB v a)) (λr H=>r=lay (eF l f a f.bgF.length).1/\H=h_.set o (bB v (eF l f a f.bgF.length).2))
 priced:∀(f:aD)(lv cnt:Int)(a b:List RF),f.Ok->dC f=true->(∀x∈a,x.Ok)->(∀x∈b,x.Ok)->(∀x∈b,nl (val x.num)<=8/\nl (val x.den)<=8)->Z' a<=1000000->Z' b<=1000000->aH C 330 [.agg f.cells,rN lv cnt,frs a,frs b] .nil (aI (.bool (zW f lv cnt a b)))
 rholds:∀(f:aD)(l:L2_) (room:List Int),f.Ok->AK l->aH C 83 [.agg f.cells,lay l,ints room] .nil (aI (.bool (BC f l room)))
 bound:∀(f:aD)(room:List Int)(a b:List RF),f.Ok->dC f=true->(∀x∈a,x.Ok)->(∀x∈b,x.Ok)->Z' a<=1000000->Z' b<=1000000->aH C 328 [.agg f.cells,ints room,frs a,frs b] .nil (aI (RU f room a b))
 loss:∀(f:aD)(bgP:Int)(set:List Int)(lv cnt:Int),f.Ok->Z' set<=1000000000000000->aH C 209 [.agg f.cells,.int .i64 bgP,ints set,rN lv cnt] .nil (aI (.tup [.int .i64 (rU f bgP set lv cnt:Nat),.int .i64 (sJ f bgP set lv cnt)]))
 int:∀n:Int,dL n->aH C 47 [.int .i64 n] .nil (aI (.agg (mkT n 1).cells))
 less:∀x y:RF,x.Ok->y.Ok->x.valid->y.valid->aH C 49 [.agg x.cells,.agg y.cells] .nil (aI (.bool (decide (sV x y<0))))
 lh:aH C 332 [] .nil (aI (.bool true))
theorem aeT(f:aD)(L:L2_)(lv cnt:Int):∀k,pW f L lv cnt k<=k*1099511627776
 |0=>bhT _
 |k+1=>by
  have d:=aeT f L lv cnt k;have e:rU f (nB f k) (pL f.bgD.length (L.getD k [])) lv cnt<=1099511627776:=by
   unfold rU;split
   ·exact biQ (mj ..) (EB f lv cnt).1
   ·exact bhT _
  rw[pW,bkI];omega
def wkS(D:List Nat)(r:PV):Spec:=λ_ _=>some (D,λG r' H'=>r'=r/\H'=G)
def lsS(a b:PV):Spec:=λd _=>if d=47 then some ([],λ_=>aI a)else if d=332 then some ([],λ_=>aI (.bool true))else some ([],λ_=>aI b)
theorem aVI(A:aZN C)(l:List Nat)(hb:∀x∈l,x<256)(hl:Z' l<=9223372036854775807) :
  VV.wp C (aZ W3.res (aI (.bool true))) (g_ [.sl 1 (mE l)]) .nil:=by
 obtain⟨i2,i3,i4⟩:=aZZ (l.take 400) 7 3;obtain⟨hv,Y⟩:=d3 (l.take 400) 7 3 (xP (l.take 400)).2 aS aS;have J:=A.read l hb hl;unfold Wu at J;change dC (rdF (l.take 400) 7 3).1=true at hv;change(rdF (l.take 400) 7 3).1.Ok at Y;generalize(rdF (l.take 400) 7 3).1=f at *
 generalize(rdR (l.take 400) 7 3).1=room at *
 generalize(rdR (l.take 400) 7 3).2=p at *
 generalize(1+(FQ (l.take 400)).1:Nat)=lv at *
 generalize(1+(xP (l.take 400)).1:Nat)=d at *
 have hV:=VF.of hv;have c':=hV.small.bgH;have ο:=hV.small.bgD;have f':=hV.small.bgF;have Δ:=λv T o=>A.prs (l.take 400) v T o f.bgH.length 4 p Om aS i4;have δ:=Gr (l.take 400) 4 i4 f.bgH.length;have ε:=ajQ (l.take 400) 4 aS p f.bgH.length;obtain⟨zA,ψ⟩:=ajS (ajR (l.take 400) 4 aS p f.bgH.length);generalize prT (l.take 400) 4 p f.bgH.length=i at *
 have Θ:=λv T o=>A.prs (l.take 400) v T o f.bgD.length 8 i.2 Om aS δ.1;have W:=Gr (l.take 400) 8 δ.1 f.bgD.length;have Q:=ajQ (l.take 400) 8 aS i.2 f.bgD.length;obtain⟨zB,ω⟩:=ajS (ajR (l.take 400) 8 aS i.2 f.bgD.length);generalize prT (l.take 400) 8 i.2 f.bgD.length=u at *
 have kl:=λv T o=>A.tlayout (l.take 400) v T o u.2 f hV W.1;obtain⟨s1,s2,s3⟩:=Qn (l.take 400) hV W.1 f.bgF.length (bhV _);have X:CO f (eF (l.take 400) f u.2 f.bgF.length).1:=⟨s1,s2,s3⟩;clear s1 s2 s3;generalize eF (l.take 400) f u.2 f.bgF.length=lt at *
 obtain⟨L,Ψ⟩:=lt;simp only at X kl;have κ:=X.ok hV;have β:=A.bound f room i.1 u.1 Y hv (λx h=>(ε x h).1) (λx h=>(Q x h).1) Om Om;have Λ:=A.priced f lv d i.1 u.1 Y hv (λx h=>(ε x h).1) (λx h=>(Q x h).1) (λx h=>(Q x h).2) Om Om;have Γ:=A.rholds f L room Y κ;simp only[go_sem,VV,aeX,W3,aeY];refine nE J (by simp only[go_sem];rfl) a_ ?_;rintro r H' ⟨o,v,rfl,T,rfl⟩ a';rw[PH.qV];have h1:aR (h_.set o (bB v p)) [(o,bB v p)] []:=aR.nil.new (H:=h_) rfl _;generalize h_.set o (bB v p)=H1 at h1 ⊢;simp only[go_sem];refine h1.ci λo7 H2 h2=>?_;simp only[go_sem];refine h2.ci λo8 H3 h3=>?_;have q7:=h3.at 1 rfl;have h4:=h3.set 1 rfl (.rows 7 [f.cells]);have Ξ:¬o8=o7:=λe=>h3.ne 1 2 rfl rfl aS e.symm;have q8:=h3.at 2 rfl;have h5:=h4.set 2 rfl (.rows 2 [[.int .i64 ((lv:Nat):Int),.int .i64 ((d:Nat):Int)]]);simp only[go_sem,q7,q8,Ξ];generalize(H3.set o7 _).set o8 _=H5 at *
 have go:=h5.at 0 rfl;have O:=h5.at 1 rfl;refine bV (h_.set o7 (.rows 7 [f.cells])) (bdQ o (λr H=>r=frs i.1/\H=h_.set o (bB v i.2)) (λr H=>r=frs u.1/\H=h_.set o (bB v u.2))) (e_ a_ O) ?_;simp only[go_sem,aeZ,O,bhO];have h6:=h5.set 0 rfl (bB v i.2);refine UF rfl go (Δ v T o) ⟨rfl,rfl⟩ (λr' H' h=>h) (by simp only[go_sem];rfl) (e_ a_ (h6.at 1 rfl)) ?_;generalize H5.set o (bB v i.2)=H6 at *
 have θ:=h6.at 0 rfl;simp only[go_sem,bhO];have h7:=h6.set 0 rfl (bB v u.2);refine UF rfl θ (Θ v T o) ⟨rfl,rfl⟩ (λr' H' h=>h) (by simp only[go_sem];rfl) (e_ a_ (h7.at 1 rfl)) ?_;generalize H6.set o (bB v u.2)=H7 at *
 have O:=h7.at 1 rfl;simp only[go_sem,afA,O];refine h7.jt 0 rfl (kl v T o) Sq λH8 h8=>?_;have O:=h8.at 1 rfl;have g8:=h8.at 2 rfl;simp only[go_sem,afB,O,g8];refine aB Λ Sq ?_;cases hp:zW f lv d i.1 u.1 with
 |false =>simp only[go_sem,biF,wh];refine aB A.lh Ev ?_;simp only[go_sem];exact fM Sq rfl
 |true=>
 simp only[go_sem,bhZ,O];refine aB Γ Sq ?_;cases hh:BC f L room with
 |false =>simp only[go_sem,biF,wh];refine aB A.lh Ev ?_;simp only[go_sem];exact fM Sq rfl
 |true=>
 obtain⟨w1,w2,w3,ξ⟩:=aYY hv X hh (⟨hp,ψ,ω⟩:cc f lv d i.1 u.1 zA zB);rw[show RU f room i.1 u.1=.tup [.agg (vI f room i.1 u.1).rf.cells,.int .i64 0]from by unfold RU;rw[aG w1]]at β;have ν:(vI f room i.1 u.1).rf.Ok:=by unfold vI;exact RX (RX (Gj 0 aS))
 have Ω:=X.len;have R:=aeT f L lv d;generalize vI f room i.1 u.1=y at *
 simp only[go_sem,bhZ,afC,O];refine aB β Sq ?_;simp only[go_sem];refine h8.ci λN H9 h9=>?_;have Φ:=h9.at 3 rfl;have ι:=h9.set 3 rfl (.rows 3 [y.rf.cells]);simp only[go_sem,Φ,afD,afE];generalize H9.set N _=V at *
 have B:aR V [(o7,.rows 7 [f.cells]),(o8,.rows 2 [[.int .i64 ((lv:Nat):Int),.int .i64 ((d:Nat):Int)]]),(N,.rows 3 [y.rf.cells])] []:=ι.tM 0;refine wp_loop (α:=Nat × PH) (λt=>(((((((n_.set 3 (.ptr o7 7 0 0)).set 4 (.ptr o8 2 0 0)).set 9 (lay L)).set 10 (.ptr N 3 0 0)).set 11 (.int .i64 0)).set 12 (.int .i64 (pW f L lv d t.1:Nat))).set 13 (.int .i64 t.1))) (λt=>t.2)
  (λt=>t.1<=Z' L/\aR t.2 [(o7,.rows 7 [f.cells]),(o8,.rows 2 [[.int .i64 ((lv:Nat):Int),.int .i64 ((d:Nat):Int)]]),(N,.rows 3 [y.rf.cells])] []) (λt=>Z' L-t.1) (0,V) ⟨bhT _,B⟩ (by(repeat' (first|exact c_|refine d_ ?_ ?_))<;>first|(simp only[go_sem,show pW f L lv d 0=0 from rfl]<;>rfl)|rfl) b_ ?_
 rintro⟨k,Hk⟩ ⟨hk,hH⟩;simp only at hk hH ⊢;simp only[go_sem,Qs,afF,bhO];by_cases hlt:k<Z' L
 ·have F:(k:Int)<(Z' L:Nat):=Om;have M:k<Z' f.bgF:=Om;have S:(k:Int)<(Z' f.bgF:Nat):=Om;have μ:(f.bgF.map eG.cells)[k]?=some (f.bgF[k]).cells:=by simp[M]
  have χ:nB f k=(f.bgF[k]).bgP:=by unfold nB;simp[bhX,M]
  have ρ:L.getD k []=L[k]:=by simp[bhX,hlt]
  have d':=X.row k hlt;obtain⟨φ,he⟩:=vY hV M;have Z:=hV.bgP _ (bhS φ);rw[he]at Z;have b':kF f k=(kI f k).k+(kI f k).m:=rfl;obtain⟨a1,a2⟩:=w2 k hlt;have K:pW f L lv d (k+1)=pW f L lv d k+rU f (nB f k) (pL f.bgD.length (L.getD k [])) lv d:=rfl;have b1:=R k;have b2:=R (k+1);rw[ρ]at a1 a2 K;generalize hr:L[k]=row at *
  have σ:pL f.bgD.length row≠[]:=by
   intro h0;have:((pL f.bgD.length row).length:Int)=mY (dW f (nB f k)):=by unfold sB at a1;simp only[bhQ]at a1;have a3:=a1.2.1;unfold qL at a3;simp only[bhQ,dT_]at a3;exact a3.1
   rw[h0,apO]at this;unfold mY at this;simp at this;omega
  have e':=aAU row f.bgD.length;have γ:=A.loss f (nB f k) (pL f.bgD.length row) lv d Y Om;rw[a2]at γ;generalize rU f (nB f k) (pL f.bgD.length row) lv d=x at *
  simp only[go_sem,F,Qt,Qu];refine aNP f o7 _ (.ptr o8 2 0 0) (.ptr N 3 0 0) (.int .i64 0) (.int .i64 (pW f L lv d k:Nat)) ο L k hlt row hr Om _ _ _ Lq hH λw ζ B=>?_;have e7:=B.at 0 rfl;have e8:=B.at 1 rfl;obtain⟨p',rfl,U,E⟩:=aVB (C:=C) (name:=209) (pre:=[.agg f.cells,.int .i64 (nB f k)]) (post:=[rN lv d]) (.two _ _ _ _) (λx U=>by
   simp only[biG,biO,or_false]at U;rcases U with rfl|rfl
   ·exact λ_ _ _=>rfl
   ·exact .int _ _) (λx U=>by rw[bjH]at U;subst U;exact λ_ _ _=>rfl) (B.own 0 rfl) σ γ
  rw[χ]at E;refine bV .nil (wkS [p'] (.tup [.int .i64 ((x:Nat):Int),.int .i64 0])) a_ ?_;simp only[go_sem,Q2,e7,e8,S,μ,bhO];refine aMF (D:=[p']) rfl (λo ho=>by rw[bjH]at ho;subst ho;exact U) E (by simp only[go_sem];rfl) a_ ?_;simp only[go_sem,Q3,cN (show(0:Int)=0 from rfl),Q4,wrap_i64 (Om:-9223372036854775808<=((pW f L lv d k:Nat):Int)+(x:Nat)) Om,Q5,wZz k];exact aJ (k+1,ζ) ⟨hlt,B.Wx 0⟩ (by simp only;omega) (by(repeat' (first|exact c_|refine d_ ?_ ?_))<;>first|(simp only[go_sem,K,Int.natCast_add]<;>rfl)|rfl) b_
 ·have F:¬(k:Int)<(Z' L:Nat):=Om;have:k=Z' L:=Om;subst this;have b1:=R L.length;have η:=hH.at 2 rfl;have ki:=A.int (pW f L lv d L.length:Nat) (by unfold dL;omega);rw[a2U]at ki;have τ:=Gj (pW f L lv d L.length) Om;have υ:cC (pW f L lv d L.length) 1=true:=(KK _).valid Om;have kc:=A.less _ _ τ ν (apA (x:=(false,pW f L lv d L.length,1)) υ) (apA ξ);rw[a6Z,bG w3]at kc;generalize pW f L lv d L.length=n at *
  simp only[go_sem,F];refine bV Hk (lsS (.agg (FV.rf (false,n,1)).cells) (.bool false)) b_ ?_;simp only[go_sem,Q6,bY (show(0:Int)=0 from rfl)];refine bX rfl ki Sq b_ ?_;simp only[go_sem,η];refine bX rfl kc Sq b_ ?_;simp only[go_sem,biF];refine bX rfl A.lh Ev b_ ?_;simp only[go_sem];exact fM Sq rfl
mutual
def PV.ren(r:Nat->Nat):PV->PV
 | .osl o s d len=>.osl (r o) s d len
 | .ptr o s i c=>.ptr (r o) s i c
 | .map o=>.map (r o)
 | .sl s rows=>.sl s (PV.rB r rows)
 | .bK cs=>.bK (PV.lW r cs)
 | .fn n cs=>.fn n (PV.lW r cs)
 | .agg cs=>.agg (PV.lW r cs)
 | .tup cs=>.tup (PV.lW r cs)
 | .int k n=>.int k n
 | .bool b=>.bool b
 | .str s=>.str s
 | .aK=>.aK
 | .lit v=>.lit v
 | .junk=>.junk
def PV.lW(r:Nat->Nat):List PV->List PV
 |[]=>[]
 |v::vs=>PV.ren r v::PV.lW r vs
def PV.rB(r:Nat->Nat):P2_->P2_
 |[]=>[]
 |v::vs=>PV.lW r v::PV.rB r vs
end
theorem PV.fC(r:Nat->Nat):∀l,PV.lW r l=l.map (PV.ren r)
 |[]=>rfl
 |v::vs=>by rw[PV.lW,PV.fC r vs];rfl
theorem PV.lL(r:Nat->Nat):∀l,PV.rB r l=l.map λx=>x.map (PV.ren r)
 |[]=>rfl
 |v::vs=>by rw[PV.rB,PV.lL r vs,PV.fC];rfl
mutual
def PV.bound(n:Nat):PV->Bool
 | .osl o _ _ _=>decide (o<n)
 | .ptr o _ _ _=>decide (o<n)
 | .map o=>decide (o<n)
 | .sl _ rows=>PV.jJ n rows
 | .bK cs=>PV.bounds n cs
 | .fn _ cs=>PV.bounds n cs
 | .agg cs=>PV.bounds n cs
 | .tup cs=>PV.bounds n cs
 | .int _ _=>true
 | .bool _=>true
 | .str _=>true
 | .aK=>true
 | .lit _=>true
 | .junk=>true
def PV.bounds(n:Nat):List PV->Bool
 |[]=>true
 |v::vs=>PV.bound n v&&PV.bounds n vs
def PV.jJ(n:Nat):P2_->Bool
 |[]=>true
 |v::vs=>PV.bounds n v&&PV.jJ n vs
end
mutual
theorem PV.iv{n:Nat}{r r':Nat->Nat}(h:∀i,i<n->r i=r' i):∀v:PV,v.bound n=true->v.ren r=v.ren r'
 | .osl o s d len,hb=>by simp only[PV.bound,dT_]at hb;simp only[PV.ren,h o hb]
 | .ptr o s i c,hb=>by simp only[PV.bound,dT_]at hb;simp only[PV.ren,h o hb]
 | .map o,hb=>by simp only[PV.bound,dT_]at hb;simp only[PV.ren,h o hb]
 | .sl s rows,hb=>by simp only[PV.bound]at hb;simp only[PV.ren,PV.PU h rows hb]
 | .bK cs,hb=>by simp only[PV.bound]at hb;simp only[PV.ren,PV.tU h cs hb]
 | .fn _ cs,hb=>by simp only[PV.bound]at hb;simp only[PV.ren,PV.tU h cs hb]
 | .agg cs,hb=>by simp only[PV.bound]at hb;simp only[PV.ren,PV.tU h cs hb]
 | .tup cs,hb=>by simp only[PV.bound]at hb;simp only[PV.ren,PV.tU h cs hb]
 | .int _ _,_=>rfl
 | .bool _,_=>rfl
 | .str _,_=>rfl
 | .aK,_=>rfl
 | .lit _,_=>rfl
 | .junk,_=>rfl
theorem PV.tU{n:Nat}{r r':Nat->Nat}(h:∀i,i<n->r i=r' i):∀l:List PV,PV.bounds n l=true->PV.lW r l=PV.lW r' l
 |[],_=>rfl
 |v::vs,hb=>by simp only[PV.bounds,bhQ]at hb;rw[PV.lW,PV.lW,PV.iv h v hb.1,PV.tU h vs hb.2]
theorem PV.PU{n:Nat}{r r':Nat->Nat}(h:∀i,i<n->r i=r' i):∀l:P2_,PV.jJ n l=true->PV.rB r l=PV.rB r' l
 |[],_=>rfl
 |v::vs,hb=>by simp only[PV.jJ,bhQ]at hb;rw[PV.rB,PV.rB,PV.tU h v hb.1,PV.PU h vs hb.2]
end
mutual
theorem PV.aPI:∀v:PV,v.ren id=v
 | .osl o s d len=>rfl
 | .ptr o s i c=>rfl
 | .map o=>rfl
 | .sl s rows=>by simp only[PV.ren,PV.akA rows]
 | .bK cs=>by simp only[PV.ren,PV.zY cs]
 | .fn _ cs=>by simp only[PV.ren,PV.zY cs]
 | .agg cs=>by simp only[PV.ren,PV.zY cs]
 | .tup cs=>by simp only[PV.ren,PV.zY cs]
 | .int _ _=>rfl
 | .bool _=>rfl
 | .str _=>rfl
 | .aK=>rfl
 | .lit _=>rfl
 | .junk=>rfl
theorem PV.zY:∀l:List PV,PV.lW id l=l
 |[]=>rfl
 |v::vs=>by rw[PV.lW,PV.aPI v,PV.zY vs]
theorem PV.akA:∀l:P2_,PV.rB id l=l
 |[]=>rfl
 |v::vs=>by rw[PV.rB,PV.zY v,PV.akA vs]
end
theorem PV.BU{v:PV}(h:v.bound 0=true)(r:Nat->Nat):v.ren r=v:=(PV.iv (r':=id) (λi hi=>absurd hi (Nat.not_lt_zero i)) v h).trans (PV.aPI v)
theorem PV.qF{l:List PV}(h:PV.bounds 0 l=true)(r:Nat->Nat):l.map (PV.ren r)=l:=by
 rw[<-PV.fC];exact(PV.tU (r':=id) (λi hi=>absurd hi (Nat.not_lt_zero i)) l h).trans (PV.zY l)
theorem zX(r:Nat->Nat)(v:PV):(v.ren r).cells=v.cells.map (PV.ren r):=by
 cases v<;>simp only[PV.ren,PV.cells,PV.fC,biU,bjP]
theorem a4D(r:Nat->Nat)(v:PV):(v.ren r).one=v.one:=by
 cases v<;>simp only[PV.ren,PV.one]
theorem yF(r:Nat->Nat)(l:List PV):(l.map (PV.ren r)).all PV.one=l.all PV.one:=by
 rw[List.all_map];congr 1;exact funext λv=>a4D r v
theorem KP(r:Nat->Nat):∀(vs:List PV)(l:List PV)(c:Nat),(setCells l c vs).map (PV.ren r)=setCells (l.map (PV.ren r)) c (vs.map (PV.ren r))
 |[],_,_=>rfl
 |v::vs,l,c=>by simp only[setCells,biU];rw[KP r vs,List.map_set]
theorem a4C{r:Nat->Nat}{op:BinOp}{x y v:PV}(h:PV.bin op x y=some v):PV.bin op (x.ren r) (y.ren r)=some (v.ren r):=by
 have d:∀{k:IntKind}{n:Int},(PV.int k n).ren r=.int k n:=rfl;cases x<;>cases y<;>try (cases op<;>simp[PV.bin]at h;done)
 ·simp only[PV.ren];rw[h];congr 1;revert h;unfold PV.bin;cases op<;>simp only[shift,pP]<;>intro h<;>(repeat' split at h)<;>cases h<;>rfl
 ·simp only[PV.ren];rw[h];congr 1;revert h;unfold PV.bin;cases op<;>simp only[RS]<;>intro h<;>(repeat' split at h)<;>cases h<;>rfl
def aY.ren(r:Nat->Nat):aY->aY
 | .rows s rs=>.rows s (rs.map λx=>x.map (PV.ren r))
 |x=>x
def PF.ren(r:Nat->Nat)(F:PF):PF:=λi=>(F i).map (PV.ren r)
def bx(r:Nat->Nat)(h H:PH):Prop:=∀i x,h i=some x->H (r i)=some (x.ren r)
def aP.clo:aP->Bool
 | .tmp _=>true
 | .const v=>v.bound 0
section
variable {r:Nat->Nat} {F:PF} {h H:PH}
theorem cY{x:aP}{v:PV}(d:x.clo=true)(e:x.ev F=some v):x.ev (F.ren r)=some (v.ren r):=by
 cases x with
 |tmp t=>simp only[aP.ev]at e ⊢;simp only[PF.ren,e,biP]
 |const u=>simp only[aP.ev,bjV.injEq]at e ⊢;subst e;exact(PV.BU d r).symm
theorem HZ:∀{l:List aP}{vs:List PV},l.all aP.clo=true->aP.evs F l=some vs->aP.evs (F.ren r) l=some (vs.map (PV.ren r))
 |[],vs,_,e=>by cases e;rfl
 |x::xs,vs,d,e=>by
  simp only[blJ,bhQ]at d;simp only[aP.evs]at e ⊢;split at e
  ·rename_i v u i p;cases e;rw[cY d.1 i,HZ d.2 p];rfl
  ·cases e
theorem auC{k:Sc}{x y:PV}{b:Bool}(e:PV.eq1 k x y=some b):PV.eq1 k (x.ren r) (y.ren r)=some b:=by
 unfold PV.eq1 at e;split at e<;>first|exact e|cases e
theorem auD:∀{i:List Sc}{xs ys:List PV}{b:Bool},PV.eqs i xs ys=some b->PV.eqs i (xs.map (PV.ren r)) (ys.map (PV.ren r))=some b
 |[],[],[],_,e=>e
 |k::i,x::xs,y::ys,b,e=>by
  simp only[PV.eqs,biU]at e ⊢;split at e
  ·rename_i d;rw[auC d];exact auD e
  ·rename_i d;rw[auC d];simpa using e
  ·cases e
 |[],_::_,_,_,e=>by simp[PV.eqs]at e
 |[],[],_::_,_,e=>by simp[PV.eqs]at e
 |_::_,[],_,_,e=>by simp[PV.eqs]at e
 |_::_,_::_,[],_,e=>by simp[PV.eqs]at e
theorem a8A{op:UnOp}{x v:PV}(e:PV.un op x=some v):PV.un op (x.ren r)=some (v.ren r):=by
 unfold PV.un at e;split at e
 ·split at e<;>cases e<;>rfl
 ·split at e<;>cases e;rfl
 ·cases e
theorem Px:∀{l:List (Nat × Nat × aP)}{cells v:List PV},(l.all λx=>x.2.2.clo)=true->rO cells F l=some v->rO (cells.map (PV.ren r)) (F.ren r) l=some (v.map (PV.ren r))
 |[],_,_,_,e=>by cases e;rfl
 |(u,size,x)::l,cells,v,d,e=>by
  simp only[blJ,bhQ]at d;simp only[rO]at e ⊢;split at e
  ·rename_i w i;rw[cY d.1 i];simp only[zX,yF,bhO];split at e
   ·rename_i p;rw[aG p,<-KP];exact Px d.2 e
   ·cases e
  ·cases e
theorem JP{size:Nat}:∀{l:List (Nat × aP)}{rows v:P2_},(l.all λx=>x.2.clo)=true->iY size rows F l=some v ->
  iY size (rows.map λx=>x.map (PV.ren r)) (F.ren r) l=some (v.map λx=>x.map (PV.ren r))
 |[],_,_,_,e=>by cases e;rfl
 |(i,x)::l,rows,v,d,e=>by
  simp only[blJ,bhQ]at d;simp only[iY]at e ⊢;split at e
  ·rename_i w p;rw[cY d.1 p];simp only[zX,yF,bhO];split at e
   ·rename_i u;rw[aG u,<-List.map_set];exact JP d.2 e
   ·cases e
  ·cases e
theorem yO(x:bx r h H){p:PV}{n:Nat}{v:List PV}(e:loadCells h p n=some v):loadCells H (p.ren r) n=some (v.map (PV.ren r)):=by
 unfold loadCells at e;split at e
 ·split at e
  ·rename_i o size i c s rs u;have l:=x _ _ u;simp only[aY.ren]at l;simp only[PV.ren,loadCells,l];split at e
   ·rename_i d;rw[aG d,biL];split at e
    ·rename_i q w;rw[w];simp only[biP,bhO];split at e
     ·rename_i h5;rw[aG h5,<-List.map_drop,<-bkY];cases e;rfl
     ·cases e
    ·cases e
   ·cases e
  ·cases e
 ·simp only[PV.ren,loadCells,PV.fC,bhO];split at e
  ·rename_i d;rw[aG d,<-bkY];cases e;rfl
  ·cases e
 ·cases e
theorem CF(w:bx r h H){s:Nat}{p:PV}{v:P2_}(e:eA h s p=some v):eA H s (p.ren r)=some (v.map λx=>x.map (PV.ren r)):=by
 unfold eA at e;split at e
 ·cases e;rfl
 ·simp only[PV.ren,eA,PV.lL];split at e
  ·rename_i d;rw[aG d];cases e;rfl
  ·cases e
 ·split at e
  ·rename_i d;split at e
   ·rename_i l;have i:=w _ _ l;simp only[aY.ren]at i;simp only[PV.ren,eA,i,bhO];rw[aG d];split at e
    ·rename_i u;rw[aG u,<-List.map_drop,<-bkY];cases e;rfl
    ·cases e
   ·cases e
  ·cases e
 ·cases e
theorem JC:∀{l:P2_}{s:List UInt8},jU l=some s->jU (l.map λx=>x.map (PV.ren r))=some s
 |[],_,e=>e
 |[.int .u8 n]::rest,s,e=>by
  simp only[jU,biU,bjP,PV.ren]at e ⊢;cases d:jU rest with
  |none=>rw[d]at e;cases e
  |some t=>rw[d]at e;rw[JC d];exact e
 |[]::_,_,e=>by simp[jU]at e
 |(_::_::_)::_,_,e=>by simp[jU]at e
 |[v]::rest,s,e=>by
  cases v<;>try (simp[jU]at e;done)
  rename_i k n;cases k<;>try (simp[jU]at e;done)
  simp only[jU,biU,bjP,PV.ren]at e ⊢;cases d:jU rest with
  |none=>rw[d]at e;cases e
  |some t=>rw[d]at e;rw[JC d];exact e
theorem RT{d n:Int}{x:Option aP}(l:(x.all aP.clo)=true)(e:bnd F d x=some n):bnd (F.ren r) d x=some n:=by
 cases x with
 |none=>exact e
 |some x=>
  simp only[bnd]at e ⊢;cases i:x.ev F with
  |none=>rw[i]at e;cases e
  |some v =>rw[i]at e;rw[cY (by simpa using l) i];cases v<;>first|exact e|cases e
theorem Tj{size:Nat}{x v:PV}{l m:Int}{mx:Option Int}(e:PV.slice size x l m mx=some v):PV.slice size (x.ren r) l m mx=some (v.ren r):=by
 unfold PV.slice at e;split at e
 ·split at e
  ·rename_i d;cases e;simp only[PV.ren,PV.slice];rw[aG d]
  ·cases e
 ·split at e
  ·rename_i d;cases e;simp only[PV.ren,PV.slice,PV.lL,bhO];rw[aG d,<-bkY,<-List.map_drop]
  ·cases e
 ·split at e
  ·rename_i d;cases e;simp only[PV.ren,PV.slice];rw[aG d]
  ·cases e
 ·cases e
theorem aHJ{x:PV}{b:Bool}(e:PV.uB x=some b):PV.uB (x.ren r)=some b:=by
 unfold PV.uB at e;split at e<;>first|exact e|cases e
theorem aVA{x v:PV}(e:PV.uP x=some v):PV.uP (x.ren r)=some (v.ren r):=by
 unfold PV.uP at e;split at e<;>cases e<;>simp only[PV.ren,PV.uP,PV.lL,bhO]
theorem A6(size:Nat):∀(n:Nat)(cs:List PV),chunks size n (cs.map (PV.ren r))=(chunks size n cs).map λx=>x.map (PV.ren r)
 |0,_=>rfl
 |n+1,cs=>by simp only[chunks,biU,bkY,<-List.map_drop,A6 size n]
end
def POp.clo:POp->Bool
 | .mv x | .same x | .un _ x | .conv _ x | .box _ x | .load _ x | .bgQ x | .bhG _ x | .field _ _ x | .len x | .bhD x | .bhN x | .isNil _ x | .extract x _ | .bgR x=>x.clo
 | .pick c a b=>c.clo&&(a.clo&&b.clo)
 | .bin _ x y | .eqb _ x y | .eqs _ _ x y | .bgU _ x y | .idxA _ _ x y | .idxV _ _ _ x y | .bhE x y | .bgY _ x y | .store _ x y | .append _ _ x y=>x.clo&&y.clo
 | .alloc cells=>PV.bounds 0 cells
 | .build zero parts=>PV.bounds 0 zero&&parts.all λx=>x.2.2.clo
 | .bgJ _ _ _ zero parts=>PV.bounds 0 zero&&parts.all λx=>x.2.clo
 | .slice _ x lo hi mx=>x.clo&&(lo.all aP.clo&&(hi.all aP.clo&&mx.all aP.clo))
 | .bhA x lo hi=>x.clo&&(lo.all aP.clo&&hi.all aP.clo)
 | .sliceA _ _ x _ _ _=>x.clo
 | .bgL _ _ zero l c=>PV.bounds 0 zero&&(l.clo&&c.clo)
 | .mkfn _ l=>l.all aP.clo
 | .call _ l=>l.all aP.clo
 | .bhF x l=>x.clo&&l.all aP.clo
 |_=>false
section
variable {r:Nat->Nat} {F:PF} {h H:PH}
theorem ir(K:bx r h H){op:POp}{v:PV}(u:op.clo=true)(e:aU op F h=some v):aU op (F.ren r) H=some (v.ren r):=by
 cases op<;>try (simp[aU]at e;done)
 case mv x=>exact cY u e
 case pick c a b=>
  simp only[POp.clo,bhQ]at u;simp only[aU]at e ⊢;split at e
  ·rename_i t d;rw[cY u.1 d];cases t with
   |true=>exact cY u.2.1 e
   |false=>exact cY u.2.2 e
  ·cases e
 case bin op x y=>
  simp only[POp.clo,bhQ]at u;simp only[aU]at e ⊢;split at e
  ·rename_i a b d A;rw[cY u.1 d,cY u.2 A];exact a4C e
  ·cases e
 case eqb n x y=>
  simp only[POp.clo,bhQ]at u;simp only[aU]at e ⊢;split at e
  ·rename_i a b d A;rw[cY u.1 d,cY u.2 A];cases e;rfl
  ·cases e
 case eqs n ks x y=>
  simp only[POp.clo,bhQ]at u;simp only[aU]at e ⊢;split at e
  ·rename_i a b d A;rw[cY u.1 d,cY u.2 A];simp only[PV.ren,PV.fC];cases B:PV.eqs ks a b with
   |none=>rw[B]at e;cases e
   |some t=>rw[B]at e;rw[auD B];cases e;rfl
  ·cases e
 case un op x=>
  simp only[aU]at e ⊢;split at e
  ·rename_i a d;rw[cY u d];exact a8A e
  ·cases e
 case conv k x=>
  simp only[aU]at e ⊢;split at e
  ·rename_i N n d;rw[cY u d];cases e;rfl
  ·cases e
 case same x=>
  simp only[aU]at e ⊢;split at e
  ·rename_i s d;rw[cY u d];cases e;rfl
  ·cases e
 case box ro x=>
  cases ro with
  |false=>simp[aU]at e
  |true=>
   simp only[aU]at e ⊢;split at e
   ·rename_i a d;rw[cY u d];simp only[zX,yF];split at e
    ·rename_i A;rw[aG A];cases e;simp only[PV.ren,PV.fC]
    ·cases e
   ·cases e
 case build zero parts=>
  simp only[POp.clo,bhQ]at u;simp only[aU]at e ⊢;cases d:rO zero F parts with
  |none=>rw[d]at e;cases e
  |some w =>rw[d]at e;have A:=Px (r:=r) u.2 d;rw[PV.qF u.1]at A;rw[A];cases e;simp only[biP,PV.ren,PV.fC]
 case bgJ ro size len zero parts=>
  cases ro with
  |false=>simp[aU]at e
  |true=>
   simp only[POp.clo,bhQ]at u;simp only[aU]at e ⊢;split at e
   ·rename_i M;rw[aG M];cases d:iY size (bhU len zero) F parts with
    |none=>rw[d]at e;cases e
    |some w =>rw[d]at e;have A:=JP (r:=r) u.2 d;rw[List.map_replicate,PV.qF u.1]at A;rw[A];cases e;simp only[biP,PV.ren,PV.lL]
   ·cases e
 case load n p=>
  cases n with
  |none=>
   simp only[aU]at e ⊢;split at e
   ·rename_i a d;rw[cY u d];split at e
    ·rename_i w A;have B:=yO K A;simp only[biU,bjP]at B;simp only[B];cases e;rfl
    ·cases e
   ·cases e
  |some n=>
   simp only[aU]at e ⊢;split at e
   ·rename_i a d;rw[cY u d];cases A:loadCells h a n with
    |none=>rw[A]at e;cases e
    |some w =>rw[A]at e;simp only[yO K A];cases e;simp only[biP,PV.ren,PV.fC]
   ·cases e
 case bgQ x=>
  simp only[aU]at e ⊢;split at e
  ·rename_i d;rw[cY u d];cases e;rfl
  ·rename_i d;rw[cY u d];cases e;rfl
  ·cases e
 case bhG J x=>
  simp only[aU]at e ⊢;split at e
  ·rename_i d;rw[cY u d];cases e;rfl
  ·rename_i d;rw[cY u d];cases e;simp only[PV.ren,PV.fC,List.map_drop]
  ·cases e
 case field J n x=>
  simp only[aU]at e ⊢;split at e
  ·rename_i cs d;rw[cY u d];simp only[PV.ren,PV.fC];split at e
   ·rw[biL,e];rfl
   ·split at e
    ·rename_i A;rw[bhO,aG A,<-List.map_drop,<-bkY];cases e;simp only[PV.ren,PV.fC]
    ·cases e
  ·cases e
 case bgU size x i=>
  simp only[POp.clo,bhQ]at u;simp only[aU]at e ⊢;split at e
  ·rename_i s rows k n d A;rw[cY u.1 d,cY u.2 A];simp only[PV.ren,PV.lL];split at e
   ·rename_i B;rw[aG B,biL];split at e
    ·rename_i q E;rw[E];cases e;simp only[biP,PV.ren,PV.fC]
    ·cases e
   ·cases e
  ·rename_i o s J len k n d A;rw[cY u.1 d,cY u.2 A];simp only[PV.ren];split at e
   ·rename_i B;rw[aG B];cases e;rfl
   ·cases e
  ·cases e
 case idxA n size x i=>
  simp only[POp.clo,bhQ]at u;simp only[aU]at e ⊢;split at e
  ·rename_i d A;rw[cY u.1 d,cY u.2 A];simp only[PV.ren];split at e
   ·rename_i B;rw[aG B];cases e;rfl
   ·cases e
  ·rename_i d A;rw[cY u.1 d,cY u.2 A];simp only[PV.ren,PV.fC];split at e
   ·rename_i B;rw[aG B];cases e;simp only[PV.ren,PV.fC,List.map_drop]
   ·cases e
  ·cases e
 case idxV n size ag x i=>
  simp only[POp.clo,bhQ]at u;simp only[aU]at e ⊢;split at e
  ·rename_i d A;rw[cY u.1 d,cY u.2 A];simp only[PV.ren,PV.fC,bhO];split at e
   ·rename_i B;rw[aG B];cases ag with
    |true=>
     simp only[if_true]at e ⊢;split at e
     ·rename_i E;rw[aG E,<-List.map_drop,<-bkY];cases e;simp only[PV.ren,PV.fC]
     ·cases e
    |false =>simp only[bjW,if_false]at e ⊢;rw[biL,e];rfl
   ·cases e
  ·cases e
 case bhE x i=>
  simp only[POp.clo,bhQ]at u;simp only[aU]at e ⊢;split at e
  ·rename_i s k n d A;rw[cY u.1 d,cY u.2 A];simp only[PV.ren];split at e
   ·rename_i B;rw[aG B];cases E:s[n.toNat]? with
    |none=>rw[E]at e;cases e
    |some b=>rw[E]at e;cases e;rfl
   ·cases e
  ·cases e
 case bhA x lo hi=>
  simp only[POp.clo,bhQ]at u;simp only[aU]at e ⊢;split at e
  ·rename_i s d;rw[cY u.1 d];simp only[PV.ren];split at e
   ·rename_i l m A B;rw[RT u.2.1 A,RT u.2.2 B];simp only;split at e
    ·rename_i E;rw[aG E];cases e;rfl
    ·cases e
   ·cases e
  ·cases e
 case sliceA n size x lo hi mx=>
  cases lo<;>cases hi<;>cases mx<;>try (simp[aU]at e;done)
  simp only[aU]at e ⊢;split at e
  ·rename_i cs d;rw[cY u d];simp only[PV.ren,PV.fC,bhO];split at e
   ·rename_i B;rw[aG B];cases e;simp only[PV.ren,PV.lL,A6]
   ·cases e
  ·cases e
 case len x=>
  simp only[aU]at e ⊢;cases d:x.ev F with
  |none=>rw[d]at e;cases e
  |some a=>rw[d]at e;rw[cY u d];exact aVA e
 case bhD x=>
  simp only[aU]at e ⊢;split at e
  ·rename_i d;rw[cY u d];cases e;rfl
  ·cases e
 case lenM x=>simp[POp.clo]at u
 case bhN x=>
  simp only[aU]at e ⊢;split at e
  ·rename_i d;rw[cY u d];cases e;rfl
  ·cases e
 case isNil n x=>
  simp only[aU]at e ⊢;cases d:x.ev F with
  |none=>rw[d]at e;cases e
  |some a=>
   rw[d]at e;rw[cY u d];simp only[blG]at e ⊢;cases A:a.uB with
   |none=>rw[A]at e;cases e
   |some b=>rw[A]at e;rw[aHJ A];cases e;rfl
 case extract x i=>
  simp only[aU]at e ⊢;split at e
  ·rename_i vs d;rw[cY u d];simp only[PV.ren,PV.fC];rw[biL,e];rfl
  ·cases e
 case bgY mx x y=>
  simp only[POp.clo,bhQ]at u;simp only[aU]at e ⊢;split at e
  ·rename_i d A;rw[cY u.1 d,cY u.2 A];simp only[PV.ren];split at e
   ·rename_i B;rw[aG B];cases e;rfl
   ·cases e
  ·cases e
 case mkfn name l=>
  simp only[aU]at e ⊢;cases d:aP.evs F l with
  |none=>rw[d]at e;cases e
  |some vs =>rw[d]at e;rw[HZ u d];cases e;simp only[biP,PV.ren,PV.fC]
 case lookup=>simp[POp.clo]at u
 case bgR x=>
  simp only[aU]at e ⊢;split at e
  ·rename_i a d;rw[cY u d];split at e
   ·rename_i rows A;simp only[CF K A];cases B:jU rows with
    |none=>rw[B]at e;cases e
    |some s=>rw[B]at e;rw[JC B];cases e;rfl
   ·cases e
  ·cases e
 case slice size x lo hi mx=>
  simp only[POp.clo,bhQ]at u;simp only[aU]at e ⊢;split at e
  ·rename_i a d;rw[cY u.1 d];cases a<;>try (simp at e;done)
   all_goals
    simp only[PV.ren,PV.lL,bhO]at e ⊢;split at e
    ·rename_i l m A B;rw[RT u.2.1 A,RT u.2.2.1 B];simp only;cases mx with
     |none =>simp only at e ⊢;have E:=Tj (r:=r) e;simpa only [PV.ren,PV.lL]using E
     |some q=>
      simp only at e ⊢;cases h5:bnd F 0 (some q)with
      |none=>rw[h5]at e;cases e
      |some z =>rw[h5]at e;rw[RT u.2.2.2 h5];have E:=Tj (r:=r) (by simpa using e);simpa only [PV.ren,PV.lL,blG]using E
    ·cases e
  ·cases e
end
inductive Fr where
 |nil
 |node (v:Option PV) (l r:Fr)
def Fr.pf:Fr->PF
 | .nil,_=>none
 | .node v l r,i=>cond (bjT i 0) v (cond (bjT (i%2) 1) (l.pf (i/2)) (r.pf (i/2-1)))
def Fr.set:Fr->Nat->PV->Fr
 | .nil,_,_=>.nil
 | .node v l r,i,x=>cond (bjT i 0) (.node (some x) l r) (cond (bjT (i%2) 1) (.node v (l.set (i/2) x) r) (.node v l (r.set (i/2-1) x)))
def Fr.has:Fr->Nat->Bool
 | .nil,_=>false
 | .node _ l r,i=>cond (bjT i 0) true (cond (bjT (i%2) 1) (l.has (i/2)) (r.has (i/2-1)))
def Fr.put(l:Fr)(d:Option Nat)(v:PV):Fr:=match d with
 |none=>l
 |some d=>l.set d v
def Fr.fits(l:Fr)(d:Option Nat):Bool:=match d with
 |none=>true
 |some d=>l.has d
theorem X9(i j:Nat):bjT i j=decide (i=j):=by
 rw[Bool.eq_iff_iff,Nat.beq_eq,dT_]
theorem Fr.G3:∀{l:Fr}{d:Nat}{v:PV},l.has d=true->(l.set d v).pf=λi=>if i=d then some v else l.pf i
 | .nil,d,v,h=>by cases h
 | .node w l r,d,v,h=>by
  funext i;simp only[Fr.has,Fr.set,X9]at h ⊢;by_cases x:d=0
  ·subst x;simp only[decide_true,cond_true,Fr.pf,X9];by_cases u:i=0<;>simp[u]
  ·simp only[x,decide_false,cond_false]at h ⊢;by_cases y:d%2=1
   ·simp only[y,decide_true,cond_true]at h ⊢;simp only[Fr.pf,X9,Fr.G3 h];by_cases u:i=0
    ·simp only[u,decide_true,cond_true];rw[aE (λe=>x e.symm)]
    ·simp only[u,decide_false,cond_false];by_cases p:i%2=1
     ·simp only[p,decide_true,cond_true];by_cases e:i=d
      ·rw[aG e,aG (by rw[e])]
      ·rw[aE e,aE Om]
     ·simp only[p,decide_false,cond_false];rw[aE (by intro e;rw[e]at p;exact p y)]
   ·simp only[y,decide_false,cond_false]at h ⊢;simp only[Fr.pf,X9,Fr.G3 h];by_cases u:i=0
    ·simp only[u,decide_true,cond_true];rw[aE (λe=>x e.symm)]
    ·simp only[u,decide_false,cond_false];by_cases p:i%2=1
     ·simp only[p,decide_true,cond_true];rw[aE (by intro e;rw[e]at p;exact y p)]
     ·simp only[p,decide_false,cond_false];by_cases e:i=d
      ·rw[aG e,aG (by rw[e])]
      ·rw[aE e,aE Om]
theorem Fr.aPD{l:Fr}{d:Option Nat}{v:PV}(h:l.fits d=true):(l.put d v).pf=l.pf.put d v:=by
 cases d with
 |none=>rfl
 |some d =>simp only[Fr.put];rw[Fr.G3 h];rfl
def Fr.empty:Nat->Fr
 |0=>.nil
 |n+1=>.node none (Fr.empty n) (Fr.empty n)
theorem Fr.aaB:∀(n i:Nat),(Fr.empty n).pf i=none
 |0,i=>rfl
 |n+1,i=>by simp only[Fr.empty,Fr.pf,X9];cases decide (i=0)<;>cases decide (i%2=1)<;>simp[Fr.aaB n]
def Fr.args:List PV->Nat->Fr->Option Fr
 |[],_,f=>some f
 |v::vs,k,f=>cond (f.has k) (Fr.args vs (k+1) (f.set k v)) none
theorem Fr.asZ:∀{vs:List PV}{k:Nat}{f g:Fr},Fr.args vs k f=some g->g.pf=λi=>if i<k then f.pf i else match vs[i-k]? with|some v=>some v|none=>f.pf i
 |[],k,f,g,h=>by cases h;funext i;split<;>simp
 |v::vs,k,f,g,h=>by
  simp only[Fr.args]at h;cases e:f.has k with
  |false=>rw[e]at h;cases h
  |true=>
   rw[e]at h;rw[Fr.asZ h,Fr.G3 e];funext i;show(if i<k+1 then(if i=k then some v else f.pf i)else match vs[i-(k+1)]? with|some w=>some w|none=>(if i=k then some v else f.pf i))=if i<k then f.pf i else match(v::vs)[i-k]? with|some w=>some w|none=>f.pf i
   rcases Nat.lt_trichotomy i k with c|c|c
   ·rw[aG Om,aE Om,aG c]
   ·subst c;rw[aG Om,aG rfl,aE Om,bkR];rfl
   ·rw[aE Om,aE Om,aE Om];obtain⟨d,l⟩:∃d,i-k=d+1:=⟨i-k-1,by omega⟩;rw[l,show i-(k+1)=d by omega];rfl
abbrev Hp:=List aY
def aY.live:aY->Option aY
 | .rows s rs=>some (.rows s rs)
 |_=>none
def Hp.ph(l:Hp):PH:=⟨λo=>(l[o]?).bind aY.live,Z' l,λo d=>by simp[bjJ d]⟩
theorem Hp.nU(l:Hp)(o:Nat):l.ph o=(l[o]?).bind aY.live:=rfl
def aY.Bd(n:Nat):aY->Prop
 | .rows _ rs=>PV.jJ n rs=true
 |_=>True
def Kw(n:Nat)(f:Fr):Prop:=∀i v,f.pf i=some v->v.bound n=true
structure Rl(r:Nat->Nat)(f:Fr)(h:Hp)(F:PF)(H:PH):Prop where
 fr:F=f.pf.ren r
 hp:bx r h.ph H
 inj:∀i j x y,h.ph i=some x->h.ph j=some y->r i=r j->i=j
 fb:Kw h.length f
 hb:∀x∈h,aY.Bd h.length x
def jA(n:Nat)(r r':Nat->Nat):Prop:=∀i,i<n->r i=r' i
mutual
theorem PV.wM{n m:Nat}(h:n<=m):∀v:PV,v.bound n=true->v.bound m=true
 | .osl o s d len,hb=>by simp only[PV.bound,dT_]at hb ⊢;omega
 | .ptr o s i c,hb=>by simp only[PV.bound,dT_]at hb ⊢;omega
 | .map o,hb=>by simp only[PV.bound,dT_]at hb ⊢;omega
 | .sl s rows,hb=>by simp only[PV.bound]at hb ⊢;exact PV.AU h rows hb
 | .bK cs,hb=>by simp only[PV.bound]at hb ⊢;exact PV.sC h cs hb
 | .fn _ cs,hb=>by simp only[PV.bound]at hb ⊢;exact PV.sC h cs hb
 | .agg cs,hb=>by simp only[PV.bound]at hb ⊢;exact PV.sC h cs hb
 | .tup cs,hb=>by simp only[PV.bound]at hb ⊢;exact PV.sC h cs hb
 | .int _ _,_=>rfl
 | .bool _,_=>rfl
 | .str _,_=>rfl
 | .aK,_=>rfl
 | .lit _,_=>rfl
 | .junk,_=>rfl
theorem PV.sC{n m:Nat}(h:n<=m):∀l:List PV,PV.bounds n l=true->PV.bounds m l=true
 |[],_=>rfl
 |v::vs,hb=>by simp only[PV.bounds,bhQ]at hb ⊢;exact⟨PV.wM h v hb.1,PV.sC h vs hb.2⟩
theorem PV.AU{n m:Nat}(h:n<=m):∀l:P2_,PV.jJ n l=true->PV.jJ m l=true
 |[],_=>rfl
 |v::vs,hb=>by simp only[PV.jJ,bhQ]at hb ⊢;exact⟨PV.sC h v hb.1,PV.AU h vs hb.2⟩
end
def PV.EK(n:Nat)(v:PV):Bool:=cond (v.bound 0) true (v.bound n)
theorem PV.AS{n:Nat}{v:PV}(h:v.EK n=true):v.bound n=true:=by
 unfold PV.EK at h;cases e:v.bound 0 with
 |true=>exact PV.wM (bhT _) v e
 |false=>rw[e]at h;exact h
theorem aY.Bd.mono{n m:Nat}(h:n<=m){x:aY}(hb:x.Bd n):x.Bd m:=by
 cases x with
 |rows s rs=>exact PV.AU h rs hb
 |_=>trivial
theorem aY.qE{n:Nat}{r r':Nat->Nat}(h:jA n r r'){x:aY}(hb:x.Bd n):x.ren r=x.ren r':=by
 cases x with
 |rows s rs=>simp only[aY.ren,<-PV.lL];rw[PV.PU h rs hb]
 |_=>rfl
theorem PF.qE{n:Nat}{r r':Nat->Nat}(h:jA n r r'){f:Fr}(hb:Kw n f):f.pf.ren r=f.pf.ren r':=by
 funext i;unfold PF.ren;cases e:f.pf i with
 |none=>rfl
 |some v=>rw[biP,biP,PV.iv h v (hb i v e)]
theorem PF.a4E(r:Nat->Nat)(F:PF)(d:Option Nat)(v:PV):(F.put d v).ren r=(F.ren r).put d (v.ren r):=by
 cases d with
 |none=>rfl
 |some d =>funext i;simp only[PF.put,PF.ren,PF.set,upd];split<;>rfl
theorem nI{l:Hp}{o:Nat}{x:aY}(h:l.ph o=some x):l[o]?=some x/\o<Z' l:=by
 rw[Hp.nU]at h;cases e:l[o]? with
 |none=>rw[e]at h;cases h
 |some y=>
  rw[e]at h;have hlt:=(biZ.1 e).1;cases y with
  |rows=>cases h;exact⟨rfl,hlt⟩
  |_=>cases h
theorem Hp.SL{l:Hp}{o:Nat}{x:aY}(i:o<Z' l)(q:Nat):Hp.ph (l.set o x) q=if q=o then x.live else l.ph q:=by
 rw[Hp.nU,Hp.nU,blY];by_cases e:o=q
 ·subst e;rw[aG rfl,aG i,aG rfl];rfl
 ·rw[aE e,aE (λd=>e d.symm)]
theorem Hp.DF{l:Hp}{x:aY}(q:Nat):Hp.ph (l++[x]) q=if q=l.length then x.live else l.ph q:=by
 rw[Hp.nU,Hp.nU];by_cases e:q=Z' l
 ·subst e;rw[aG rfl,bkF (bhV _),bkR];rfl
 ·rw[aE e];rcases biR q l.length with h|h
  ·rw[bkE h]
  ·rw[bkF h,bjJ (show[x].length<=q-l.length by simp;omega),bjJ h]
theorem aY.EW{x y:aY}(h:x.live=some y):x=y:=by
 cases x<;>first|cases h;done|(cases h;rfl)
section
variable {r:Nat->Nat} {f:Fr} {h:Hp} {F:PF} {H:PH}
theorem Rl.push(R:Rl r f h F H){x:aY}(B:x.Bd h.length){o:Nat}(K:H o=none) :
  Rl (λi=>if i=h.length then o else r i) f (h++[x]) F (H.set o (x.ren r))/\jA h.length r (λi=>if i=h.length then o else r i):=by
 have u:jA h.length r (λi=>if i=h.length then o else r i):=λi hi=>by
  show r i=if i=h.length then o else r i
  rw[aE Om]
 have d:∀i y,h.ph i=some y->r i≠o:=λi y hy e=>by have:=R.hp i y hy;rw[e,K]at this;cases this
 have A:(h++[x]).length=Z' h+1:=by simp
 refine⟨⟨?_,λi y hy=>?_,λi j y z hy p e=>?_,λi v M=>?_,λy hy=>?_⟩,u⟩
 ·rw[R.fr];exact PF.qE u R.fb
 ·rw[Hp.DF]at hy;by_cases e:i=Z' h
  ·rw[aG e]at hy;have:=aY.EW hy;subst this;show(H.set o (x.ren r)) (if i=h.length then o else r i)=_;rw[aG e,aY.qE u B];simp[PH.set,PH.upd,upd]
  ·rw[aE e]at hy;show(H.set o (x.ren r)) (if i=h.length then o else r i)=_;rw[aE e];have w:=R.hp i y hy;have E:=nI hy;rw[aY.qE u (R.hb y (bjQ E.1))]at w;have J:=d i y hy;simp only[PH.set,PH.upd,upd];rw[aE J];exact w
 ·rw[Hp.DF]at hy p
  try simp only at e
  by_cases l:i=Z' h
  ·by_cases e2:j=Z' h
   ·omega
   ·rw[aG l,aE e2]at e;rw[aE e2]at p;exact absurd e.symm (d j z p)
  ·by_cases e2:j=Z' h
   ·rw[aE l,aG e2]at e;rw[aE l]at hy;exact absurd e (d i y hy)
   ·rw[aE l,aE e2]at e;rw[aE l]at hy;rw[aE e2]at p;exact R.inj i j y z hy p e
 ·rw[A];exact PV.wM (Nat.le_succ _) v (R.fb i v M)
 ·rw[A];rcases bjB.1 hy with hy|hy
  ·exact(R.hb y hy).mono (Nat.le_succ _)
  ·rw[bjH]at hy;subst hy;exact B.mono (Nat.le_succ _)
theorem Rl.jt(R:Rl r f h F H){o:Nat}{x y:aY}(p:h.ph o=some x)(M:y.Bd h.length):Rl r f (h.set o y) F (H.set (r o) (y.ren r)):=by
 have hlt:=(nI p).2;refine⟨R.fr,λi z d=>?_,λi j z w d A e=>?_,λi v K=>?_,λz d=>?_⟩
 ·rw[Hp.SL hlt]at d;by_cases e:i=o
  ·rw[aG e]at d;have:=aY.EW d;subst this;subst e;simp[PH.set,PH.upd,upd]
  ·rw[aE e]at d;simp only[PH.set,PH.upd,upd];rw[aE (λJ=>e (R.inj i o z x d p J))];exact R.hp i z d
 ·rw[Hp.SL hlt]at d A;have h1:∃E,h.ph i=some E:=by
   by_cases l:i=o
   ·subst l;exact⟨x,p⟩
   ·rw[aE l]at d;exact⟨z,d⟩
  have u:∃B,h.ph j=some B:=by
   by_cases l:j=o
   ·subst l;exact⟨x,p⟩
   ·rw[aE l]at A;exact⟨w,A⟩
  obtain⟨E,h1⟩:=h1;obtain⟨B,u⟩:=u;exact R.inj i j E B h1 u e
 ·rw[bjO];exact R.fb i v K
 ·rw[bjO];rcases blZ d with h1|h1
  ·exact R.hb z h1
  ·subst h1;exact M
theorem Rl.drop(R:Rl r f h F H)(o:Nat):Rl r f (h.set o .dead) F H:=by
 have l:∀i z,Hp.ph (h.set o .dead) i=some z->h.ph i=some z:=λi z d=>by
  rw[Hp.nU,blY]at d;by_cases e:o=i
  ·rw[aG e]at d;split at d<;>cases d
  ·rw[aE e]at d;exact d
 refine⟨R.fr,λi z d=>R.hp i z (l i z d),λi j z w d u e=>R.inj i j z w (l i z d) (l j w u) e,λi v p=>?_,λz d=>?_⟩
 ·rw[bjO];exact R.fb i v p
 ·rw[bjO];rcases blZ d with h1|h1
  ·exact R.hb z h1
  ·subst h1;trivial
theorem Rl.move(R:Rl r f h F H){o:Nat}{x y:aY}(B:h.ph o=some x)(M:y.Bd h.length) :
  Rl (λi=>if i=h.length then r o else r i) f (h.set o .dead++[y]) F (H.set (r o) (y.ren r))/\jA h.length r (λi=>if i=h.length then r o else r i):=by
 have hlt:=(nI B).2;have A:jA h.length r (λi=>if i=h.length then r o else r i):=λi hi=>by
  show r i=if i=h.length then r o else r i
  rw[aE Om]
 have u:(h.set o .dead).length=Z' h:=bjO ..;have d:∀i z,i≠Z' h->Hp.ph (h.set o .dead++[y]) i=some z->i≠o/\h.ph i=some z:=λi z hi hz=>by
  rw[Hp.DF,u,aE hi,Hp.SL hlt]at hz;by_cases e:i=o
  ·rw[aG e]at hz;cases hz
  ·rw[aE e]at hz;exact⟨e,hz⟩
 have J:(h.set o .dead++[y]).length=Z' h+1:=by simp
 refine⟨⟨?_,λi z hz=>?_,λi j z w hz K e=>?_,λi v O=>?_,λz hz=>?_⟩,A⟩
 ·rw[R.fr];exact PF.qE A R.fb
 ·show(H.set (r o) (y.ren r)) (if i=h.length then r o else r i)=_;by_cases e:i=Z' h
  ·rw[aG e];rw[Hp.DF,u,aG e]at hz;have:=aY.EW hz;subst this;rw[<-aY.qE A M];simp[PH.set,PH.upd,upd]
  ·rw[aE e];obtain⟨h1,l⟩:=d i z e hz;have E:=R.hp i z l;rw[aY.qE A (R.hb z (bjQ (nI l).1))]at E;simp only[PH.set,PH.upd,upd];rw[aE (λN=>h1 (R.inj i o z x l B N))];exact E
 ·try simp only at e
  by_cases p:i=Z' h
  ·by_cases e2:j=Z' h
   ·omega
   ·rw[aG p,aE e2]at e;obtain⟨h1,l⟩:=d j w e2 K;exact absurd (R.inj o j x w B l e).symm h1
  ·by_cases e2:j=Z' h
   ·rw[aE p,aG e2]at e;obtain⟨h1,l⟩:=d i z p hz;exact absurd (R.inj i o z x l B e) h1
   ·rw[aE p,aE e2]at e;exact R.inj i j z w (d i z p hz).2 (d j w e2 K).2 e
 ·rw[J];exact PV.wM (Nat.le_succ _) v (R.fb i v O)
 ·rw[J];rcases bjB.1 hz with hz|hz
  ·rcases blZ hz with h1|h1
   ·exact(R.hb z h1).mono (Nat.le_succ _)
   ·subst h1;trivial
  ·rw[bjH]at hz;subst hz;exact M.mono (Nat.le_succ _)
theorem Rl.put(R:Rl r f h F H){d:Option Nat}{v:PV}(l:f.fits d=true)(p:v.bound h.length=true):Rl r (f.put d v) h (F.put d (v.ren r)) H:=by
 refine⟨?_,R.hp,R.inj,λi w e=>?_,R.hb⟩
 ·rw[Fr.aPD l,PF.a4E,R.fr]
 ·rw[Fr.aPD l]at e;cases d with
  |none=>exact R.fb i w e
  |some d=>
   simp only[PF.put,PF.set,upd]at e;split at e
   ·cases e;exact p
   ·exact R.fb i w e
end
end Go.PM
namespace Go.PM
open Go
def aY.bd(n:Nat):aY->Bool
 | .rows _ rs=>PV.jJ n rs
 |_=>false
theorem aY.CQ{n:Nat}{x:aY}(h:x.bd n=true):x.Bd n:=by
 cases x<;>first|exact h|cases h
def W8(n m bytes:Nat):Bool:=decide (n+m<=maxLen)&&decide ((n+m)*bytes<=140737488355328)
theorem sa{n m bytes:Nat}(h:W8 n m bytes=true):roomFor n m bytes:=by
 simp only[W8,bhQ,dT_]at h;exact h
def AD(op:POp)(f:Fr)(h:Hp):Option (PV × Hp):=match cU op f.pf with
 |some (d,x)=>if x.bd h.length then some (d h.length,h++[x])else none
 |none=>none
def mL(op:POp)(f:Fr)(h:Hp):Option (PV × Hp):=match op with
 | .store n p x=>match p.ev f.pf,x.ev f.pf with
  |some (.ptr o s i c),some v=>match h[o]? with
   |some (.rows s' rs)=>match rs[i]? with
    |some q=>if(decide (Z' v.cells=n)&&(decide (s'=s)&&(decide (c+Z' v.cells<=s)&&v.cells.all PV.one)))&&aY.bd h.length (.rows s' (rs.set i (setCells q c v.cells)))then
      some (.junk,h.set o (.rows s' (rs.set i (setCells q c v.cells))))else none
    |none=>none
   |_=>none
  |_,_=>none
 | .append size bytes x y=>match x.ev f.pf,y.ev f.pf with
  |some .aK,some b=>match eA h.ph size b with
   |some []=>some (.aK,h)
   |some (a::src)=>if W8 0 (a::src).length bytes&&aY.bd h.length (.rows size (a::src))then some (.osl h.length size 0 (a::src).length,h++[.rows size (a::src)])else none
   |none=>none
  |some (.osl o s 0 len),some b=>match eA h.ph size b,h[o]? with
   |some src,some (.rows s' rs)=>if(decide (s=size)&&(decide (s'=size)&&decide (len<=Z' rs)))&&(W8 len src.length bytes&&aY.bd h.length (.rows size (rs.take len++src)))then
     some (.osl h.length size 0 (len+Z' src),h.set o .dead++[.rows size (rs.take len++src)])else none
   |_,_=>none
  |_,_=>none
 |_=>none
noncomputable def FB(op:POp)(f:Fr)(h:Hp):Option (PV × Hp):=
 if op.clo then
  if op.jW then AD op f h else if op.eU then mL op f h else
   match aU op f.pf h.ph with
   |some v=>if v.EK h.length then some (v,h)else none
   |none=>none
 else none
section
variable {r:Nat->Nat} {f:Fr} {h h':Hp} {F:PF} {H:PH} {K:PV->PH->Prop} {v:PV}
theorem aqY{F:PF}{op:POp}{u:Nat->PV}{x:aY}(d:op.clo=true)(e:cU op F=some (u,x)) :
  ∃mk',cU op (F.ren r)=some (mk',x.ren r)/\(∀(q:Nat->Nat) n,mk' (q n)=(u n).ren q)/\∀n,(u n).bound (n+1)=true:=by
 cases op<;>try (simp[cU]at e;done)
 case alloc cells =>simp only[cU,bjV.injEq,Prod.mk.injEq]at e ⊢;obtain⟨rfl,rfl⟩:=e;refine⟨_,⟨rfl,?_⟩,λq n=>rfl,λn=>by simp[PV.bound]⟩;simp only[aY.ren,biU,bjP,PV.qF d]
 case box ro y=>
  cases ro with
  |true=>simp[cU]at e
  |false=>
   simp only[cU]at e ⊢;split at e
   ·rename_i w i;rw[cY d i];simp only[zX,yF,bhO];split at e
    ·rename_i p;rw[aG p];cases e;exact⟨_,rfl,λq n=>rfl,λn=>by simp[PV.bound]⟩
    ·cases e
   ·cases e
 case bgJ ro size len zero parts=>
  cases ro with
  |true=>simp[cU]at e
  |false=>
   simp only[POp.clo,bhQ]at d;simp only[cU]at e ⊢;split at e
   ·rename_i A;rw[aG A];cases i:iY size (bhU len zero) F parts with
    |none=>rw[i]at e;cases e
    |some w =>rw[i]at e;have p:=JP (r:=r) d.2 i;rw[List.map_replicate,PV.qF d.1]at p;rw[p];cases e;exact⟨_,rfl,λq n=>rfl,λn=>by simp[PV.bound]⟩
   ·cases e
 case bgL size bytes zero l c=>
  simp only[POp.clo,bhQ]at d;simp only[cU]at e ⊢;split at e
  ·rename_i k n J m i p;rw[cY d.2.1 i,cY d.2.2 p];simp only[PV.ren];split at e
   ·rename_i B;rw[aG B];cases e;have E:aY.ren r (.rows size (bhU n.toNat zero))=.rows size (bhU n.toNat zero):=by simp only[aY.ren,List.map_replicate,PV.qF d.1]
    rw[E];exact⟨_,rfl,λq n=>rfl,λn=>by simp[PV.bound]⟩
   ·cases e
  ·cases e
 case bhJ sh=>simp[POp.clo]at d
theorem bu{op:POp}{d:Option Nat}{K:PF->PH->Prop}(R:Rl r f h F H)(B:op.clo=true)(e:AD op f h=some (v,h'))
  (E:∀r' H',jA h.length r r'->Rl r' f h' F H'->v.bound h'.length=true->K (F.put d (v.ren r')) H'):qA (cU op F) d K F H:=by
 unfold AD at e;cases i:cU op f.pf with
 |none=>rw[i]at e;cases e
 |some p=>
  obtain⟨M,x⟩:=p;rw[i]at e;simp only at e;split at e
  ·rename_i hb;cases e;obtain⟨mk',l,w,y⟩:=aqY (r:=r) B i;rw[<-R.fr]at l;refine⟨mk',x.ren r,l,λo J=>?_⟩;obtain⟨u,A⟩:=R.push (aY.CQ hb) J;have:=E _ _ A u (by rw[bhW];exact y _);rw[<-w]at this;simpa using this
  ·cases e
theorem NH{op:POp}(R:Rl r f h F H)(d:op.clo=true)(e:mL op f h=some (v,h'))
  (O:∀r' H',jA h.length r r'->Rl r' f h' F H'->v.bound h'.length=true->K (v.ren r') H'):cJ op F H K:=by
 have l:=R.fr;cases op<;>try (simp[mL]at e;done)
 case store n p x=>
  simp only[POp.clo,bhQ]at d;simp only[mL]at e;split at e
  ·rename_i o s i c w J M;split at e
   ·rename_i s' rs A;split at e
    ·rename_i q S;split at e
     ·rename_i h5;simp only[bhQ,dT_]at h5;obtain⟨⟨U,rfl,h7,h8⟩,X⟩:=h5;cases e;simp only[cJ,l,cY d.1 J,cY d.2 M];have B:h.ph o=some (.rows s' rs):=by rw[Hp.nU,A];rfl
      refine⟨by rw[zX,bhO];exact U,_,?_,O r _ (λ_ _=>rfl) (R.jt B (aY.CQ X)) rfl⟩;simp only[PV.ren,storeAt,R.hp o _ B,aY.ren,zX,yF,bhO];rw[aG ⟨trivial,h7,h8⟩,biL,S];simp only[biP,List.map_set,KP]
     ·cases e
    ·cases e
   ·cases e
  ·cases e
 case append size bytes x y=>
  simp only[POp.clo,bhQ]at d;simp only[mL]at e;split at e
  ·rename_i b J M;split at e
   ·rename_i A;cases e;simp only[cJ,l,cY d.1 J,cY d.2 M];refine⟨[],CF R.hp A,⟨by simp[maxLen],by simp⟩,λ_=>O r H (λ_ _=>rfl) R rfl,λV=>absurd rfl V⟩
   ·rename_i a src A;split at e
    ·rename_i h5;simp only[bhQ]at h5;cases e;simp only[cJ,l,cY d.1 J,cY d.2 M];refine⟨_,CF R.hp A,?_⟩;simp only[PV.ren];refine⟨by rw[bhO];exact sa h5.1,λV=>by simp at V,λ_ o B=>?_⟩;obtain⟨E,N⟩:=R.push (aY.CQ h5.2) B;have:=O _ _ N E (by simp[PV.bound]);simpa[PV.ren,aY.ren]using this
    ·cases e
   ·cases e
  ·rename_i o s len b J M;split at e
   ·rename_i src s' rs A S;split at e
    ·rename_i h5;simp only[bhQ,dT_]at h5;obtain⟨⟨rfl,rfl,U⟩,h7,h8⟩:=h5;cases e;have B:h.ph o=some (.rows s' rs):=by rw[Hp.nU,S];rfl
     simp only[cJ,l,cY d.1 J,cY d.2 M];refine⟨_,CF R.hp A,?_⟩;simp only[PV.ren];have Q:=R.hp o _ B;simp only[aY.ren]at Q;have u:(List.map (λx=>List.map (PV.ren r) x) rs).take len++List.map (λx=>List.map (PV.ren r) x) src=List.map (λx=>List.map (PV.ren r) x) (rs.take len++src):=by rw[biV,bkY]
     refine⟨trivial,trivial,by rw[bhO];exact sa h7,_,Q,by rw[bhO];exact U,?_,λo' W=>?_⟩
     ·obtain⟨E,N⟩:=R.move B (aY.CQ h8);have:=O _ _ N E (by simp[PV.bound]);rw[u,bhO];simpa[PV.ren,aY.ren]using this
     ·obtain⟨E,N⟩:=(R.drop o).push (x:=.rows s' (rs.take len++src)) (by rw[bjO];exact aY.CQ h8) W;rw[bjO]at N E;have:=O _ _ N E (by simp[PV.bound]);rw[u,bhO];simpa[PV.ren,aY.ren]using this
    ·cases e
   ·cases e
  ·cases e
end
abbrev gS:=Nat->List PV->Hp->Option (PV × Hp)
abbrev RM:=List (aW × Bool)->Fr->Hp->Option (Fr × Hp)
noncomputable def nc(call:gS)(op:POp)(f:Fr)(h:Hp):Option (PV × Hp):=match op with
 | .call name args=>if args.all aP.clo then match aP.evs f.pf args with
  |some vs=>call name vs h
  |none=>none
  else none
 | .bhF x args=>if x.clo&&args.all aP.clo then match x.ev f.pf,aP.evs f.pf args with
  |some (.fn name cs),some vs=>call name (vs++cs) h
  |_,_=>none
  else none
 |op=>FB op f h
noncomputable def BV(call:gS):List aW->Fr->Hp->Option (Fr × Hp)
 |[],f,h=>some (f,h)
 |i::rest,f,h=>if f.fits i.dst then match i.guard with
   |none=>match nc call i.op f h with
    |some (v,h')=>BV call rest (f.put i.dst v) h'
    |none=>none
   |some (t,d)=>match f.pf t with
    |some (.bool b)=>if b=d then match nc call i.op f h with
      |some (v,h')=>BV call rest (f.put i.dst v) h'
      |none=>none
     else BV call rest (f.put i.dst (.tup [])) h
    |some (.tup [])=>BV call rest (f.put i.dst (.tup [])) h
    |_=>none
  else none
noncomputable def sX(call:gS)(dr:RM):Nat->aC->Fr->Hp->Option (oH × Fr × Hp)
 |0,_,_,_=>none
 |n+1,c,f,h=>match c with
  | .skip=>some (.normal,f,h)
  | .region ops=>match BV call ops f h with
   |some (f',h')=>some (.normal,f',h')
   |none=>none
  | .draw ops=>match dr ops f h with
   |some (f',h')=>some (.normal,f',h')
   |none=>none
  | .seq a b=>match sX call dr n a f h with
   |some (.normal,f',h')=>sX call dr n b f' h'
   |x=>x
  | .cond x a b=>if x.clo then match x.ev f.pf with
   |some (.bool t)=>if t then sX call dr n a f h else sX call dr n b f h
   |_=>none
   else none
  | .block id c=>match sX call dr n c f h with
   |some (.exit d,f',h')=>if d=id then some (.normal,f',h')else some (.exit d,f',h')
   |x=>x
  | .loop c=>match sX call dr n c f h with
   |some (.normal,f',h')=>sX call dr n (.loop c) f' h'
   |x=>x
  | .exit id=>some (.exit id,f,h)
  | .ret=>some (.ret,f,h)
def Comes(r:Nat->Nat)(n:Nat)(v:PV)(h':Hp)(d:PV)(H':PH):Prop:=
 ∃r',jA n r r'/\Rl r' .nil h' n_ H'/\d=v.ren r'/\v.bound h'.length=true/\n<=Z' h'
def Exact(r:Nat->Nat)(h:Hp)(H:PH):Prop:=∀o x,H o=some x->∃i y,h.ph i=some y/\r i=o
def rH(C:Ctx)(call:gS):Prop:=∀name vs h v h',call name vs h=some (v,h')->∀r H,Rl r .nil h n_ H->Exact r h H->PV.bounds h.length vs=true ->
 aH C name (vs.map (PV.ren r)) H (Comes r h.length v h')
def zz(C:Ctx)(call:gS):Prop:=∀name vs h v h',call name vs h=some (v,h')->∀r f F H d (K:PF->PH->Prop),Rl r f h F H->PV.bounds h.length vs=true ->
 (∀r' H',jA h.length r r'->Z' h<=Z' h'->Rl r' f h' F H'->v.bound h'.length=true->K (F.put d (v.ren r')) H')->wG C name (some (vs.map (PV.ren r))) d K F H
def Xn(C:Ctx)(dr:RM):Prop:=∀ops f h f' h',dr ops f h=some (f',h')->∀r F H,Rl r f h F H->∀K:PF->PH->Prop,
 (∀r' d H',jA h.length r r'->Z' h<=Z' h'->Rl r' f' h' d H'->K d H')->∃Hs S,PH.le Hs H/\wpD C Hs S ops K F H
theorem jA.trans{n m:Nat}{r r' d:Nat->Nat}(h:jA n r r')(e:jA m r' d)(l:n<=m):jA n r d:=
 λi hi=>(h i hi).trans (e i (Nat.lt_of_lt_of_le hi l))
section
variable {C:Ctx} {call:gS} {dr:RM} {r:Nat->Nat} {f f':Fr} {h h':Hp} {F:PF} {H:PH} {v:PV}
theorem Rl.heap(R:Rl r f h F H):Rl r .nil h n_ H:=⟨rfl,R.hp,R.inj,λi v d=>by simp[Fr.pf]at d,R.hb⟩
theorem dt{n:Nat}(hb:Kw n f):∀{l:List aP}{vs:List PV},l.all aP.clo=true->aP.evs f.pf l=some vs->PV.bounds n vs=true
 |[],_,_,e=>by cases e;rfl
 |x::xs,vs,d,e=>by
  simp only[blJ,bhQ]at d;simp only[aP.evs]at e;split at e
  ·rename_i v w i p;cases e;rw[PV.bounds,dt hb d.2 p,bjY];cases x with
   |tmp t=>exact hb t v i
   |const u=>cases i;exact PV.wM (bhT _) _ d.1
  ·cases e
theorem bc{n:Nat}:∀{a b:List PV},PV.bounds n a=true->PV.bounds n b=true->PV.bounds n (a++b)=true
 |[],_,_,h=>h
 |x::a,b,d,e=>by simp only[PV.bounds,List.cons_append,bhQ]at d ⊢;exact⟨d.1,bc d.2 e⟩
theorem amB{op:POp}{d:Option Nat}{K:PF->PH->Prop}(R:Rl r f h F H)(e:FB op f h=some (v,h'))
  (u:∀r' H',jA h.length r r'->Rl r' f h' F H'->v.bound h'.length=true->K (F.put d (v.ren r')) H') :
  if op.jW then qA (cU op F) d K F H else if op.eU then cJ op F H (λr H'=>K (F.put d r) H')else yJ (aU op F H) d K F H:=by
 unfold FB at e;split at e
 ·rename_i p;split at e
  ·rename_i i;rw[aG i];exact bu R p e u
  ·rename_i i;rw[aE i];split at e
   ·rename_i l;rw[aG l];exact NH R p e u
   ·rename_i l;rw[aE l];split at e
    ·rename_i w x;split at e
     ·rename_i hb;replace hb:=PV.AS hb;cases e;have:=ir R.hp p x;rw[<-R.fr]at this;exact⟨_,this,u r H (λ_ _=>rfl) R hb⟩
     ·cases e
    ·cases e
 ·cases e
theorem YI{op:POp}(e:FB op f h=some (v,h')):Z' h<=Z' h':=by
 unfold FB at e;split at e
 ·split at e
  ·unfold AD at e;split at e
   ·split at e<;>cases e;simp
   ·cases e
  ·split at e
   ·cases op<;>try (simp[mL]at e;done)
    all_goals
     simp only[mL]at e
     (repeat' split at e)<;>cases e<;>simp
   ·split at e
    ·split at e<;>cases e;exact bhV _
    ·cases e
 ·cases e
theorem asF(J:zz C call){op:POp}{d:Option Nat}{K:PF->PH->Prop}(R:Rl r f h F H)(e:nc call op f h=some (v,h'))
  (y:∀r' H',jA h.length r r'->Z' h<=Z' h'->Rl r' f h' F H'->v.bound h'.length=true->K (F.put d (v.ren r')) H'):wpOp C op d K F H:=by
 by_cases w:∃name args,op=.call name args
 ·obtain⟨name,args,rfl⟩:=w;simp only[nc]at e;split at e
  ·rename_i i;split at e
   ·rename_i vs p;have l:=HZ (r:=r) i p;rw[<-R.fr]at l;refine .inl ?_;rw[l];simp only[biP,bjI];exact J _ _ _ _ _ e _ _ _ _ _ _ R (dt R.fb i p) y
   ·cases e
  ·cases e
 by_cases p:∃x args,op=.bhF x args
 ·obtain⟨x,args,rfl⟩:=p;simp only[nc]at e;split at e
  ·rename_i i;simp only[bhQ]at i;split at e
   ·rename_i name cs vs l B;have h5:=HZ (r:=r) i.2 B;have E:=cY (r:=r) i.1 l;rw[<-R.fr]at h5 E;show xJ C (x.ev F) args d K F H;rw[E];simp only[PV.ren,PV.fC,xJ];refine .inl ?_;rw[h5];simp only[biP,<-biV];refine J _ _ _ _ _ e _ _ _ _ _ _ R (bc (dt R.fb i.2 B) ?_) y;cases x with
    |tmp t=>exact R.fb t _ l
    |const u =>simp only[aP.ev,bjV.injEq]at l;subst l;have:=i.1;simp only[aP.clo,PV.bound]at this;exact PV.sC (bhT _) _ this
   ·cases e
  ·cases e
 ·have A:FB op f h=some (v,h'):=by cases op<;>first|exact e|exact absurd ⟨_,_,rfl⟩ w|exact absurd ⟨_,_,rfl⟩ p
  have O:=YI A;have:=amB (d:=d) (K:=K) R A λr' H' N M hb=>y r' H' N O M hb;cases op<;>first|exact this|exact absurd ⟨_,_,rfl⟩ w|exact absurd ⟨_,_,rfl⟩ p
theorem KQ(E:zz C call):∀(ops:List aW){r:Nat->Nat}{f f':Fr}{h h':Hp}{F:PF}{H:PH}{K:PF->PH->Prop},BV call ops f h=some (f',h')->Rl r f h F H ->
  (∀r' Q H',jA h.length r r'->Z' h<=Z' h'->Rl r' f' h' Q H'->K Q H')->wpOps C ops K F H
 |[],r,f,f',h,h',F,H,K,e,R,x=>by cases e;exact x r F H (λ_ _=>rfl) (bhV _) R
 |i::rest,r,f,f',h,h',F,H,K,e,R,x=>by
  simp only[BV]at e;split at e
  ·rename_i S;have l:∀{e2:(match nc call i.op f h with|some (v,h')=>BV call rest (f.put i.dst v) h'|none=>none)=some (f',h')},wpOp C i.op i.dst (wpOps C rest K) F H:=by
    intro e2;split at e2
    ·rename_i v Z X;refine asF E R X λr' H' Y U W hb=>?_;exact KQ E rest e2 (W.put S hb) λO y A J N B=>x O y A (Y.trans J U) (biQ U N) B
    ·cases e2
   have d:∀{e2:BV call rest (f.put i.dst (.tup [])) h=some (f',h')},wpOps C rest K (F.put i.dst (.tup [])) H:=by intro e2;exact KQ E rest e2 (R.put (v:=.tup []) S rfl) x
   have p:∀t w,f.pf t=some w->F t=some (w.ren r):=λt w u=>by rw[R.fr];simp only[PF.ren,u,biP]
   simp only[wpOps];split at e
   ·rename_i M;rw[M];exact l (e2:=e)
   ·rename_i t V M;rw[M];simp only;split at e
    ·rename_i b hb;rw[p t _ hb];simp only[PV.ren];split at e
     ·rename_i u;rw[aG u];exact l (e2:=e)
     ·rename_i u;rw[aE u];exact d (e2:=e)
    ·rename_i hb;rw[p t _ hb];exact d (e2:=e)
    ·cases e
  ·cases e
theorem aJF(hC:zz C call)(hD:Xn C dr):∀(n:Nat)(c:aC){r:Nat->Nat}{f f':Fr}{h h':Hp}{F:PF}{H:PH}{x:oH}{K:cF},sX call dr n c f h=some (x,f',h')->Rl r f h F H ->
  (∀r' d H',jA h.length r r'->Z' h<=Z' h'->Rl r' f' h' d H'->K x d H')->c.wp C K F H:=by
 intro n
 induction n using Nat.strongRecOn with
 |_ n ih=>
 intro c r f f' h h' F H x K e R i;cases n with
 |zero=>cases e
 |succ n=>
 have J:=ih n (Nat.lt_succ_self n);cases c with
 |skip=>cases e;exact i r F H (λ_ _=>rfl) (bhV _) R
 |exit id=>cases e;exact i r F H (λ_ _=>rfl) (bhV _) R
 |ret=>cases e;exact i r F H (λ_ _=>rfl) (bhV _) R
 |region ops=>
  simp only[sX]at e;split at e
  ·rename_i f1 w u;cases e;exact KQ hC ops u R i
  ·cases e
 |draw ops=>
  simp only[sX]at e;split at e
  ·rename_i f1 w u;cases e;exact hD ops f h _ _ u r F H R _ i
  ·cases e
 |cond c a b=>
  simp only[sX]at e;split at e
  ·rename_i hc;split at e
   ·rename_i t w;have M:=cY (r:=r) hc w;rw[<-R.fr]at M;simp only[aC.wp,M,PV.ren];cases t with
    |true=>exact J a e R i
    |false=>exact J b e R i
   ·cases e
  ·cases e
 |seq a b=>
  simp only[sX]at e;cases w:sX call dr n a f h with
  |none=>rw[w]at e;cases e
  |some p=>
   obtain⟨y,f1,g1⟩:=p;rw[w]at e;refine J a w R λr' d H' E A B=>?_;cases y with
   |normal=>exact J b e B λY Q S V X U=>i Y Q S (E.trans V A) (biQ A X) U
   |exit id=>cases e;exact i r' d H' E A B
   |ret=>cases e;exact i r' d H' E A B
 |block id c=>
  simp only[sX]at e;cases w:sX call dr n c f h with
  |none=>rw[w]at e;cases e
  |some p=>
   obtain⟨y,f1,g1⟩:=p;rw[w]at e;refine J c w R λr' d H' E A B=>?_;cases y with
   |normal=>cases e;exact i r' d H' E A B
   |exit β=>
    simp only at e;simp only[fS];split at e
    ·rename_i M;rw[aG M];cases e;exact i r' d H' E A B
    ·rename_i M;rw[aE M];cases e;exact i r' d H' E A B
   |ret=>cases e;exact i r' d H' E A B
 |loop c=>
  let α:=Nat × Fr × Hp × (Nat->Nat) × PF × PH
  refine⟨α,λa=>a.2.2.2.2.1,λa=>a.2.2.2.2.2,λa=>a.1<=n+1/\sX call dr a.1 (.loop c) a.2.1 a.2.2.1=some (x,f',h')/\Rl a.2.2.2.1 a.2.1 a.2.2.1 a.2.2.2.2.1 a.2.2.2.2.2/\jA h.length r a.2.2.2.1/\Z' h<=a.2.2.1.length,
   λa=>a.1,(n+1,f,h,r,F,H),F,H,.refl F H,⟨bhV _,e,R,λ_ _=>rfl,bhV _⟩,λ_ _ O=>O,λ_ _ O=>O,?_⟩
  rintro⟨k,f1,w,r1,F1,H1⟩ ⟨W,u,Z,N,l⟩;simp only at W u Z N l ⊢;cases k with
  |zero=>cases u
  |succ k=>
   simp only[sX]at u;cases M:sX call dr k c f1 w with
   |none=>rw[M]at u;cases u
   |some p=>
    obtain⟨y,f2,g2⟩:=p;rw[M]at u;refine ih k Om c M Z λr' d H' E A B=>?_;cases y with
    |normal=>exact⟨(k,f2,g2,r',d,H'),d,H',.refl d H',⟨by omega,u,B,N.trans E l,biQ l A⟩,Nat.lt_succ_self k,λ_ _ O=>O,λ_ _ O=>O⟩
    |exit id=>cases u;exact i r' d H' (N.trans E l) (biQ l A) B
    |ret=>cases u;exact i r' d H' (N.trans E l) (biQ l A) B
end
mutual
def PV.on(L:Nat->Bool):PV->Bool
 | .osl o _ _ _=>L o
 | .ptr o _ _ _=>L o
 | .map o=>L o
 | .sl _ rows=>PV.uQ L rows
 | .bK cs=>PV.ons L cs
 | .fn _ cs=>PV.ons L cs
 | .agg cs=>PV.ons L cs
 | .tup cs=>PV.ons L cs
 | .int _ _=>true
 | .bool _=>true
 | .str _=>true
 | .aK=>true
 | .lit _=>true
 | .junk=>true
def PV.ons(L:Nat->Bool):List PV->Bool
 |[]=>true
 |v::vs=>PV.on L v&&PV.ons L vs
def PV.uQ(L:Nat->Bool):P2_->Bool
 |[]=>true
 |v::vs=>PV.ons L v&&PV.uQ L vs
end
mutual
theorem PV.ajZ{L:Nat->Bool}{r s t:Nat->Nat}(h:∀i,L i=true->r (t i)=s i):∀v:PV,v.on L=true->(v.ren t).ren r=v.ren s
 | .osl o _ _ _,hb=>by simp only[PV.on]at hb;simp only[PV.ren,h o hb]
 | .ptr o _ _ _,hb=>by simp only[PV.on]at hb;simp only[PV.ren,h o hb]
 | .map o,hb=>by simp only[PV.on]at hb;simp only[PV.ren,h o hb]
 | .sl _ rows,hb=>by simp only[PV.on]at hb;simp only[PV.ren,PV.XR h rows hb]
 | .bK cs,hb=>by simp only[PV.on]at hb;simp only[PV.ren,PV.zZ h cs hb]
 | .fn _ cs,hb=>by simp only[PV.on]at hb;simp only[PV.ren,PV.zZ h cs hb]
 | .agg cs,hb=>by simp only[PV.on]at hb;simp only[PV.ren,PV.zZ h cs hb]
 | .tup cs,hb=>by simp only[PV.on]at hb;simp only[PV.ren,PV.zZ h cs hb]
 | .int _ _,_=>rfl
 | .bool _,_=>rfl
 | .str _,_=>rfl
 | .aK,_=>rfl
 | .lit _,_=>rfl
 | .junk,_=>rfl
theorem PV.zZ{L:Nat->Bool}{r s t:Nat->Nat}(h:∀i,L i=true->r (t i)=s i):∀l:List PV,PV.ons L l=true->PV.lW r (PV.lW t l)=PV.lW s l
 |[],_=>rfl
 |v::vs,hb=>by simp only[PV.ons,bhQ]at hb;simp only[PV.lW,PV.ajZ h v hb.1,PV.zZ h vs hb.2]
theorem PV.XR{L:Nat->Bool}{r s t:Nat->Nat}(h:∀i,L i=true->r (t i)=s i):∀l:P2_,PV.uQ L l=true->PV.rB r (PV.rB t l)=PV.rB s l
 |[],_=>rfl
 |v::vs,hb=>by simp only[PV.uQ,bhQ]at hb;simp only[PV.rB,PV.zZ h v hb.1,PV.XR h vs hb.2]
end
mutual
theorem PV.xz{L:Nat->Bool}{t:Nat->Nat}{m:Nat}(h:∀i,L i=true->t i<m):∀v:PV,v.on L=true->(v.ren t).bound m=true
 | .osl o _ _ _,hb=>by simp only[PV.on]at hb;simp only[PV.ren,PV.bound,h o hb,decide_true]
 | .ptr o _ _ _,hb=>by simp only[PV.on]at hb;simp only[PV.ren,PV.bound,h o hb,decide_true]
 | .map o,hb=>by simp only[PV.on]at hb;simp only[PV.ren,PV.bound,h o hb,decide_true]
 | .sl _ rows,hb=>by simp only[PV.on]at hb;simp only[PV.ren,PV.bound,PV.XI h rows hb]
 | .bK cs,hb=>by simp only[PV.on]at hb;simp only[PV.ren,PV.bound,PV.vX h cs hb]
 | .fn _ cs,hb=>by simp only[PV.on]at hb;simp only[PV.ren,PV.bound,PV.vX h cs hb]
 | .agg cs,hb=>by simp only[PV.on]at hb;simp only[PV.ren,PV.bound,PV.vX h cs hb]
 | .tup cs,hb=>by simp only[PV.on]at hb;simp only[PV.ren,PV.bound,PV.vX h cs hb]
 | .int _ _,_=>rfl
 | .bool _,_=>rfl
 | .str _,_=>rfl
 | .aK,_=>rfl
 | .lit _,_=>rfl
 | .junk,_=>rfl
theorem PV.vX{L:Nat->Bool}{t:Nat->Nat}{m:Nat}(h:∀i,L i=true->t i<m):∀l:List PV,PV.ons L l=true->PV.bounds m (PV.lW t l)=true
 |[],_=>rfl
 |v::vs,hb=>by simp only[PV.ons,bhQ]at hb;simp only[PV.lW,PV.bounds,PV.xz h v hb.1,PV.vX h vs hb.2,bjY]
theorem PV.XI{L:Nat->Bool}{t:Nat->Nat}{m:Nat}(h:∀i,L i=true->t i<m):∀l:P2_,PV.uQ L l=true->PV.jJ m (PV.rB t l)=true
 |[],_=>rfl
 |v::vs,hb=>by simp only[PV.uQ,bhQ]at hb;simp only[PV.rB,PV.jJ,PV.vX h v hb.1,PV.XI h vs hb.2,bjY]
end
mutual
theorem PV.aOQ{L L':Nat->Bool}(h:∀i,L i=true->L' i=true):∀v:PV,v.on L=true->v.on L'=true
 | .osl o _ _ _,hb=>h o hb
 | .ptr o _ _ _,hb=>h o hb
 | .map o,hb=>h o hb
 | .sl _ rows,hb=>by simp only[PV.on]at hb ⊢;exact PV.ajF h rows hb
 | .bK cs,hb=>by simp only[PV.on]at hb ⊢;exact PV.IP h cs hb
 | .fn _ cs,hb=>by simp only[PV.on]at hb ⊢;exact PV.IP h cs hb
 | .agg cs,hb=>by simp only[PV.on]at hb ⊢;exact PV.IP h cs hb
 | .tup cs,hb=>by simp only[PV.on]at hb ⊢;exact PV.IP h cs hb
 | .int _ _,_=>rfl
 | .bool _,_=>rfl
 | .str _,_=>rfl
 | .aK,_=>rfl
 | .lit _,_=>rfl
 | .junk,_=>rfl
theorem PV.IP{L L':Nat->Bool}(h:∀i,L i=true->L' i=true):∀l:List PV,PV.ons L l=true->PV.ons L' l=true
 |[],_=>rfl
 |v::vs,hb=>by simp only[PV.ons,bhQ]at hb ⊢;exact⟨PV.aOQ h v hb.1,PV.IP h vs hb.2⟩
theorem PV.ajF{L L':Nat->Bool}(h:∀i,L i=true->L' i=true):∀l:P2_,PV.uQ L l=true->PV.uQ L' l=true
 |[],_=>rfl
 |v::vs,hb=>by simp only[PV.uQ,bhQ]at hb ⊢;exact⟨PV.IP h v hb.1,PV.ajF h vs hb.2⟩
end
mutual
theorem PV.TB{n:Nat}:∀v:PV,v.on (λi=>decide (i<n))=v.bound n
 | .osl o _ _ _=>rfl
 | .ptr o _ _ _=>rfl
 | .map o=>rfl
 | .sl _ rows=>by simp only[PV.on,PV.bound,PV.TC rows]
 | .bK cs=>by simp only[PV.on,PV.bound,PV.zN cs]
 | .fn _ cs=>by simp only[PV.on,PV.bound,PV.zN cs]
 | .agg cs=>by simp only[PV.on,PV.bound,PV.zN cs]
 | .tup cs=>by simp only[PV.on,PV.bound,PV.zN cs]
 | .int _ _=>rfl
 | .bool _=>rfl
 | .str _=>rfl
 | .aK=>rfl
 | .lit _=>rfl
 | .junk=>rfl
theorem PV.zN{n:Nat}:∀l:List PV,PV.ons (λi=>decide (i<n)) l=PV.bounds n l
 |[]=>rfl
 |v::vs=>by simp only[PV.ons,PV.bounds,PV.TB v,PV.zN vs]
theorem PV.TC{n:Nat}:∀l:P2_,PV.uQ (λi=>decide (i<n)) l=PV.jJ n l
 |[]=>rfl
 |v::vs=>by simp only[PV.uQ,PV.jJ,PV.zN v,PV.TC vs]
end
theorem PV.a3S{L L':Nat->Bool}(h:∀i,L i=true->L' i=true)(v:PV)(d:v.on L=true):v.on L'=true:=by
 have:=PV.aOQ (L:=L) (L':=L') h v;exact this d
def PV.Mh(r:Nat->Nat)(v:PV):PV:=cond (v.bound 0) v (v.ren r)
theorem PV.XQ(r:Nat->Nat)(v:PV):v.Mh r=v.ren r:=by
 unfold PV.Mh;cases e:v.bound 0 with
 |true=>exact(PV.BU e r).symm
 |false=>rfl
def PV.onC(L:Nat->Bool)(v:PV):Bool:=cond (v.bound 0) true (v.on L)
theorem PV.ajB{L:Nat->Bool}{v:PV}(h:v.onC L=true):v.on L=true:=by
 unfold PV.onC at h;cases e:v.bound 0 with
 |true =>rw[<-PV.TB]at e;exact PV.a3S (λi hi=>by simp at hi) v e
 |false=>rw[e]at h;exact h
mutual
def PV.ids:PV->List Nat->List Nat
 | .osl o _ _ _,l=>o::l
 | .ptr o _ _ _,l=>o::l
 | .map o,l=>o::l
 | .sl _ rows,l=>PV.aZS rows l
 | .bK cs,l=>PV.K7 cs l
 | .fn _ cs,l=>PV.K7 cs l
 | .agg cs,l=>PV.K7 cs l
 | .tup cs,l=>PV.K7 cs l
 | .int _ _,l=>l
 | .bool _,l=>l
 | .str _,l=>l
 | .aK,l=>l
 | .lit _,l=>l
 | .junk,l=>l
def PV.K7:List PV->List Nat->List Nat
 |[],l=>l
 |v::vs,l=>PV.ids v (PV.K7 vs l)
def PV.aZS:P2_->List Nat->List Nat
 |[],l=>l
 |v::vs,l=>PV.K7 v (PV.aZS vs l)
end
def PV.aUT(v:PV)(l:List Nat):List Nat:=cond (v.bound 0) l (v.ids l)
def wU:List PV->List Nat->List Nat
 |[],l=>l
 |v::vs,l=>PV.aUT v (wU vs l)
def aeA:P2_->List Nat->List Nat
 |[],l=>l
 |v::vs,l=>wU v (aeA vs l)
def im(L:Nat->Bool):List PV->Bool
 |[]=>true
 |v::vs=>v.onC L&&im L vs
def mr(L:Nat->Bool):P2_->Bool
 |[]=>true
 |v::vs=>im L v&&mr L vs
theorem XE{L:Nat->Bool}:∀{l:List PV},im L l=true->PV.ons L l=true
 |[],_=>rfl
 |v::vs,h=>by simp only[im,PV.ons,bhQ]at h ⊢;exact⟨PV.ajB h.1,XE h.2⟩
theorem BM{L:Nat->Bool}:∀{l:P2_},mr L l=true->PV.uQ L l=true
 |[],_=>rfl
 |v::vs,h=>by simp only[mr,PV.uQ,bhQ]at h ⊢;exact⟨XE h.1,BM h.2⟩
theorem PV.a6Y{L:Nat->Bool}{v:PV}(h:v.on L=true):v.onC L=true:=by
 unfold PV.onC;rw[h];cases v.bound 0<;>rfl
theorem ajD{L:Nat->Bool}:∀{l:List PV},PV.ons L l=true->im L l=true
 |[],_=>rfl
 |v::vs,h=>by simp only[im,PV.ons,bhQ]at h ⊢;exact⟨PV.a6Y h.1,ajD h.2⟩
theorem Gk{L:Nat->Bool}:∀{l:P2_},PV.uQ L l=true->mr L l=true
 |[],_=>rfl
 |v::vs,h=>by simp only[mr,PV.uQ,bhQ]at h ⊢;exact⟨ajD h.1,Gk h.2⟩
def my(r:Nat->Nat):List PV->List PV
 |[]=>[]
 |v::vs=>v.Mh r::my r vs
def iu(r:Nat->Nat):P2_->P2_
 |[]=>[]
 |v::vs=>my r v::iu r vs
theorem HC(r:Nat->Nat):∀l,my r l=PV.lW r l
 |[]=>rfl
 |v::vs=>by rw[my,PV.lW,PV.XQ,HC r vs]
theorem BT(r:Nat->Nat):∀l,iu r l=PV.rB r l
 |[]=>rfl
 |v::vs=>by rw[iu,PV.rB,HC,BT r vs]
mutual
def PV.beq:PV->PV->Bool
 | .osl a b c d,y=>match y with | .osl i l p u=>bjT a i&&(bjT b l&&(bjT c p&&bjT d u))|_=>false
 | .ptr a b c d,y=>match y with | .ptr i l p u=>bjT a i&&(bjT b l&&(bjT c p&&bjT d u))|_=>false
 | .map a,y=>match y with | .map i=>bjT a i|_=>false
 | .sl s rows,y=>match y with | .sl s' rows'=>bjT s s'&&PV.lj rows rows'|_=>false
 | .bK cs,y=>match y with | .bK e=>PV.NT cs e|_=>false
 | .fn n cs,y=>match y with | .fn w e=>bjT n w&&PV.NT cs e|_=>false
 | .agg cs,y=>match y with | .agg e=>PV.NT cs e|_=>false
 | .tup cs,y=>match y with | .tup e=>PV.NT cs e|_=>false
 | .int k n,y=>match y with | .int x w=>decide (k=x)&&decide (n=w)|_=>false
 | .bool b,y=>match y with | .bool l=>decide (b=l)|_=>false
 | .str s,y=>match y with | .str s'=>decide (s=s')|_=>false
 | .aK,y=>match y with | .aK=>true|_=>false
 | .lit _,_=>false
 | .junk,y=>match y with | .junk=>true|_=>false
def PV.NT:List PV->List PV->Bool
 |[],y=>match y with|[]=>true|_=>false
 |v::vs,y=>match y with|w::d=>PV.beq v w&&PV.NT vs d|_=>false
def PV.lj:P2_->P2_->Bool
 |[],y=>match y with|[]=>true|_=>false
 |v::vs,y=>match y with|w::d=>PV.NT v w&&PV.lj vs d|_=>false
end
mutual
theorem PV.beq_eq:∀v w:PV,PV.beq v w=true->v=w
 | .osl _ _ _ _,w,h=>by cases w<;>simp_all [PV.beq]
 | .ptr _ _ _ _,w,h=>by cases w<;>simp_all [PV.beq]
 | .map _,w,h=>by cases w<;>simp_all [PV.beq]
 | .sl s rows,w,h=>by cases w<;>simp only[PV.beq,bhQ,bjW]at h;rw[PV.uj _ _ h.2,Nat.eq_of_beq_eq_true h.1]
 | .bK cs,w,h=>by cases w<;>simp only[PV.beq,bjW]at h;rw[PV.CR _ _ h]
 | .fn _ cs,w,h=>by cases w<;>simp only[PV.beq,bhQ,bjW]at h;rw[PV.CR _ _ h.2,Nat.eq_of_beq_eq_true h.1]
 | .agg cs,w,h=>by cases w<;>simp only[PV.beq,bjW]at h;rw[PV.CR _ _ h]
 | .tup cs,w,h=>by cases w<;>simp only[PV.beq,bjW]at h;rw[PV.CR _ _ h]
 | .int _ _,w,h=>by cases w<;>simp_all [PV.beq]
 | .bool _,w,h=>by cases w<;>simp_all [PV.beq]
 | .str _,w,h=>by cases w<;>simp_all [PV.beq]
 | .aK,w,h=>by cases w<;>simp_all [PV.beq]
 | .lit _,_,h=>by simp[PV.beq]at h
 | .junk,w,h=>by cases w<;>simp_all [PV.beq]
theorem PV.CR:∀v w:List PV,PV.NT v w=true->v=w
 |[],w,h=>by cases w<;>simp_all [PV.NT]
 |v::vs,w,h=>by cases w<;>simp only[PV.NT,bhQ,bjW]at h;rw[PV.beq_eq _ _ h.1,PV.CR _ _ h.2]
theorem PV.uj:∀v w:P2_,PV.lj v w=true->v=w
 |[],w,h=>by cases w<;>simp_all [PV.lj]
 |v::vs,w,h=>by cases w<;>simp only[PV.lj,bhQ,bjW]at h;rw[PV.CR _ _ h.1,PV.uj _ _ h.2]
end
def posOf:List Nat->Nat->Nat
 |[],_=>0
 |x::xs,i=>if bjT x i then 0 else posOf xs i+1
def inL:List Nat->Nat->Bool
 |[],_=>false
 |x::xs,i=>bjT x i||inL xs i
def gp:List Nat->Bool
 |[]=>true
 |x::xs=>!inL xs x&&gp xs
def atN:List Nat->Nat->Nat
 |[],_=>0
 |x::_,0=>x
 |_::xs,k+1=>atN xs k
theorem DB:∀{l:List Nat}{i:Nat},inL l i=true->i∈l
 |x::xs,i,h=>by
  simp only[inL,blI]at h;rcases h with h|h
  ·rw[Nat.eq_of_beq_eq_true h];exact List.mem_cons_self ..
  ·exact List.mem_cons_of_mem _ (DB h)
theorem wZ:∀{l:List Nat}{i:Nat},i∈l->inL l i=true
 |x::xs,i,h=>by
  simp only[inL,blI];rcases biG.1 h with h|h
  ·left;rw[h];simp
  ·right;exact wZ h
theorem tT:∀{l:List Nat}{i:Nat},inL l i=true->atN l (posOf l i)=i/\posOf l i<Z' l
 |x::xs,i,h=>by
  simp only[inL,blI]at h;simp only[posOf];by_cases e:bjT x i=true
  ·rw[aG e];exact⟨Nat.eq_of_beq_eq_true e,Nat.zero_lt_succ _⟩
  ·rw[aE e];have:=tT (h.resolve_left e);exact⟨this.1,Nat.succ_lt_succ this.2⟩
theorem vG:∀{l:List Nat}{k:Nat},k<Z' l->inL l (atN l k)=true
 |x::xs,0,_=>by simp[inL,atN]
 |x::xs,k+1,h=>by simp only[inL,atN,blI];exact .inr (vG (Nat.lt_of_succ_lt_succ h))
theorem FA:∀{l:List Nat}{k:Nat},gp l=true->k<Z' l->posOf l (atN l k)=k
 |x::xs,0,_,_=>by simp[posOf,atN]
 |x::xs,k+1,d,h=>by simp only[gp,bhQ,Bool.not_eq_true']at d;show(if bjT x (atN xs k)=true then 0 else posOf xs (atN xs k)+1)=k+1;have i:=vG (Nat.lt_of_succ_lt_succ h);rw[aE (λe=>by rw[Nat.eq_of_beq_eq_true e,i]at d;cases d.1),FA d.2 (Nat.lt_of_succ_lt_succ h)]
theorem yX{β:Type}(g:Nat->β):∀(l:List Nat)(k:Nat),(l.map g)[k]?=if k<l.length then some (g (atN l k))else none
 |[],k=>by simp
 |x::xs,0=>by simp[atN]
 |x::xs,k+1=>by rw[biU,List.getElem?_cons_succ,yX g xs k];simp only[atN,bjL,Nat.succ_lt_succ_iff,Nat.add_lt_add_iff_right]
def aY.on(L:Nat->Bool):aY->Bool
 | .rows _ rs=>mr L rs
 |_=>true
def aY.rn(r:Nat->Nat):aY->aY
 | .rows s rs=>.rows s (iu r rs)
 |x=>x
theorem aY.aPM{L:Nat->Bool}{n:Nat}{r s t:Nat->Nat}(h:∀i,L i=true->r (t i)=s i){x:aY}(hb:x.Bd n)(d:x.on L=true):(x.rn t).ren r=x.ren s:=by
 cases x with
 |rows sz rs=>simp only[aY.rn,aY.ren,<-PV.lL,BT];rw[PV.XR h rs (BM d)]
 |_=>rfl
theorem aY.a7I{L:Nat->Bool}{n:Nat}{r s t:Nat->Nat}(h:∀i,L i=true->r (t i)=s i){x:aY}(hb:x.Bd n)(d:x.on L=true):(x.ren t).ren r=x.rn s:=by
 cases x with
 |rows sz rs=>simp only[aY.rn,aY.ren,<-PV.lL,BT];rw[PV.XR h rs (BM d)]
 |_=>rfl
theorem aY.a0C{L:Nat->Bool}{n m:Nat}{t:Nat->Nat}(h:∀i,L i=true->t i<m){x:aY}(hb:x.Bd n)(d:x.on L=true):(x.rn t).Bd m:=by
 cases x with
 |rows sz rs =>show PV.jJ m (iu t rs)=true;rw[BT];exact PV.XI h rs (BM d)
 |_=>trivial
theorem aY.Mm{t:Nat->Nat}{x y:aY}(h:(x.rn t).live=some y):x.live=some x/\y=x.rn t:=by
 cases x<;>first|(cases h;done)|(cases h;exact⟨rfl,rfl⟩)
def gtH(h:Hp)(i:Nat):aY:=match h[i]? with
 |some x=>x
 |none=>.dead
theorem vj{h:Hp}{i:Nat}{x:aY}(e:(gtH h i).live=some x):h.ph i=some x/\gtH h i=x:=by
 have e2:=aY.EW e;refine⟨?_,e2⟩;unfold gtH at e;rw[Hp.nU];split at e
 ·rename_i y d;rw[d];exact e
 ·cases e
theorem a7D{h:Hp}{i:Nat}{x:aY}(e:h.ph i=some x):gtH h i=x/\x.live=some x:=by
 have d:=nI e;rw[Hp.nU,d.1]at e;refine⟨?_,e⟩;unfold gtH;rw[d.1]
def sM(h:Hp)(t:Nat->Nat)(M:List Nat):Hp:=M.map λi=>(gtH h i).rn t
def HA(M:List Nat)(h:Hp):Bool:=gp M&&M.all λi=>(gtH h i).on (inL M)
theorem xy{M:List Nat}{h:Hp}(ok:HA M h=true){i:Nat}(hi:inL M i=true):(gtH h i).on (inL M)=true:=by
 simp only[HA,bhQ,biB]at ok;exact ok.2 i (DB hi)
theorem XL{h:Hp}{t:Nat->Nat}{M:List Nat}{k:Nat}{x:aY}(e:Hp.ph (sM h t M) k=some x):k<Z' M/\(gtH h (atN M k)).live=some (gtH h (atN M k))/\x=(gtH h (atN M k)).rn t:=by
 rw[Hp.nU,sM,yX]at e;split at e
 ·rename_i d;exact⟨d,aY.Mm e⟩
 ·cases e
section
variable {r:Nat->Nat} {f:Fr} {h:Hp} {F:PF} {H:PH}
theorem ER(R:Rl r f h F H)(i:Nat):(gtH h i).Bd h.length:=by
 unfold gtH;split
 ·rename_i x e;exact R.hb x (bjQ e)
 ·trivial
theorem Rl.cut(R:Rl r f h F H){M:List Nat}(ok:HA M h=true):Rl (λk=>r (atN M k)) .nil (sM h (posOf M) M) n_ H:=by
 have d:(sM h (posOf M) M).length=Z' M:=by simp[sM]
 refine⟨rfl,λk x p=>?_,λk l x y p K e=>?_,λi v J=>by simp[Fr.pf]at J,λx p=>?_⟩
 ·obtain⟨A,u,rfl⟩:=XL p;have w:=vj u;rw[aY.aPM (L:=inL M) (λi hi=>by rw[(tT hi).1]) (ER R _) (xy ok (vG A))];exact R.hp _ _ w.1
 ·obtain⟨A,u,-⟩:=XL p;obtain⟨E,w,-⟩:=XL K;have B:=R.inj _ _ _ _ (vj u).1 (vj w).1 e;simp only[HA,bhQ]at ok;rw[<-FA ok.1 A,B,FA ok.1 E]
 ·rw[d];obtain⟨i,hi,rfl⟩:=biJ.1 p;exact aY.a0C (L:=inL M) (λi hi=>(tT hi).2) (ER R _) (xy ok (wZ hi))
theorem zC(H:PH)(D:List Nat)(o:Nat):(H.only D) o=if o∈D then H o else none:=rfl
theorem Rl.only(R:Rl r f h F H){D:List Nat}(e:∀i x,h.ph i=some x->r i∈D):Rl r f h F (H.only D):=by
 refine⟨R.fr,λi x d=>?_,R.inj,R.fb,R.hb⟩;rw[zC,aG (e i x d)];exact R.hp i x d
end
def reach(h:Hp):Nat->List Nat->List Nat->List Nat
 |0,_,seen=>seen
 |_+1,[],seen=>seen
 |n+1,i::d,seen=>if inL seen i then reach h n d seen else match gtH h i with
  | .rows _ rs=>reach h n (aeA rs d) (i::seen)
  |_=>reach h n d seen
def CB:Nat->List Nat->List Nat
 |0,l=>l
 |n+1,l=>CB n (n::l)
theorem aCJ:∀(n:Nat)(l:List Nat)(k:Nat),atN (CB n l) k=if k<n then k else atN l (k-n)
 |0,l,k=>by simp[CB]
 |n+1,l,k=>by
  rw[CB,aCJ n (n::l) k];rcases Nat.lt_trichotomy k n with h|h|h
  ·rw[aG h,aG Om]
  ·subst h;rw[aE (Nat.lt_irrefl _),aG Om,bkR];rfl
  ·rw[aE Om,aE Om];obtain⟨d,e⟩:∃d,k-n=d+1:=⟨k-n-1,by omega⟩;rw[e,show k-(n+1)=d by omega];rfl
theorem aoK:∀(n:Nat)(l:List Nat),(CB n l).length=n+Z' l
 |0,l=>by simp[CB]
 |n+1,l=>by rw[CB,aoK n];simp;omega
def Gi:Hp->List Nat->List Nat
 |[],l=>l
 |x::xs,l=>match x with
  | .rows _ rs=>aeA rs (Gi xs l)
  |_=>Gi xs l
def trim(n:Nat)(v:PV)(h:Hp):Option (PV × Hp):=
 if bjT n h.length then some (v,h)else
 let M:=CB n ((reach h 1000 (PV.aUT v (Gi (h.take n) [])) []).filter λi=>Nat.ble n i)
 if HA M h&&v.onC (inL M)then some (v.Mh (posOf M),sM h (posOf M) M)else none
noncomputable def nj(call:gS):gS:=λname vs h=>match call name vs h with
 |some (v,d)=>trim h.length v d
 |none=>none
theorem aJT{r:Nat->Nat}{n:Nat}{v v':PV}{h p:Hp}{w:PV}{H:PH}(e:trim n v h=some (v',p))(u:Comes r n v h w H):Comes r n v' p w H:=by
 unfold trim at e;split at e
 ·cases e;exact u
 ·simp only at e;generalize(reach h 1000 (PV.aUT v (Gi (h.take n) [])) []).filter (λi=>Nat.ble n i)=N at e;split at e
  ·rename_i d;simp only[bhQ]at d;replace d:=And.intro d.1 (PV.ajB d.2);rw[PV.XQ]at e;cases e;obtain⟨r',x,R,rfl,hb,y⟩:=u;have l:(sM h (posOf (CB n N)) (CB n N)).length=(CB n N).length:=by simp[sM]
   refine⟨λk=>r' (atN (CB n N) k),λi hi=>?_,R.cut d.1,(PV.ajZ (L:=inL (CB n N)) (λi hi=>by rw[(tT hi).1]) _ d.2).symm,?_,?_⟩
   ·show r i=r' (atN (CB n N) i);rw[aCJ,aG hi];exact x i hi
   ·rw[l];exact PV.xz (λi hi=>(tT hi).2) _ d.2
   ·rw[l,aoK];omega
  ·cases e
variable{C:Ctx}
theorem aH.W6{name:Nat}{vs:List PV}{H:PH}{R e:PV->PH->Prop}(h:aH C name vs H R)(A:∀i H',R i H'->e i H'):aH C name vs H e:=by
 refine⟨h.1,λE w B x hW d=>(h.2 E w B x hW d).mono λJ K y=>?_⟩;obtain⟨u,pv,l,H',g1,g2,g3,g4,p⟩:=y;exact⟨u,pv,l,H',g1,g2,g3,g4,A _ _ p⟩
theorem aXU{call:gS}(i:rH C call):rH C (nj call):=by
 intro name vs h v p e r H R X hb;unfold nj at e;split at e
 ·rename_i w g d;exact(i name vs h w g d r H R X hb).W6 λu H' l=>aJT e l
 ·cases e
def aY.yN:aY->Bool
 | .rows _ _=>true
 |_=>false
theorem VP{x:aY}(h:x.yN=true):x.live=some x:=by
 cases x<;>first|rfl|cases h
def okM(M:List Nat)(h:Hp):Bool:=HA M h&&M.all λi=>(gtH h i).yN
def bk(M:List Nat)(n:Nat)(j:Nat):Nat:=if Nat.blt j M.length then atN M j else n+(j-Z' M)
def FL(M:List Nat)(h2:Hp)(t:Nat->Nat):Nat->Hp->Hp
 |_,[]=>[]
 |i,x::xs=>(if inL M i then(gtH h2 (posOf M i)).rn t else x)::FL M h2 t (i+1) xs
def uC(M:List Nat)(h h2:Hp):Hp:=(match M with|[]=>h|_=>FL M h2 (bk M h.length) 0 h)++(h2.drop M.length).map (aY.rn (bk M h.length))
theorem axA(M:List Nat)(h2:Hp)(t:Nat->Nat):∀(h:Hp)(i k:Nat),(FL M h2 t i h)[k]?=(h[k]?).map λx=>if inL M (i+k)then(gtH h2 (posOf M (i+k))).rn t else x
 |[],i,k=>by simp[FL]
 |x::xs,i,0=>by simp[FL]
 |x::xs,i,k+1=>by simp only[FL,List.getElem?_cons_succ];rw[axA M h2 t xs (i+1) k,show i+1+k=i+(k+1) by omega]
theorem aeI(h2:Hp)(t:Nat->Nat):∀(h:Hp)(i:Nat),FL [] h2 t i h=h
 |[],i=>rfl
 |x::xs,i=>by simp[FL,inL,aeI h2 t xs]
theorem JZ(M:List Nat)(h2:Hp)(t:Nat->Nat):∀(h:Hp)(i:Nat),(FL M h2 t i h).length=Z' h
 |[],i=>rfl
 |x::xs,i=>by simp[FL,JZ M h2 t xs]
theorem afP(M:List Nat)(h h2:Hp):uC M h h2=FL M h2 (bk M h.length) 0 h++(h2.drop M.length).map (aY.rn (bk M h.length)):=by
 unfold uC;split
 ·rw[aeI]
 ·rfl
theorem MT(M:List Nat)(h h2:Hp):(uC M h h2).length=Z' h+(Z' h2-Z' M):=by
 rw[afP];simp[JZ]
theorem a1Y(t:Nat->Nat)(l:Hp)(k:Nat):gtH (l.map (aY.rn t)) k=(gtH l k).rn t:=by
 unfold gtH;rw[biL];cases l[k]?<;>rfl
theorem aUK(l:Hp)(m k:Nat):gtH (l.drop m) k=gtH l (m+k):=by
 unfold gtH;rw[blW]
theorem wi(M:List Nat)(h h2:Hp)(k:Nat):gtH (uC M h h2) k=if k<h.length then(if inL M k then(gtH h2 (posOf M k)).rn (bk M h.length)else gtH h k)else(gtH h2 (Z' M+(k-Z' h))).rn (bk M h.length):=by
 rw[afP];by_cases d:k<Z' h
 ·rw[aG d];unfold gtH;rw[bkE (by rw[JZ];exact d),axA,biN];rw[biD d,biP];by_cases e:inL M k=true
  ·simp only[aG e];rfl
  ·simp only[aE e]
 ·rw[aE d];have:gtH (FL M h2 (bk M h.length) 0 h++(h2.drop M.length).map (aY.rn (bk M h.length))) k=gtH ((h2.drop M.length).map (aY.rn (bk M h.length))) (k-Z' h):=by unfold gtH;rw[bkF (by rw[JZ];omega),JZ]
  rw[this,a1Y,aUK]
theorem aY.aZQ{n:Nat}{x:aY}(h:x.Bd n):x.on (λi=>decide (i<n))=true:=by
 cases x with
 |rows s rs=>exact Gk ((PV.TC rs).trans h)
 |map=>rfl
 |loop=>rfl
 |dead=>rfl
theorem uW(h:Hp)(k:Nat):h.ph k=(gtH h k).live:=by
 unfold gtH;rw[Hp.nU];cases h[k]?<;>rfl
theorem a2S{h:Hp}{x:aY}(i:x∈h):∃k,k<Z' h/\gtH h k=x:=by
 obtain⟨k,d,e⟩:=bjD i;exact⟨k,d,by unfold gtH;rw[biD d,<-e]⟩
section
variable {r:Nat->Nat} {f:Fr} {h h2:Hp} {F:PF} {H H':PH} {v rv:PV} {M:List Nat}
theorem vW(ok:okM M h=true){i:Nat}(hi:inL M i=true):h.ph i=some (gtH h i):=by
 simp only[okM,bhQ,biB]at ok;rw[uW];exact VP (ok.2 i (DB hi))
theorem aOP(ok:okM M h=true){i:Nat}(hi:inL M i=true):i<Z' h:=(nI (vW ok hi)).2
theorem afO(R:Rl r f h F H)(ok:okM M h=true)(hc:Comes (λk=>r (atN M k)) M.length v h2 rv H')(ap:qW H (H.only (M.map r)) H') :
  ∃r',jA h.length r r'/\Z' h<=(uC M h h2).length/\Rl r' f (uC M h h2) F (H.over (H.only (M.map r)) H')/\rv=(v.ren (bk M h.length)).ren r'/\(v.ren (bk M h.length)).bound (uC M h h2).length=true:=by
 obtain⟨r2,α,E,rfl,Q,γ⟩:=hc;have O:jA h.length r (λi=>if i<h.length then r i else r2 (Z' M+(i-Z' h))):=λi hi=>by
  show r i=if i<h.length then r i else _
  rw[aG hi]
 generalize β:(λi=>if i<h.length then r i else r2 (Z' M+(i-Z' h)))=r' at O;have U:∀i,Z' h<=i->r' i=r2 (Z' M+(i-Z' h)):=λi hi=>by rw[<-β];exact aE Om
 have N:∀j,r' (bk M h.length j)=r2 j:=λj=>by
  unfold bk;by_cases V:j<Z' M
  ·rw[aG (by simpa[Nat.blt_eq]using V),<-O _ (aOP ok (vG V)),<-α j V]
  ·rw[aE (by simpa[Nat.blt_eq]using V),U _ Om];congr 1;omega
 have S:∀j,j<Z' h2->bk M h.length j<Z' h+(Z' h2-Z' M):=λj V=>by
  unfold bk;by_cases K:j<Z' M
  ·rw[aG (by simpa[Nat.blt_eq]using K)];have:=aOP ok (vG K);omega
  ·rw[aE (by simpa[Nat.blt_eq]using K)];omega
 have Y:∀j,((gtH h2 j).rn (bk M h.length)).ren r'=(gtH h2 j).ren r2:=λj=>
  aY.aPM (L:=λi=>decide (i<Z' h2)) (λi _=>N i) (ER E j) (aY.aZQ (ER E j))
 have J:∀j,((gtH h2 j).rn (bk M h.length)).Bd (Z' h+(Z' h2-Z' M)):=λj=>
  aY.a0C (L:=λi=>decide (i<Z' h2)) (λi hi=>S i (by simpa using hi)) (ER E j) (aY.aZQ (ER E j))
 have p:∀k x,Hp.ph (uC M h h2) k=some x->(h.ph k=some x/\r' k=r k/\H' (r k)=none/\(H.only (M.map r)) (r k)=none) \/
   ∃j,h2.ph j=some (gtH h2 j)/\x=(gtH h2 j).rn (bk M h.length)/\r' k=r2 j/\k=bk M h.length j:=by
  intro k x d;rw[uW,wi]at d;by_cases hk:k<Z' h
  ·rw[aG hk]at d;by_cases hm:inL M k=true
   ·rw[aG hm]at d;obtain⟨u,rfl⟩:=aY.Mm d;have hp:=tT hm;have W:k=bk M h.length (posOf M k):=by unfold bk;rw[aG (by simpa[Nat.blt_eq]using hp.2),hp.1]
    refine .inr ⟨posOf M k,by rw[uW];exact u,rfl,?_,W⟩;exact(congrArg r' W).trans (N (posOf M k))
   ·rw[aE hm,<-uW]at d;have X:r k ∉ M.map r:=λhc=>by obtain⟨i,hi,e⟩:=biJ.1 hc;have:=R.inj i k _ _ (vW ok (wZ hi)) d e;subst this;exact hm (wZ hi)
    have ho:(H.only (M.map r)) (r k)=none:=by rw[zC,aE X]
    refine .inl ⟨d,(O k hk).symm,?_,ho⟩;cases e:H' (r k)with
    |none=>rfl
    |some y =>have:=ap _ y e ho;rw[R.hp k x d]at this;cases this
  ·rw[aE hk]at d;obtain⟨u,rfl⟩:=aY.Mm d;refine .inr ⟨Z' M+(k-Z' h),by rw[uW];exact u,rfl,U k Om,?_⟩;unfold bk;rw[aE (by simp[Nat.blt_eq])];omega
 refine⟨r',O,by rw[MT];omega,⟨?_,λk x d=>?_,λk l x y d hy e=>?_,λi w hw=>?_,λx d=>?_⟩,(PV.ajZ (L:=λi=>decide (i<Z' h2)) (λi _=>N i) v ((PV.TB v).trans Q)).symm,?_⟩
 ·rw[R.fr];exact PF.qE O R.fb
 ·rcases p k x d with⟨u,A,B,Z⟩|⟨j,u,rfl,B,-⟩
  ·rw[A];have:=R.hp k x u;rw[aY.qE O (R.hb x (bjQ (nI u).1))]at this;simp only[PH.over,B,Z,this]
  ·rw[B,Y j];simp only[PH.over,E.hp j _ u]
 ·rcases p k x d with⟨u,A,B,Z⟩|⟨j,u,rfl,B,Z⟩<;>rcases p l y hy with⟨g1,g2,g3,g4⟩|⟨j',g1,rfl,g3,g4⟩
  ·rw[A,g2]at e;exact R.inj k l _ _ u g1 e
  ·rw[A,g3]at e;rw[e,E.hp j' _ g1]at B;cases B
  ·rw[B,g2]at e;rw[<-e,E.hp j _ u]at g3;cases g3
  ·rw[B,g3]at e;rw[Z,g4,E.inj j j' _ _ u g1 e]
 ·rw[MT];exact PV.wM (Nat.le_add_right _ _) w (R.fb i w hw)
 ·rw[MT];obtain⟨k,hk,rfl⟩:=a2S d;rw[wi];split
  ·split
   ·exact J _
   ·exact(ER R k).mono (Nat.le_add_right _ _)
  ·exact J _
 ·rw[MT];exact PV.xz (λi hi=>S i (by simpa using hi)) v ((PV.TB v).trans Q)
theorem D6 {C : Ctx} {call : gS} (hC : rH C call) {name : Nat} {vs : List PV} (R : Rl r f h F H) (ok : okM M h = true) (hv : PV.ons (inL M) vs = true)
    (e : call name (PV.lW (posOf M) vs) (sM h (posOf M) M) = some (v, h2)) : aH C name (vs.map (PV.ren r)) (H.only (M.map r)) (Comes (fun k => r (atN M k)) M.length v h2) := by
  have oks : HA M h = true := by simp only [okM, bhQ] at ok; exact ok.1
  have hlen : (sM h (posOf M) M).length = M.length := by simp [sM]
  have h1 := hC name _ _ v h2 e (fun k => r (atN M k)) (H.only (M.map r))
    ((R.cut oks).only fun k x hx => List.mem_map_of_mem (DB (vG (XL hx).1))) (fun o x hx => by
      rw [zC] at hx;split at hx
      · rename_i hm
        obtain ⟨i, hi, rfl⟩ := biJ.1 hm;have hp := tT (wZ hi);have hl := vW ok (wZ hi);rw [uW] at hl;refine ⟨posOf M i, (gtH h i).rn (posOf M), ?_, by show r (atN M (posOf M i)) = r i; rw [hp.1]⟩;rw [Hp.nU, sM, yX, aG hp.2, hp.1];show aY.live _ = _;generalize gtH h i = y at hl ⊢;cases y <;> first | rfl | cases hl
      · cases hx) (by rw [hlen]; exact PV.vX (fun i hi => (tT hi).2) vs hv)
  rw [hlen] at h1;rw [<- PV.fC, PV.zZ (L := inL M) (s := r) (fun i hi => by show r (atN M (posOf M i)) = r i; rw [(tT hi).1]) vs hv] at h1;rw [<- PV.fC];exact h1
end
noncomputable def aZR(call:gS)(M:List Nat)(name:Nat)(vs:List PV)(h:Hp):Option (PV × Hp):=
 if okM M h&&im (inL M) vs then match call name (my (posOf M) vs) (sM h (posOf M) M)with
  |some (v,h2)=>some (v.Mh (bk M h.length),uC M h h2)
  |none=>none
 else none
noncomputable def hand(call:gS):gS:=λname vs h=>aZR call (reach h 1000 (wU vs []) []) name vs h
theorem a2H{call:gS}(A:rH C call):zz C (hand call):=by
 intro name vs h v O e r f F H d K R hb E;unfold hand aZR at e;generalize reach h 1000 (wU vs []) []=M at e;split at e
 ·rename_i i;simp only[bhQ]at i;rw[HC]at e;split at e
  ·rename_i w h2 e2;rw[PV.XQ]at e;cases e;refine⟨_,H.only (M.map r),_,rfl,λo x l=>?_,D6 A R i.1 (XE i.2) e2,λrv H' N y=>?_⟩
   ·rw[zC]at l;split at l
    ·exact l
    ·cases l
   ·obtain⟨r',B,J,u,rfl,p⟩:=afO R i.1 N y;exact E r' _ B J u p
  ·cases e
 ·cases e
theorem xU{n:Nat}:∀{l:P2_},PV.jJ n l=true↔∀x∈l,PV.bounds n x=true
 |[]=>by simp[PV.jJ]
 |x::xs=>by simp[PV.jJ,xU (l:=xs)]
theorem tK{n:Nat}:∀{l:List PV},PV.bounds n l=true↔∀x∈l,x.bound n=true
 |[]=>by simp[PV.bounds]
 |x::xs=>by simp[PV.bounds,tK (l:=xs)]
theorem mu{L:Nat->Bool}:∀{l:List PV},PV.ons L l=true↔∀x∈l,x.on L=true
 |[]=>by simp[PV.ons]
 |x::xs=>by simp[PV.ons,mu (l:=xs)]
theorem ajE{L:Nat->Bool}:∀{l:P2_},PV.uQ L l=true↔∀x∈l,PV.ons L x=true
 |[]=>by simp[PV.uQ]
 |x::xs=>by simp[PV.uQ,ajE (l:=xs)]
section
variable {L:Nat->Bool} {r:Nat->Nat} {o s n:Nat} {rs:P2_}
theorem UQ(hi:∀q,L q=true->r q=r o->q=o)(v:PV)(i:v.on L=true):(v.dV o s rs).ren r=(v.ren r).dV (r o) s (rs.map λx=>x.map (PV.ren r)):=by
 cases v with
 |osl q s' d len=>
  simp only[PV.on]at i;simp only[PV.dV,PV.ren];by_cases e:q=o
  ·subst e;rw[aG rfl,aG rfl];simp only[bhO];by_cases c:s'=s/\d+len<=Z' rs
   ·rw[aG c,aG c];simp only[PV.ren,PV.lL,bkY,List.map_drop]
   ·rw[aE c,aE c];rfl
  ·rw[aE e,aE (λh=>e (hi q i h))];rfl
 |_=>rfl
theorem aaR(hi:∀q,L q=true->r q=r o->q=o)(v:PV)(d:v.on L=true):(v.tO o s rs).ren r=(v.ren r).tO (r o) s (rs.map λx=>x.map (PV.ren r)):=by
 cases v with
 |agg cs =>simp only[PV.on]at d;simp only[PV.tO,PV.ren,PV.fC,bkT];congr 1;exact bkP λx e=>UQ hi x (mu.1 d x e)
 |osl q s' i len=>exact UQ hi _ d
 |_=>rfl
theorem a1O(hi:∀q,L q=true->r q=r o->q=o)(v:PV)(d:v.on L=true):(v.frz o s rs).ren r=(v.ren r).frz (r o) s (rs.map λx=>x.map (PV.ren r)):=by
 cases v with
 |tup cs =>simp only[PV.on]at d;simp only[PV.frz,PV.ren,PV.fC,bkT];congr 1;exact bkP λx e=>aaR hi x (mu.1 d x e)
 |agg cs=>exact aaR hi _ d
 |osl q s' i len=>exact UQ hi _ d
 |_=>rfl
theorem GN(e:PV.jJ n rs=true)(v:PV)(d:v.bound n=true):(v.dV o s rs).bound n=true:=by
 cases v with
 |osl q s' l len=>
  simp only[PV.dV];split
  ·split
   ·simp only[PV.bound];exact xU.2 λx i=>xU.1 e x (List.mem_of_mem_drop (bmB i))
   ·rfl
  ·exact d
 |_=>exact d
theorem Dy(e:PV.jJ n rs=true)(v:PV)(d:v.bound n=true):(v.tO o s rs).bound n=true:=by
 cases v with
 |agg cs =>simp only[PV.bound]at d;simp only[PV.tO,PV.bound];refine tK.2 λx i=>?_;obtain⟨y,l,rfl⟩:=biJ.1 i;exact GN e y (tK.1 d y l)
 |osl q s' p len=>exact GN e _ d
 |_=>exact d
theorem aMW(e:PV.jJ n rs=true)(v:PV)(d:v.bound n=true):(v.frz o s rs).bound n=true:=by
 cases v with
 |tup cs =>simp only[PV.bound]at d;simp only[PV.frz,PV.bound];refine tK.2 λx i=>?_;obtain⟨y,l,rfl⟩:=biJ.1 i;exact Dy e y (tK.1 d y l)
 |agg cs=>exact Dy e _ d
 |osl q s' p len=>exact GN e _ d
 |_=>exact d
theorem aIO(hi:∀q,L q=true->r q=r o->q=o)(x:aY)(e:x.on L=true):(x.frz o s rs).ren r=(x.ren r).frz (r o) s (rs.map λx=>x.map (PV.ren r)):=by
 cases x with
 |rows s' rs' =>simp only[aY.on]at e;simp only[aY.frz,aY.ren,bkT];congr 1;refine bkP λrow i=>?_;simp only[Function.comp,bkT];exact bkP λx d=>UQ hi x (mu.1 (ajE.1 (BM e) row i) x d)
 |_=>rfl
theorem aOM(w:PV.jJ n rs=true)(x:aY)(i:x.Bd n):(x.frz o s rs).Bd n:=by
 cases x with
 |rows s' rs' =>refine xU.2 λrow d=>?_;obtain⟨e,p,rfl⟩:=biJ.1 d;refine tK.2 λy A=>?_;obtain⟨l,u,rfl⟩:=biJ.1 A;exact GN w l (tK.1 (xU.1 i e p) l u)
 |_=>exact i
end
def SD(L:Nat->Bool)(o s:Nat)(rs:P2_)(x:aY):aY:=if x.on L then x.frz o s rs else .dead
def sT(p:PV × Hp)(o:Nat):PV × Hp:=match gtH p.2 o with
 | .rows s rs=>if PV.jJ 0 rs&&p.1.onC (λi=>(gtH p.2 i).yN)then(p.1.frz o s rs,(p.2.map (SD (λi=>(gtH p.2 i).yN) o s rs)).set o .dead)else p
 |_=>p
mutual
def PV.aHN:PV->List Nat->List Nat
 | .osl o _ _ _,l=>o::l
 | .ptr _ _ _ _,l=>l
 | .map _,l=>l
 | .sl _ _,l=>l
 | .bK _,l=>l
 | .fn _ _,l=>l
 | .agg cs,l=>PV.W1 cs l
 | .tup cs,l=>PV.W1 cs l
 | .int _ _,l=>l
 | .bool _,l=>l
 | .str _,l=>l
 | .aK,l=>l
 | .lit _,l=>l
 | .junk,l=>l
def PV.W1:List PV->List Nat->List Nat
 |[],l=>l
 |v::vs,l=>PV.aHN v (PV.W1 vs l)
end
def axB:P2_->List Nat->List Nat
 |[],l=>l
 |r::rs,l=>PV.W1 r (axB rs l)
def D0(h:Hp)(n:Nat):Nat->List Nat->List Nat
 |0,l=>l
 |d+1,l=>match(l.filter λi=>Nat.ble n i).foldr (λi e=>match gtH h i with | .rows _ rs=>axB rs e|_=>e) []with
  |[]=>l
  |l'=>D0 h n d l'++l
def aMU(n:Nat)(v:PV)(h:Hp):PV × Hp:=((D0 h n 6 (PV.aHN v [])).filter λi=>Nat.ble n i).foldl sT (v,h)
section
variable {r:Nat->Nat} {H:PH}
theorem aUL(g:aY->aY)(d:g .dead=.dead)(l:Hp)(k:Nat):gtH (l.map g) k=g (gtH l k):=by
 unfold gtH;rw[biL];cases l[k]? with
 |none=>exact d.symm
 |some x=>rfl
theorem aNL{x:aY}{L:Nat->Bool}{o s:Nat}{rs:P2_}{y:aY}(h:(SD L o s rs x).live=some y):x.on L=true/\x.live=some x/\y=x.frz o s rs:=by
 unfold SD at h;split at h
 ·rename_i d;refine⟨d,?_,(aY.EW h).symm⟩;cases x<;>first|rfl|cases h
 ·cases h
theorem aMV{p:PV × Hp}(o:Nat)(R:Rl r .nil p.2 n_ H)(hb:p.1.bound p.2.length=true) :
  ∃K M,(∀F H2,kN K M F H2->kN (n_.set 0 (p.1.ren r)) H F H2)/\K=n_.set 0 ((sT p o).1.ren r)/\Rl r .nil (sT p o).2 n_ M/\(sT p o).1.bound (sT p o).2.length=true/\(sT p o).2.length=p.2.length:=by
 obtain⟨v,h⟩:=p;simp only at R hb;have l:∃K M,(∀F H2,kN K M F H2->kN (n_.set 0 (v.ren r)) H F H2)/\K=n_.set 0 (v.ren r)/\Rl r .nil h n_ M/\v.bound h.length=true/\Z' h=Z' h:=⟨_,H,λ_ _ h=>h,rfl,R,hb,rfl⟩;unfold sT;simp only;split
 ·rename_i s rs V;split
  ·rename_i J;simp only[bhQ]at J;replace J:=And.intro J.1 (PV.ajB J.2);have A:h.ph o=some (.rows s rs):=by rw[uW,V];rfl
   have O:=(nI A).2;have hi:∀q,(gtH h q).yN=true->r q=r o->q=o:=λq W e=>by
    have h1:h.ph q=some (gtH h q):=by rw[uW];exact VP W
    exact R.inj _ _ _ _ h1 A e
   have N:PV.jJ h.length rs=true:=PV.AU (bhT _) _ J.1;have B:((h.map (SD (λi=>(gtH h i).yN) o s rs)).set o .dead).length=Z' h:=by simp
   have d:∀i x,Hp.ph ((h.map (SD (λi=>(gtH h i).yN) o s rs)).set o .dead) i=some x->i≠o/\h.ph i=some (gtH h i)/\(gtH h i).on (λi=>(gtH h i).yN)=true/\x=(gtH h i).frz o s rs:=λi x u=>by
    rw[Hp.SL (by simpa using O)]at u;split at u
    ·cases u
    ·rename_i E;rw[uW,aUL _ (by rfl)]at u;obtain⟨h1,Q,U⟩:=aNL u;exact⟨E,by rw[uW];exact Q,h1,U⟩
   refine⟨_,H.frz (r o) s (rs.map λx=>x.map (PV.ren r)),λF H2 X=>.step (r o) (R.hp o _ A) X,?_,⟨rfl,λi x u=>?_,λi j x y u S e=>?_,λi w Y=>by simp[Fr.pf]at Y,λx u=>?_⟩,?_,B⟩
   ·funext i;simp only[PF.frz,PF.set,upd];split
    ·rw[biP,a1O (L:=λi=>(gtH h i).yN) hi v J.2]
    ·rfl
   ·obtain⟨E,h1,Q,rfl⟩:=d i x u;show(if r i=r o then none else(H (r i)).map (aY.frz (r o) s _))=_;rw[aE (λe=>E (R.inj _ _ _ _ h1 A e)),R.hp i _ h1,biP,aIO (L:=λi=>(gtH h i).yN) hi _ Q]
   ·exact R.inj _ _ _ _ (d i x u).2.1 (d j y S).2.1 e
   ·rw[B];rcases blZ u with h1|h1
    ·obtain⟨y,S,rfl⟩:=biJ.1 h1;unfold SD;split
     ·exact aOM N y (R.hb y S)
     ·trivial
    ·subst h1;trivial
   ·rw[B];exact aMW N v hb
  ·exact l
 ·exact l
theorem Dz:∀(l:List Nat){p:PV × Hp}{H:PH},Rl r .nil p.2 n_ H->p.1.bound p.2.length=true ->
  ∃d,kN (n_.set 0 (p.1.ren r)) H (n_.set 0 ((l.foldl sT p).1.ren r)) d/\Rl r .nil (l.foldl sT p).2 n_ d/\(l.foldl sT p).1.bound (l.foldl sT p).2.length=true/\(l.foldl sT p).2.length=p.2.length
 |[],p,H,R,hb=>⟨H,.refl _ _,R,hb,rfl⟩
 |o::l,p,H,R,hb=>by obtain⟨E,d,B,rfl,u,e,i⟩:=aMV o R hb;obtain⟨H2,w,x,y,A⟩:=Dz l u e;exact⟨H2,B _ _ w,x,y,A.trans i⟩
end
end Go.PM
namespace Go.PM
open Go
def Af(C:Ctx)(k:Nat)(pf:bD):Prop:=∀(args:List PV)(H:PH)(R:PV->PH->Prop),Z' args<=pf.ntmps->pf.body.wp C (aZ pf.res R) (g_ args) H->aH C k args H R
theorem Fr.alZ{l:List PV}{f:Fr}(h:Fr.args l 0 (Fr.empty 9)=some f):f.pf=g_ l:=by
 rw[Fr.asZ h];funext i;simp only[Nat.not_lt_zero,if_false,Nat.sub_zero,Fr.aaB,g_];cases l[i]?<;>rfl
theorem aSH(r:Nat->Nat)(l:List PV):g_ (l.map (PV.ren r))=(g_ l).ren r:=by
 funext i;simp only[g_,PF.ren,biL]
abbrev Orc:=Nat->List PV->Option PV
def Ws(C:Ctx)(d:Orc):Prop:=∀name vs v,d name vs=some v->aH C name vs h_ (λe _=>e=v)
noncomputable def PX(tab:Nat->Option bD)(d:Orc)(fz:Nat->Bool)(i:gS->RM)(m:Nat):Nat->gS
 |0=>λ_ _ _=>none
 |n+1=>λname args h=>match d name args with
  |some v=>if v.bound 0&&h.isEmpty then some (v,h)else none
  |none=>match tab name with
  |some pf=>if args.length<=pf.ntmps then match Fr.args args 0 (Fr.empty 9)with
    |none=>none
    |some f=>match sX (hand (nj (PX tab d fz i m n))) (i (nj (PX tab d fz i m n))) m pf.body f h with
    |some (.exit _,_,_)=>none
    |some (_,l,e)=>match eE.evs l.pf e.ph pf.res with
     |some vs=>if(bN vs).EK e.length then some (if fz name then aMU h.length (bN vs) e else(bN vs,e))else none
     |none=>none
    |none=>none
   else none
  |none=>none
section
variable {C:Ctx} {r:Nat->Nat} {f:Fr} {h:Hp} {F:PF} {H:PH}
theorem aWT{h:PH}(u:bx r h H){F:PF}{q:eE}{v:PV}(e:q.ev F h=some v):q.ev (F.ren r) H=some (v.ren r):=by
 cases q with
 |tmp t=>simp only[eE.ev]at e ⊢;simp only[PF.ren,e,biP]
 |cell t n=>
  cases n with
  |none=>
   simp only[eE.ev]at e ⊢;split at e
   ·rename_i p i;simp only[PF.ren,i,biP];split at e
    ·rename_i w d;have l:=yO u d;simp only[biU,bjP]at l;simp only[l];cases e;rfl
    ·cases e
   ·cases e
  |some k=>
   simp only[eE.ev]at e ⊢;split at e
   ·rename_i p i;simp only[PF.ren,i,biP];cases d:loadCells h p k with
    |none=>rw[d]at e;cases e
    |some w =>rw[d]at e;rw[yO u d];cases e;simp only[biP,PV.ren,PV.fC]
   ·cases e
theorem Ss{h:PH}(d:bx r h H){F:PF}:∀{l:List eE}{vs:List PV},eE.evs F h l=some vs->eE.evs (F.ren r) H l=some (vs.map (PV.ren r))
 |[],_,e=>by cases e;rfl
 |q::l,vs,e=>by
  simp only[eE.evs]at e ⊢;split at e
  ·rename_i v u i p;cases e;rw[aWT d i,Ss d p];rfl
  ·cases e
theorem arU(vs:List PV):bN (vs.map (PV.ren r))=(bN vs).ren r:=by
 unfold bN
 match vs with
 |[]=>rfl
 |[v]=>rfl
 |a::b::l=>simp only[biU,PV.ren,PV.fC]
theorem aAB{tab:Nat->Option bD}{E:Orc}{fz:Nat->Bool}{N:gS->RM}(hO:Ws C E)(hT:∀k pf,tab k=some pf->Af C k pf)(hD:∀call,rH C call->Xn C (N call))(m:Nat):∀n,rH C (PX tab E fz N m n)
 |0=>λname vs h v Q e=>by cases e
 |n+1=>λname vs h v Q e r H R X hb=>by
  have ih:=aXU (aAB (fz:=fz) hO hT hD m n);simp only[PX]at e;split at e
  ·rename_i w W;split at e
   ·rename_i S;simp only[bhQ,List.isEmpty_iff]at S;obtain⟨S,rfl⟩:=S;cases e;have hH:H=h_:=PH.ext λo=>by
     cases O:H o with
     |none=>rfl
     |some x =>obtain⟨i,y,d,-⟩:=X o x O;simp[Hp.nU]at d
    rw[hH,PV.qF hb];exact(hO name vs v W).W6 λrv H' hr=>by subst hr;exact⟨r,λ_ _=>rfl,⟨rfl,λi x B=>by simp[Hp.nU]at B,λi j x y B=>by simp[Hp.nU]at B,λi w Y=>by simp[Fr.pf]at Y,λx B=>by cases B⟩,(PV.BU S r).symm,S,bhV _⟩
   ·cases e
  split at e
  ·rename_i pf ht;split at e
   ·rename_i hl;split at e
    ·cases e
    rename_i f0 U;have V:∀(x:oH)(J:Fr)(d:Hp),(∀id,x≠.exit id)->sX (hand (nj (PX tab E fz N m n))) (N (nj (PX tab E fz N m n))) m pf.body f0 h=some (x,J,d) ->
      (match eE.evs J.pf d.ph pf.res with|some vs=>if(bN vs).EK d.length then some (if fz name then aMU h.length (bN vs) d else(bN vs,d))else none|none=>none)=some (v,Q)->aH C name (vs.map (PV.ren r)) H (Comes r h.length v Q):=by
     intro x J d B O e2;refine hT name pf ht _ _ _ (by rw[bhO];exact hl) ?_;have R0:Rl r f0 h (g_ (vs.map (PV.ren r))) H:=⟨by rw[Fr.alZ U,aSH],R.hp,R.inj,λi w Y=>by
      rw[Fr.alZ U]at Y;simp only[g_]at Y;have:∀(l:List PV)(i:Nat),PV.bounds h.length l=true->l[i]?=some w->w.bound h.length=true:=by
       intro l
       induction l with
       |nil=>intro i _ hi;simp at hi
       |cons a l α=>
        intro i hb hi;simp only[PV.bounds,bhQ]at hb;cases i with
        |zero=>simp at hi;subst hi;exact hb.1
        |succ i=>exact α i hb.2 (by simpa using hi)
      exact this vs i hb Y,R.hb⟩
     refine aJF (a2H ih) (hD _ ih) m pf.body O R0 λr' F' H' ha hn Z=>?_;cases h2:eE.evs J.pf d.ph pf.res with
     |none=>rw[h2]at e2;cases e2
     |some K=>
      rw[h2]at e2;simp only at e2;split at e2
      ·rename_i A;replace A:=PV.AS A;simp only[bjV.injEq]at e2;have h3:=Ss Z.hp h2;rw[<-Z.fr]at h3;have hR:∃vs,eE.evs F' H' pf.res=some vs/\∃F1 M H2,kN (n_.set 0 (bN vs)) H' F1 M/\PH.le H2 M/\∃u,F1 0=some u/\Comes r h.length v Q u H2:=by
        refine⟨_,h3,?_⟩;rw[arU K];split at e2
        ·obtain⟨M,g1,g2,g3,g4⟩:=Dz ((D0 d h.length 6 (PV.aHN (bN K) [])).filter λi=>Nat.ble h.length i) (p:=(bN K,d)) Z.heap A;have e3:((D0 d h.length 6 (PV.aHN (bN K) [])).filter λi=>Nat.ble h.length i).foldl sT (bN K,d)=(v,Q):=e2;rw[e3]at g1 g2 g3 g4;exact⟨_,M,M,g1,λ_ _ W=>W,v.ren r',rfl,r',ha,g2,rfl,g3,by rw[g4];exact hn⟩
        ·cases e2;exact⟨_,H',H',.refl _ _,λ_ _ W=>W,(bN K).ren r',rfl,r',ha,Z.heap,rfl,A,hn⟩
       cases x with
       |normal=>exact hR
       |ret=>exact hR
       |exit id=>exact absurd rfl (B id)
      ·cases e2
    split at e
    ·cases e
    ·rename_i x J d B O;exact V x J d (λid he=>B id he) O e
    ·cases e
   ·cases e
  ·cases e
end
def vN(W:List Nat):Nat->Hp->Hp
 |_,[]=>[]
 |i,x::xs=>(if W.contains i then .dead else x)::vN W (i+1) xs
theorem qh(W:List Nat):∀(h:Hp)(i k:Nat)(x:aY),(vN W i h)[k]?=some x->x=.dead\/h[k]?=some x
 |[],_,_,_,e=>by simp[vN]at e
 |y::h,i,0,x,e=>by
  simp only[vN,List.getElem?_cons_zero,bjV.injEq]at e;split at e
  ·exact .inl e.symm
  ·exact .inr (by rw[<-e];rfl)
 |y::h,i,k+1,x,e=>by simp only[vN,List.getElem?_cons_succ]at e ⊢;exact qh W h (i+1) k x e
theorem axG{W:List Nat}{h:Hp}{i:Nat}{x:aY}(e:Hp.ph (vN W 0 h) i=some x):h.ph i=some x:=by
 have d:=nI e;rcases qh W h 0 i x d.1 with h2|h2
 ·subst h2;rw[Hp.nU,d.1]at e;cases e
 ·rw[Hp.nU]at e ⊢;rw[d.1]at e;rw[h2];exact e
def y8(op:POp)(f:Fr):Option Nat:=match op with
 | .store _ p _=>match p.ev f.pf with
  |some (.ptr o _ _ _)=>some o
  |_=>none
 | .append _ _ x _=>match x.ev f.pf with
  |some (.osl o _ _ _)=>some o
  |_=>none
 |_=>none
def aIP(hs:Hp)(op:POp)(f:Fr):Bool:=match y8 op f with
 |none=>true
 |some o=>match hs[o]? with
  |none=>true
  |some .dead=>true
  |_=>false
theorem aIQ{hs:Hp}{op:POp}{f:Fr}{o:Nat}(h:aIP hs op f=true)(d:y8 op f=some o):hs.ph o=none:=by
 unfold aIP at h;rw[d]at h;simp only at h;rw[Hp.nU];split at h
 ·rename_i e;rw[e];rfl
 ·rename_i e;rw[e];rfl
 ·cases h
noncomputable def Al(call:gS)(name:Nat)(vs:List PV):Option PV:=
 if PV.bounds 0 vs then match call name vs []with
  |some (v,_)=>if v.bound 0 then some v else none
  |none=>none
 else none
def Gy:aY->aY->Bool
 | .rows s rs,y=>match y with | .rows s' rs'=>bjT s s'&&PV.lj rs rs'|_=>false
 |_,_=>true
def baJ(hs:Hp)(M:List Nat)(h':Hp):Bool:=M.all λi=>Gy (gtH hs i) (gtH h' i)
noncomputable def W0(call:gS)(e hs:Hp)(name:Nat)(vs:List PV)(h:Hp):Option (PV × Hp):=
 let M:=reach e 1000 (wU vs []) []
 if(M.all λi=>(gtH e i).yN)&&(okM M h&&im (inL M) vs)then match call name (my (posOf M) vs) (sM h (posOf M) M)with
  |some (v,d)=>if(Nat.ble M.length d.length&&v.EK d.length)&&((d.all λx=>x.yN.not||x.bd d.length)&&baJ hs M (uC M h d))then some (v.Mh (bk M h.length),uC M h d)else none
  |none=>none
 else none
noncomputable def G8(call:gS)(d hs:Hp)(op:POp)(st:Bool)(f:Fr)(h:Hp):Option (PV × Hp):=match op with
 | .call name args=>if args.all aP.clo then match aP.evs f.pf args with
  |some vs=>W0 call d hs name vs h
  |none=>none
  else none
 | .bhF x args=>if x.clo&&args.all aP.clo then match x.ev f.pf,aP.evs f.pf args with
  |some (.fn name cs),some vs=>W0 call d hs name (vs++cs) h
  |_,_=>none
  else none
 |op=>if op.clo&&aIP hs op f then
   if op.jW then AD op f h else if op.eU then mL op f h else
    match aU op f.pf (if st then hs.ph else h.ph)with
    |some v=>if v.EK h.length then some (v,h)else none
    |none=>none
  else none
noncomputable def G9(call:gS)(e hs:Hp)(i:aW)(st:Bool)(f:Fr)(h:Hp):Option (PV × Hp):=match i.guard with
 |none=>G8 call e hs i.op st f h
 |some (t,d)=>match f.pf t with
  |some (.bool b)=>if b=d then G8 call e hs i.op st f h else some (.tup [],h)
  |some (.tup [])=>some (.tup [],h)
  |_=>none
noncomputable def i7(call:gS)(d hs:Hp):List (aW × Bool)->Fr->Hp->Option (Fr × Hp)
 |[],f,h=>some (f,h)
 |i::rest,f,h=>if f.fits i.1.dst then match G9 call d hs i.1 i.2 f h with
   |some (v,h')=>i7 call d hs rest (f.put i.1.dst v) h'
   |none=>none
  else none
noncomputable def a7Y(d:Hp)(i:aW)(f:Fr)(h h':Hp):List Nat:=match i.op with
 | .call _ args=>match aP.evs f.pf args with
  |some vs=>(reach d 1000 (wU vs []) []).filter λi=>!Gy (gtH h i) (gtH h' i)
  |none=>[]
 | .bhF x args=>match x.ev f.pf,aP.evs f.pf args with
  |some (.fn _ cs),some vs=>(reach d 1000 (wU (vs++cs) []) []).filter λi=>!Gy (gtH h i) (gtH h' i)
  |_,_=>[]
 |op=>(y8 op f).toList
noncomputable def targets(call:gS)(d:Hp):List (aW × Bool)->Fr->Hp->List Nat
 |[],_,_=>[]
 |i::rest,f,h=>match G9 call d [] i.1 false f h with
  |some (v,h')=>a7Y d i.1 f h h'++targets call d rest (f.put i.1.dst v) h'
  |none=>[]
noncomputable def ln(call:gS):RM:=λops f h=>
 if ops.any λi=>i.2 then
  if ops.any λi=>i.1.op.eU then i7 call h (vN (targets call h ops f h) 0 h) ops f h
  else match i7 call h h ops f h with
   |some x=>some x
   |none=>i7 call h (vN (targets call h ops f h) 0 h) ops f h
 else i7 call h [] ops f h
structure DI(r:Nat->Nat)(hs h:Hp)(Hs:PH):Prop where
 a:∀i x,hs.ph i=some x->h.ph i=some x
 b:∀o x,Hs o=some x->∃i y,hs.ph i=some y/\o=r i/\x=y.ren r
 c:bx r hs.ph Hs
section
variable {C:Ctx} {call:gS} {r:Nat->Nat} {f f':Fr} {hs h h':Hp} {F:PF} {H Hs:PH} {v:PV}
theorem DI.le(D:DI r hs h Hs)(R:Rl r f h F H):Hs.le H:=λo x e=>by
 obtain⟨i,y,d,rfl,rfl⟩:=D.b o x e;exact R.hp i y (D.a i y d)
theorem DI.next(D:DI r hs h Hs)(R:Rl r f h F H){r':Nat->Nat}(p:jA h.length r r')(A:∀i x,hs.ph i=some x->h'.ph i=some x):DI r' hs h' Hs:=by
 have d:∀i y,hs.ph i=some y->r i=r' i/\y.ren r=y.ren r':=λi y B=>by have e:=nI (D.a i y B);exact⟨p i e.2,aY.qE p (R.hb y (bjQ e.1))⟩
 refine⟨A,λo x l=>?_,λi x l=>?_⟩
 ·obtain⟨i,y,e,u,w⟩:=D.b o x l;exact⟨i,y,e,u.trans (d i y e).1,w.trans (d i y e).2⟩
 ·rw[<-(d i x l).1,<-(d i x l).2];exact D.c i x l
theorem Wg{op:POp}(e:AD op f h=some (v,h')){i:Nat}{x:aY}(d:h.ph i=some x):h'.ph i=some x:=by
 have hlt:=(nI d).2;unfold AD at e;split at e
 ·split at e<;>cases e;rw[Hp.DF,aE Om];exact d
 ·cases e
theorem Ha{op:POp}(e:mL op f h=some (v,h')){i:Nat}{x:aY}(l:h.ph i=some x)(d:y8 op f≠some i):h'.ph i=some x:=by
 have hlt:=(nI l).2;cases op<;>try (simp[mL]at e;done)
 case store n p y=>
  simp only[mL]at e;simp only[y8]at d;split at e
  ·rename_i o s j c w u B;rw[u]at d;split at e
   ·rename_i s' rs A;split at e
    ·split at e<;>cases e;rw[Hp.SL ((biZ.1 A).1),aE (λe=>d (by rw[e]))];exact l
    ·cases e
   ·cases e
  ·cases e
 case append size bytes y z=>
  simp only[mL]at e;simp only[y8]at d;split at e
  ·split at e
   ·cases e;exact l
   ·split at e<;>cases e;rw[Hp.DF,aE Om];exact l
   ·cases e
  ·rename_i o s len b u B;rw[u]at d;split at e
   ·rename_i src s' rs A E;split at e<;>cases e;rw[Hp.DF,aE (by rw[bjO];omega),Hp.SL ((biZ.1 E).1),aE (λe=>d (by rw[e]))];exact l
   ·cases e
  ·cases e
theorem arB(N:rH C call){name:Nat}{vs:List PV}(e:Al call name vs=some v) :
  vs.map (PV.ren r)=vs/\v.ren r=v/\v.bound 0=true/\aH C name vs h_ (λS _=>S=v):=by
 unfold Al at e;split at e
 ·rename_i l;split at e
  ·rename_i w M e2;split at e
   ·rename_i p;cases e;refine⟨PV.qF l r,PV.BU p r,p,?_⟩;have A:=N name vs [] v M e2 id h_ ⟨rfl,λi x d=>by simp[Hp.nU]at d,λi j x y d=>by simp[Hp.nU]at d,λi w R=>by simp[Fr.pf]at R,λx d=>by cases d⟩ (λo x d=>by cases d) l;rw[PV.qF l]at A;refine⟨A.1,λE w U O hW B=>(A.2 E w U O hW B).mono λV W Q=>?_⟩;obtain⟨u,pv,J,H',g1,g2,g3,g4,r',-,-,K,-,-⟩:=Q;exact⟨u,pv,J,H',g1,g2,g3,g4,by rw[K,PV.BU p]⟩
   ·cases e
  ·cases e
 ·cases e
end
end Go.PM
