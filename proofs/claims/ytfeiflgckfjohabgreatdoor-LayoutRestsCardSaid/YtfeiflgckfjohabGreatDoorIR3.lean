/-Lemmas for the law. No condition.-/
import Derived.Test.YtfeiflgckfjohabGreatDoorIR2
import Derived.Lib.ItoaNum
import Derived.RangeFuncRecord
set_option linter.unusedSimpArgs false
set_option linter.unusedVariables false
open Nat renaming reduceEqDiff->γ,reduceAdd->δ,reduceSub->ε,reduceMul->ζ,reduceLT->η,reduceLeDiff->θ,reduceBEq->τ
open Int renaming reduceLT->ι,reduceLE->κ,reduceEq->μ,reduceToNat->ν,reduceAdd->ξ,reduceNeg->ο,reduceBEq->ρ,reduceBNe->σ
open List renaming reduceReplicate->υ
open List renaming length_map->apP,range->apQ,length_append->apV,getElem_mem->apW,replicate->apX,getD_eq_getElem?_getD->apY,getElem?_eq_getElem->apZ,length_take->aqF,mem_cons->aqG,length_singleton->aqH,mem_map->aqJ,all_eq_true->aqM,mem_range->aqN,take_length->aqO,map_append->aqP,map_cons->aqQ,take_of_length_le->aqR,not_mem_nil->aqS,append_assoc->aqT,getElem?_eq_some_iff->aqU,length_cons->aqV,append_nil->aqY,mem_append->aqZ,mem_singleton->arA,getElem?_eq_none->arC,length_set->arD,getElem_of_mem->arF,getElem_map->arI,map_nil->arL,length_drop->arM,map_congr_left->arQ,getElem?_append_right->arS,mem_of_getElem?->asC,range'->asD,getElem?_append_left->asE,Sublist->asF,length_nil->asG,drop_eq_getElem_cons->asI,Perm->asM,drop_zero->asN,map_map->asR,nodup_append->asS,set_cons_zero->asT,cons_append->asV,contains_iff_mem->asW,set_append_right->asY,take_append_drop->asZ,countP_cons->atE,flatMap_cons->atH,mem_cons_of_mem->atK,nil_append->atL,all_append->atQ,all_cons->atS,mem_of_mem_take->auA
open Nat renaming zero_le->apR,gcd->apS,le_refl->apU,zero_add->aqA,lt_or_ge->aqW,le_trans->aqX,add_zero->arG,mul_add->arH,add_mul->arJ,mul_le_mul_right->arK,mul_assoc->arN,mul_comm->arW,eq_zero_or_pos->arZ,sub_self->asA,div_le_self->asH,min_eq_left->asK,mod_eq_of_lt->asU,add_assoc->atA,pos_of_ne_zero->atB,pow_succ->atF,mul_le_mul_left->atM,mul_le_mul->atU,div_eq_of_lt->auC,div_lt_iff_lt_mul->auD
open Bool renaming and_eq_true->apT,false_and->aqD,not_false->aqI,true_and->aqL,false_eq_true->arO,and_true->arY
open Option renaming map_eq_some_iff->aqB,map_some->aqK,getD_some->arT,some->asB
open Int renaming toNat_natCast->arP
open Array renaming replicate->arX,getElem?_eq_some_iff->atC,getElem?_eq_getElem->atP,getD_eq_getD_getElem?->auE
open List renaming length->Z'
set_option maxRecDepth 100000
set_option maxHeartbeats 800000
open Go.IntKind renaming i64->i_,u64->u_
open Go.PM.PF renaming nil->n_,args->g_
open Go.PM.PH renaming nil->h_
noncomputable section
namespace Go.PM
open Go Go.Na
theorem Jq{a b:Nat}(h:nl a<nl b):iV a b=-1:=by
 have:a<b:=by
  rcases aqW a b with h'|h'
  exact h';have:=pQ h';omega
 simp[iV,this]
theorem Jp{a b:Nat}(h:nl b<nl a):iV a b=1:=by
 have:b<a:=by
  rcases aqW b a with h'|h'
  exact h';have:=pQ h';omega
 have e:¬a<b:=Om;simp[iV,this,e]
def Mr(X Y:N_)(i:Int):PF:=(((n_.set 0 (aY X)).set 1 (aY Y)).set 5 (.int .i64 i))
variable{C:Ctx}
theorem acE(L:vD C)(xs ys:N_)(A:Lim xs)(B:Lim ys)(V:Z' xs<=35184372087808)(W:Z' ys<=35184372087808) :
  wa.wp C (aW Mq.res (aL (.j (iV (val xs) (val ys))))) (g_ [aY xs,aY ys]) .nil:=by
 simp only[go_sem,wa,Mq];refine aD (L.trim xs A V) Ev ?_;simp only[go_sem];refine aD (L.trim ys B W) Ev ?_;have Z:=CK A;have F:=CK B;simp only[go_sem,apP,cE];by_cases u:nl (val xs)≠nl (val ys);simp only[go_sem,cX (show((nl (val xs):Nat):Int)≠(nl (val ys):Nat) by omega)];by_cases J:nl (val xs)<nl (val ys);simp only[go_sem,apP,cE,show((nl (val xs):Nat):Int)<(nl (val ys):Nat) by omega];refine cR (.inr rfl) Ev ?_;rw[Jq J];rfl;simp only[go_sem,apP,cE,show ¬((nl (val xs):Nat):Int)<(nl (val ys):Nat) by omega];refine cR (.inr rfl) Ev ?_;rw[Jp Om];rfl;replace u:=Decidable.of_not_not u;simp only[go_sem,bW (show((nl (val xs):Nat):Int)=(nl (val ys):Nat) by omega),apP,cE];have ex:=bZ (val xs);have w:=bZ (val ys);have D:=cA (val xs);have E:=cA (val ys);generalize O:aS (val xs)=X at *
 generalize R:aS (val ys)=Y at *
 have S:Z' X=nl (val xs):=by rw[<-O];rfl
 have U:Z' Y=nl (val xs):=by rw[u,<-R];rfl
 refine wp_loop (α:=Nat) (λk=>Mr X Y ((k:Int)-1)) (λ_=>.nil) (λk=>k<=nl (val xs)/\X.drop k=Y.drop k) (λk=>k) (nl (val xs)) ⟨apU _,?_⟩ ?_ a_ ?_;rw[List.drop_of_length_le Om,List.drop_of_length_le Om];unfold Mr
 (repeat' (first|exact d_|refine e_ ?_ ?_))<;>first|(simp only[go_sem,wrap_i64 (show -9223372036854775808<=((nl (val xs):Nat):Int)-1 by omega) (show((nl (val xs):Nat):Int)-1<=9223372036854775807 by omega)]<;>rfl)|rfl
 rintro k ⟨hk,e⟩;simp only[go_sem,Mr];by_cases h0:0<k;obtain⟨m,rfl⟩:∃m,k=m+1:=⟨k-1,by omega⟩;have y:((m+1:Nat):Int)-1=(m:Int):=Om;have x:(m:Int)>=0:=Om;have i:m<Z' X:=Om;have l:m<Z' Y:=Om;simp only[go_sem,y,x];refine bE .nil cO a_ ?_;simp only[go_sem,gM X i,gM Y l];by_cases K:X[m]<Y[m];simp only[go_sem,show((X[m]:Nat):Int)<(Y[m]:Nat) by omega];refine cR (.inr rfl) Ev ?_;have:=N8 D i l e K;rw[ex,w]at this;simp[bO,iV,this];simp only[go_sem,show ¬((X[m]:Nat):Int)<(Y[m]:Nat) by omega];refine bE .nil cO a_ ?_;simp only[go_sem,gM X i,gM Y l];by_cases M:X[m]>Y[m];simp only[go_sem,show((X[m]:Nat):Int)>(Y[m]:Nat) by omega];refine cR (.inr rfl) Ev ?_;have:=N8 E l i e.symm M;rw[ex,w]at this;have N:¬val xs<val ys:=Om;simp[bO,iV,this,N];simp only[go_sem,show ¬((X[m]:Nat):Int)>(Y[m]:Nat) by omega];refine aF m ⟨by omega,Oq i l e Om⟩ Om ?_ a_
 (repeat' (first|exact d_|refine e_ ?_ ?_))<;>first|(simp only[go_sem,wrap_i64 (Om:-9223372036854775808<=(m:Int)-1) (Om:(m:Int)-1<=9223372036854775807)]<;>rfl)|rfl
 have:k=0:=Om;subst this;have y:¬((0:Nat):Int)-1>=0:=by decide
 simp only[go_sem,y];refine cR (.inr rfl) Ev ?_;rw[asN,asN]at e;have:val xs=val ys:=by rw[<-ex,<-w,e]
 simp[bO,iV,this]
theorem JM(n:Nat):(((n:Nat):Int)==0)=decide (n=0):=by
 by_cases h:n=0;subst h;rfl;rw[bJ Om,bG h]
structure zj(C:Ctx):Prop extends vD C where
 make:∀v:Nat,v<18446744073709551616->aJ C 35 [.int .u64 v] .nil (aL (aY (aS v)))
 large:∀xs,Lim xs->Z' xs<=35184372087808->aJ C 41 [aY xs] .nil (aL (.bool (decide (nl (val xs)>512))))
 cmp:∀xs ys,Lim xs->Lim ys->Z' xs<=35184372087808->Z' ys<=35184372087808->aJ C 32 [aY xs,aY ys] .nil (aL (.int .i64 (iV (val xs) (val ys))))
def Mv(a b:Nat):PF:=((n_.set 6 (aY (aS a))).set 7 (aY (aS b)))
structure iu(C:Ctx):Prop extends zj C where
 divide:∀A B:Nat,B≠0->nl A<=512->nl B<=512->aJ C 39 [aY (aS A),aY (aS B)] .nil (aL (bs A B))
def J8(a b:Nat):PV:=if nC a b then .tup [aY [],.int .i64 2]else .tup [aY (aS (apS a b)),.int .i64 0]
theorem acG(L:iu C)(a b:N_)(w:Lim a)(hb:Lim b)(B:Z' a<=35184372087808)(D:Z' b<=35184372087808) :
  wc.wp C (aW Mu.res (cY (J8 (val a) (val b)))) (g_ [aY a,aY b]) .nil:=by
 unfold J8;simp only[go_sem,wc,Mu];refine aD (L.large a w B) rfl ?_;by_cases e:nl (val a)>512;simp only[go_sem,e];rw[aE (by simp[nC,e])];exact mS rfl;simp only[go_sem,e];refine aD (L.large b hb D) rfl ?_;by_cases i:nl (val b)>512;simp only[go_sem,i];rw[aE (by simp[nC,i])];exact mS rfl;rw[aC (by simp[nC,e,i])];simp only[go_sem,i];refine aD (L.trim a w B) rfl ?_;simp only[go_sem];refine aD (L.trim b hb D) rfl ?_;simp only[go_sem];refine wp_loop (α:=Nat × Nat) (λt=>Mv t.1 t.2) (λ_=>.nil) (λt=>apS t.1 t.2=apS (val a) (val b)/\nl t.1<=512/\nl t.2<=512) (λt=>t.2) (val a,val b) ⟨rfl,by simp only;omega,by simp only;omega⟩ ?_ a_ ?_;unfold Mv;exact Lq;rintro⟨x,y⟩ ⟨u,E,A⟩;simp only at u E A;simp only[go_sem,Mv,cE];by_cases l:y=0;subst l;have:¬((nl 0:Nat):Int)>0:=by rw[ry];decide
 simp only[go_sem,this];refine bK (vs:=[aY (aS x),.j 0]) (.inr rfl) .nil rfl a_ ⟨?_,rfl⟩;rw[<-u,Nat.gcd_zero_right];exact .refl _;have F:nl y≠0:=λh=>l (qE.1 h);have:((nl y:Nat):Int)>0:=Om;simp only[go_sem,this];refine aD (L.divide x y l Om Om) rfl ?_;simp only[go_sem,bs];have hlt:x%y<y:=Nat.mod_lt _ (atB l);refine aF (y,x%y) ⟨?_,A,?_⟩ hlt ?_ a_;simp only;rw[<-u,Nat.gcd_comm y,<-Nat.gcd_rec y x,Nat.gcd_comm];have:=pQ (Nat.le_of_lt hlt);simp only;omega;exact Lq
theorem acF(L:iu C)(a b:N_)(w:Lim a)(hb:Lim b)(x:Z' a<=35184372087808)(u:Z' b<=35184372087808) :
  wb.wp C (aW udiv.res (cY (yd (val a) (val b)))) (g_ [aY a,aY b]) .nil:=by
 unfold yd;simp only[go_sem,wb,udiv];refine aD (L.large a w x) rfl ?_;by_cases i:nl (val a)>512;simp only[go_sem,i];rw[aE (by simp[nC,i])];exact UA rfl;simp only[go_sem,i];refine aD (L.large b hb u) rfl ?_;by_cases l:nl (val b)>512;simp only[go_sem,l];rw[aE (by simp[nC,l])];exact UA rfl;rw[aC (by simp[nC,i,l])];simp only[go_sem,l];refine aD (L.trim b hb u) rfl ?_;simp only[go_sem,apP,cE,JM,qE];by_cases e:val b=0;rw[aE e];simp only[go_sem,aZ e];exact UA rfl;rw[aC e];simp only[go_sem,bG e];refine aD (L.trim a w x) rfl ?_;simp only[go_sem];refine aD (L.trim b hb u) rfl ?_;simp only[go_sem];refine aD (L.divide (val a) (val b) e Om Om) rfl ?_;simp only[go_sem,bs];exact bK (.inr rfl) .nil rfl a_ ⟨.refl _,rfl⟩
def qQ(neg:Bool)(a b:Nat):FV:=(neg&&decide (a/apS a b≠0),a/apS a b,b/apS a b)
structure zk(C:Ctx):Prop extends iu C where
 gcd:∀a b,Lim a->Lim b->Z' a<=35184372087808->Z' b<=35184372087808->aJ C 34 [aY a,aY b] .nil (aL (J8 (val a) (val b)))
 div:∀a b,Lim a->Lim b->Z' a<=35184372087808->Z' b<=35184372087808->aJ C 33 [aY a,aY b] .nil (aL (yd (val a) (val b)))
theorem zL{n:Nat}(h:nl n<=512):(aS n).length<=35184372087808:=by rw[cE];omega
theorem CF:aS 1=[1]:=tI aT aT
theorem kj{n:Nat}(h:n≠0):aS n=n%4294967296::aS (n/4294967296):=yE h
theorem GO{n:Nat}(h:n≠0):(nl n>1\/n%4294967296>1)↔n≠1:=by
 constructor;rintro h1 rfl;rcases h1 with h1|h1
 rw[nl,CF]at h1;simp at h1;omega;intro h1;by_cases c:nl n>1;exact .inl c;have:n<4294967296^1:=(oG n 1).1 Om;rw[Nat.pow_one]at this;rw[asU this];exact .inr Om
theorem M6(L:zk C)(neg:Bool)(a b:N_)(Y:Lim a)(hb:Lim b)(la:Z' a<=35184372087808)(lb:Z' b<=35184372087808)(D:nl (val a)<=512)(A:nl (val b)<=512)(E:val b≠0) :
  WA.wp C (aW pS.res (cY (.agg (qQ neg (val a) (val b)).rf.cells))) (g_ [.bool neg,aY a,aY b]) .nil:=by
 have i:apS (val a) (val b)≠0:=λh=>E (Nat.eq_zero_of_gcd_eq_zero_right h);have M:apS (val a) (val b)<=val b:=Nat.gcd_le_right _ (atB E);have R:nl (apS (val a) (val b))<=512:=aqX (pQ M) A;have N:nC (val a) (val b)=false:=vE D A;simp only[go_sem,WA,pS];refine aQ λo ho=>?_;simp only[go_sem];refine aD (L.trim a Y la) rfl ?_;simp only[go_sem];refine aD (L.trim b hb lb) rfl ?_;simp only[go_sem,apP,cE,JM,qE];by_cases B:val a=0;simp only[go_sem,aZ B];have e:(qQ neg (val a) (val b)).rf=⟨false,[],[1]⟩:=by rw[B];unfold qQ FV.rf;simp[jT,Nat.div_self (atB E),CF]
 rw[e];refine bK (vs:=[.agg [.bool false,.aG,aY [1]]]) (.inr rfl) .nil ?_ a_ ⟨show Co (.agg _) (.agg _)from CoL.agg (CoL.cons (.refl _) (CoL.cons (.nil 1) (CoL.cons (.refl _) .nil))),rfl⟩;simp only[go_sem];rfl;have l:=L.gcd (aS (val a)) (aS (val b)) (cA _) (cA _) (zL D) (zL A);rw[bZ,bZ,J8,N]at l;simp only[go_sem,bG B];refine aD l rfl ?_;have fin:∀x y:Nat,x=val a/apS (val a) (val b)->y=val b/apS (val a) (val b)->∀(F:PF)(H:PH),F 0=some (.bool neg)->F 1=some (aY (aS x))->F 2=some (aY (aS y))->F 6=some (.ptr o 3 0 0)->H o=some (.rows 3 [[.bool false,.aG,.aG]]) ->
   aI.wp C (.seq (.region EO) .ret) (aW [.cell 6 (some 3)] (cY (.agg (qQ neg (val a) (val b)).rf.cells))) F H:=by
  intro x y O Z F H f0 f1 f2 f6 J;subst O;subst Z;simp only[go_sem,EO,f0,f1,f2,f6,J];have hq:val a/apS (val a) (val b)≠0:=by have:=Nat.div_pos (Nat.gcd_le_left (val b) (atB B)) (atB i);omega
  have e:(qQ neg (val a) (val b)).rf=⟨neg,aS (val a/apS (val a) (val b)),aS (val b/apS (val a) (val b))⟩:=by unfold qQ FV.rf;simp only[hq,ne_eq,not_false_eq_true,decide_true,arY]
  rw[e];refine bK (vs:=[.agg (pD neg (aS (val a/apS (val a) (val b))) (aS (val b/apS (val a) (val b))))]) (.inr rfl) .nil ?_ a_ ⟨.refl _,rfl⟩;simp only[go_sem,f6]
 simp only[aI.wp,go_sem]at fin;have K:=λx (O:nl x<=512)=>L.div (aS x) (aS (apS (val a) (val b))) (cA _) (cA _) (zL O) (zL R);simp only[bZ,yd]at K;have tail:apS (val a) (val b)≠1->∀(F:PF)(H:PH),F 0=some (.bool neg)->F 1=some (aY (aS (val a)))->F 2=some (aY (aS (val b)))->F 6=some (.ptr o 3 0 0)->F 7=some (aY (aS (apS (val a) (val b))))->H o=some (.rows 3 [[.bool false,.aG,.aG]]) ->
   aI.wp C (.seq (.seq (.region QV) (.region QW)) (.seq (.region EO) .ret)) (aW [.cell 6 (some 3)] (cY (.agg (qQ neg (val a) (val b)).rf.cells))) F H:=by
  intro _ F H f0 f1 f2 f6 f7 J;have V:=K (val a) D;have W:=K (val b) A;rw[vE D R,aC i]at V;rw[vE A R,aC i]at W;simp only[go_sem,QV,f1,f7];refine aD V rfl ?_;simp only[go_sem,arO,QW,f2,f7];refine aD W rfl ?_;simp only[go_sem,arO];exact fin _ _ rfl rfl _ _ (by simp only[go_sem,f0]) rfl rfl (by simp only[go_sem,f6]) J
 simp only[aI.wp,go_sem]at tail;simp only[go_sem,arO,apP,cE];by_cases S:nl (apS (val a) (val b))>1;have u:((nl (apS (val a) (val b)):Nat):Int)>1:=Om;simp only[go_sem,u];exact tail ((GO i).1 (.inl S)) _ _ rfl rfl rfl rfl rfl Sq;have u:¬((nl (apS (val a) (val b)):Nat):Int)>1:=Om;simp only[go_sem,u,kj i];by_cases U:apS (val a) (val b)%4294967296>1;have w:((apS (val a) (val b)%4294967296:Nat):Int)>1:=Om;simp only[go_sem,w];exact tail ((GO i).1 (.inr U)) _ _ rfl rfl rfl rfl (by simp only[go_sem,kj i]) Sq;have w:¬((apS (val a) (val b)%4294967296:Nat):Int)>1:=Om;have X:apS (val a) (val b)=1:=by
  rcases Decidable.em (apS (val a) (val b)=1)with h|h
  exact h;rcases(GO i).2 h with h|h
  exact absurd h S;exact absurd h U
 simp only[go_sem,w];exact fin (val a) (val b) (by rw[X,Nat.div_one]) (by rw[X,Nat.div_one]) _ _ rfl rfl rfl rfl Sq
theorem _root_.wO_{p:Prop}(h:p:=by rw[wrap_i64 Om Om];omega):p:=h
theorem Xz(v:Int)(u:-9223372036854775808<=v)(w:v<=9223372036854775807) :
  po.wp C (aW y7.res (aL (.int .u64 (v.natAbs:Nat)))) (g_ [.j v]) .nil:=by
 simp only[go_sem,po,y7];by_cases c:v<0;have i:i_.wrap (v+1)=v+1:=wrap_i64 Om Om;have e2:i_.wrap (0-(v+1))=-(v+1):=wO_
 have l:u_.wrap (u_.wrap (-(v+1))+1)=(v.natAbs:Int):=by rw[KX,KX];omega
 simp only[go_sem,c,i,e2,l];refine eD ?_;rfl;have e:u_.wrap v=(v.natAbs:Int):=by rw[KX];omega
 simp only[go_sem,c,e];refine eD ?_;rfl
structure I3(C:Ctx):Prop extends zk C where
 lowest:∀neg a b,Lim a->Lim b->Z' a<=35184372087808->Z' b<=35184372087808->nl (val a)<=512->nl (val b)<=512->val b≠0->aJ C 58 [.bool neg,aY a,aY b] .nil (aL (.agg (qQ neg (val a) (val b)).rf.cells))
 size:∀v:Int,eK v->aJ C 59 [.int .i64 v] .nil (aL (.int .u64 (v.natAbs:Nat)))
def mkT(n d:Int):RF:=(qQ (decide (n<0) != decide (d<0)) n.natAbs d.natAbs).rf
def CR(n d:Int):PV:=if d=0 then J6 3 else .tup [.agg (mkT n d).cells,.int .i64 0]
theorem Xw(L:I3 C)(n d:Int)(e:eK n)(i:eK d) :
  pe.wp C (aW pd.res (cY (CR n d))) (g_ [.j n,.j d]) .nil:=by
 simp only[go_sem,pe];refine aQ λo l=>?_;unfold CR;by_cases c:d=0;subst c;simp only[go_sem];refine vK ?_;simp only[go_sem,pd];rw[aC c];simp only[go_sem,bJ c];refine aD (L.size n e) rfl ?_;simp only[go_sem];refine aD (L.make n.natAbs Om) rfl ?_;simp only[go_sem];refine aD (L.size d i) rfl ?_;simp only[go_sem];refine aD (L.make d.natAbs Om) rfl ?_;simp only[go_sem];have u:nl n.natAbs<=2:=xO Om;have w:nl d.natAbs<=2:=xO Om;have low:=L.lowest (decide (n<0) != decide (d<0)) (aS n.natAbs) (aS d.natAbs) (cA _) (cA _) (by rw[cE];omega) (by rw[cE];omega);rw[bZ,bZ]at low;have low:=low Om Om Om;refine aD low rfl ?_;simp only[go_sem];exact bK (.inr rfl) .nil (vs:=[.agg (mkT n d).cells,.j 0]) (by simp only[go_sem,pd];rfl) a_ ⟨.refl _,rfl⟩
structure iv(C:Ctx):Prop extends I3 C where
 fmk:∀n d:Int,eK n->eK d->aJ C 50 [.int .i64 n,.int .i64 d] .nil (aL (CR n d))
theorem Io(L:iv C)(n:Int)(l:eK n) :
  wi.wp C (aW M4.res (cY (.agg (mkT n 1).cells))) (g_ [.j n]) .nil:=by
 simp only[go_sem,wi,M4];refine aQ λo u=>?_;simp only[go_sem];refine aD (L.fmk n 1 l (by unfold eK;omega)) rfl ?_;unfold CR;rw[aC aT];simp only[go_sem];refine aQ λp hp=>?_;have e:o≠p:=by rintro rfl;simp only[aM,if_true]at hp;cases hp
 have i:p≠o:=λh=>e h.symm;simp only[go_sem,e];refine bK (vs:=[.agg (mkT n 1).cells]) (.inr rfl) .nil ?_ a_ ⟨.refl _,rfl⟩;simp only[go_sem,i]
def aH(l:N_)(n a:Nat):Nat × Nat:=if l.length<=a\/n<2 then(0,a)else(l.getD a 0%n,a+1)
theorem cJ(l:N_){n:Nat}(h:0<n)(a:Nat):(aH l n a).1<n:=by
 unfold aH;split;exact h;exact Nat.mod_lt _ h
theorem bN(l:N_)(n:Nat){a:Nat}(h:a<=Z' l):(aH l n a).2<=Z' l:=by
 unfold aH;split;exact h;simp only;omega
def iA(l:N_)(a:Nat):RF × Nat:=
 let x:=aH l 6 a
 let y:=aH l 8 x.2
 (mkT ((1+x.1:Nat):Int) ((1+y.1:Nat):Int),y.2)
abbrev mB:RF:=mkT 0 1
def kV(l:N_)(i j a:Nat):RF × Nat:=
 if j=i+1 then iA l a
 else if j=i then(mB,a)
 else let t:=aH l 3 a
  if t.1=0 then iA l t.2 else(mB,t.2)
def eW(l:N_)(i a:Nat):Nat->List RF × Nat
 |0=>([],a)
 |j+1=>let s:=eW l i a j
  let z:=kV l i j s.2
  (s.1++[z.1],z.2)
structure JV where
 start:List RF
 exit:List RF
 aoH:List (List RF)
 left:Nat
 a:Nat
def eU(l:N_)(n i:Nat)(s:JV):Nat × Nat:=if i+1<n then aH l (s.left+1) s.a else(s.left,s.a)
def gR(l:N_)(n i a:Nat):RF × Nat:=
 let e:=iA l a
 if i+1<n then(let t:=aH l 3 e.2;(if t.1=0 then mB else e.1,t.2))else e
def iW(l:N_)(n a:Nat):Nat->JV
 |0=>⟨[],[],[],8,a⟩
 |i+1=>let s:=iW l n a i
  let k:=eU l n i s
  let e:=gR l n i k.2
  let r:=eW l i e.2 n
  ⟨s.start++[mkT (k.1:Nat) 8],s.exit++[e.1],s.aoH++[r.1],s.left-k.1,r.2⟩
def wG(l:N_)(dR a:Nat):cS × Nat:=
 let t:=aH l dR a
 let s:=iW l (1+t.1) t.2 (1+t.1)
 (⟨[],s.start,s.aoH,s.exit⟩,s.a)
def mT(l:N_)(a:Nat):Nat->List RF × Nat
 |0=>([],a)
 |k+1=>let s:=mT l a k
  let z:=iA l s.2
  (s.1++[z.1],z.2)
abbrev cN(n:Nat):List UInt8:=Lib.decDigits n
def jE(l:N_)(a:Nat):Nat->List cS × Nat
 |0=>([],a)
 |k+1=>let s:=jE l a k
  let z:=wG l 2 s.2
  (s.1++[{ z.1 with name:=[108,97,119]++cN k }],z.2)
def fU(l:N_)(aoK a:Nat):Nat->List dL × Nat
 |0=>([],a)
 |k+1=>let s:=fU l aoK a k
  let x:=aH l 4 s.2
  let y:=aH l 8 x.2
  let z:=aH l aoK y.2
  (s.1++[⟨[109]++cN k,(1+x.1:Nat),(1+y.1:Nat),(z.1:Nat)⟩],z.2)
structure GS where
 aoM:List cQ
 aoW:List eG
 a:Nat
def kX(l:N_)(mc aoC domain:Nat)(s:GS):Nat->GS
 |0=>s
 |i+1=>let s:=kX l mc aoC domain s i
  if s.aoW.length<aoC then
   let t:=aH l mc s.a
   { s with aoW:=s.aoW++[⟨[100]++cN s.aoW.length,(t.1:Nat),(domain:Nat)⟩],a:=t.2 }
  else s
def oW(level:Nat):UInt8:=match level with
 |0=>45
 |1=>115
 |2=>114
 |3=>107
 |_=>109
def nZ(l:N_)(level domain:Nat)(s:GS):GS:=
 let u:=aH l 16 s.a
 let t:=aH l 3 u.2
 let k:=aH l 6 t.2
 let sh:RF × Nat:=if t.1=0 then(mkT 1 ((2+k.1:Nat):Int),k.2)else(mB,t.2)
 { s with aoM:=s.aoM++[⟨[oW level]++cN s.aoM.length,(level:Nat),(domain:Nat),(1+u.1:Nat),sh.1⟩],a:=sh.2 }
def vL(aoC:Nat)(s:GS):Bool:=decide (aoC<=Z' s.aoW)||decide (35<=Z' s.aoM)
def iB(l:N_)(level aoC domain:Nat)(rec:Nat->GS->GS)(s:GS):Nat->GS
 |0=>s
 |i+1=>let s:=iB l level aoC domain rec s i
  if vL aoC s then s else(let s':=nZ l level domain s;rec (Z' s'.aoM-1) s')
def fR(l:N_)(mc aoC:Nat):Nat->Nat->GS->GS
 |0,domain,s=>let t:=aH l 2 s.a
  kX l mc aoC domain { s with a:=t.2 } (1+t.1)
 |k+1,domain,s=>let t:=aH l 2 s.a
  iB l (4-k) aoC domain (fR l mc aoC k) { s with a:=t.2 } (if 4-k=2 then 1 else 1+t.1)
def mM:cQ:=⟨[],0,-1,0,mB⟩
def jU(l:N_)(a:Nat):Int × Nat:=
 let t:=aH l 3 a
 let k:=aH l 3 t.2
 if t.1=0 then((1+k.1:Nat),k.2)else(0,t.2)
def pR(l:N_)(aoD i a:Nat):bY × Nat:=
 let k:=aH l 2 a
 let m:=aH l 3 k.2
 let h:=aH l 4 m.2
 let q:=aH l (m.1+1) h.2
 let r:=mT l q.2 (max m.1 1)
 let g:=aH l 9 r.2
 let s1:=jU l g.2
 let s2:=jU l s1.2
 let s3:=jU l s2.2
 let s4:=jU l s3.2
 let f:=aH l aoD s4.2
 let b:=aH l 2 f.2
 let ms:I_ × Nat:=if 1<aoD then(if b.1=0 then([(f.1:Int),1-(f.1:Int)],b.2)else([(f.1:Int)],b.2))else([(f.1:Int)],f.2)
 (⟨[112]++cN i,(1+k.1:Nat),(m.1:Nat),(1+k.1+q.1:Nat),0,s1.1,s2.1,s3.1,s4.1,ms.1,r.1,mkT (g.1:Nat) 8,mkT ((1+h.1:Nat):Int) 1⟩,ms.2)
def eY(l:N_)(aoD a:Nat):Nat->List bY × Nat
 |0=>([],a)
 |k+1=>let s:=eY l aoD a k
  let z:=pR l aoD k s.2
  (s.1++[z.1],z.2)
def fW(l:N_)(pols a:Nat):Nat->List fV × Nat
 |0=>([],a)
 |k+1=>let s:=fW l pols a k
  let z:=aH l pols s.2
  (s.1++[⟨[118]++cN k,(z.1:Nat)⟩],z.2)
def iJ(l:N_)(aoC aoE a:Nat):aB × Nat:=
 let e:=aH l 2 a
 let u:=aH l 2 e.2
 let aoK:=jE l u.2 (1+u.1)
 let i:=aH l 2 aoK.2
 let aoD:=fU l (1+u.1) i.2 (1+i.1)
 let g:=fR l (1+i.1) aoC 4 0 ⟨[mM],[],aoD.2⟩
 let pl:=aH l 2 g.a
 let pols:=eY l (1+i.1) pl.2 (1+pl.1)
 let w:=aH l (aoE+1) pols.2
 let vols:=fW l (1+pl.1) w.2 w.1
 (⟨(1+e.1:Nat),aoK.1,aoD.1,g.aoM,g.aoW,pols.1,vols.1⟩,vols.2)
def qH(l:N_)(a:Nat):Nat->I_ × Nat
 |0=>([],a)
 |k+1=>let s:=qH l a k
  let z:=aH l 7 s.2
  (s.1++[(z.1:Int)-1],z.2)
def tR(l:N_)(f:aB)(a:Nat):I_ × Nat:=
 let t:=aH l 4 a
 if t.1=0 then([],t.2)else qH l t.2 f.aoC.length
abbrev kL(l:N_):P2_:=l.map λ(n:Nat)=>[PV.int .u8 (n:Int)]
theorem VU(l:N_):(kL l).length=Z' l:=by simp
theorem Xp(l:N_){i:Nat}(h:i<Z' l):(kL l)[i]?=some [.int .u8 (l[i]:Nat)]:=by simp[h]
abbrev bD(v:PV)(a:Nat):aR:=.rows 2 [[v,.int .i64 a]]
structure Tp(l:N_)(v:PV):Prop where
 seen:Seen 1 v (kL l)
 byte:∀x∈l,x<256
 len:Z' l<=400
def qc(l:N_)(r:PV)(H:PH):Prop:=∃o v,r=.ptr o 2 0 0/\Tp (l.take 400) v/\H=h_.set o (bD v 0)
theorem xa{t q s:Nat}{rs:P2_}{F:PF}{H H2:PH}{R:R_}{v:PV}{e:lY}(he:e=.normal\/e=.ret)(A:F t=some v)(hq:H q=some (.rows s rs))(x:H2.le (H.frz q s rs))(y:R (PV.frz q s rs v) H2):aW [.tmp t] R e F H:=by
 have i:∃vs,dY.evs F H [.tmp t]=some vs/\∃l w H2,jJ (n_.set 0 (bO vs)) H l w/\H2.le w/\∃u,l 0=some u/\R u H2:=by refine⟨[v],by rw[nM,rK,A,tK],_,_,H2,.step q hq (.refl _ _),x,PV.frz q s rs v,?_,y⟩;rw[uE,mU,aE rfl,aqK];rfl
 rcases he with rfl|rfl<;>exact i
theorem aaM(l:N_)(hb:∀x∈l,x<256)(N:Z' l<=9223372036854775807):uo.wp C (aW di.res (qc l)) (g_ [.sl 1 (kL l)]) .nil:=by
 simp only[go_sem,uo,di,apP];have fin:∀F:PF,F 0=some (.sl 1 (kL (l.take 400)))->aI.wp C (.seq (.region rp) .ret) (aW [.tmp 2] (qc l)) F .nil:=by
  intro F f0;have y:(l.take 400).length<=400:=by rw[aqF];omega
  have w:∀x∈l.take 400,x<256:=λx K=>hb x (auA K);have A:∀o v,Seen 1 v (kL (l.take 400))->qc l (.ptr o 2 0 0) (h_.set o (bD v 0)):=λo v J=>⟨o,v,rfl,⟨J,w,y⟩,rfl⟩;generalize M:l.take 400=L at *
  simp only[go_sem,rp,f0];refine rS (src:=kL L) rfl ?_ (λh=>?_) λh o E=>?_;unfold roomFor;rw[VU];simp only[maxLen];omega;simp only[go_sem,aqG,aqS,or_false,forall_eq];refine aQ λo E=>?_;simp only[go_sem];exact bK (vs:=[.ptr o 2 0 0]) (.inr rfl) (h_.set o (bD .aG 0)) rfl b_ (A o .aG (.inl ⟨h,rfl⟩));simp only[go_sem,aqG,aqS,or_false,forall_eq];refine aQ λp hp=>?_;have e:¬p=o:=(yD.1 hp).1;have i:¬o=p:=λh=>e h.symm;simp only[go_sem];refine xa (v:=.ptr p 2 0 0) (q:=o) (s:=1) (rs:=kL L) (H2:=h_.set p (bD (.sl 1 (kL L)) 0)) (.inr rfl) rfl (by simp only[go_sem,i]) (c_ a_ ?_) (A p _ (.inr rfl));have D:(kL L).take L.length=kL L:=aqR (by rw[VU];exact apU _);simp only[go_sem,e,aR.frz,PV.cZ,apP,D];rfl
 simp only[aI.wp,go_sem]at fin;by_cases c:Z' l>400;have u:(Z' l:Int)>400:=Om;have B:(400:Int)<=(Z' l:Int):=Om;simp only[go_sem,u,apP,B];refine fin _ ?_;rw[mU,aE rfl];simp[kL];have u:¬(Z' l:Int)>400:=Om;simp only[go_sem,u];refine fin _ ?_;rw[aqR Om];simp only[go_sem]
def ir(l:N_)(v:PV)(o n a:Nat)(r:PV)(H:PH):Prop:=r=.int .i64 ((aH l n a).1:Nat)/\H=h_.set o (bD v (aH l n a).2)
theorem Vl{l:N_}{v:PV}(T:Tp l v)(o n a:Nat)(S:n<=1000000)(O:a<=Z' l):OS.wp C (aW EB.res (ir l v o n a)) (g_ [.ptr o 2 0 0,.j n]) (h_.set o (bD v a)):=by
 obtain⟨M,hb,R⟩:=T;have zero:(Z' l<=a\/n<2)->∀F,aI.wp C (.seq (.region dj) .ret) (aW [.tmp 4] (ir l v o n a)) F (h_.set o (bD v a)):=by
  intro h F;have e:aH l n a=(0,a):=by unfold aH;rw[aE h]
  simp only[go_sem,dj];exact bK (vs:=[.j 0]) (.inr rfl) _ rfl b_ ⟨by rw[e];rfl,by rw[e]⟩
 simp only[aI.wp,go_sem]at zero;rcases M with⟨K,rfl⟩|rfl
 have N:Z' l=0:=by rw[<-VU,K];rfl
 have x:(a:Int)>=0:=Om;simp only[go_sem,OS,EB];refine bE .nil cO a_ ?_;simp only[go_sem,x];exact zero (.inl Om) _;simp only[go_sem,OS,EB];refine bE .nil cO a_ ?_;by_cases A:Z' l<=a;have i:(a:Int)>=(Z' l:Nat):=Om;simp only[go_sem,apP,i];exact zero (.inl A) _;have i:¬(a:Int)>=(Z' l:Nat):=Om;simp only[go_sem,apP,i];by_cases B:n<2;have u:(n:Int)<2:=Om;simp only[go_sem,u];exact zero (.inr B) _;have u:¬(n:Int)<2:=Om;have w:a<Z' l:=Om;have e:aH l n a=(l[a]%n,a+1):=by unfold aH;rw[aC Om];simp[apY,w]
 have J:i_.wrap ((a:Int)+1)=((a+1:Nat):Int):=fQ Om;have E:i_.wrap (((a+1:Nat):Int)-1)=((a:Nat):Int):=wO_
 have L:=Xp l w;have U:=hb _ (apW w);have D:i_.wrap ((l[a]:Nat):Int)=((l[a]:Nat):Int):=ia Om;have y:¬((n:Nat):Int)=0:=Om;have em:Int.tmod ((l[a]:Nat):Int) ((n:Nat):Int)=((l[a]%n:Nat):Int):=rfl;simp only[go_sem,u,J];refine bE .nil cO a_ ?_;simp only[go_sem,E,L,D,y,em];exact bK (vs:=[.j (l[a]%n:Nat)]) (.inr rfl) _ rfl b_ ⟨by rw[e];rfl,by rw[e]⟩
structure IA(C:Ctx):Prop extends iv C where
 int:∀n:Int,eK n->aJ C 47 [.int .i64 n] .nil (aL (.agg (mkT n 1).cells))
 itoa:∀n:Nat,n<100->aJ C 195 [.int .i64 n] .nil (aL (.str (cN n)))
 next:∀(l:N_)(v:PV),Tp l v->∀(o n a:Nat),n<=1000000->a<=Z' l->aJ C 4 [.ptr o 2 0 0,.int .i64 n] (h_.set o (bD v a)) (ir l v o n a)
section
variable {C:Ctx} {F:PF} {H:PH} {l:N_} {v:PV} {o a:Nat}
theorem eF(i:IA C)(T:Tp l v){n:Nat}{args:List aP}{d:O_}{K:K_}(x:n<=1000000)(u:a<=Z' l)(e:aP.evs F args=some [.ptr o 2 0 0,.j n])(y:H o=some (bD v a))
  (w:K (F.put d (.j ((aH l n a).1:Nat))) (H.set o (bD v (aH l n a).2))):jX C 4 args [] d K F H:=
 oT (i.next l v T o n a x u) y e w
end
def X6(l:N_)(v:PV)(o a:Nat)(r:PV)(H:PH):Prop:=r=.agg (iA l a).1.cells/\H=h_.set o (bD v (iA l a).2)
theorem AJ(l:N_){a:Nat}(h:a<=Z' l):(iA l a).2<=Z' l:=bN l 8 (bN l 6 h)
theorem Vf(i:IA C){l:N_}{v:PV}(T:Tp l v)(o a:Nat)(x:a<=Z' l):lj.wp C (aW x9.res (X6 l v o a)) (g_ [.ptr o 2 0 0]) (h_.set o (bD v a)):=by
 simp only[go_sem,lj,x9];refine aQ λp hp=>?_;have y:¬p=o:=(yD.1 hp).1;have e:¬o=p:=λh=>y h.symm;have J:=cJ l (show 0<6 by decide) a;have a1:=bN l 6 x;simp only[go_sem];refine eF i T (o:=o) (n:=6) (a:=a) aT x rfl (by simp only[go_sem,e]) ?_;have D:i_.wrap (1+((aH l 6 a).1:Int))=((1+(aH l 6 a).1:Nat):Int):=wO_
 simp only[go_sem,D];have K:=cJ l (show 0<8 by decide) (aH l 6 a).2;refine eF i T (o:=o) (n:=8) (a:=(aH l 6 a).2) aT a1 rfl Sq ?_;have e2:i_.wrap (1+((aH l 8 (aH l 6 a).2).1:Int))=((1+(aH l 8 (aH l 6 a).2).1:Nat):Int):=wO_
 simp only[go_sem,e2];refine aD (i.fmk ((1+(aH l 6 a).1:Nat):Int) ((1+(aH l 8 (aH l 6 a).2).1:Nat):Int) (by unfold eK;omega) (by unfold eK;omega)) rfl ?_;have E:¬((1+(aH l 8 (aH l 6 a).2).1:Nat):Int)=0:=Om;unfold CR;rw[aC E];simp only[go_sem];refine aQ λq hq=>?_;have A:¬q=o:=(yD.1 hq).1;have B:¬q=p:=(yD.1 (yD.1 hq).2).1;have w:¬p=q:=λh=>B h.symm;have u:¬o=q:=λh=>A h.symm;simp only[go_sem,y,e,A,B,w];refine bK (vs:=[.agg (iA l a).1.cells]) (.inr rfl) (h_.set o (bD v (iA l a).2)) ?_ (c_ a_ ?_) ⟨rfl,rfl⟩;simp only[go_sem];rfl;simp only[go_sem,e,u];rfl
structure zg(C:Ctx):Prop extends IA C where
 frac:∀(l:N_)(v:PV),Tp l v->∀(o a:Nat),a<=Z' l->aJ C 1 [.ptr o 2 0 0] (h_.set o (bD v a)) (X6 l v o a)
abbrev jD(l:List RF):P2_:=l.map RF.cells
theorem DO(l:List RF)(x:RF):jD l++[x.cells]=jD (l++[x]):=by simp[jD]
theorem NL(l:List RF):Flat (jD l):=Flat.map l λx c e q s rs=>by
 simp only[RF.cells,pD,aqG,aqS,or_false]at e;rcases e with rfl|rfl|rfl<;>rfl
theorem qA(l:List RF):(jD l).length=Z' l:=by simp[jD]
theorem Tp.frz{l:N_}{v:PV}(T:Tp l v)(q s:Nat)(rs:P2_):PV.cZ q s rs v=v:=by
 rcases T.seen with⟨_,rfl⟩|rfl<;>rfl
theorem MC(l:N_){a:Nat}(h:a<=Z' l):∀k,(mT l a k).2<=Z' l
 |0=>h
 |k+1=>AJ l (MC l h k)
theorem Dd(l:N_)(a:Nat):∀k,(mT l a k).1.length=k
 |0=>rfl
 |k+1=>by simp only[mT,apV,aqH,Dd l a k]
def adK(l:N_)(v:PV)(o a k:Nat)(r:PV)(H:PH):Prop:=r=frs (mT l a k).1/\H=h_.set o (bD v (mT l a k).2)
def Ld(o:Nat)(m:Nat)(w:PV)(i:Nat):PF:=((((n_.set 0 (.ptr o 2 0 0)).set 1 (.int .i64 m)).set 5 (w)).set 6 (.int .i64 i))
theorem aaO(L:zg C){l:N_}{v:PV}(T:Tp l v)(o a m:Nat)(V:m<=1000)(O:a<=Z' l):ut.wp C (aW Lc.res (adK l v o a (max m 1))) (g_ [.ptr o 2 0 0,.j m]) (h_.set o (bD v a)):=by
 have y:∀i:Nat,((i:Int)<(if(m:Int)<1 then 1 else(m:Int)))↔i<max m 1:=by intro i;split<;>omega
 simp only[go_sem,ut,Lc];have M:aO (h_.set o (bD v a)) [(o,bD v a)] [(.aG,3,jD [])]:=(aO.nil.new (H:=h_) rfl (bD v a)).oF 3;refine wp_loop (α:=T3_) (λt=>Ld o m t.2.1 t.1) (λt=>t.2.2) (λt=>t.1<=max m 1/\aO t.2.2 [(o,bD v (mT l a t.1).2)] [(t.2.1,3,jD (mT l a t.1).1)]) (λt=>max m 1-t.1) (0,.aG,h_.set o (bD v a)) ⟨apR _,M⟩ ?_ b_ ?_;unfold Ld;exact Lq;rintro⟨k,w,U⟩ ⟨R,x⟩;simp only at R x ⊢;simp only[go_sem,Ld];have E:=MC l O k;have u:=Dd l a k;by_cases hlt:k<max m 1;have D:=(y k).2 hlt;simp only[go_sem,D];refine oT (L.frac l v T o _ E) (x.at 0 rfl) rfl ?_;have B:=x.set 0 rfl (bD v (iA l (mT l a k).2).2);have A:(1:Nat)*3<=16777216:=by decide
 simp only[go_sem,A];refine B.append 0 (src:=[(iA l (mT l a k).2).1.cells]) rfl rfl (by unfold roomFor;rw[qA,u];simp only[aqH,maxLen];omega) λS H' K _=>?_;rw[DO]at K;simp only[go_sem,wZz k];refine aF (k+1,S,H') ⟨hlt,K⟩ sO_ ?_ b_;exact Lq;have D:¬((k:Int)<(if(m:Int)<1 then 1 else(m:Int))):=λh=>hlt ((y k).1 h);have e:k=max m 1:=Om;subst e;simp only[go_sem,D];have J:jD (mT l a (max m 1)).1≠[]:=λh=>by have:=congrArg List.length h;rw[qA,u]at this;simp at this
 rcases x.own 0 rfl with⟨N,_⟩|⟨q,rs,rfl,_⟩
 exact absurd N J;obtain⟨rs,g1,g2,g3,-,g4⟩:=x.frz 0 rfl;refine rJ (vs:=[.osl q 3 0 (jD (mT l a (max m 1)).1).length]) (.inr rfl) rfl (.step g1 (.done (H2:=h_.set o (bD v (mT l a (max m 1)).2)) ?_ (c_ a_ ?_)));rw[bO,g3];exact⟨rfl,rfl⟩;have:=g4.at 0 rfl;rw[this];simp only[aR.frz,aqQ,arL,T.frz];rfl
theorem Vk(i:IA C)(s:List UInt8)(n:Nat)(x:Z' s<=100)(u:n<100):lk.wp C (aW ya.res (aL (.str (s++cN n)))) (g_ [.str s,.j n]) .nil:=by
 have w:(cN n).length<=2:=by unfold cN;rw[Lib.decDigits];split;simp;rw[Lib.decDigits,dif_pos Om];simp
 have e:¬(((Z' s+(cN n).length:Nat):Int)>9223372036854775807):=Om;simp only[go_sem,lk,ya];refine aD (i.itoa n u) rfl ?_;simp only[go_sem,Jh,e];refine eD ?_;rfl
structure yQ(C:Ctx):Prop extends zg C where
 rep:∀(l:N_)(v:PV),Tp l v->∀(o a m:Nat),m<=1000->a<=Z' l->aJ C 5 [.ptr o 2 0 0,.int .i64 m] (h_.set o (bD v a)) (adK l v o a (max m 1))
 name:∀(s:List UInt8)(n:Nat),Z' s<=100->n<100->aJ C 29 [.str s,.int .i64 n] .nil (aL (.str (s++cN n)))
theorem Tb(l:N_)(i j:Nat){a:Nat}(h:a<=Z' l):(kV l i j a).2<=Z' l:=by
 unfold kV;split;exact AJ l h;split;exact h;simp only;split;exact AJ l (bN l 3 h);exact bN l 3 h
theorem sg(l:N_)(i:Nat){a:Nat}(h:a<=Z' l):∀j,(eW l i a j).2<=Z' l
 |0=>h
 |j+1=>Tb l i j (sg l i h j)
theorem fy(l:N_)(i a:Nat):∀j,(eW l i a j).1.length=j
 |0=>rfl
 |j+1=>by simp only[eW,apV,aqH,fy l i a j]
theorem cr(l:N_)(n i:Nat)(s:JV)(h:s.a<=Z' l):(eU l n i s).2<=Z' l/\(eU l n i s).1<=s.left:=by
 unfold eU;split;exact⟨bN l _ h,by have:=cJ l (Om:0<s.left+1) s.a;omega⟩;exact⟨h,apU _⟩
theorem Ar(l:N_)(n i:Nat){a:Nat}(h:a<=Z' l):(gR l n i a).2<=Z' l:=by
 unfold gR;simp only;split;exact bN l 3 (AJ l h);exact AJ l h
theorem re(l:N_)(n:Nat){a:Nat}(h:a<=Z' l):∀i,(iW l n a i).a<=Z' l/\(iW l n a i).left<=8/\(iW l n a i).start.length=i/\(iW l n a i).exit.length=i/\(iW l n a i).aoH.length=i
 |0=>⟨h,apU _,rfl,rfl,rfl⟩
 |i+1=>by obtain⟨e,y,u,w,h5⟩:=re l n h i;have x:=cr l n i (iW l n a i) e;refine⟨?_,?_,?_,?_,?_⟩;exact sg l i (Ar l n i x.1) n;simp only[iW];omega;simp only[iW,apV,aqH,u];simp only[iW,apV,aqH,w];simp only[iW,apV,aqH,h5]
abbrev AU(l:List (List RF)):P2_:=l.map λr=>[frs r]
theorem vq(l:List (List RF)):Flat (AU l):=Flat.map l λx c e q s rs=>by
 simp only[aqG,aqS,or_false]at e;subst e;rfl
abbrev cp(e i l:PV):aR:=.rows 4 [[.str [],e,i,l]]
abbrev Bp:aR:=.rows 4 [[.str [],.aG,.aG,.aG]]
def iI(o o4 o6 n left i:Nat)(w:PV)(j:Nat):PF:=((((((((n_.set 0 (.ptr o 2 0 0)).set 4 (.ptr o4 4 0 0)).set 5 (.int .i64 n)).set 6 (.ptr o6 4 0 0)).set 7 (.int .i64 left)).set 8 (.int .i64 i)).set 13 (w)).set 14 (.int .i64 j))
def dW(o o4 o6 n left i:Nat):PF:=((((((n_.set 0 (.ptr o 2 0 0)).set 4 (.ptr o4 4 0 0)).set 5 (.int .i64 n)).set 6 (.ptr o6 4 0 0)).set 7 (.int .i64 left)).set 8 (.int .i64 i))
theorem cy{l:List RF}(h:Z' l<=1000):roomFor (jD l).length 1 56:=by
 unfold roomFor;rw[qA];simp only[maxLen];omega
theorem Vj(W:yQ C){l:N_}{v:PV}(T:Tp l v)(o o4 o6 n left i a:Nat)(ha:a<=Z' l)(hn:n<=100)(hi:i<n)(B:List BX)(L:List LI)(K:bT)(F:PF)(H:PH)
  (hF:(iI o o4 o6 n left i .aG 0).le F) (O:aO H ((o,bD v a)::B) L)
  (hK:∀w y H',(iI o o4 o6 n left i w n).le y->aO H' ((o,bD v (eW l i a n).2)::B) (L++[(w,3,jD (eW l i a n).1)])->K (.exit 2) y H') :
  aI.wp C (.loop OQ) K F H:=by
 refine wp_loop (α:=T3_) (λt=>iI o o4 o6 n left i t.2.1 t.1) (λt=>t.2.2) (λt=>t.1<=n/\aO t.2.2 ((o,bD v (eW l i a t.1).2)::B) (L++[(t.2.1,3,jD (eW l i a t.1).1)])) (λt=>n-t.1) (0,.aG,H) ⟨apR _,O.oF 3⟩ hF b_ ?_;rintro⟨j,w,H0⟩ ⟨hj,O⟩;simp only at hj O ⊢;have N:=sg l i ha j;have ε:=fy l i a j;have e1:i_.wrap ((i:Int)+1)=((i+1:Nat):Int):=fQ Om;simp only[go_sem,OQ,iI];by_cases hlt:j<n;have E:(j:Int)<(n:Nat):=Om;simp only[go_sem,E];refine aD (W.int 0 (by unfold eK;omega)) rfl ?_;simp only[go_sem];refine aQ λp hp=>?_;have A:=O.new hp (.rows 3 [mB.cells]);simp only[go_sem,e1];have fin:∀(y:PF)(H':PH),(iI o o4 o6 n left i w j).le y->y 15=some (.ptr p 3 0 0)->aO H' ((o,bD v (kV l i j (eW l i a j).2).2)::B++[(p,.rows 3 [(kV l i j (eW l i a j).2).1.cells])]) (L++[(w,3,jD (eW l i a j).1)]) ->
   aI.wp C (.region df) (fE 3 (gH C (aI.wp C (.region dg)) (fK (λ(t:T3_)=>iI o o4 o6 n left i t.2.1 t.1) (λt=>t.2.2) (λt=>t.1<=n/\aO t.2.2 ((o,bD v (eW l i a t.1).2)::B) (L++[(t.2.1,3,jD (eW l i a t.1).1)])) (λt=>n-t.1) (n-j) K))) y H':=by
  intro y H' e J R;have f0:y 0=some (.ptr o 2 0 0):=e 0 _ (by unfold iI;simp only[go_sem]);have f4:y 4=some (.ptr o4 4 0 0):=e 4 _ (by unfold iI;simp only[go_sem]);have f5:y 5=some (.j n):=e 5 _ (by unfold iI;simp only[go_sem]);have f6:y 6=some (.ptr o6 4 0 0):=e 6 _ (by unfold iI;simp only[go_sem]);have f7:y 7=some (.j left):=e 7 _ (by unfold iI;simp only[go_sem]);have f8:y 8=some (.j i):=e 8 _ (by unfold iI;simp only[go_sem]);have f13:y 13=some w:=e 13 _ (by unfold iI;simp only[go_sem]);have f14:y 14=some (.j j):=e 14 _ (by unfold iI;simp only[go_sem]);have γ:H' p=some (.rows 3 [(kV l i j (eW l i a j).2).1.cells]):=R.box (p,.rows 3 [(kV l i j (eW l i a j).2).1.cells]) aX;have Y:(1:Nat)*3<=16777216:=by decide
  simp only[go_sem,df,f13,J,γ,Y];refine R.append (v:=w) (s:=3) (rows:=jD (eW l i a j).1) L.length (src:=[(kV l i j (eW l i a j).2).1.cells]) aX rfl (cy Om) λw' H2 h2 _=>?_;rw[DO,asY _ _ (apU _),asA]at h2;simp only[go_sem,dg,f14,wZz j];refine aF (α:=T3_) (j+1,w',H2) ⟨hlt,h2.sub (List.sublist_append_left ..) (asF.refl _)⟩ sO_ ?_ b_;unfold iI;exact Lq
 simp only[aI.wp,go_sem]at fin;have V:∀x:RF,PH.set (PH.set H0 p (.rows 3 [mB.cells])) p (.rows 3 [x.cells])=PH.set H0 p (.rows 3 [x.cells]):=λx=>PH.set_set p _ _;have draw:∀(y:PF)(S:PH)(a1:Nat),a1<=Z' l->(iI o o4 o6 n left i w j).le y->y 15=some (.ptr p 3 0 0)->aO S ((o,bD v a1)::B++[(p,.rows 3 [mB.cells])]) (L++[(w,3,jD (eW l i a j).1)])->kV l i j (eW l i a j).2=iA l a1->∀K',(∀M H2,(iI o o4 o6 n left i w j).le M->M 15=some (.ptr p 3 0 0)->aO H2 ((o,bD v (kV l i j (eW l i a j).2).2)::B++[(p,.rows 3 [(kV l i j (eW l i a j).2).1.cells])]) (L++[(w,3,jD (eW l i a j).1)])->K' M H2) ->
   wpOps C de K' y S:=by
  intro y S a1 β e J A he K' Z;have f0:y 0=some (.ptr o 2 0 0):=e 0 _ (by unfold iI;simp only[go_sem]);simp only[go_sem,de,f0];refine oT (W.frac l v T o a1 β) (A.at 0 rfl) rfl ?_;have D:aO (S.set o (bD v (iA l a1).2)) ((o,bD v (iA l a1).2)::B++[(p,.rows 3 [mB.cells])]) (L++[(w,3,jD (eW l i a j).1)]):=A.set 0 rfl _;have δ:=D.LF;simp only[go_sem,J,δ];refine Z _ _ ?_ (by simp only[go_sem,J]) ?_;have g:=λ(q:Nat) u h=>e q u h;unfold iI at g ⊢;refine e_ (e_ (e_ (e_ (e_ (e_ (e_ (e_ d_ ?_) ?_) ?_) ?_) ?_) ?_) ?_) ?_;simp only[go_sem,f0];simp only[go_sem,g 4 _ rfl];simp only[go_sem,g 5 _ rfl];simp only[go_sem,g 6 _ rfl];simp only[go_sem,g 7 _ rfl];simp only[go_sem,g 8 _ rfl];simp only[go_sem,g 13 _ rfl];simp only[go_sem,g 14 _ rfl];rw[he];exact D.XK (.rows 3 [(iA l a1).1.cells])
 by_cases U:j=i+1;have he:kV l i j (eW l i a j).2=iA l (eW l i a j).2:=by unfold kV;rw[aE U]
 simp only[go_sem,cC (Om:(j:Int)=((i+1:Nat):Int))];refine draw _ _ _ N (by unfold iI;exact Lq) rfl A he _ ?_;intro M H2 k1 k2 k3;exact fin M H2 k1 k2 k3;simp only[go_sem,bJ (Om:¬(j:Int)=((i+1:Nat):Int))];by_cases X:j=i;have he:kV l i j (eW l i a j).2=(mB,(eW l i a j).2):=by unfold kV;rw[aC U,aE X]
 simp only[go_sem,bW (Om:(j:Int)=(i:Int))];exact fin _ _ (by unfold iI;exact Lq) rfl (by rw[he];exact A);simp only[go_sem,cX (Om:¬(j:Int)=(i:Int))];refine eF W.toIA T (o:=o) (n:=3) (a:=(eW l i a j).2) aT N rfl (A.at 0 rfl) ?_;have D:aO _ ((o,bD v (aH l 3 (eW l i a j).2).2)::B++[(p,.rows 3 [mB.cells])]) (L++[(w,3,jD (eW l i a j).1)]):=A.set 0 rfl _;by_cases c3:(aH l 3 (eW l i a j).2).1=0;have he:kV l i j (eW l i a j).2=iA l (aH l 3 (eW l i a j).2).2:=by unfold kV;rw[aC U,aC X];simp only[c3,if_true]
 simp only[go_sem,cC (show(((aH l 3 (eW l i a j).2).1:Nat):Int)=0 by omega)];refine draw _ _ _ (bN l 3 N) (by unfold iI;exact Lq) rfl D he _ ?_;intro M H2 k1 k2 k3;exact fin M H2 k1 k2 k3;have he:kV l i j (eW l i a j).2=(mB,(aH l 3 (eW l i a j).2).2):=by unfold kV;rw[aC U,aC X];simp only[c3,if_false]
 simp only[go_sem,bJ (show ¬(((aH l 3 (eW l i a j).2).1:Nat):Int)=0 by omega)];exact fin _ _ (by unfold iI;exact Lq) rfl (by rw[he];exact D);have E:¬(j:Int)<(n:Nat):=Om;have:j=n:=Om;subst this;simp only[go_sem,E];exact hK w _ _ (by unfold iI;exact Lq) O
abbrev wY(o o4 o6:Nat)(v e i l:PV)(a:Nat):List BX:=[(o,bD v a),(o4,Bp),(o6,cp e i l)]
abbrev BG(s:JV)(e i l:PV):List LI:=[(e,3,jD s.start),(i,1,AU s.aoH),(l,3,jD s.exit)]
theorem Pz(J:yQ C){l:N_}{v:PV}(T:Tp l v)(o o4 o6 n i:Nat)(s:JV)(E:s.a<=Z' l)(V:s.left<=8)(W:n<=100)(hi:i<n)(B:List BX)(L:List LI)(rest:aI)(K:bT)(F:PF)(H:PH)
  (e:(dW o o4 o6 n s.left i).le F) (A:aO H ((o,bD v s.a)::B) L)
  (w:∀x H',(dW o o4 o6 n (s.left-(eU l n i s).1) i).le x->x 9=some (.j ((eU l n i s).1:Nat))->aO H' ((o,bD v (eU l n i s).2)::B) L->aI.wp C rest K x H') :
  aI.wp C (.seq (.region ri) (.seq (.seq (.region rj) (.cond (.tmp 29) (.region rk) .skip)) (.seq (.region XA) rest))) K F H:=by
 have f0:F 0=some (.ptr o 2 0 0):=e 0 _ (by unfold dW;simp only[go_sem]);have S:F 4=some (.ptr o4 4 0 0):=e 4 _ (by unfold dW;simp only[go_sem]);have O:F 5=some (.j n):=e 5 _ (by unfold dW;simp only[go_sem]);have f6:F 6=some (.ptr o6 4 0 0):=e 6 _ (by unfold dW;simp only[go_sem]);have f7:F 7=some (.j s.left):=e 7 _ (by unfold dW;simp only[go_sem]);have R:F 8=some (.j i):=e 8 _ (by unfold dW;simp only[go_sem]);have M:i_.wrap ((i:Int)+1)=((i+1:Nat):Int):=fQ Om;have U:=(cr l n i s E).2;have u:i_.wrap ((s.left:Int)-((eU l n i s).1:Int))=((s.left-(eU l n i s).1:Nat):Int):=wO_
 simp only[go_sem,ri,f7,rj,R,O,M];by_cases c:i+1<n;have y:((i+1:Nat):Int)<(n:Nat):=Om;have he:eU l n i s=aH l (s.left+1) s.a:=by unfold eU;rw[aE c]
 have N:i_.wrap ((s.left:Int)+1)=((s.left+1:Nat):Int):=fQ Om;rw[he]at w u;simp only[go_sem,y,rk,f0,f7,N];refine eF J.toIA T (o:=o) (n:=s.left+1) (a:=s.a) Om E rfl A.adR ?_;have D:=A.abU (bD v (aH l (s.left+1) s.a).2);simp only[go_sem,XA,f7,u];refine w _ _ ?_ rfl D;unfold dW;exact Lq;have y:¬((i+1:Nat):Int)<(n:Nat):=Om;have he:eU l n i s=(s.left,s.a):=by unfold eU;rw[aC c]
 rw[he]at w u;simp only at w u;simp only[go_sem,y,XA,f7,u];refine w _ _ ?_ rfl A;unfold dW;exact Lq
theorem K9(O:yQ C){l:N_}{v:PV}(o o4 o6 n i left k a:Nat)(hk:k<=8)(hi:i<n)(hn:n<=100)(s:JV)(hs:Z' s.start=i)(N x A:PV)(B:List BX)(rest:aI)(K:bT)(F:PF)(H:PH)
  (w:(dW o o4 o6 n left i).le F) (R:F 9=some (.j k)) (W:aO H (wY o o4 o6 v N x A a++B) (BG s N x A))
  (X:∀u M H' B',(dW o o4 o6 n left i).le M->aO H' (wY o o4 o6 v u x A a++B') (BG { s with start:=s.start++[mkT (k:Nat) 8] } u x A)->aI.wp C rest K M H') :
  aI.wp C (.seq (.region cz) (.seq (.region c7) rest)) K F H:=by
 have f0:F 0=some (.ptr o 2 0 0):=w 0 _ (by unfold dW;simp only[go_sem]);have Z:F 4=some (.ptr o4 4 0 0):=w 4 _ (by unfold dW;simp only[go_sem]);have f5:F 5=some (.j n):=w 5 _ (by unfold dW;simp only[go_sem]);have f6:F 6=some (.ptr o6 4 0 0):=w 6 _ (by unfold dW;simp only[go_sem]);have f7:F 7=some (.j left):=w 7 _ (by unfold dW;simp only[go_sem]);have f8:F 8=some (.j i):=w 8 _ (by unfold dW;simp only[go_sem]);simp only[go_sem,cz,R];refine aD (O.fmk (k:Int) 8 (by unfold eK;omega) (by unfold eK;omega)) rfl ?_;unfold CR;rw[aC aT];simp only[go_sem];refine aQ λp hp=>?_;have e:=W.new hp (.rows 3 [(mkT (k:Nat) 8).cells]);have S:=e.at 2 rfl;have U:=e.LF;have E:(1:Nat)*3<=16777216:=by decide
 have Y:∀y,PH.set (PH.set H p (.rows 3 [[PV.bool false,PV.aG,PV.aG]])) p y=PH.set H p y:=λy=>PH.set_set p _ _;simp only[go_sem,c7,f6,S,U,E];refine e.append 0 (src:=[(mkT (k:Nat) 8).cells]) rfl rfl (cy Om) λu H2 J L=>?_;rw[DO]at J L;rw[qA]at L;obtain⟨q,rfl⟩:=L aX;have D:=J.at 2 rfl;simp only[go_sem,D,aqG,aqS,or_false,forall_eq];have V:=J.set 2 rfl (cp (.osl q 3 0 (s.start++[mkT (k:Nat) 8]).length) x A);refine X _ _ _ (B++[(p,.rows 3 [(mkT (k:Nat) 8).cells])]) ?_ V;unfold dW;exact Lq
theorem Py(M:yQ C){l:N_}{v:PV}(T:Tp l v)(o o4 o6 n i left a:Nat)(ha:a<=Z' l)(hi:i<n)(hn:n<=100)(s:JV)(hs:Z' s.exit=i)(w x L:PV)(B:List BX)(rest:aI)(K:bT)(F:PF)(H:PH)
  (J:(dW o o4 o6 n left i).le F) (hH:aO H (wY o o4 o6 v w x L a++B) (BG s w x L))
  (hK:∀E e H' B',(dW o o4 o6 n left i).le e->aO H' (wY o o4 o6 v w x E (gR l n i a).2++B') (BG { s with exit:=s.exit++[(gR l n i a).1] } w x E)->aI.wp C rest K e H') :
  aI.wp C (.seq (.region c8) (.seq (.seq (.region c9) (.cond (.tmp 58) (.region da) .skip)) (.seq (.region OR) rest))) K F H:=by
 have f0:F 0=some (.ptr o 2 0 0):=J 0 _ (by unfold dW;simp only[go_sem]);have f4:F 4=some (.ptr o4 4 0 0):=J 4 _ (by unfold dW;simp only[go_sem]);have f5:F 5=some (.j n):=J 5 _ (by unfold dW;simp only[go_sem]);have f6:F 6=some (.ptr o6 4 0 0):=J 6 _ (by unfold dW;simp only[go_sem]);have f7:F 7=some (.j left):=J 7 _ (by unfold dW;simp only[go_sem]);have f8:F 8=some (.j i):=J 8 _ (by unfold dW;simp only[go_sem]);have e1:i_.wrap ((i:Int)+1)=((i+1:Nat):Int):=fQ Om;simp only[go_sem,c8,f0];refine oT (M.frac l v T o a ha) (hH.at 0 rfl) rfl ?_;have W:=hH.set 0 rfl (bD v (iA l a).2);simp only[go_sem];refine aQ λp hp=>?_;have A:=W.new hp (.rows 3 [(iA l a).1.cells]);simp only[go_sem,c9,f8,f5,e1];have fin:∀(e:PF)(H':PH),(dW o o4 o6 n left i).le e->e 12=some (.ptr p 3 0 0)->aO H' (wY o o4 o6 v w x L (gR l n i a).2++B++[(p,.rows 3 [(gR l n i a).1.cells])]) (BG s w x L)->wpOps C OR (aI.wp C rest K) e H':=by
  intro e H' u O y;have q0:e 0=some (.ptr o 2 0 0):=u 0 _ (by unfold dW;simp only[go_sem]);have q4:e 4=some (.ptr o4 4 0 0):=u 4 _ (by unfold dW;simp only[go_sem]);have q5:e 5=some (.j n):=u 5 _ (by unfold dW;simp only[go_sem]);have q6:e 6=some (.ptr o6 4 0 0):=u 6 _ (by unfold dW;simp only[go_sem]);have q7:e 7=some (.j left):=u 7 _ (by unfold dW;simp only[go_sem]);have q8:e 8=some (.j i):=u 8 _ (by unfold dW;simp only[go_sem]);have g6:=y.at 2 rfl;have S:=y.LF;have U:(1:Nat)*3<=16777216:=by decide
  simp only[go_sem,OR,q6,g6,O,S,U];refine y.append 2 (src:=[(gR l n i a).1.cells]) rfl rfl (cy Om) λE H2 V Y=>?_;rw[DO]at V Y;rw[qA]at Y;obtain⟨q,rfl⟩:=Y aX;have R:=V.at 2 rfl;simp only[go_sem,R,aqG,aqS,or_false,forall_eq];have h3:=V.set 2 rfl (cp w x (.osl q 3 0 (s.exit++[(gR l n i a).1]).length));refine hK _ _ _ (B++[(p,.rows 3 [(gR l n i a).1.cells])]) ?_ h3;unfold dW;exact Lq
 by_cases c:i+1<n;have N:((i+1:Nat):Int)<(n:Nat):=Om;have X:=AJ l ha;simp only[go_sem,N,f0];refine eF M.toIA T (o:=o) (n:=3) (a:=(iA l a).2) aT X rfl (A.at 0 rfl) ?_;have D:=A.set 0 rfl (bD v (aH l 3 (iA l a).2).2);by_cases Z:(aH l 3 (iA l a).2).1=0;have he:gR l n i a=(mB,(aH l 3 (iA l a).2).2):=by unfold gR;simp only[aE c,Z,if_true]
 have S:=aO.LF (B:=wY o o4 o6 v w x L (aH l 3 (iA l a).2).2++B) D;simp only[go_sem,cC (show(((aH l 3 (iA l a).2).1:Nat):Int)=0 by omega),da];refine aD (M.int 0 (by unfold eK;omega)) rfl ?_;simp only[go_sem,S];refine fin _ _ ?_ rfl ?_;unfold dW;exact Lq;rw[he];exact aO.XK (B:=wY o o4 o6 v w x L (aH l 3 (iA l a).2).2++B) D (.rows 3 [mB.cells]);have he:gR l n i a=((iA l a).1,(aH l 3 (iA l a).2).2):=by unfold gR;simp only[aE c,Z,if_false]
 simp only[go_sem,bJ (show ¬(((aH l 3 (iA l a).2).1:Nat):Int)=0 by omega)];refine fin _ _ ?_ rfl ?_;unfold dW;exact Lq;rw[he];exact D;have N:¬((i+1:Nat):Int)<(n:Nat):=Om;have he:gR l n i a=iA l a:=by unfold gR;simp only[aC c]
 simp only[go_sem,N];refine fin _ _ ?_ rfl ?_;unfold dW;exact Lq;rw[he];exact A
def S4(l:N_)(v:PV)(o dR a:Nat)(r:PV)(H:PH):Prop:=r=.agg (wG l dR a).1.cells/\H=h_.set o (bD v (wG l dR a).2)
theorem Q6{l:List (List RF)}(h:Z' l<=1000):roomFor (AU l).length 1 24:=by
 unfold roomFor;simp only[apP,maxLen];omega
theorem Q7(l:List (List RF))(x:List RF):AU l++[[frs x]]=AU (l++[x]):=by simp[AU]
theorem K8(Lb:yQ C){l:N_}{v:PV}(T:Tp l v)(o o4 o6 n left i a:Nat)(ha:a<=Z' l)(hn:n<=100)(hi:i<n)(s:JV)(hs:Z' s.aoH=i)(A N J:PV)(B:List BX)(K:bT)(F:PF)(H:PH)
  (L:(dW o o4 o6 n left i).le F) (hH:aO H (wY o o4 o6 v A N J a++B) (BG s A N J))
  (hK:∀E D W H' B',(dW o o4 o6 n left i).le W->(∃q,D=.osl q 3 0 n)->aO H' (wY o o4 o6 v A E J (eW l i a n).2++B') [(A,3,jD s.start),(E,1,AU s.aoH++[[D]]),(J,3,jD s.exit),(D,3,jD (eW l i a n).1)]->K .normal W H') :
  aI.wp C (.seq (.region db) (.seq (.seq (.region dd) (.block 2 (.loop OQ))) (.region dh))) K F H:=by
 have f0:F 0=some (.ptr o 2 0 0):=L 0 _ (by unfold dW;simp only[go_sem]);have f4:F 4=some (.ptr o4 4 0 0):=L 4 _ (by unfold dW;simp only[go_sem]);have f5:F 5=some (.j n):=L 5 _ (by unfold dW;simp only[go_sem]);have f6:F 6=some (.ptr o6 4 0 0):=L 6 _ (by unfold dW;simp only[go_sem]);have f7:F 7=some (.j left):=L 7 _ (by unfold dW;simp only[go_sem]);have f8:F 8=some (.j i):=L 8 _ (by unfold dW;simp only[go_sem]);simp only[go_sem,db,dd];refine Vj (C:=C) Lb T o o4 o6 n left i a ha hn hi ([(o4,Bp),(o6,cp A N J)]++B) (BG s A N J) _ _ H ?_ hH ?_;unfold iI;exact lE6 f0 f4 f5 f6 f7 f8;intro w x H1 e y;have u:=fy l i a n;have hw:∃q,w=.osl q 3 0 n:=by
  rcases y.own (v:=w) 3 rfl with⟨M,_⟩|⟨q,rs,M,_⟩
  have:=congrArg List.length M;rw[qA,u]at this;simp at this;omega;rw[qA,u]at M;exact⟨q,M⟩
 obtain⟨q,rfl⟩:=hw;have g0:x 0=some (.ptr o 2 0 0):=e 0 _ (by unfold iI;simp only[go_sem]);have g4:x 4=some (.ptr o4 4 0 0):=e 4 _ (by unfold iI;simp only[go_sem]);have g5:x 5=some (.j n):=e 5 _ (by unfold iI;simp only[go_sem]);have X:x 6=some (.ptr o6 4 0 0):=e 6 _ (by unfold iI;simp only[go_sem]);have g7:x 7=some (.j left):=e 7 _ (by unfold iI;simp only[go_sem]);have g8:x 8=some (.j i):=e 8 _ (by unfold iI;simp only[go_sem]);have R:x 13=some (.osl q 3 0 n):=e 13 _ (by unfold iI;simp only[go_sem]);have b6:=y.at 2 rfl;have S:(1:Nat)*1<=16777216:=by decide
 simp only[go_sem,dh,X,b6,R,S,aqG,aqS,or_false,forall_eq];refine y.append 1 (src:=[[.osl q 3 0 n]]) rfl Sq (Q6 Om) λE H2 Y V=>?_;obtain⟨q2,rfl⟩:=V aX;have O:=Y.at 2 rfl;simp only[go_sem,O,aqG,aqS,or_false,forall_eq];have Z:=Y.set 2 rfl (cp A (.osl q2 1 0 (AU s.aoH++[[PV.osl q 3 0 n]]).length) J);have U:(AU s.aoH++[[(PV.osl q 3 0 n:PV)]]).length=Z' s.aoH+1:=by simp
 rw[U]at Z ⊢;refine hK (.osl q2 1 0 (Z' s.aoH+1)) (.osl q 3 0 n) _ _ B ?_ ⟨q,rfl⟩ Z;unfold dW;exact lE6 g0 g4 g5 X g7 g8
theorem aaL(L:yQ C){l:N_}{v:PV}(T:Tp l v)(o dR a:Nat)(hm:0<dR)(ε:dR<=50)(ha:a<=Z' l):um.wp C (aW lC.res (S4 l v o dR a)) (g_ [.ptr o 2 0 0,.j dR]) (h_.set o (bD v a)):=by
 have h0:aO (h_.set o (bD v a)) [(o,bD v a)] []:=aO.nil.new (H:=h_) rfl (bD v a);simp only[go_sem,um,lC];refine aQ λo4 γ=>?_;have K:=h0.new γ Bp;simp only[go_sem];refine eF L.toIA T (o:=o) (n:=dR) (a:=a) Om ha Sq (K.at 0 rfl) ?_;have h2:=K.set 0 rfl (bD v (aH l dR a).2);have hN:=cJ l hm a;have Z:=bN l dR ha;have e1:i_.wrap (1+((aH l dR a).1:Int))=((1+(aH l dR a).1:Nat):Int):=wO_
 have β:∀s:JV,s=iW l (1+(aH l dR a).1) (aH l dR a).2 (1+(aH l dR a).1)->wG l dR a=(⟨[],s.start,s.aoH,s.exit⟩,s.a):=λs hs=>by rw[hs];rfl
 have Y:∀r H,S4 l v o dR a r H↔r=.agg (wG l dR a).1.cells/\H=h_.set o (bD v (wG l dR a).2):=λ_ _=>Iff.rfl;generalize hn:1+(aH l dR a).1=n at *
 generalize hb:(aH l dR a).2=b at *
 have ζ:0<n:=Om;have e:n<=100:=Om;simp only[go_sem,e1];refine aQ λo6 δ=>?_;have h3:=((h2.new δ Bp).oF 3).oF 1;have h4:=h3.oF 3;simp only[go_sem];refine wp_loop (α:=Nat × PV × PV × PV × PH) (λt=>dW o o4 o6 n (iW l n b t.1).left t.1) (λt=>t.2.2.2.2)
  (λt=>t.1<=n/\aO t.2.2.2.2 (wY o o4 o6 v t.2.1 t.2.2.1 t.2.2.2.1 (iW l n b t.1).a) (BG (iW l n b t.1) t.2.1 t.2.2.1 t.2.2.2.1)) (λt=>n-t.1) (0,.aG,.aG,.aG,_) ⟨apR _,h4⟩ ?_ b_ ?_
 unfold dW
 (repeat' (first|exact d_|refine e_ ?_ ?_))<;>first|(simp only[go_sem,iW]<;>rfl)|rfl
 rintro⟨i,w1,M,N,H0⟩ ⟨hi,F⟩;simp only at hi F ⊢;obtain⟨k1,k2,k3,k4,k5⟩:=re l n Z i;simp only[go_sem,dW];by_cases hlt:i<n;have D:(i:Int)<(n:Nat):=Om;have E:iW l n b (i+1)=⟨(iW l n b i).start++[mkT ((eU l n i (iW l n b i)).1:Nat) 8],(iW l n b i).exit++[(gR l n i (eU l n i (iW l n b i)).2).1],(iW l n b i).aoH++[(eW l i (gR l n i (eU l n i (iW l n b i)).2).2 n).1],(iW l n b i).left-(eU l n i (iW l n b i)).1,(eW l i (gR l n i (eU l n i (iW l n b i)).2).2 n).2⟩:=rfl;have kl:=cr l n i (iW l n b i) k1;have ke:=Ar l n i kl.1;generalize hs:iW l n b i=s at *
 simp only[go_sem,D];refine Pz (C:=C) L T o o4 o6 n i s k1 k2 e hlt [(o4,Bp),(o6,cp w1 M N)] (BG s w1 M N) _ _ _ H0 (by unfold dW;exact Lq) F ?_;intro F1 H1 O f9 U;refine K9 (C:=C) (l:=l) L o o4 o6 n i _ (eU l n i s).1 (eU l n i s).2 Om hlt e s k3 w1 M N [] _ _ F1 H1 O f9 U ?_;intro u F2 H2 B2 R V;refine Py (C:=C) L T o o4 o6 n i _ (eU l n i s).2 kl.1 hlt e { s with start:=s.start++[mkT ((eU l n i s).1:Nat) 8] } k4 u M N B2 _ _ F2 H2 R V ?_;intro y F3 H3 B3 S W;refine K8 (C:=C) L T o o4 o6 n _ i (gR l n i (eU l n i s).2).2 ke e hlt { s with start:=s.start++[mkT ((eU l n i s).1:Nat) 8],exit:=s.exit++[(gR l n i (eU l n i s).2).1] } k5 u M y B3 _ F3 H3 S W ?_;rintro B η J H4 B4 A ⟨q,rfl⟩ X;have g0:J 0=some (.ptr o 2 0 0):=A 0 _ (by unfold dW;simp only[go_sem]);have g4:J 4=some (.ptr o4 4 0 0):=A 4 _ (by unfold dW;simp only[go_sem]);have g5:J 5=some (.j n):=A 5 _ (by unfold dW;simp only[go_sem]);have g6:J 6=some (.ptr o6 4 0 0):=A 6 _ (by unfold dW;simp only[go_sem]);have g7:J 7=some (.j (s.left-(eU l n i s).1:Nat)):=A 7 _ (by unfold dW;simp only[go_sem]);have g8:J 8=some (.j i):=A 8 _ (by unfold dW;simp only[go_sem]);obtain⟨rs,z1,z2,z3,z4,z5⟩:=X.frz 3 rfl;have y1:=z4 0 _ aT rfl;have y2:=z4 1 _ aT rfl;have y3:=z4 2 _ aT rfl;simp only at y1 y2 y3;have y4:=T.frz q 3 rs;simp only[go_sem,g8,wZz i];refine IM (i+1,u,B,y,H4.frz q 3 rs) z1 ⟨hlt,?_⟩ sO_ ?_ b_;rw[E];have eB:(wY o o4 o6 v u B y (eW l i (gR l n i (eU l n i s).2).2 n).2).map (λb=>(b.1,b.2.frz q 3 rs))=wY o o4 o6 v u B y (eW l i (gR l n i (eU l n i s).2).2 n).2:=by simp only[aqQ,arL,aR.frz,y1,y2,y3,y4];rfl
 have eL:([(u,3,jD (s.start++[mkT ((eU l n i s).1:Nat) 8])),(B,1,AU s.aoH++[[.osl q 3 0 n]]),(y,3,jD (s.exit++[(gR l n i (eU l n i s).2).1]))]:List LI).map (λx=>(x.1,x.2.1,x.2.2.map λr=>r.map (PV.cZ q 3 rs))) =
   BG ⟨s.start++[mkT ((eU l n i s).1:Nat) 8],s.exit++[(gR l n i (eU l n i s).2).1],s.aoH++[(eW l i (gR l n i (eU l n i s).2).2 n).1],s.left-(eU l n i s).1,(eW l i (gR l n i (eU l n i s).2).2 n).2⟩ u B y:=by
  have e2:(AU s.aoH++[[PV.osl q 3 0 n]]).map (λr=>r.map (PV.cZ q 3 rs))=AU (s.aoH++[(eW l i (gR l n i (eU l n i s).2).2 n).1]):=by rw[aqP,vq,aqQ,arL,aqQ,arL,z2,Q7]
  show([(u,3,(jD (s.start++[mkT ((eU l n i s).1:Nat) 8])).map (λr=>r.map (PV.cZ q 3 rs))),(B,1,(AU s.aoH++[[PV.osl q 3 0 n]]).map (λr=>r.map (PV.cZ q 3 rs))),(y,3,(jD (s.exit++[(gR l n i (eU l n i s).2).1])).map (λr=>r.map (PV.cZ q 3 rs)))]:List LI)=_;rw[NL,e2,NL]
 rw[<-eB,<-eL];exact z5.sub (by rw[aqP];exact List.sublist_append_left ..) (asF.refl _);rw[E];exact lE6 g0 g4 g5 g6 g7 g8;have D:¬(i:Int)<(n:Nat):=Om;have:i=n:=Om;subst this;simp only[go_sem,D];have b4:=F.at 1 rfl;have b6:=F.at 2 rfl;have osl:∀{w:PV}{z:Nat}{rows:P2_},Z' rows=i->bA H0 z w rows->∃q,w=.osl q z 0 i:=by
  intro w z rows hr hO;rcases hO with⟨K,_⟩|⟨q,rs,K,_⟩
  rw[K]at hr;simp at hr;omega;exact⟨q,by rw[K,hr]⟩
 obtain⟨q1,rfl⟩:=osl (by rw[qA,k3]) (F.own 0 rfl);obtain⟨q2,rfl⟩:=osl (by rw[apP,k5]) (F.own 1 rfl);obtain⟨q3,rfl⟩:=osl (by rw[qA,k4]) (F.own 2 rfl);have hR:=β (iW l i b i) rfl;simp only[go_sem,b6,b4,aqG,aqS,or_false,forall_eq,forall_eq_or_imp];have x1:=F.set 1 rfl (cp (.osl q1 3 0 i) (.osl q2 1 0 i) (.osl q3 3 0 i));obtain⟨r1,s1,s2,s3,s4,s5⟩:=x1.frz 0 rfl;have u2:=s4 1 _ aT rfl;have u3:=s4 2 _ aT rfl;simp only at u2 u3;have u4:=T.frz q1 3 r1;obtain⟨r2,t1,t2,t3,t4,t5⟩:=s5.frz 0 rfl;have m3:=t4 1 _ aT rfl;simp only at m3;have m4:=T.frz q2 1 r2;obtain⟨r3,n1,n2,n3,n4,n5⟩:=t5.frz 0 rfl;have n4:=T.frz q3 3 r3;refine rJ (vs:=[.agg [.str [],.osl q1 3 0 i,.osl q2 1 0 i,.osl q3 3 0 i]]) (.inr rfl) ?_ (.step s1 (.step t1 (.step n1 (.done (H2:=h_.set o (bD v (iW l i b i).a)) ?_ (c_ a_ ?_)))));simp only[go_sem];rw[Y,hR];refine⟨?_,rfl⟩;simp only[bO,PV.frz,PV.nF,aqQ,arL,s2,u2,u3,t2,m3,n2];simp only[PV.cZ,NL _ _ _ _,vq _ _ _ _];have:=n5.at 0 rfl;rw[this];simp only[aR.frz,aqQ,arL,u4,m4,n4];rfl
structure rA(C:Ctx):Prop extends yQ C where
 law:∀(l:N_)(v:PV),Tp l v->∀(o dR a:Nat),0<dR->dR<=50->a<=Z' l->aJ C 2 [.ptr o 2 0 0,.int .i64 dR] (h_.set o (bD v a)) (S4 l v o dR a)
structure GOk(l:N_)(aoC:Nat)(s:GS):Prop where
 aoM:Z' s.aoM<=35
 aoW:Z' s.aoW<=aoC
 a:s.a<=Z' l
theorem cc{l:N_}{mc aoC dom:Nat}{s:GS}(h:GOk l aoC s):∀i,GOk l aoC (kX l mc aoC dom s i)/\(kX l mc aoC dom s i).aoM=s.aoM
 |0=>⟨h,rfl⟩
 |i+1=>by obtain⟨⟨e,x,u⟩,w⟩:=cc (mc:=mc) (dom:=dom) h i;simp only[kX];split;exact⟨⟨e,by simp only[apV,aqH];omega,bN l mc u⟩,w⟩;exact⟨⟨e,x,u⟩,w⟩
theorem G3{l:N_}{level dom aoC:Nat}{s:GS}(h:GOk l aoC s)(e:vL aoC s=false):GOk l aoC (nZ l level dom s)/\∃x:cQ,(nZ l level dom s).aoM=s.aoM++[x]/\x.level=(level:Int)/\x.parent=(dom:Int):=by
 obtain⟨w,i,u⟩:=h;unfold vL at e;rw[Bool.or_eq_false_iff]at e;have y:=of_decide_eq_false e.2;refine⟨⟨?_,i,?_⟩,_,rfl,rfl,rfl⟩;simp only[nZ,apV,aqH];omega;have a1:=bN l 3 (bN l 16 u);simp only[nZ];split;exact bN l 6 a1;exact a1
theorem ce{l:N_}{level aoC dom:Nat}{rec:Nat->GS->GS}(e:∀d t,GOk l aoC t->GOk l aoC (rec d t)/\∃u,(rec d t).aoM=t.aoM++u){s:GS}(h:GOk l aoC s) :
  ∀i,GOk l aoC (iB l level aoC dom rec s i)/\∃u,(iB l level aoC dom rec s i).aoM=s.aoM++u
 |0=>⟨h,[],by simp[iB]⟩
 |i+1=>by obtain⟨w,u,y⟩:=ce e h i;simp only[iB];split;exact⟨w,u,y⟩;rename_i A;obtain⟨g1,x,g2,-⟩:=G3 (level:=level) (dom:=dom) w (by simpa using A);obtain⟨B,E,D⟩:=e ((nZ l level dom (iB l level aoC dom rec s i)).aoM.length-1) _ g1;exact⟨B,u++[x]++E,by rw[D,g2,y];simp⟩
theorem GN{l:N_}{mc aoC:Nat}:∀(k dom:Nat){s:GS},GOk l aoC s->GOk l aoC (fR l mc aoC k dom s)/\∃u,(fR l mc aoC k dom s).aoM=s.aoM++u
 |0,dom,s,h=>by have e:GOk l aoC { s with a:=(aH l 2 s.a).2 }:=⟨h.aoM,h.aoW,bN l 2 h.a⟩;obtain⟨i,w⟩:=cc (mc:=mc) (dom:=dom) e (1+(aH l 2 s.a).1);exact⟨i,[],by simp only[fR];rw[w];simp⟩
 |k+1,dom,s,h=>by have e:GOk l aoC { s with a:=(aH l 2 s.a).2 }:=⟨h.aoM,h.aoW,bN l 2 h.a⟩;exact ce (level:=4-k) (dom:=dom) (λd t x=>GN k d x) e (if 4-k=2 then 1 else 1+(aH l 2 s.a).1)
theorem Kc {l : N_} {level aoC dom : Nat} {rec : Nat -> GS -> GS} {s : GS} {i : Nat} (h : vL aoC (iB l level aoC dom rec s i) = true) : ∀ n, i <= n -> iB l level aoC dom rec s n = iB l level aoC dom rec s i := by
  intro n hn
  induction n with
  | zero => have : i = 0 := Om
            subst this; rfl
  | succ n ih =>
    rcases aqW n i with h' | h'
    · have : i = n + 1 := Om
      subst this; rfl
    · have e := ih h'
      simp only [iB];rw [e, aE h]
def mkS(l:N_)(v:PV):Spec:=λname vs=>match name,vs with
 |29,[.str s,.int _ i]=>some ([],λ_=>aL (.str (s++cN i.toNat)))
 |47,[.int _ n]=>some ([],λ_=>aL (.agg (mkT n 1).cells))
 |4,[.ptr o _ _ _,.int _ n]=>some ([o],λe r H'=>∀a,e o=some (bD v a)->ir l v o n.toNat a r H')
 |_,_=>none
section
variable {C:Ctx} {F:PF} {H Hs:PH} {l:N_} {v:PV} {o a:Nat}
theorem xG(w:IA C)(T:Tp l v){n:Nat}{st:Bool}{args:List aP}{d:O_}{K:K_}(D:n<=1000000)(A:a<=Z' l)(e:aP.evs F args=some [.ptr o 2 0 0,.j n])(E:H o=some (bD v a))
  (i:Hs.le (H.set o (bD v (aH l n a).2))) (B:K (F.put d (.j ((aH l n a).1:Nat))) (H.set o (bD v (aH l n a).2))):dOp C Hs (mkS l v) st (.call 4 args) d K F H:=by
 refine Ah (x:=bD v a) (y:=bD v (aH l n a).2) (r:=.j ((aH l n a).1:Nat)) (R:=λu r H'=>∀a,u o=some (bD v a)->ir l v o n a r H') rfl E (w.next l v T o n a D A) ?_ ?_ e i B;intro b hb;rw[bL]at hb;injection hb with hb
 injection hb with _ hb
 injection hb with hb _
 injection hb with _ hb
 injection hb with hb _
 injection hb with _ hb
 have:a=b:=Om;subst this;exact⟨rfl,rfl⟩;intro r' H' J;exact J a (by rw[bL])
theorem ND(u:yQ C){s:List UInt8}{n:Nat}{st:Bool}{args:List aP}{d:O_}{K:K_}(y:Z' s<=100)(x:n<100)(e:aP.evs F args=some [.str s,.j n])(i:Hs.le H)(w:K (F.put d (.str (s++cN n))) H) :
  dOp C Hs (mkS l v) st (.call 29 args) d K F H:=
 cM (v:=.str (s++cN n)) rfl (u.name s n y x) e i w
theorem Zc(u:IA C){n:Int}{st:Bool}{args:List aP}{d:O_}{K:K_}(x:eK n)(e:aP.evs F args=some [.j n])(i:Hs.le H)(w:K (F.put d (.agg (mkT n 1).cells)) H) :
  dOp C Hs (mkS l v) st (.call 47 args) d K F H:=
 cM (v:=.agg (mkT n 1).cells) rfl (u.int n x) e i w
end
theorem bA.sI{H:PH}{s:Nat}{v:PV}{rows:P2_}(h:bA H s v rows):PV.sI v=some (.j (Z' rows:Nat)):=by
 rcases h with⟨rfl,rfl⟩|⟨q,rs,rfl,_⟩<;>rfl
abbrev mP(l:List cQ):P2_:=l.map cQ.cells
abbrev pY(l:List eG):P2_:=l.map eG.cells
abbrev flB(ext wl i e l wp wv:PV):aR:=.rows 7 [[ext,wl,i,e,l,wp,wv]]
structure GE where
 o:Nat
 fo:Nat
 qm:Nat
 ext:PV
 wl:PV
 wp:PV
 wv:PV
abbrev GE.boxes(G:GE)(v:PV)(mc:Nat)(e i:PV)(a:Nat):List BX:=[(G.o,bD v a),(G.fo,flB G.ext G.wl (.osl G.qm 4 0 mc) e i G.wp G.wv)]
abbrev pJ(s:GS)(e i:PV):List LI:=[(e,7,mP s.aoM),(i,3,pY s.aoW)]
def gS(G:GE)(dom aoC level n i:Nat):PF:=(((((((n_.set 0 (.ptr G.o 2 0 0)).set 1 (.ptr G.fo 7 0 0)).set 2 (.int .i64 dom)).set 3 (.int .i64 aoC)).set 8 (.int .i64 level)).set 9 (.int .i64 n)).set 10 (.int .i64 i))
theorem bA.one{H:PH}{s:Nat}{v:PV}{rows:P2_}(h:bA H s v rows)(e:0<Z' rows):∃q,v=.osl q s 0 rows.length:=by
 rcases h with⟨rfl,_⟩|⟨q,rs,rfl,_⟩
 simp at e;exact⟨q,rfl⟩
theorem Cd(S:rA C){l:N_}{v:PV}(T:Tp l v)(G:GE)(mc aoC dom n:Nat)(γ:0<mc)(Y:mc<=1000)(β:aoC<=60)(hn:n<=10)(s:GS)(hs:GOk l aoC s)(x A:PV)(K:bT)(F:PF)(H:PH)
  (hF:(gS G dom aoC 5 n 0).le F) (y:aO H (G.boxes v mc x A s.a) (pJ s x A))
  (hK:∀L D Z H',aO H' (G.boxes v mc L D (kX l mc aoC dom s n).a) (pJ (kX l mc aoC dom s n) L D)->K (.exit 0) Z H') :
  aI.wp C (.loop CI) K F H:=by
 refine wp_loop (α:=Nat × PV × PV × PH) (λt=>gS G dom aoC 5 n t.1) (λt=>t.2.2.2) (λt=>t.1<=n/\aO t.2.2.2 (G.boxes v mc t.2.1 t.2.2.1 (kX l mc aoC dom s t.1).a) (pJ (kX l mc aoC dom s t.1) t.2.1 t.2.2.1)) (λt=>n-t.1) (0,x,A,H) ⟨apR _,y⟩ hF b_ ?_;rintro⟨i,x,A,R⟩ ⟨hi,y⟩;simp only at hi y ⊢;obtain⟨N,-⟩:=cc (mc:=mc) (dom:=dom) hs i;have u:kX l mc aoC dom s (i+1)=(if(kX l mc aoC dom s i).aoW.length<aoC then{ kX l mc aoC dom s i with aoW:=(kX l mc aoC dom s i).aoW++[⟨[100]++cN (kX l mc aoC dom s i).aoW.length,((aH l mc (kX l mc aoC dom s i).a).1:Nat),(dom:Nat)⟩],a:=(aH l mc (kX l mc aoC dom s i).a).2 }else kX l mc aoC dom s i):=rfl;simp only[go_sem,CI,gS];by_cases hlt:i<n;have w:(i:Int)<(n:Nat):=Om;generalize hg:kX l mc aoC dom s i=g at *
 have b1:=y.at 1 rfl;have O:=(y.own 1 rfl).sI;rw[apP]at O;have U:=wZz i;simp only[go_sem,w,show(((5:Nat):Int)==5)=true from rfl,b1,O];by_cases X:Z' g.aoW<aoC;have B:(Z' g.aoW:Int)<(aoC:Nat):=Om;rw[aE X]at u;simp only[go_sem,B];have J:(h_.set G.fo (flB G.ext G.wl (.osl G.qm 4 0 mc) x A G.wp G.wv)).le R:=c_ a_ b1;refine bE (h_.set G.fo (flB G.ext G.wl (.osl G.qm 4 0 mc) x A G.wp G.wv)) (mkS l v) J ?_;simp only[go_sem,b1,O];refine ND S.toyQ (s:=[100]) (n:=Z' g.aoW) aT (by have:=N.aoW;omega) rfl J ?_;simp only[go_sem];have ho:=y.at 0 rfl;have V:=y.set 0 rfl (bD v (aH l mc g.a).2);have M:=V.at 1 rfl;refine xG S.toIA T (o:=G.o) (n:=mc) (a:=g.a) Om N.a rfl ho (c_ a_ M) ?_;have E:(1:Nat)*3<=16777216:=by decide
 simp only[go_sem,E,aqG,aqS,or_false,forall_eq,forall_eq_or_imp];refine V.append 1 (src:=[(⟨[100]++cN g.aoW.length,((aH l mc g.a).1:Nat),(dom:Nat)⟩:eG).cells]) rfl rfl (by unfold roomFor;rw[apP];have:=N.aoW;simp only[aqH,maxLen];omega) λD H2 W hw=>?_;obtain⟨q,rfl⟩:=hw aX;have b2:=W.at 1 rfl;refine⟨c_ a_ b2,?_⟩;refine bE .nil cO a_ ?_;simp only[go_sem,b2,aqG,aqS,or_false,forall_eq];have h3:=W.set 1 rfl (flB G.ext G.wl (.osl G.qm 4 0 mc) x (.osl q 3 0 (pY g.aoW++[(⟨[100]++cN g.aoW.length,((aH l mc g.a).1:Nat),(dom:Nat)⟩:eG).cells]).length) G.wp G.wv);refine⟨a_,?_⟩;simp only[go_sem,U];refine aF (i+1,x,.osl q 3 0 (pY g.aoW++[(⟨[100]++cN g.aoW.length,((aH l mc g.a).1:Nat),(dom:Nat)⟩:eG).cells]).length,_) ⟨hlt,?_⟩ sO_ ?_ b_;rw[u];have e:pY (g.aoW++[(⟨[100]++cN g.aoW.length,((aH l mc g.a).1:Nat),(dom:Nat)⟩:eG)])=pY g.aoW++[(⟨[100]++cN g.aoW.length,((aH l mc g.a).1:Nat),(dom:Nat)⟩:eG).cells]:=by simp[pY]
 unfold pJ;simp only;rw[e];exact h3;exact Lq;have B:¬(Z' g.aoW:Int)<(aoC:Nat):=Om;rw[aC X]at u;simp only[go_sem,B,U];refine aF (i+1,x,A,R) ⟨hlt,by rw[u];exact y⟩ sO_ ?_ b_;exact Lq;have w:¬(i:Int)<(n:Nat):=Om;have:i=n:=Om;subst this;simp only[go_sem,w];exact hK x A _ _ y
def I0(G:GE)(v:PV)(mc:Nat)(s':GS)(r:PV)(B':List BX)(L':List LI):Prop:=r=.tup []/\∃e i,B'=G.boxes v mc e i s'.a/\L'=pJ s' e i
def io(C:Ctx)(l:N_)(v:PV)(mc aoC k:Nat):Prop:=
 ∀(G:GE)(i u:PV)(s:GS)(dom:Nat)(x:cQ),GOk l aoC s->s.aoM[dom]?=some x->x.level=4-(k:Int)->∀e,aO e (G.boxes v mc i u s.a) (pJ s i u) ->
  aJ C 7 [.ptr G.o 2 0 0,.ptr G.fo 7 0 0,.int .i64 dom,.int .i64 aoC] e (λr H'=>∃B' L',I0 G v mc (fR l mc aoC k dom s) r B' L'/\aO H' B' L')
theorem Pm{lv:Nat}(h:lv<=4):([45,115,114,107,109]:List UInt8)[lv]?=some (oW lv):=by
 match lv,h with
 |0,_=>rfl
 |1,_=>rfl
 |2,_=>rfl
 |3,_=>rfl
 |4,_=>rfl
theorem YY{l:N_}{v:PV}(G:GE)(mc aoC dom lv n i k p:Nat)(γ:lv=4-k)(hk:k<4)(A:io C l v mc aoC k)(g:GS)(x:cQ)(a:Nat)(V:GOk l aoC { g with aoM:=g.aoM++[x],a:=a })(hx:x.level=(lv:Nat))(W y:PV)(β:aoC<=60)(K:bT)(F:PF)(H:PH)
  (u:(gS G dom aoC lv n i).le F) (f11:F 11=some (.ptr p 7 0 0)) (J:aO H (G.boxes v mc W y a++[(p,.rows 7 [x.cells])]) (pJ g W y))
  (hK:∀w B S H',(gS G dom aoC lv n i).le S->aO H' (G.boxes v mc w B (fR l mc aoC k g.aoM.length { g with aoM:=g.aoM++[x],a:=a }).a) (pJ (fR l mc aoC k g.aoM.length { g with aoM:=g.aoM++[x],a:=a }) w B)->K .normal S H') :
  aI.wp C (.draw TX) (gH C (aI.wp C (.region TY)) K) F H:=by
 have f0:F 0=some (.ptr G.o 2 0 0):=u 0 _ (by unfold gS;simp only[go_sem]);have f1:F 1=some (.ptr G.fo 7 0 0):=u 1 _ (by unfold gS;simp only[go_sem]);have f2:F 2=some (.j dom):=u 2 _ (by unfold gS;simp only[go_sem]);have f3:F 3=some (.j aoC):=u 3 _ (by unfold gS;simp only[go_sem]);have f8:F 8=some (.j lv):=u 8 _ (by unfold gS;simp only[go_sem]);have f9:F 9=some (.j n):=u 9 _ (by unfold gS;simp only[go_sem]);have α:F 10=some (.j i):=u 10 _ (by unfold gS;simp only[go_sem]);have N:=V.aoM;simp only[apV,aqH]at N;have b1:=J.at 1 rfl;have b2:=J.at 2 rfl;have D:(1:Nat)*7<=16777216:=by decide
 refine bE .nil cO a_ ?_;simp only[go_sem,TX,f1,f11,b1,b2,D,aqG,aqS,or_false,forall_eq,forall_eq_or_imp];refine J.append 0 (src:=[x.cells]) rfl rfl (by unfold roomFor;rw[apP];simp only[aqH,maxLen];omega) λw H2 E hw=>?_;obtain⟨q,rfl⟩:=hw aX;have hl:(mP g.aoM++[x.cells]).length=Z' g.aoM+1:=by simp
 rw[hl]at E ⊢;have Y:=E.at 1 rfl;refine⟨a_,?_⟩;simp only[go_sem,Y,aqG,aqS,or_false,forall_eq];have U:=E.set 1 rfl (flB G.ext G.wl (.osl G.qm 4 0 mc) (.osl q 7 0 (Z' g.aoM+1)) y G.wp G.wv);have c2:=U.at 1 rfl;refine⟨a_,?_⟩;have e:mP (g.aoM++[x])=mP g.aoM++[x.cells]:=by simp[mP]
 have Z:i_.wrap (((Z' g.aoM+1:Nat):Int)-1)=(Z' g.aoM:Int):=wO_
 simp only[go_sem,TY,f0,f1,f3,Z];have h4:aO (H2.set G.fo (flB G.ext G.wl (.osl G.qm 4 0 mc) (.osl q 7 0 (Z' g.aoM+1)) y G.wp G.wv)) (G.boxes v mc (.osl q 7 0 (Z' g.aoM+1)) y a++[(p,.rows 7 [x.cells])]) (pJ { g with aoM:=g.aoM++[x],a:=a } (.osl q 7 0 (Z' g.aoM+1)) y++[]):=by unfold pJ;simp only;rw[e];exact U
 refine KW h4 (λX M=>A G _ y { g with aoM:=g.aoM++[x],a:=a } g.aoM.length x V aX (by rw[hx];omega) X M) rfl ?_;rintro r B' L' H' ⟨rfl,O,R,rfl,rfl⟩ L;refine hK O R _ _ ?_ (L.sub (List.sublist_append_left ..) (by rw[aqY];exact asF.refl _));unfold gS;exact Lq
theorem RU(U:rA C){l:N_}{v:PV}(T:Tp l v)(G:GE)(mc aoC dom n k:Nat)(hk:k<4)(W:aoC<=60)(hn:n<=10)(O:io C l v mc aoC k)(s:GS)(hs:GOk l aoC s)(ζ:0<Z' s.aoM)(M N:PV)(K:bT)(F:PF)(H:PH)
  (hF:(gS G dom aoC (4-k) n 0).le F) (D:aO H (G.boxes v mc M N s.a) (pJ s M N))
  (Z:∀e A B y H',(e=.exit 0\/e=.ret)->aO H' (G.boxes v mc A B (iB l (4-k) aoC dom (fR l mc aoC k) s n).a) (pJ (iB l (4-k) aoC dom (fR l mc aoC k) s n) A B)->K e y H') :
  aI.wp C (.loop CI) K F H:=by
 obtain⟨lv,S⟩:∃lv,lv=4-k:=⟨_,rfl⟩;rw[<-S]at hF Z;refine wp_loop (α:=Nat × PV × PV × PH) (λt=>gS G dom aoC lv n t.1) (λt=>t.2.2.2) (λt=>t.1<=n/\aO t.2.2.2 (G.boxes v mc t.2.1 t.2.2.1 (iB l lv aoC dom (fR l mc aoC k) s t.1).a) (pJ (iB l lv aoC dom (fR l mc aoC k) s t.1) t.2.1 t.2.2.1)) (λt=>n-t.1) (0,M,N,H) ⟨apR _,D⟩ hF b_ ?_;rintro⟨i,M,N,H0⟩ ⟨hi,D⟩;simp only at hi D ⊢;obtain⟨Y,u,gu⟩:=ce (level:=lv) (dom:=dom) (λd t ht=>GN (mc:=mc) k d ht) hs i;have J:=λh=>Kc (l:=l) (level:=lv) (aoC:=aoC) (dom:=dom) (rec:=fR l mc aoC k) (s:=s) (i:=i) h n hi;have x:iB l lv aoC dom (fR l mc aoC k) s (i+1)=(if vL aoC (iB l lv aoC dom (fR l mc aoC k) s i)then iB l lv aoC dom (fR l mc aoC k) s i else fR l mc aoC k ((nZ l lv dom (iB l lv aoC dom (fR l mc aoC k) s i)).aoM.length-1) (nZ l lv dom (iB l lv aoC dom (fR l mc aoC k) s i))):=rfl;simp only[go_sem,CI,gS];by_cases hlt:i<n;have L:(i:Int)<(n:Nat):=Om;generalize hg:iB l lv aoC dom (fR l mc aoC k) s i=g at *
 have ε:0<Z' g.aoM:=by rw[gu,apV];omega
 have b1:=D.at 1 rfl;have lr:=(D.own 1 rfl).sI;have ld:=(D.own 0 rfl).sI;rw[apP]at lr ld;have ei:=wZz i;simp only[go_sem,L,bJ (Om:((lv:Nat):Int)≠5),b1,lr];by_cases c1:aoC<=Z' g.aoW;have V:vL aoC g=true:=by unfold vL;simp[c1]
 simp only[go_sem,show(Z' g.aoW:Int)>=(aoC:Nat) by omega];exact Z _ M N _ _ (.inr rfl) (by rw[J V];exact D);simp only[go_sem,show ¬(Z' g.aoW:Int)>=(aoC:Nat) by omega,b1,ld];by_cases c2:35<=Z' g.aoM;have V:vL aoC g=true:=by unfold vL;simp[c2]
 simp only[go_sem,show(Z' g.aoM:Int)>=35 by omega];exact Z _ M N _ _ (.inr rfl) (by rw[J V];exact D);have V:vL aoC g=false:=by unfold vL;simp[c1,c2]
 rw[aC (by rw[V];decide)]at x;simp only[go_sem,show ¬(Z' g.aoM:Int)>=35 by omega];have ls:=Pm (Om:lv<=4);refine bE .nil (mkS l v) a_ ?_;have γ:uB [[PV.int IntKind.u8 (((oW lv).toNat:Nat):Int)]]=some [oW lv]:=by simp[uB]
 obtain⟨X,x0,β,-⟩:=G3 (level:=lv) (dom:=dom) Y V;have δ:(nZ l lv dom g).aoM.length-1=Z' g.aoM:=by rw[β];simp
 rw[δ]at x;have h1:=D.set 0 rfl (bD v (aH l 16 g.a).2);have a1:=bN l 16 Y.a;have n1:=cJ l (show 0<16 by decide) g.a;have e1:i_.wrap (1+((aH l 16 g.a).1:Int))=((1+(aH l 16 g.a).1:Nat):Int):=wO_
 simp only[go_sem,ls,γ,b1,ld];refine ND U.toyQ (s:=[oW lv]) (n:=Z' g.aoM) aX (by have:=Y.aoM;omega) rfl a_ ?_;simp only[go_sem];refine xG U.toIA T (o:=G.o) (n:=16) (a:=g.a) Om Y.a rfl (D.at 0 rfl) a_ ?_;simp only[go_sem,e1];refine Zc U.toIA (n:=0) (by unfold eK;omega) rfl a_ ?_;simp only[go_sem,aqG,aqS,or_false,forall_eq,forall_eq_or_imp];refine aQ λp hp=>?_;have h2:=h1.new hp (.rows 7 [(⟨[oW lv]++cN g.aoM.length,(lv:Nat),(dom:Nat),(1+(aH l 16 g.a).1:Nat),mB⟩:cQ).cells]);simp only[go_sem,aqG,aqS,or_false,forall_eq,forall_eq_or_imp];refine⟨a_,?_⟩
 try simp only[go_sem]
 refine eF U.toIA T (o:=G.o) (n:=3) (a:=(aH l 16 g.a).2) aT a1 rfl (h2.at 0 rfl) ?_;have h3:=h2.set 0 rfl (bD v (aH l 3 (aH l 16 g.a).2).2);have a2:=bN l 3 a1;by_cases c3:(aH l 3 (aH l 16 g.a).2).1=0;have hd:nZ l lv dom g={ g with aoM:=g.aoM++[⟨[oW lv]++cN g.aoM.length,(lv:Nat),(dom:Nat),(1+(aH l 16 g.a).1:Nat),mkT 1 ((2+(aH l 6 (aH l 3 (aH l 16 g.a).2).2).1:Nat):Int)⟩],a:=(aH l 6 (aH l 3 (aH l 16 g.a).2).2).2 }:=by unfold nZ;simp only[c3,if_true]
 rw[hd]at x X;have n2:=cJ l (show 0<6 by decide) (aH l 3 (aH l 16 g.a).2).2;have e2:i_.wrap (2+((aH l 6 (aH l 3 (aH l 16 g.a).2).2).1:Int))=((2+(aH l 6 (aH l 3 (aH l 16 g.a).2).2).1:Nat):Int):=wO_
 simp only[go_sem,cC (show(((aH l 3 (aH l 16 g.a).2).1:Nat):Int)=0 by omega)];refine eF U.toIA T (o:=G.o) (n:=6) (a:=(aH l 3 (aH l 16 g.a).2).2) aT a2 rfl (h3.at 0 rfl) ?_;have h4:=h3.set 0 rfl (bD v (aH l 6 (aH l 3 (aH l 16 g.a).2).2).2);rw[PH.set_set]at h4;simp only[go_sem,e2];refine aD (U.fmk 1 ((2+(aH l 6 (aH l 3 (aH l 16 g.a).2).2).1:Nat):Int) (by unfold eK;omega) (by unfold eK;omega)) rfl ?_;unfold CR;rw[aC Om];simp only[go_sem,show ¬p=G.o from h4.ne 2 0 rfl rfl aT];have h5:=h4.set 2 rfl (.rows 7 [(⟨[oW lv]++cN g.aoM.length,(lv:Nat),(dom:Nat),(1+(aH l 16 g.a).1:Nat),mkT 1 ((2+(aH l 6 (aH l 3 (aH l 16 g.a).2).2).1:Nat):Int)⟩:cQ).cells])
 try simp only[s8]
 refine YY G mc aoC dom lv n i k p S hk O g _ _ X rfl M N W _ _ _ (by unfold gS;exact Lq) rfl h5 ?_;intro A B y H' w E;rw[<-x]at E;have R:y 10=some (.j i):=w 10 _ (by unfold gS;simp only[go_sem]);have g0:y 0=some (.ptr G.o 2 0 0):=w 0 _ (by unfold gS;simp only[go_sem]);have g1:y 1=some (.ptr G.fo 7 0 0):=w 1 _ (by unfold gS;simp only[go_sem]);have g2:y 2=some (.j dom):=w 2 _ (by unfold gS;simp only[go_sem]);have g3:y 3=some (.j aoC):=w 3 _ (by unfold gS;simp only[go_sem]);have g8:y 8=some (.j lv):=w 8 _ (by unfold gS;simp only[go_sem]);have g9:y 9=some (.j n):=w 9 _ (by unfold gS;simp only[go_sem]);simp only[go_sem,R,ei];refine aF (i+1,A,B,H') ⟨hlt,E⟩ sO_ ?_ b_;exact Lq;have hd:nZ l lv dom g={ g with aoM:=g.aoM++[⟨[oW lv]++cN g.aoM.length,(lv:Nat),(dom:Nat),(1+(aH l 16 g.a).1:Nat),mB⟩],a:=(aH l 3 (aH l 16 g.a).2).2 }:=by unfold nZ;simp only[c3,if_false]
 rw[hd]at x X;simp only[go_sem,bJ (show ¬(((aH l 3 (aH l 16 g.a).2).1:Nat):Int)=0 by omega)]
 try simp only[s8]
 refine YY G mc aoC dom lv n i k p S hk O g _ _ X rfl M N W _ _ _ (by unfold gS;exact Lq) rfl h3 ?_;intro A B y H' w E;rw[<-x]at E;have R:y 10=some (.j i):=w 10 _ (by unfold gS;simp only[go_sem]);have g0:y 0=some (.ptr G.o 2 0 0):=w 0 _ (by unfold gS;simp only[go_sem]);have g1:y 1=some (.ptr G.fo 7 0 0):=w 1 _ (by unfold gS;simp only[go_sem]);have g2:y 2=some (.j dom):=w 2 _ (by unfold gS;simp only[go_sem]);have g3:y 3=some (.j aoC):=w 3 _ (by unfold gS;simp only[go_sem]);have g8:y 8=some (.j lv):=w 8 _ (by unfold gS;simp only[go_sem]);have g9:y 9=some (.j n):=w 9 _ (by unfold gS;simp only[go_sem]);simp only[go_sem,R,ei];refine aF (i+1,A,B,H') ⟨hlt,E⟩ sO_ ?_ b_;exact Lq;have L:¬(i:Int)<(n:Nat):=Om;have:i=n:=Om;subst this;simp only[go_sem,L];exact Z _ M N _ _ (.inl rfl) D
theorem Ce(N:rA C){l:N_}{v:PV}(T:Tp l v)(mc aoC k:Nat)(U:0<mc)(J:mc<=1000)(D:aoC<=60)(hk:k<=4)(L:∀Z,k=Z+1->io C l v mc aoC Z)(G:GE)(W M:PV)(s:GS)(dom:Nat)(x:cQ)
  (O:GOk l aoC s) (Y:s.aoM[dom]?=some x) (hl:x.level=4-(k:Int)) (R:PH) (F:aO R (G.boxes v mc W M s.a) (pJ s W M)) :
  OP.wp C (aW mI.res (λr H'=>∃B' L',I0 G v mc (fR l mc aoC k dom s) r B' L'/\aO H' B' L')) (g_ [.ptr G.o 2 0 0,.ptr G.fo 7 0 0,.j dom,.j aoC]) R:=by
 have B:dom<Z' s.aoM:=(aqU.1 Y).1;have b1:=F.at 1 rfl;have fin:∀(e:lY)(i u:PV)(y:PF)(H':PH),(e=.exit 0\/e=.ret)->aO H' (G.boxes v mc i u (fR l mc aoC k dom s).a) (pJ (fR l mc aoC k dom s) i u) ->
   fE 0 (aW mI.res (λr H'=>∃B' L',I0 G v mc (fR l mc aoC k dom s) r B' L'/\aO H' B' L')) e y H':=by
  intro e i u y H' he w;rcases he with rfl|rfl
  rw[JX,aE rfl];exact bK (vs:=[]) (.inl rfl) H' rfl b_ ⟨_,_,⟨rfl,i,u,rfl,rfl⟩,w⟩;exact bK (vs:=[]) (.inr rfl) H' rfl b_ ⟨_,_,⟨rfl,i,u,rfl,rfl⟩,w⟩
 obtain⟨q,rs,e1,e2,e3,e4⟩:∃q rs,W=.osl q 7 0 s.aoM.length/\R q=some (.rows 7 rs)/\Z' s.aoM<=Z' rs/\rs.take s.aoM.length=mP s.aoM:=by
  rcases F.own 0 rfl with⟨A,_⟩|⟨q,rs,A,h2,h3,h4⟩
  have:=congrArg List.length A;rw[apP]at this;simp at this;rw[this]at B;simp at B;rw[apP]at A h3 h4;exact⟨q,rs,A,h2,h3,h4⟩
 have V:rs[dom]?=some x.cells:=by
  have:(mP s.aoM)[dom]?=some x.cells:=by simp[mP,Y]
  rw[<-e4,List.getElem?_take_of_lt B]at this;exact this
 subst e1;have c1:(dom:Int)<(Z' s.aoM:Nat):=Om;have ew:i_.wrap (x.level+1)=((5-k:Nat):Int):=by rw[hl,wrap_i64 Om Om];omega
 have β:=cJ l (show 0<2 by decide) s.a;have en:i_.wrap (1+((aH l 2 s.a).1:Int))=((1+(aH l 2 s.a).1:Nat):Int):=wO_
 have A:=F.set 0 rfl (bD v (aH l 2 s.a).2);have E:GOk l aoC { s with a:=(aH l 2 s.a).2 }:=⟨O.aoM,O.aoW,bN l 2 O.a⟩;have α:¬q=G.o:=λh=>F.neL 0 0 rfl rfl rfl h.symm;simp only[go_sem,OP,b1,c1,e2,V,ew];refine eF N.toIA T (o:=G.o) (n:=2) (a:=s.a) aT O.a (by simp only[go_sem];rfl) (F.at 0 rfl) ?_;simp only[go_sem,en];cases k with
 |zero =>simp only[go_sem,bJ (Om:¬((5-0:Nat):Int)=2)];refine Cd (C:=C) N T G mc aoC dom (1+(aH l 2 s.a).1) U J D Om { s with a:=(aH l 2 s.a).2 } E _ M _ _ _ ?_ A ?_;unfold gS;exact Lq;intro i u y H' w;exact fin _ i u y H' (.inl rfl) w
 |succ k=>
  have K:=L k rfl;by_cases X:4-k=2;have S:fR l mc aoC (k+1) dom s=iB l (4-k) aoC dom (fR l mc aoC k) { s with a:=(aH l 2 s.a).2 } 1:=by simp only[fR,aE X]
  simp only[go_sem,cC (show((5-(k+1):Nat):Int)=2 by omega)];refine RU (C:=C) N T G mc aoC dom 1 k Om D aT K { s with a:=(aH l 2 s.a).2 } E sO_ _ M _ _ _ ?_ A ?_;unfold gS
  (repeat' (first|exact d_|refine e_ ?_ ?_))<;>first|(simp only[go_sem,show 4-k=5-(k+1) by omega]<;>rfl)|rfl
  intro e i u y H' he w;rw[<-S]at w;exact fin e i u y H' he w;have S:fR l mc aoC (k+1) dom s=iB l (4-k) aoC dom (fR l mc aoC k) { s with a:=(aH l 2 s.a).2 } (1+(aH l 2 s.a).1):=by simp only[fR,aC X]
  simp only[go_sem,bJ (show ¬((5-(k+1):Nat):Int)=2 by omega)];refine RU (C:=C) N T G mc aoC dom (1+(aH l 2 s.a).1) k Om D Om K { s with a:=(aH l 2 s.a).2 } E sO_ _ M _ _ _ ?_ A ?_;unfold gS
  (repeat' (first|exact d_|refine e_ ?_ ?_))<;>first|(simp only[go_sem,show 4-k=5-(k+1) by omega]<;>rfl)|rfl
  intro e i u y H' he w;rw[<-S]at w;exact fin e i u y H' he w
theorem Be(A:rA C){l:N_}{v:PV}(T:Tp l v)(mc aoC:Nat)(w:0<mc)(i:mc<=1000)(u:aoC<=60)
  (B:∀(args:V_)(H:PH)(R:R_),Z' args=4->OP.wp C (aW mI.res R) (g_ args) H->aJ C 7 args H R):∀k,k<=4->io C l v mc aoC k
 |0,h=>λG K L s dom x F J E y D=>B _ _ _ rfl (Ce A T mc aoC 0 w i u h (λ_ e=>by omega) G K L s dom x F J E y D)
 |k+1,h=>λG K L s dom x F J E y D=>B _ _ _ rfl (Ce A T mc aoC (k+1) w i u h (λM e=>by have:M=k:=Om;subst this;exact Be A T mc aoC w i u B M Om) G K L s dom x F J E y D)
theorem aaB(l:N_)(dR:Nat){a:Nat}(h:a<=Z' l):(wG l dR a).2<=Z' l:=(re l (1+(aH l dR a).1) (bN l dR h) (1+(aH l dR a).1)).1
theorem GU(l:N_){a:Nat}(h:a<=Z' l):∀k,(jE l a k).2<=Z' l/\(jE l a k).1.length=k
 |0=>⟨h,rfl⟩
 |k+1=>by obtain⟨e,i⟩:=GU l h k;exact⟨aaB l 2 e,by simp only[jE,apV,aqH,i]⟩
theorem zI(l:N_)(aoK:Nat){a:Nat}(h:a<=Z' l):∀k,(fU l aoK a k).2<=Z' l/\(fU l aoK a k).1.length=k
 |0=>⟨h,rfl⟩
 |k+1=>by obtain⟨e,i⟩:=zI l aoK h k;exact⟨bN l aoK (bN l 8 (bN l 4 e)),by simp only[fU,apV,aqH,i]⟩
structure FE where
 o:Nat
 o6:Nat
 o7:Nat
 aoC:Nat
 aoE:Nat
abbrev flZ:aR:=flB (.int .i64 0) .aG .aG .aG .aG .aG .aG
abbrev FE.boxes(E:FE)(v ext e i l u w x:PV)(a:Nat):List BX:=[(E.o,bD v a),(E.o7,flB ext e i l u w x),(E.o6,flZ)]
def iS(E:FE):PF:=(((((n_.set 0 (.ptr E.o 2 0 0)).set 1 (.int .i64 E.aoC)).set 2 (.int .i64 E.aoE)).set 6 (.ptr E.o6 7 0 0)).set 7 (.ptr E.o7 7 0 0))
abbrev kI(l:List cS):P2_:=l.map cS.cells
abbrev mC(l:List dL):P2_:=l.map dL.cells
theorem WY{E:FE}{F:PF}(e:F 0=some (.ptr E.o 2 0 0))(i:F 1=some (.j E.aoC))(l:F 2=some (.j E.aoE))(u:F 6=some (.ptr E.o6 7 0 0))(h7:F 7=some (.ptr E.o7 7 0 0)):(iS E).le F:=
 e_ (e_ (e_ (e_ (e_ d_ e) i) l) u) h7
theorem Vc(N:rA C){l:N_}{v:PV}(T:Tp l v)(E:FE)(n a:Nat)(hn:n<=10)(W:a<=Z' l)(ext:PV)(K:bT)(F:PF)(H:PH)
  (U:(((iS E).set 8 (.j n)).set 9 (.j 0)).le F) (y:aO H (E.boxes v ext .aG .aG .aG .aG .aG .aG a) [])
  (V:∀J M H',(iS E).le M->aO H' (E.boxes v ext J .aG .aG .aG .aG .aG (jE l a n).2) [(J,4,kI (jE l a n).1)]->K (.exit 0) M H') :
  aI.wp C (.loop TW) K F H:=by
 refine wp_loop (α:=T3_) (λt=>((iS E).set 8 (.j n)).set 9 (.j t.1)) (λt=>t.2.2) (λt=>t.1<=n/\aO t.2.2 (E.boxes v ext t.2.1 .aG .aG .aG .aG .aG (jE l a t.1).2) [(t.2.1,4,kI (jE l a t.1).1)]) (λt=>n-t.1) (0,.aG,H) ⟨apR _,y.oF 4⟩ U b_ ?_;rintro⟨i,J,Z⟩ ⟨hi,y⟩;simp only at hi y ⊢;obtain⟨Y,k2⟩:=GU l W i;have x:jE l a (i+1)=((jE l a i).1++[{ (wG l 2 (jE l a i).2).1 with name:=[108,97,119]++cN i }],(wG l 2 (jE l a i).2).2):=rfl;simp only[go_sem,TW,iS];by_cases hlt:i<n;have u:(i:Int)<(n:Nat):=Om;generalize hg:jE l a i=g at *
 simp only[go_sem,u];refine oT (N.law l v T E.o 2 g.2 aT aT Y) (y.at 0 rfl) rfl ?_;have R:=y.set 0 rfl (bD v (wG l 2 g.2).2);generalize hz:wG l 2 g.2=z at *
 simp only[go_sem];refine aQ λp hp=>?_;have S:=R.new hp (.rows 4 [z.1.cells]);simp only[go_sem,aqG,aqS,or_false,forall_eq,forall_eq_or_imp];refine aD (N.name [108,97,119] i aT Om) rfl ?_;have A:=S.set 3 rfl (.rows 4 [({ z.1 with name:=[108,97,119]++cN i }:cS).cells]);rw[PH.set_set]at A;have b1:=A.at 1 rfl;have D:¬E.o7=p:=A.ne 1 3 rfl rfl aT;have w:¬E.o7=E.o:=A.ne 1 0 rfl rfl aT;simp only[aM,aC D,aC w]at b1;have L:(1:Nat)*4<=16777216:=by decide
 simp only[go_sem,D,w,b1,L,aqG,aqS,or_false,forall_eq,forall_eq_or_imp];refine A.append 0 (src:=[({ z.1 with name:=[108,97,119]++cN i }:cS).cells]) rfl rfl (by unfold roomFor;rw[apP];simp only[aqH,maxLen];omega) λw' H2 O X=>?_;obtain⟨q,rfl⟩:=X aX;have b2:=O.at 1 rfl;simp only[go_sem,b2,aqG,aqS,or_false,forall_eq];have h5:=O.set 1 rfl (flB ext (.osl q 4 0 (kI g.1++[({ z.1 with name:=[108,97,119]++cN i }:cS).cells]).length) .aG .aG .aG .aG .aG);simp only[go_sem,wZz i];refine aF (i+1,.osl q 4 0 (kI g.1++[({ z.1 with name:=[108,97,119]++cN i }:cS).cells]).length,_) ⟨hlt,?_⟩ sO_ ?_ b_;rw[x];have e:kI (g.1++[{ z.1 with name:=[108,97,119]++cN i }])=kI g.1++[({ z.1 with name:=[108,97,119]++cN i }:cS).cells]:=by simp[kI]
 simp only;rw[e];exact h5.dropLast (B:=E.boxes v ext _ .aG .aG .aG .aG .aG z.2);exact Lq;have u:¬(i:Int)<(n:Nat):=Om;have:i=n:=Om;subst this;simp only[go_sem,u];exact V J _ _ (WY rfl rfl rfl rfl rfl) y
theorem K6(R:rA C){l:N_}{v:PV}(T:Tp l v)(E:FE)(n a nl:Nat)(hn:n<=10)(β:nl<=1000)(ha:a<=Z' l)(ext w:PV)(aoK:List cS)(W:Z' aoK=nl)(K:bT)(F:PF)(H:PH)
  (hF:(((iS E).set 11 (.j n)).set 12 (.j 0)).le F) (A:aO H (E.boxes v ext w .aG .aG .aG .aG .aG a) [(w,4,kI aoK)])
  (hK:∀J S H',(iS E).le S->S 11=some (.j n)->aO H' (E.boxes v ext w J .aG .aG .aG .aG (fU l nl a n).2) [(w,4,kI aoK),(J,4,mC (fU l nl a n).1)]->K (.exit 2) S H') :
  aI.wp C (.loop OG) K F H:=by
 refine wp_loop (α:=T3_) (λt=>((iS E).set 11 (.j n)).set 12 (.j t.1)) (λt=>t.2.2) (λt=>t.1<=n/\aO t.2.2 (E.boxes v ext w t.2.1 .aG .aG .aG .aG (fU l nl a t.1).2) [(w,4,kI aoK),(t.2.1,4,mC (fU l nl a t.1).1)]) (λt=>n-t.1) (0,.aG,H) ⟨apR _,A.oF 4⟩ hF b_ ?_;rintro⟨i,J,H0⟩ ⟨hi,A⟩;simp only at hi A ⊢;obtain⟨k1,k2⟩:=zI l nl ha i;have B:fU l nl a (i+1)=((fU l nl a i).1++[⟨[109]++cN i,(1+(aH l 4 (fU l nl a i).2).1:Nat),(1+(aH l 8 (aH l 4 (fU l nl a i).2).2).1:Nat),((aH l nl (aH l 8 (aH l 4 (fU l nl a i).2).2).2).1:Nat)⟩],(aH l nl (aH l 8 (aH l 4 (fU l nl a i).2).2).2).2):=rfl;simp only[go_sem,OG,iS];by_cases hlt:i<n;have u:(i:Int)<(n:Nat):=Om;generalize hg:fU l nl a i=g at *
 have hx:=cJ l (show 0<4 by decide) g.2;have X:=bN l 4 k1;have hy:=cJ l (show 0<8 by decide) (aH l 4 g.2).2;have Y:=bN l 8 X;have az:=bN l nl Y;have U:=A.set 0 rfl (bD v (aH l 4 g.2).2);have D:=U.set 0 rfl (bD v (aH l 8 (aH l 4 g.2).2).2);have h3:=D.set 0 rfl (bD v (aH l nl (aH l 8 (aH l 4 g.2).2).2).2);generalize M:aH l 4 g.2=x at *
 generalize N:aH l 8 x.2=y at *
 generalize O:aH l nl y.2=z at *
 have b1:=A.at 1 rfl;have lw:=(A.own 0 rfl).sI;rw[apP,W]at lw;have L:(h_.set E.o7 (flB ext w J .aG .aG .aG .aG)).le H0:=c_ a_ b1;have ex:i_.wrap (1+(x.1:Int))=((1+x.1:Nat):Int):=wO_
 have ey:i_.wrap (1+(y.1:Int))=((1+y.1:Nat):Int):=wO_
 simp only[go_sem,u];refine bE (h_.set E.o7 (flB ext w J .aG .aG .aG .aG)) (mkS l v) L ?_;simp only[go_sem];refine ND R.toyQ (s:=[109]) (n:=i) aT Om rfl L ?_;simp only[go_sem];refine xG R.toIA T (o:=E.o) (n:=4) (a:=g.2) aT k1 rfl (A.at 0 rfl) ?_ ?_;rw[M];exact c_ a_ (U.at 1 rfl);rw[M];simp only[go_sem,ex];refine xG R.toIA T (o:=E.o) (n:=8) (a:=x.2) aT X rfl (U.at 0 rfl) ?_ ?_;rw[N];exact c_ a_ (D.at 1 rfl);rw[N];simp only[go_sem,ey,lw];rw[PH.set_set]at D;refine xG R.toIA T (o:=E.o) (n:=nl) (a:=y.2) Om Y rfl (D.at 0 rfl) ?_ ?_;rw[O];exact c_ a_ ((D.set 0 rfl (bD v z.2)).at 1 rfl);rw[O];have Z:=D.set 0 rfl (bD v z.2);have V:(1:Nat)*4<=16777216:=by decide
 simp only[go_sem,V,aqG,aqS,or_false,forall_eq,forall_eq_or_imp];rw[PH.set_set]at Z;refine Z.append 1 (src:=[(⟨[109]++cN i,(1+x.1:Nat),(1+y.1:Nat),(z.1:Nat)⟩:dL).cells]) rfl rfl (by unfold roomFor;rw[apP];simp only[aqH,maxLen];omega) λw' H2 h5 hw=>?_;obtain⟨q,rfl⟩:=hw aX;have b2:=h5.at 1 rfl;refine⟨c_ a_ b2,?_⟩;refine bE .nil cO a_ ?_;simp only[go_sem,b2,aqG,aqS,or_false,forall_eq];have h6:=h5.set 1 rfl (flB ext w (.osl q 4 0 (mC g.1++[(⟨[109]++cN i,(1+x.1:Nat),(1+y.1:Nat),(z.1:Nat)⟩:dL).cells]).length) .aG .aG .aG .aG);refine⟨a_,?_⟩;simp only[go_sem,wZz i];refine aF (i+1,.osl q 4 0 (mC g.1++[(⟨[109]++cN i,(1+x.1:Nat),(1+y.1:Nat),(z.1:Nat)⟩:dL).cells]).length,_) ⟨hlt,?_⟩ sO_ ?_ b_;rw[B];have e:mC (g.1++[⟨[109]++cN i,(1+x.1:Nat),(1+y.1:Nat),(z.1:Nat)⟩])=mC g.1++[(⟨[109]++cN i,(1+x.1:Nat),(1+y.1:Nat),(z.1:Nat)⟩:dL).cells]:=by simp[mC]
 simp only;rw[e];exact h6;exact Lq;have u:¬(i:Int)<(n:Nat):=Om;have:i=n:=Om;subst this;simp only[go_sem,u];exact hK J _ _ (WY rfl rfl rfl rfl rfl) rfl A
abbrev DA(x:bY)(w:PV):V_:=[.str x.name,.int .i64 x.k,.int .i64 x.m,.int .i64 x.apB,.int .i64 x.s0,.int .i64 x.s1,.int .i64 x.s2,.int .i64 x.s3,.int .i64 x.s4,w,frs x.repair,
 .bool x.target.neg,aY x.target.num,aY x.target.den,.bool x.aoN.neg,aY x.aoN.num,aY x.aoN.den]
def rh(E:FE)(mc n i:Nat):PF:=(((iS E).set 11 (.int .i64 mc)).set 13 (.int .i64 n)).set 14 (.int .i64 i)
structure PAt(E:FE)(mc n i:Nat)(F:PF):Prop where
 f0:F 0=some (.ptr E.o 2 0 0)
 f1:F 1=some (.int .i64 E.aoC)
 f2:F 2=some (.int .i64 E.aoE)
 f6:F 6=some (.ptr E.o6 7 0 0)
 f7:F 7=some (.ptr E.o7 7 0 0)
 f11:F 11=some (.int .i64 mc)
 f13:F 13=some (.int .i64 n)
 f14:F 14=some (.int .i64 i)
def wM(l:N_)(a:Nat):Nat->I_ × Nat
 |0=>([],a)
 |j+1=>let s:=wM l a j
  let t:=jU l s.2
  (s.1++[t.1],t.2)
theorem zY(l:N_){a:Nat}(h:a<=Z' l):(jU l a).2<=Z' l:=by
 unfold jU;simp only;split;exact bN l 3 (bN l 3 h);exact bN l 3 h
theorem sn(l:N_){a:Nat}(h:a<=Z' l):∀j,(wM l a j).2<=Z' l/\(wM l a j).1.length=j
 |0=>⟨h,rfl⟩
 |j+1=>by obtain⟨e,i⟩:=sn l h j;exact⟨zY l e,by simp only[wM,apV,aqH,i]⟩
abbrev wL(pre post:V_)(s:I_):V_:=pre++(s.map λx=>PV.int .i64 x)++apX (4-Z' s) (.int .i64 0)++post
theorem abW{pre post:V_}{s:I_}(hp:Z' pre=5)(i:Z' s<4)(x:Int):(wL pre post s).set (5+Z' s) (.j x)=wL pre post (s++[x]):=by
 obtain⟨k,e⟩:∃k,4-Z' s=k+1:=⟨3-Z' s,by omega⟩;unfold wL;rw[apV,aqH,show 4-(Z' s+1)=k by omega,e,List.replicate_succ,aqP,aqQ,arL];rw[List.set_append_left _ _ (by simp[hp]),asY _ _ (by simp[hp])];have:5+Z' s-(pre++s.map λx=>PV.int .i64 x).length=0:=by simp[hp]
 rw[this,asT];simp
theorem Wz{pre post:V_}{s:I_}(hp:Z' pre=5)(i:Z' s<4):wL pre post s=wL pre post (s++[0]):=by
 obtain⟨k,e⟩:∃k,4-Z' s=k+1:=⟨3-Z' s,by omega⟩;unfold wL;rw[apV,aqH,show 4-(Z' s+1)=k by omega,e,List.replicate_succ,aqP,aqQ,arL];simp
theorem K7(Lb:rA C){l:N_}{v:PV}(T:Tp l v)(E:FE)(mc n i a p:Nat)(ha:a<=Z' l)(B:List BX)(L:List LI)(pre post:V_)(e:Z' pre=5)(A:Z' post=8)(K:bT)(F:PF)(H:PH)
  (w:PAt E mc n i F) (U:F 15=some (.ptr p 17 0 0)) (V:F 16=some (.j 1)) (D:aO H ((E.o,bD v a)::B++[(p,.rows 17 [wL pre post []])]) L)
  (hK:∀R H',PAt E mc n i R->R 15=some (.ptr p 17 0 0)->aO H' ((E.o,bD v (wM l a 4).2)::B++[(p,.rows 17 [wL pre post (wM l a 4).1])]) L->K (.exit 6) R H') :
  aI.wp C (.loop DU) K F H:=by
 refine wp_loop (α:=Nat × PH) (λt=>((rh E mc n i).set 15 (.ptr p 17 0 0)).set 16 (.j (t.1+1:Nat))) (λt=>t.2) (λt=>t.1<=4/\aO t.2 ((E.o,bD v (wM l a t.1).2)::B++[(p,.rows 17 [wL pre post (wM l a t.1).1])]) L) (λt=>4-t.1) (0,H) ⟨apR _,D⟩ ?_ b_ ?_;unfold rh iS
 (repeat' (first|exact d_|refine e_ ?_ ?_))<;>first|(simp only[go_sem,w.f0,w.f1,w.f2,w.f6,w.f7,w.f11,w.f13,w.f14,U,V]<;>rfl)|rfl
 rintro⟨j,H0⟩ ⟨hj,D⟩;simp only at hj D ⊢;obtain⟨k1,k2⟩:=sn l ha j;have u:wM l a (j+1)=((wM l a j).1++[(jU l (wM l a j).2).1],(jU l (wM l a j).2).2):=rfl;simp only[go_sem,DU,rh,iS];by_cases hlt:j<4;generalize hg:wM l a j=g at *
 have ei:=fQ (Om:j+1<9223372036854775807);simp only[go_sem,show((j+1:Nat):Int)<5 by omega];refine eF Lb.toIA T (o:=E.o) (n:=3) (a:=g.2) aT k1 (by simp only[go_sem];rfl) (D.at 0 rfl) ?_;have N:aO _ ((E.o,bD v (aH l 3 g.2).2)::B++[(p,.rows 17 [wL pre post g.1])]) L:=D.set 0 rfl (bD v (aH l 3 g.2).2);by_cases c:(aH l 3 g.2).1=0;have Z:jU l g.2=(((1+(aH l 3 (aH l 3 g.2).2).1:Nat):Int),(aH l 3 (aH l 3 g.2).2).2):=by unfold jU;simp only[c,if_true]
 have n2:=cJ l (show 0<3 by decide) (aH l 3 g.2).2;have e2:i_.wrap (1+((aH l 3 (aH l 3 g.2).2).1:Int))=((1+(aH l 3 (aH l 3 g.2).2).1:Nat):Int):=wO_
 simp only[go_sem,cC (show(((aH l 3 g.2).1:Nat):Int)=0 by omega)];refine eF Lb.toIA T (o:=E.o) (n:=3) (a:=(aH l 3 g.2).2) aT (bN l 3 k1) (by simp only[go_sem];rfl) (N.at 0 rfl) ?_;have O:aO _ ((E.o,bD v (aH l 3 (aH l 3 g.2).2).2)::B++[(p,.rows 17 [wL pre post g.1])]) L:=N.set 0 rfl (bD v (aH l 3 (aH l 3 g.2).2).2);have S:=O.LF;rw[PH.set_set]at S O;have M:¬p=E.o:=λh=>by have Y:=O.ndB;simp[fZ,h]at Y
 simp only[aM,aC M]at S;have X:((j+1:Nat):Int)<((5:Nat):Int):=Om;have W:(0:Int)<=((j+1:Nat):Int):=Om;have β:(wL pre post g.1).length=17:=by simp[wL,e,A,k2];omega
 have x:=abW (pre:=pre) (post:=post) (s:=g.1) e Om ((1+(aH l 3 (aH l 3 g.2).2).1:Nat):Int);rw[k2]at x;have J:4+(j+1)*1=5+j:=Om;have y:5+j+1<=17:=Om;simp only[go_sem,e2,X,W,J,M,S,y,aqG,aqS,or_false,forall_eq,x,ei];refine aF (j+1,_) ⟨hlt,?_⟩ sO_ ?_ b_;rw[u,Z];exact O.XK _;exact Lq;have Z:jU l g.2=(0,(aH l 3 g.2).2):=by unfold jU;simp only[c,if_false]
 simp only[go_sem,bJ (show ¬(((aH l 3 g.2).1:Nat):Int)=0 by omega),ei];refine aF (j+1,_) ⟨hlt,?_⟩ sO_ ?_ b_;rw[Wz (pre:=pre) (post:=post) (s:=g.1) e Om]at N;rw[u,Z];exact N;exact Lq;have:j=4:=Om;subst this;simp only[go_sem,show ¬((4+1:Nat):Int)<5 by decide];exact hK _ _ ⟨s_,s_,s_,s_,s_,s_,s_,s_⟩ Sq D
theorem aO.uA{E:FE}{v ext e i l u w x:PV}{a:Nat}{H:PH}{B:List BX}{L:List LI}(h:aO H (E.boxes v ext e i l u w x a++B) L)(b:Nat):aO (H.set E.o (bD v b)) (E.boxes v ext e i l u w x b++B) L:=h.set 0 rfl _
abbrev d6(s:List UInt8)(k m q:Int)(w r e i l:PV)(h:RF):V_:=[.str s,.int .i64 k,.int .i64 m,.int .i64 q,.int .i64 0,.int .i64 0,.int .i64 0,.int .i64 0,.int .i64 0,w,r,e,i,l,.bool h.neg,aY h.num,aY h.den]
theorem Vd {C : Ctx} (Lb : rA C) {l : N_} {v : PV} (T : Tp l v) (E : FE) (mc n i a : Nat) (ha : a <= l.length) (hi : i < 50) (ext w1 w2 w3 w4 w5 w6 : PV) (L : List LI) (rest : aI) (K : bT) (F : PF) (H : PH)
    (hF : PAt E mc n i F) (hH : aO H (E.boxes v ext w1 w2 w3 w4 w5 w6 a) L)
    (hK : ∀ p F' H', PAt E mc n i F' -> F' 15 = some (.ptr p 17 0 0) ->
      (let k := aH l 2 a; let m := aH l 3 k.2; let h := aH l 4 m.2; let q := aH l (m.1 + 1) h.2; let r := mT l q.2 (max m.1 1); let g := aH l 9 r.2
       aO H' (E.boxes v ext w1 w2 w3 w4 w5 w6 g.2 ++ [(p, .rows 17 [wL [.str ([112] ++ cN i), .j (1 + k.1 : Nat), .j (m.1 : Nat), .j (1 + k.1 + q.1 : Nat), .j 0]
        ([.aG, frs r.1] ++ (mkT (g.1 : Nat) 8).cells ++ (mkT ((1 + h.1 : Nat) : Int) 1).cells) []])]) L) -> aI.wp C rest K F' H') :
    aI.wp C (.seq (.region OJ) (.seq (.seq (.draw DW) (.draw DX)) (.seq (.region DY) (.seq (.region DZ) rest)))) K F H := by
  obtain ⟨f0, f1, f2, f6, f7, f11, f13, f14⟩ := hF;have nk := cJ l (show 0 < 2 by decide) a;have ak := bN l 2 ha;have nm := cJ l (show 0 < 3 by decide) (aH l 2 a).2;have am := bN l 3 ak;simp only at hK;generalize hk : aH l 2 a = k at *
  generalize hm : aH l 3 k.2 = m at *
  have nh := cJ l (show 0 < 4 by decide) m.2;have ah := bN l 4 am;generalize hh : aH l 4 m.2 = h at *
  have nq := cJ l (Om : 0 < m.1 + 1) h.2;have aq := bN l (m.1 + 1) ah;generalize hq : aH l (m.1 + 1) h.2 = q at *
  have ar := MC l aq (max m.1 1);generalize hr : mT l q.2 (max m.1 1) = r at *
  have ng := cJ l (show 0 < 9 by decide) r.2;have ag := bN l 9 ar;generalize hg : aH l 9 r.2 = g at *
  have ek : i_.wrap (1 + (k.1 : Int)) = ((1 + k.1 : Nat) : Int) := by rw [wrap_i64 Om Om]; omega
  have eh : i_.wrap (1 + (h.1 : Int)) = ((1 + h.1 : Nat) : Int) := by rw [wrap_i64 Om Om]; omega
  have em : i_.wrap ((m.1 : Int) + 1) = ((m.1 + 1 : Nat) : Int) := fQ Om;have eq' : i_.wrap (((1 + k.1 : Nat) : Int) + (q.1 : Int)) = ((1 + k.1 + q.1 : Nat) : Int) := by rw [wrap_i64 Om Om]; omega
  have h0 : aO H (E.boxes v ext w1 w2 w3 w4 w5 w6 a ++ []) L := by rw [aqY]; exact hH
  simp only[go_sem,OJ,f14];refine aD (Lb.name [112] i aT Om) rfl ?_;simp only[go_sem,f0];refine eF Lb.toIA T (o := E.o) (n := 2) (a := a) aT ha rfl (h0.at 0 rfl) ?_;have g1 := h0.uA k.2;rw [hk];simp only[go_sem,ek,f0];refine eF Lb.toIA T (o := E.o) (n := 3) (a := k.2) aT ak rfl (g1.at 0 rfl) ?_;have g2 := g1.uA m.2;rw [hm];rw [PH.set_set] at g2;simp only[go_sem,f0];refine eF Lb.toIA T (o := E.o) (n := 4) (a := m.2) aT am rfl (g2.at 0 rfl) ?_;have g3 := g2.uA h.2;rw [hh];rw [PH.set_set] at g3;simp only[go_sem,eh];refine aD (Lb.int ((1 + h.1 : Nat) : Int) (by unfold eK; omega)) rfl ?_;simp only[go_sem,aqG,aqS,or_false,forall_eq,forall_eq_or_imp];refine aQ fun p hp => ?_;have g4 := g3.new hp (.rows 17 [d6 ([112] ++ cN i) (1 + k.1 : Nat) (m.1 : Nat) 0 .aG .aG (.bool false) .aG .aG (mkT ((1 + h.1 : Nat) : Int) 1)]);have hpo : ¬ p = E.o := g4.ne 3 0 rfl rfl aT;have hop : ¬ E.o = p := fun e => hpo e.symm;have q2 : ∀ (F2 : PF) (H2 : PH), PAt E mc n i F2 -> F2 15 = some (.ptr p 17 0 0) -> aO H2 (E.boxes v ext w1 w2 w3 w4 w5 w6 h.2 ++ [(p, .rows 17 [d6 ([112] ++ cN i) (1 + k.1 : Nat) (m.1 : Nat) 0 .aG .aG (.bool false) .aG .aG (mkT ((1 + h.1 : Nat) : Int) 1)])]) L ->
      aI.wp C (.seq (.seq (.draw DW) (.draw DX)) (.seq (.region DY) (.seq (.region DZ) rest))) K F2 H2 := by
    intro F2 H2 hF2 f15 hH2;obtain ⟨f0, f1, f2, f6, f7, f11, f13, f14⟩ := hF2;have bp := hH2.at 3 rfl;have hHs : (h_.set p (.rows 17 [d6 ([112] ++ cN i) (1 + k.1 : Nat) (m.1 : Nat) 0 .aG .aG (.bool false) .aG .aG (mkT ((1 + h.1 : Nat) : Int) 1)])).le H2 := c_ a_ bp;simp only[go_sem];refine bE _ (mkS l v) hHs ?_;simp only[go_sem,DW,f15,bp,em,f0];refine xG Lb.toIA T (o := E.o) (n := m.1 + 1) (a := h.2) Om ah rfl (hH2.at 0 rfl) ?_ ?_
    · rw [hq]; exact c_ a_ ((hH2.uA q.2).at 3 rfl)
    rw [hq];have g5 := hH2.uA q.2;simp only[go_sem,eq',f15];refine bE .nil cO a_ ?_;simp only[go_sem,DX,hpo,bp];refine ⟨a_, ?_⟩;have g6 : aO _ (E.boxes v ext w1 w2 w3 w4 w5 w6 q.2 ++ [(p, .rows 17 [d6 ([112] ++ cN i) (1 + k.1 : Nat) (m.1 : Nat) (1 + k.1 + q.1 : Nat) .aG .aG (.bool false) .aG .aG (mkT ((1 + h.1 : Nat) : Int) 1)])]) L := g5.set 3 rfl (.rows 17 [d6 ([112] ++ cN i) (1 + k.1 : Nat) (m.1 : Nat) (1 + k.1 + q.1 : Nat) .aG .aG (.bool false) .aG .aG (mkT ((1 + h.1 : Nat) : Int) 1)]);have bq := g6.at 3 rfl;simp only[go_sem,DY,f0,f15];refine oT (Lb.rep l v T E.o q.2 m.1 Om aq) (g6.at 0 rfl) rfl ?_;have g7 := g6.uA r.2;rw [hr];simp only[go_sem,hpo,f15];have g8 : aO _ (E.boxes v ext w1 w2 w3 w4 w5 w6 r.2 ++ [(p, .rows 17 [d6 ([112] ++ cN i) (1 + k.1 : Nat) (m.1 : Nat) (1 + k.1 + q.1 : Nat) .aG (frs r.1) (.bool false) .aG .aG (mkT ((1 + h.1 : Nat) : Int) 1)])]) L := g7.set 3 rfl (.rows 17 [d6 ([112] ++ cN i) (1 + k.1 : Nat) (m.1 : Nat) (1 + k.1 + q.1 : Nat) .aG (frs r.1) (.bool false) .aG .aG (mkT ((1 + h.1 : Nat) : Int) 1)]);simp only[go_sem,DZ,f0];refine eF Lb.toIA T (o := E.o) (n := 9) (a := r.2) aT ar rfl (g8.at 0 rfl) ?_;have g9 := g8.uA g.2;rw [hg];simp only[go_sem];refine aD (Lb.fmk (g.1 : Int) 8 (by unfold eK; omega) (by unfold eK; omega)) rfl ?_;unfold CR;rw [aC aT];simp only[go_sem,f15,hpo];have g10 := g9.set 3 rfl (.rows 17 [wL [.str ([112] ++ cN i), .j (1 + k.1 : Nat), .j (m.1 : Nat), .j (1 + k.1 + q.1 : Nat), .j 0]
        ([.aG, frs r.1] ++ (mkT (g.1 : Nat) 8).cells ++ (mkT ((1 + h.1 : Nat) : Int) 1).cells) []])
    refine hK p _ _ ⟨by simp only[go_sem,f0], by simp only[go_sem,f1], by simp only[go_sem,f2], by simp only[go_sem,f6], by simp only[go_sem,f7], by simp only[go_sem,f11], by simp only[go_sem,f13], by simp only[go_sem,f14]⟩ (by simp only[go_sem,f15]) g10
  simp only [aI.wp, go_sem] at q2;simp only[go_sem,aqG,aqS,or_false,forall_eq,forall_eq_or_imp];exact q2 _ _ ⟨by simp only[go_sem,f0], by simp only[go_sem,f1], by simp only[go_sem,f2], by simp only[go_sem,f6], by simp only[go_sem,f7], by simp only[go_sem,f11], by simp only[go_sem,f13], by simp only[go_sem,f14]⟩ rfl g4
abbrev FE.lists(x y A B D:PV)(l:List cS)(u:List dL)(e:List cQ)(i:List eG)(w:P2_):List LI:=[(x,4,kI l),(y,4,mC u),(A,7,mP e),(B,3,pY i),(D,17,w)]
theorem Ve(Lb:rA C){l:N_}{v:PV}(T:Tp l v)(E:FE)(mc n i a:Nat)(ha:a<=Z' l)(η:0<mc)(μ:mc<=50)(ext A B D J w5:PV)(lw:List cS)(md:List dL)(dm:List cQ)(dv:List eG)(pr:P2_)(ρ:Z' pr<=50)
  (s:List UInt8) (k m q:Int) (r t h:RF) (M:List RF) (p:Nat) (K:bT) (F:PF) (H:PH)
  (hF:PAt E mc n i F) (x:F 15=some (.ptr p 17 0 0))
  (hH:aO H (E.boxes v ext A B D J w5 .aG a++[(p,.rows 17 [wL [.str s,.j k,.j m,.j q,.j 0] ([.aG,frs M]++t.cells++h.cells) []])]) (FE.lists A B D J w5 lw md dm dv pr))
  (V:(let L:=wM l a 4;let f:=aH l mc L.2;let b:=aH l 2 f.2
   let ms:I_ × Nat:=if 1<mc then(if b.1=0 then([(f.1:Int),1-(f.1:Int)],b.2)else([(f.1:Int)],b.2))else([(f.1:Int)],f.2)
   ∀(w u:PV)(W:PF)(H':PH)(B':List BX),PAt E mc n i W->(∃o,w=.osl o 1 0 ms.1.length)->aO H' (E.boxes v ext A B D J u .aG ms.2++B')
    (FE.lists A B D J u lw md dm dv (pr++[DA ⟨s,k,m,q,0,(L.1.getD 0 0),(L.1.getD 1 0),(L.1.getD 2 0),(L.1.getD 3 0),ms.1,M,t,h⟩ w])++[(w,1,aN ms.1)])->K .normal W H')) :
  aI.wp C (.seq (.seq (.region OK) (.block 6 (.loop DU))) (.seq (.region OL) (.seq (.region OM) (.seq (.seq (.region ON) (.cond (.tmp 143) (.region OO) .skip)) (.region EA))))) K F H:=by
 obtain⟨f0,f1,f2,f6,f7,f11,f13,f14⟩:=hF;simp only[go_sem,OK];refine K7 (C:=C) Lb T E mc n i a p ha [(E.o7,flB ext A B D J w5 .aG),(E.o6,flZ)] _ _ _ rfl rfl _ _ H ⟨by simp only[go_sem,f0],by simp only[go_sem,f1],by simp only[go_sem,f2],by simp only[go_sem,f6],by simp only[go_sem,f7],by simp only[go_sem,f11],by simp only[go_sem,f13],by simp only[go_sem,f14]⟩ (by simp only[go_sem,x]) rfl hH ?_;clear f0 f1 f2 f6 f7 f11 f13 f14 x hH;intro F1 H1 ε x y;obtain⟨f0,f1,f2,f6,f7,f11,f13,f14⟩:=ε;obtain⟨α,ls⟩:=sn l ha 4;have ι:∃N O R S,(wM l a 4).1=[N,O,R,S]:=⟨_,_,_,_,rfl⟩;simp only at V;generalize ν:wM l a 4=L at *
 obtain⟨N,O,R,S,hx⟩:=ι;rw[hx]at V y;replace y:aO H1 (E.boxes v ext A B D J w5 .aG L.2++[(p,.rows 17 [DA ⟨s,k,m,q,0,N,O,R,S,[],M,t,h⟩ .aG])]) (FE.lists A B D J w5 lw md dm dv pr):=y;have nf:=cJ l η L.2;have af:=bN l mc α;generalize hf:aH l mc L.2=f at *
 have ab:=bN l 2 af;generalize hb:aH l 2 f.2=b at *
 have Z:¬p=E.o:=y.ne 3 0 rfl rfl aT;have θ:¬p=E.o7:=y.ne 3 1 rfl rfl aT;have ο:¬E.o7=p:=λe=>θ e.symm;have ξ:¬E.o7=E.o:=y.ne 1 0 rfl rfl aT;simp only[go_sem,OL,f0,f11];refine eF Lb.toIA T (o:=E.o) (n:=mc) (a:=L.2) Om α rfl (y.at 0 rfl) ?_;have h2:=y.set 0 rfl (bD v f.2);rw[hf];simp only[go_sem,OM];refine aQ λo ho=>?_;have h3:=h2.Vq (s:=1) (rows:=aN [(f.1:Int)]) ho;have b3:=h3.at 3 rfl;have ob:¬p=o:=h3.neL 3 5 rfl rfl rfl;have σ:¬E.o7=o:=h3.neL 1 5 rfl rfl rfl;have τ:¬E.o=o:=h3.neL 0 5 rfl rfl rfl;simp only[aM,aC ob,aC Z]at b3;simp only[go_sem,x,ob,Z,b3,aqG,aqS,or_false,forall_eq];have h4:=h3.set 3 rfl (.rows 17 [DA ⟨s,k,m,q,0,N,O,R,S,[],M,t,h⟩ (.osl o 1 0 1)]);have fin:∀(w:PV)(ms:I_)(a':Nat)(W:PF)(H':PH),PAt E mc n i W->W 15=some (.ptr p 17 0 0)->(∃o,w=.osl o 1 0 ms.length) ->
   aO H' (E.boxes v ext A B D J w5 .aG a'++[(p,.rows 17 [DA ⟨s,k,m,q,0,N,O,R,S,ms,M,t,h⟩ w])]) (FE.lists A B D J w5 lw md dm dv pr++[(w,1,aN ms)]) ->
   (∀(u:PV)(U:PF)(H2:PH),PAt E mc n i U->aO H2 (E.boxes v ext A B D J u .aG a'++[(p,.rows 17 [DA ⟨s,k,m,q,0,N,O,R,S,ms,M,t,h⟩ w])]) (FE.lists A B D J u lw md dm dv (pr++[DA ⟨s,k,m,q,0,N,O,R,S,ms,M,t,h⟩ w])++[(w,1,aN ms)])->K .normal U H2) ->
   wpOps C EA (K .normal) W H':=by
  intro w ms a' W H' δ x hw Y ζ;obtain⟨wo,rfl⟩:=hw;obtain⟨f0,f1,f2,f6,f7,f11,f13,f14⟩:=δ;have c1:=Y.at 1 rfl;have c3:=Y.at 3 rfl;have γ:(1:Nat)*17<=16777216:=by decide
  simp only[go_sem,EA,f7,x,c1,c3,γ,aqG,aqS,or_false,forall_eq,forall_eq_or_imp];refine Y.append 4 (src:=[DA ⟨s,k,m,q,0,N,O,R,S,ms,M,t,h⟩ (.osl wo 1 0 ms.length)]) rfl rfl (by unfold roomFor;simp only[aqH,maxLen];omega) λu H2 h5 κ=>?_;obtain⟨q5,rfl⟩:=κ aX;have c2:=h5.at 1 rfl;simp only[go_sem,c2,aqG,aqS,or_false,forall_eq];exact ζ _ _ _ ⟨by simp only[go_sem,f0],by simp only[go_sem,f1],by simp only[go_sem,f2],by simp only[go_sem,f6],by simp only[go_sem,f7],by simp only[go_sem,f11],by simp only[go_sem,f13],by simp only[go_sem,f14]⟩ (h5.set 1 rfl (flB ext A B D J _ .aG))
 simp only[go_sem,ON,f11];by_cases c:1<mc;have c':(mc:Int)>1:=Om;simp only[go_sem,c',f0];refine eF Lb.toIA T (o:=E.o) (n:=2) (a:=f.2) aT af rfl (h4.at 0 rfl) ?_;have h5:=h4.set 0 rfl (bD v b.2);rw[hb];by_cases c2:b.1=0;have X:(b.1:Int)=0:=Om;rw[aE c,aE c2]at V;have e1:i_.wrap (1-(f.1:Int))=1-(f.1:Int):=wrap_i64 Om Om;have c3:=h5.at 3 rfl;have β:(1:Nat)*1<=16777216:=by decide
 simp only[go_sem,cC X,OO,x,Z,e1,β];refine h5.append 5 (src:=[[.j (1-(f.1:Int))]]) rfl rfl (by unfold roomFor;simp only[aN,apP,aqH,maxLen];omega) λw' H2 h6 hw=>?_;obtain⟨q2,rfl⟩:=hw aX;have c4:=h6.at 3 rfl;simp only[go_sem,c4,x,aqG,aqS,or_false,forall_eq];have h7:=h6.set 3 rfl (.rows 17 [DA ⟨s,k,m,q,0,N,O,R,S,[(f.1:Int),1-(f.1:Int)],M,t,h⟩ (.osl q2 1 0 2)]);exact fin (.osl q2 1 0 2) [(f.1:Int),1-(f.1:Int)] b.2 _ _ ⟨by simp only[go_sem,f0],by simp only[go_sem,f1],by simp only[go_sem,f2],by simp only[go_sem,f6],by simp only[go_sem,f7],by simp only[go_sem,f11],by simp only[go_sem,f13],by simp only[go_sem,f14]⟩ (by simp only[go_sem,x]) ⟨q2,rfl⟩ h7 (λu U H2 g1 g2=>V _ u U H2 _ g1 ⟨q2,rfl⟩ g2);have X:¬(b.1:Int)=0:=Om;rw[aE c,aC c2]at V;simp only[go_sem,bJ X];exact fin (.osl o 1 0 1) [(f.1:Int)] b.2 _ _ ⟨by simp only[go_sem,f0],by simp only[go_sem,f1],by simp only[go_sem,f2],by simp only[go_sem,f6],by simp only[go_sem,f7],by simp only[go_sem,f11],by simp only[go_sem,f13],by simp only[go_sem,f14]⟩ (by simp only[go_sem,x]) ⟨o,rfl⟩ h5 (λu U H2 g1 g2=>V _ u U H2 _ g1 ⟨o,rfl⟩ g2);have c':¬(mc:Int)>1:=Om;rw[aC c]at V;simp only[go_sem,c'];exact fin (.osl o 1 0 1) [(f.1:Int)] f.2 _ _ ⟨by simp only[go_sem,f0],by simp only[go_sem,f1],by simp only[go_sem,f2],by simp only[go_sem,f6],by simp only[go_sem,f7],by simp only[go_sem,f11],by simp only[go_sem,f13],by simp only[go_sem,f14]⟩ (by simp only[go_sem,x]) ⟨o,rfl⟩ h4 (λu U H2 g1 g2=>V _ u U H2 _ g1 ⟨o,rfl⟩ g2)
abbrev pK(l:List bY):P2_:=l.map bY.cells
abbrev tD(l:List fV):P2_:=l.map fV.cells
theorem vT{rows:P2_}(h:∀r∈rows,∀c∈r,c.oid=none):Flat rows:=Flat.of λr i c e q s rs=>j0 (h r i c e) q s rs
theorem Hh(l:List cS):Flat (kI l):=vT λr i c e=>by
 obtain⟨x,_,rfl⟩:=aqJ.1 i;simp only[cS.cells,aqG,aqS,or_false]at e;rcases e with rfl|rfl|rfl|rfl<;>rfl
theorem Hj(l:List dL):Flat (mC l):=vT λr i c e=>by
 obtain⟨x,_,rfl⟩:=aqJ.1 i;simp only[dL.cells,aqG,aqS,or_false]at e;rcases e with rfl|rfl|rfl|rfl<;>rfl
theorem Gz(l:List cQ):Flat (mP l):=vT λr i c e=>by
 obtain⟨x,_,rfl⟩:=aqJ.1 i;simp only[cQ.cells,aqG,aqS,or_false]at e;rcases e with rfl|rfl|rfl|rfl|rfl|rfl|rfl<;>rfl
theorem G4(l:List eG):Flat (pY l):=vT λr i c e=>by
 obtain⟨x,_,rfl⟩:=aqJ.1 i;simp only[eG.cells,aqG,aqS,or_false]at e;rcases e with rfl|rfl|rfl<;>rfl
theorem acM(l:List fV):Flat (tD l):=vT λr i c e=>by
 obtain⟨x,_,rfl⟩:=aqJ.1 i;simp only[fV.cells,aqG,aqS,or_false]at e;rcases e with rfl|rfl<;>rfl
theorem Hz(l:List bY):Flat (pK l):=vT λr i c e=>by
 obtain⟨x,_,rfl⟩:=aqJ.1 i;simp only[bY.cells,aqG,aqS,or_false]at e;rcases e with rfl|rfl|rfl|rfl|rfl|rfl|rfl|rfl|rfl|rfl|rfl|rfl|rfl|rfl|rfl|rfl|rfl<;>rfl
theorem Ln(l:N_)(mc i:Nat){a:Nat}(h:a<=Z' l):(pR l mc i a).2<=Z' l:=by
 have u:=bN l 9 (MC l (bN l ((aH l 3 (aH l 2 a).2).1+1) (bN l 4 (bN l 3 (bN l 2 h)))) (max (aH l 3 (aH l 2 a).2).1 1));have e:=bN l mc (zY l (zY l (zY l (zY l u))));unfold pR;simp only;split;split;exact bN l 2 e;exact bN l 2 e;exact e
theorem zQ(l:N_)(mc:Nat){a:Nat}(h:a<=Z' l):∀k,(eY l mc a k).2<=Z' l/\(eY l mc a k).1.length=k
 |0=>⟨h,rfl⟩
 |k+1=>by obtain⟨e,i⟩:=zQ l mc h k;exact⟨Ln l mc k e,by simp only[eY,apV,aqH,i]⟩
theorem KU(l:N_)(pc:Nat){a:Nat}(h:a<=Z' l):∀k,(fW l pc a k).2<=Z' l/\(fW l pc a k).1.length=k
 |0=>⟨h,rfl⟩
 |k+1=>by obtain⟨e,i⟩:=KU l pc h k;exact⟨bN l pc e,by simp only[fW,apV,aqH,i]⟩
theorem Cc(Lb:rA C){l:N_}{v:PV}(T:Tp l v)(E:FE)(mc n a:Nat)(hn:n<=10)(θ:0<mc)(Z:mc<=50)(ha:a<=Z' l)(N:Int)(u y A B:PV)(S:List cS)(U:List dL)(O:List cQ)(R:List eG)(K:bT)(F:PF)(H:PH)
  (L:PAt E mc n 0 F) (W:aO H (E.boxes v (.j N) u y A B .aG .aG a) [(u,4,kI S),(y,4,mC U),(A,7,mP O),(B,3,pY R)])
  (hK:∀V F' H',(iS E).le F'->aO H' (E.boxes v (.j N) u y A B V .aG (eY l mc a n).2) (FE.lists u y A B V S U O R (pK (eY l mc a n).1))->K (.exit 4) F' H') :
  aI.wp C (.loop OH) K F H:=by
 refine wp_loop (α:=T3_) (λt=>rh E mc n t.1) (λt=>t.2.2) (λt=>t.1<=n/\aO t.2.2 (E.boxes v (.j N) u y A B t.2.1 .aG (eY l mc a t.1).2) (FE.lists u y A B t.2.1 S U O R (pK (eY l mc a t.1).1))) (λt=>n-t.1) (0,.aG,H) ⟨apR _,W.oF 17⟩ ?_ b_ ?_;unfold rh iS
 (repeat' (first|exact d_|refine e_ ?_ ?_))<;>first|(simp only[go_sem,L.f0,L.f1,L.f2,L.f6,L.f7,L.f11,L.f13,L.f14]<;>rfl)|rfl
 rintro⟨i,V,H0⟩ ⟨hi,W⟩;simp only at hi W ⊢;obtain⟨k1,k2⟩:=zQ l mc ha i;have J:eY l mc a (i+1)=((eY l mc a i).1++[(pR l mc i (eY l mc a i).2).1],(pR l mc i (eY l mc a i).2).2):=rfl;simp only[go_sem,OH,rh,iS];by_cases hlt:i<n;have D:(i:Int)<(n:Nat):=Om;generalize hg:eY l mc a i=g at *
 simp only[go_sem,D];refine Vd (C:=C) Lb T E mc n i g.2 k1 Om (.j N) u y A B V .aG _ _ _ _ H0 ⟨s_,s_,s_,s_,s_,s_,s_,s_⟩ W ?_;intro p F1 H1 γ β X;simp only at X;have ι:pR l mc i g.2=_:=rfl;have Y:=bN l 9 (MC l (bN l ((aH l 3 (aH l 2 g.2).2).1+1) (bN l 4 (bN l 3 (bN l 2 k1)))) (max (aH l 3 (aH l 2 g.2).2).1 1));refine Ve (C:=C) Lb T E mc n i _ Y θ Z (.j N) u y A B V S U O R _ (by rw[apP,k2];omega) _ _ _ _ (mkT 0 1) _ _ _ p _ F1 H1 γ β X ?_;intro M f b ms w e F2 H2 B' δ hw ε;obtain⟨o,rfl⟩:=hw;have hP:pR l mc i g.2=(⟨[112]++cN i,(1+(aH l 2 g.2).1:Nat),((aH l 3 (aH l 2 g.2).2).1:Nat),(1+(aH l 2 g.2).1+(aH l ((aH l 3 (aH l 2 g.2).2).1+1) (aH l 4 (aH l 3 (aH l 2 g.2).2).2).2).1:Nat),0,M.1.getD 0 0,M.1.getD 1 0,M.1.getD 2 0,M.1.getD 3 0,ms.1,(mT l (aH l ((aH l 3 (aH l 2 g.2).2).1+1) (aH l 4 (aH l 3 (aH l 2 g.2).2).2).2).2 (max (aH l 3 (aH l 2 g.2).2).1 1)).1,mkT ((aH l 9 (mT l (aH l ((aH l 3 (aH l 2 g.2).2).1+1) (aH l 4 (aH l 3 (aH l 2 g.2).2).2).2).2 (max (aH l 3 (aH l 2 g.2).2).1 1)).2).1:Nat) 8,mkT ((1+(aH l 4 (aH l 3 (aH l 2 g.2).2).2).1:Nat):Int) 1⟩,ms.2):=rfl;rw[hP]at J;generalize ζ:(⟨[112]++cN i,(1+(aH l 2 g.2).1:Nat),((aH l 3 (aH l 2 g.2).2).1:Nat),(1+(aH l 2 g.2).1+(aH l ((aH l 3 (aH l 2 g.2).2).1+1) (aH l 4 (aH l 3 (aH l 2 g.2).2).2).2).1:Nat),0,M.1.getD 0 0,M.1.getD 1 0,M.1.getD 2 0,M.1.getD 3 0,ms.1,(mT l (aH l ((aH l 3 (aH l 2 g.2).2).1+1) (aH l 4 (aH l 3 (aH l 2 g.2).2).2).2).2 (max (aH l 3 (aH l 2 g.2).2).1 1)).1,mkT ((aH l 9 (mT l (aH l ((aH l 3 (aH l 2 g.2).2).1+1) (aH l 4 (aH l 3 (aH l 2 g.2).2).2).2).2 (max (aH l 3 (aH l 2 g.2).2).1 1)).2).1:Nat) 8,mkT ((1+(aH l 4 (aH l 3 (aH l 2 g.2).2).2).1:Nat):Int) 1⟩:bY)=P at *
 have η:P.aoD=ms.1:=by rw[<-ζ]
 obtain⟨rs,z1,z2,z3,z4,z5⟩:=ε.frz 5 rfl;have y1:=z4 0 _ aT rfl;have y2:=z4 1 _ aT rfl;have y3:=z4 2 _ aT rfl;have y4:=z4 3 _ aT rfl;have y5:=z4 4 _ aT rfl;simp only at y1 y2 y3 y4 y5;have y0:=T.frz o 1 rs;obtain⟨f0,f1,f2,f6,f7,f11,f13,f14⟩:=δ;simp only[go_sem,f14,wZz i];refine IM (i+1,e,H2.frz o 1 rs) z1 ⟨hlt,?_⟩ sO_ ?_ b_;rw[J];have eB:(E.boxes v (.j N) u y A B e .aG ms.2).map (λb=>(b.1,b.2.frz o 1 rs))=E.boxes v (.j N) u y A B e .aG ms.2:=by show[(E.o,aR.rows 2 [[PV.cZ o 1 rs v,.j ms.2]]),(E.o7,aR.rows 7 [[.j N,PV.cZ o 1 rs u,PV.cZ o 1 rs y,PV.cZ o 1 rs A,PV.cZ o 1 rs B,PV.cZ o 1 rs e,.aG]]),(E.o6,flZ)]=_;rw[y0,y1,y2,y3,y4,y5]
 have e5:(pK g.1++[DA P (.osl o 1 0 ms.1.length)]).map (λr=>r.map (PV.cZ o 1 rs))=pK (g.1++[P]):=by
  rw[aqP,Hz];have:([DA P (.osl o 1 0 ms.1.length)]:P2_).map (λr=>r.map (PV.cZ o 1 rs))=[P.cells]:=by show[[PV.str P.name,.j P.k,.j P.m,.j P.apB,.j P.s0,.j P.s1,.j P.s2,.j P.s3,.j P.s4,PV.cZ o 1 rs (.osl o 1 0 ms.1.length),frs P.repair,.bool P.target.neg,aY P.target.num,aY P.target.den,.bool P.aoN.neg,aY P.aoN.num,aY P.aoN.den]]=_;rw[z2,<-η];rfl
  rw[this];simp[pK]
 have eL:(FE.lists u y A B e S U O R (pK g.1++[DA P (.osl o 1 0 ms.1.length)])).map (λx=>(x.1,x.2.1,x.2.2.map λr=>r.map (PV.cZ o 1 rs)))=FE.lists u y A B e S U O R (pK (g.1++[P])):=by show[(u,4,(kI S).map _),(y,4,(mC U).map _),(A,7,(mP O).map _),(B,3,(pY R).map _),(e,17,(pK g.1++[DA P (.osl o 1 0 ms.1.length)]).map _)]=_;rw[Hh,Hj,Gz,G4,e5]
 rw[<-eB,<-eL];exact z5.sub (by rw[aqP];exact List.sublist_append_left ..) (asF.refl _);exact lE7 f0 f1 f2 f6 f7 f11 f13;have D:¬(i:Int)<(n:Nat):=Om;have:i=n:=Om;subst this;simp only[go_sem,D];exact hK V _ _ (WY Sq Sq Sq Sq Sq) W
theorem Fi(W:rA C){l:N_}{v:PV}(T:Tp l v)(E:FE)(pc n a:Nat)(hn:n<=60)(β:pc<=50)(ha:a<=Z' l)(ext D J M N u:PV)(B:List bY)(U:Z' B=pc)(L:List LI)(K:bT)(F:PF)(H:PH)
  (hF:(((iS E).set 18 (.j n)).set 19 (.j 0)).le F) (y:aO H (E.boxes v ext D J M N u .aG a) ((u,17,pK B)::L))
  (hK:∀x V H',(iS E).le V->aO H' (E.boxes v ext D J M N u x (fW l pc a n).2) ((u,17,pK B)::L++[(x,2,tD (fW l pc a n).1)])->K (.exit 8) V H') :
  aI.wp C (.loop OI) K F H:=by
 refine wp_loop (α:=T3_) (λt=>((iS E).set 18 (.j n)).set 19 (.j t.1)) (λt=>t.2.2) (λt=>t.1<=n/\aO t.2.2 (E.boxes v ext D J M N u t.2.1 (fW l pc a t.1).2) ((u,17,pK B)::L++[(t.2.1,2,tD (fW l pc a t.1).1)])) (λt=>n-t.1) (0,.aG,H) ⟨apR _,y.oF 2⟩ hF b_ ?_;rintro⟨i,x,Z⟩ ⟨hi,y⟩;simp only at hi y ⊢;obtain⟨k1,k2⟩:=KU l pc ha i;have A:fW l pc a (i+1)=((fW l pc a i).1++[⟨[118]++cN i,((aH l pc (fW l pc a i).2).1:Nat)⟩],(aH l pc (fW l pc a i).2).2):=rfl;simp only[go_sem,OI,iS];by_cases hlt:i<n;have w:(i:Int)<(n:Nat):=Om;generalize hg:fW l pc a i=g at *
 have X:=y.set 0 rfl (bD v (aH l pc g.2).2);generalize R:aH l pc g.2=z at *
 have b1:=y.at 1 rfl;have Y:=(y.own 0 rfl).sI;rw[apP,U]at Y;have O:(h_.set E.o7 (flB ext D J M N u x)).le Z:=c_ a_ b1;simp only[go_sem,w];refine bE (h_.set E.o7 (flB ext D J M N u x)) (mkS l v) O ?_;simp only[go_sem];refine ND W.toyQ (s:=[118]) (n:=i) aT Om rfl O ?_;simp only[go_sem,Y];refine xG W.toIA T (o:=E.o) (n:=pc) (a:=g.2) Om k1 rfl (y.at 0 rfl) ?_ ?_;rw[R];exact c_ a_ (X.at 1 rfl);rw[R];have S:(1:Nat)*2<=16777216:=by decide
 simp only[go_sem,S,aqG,aqS,or_false,forall_eq,forall_eq_or_imp];refine X.append (v:=x) (s:=2) (rows:=tD g.1) (Z' L+1) (src:=[(⟨[118]++cN i,(z.1:Nat)⟩:fV).cells]) aX rfl (by unfold roomFor;rw[apP];simp only[aqH,maxLen];omega) λw' H2 h5 hw=>?_;obtain⟨q,rfl⟩:=hw aX;rw[show((u,17,pK B)::L++[(x,2,tD g.1)])=((u,17,pK B)::L)++[(x,2,tD g.1)]from rfl,asY _ _ aX,show L.length+1-((u,17,pK B)::L).length=0 by simp]at h5;have b2:=h5.at 1 rfl;refine⟨c_ a_ b2,?_⟩;refine bE .nil cO a_ ?_;simp only[go_sem,b2,aqG,aqS,or_false,forall_eq];have h6:=h5.set 1 rfl (flB ext D J M N u (.osl q 2 0 (tD g.1++[(⟨[118]++cN i,(z.1:Nat)⟩:fV).cells]).length));refine⟨a_,?_⟩;simp only[go_sem,wZz i];refine aF (i+1,.osl q 2 0 (tD g.1++[(⟨[118]++cN i,(z.1:Nat)⟩:fV).cells]).length,_) ⟨hlt,?_⟩ sO_ ?_ b_;rw[A];have e:tD (g.1++[⟨[118]++cN i,(z.1:Nat)⟩])=tD g.1++[(⟨[118]++cN i,(z.1:Nat)⟩:fV).cells]:=by simp[tD]
 simp only;rw[e];exact h6;exact Lq;have w:¬(i:Int)<(n:Nat):=Om;have:i=n:=Om;subst this;simp only[go_sem,w];exact hK x _ _ (WY rfl rfl rfl rfl rfl) y
def RZ(l:N_)(v:PV)(o aoC aoE a:Nat)(r:PV)(H:PH):Prop:=Co r (.agg (iJ l aoC aoE a).1.cells)/\H=h_.set o (bD v (iJ l aoC aoE a).2)
structure zh(C:Ctx):Prop extends rA C where
 grow:∀(l:N_)(v:PV),Tp l v->∀(mc aoC:Nat),0<mc->mc<=1000->aoC<=60->io C l v mc aoC 4
theorem Pw(O:zh C){l:N_}{v:PV}(T:Tp l v)(o aoC aoE a:Nat)(Δ:aoC<=60)(Ψ:aoE<=50)(ha:a<=Z' l) :
  YX.wp C (aW eC.res (RZ l v o aoC aoE a)) (g_ [.ptr o 2 0 0,.j aoC,.j aoE]) (h_.set o (bD v a)):=by
 have hT:iJ l aoC aoE a=iJ l aoC aoE a:=rfl
 conv at hT=>rhs;unfold iJ
 dsimp only at hT;have hR:∀r H,RZ l v o aoC aoE a r H↔Co r (.agg (iJ l aoC aoE a).1.cells)/\H=h_.set o (bD v (iJ l aoC aoE a).2):=λ_ _=>Iff.rfl;have ne:=cJ l (show 0<2 by decide) a;have ae:=bN l 2 ha;generalize he:aH l 2 a=e at *
 have Ω:=cJ l (show 0<2 by decide) e.2;have ζ:=bN l 2 ae;generalize Θ:aH l 2 e.2=N at *
 obtain⟨R,δ⟩:=GU l ζ (1+N.1);generalize α:jE l N.2 (1+N.1)=aoK at *
 have a':=cJ l (show 0<2 by decide) aoK.2;have η:=bN l 2 R;generalize Λ:aH l 2 aoK.2=u at *
 obtain⟨S,X⟩:=zI l (1+N.1) η (1+u.1);generalize V:fU l (1+N.1) u.2 (1+u.1)=aoD at *
 have κ:GOk l aoC ⟨[mM],[],aoD.2⟩:=⟨by simp,apR _,S⟩;obtain⟨hG,-⟩:=GN (mc:=1+u.1) 4 0 κ;generalize hg:fR l (1+u.1) aoC 4 0 ⟨[mM],[],aoD.2⟩=g at *
 have b':=cJ l (show 0<2 by decide) g.a;have θ:=bN l 2 hG.a;generalize Φ:aH l 2 g.a=pl at *
 obtain⟨U,ε⟩:=zQ l (1+u.1) θ (1+pl.1);generalize β:eY l (1+u.1) pl.2 (1+pl.1)=pols at *
 have c':=cJ l (Om:0<aoE+1) pols.2;have σ:=bN l (aoE+1) U;generalize ο:aH l (aoE+1) pols.2=vo at *
 generalize γ:fW l (1+pl.1) vo.2 vo.1=vols at *
 have ee:i_.wrap (1+(e.1:Int))=((1+e.1:Nat):Int):=wO_
 have τ:i_.wrap (1+(N.1:Int))=((1+N.1:Nat):Int):=wO_
 have υ:i_.wrap (1+(u.1:Int))=((1+u.1:Nat):Int):=wO_
 have χ:i_.wrap (1+(pl.1:Int))=((1+pl.1:Nat):Int):=wO_
 have ψ:i_.wrap ((aoE:Int)+1)=((aoE+1:Nat):Int):=fQ Om;have h0:aO (h_.set o (bD v a)) [(o,bD v a)] []:=aO.nil.new (H:=h_) rfl (bD v a);simp only[go_sem,YX,eC];refine aQ λo6 μ=>?_;have w:=h0.new μ flZ;simp only[go_sem];refine eF O.toIA T (o:=o) (n:=2) (a:=a) aT ha rfl (w.at 0 rfl) ?_;have A:=w.set 0 rfl (bD v e.2);rw[he];simp only[go_sem,ee];refine aQ λo7 ν=>?_;have J:=A.new ν (flB (.j (1+e.1:Nat)) .aG .aG .aG .aG .aG .aG);simp only[go_sem,aqG,aqS,or_false,forall_eq,forall_eq_or_imp];refine eF O.toIA T (o:=o) (n:=2) (a:=e.2) aT ae rfl (J.at 0 rfl) ?_;have h4:=J.set 0 rfl (bD v N.2);rw[Θ];have h5:=h4.perm (B':=FE.boxes ⟨o,o6,o7,aoC,aoE⟩ v (.j (1+e.1:Nat)) .aG .aG .aG .aG .aG .aG N.2) (L':=[]) (asM.cons _ (asM.swap _ _ _)) (asM.refl _);obtain⟨E,i⟩:∃E:FE,E=⟨o,o6,o7,aoC,aoE⟩:=⟨_,rfl⟩;rw[<-i]at h5;simp only[go_sem,τ];refine Vc (C:=C) O.torA T E (1+N.1) N.2 Om ζ _ _ _ _ ?_ h5 ?_
 ·rw[i];unfold iS;exact Lq
 clear h5 h4 J A w h0 μ ν;intro y F1 H1 K w;rw[α]at w;have f0:F1 0=some (.ptr o 2 0 0):=K 0 _ (by rw[i];unfold iS;simp only[go_sem]);have f1:F1 1=some (.j aoC):=K 1 _ (by rw[i];unfold iS;simp only[go_sem]);have f2:F1 2=some (.j aoE):=K 2 _ (by rw[i];unfold iS;simp only[go_sem]);have f6:F1 6=some (.ptr o6 7 0 0):=K 6 _ (by rw[i];unfold iS;simp only[go_sem]);have f7:F1 7=some (.ptr o7 7 0 0):=K 7 _ (by rw[i];unfold iS;simp only[go_sem]);have Y:=w.at 0 rfl;rw[i]at Y;simp only[go_sem,f0];refine eF O.toIA T (o:=o) (n:=2) (a:=aoK.2) aT R rfl Y ?_;have A:=w.set 0 rfl (bD v u.2);rw[Λ];simp only[go_sem,υ];refine K6 (C:=C) O.torA T E (1+u.1) u.2 (1+N.1) Om Om η (.j (1+e.1:Nat)) y aoK.1 δ _ _ _ ?_ (by rw[i]at A ⊢;exact A) ?_
 ·rw[i];unfold iS;exact Lq
 clear Y A w f0 f1 f2 f6 f7 K;intro w2 F2 H2 L f11 A;rw[V]at A;have f0:F2 0=some (.ptr o 2 0 0):=L 0 _ (by rw[i];unfold iS;simp only[go_sem]);have f1:F2 1=some (.j aoC):=L 1 _ (by rw[i];unfold iS;simp only[go_sem]);have f2:F2 2=some (.j aoE):=L 2 _ (by rw[i];unfold iS;simp only[go_sem]);have f6:F2 6=some (.ptr o6 7 0 0):=L 6 _ (by rw[i];unfold iS;simp only[go_sem]);have f7:F2 7=some (.ptr o7 7 0 0):=L 7 _ (by rw[i];unfold iS;simp only[go_sem]);obtain⟨qm,ξ⟩:=(A.own 1 rfl).one (by rw[apP];omega);rw[apP,X]at ξ;subst ξ;have ω:(1:Nat)*7<=16777216:=by decide
 simp only[go_sem];refine aD (O.int 0 (by unfold eK;omega)) rfl ?_;simp only[go_sem,aqG,aqS,or_false,forall_eq,forall_eq_or_imp,ω];refine aQ λod Ξ=>?_;have J:=A.Vq (s:=7) (rows:=mP [mM]) Ξ;have b7:=A.at 1 rfl;rw[i]at b7;have n7:¬o7=od:=by have:=J.neL 1 2 rfl rfl rfl;rw[i]at this;exact this
 simp only[go_sem,f7,b7,n7,aqG,aqS,or_false,forall_eq];have h4:=(J.set 1 rfl (flB (.j (1+e.1:Nat)) y (.osl qm 4 0 (1+u.1)) (.osl od 7 0 1) .aG .aG .aG)).oF 3;rw[i]at h4;have h5:=h4.perm (B':=(GE.mk o o7 qm (.j (1+e.1:Nat)) y .aG .aG).boxes v (1+u.1) (.osl od 7 0 1) .aG aoD.2++[(o6,flZ)]) (L':=pJ ⟨[mM],[],aoD.2⟩ (.osl od 7 0 1) .aG++[(y,4,kI aoK.1),(.osl qm 4 0 (1+u.1),4,mC aoD.1)]) (asM.refl _)
  (List.perm_append_comm (l₁:=[(y,4,kI aoK.1),(.osl qm 4 0 (1+u.1),4,mC aoD.1)]) (l₂:=pJ ⟨[mM],[],aoD.2⟩ (.osl od 7 0 1) .aG))
 simp only[go_sem,f0,f1,f7];refine KW h5 (λH0 Γ=>O.grow l v T (1+u.1) aoC Om Om Δ (GE.mk o o7 qm (.j (1+e.1:Nat)) y .aG .aG) (.osl od 7 0 1) .aG ⟨[mM],[],aoD.2⟩ 0 mM κ rfl rfl H0 Γ) (by simp only[go_sem,f0,f1,f7];rfl) ?_;rintro r B' L' H3 ⟨rfl,D,F,rfl,rfl⟩ h6;rw[hg]at h6;have h7:=h6.perm (B':=E.boxes v (.j (1+e.1:Nat)) y (.osl qm 4 0 (1+u.1)) D F .aG .aG g.a) (L':=[(y,4,kI aoK.1),(.osl qm 4 0 (1+u.1),4,mC aoD.1),(D,7,mP g.aoM),(F,3,pY g.aoW)]) (by rw[i];exact asM.refl _)
  (List.perm_append_comm (l₁:=pJ g D F) (l₂:=[(y,4,kI aoK.1),(.osl qm 4 0 (1+u.1),4,mC aoD.1)]))
 have Y:=h7.at 0 rfl;rw[i]at Y;simp only[go_sem,f0];refine eF O.toIA T (o:=o) (n:=2) (a:=g.a) aT hG.a rfl Y ?_;have h8:=h7.set 0 rfl (bD v pl.2);rw[Φ];simp only[go_sem,χ];refine Cc (C:=C) O.torA T E (1+u.1) (1+pl.1) pl.2 Om Om Om θ ((1+e.1:Nat):Int) y (.osl qm 4 0 (1+u.1)) D F aoK.1 aoD.1 g.aoM g.aoW _ _ _ (by rw[i];exact⟨by simp only[go_sem,f0],by simp only[go_sem,f1],by simp only[go_sem,f2],by simp only[go_sem,f6],by simp only[go_sem,f7],by simp only[go_sem,f11],s_,by simp only[go_sem];rfl⟩) (by rw[i]at h8 ⊢;exact h8) ?_;clear h8 h7 h6 h5 h4 J A Y b7 f0 f1 f2 f6 f7 L;intro Z F4 H4 M w;rw[β]at w;have f0:F4 0=some (.ptr o 2 0 0):=M 0 _ (by rw[i];unfold iS;simp only[go_sem]);have f1:F4 1=some (.j aoC):=M 1 _ (by rw[i];unfold iS;simp only[go_sem]);have f2:F4 2=some (.j aoE):=M 2 _ (by rw[i];unfold iS;simp only[go_sem]);have f6:F4 6=some (.ptr o6 7 0 0):=M 6 _ (by rw[i];unfold iS;simp only[go_sem]);have f7:F4 7=some (.ptr o7 7 0 0):=M 7 _ (by rw[i];unfold iS;simp only[go_sem]);have Y:=w.at 0 rfl;rw[i]at Y;simp only[go_sem,f0,f2,ψ];refine eF O.toIA T (o:=o) (n:=aoE+1) (a:=pols.2) Om U rfl Y ?_;have A:=w.set 0 rfl (bD v vo.2);rw[ο];have J:=A.perm (B':=E.boxes v (.j (1+e.1:Nat)) y (.osl qm 4 0 (1+u.1)) D F Z .aG vo.2) (L':=(Z,17,pK pols.1)::[(y,4,kI aoK.1),(.osl qm 4 0 (1+u.1),4,mC aoD.1),(D,7,mP g.aoM),(F,3,pY g.aoW)]) (asM.refl _)
  (List.perm_append_comm (l₁:=[(y,4,kI aoK.1),(.osl qm 4 0 (1+u.1),4,mC aoD.1),(D,7,mP g.aoM),(F,3,pY g.aoW)]) (l₂:=[(Z,17,pK pols.1)]))
 simp only[go_sem];refine Fi (C:=C) O.torA T E (1+pl.1) vo.1 vo.2 Om Om σ _ _ _ _ _ Z pols.1 ε _ _ _ _ ?_ (by rw[i]at J ⊢;exact J) ?_
 ·rw[i];unfold iS;exact Lq
 clear J A w Y f0 f1 f2 f6 f7 M;intro w6 F5 H5 ι w;rw[γ]at w;have f6:F5 6=some (.ptr o6 7 0 0):=ι 6 _ (by rw[i];unfold iS;simp only[go_sem]);have f7:F5 7=some (.ptr o7 7 0 0):=ι 7 _ (by rw[i];unfold iS;simp only[go_sem]);rw[i]at w;have b7:=w.at 1 rfl;have b6:=w.at 2 rfl;have one:∀(x:PV),x∈[y,D,F,Z,w6]->(∃q s n,x=.osl q s 0 n)\/x=.aG:=by
  intro x hx;have W:∀{s:Nat}{rows:P2_},bA H5 s x rows->(∃q s n,x=.osl q s 0 n)\/x=.aG:=by
   rintro s rows (⟨_,h⟩|⟨q,rs,h,_⟩)
   ·exact .inr h
   ·exact .inl ⟨q,s,_,h⟩
  simp only[aqG,aqS,or_false]at hx;rcases hx with rfl|rfl|rfl|rfl|rfl
  ·exact W (w.own 1 rfl)
  ·exact W (w.own 3 rfl)
  ·exact W (w.own 4 rfl)
  ·exact W (w.own 0 rfl)
  ·exact W (w.own 5 rfl)
 have B:∀(x:PV),x∈[y,D,F,Z,w6]->PV.one x=true:=λx hx=>by rcases one x hx with⟨q,s,n,rfl⟩|rfl<;>rfl
 have o1:=B y aX;have o3:=B D aX;have o4:=B F aX;have o5:=B Z aX;have ρ:=B w6 aX;simp only[PV.one]at o1 o3 o4 o5 ρ;simp only[go_sem,f6,f7,b7,b6,aqG,aqS,or_false,forall_eq,forall_eq_or_imp,o1,o3,o4,o5,ρ];have A:=w.set 2 rfl (flB (.j (1+e.1:Nat)) y (.osl qm 4 0 (1+u.1)) D F Z w6);have J:=A.sub (B':=[(o,bD v vols.2)]) (asF.cons_cons _ (List.nil_sublist _)) (asF.refl _);obtain⟨φ,H6,k1,k2,k3,k4⟩:=aO.giveUp _ J (λx hx=>by
  simp only[asV,atL,aqG,aqS,or_false]at hx;rcases hx with rfl|rfl|rfl|rfl|rfl|rfl
  ·exact Hz _
  ·exact Hh _
  ·exact Hj _
  ·exact Gz _
  ·exact G4 _
  ·exact acM _) (λb hb q s rs=>by
  simp only[aqG,aqS,or_false]at hb;subst hb;simp only[aR.frz,aqQ,arL,T.frz];rfl)
 refine rJ (vs:=[.agg [.j (1+e.1:Nat),y,.osl qm 4 0 (1+u.1),D,F,Z,w6]]) (.inr rfl) (by simp only[go_sem,f6]) (k4 _ _ (.done (H2:=h_.set o (bD v vols.2)) ?_ (c_ a_ (k3.at 0 rfl))));rw[hR,hT];refine⟨CoL.agg ?_,rfl⟩;have s5:=k1 (Z,17,pK pols.1) aX;have s1:=k1 (y,4,kI aoK.1) aX;have s2:=k1 (.osl qm 4 0 (1+u.1),4,mC aoD.1) aX;have s3:=k1 (D,7,mP g.aoM) aX;have s4:=k1 (F,3,pY g.aoW) aX;have s6:=k1 (w6,2,tD vols.1) aX;have s0:φ (.j (1+e.1:Nat))=.j (1+e.1:Nat):=k2 _ rfl;show CoL [φ (.j (1+e.1:Nat)),φ y,φ (.osl qm 4 0 (1+u.1)),φ D,φ F,φ Z,φ w6] _;rw[s0];exact CoL.cons (.refl _) (CoL.cons s1.co (CoL.cons s2.co (CoL.cons s3.co (CoL.cons s4.co (CoL.cons s5.co (CoL.cons s6.co .nil))))))
structure Nq(C:Ctx):Prop extends zh C where
 new:∀(l:N_),(∀x∈l,x<256)->Z' l<=9223372036854775807->aJ C 28 [.sl 1 (kL l)] .nil (qc l)
 fleet:∀(l:N_)(v:PV),Tp l v->∀(o aoC aoE a:Nat),aoC<=60->aoE<=50->a<=Z' l ->
  aJ C 0 [.ptr o 2 0 0,.int .i64 aoC,.int .i64 aoE] (h_.set o (bD v a)) (λr H=>r=.agg (iJ l aoC aoE a).1.cells/\H=h_.set o (bD v (iJ l aoC aoE a).2))
theorem RZ.exact{name:Nat}{args:V_}{H:PH}{l:N_}{v:PV}{o aoC aoE a:Nat}(h:aJ C name args H (RZ l v o aoC aoE a)):aJ C name args H (λr H=>r=.agg (iJ l aoC aoE a).1.cells/\H=h_.set o (bD v (iJ l aoC aoE a).2)):=
 h.post λr H' e=>⟨_,e.1,rfl,e.2⟩
theorem Pv(y:Nq C)(l:N_)(hb:∀x∈l,x<256)(B:Z' l<=9223372036854775807)(aoC aoE:Nat)(i:aoC<=60)(w:aoE<=50) :
  YU.wp C (aW lg.res (cY (.agg (iJ (l.take 400) aoC aoE 0).1.cells))) (g_ [.sl 1 (kL l),.j aoC,.j aoE]) .nil:=by
 simp only[go_sem,YU,lg];refine aQ λo6 D=>?_;simp only[go_sem];refine jG (y.new l hb B) rfl a_ ?_;rintro r H' ⟨o,v,rfl,T,rfl⟩ A;have u:¬o6=o:=by intro e;subst e;have:=A o6 (bD v 0) (by rw[aM,aE rfl]) rfl;rw[aM,aE rfl]at this;cases this
 rw[PH.uP];simp only[go_sem];refine oT (y.fleet _ v T o aoC aoE 0 i w (apR _)) (by rw[aM,aE rfl]) rfl ?_;simp only[go_sem,u];exact bK (vs:=[.agg (iJ (l.take 400) aoC aoE 0).1.cells]) (.inr rfl) .nil Sq a_ ⟨.refl _,rfl⟩
theorem CoL.amB:CoL [] []:=⟨rfl,λj p q h=>by simp at h⟩
theorem CoL.Jr{p q:PV}{ps i:V_}(h:Co p q)(e:CoL ps i):CoL (p::ps) (q::i):=by
 refine⟨by simp[e.len],λj x y a b=>?_⟩;cases j with
 |zero =>simp only[List.getElem?_cons_zero,asB.injEq]at a b;subst a;subst b;exact h
 |succ j=>exact e.at_ j x y (by simpa using a) (by simpa using b)
theorem aJ.seen{name:Nat}{args:V_}{H:PH}{v:PV}(h:aJ C name args H (cY v)):aJ C name args H (aL v):=
 h.post λr H' e=>⟨v,e.1,rfl,e.2⟩
def yf(x:RF):Bool:=decide (FOk x)
theorem fv{x:RF}(h:yf x=true):FOk x:=of_decide_eq_true h
def UQ(l:List RF):Bool:=decide (Z' l<=9)&&l.all yf
theorem UR{l:List RF}(h:UQ l=true):oU l:=by
 simp only[UQ,apT,aqM,dT_]at h;exact⟨by unfold Fits;omega,λx e=>fv (h.2 x e)⟩
def Bo(x:cS):Bool:=(decide (JW x.start)&&UQ x.exit)&&(decide (Z' x.aoH<=9)&&x.aoH.all UQ)
theorem Pg{x:cS}(h:Bo x=true):x.Ok:=by
 simp only[Bo,apT,aqM,dT_]at h;exact⟨h.1.1,UR h.1.2,by unfold Fits;omega,λr e=>UR (h.2.2 r e)⟩
def C2(x:bY):Bool:=(decide (eK x.k/\eK x.m/\eK x.apB)&&(decide (Z' x.aoD<=9)&&x.aoD.all λm=>decide (eK m)))&&(UQ x.repair&&(decide (TOk x.target)&&yf x.aoN))
theorem Ql{x:bY}(h:C2 x=true):x.Ok:=by
 simp only[C2,apT,aqM,dT_]at h;exact⟨h.1.1.1,h.1.1.2.1,h.1.1.2.2,by unfold Fits;omega,h.1.2.2,UR h.2.1,h.2.2.1,fv h.2.2.2⟩
def okB(f:aB):Bool:=(decide (Z' f.aoK<=99/\Z' f.aoD<=99/\Z' f.aoF<=99/\Z' f.aoC<=99/\Z' f.aoG<=99/\Z' f.aoE<=99)&&(f.aoK.all Bo&&f.aoG.all C2)) &&
 (f.aoF.all (λx=>yf x.aoS&&decide (eK x.level/\eK x.parent))&&(f.aoC.all (λx=>decide (eK x.model/\eK x.machine))&&f.aoE.all λx=>decide (eK x.aoP)))
theorem aeS{f:aB}(h:okB f=true):f.Ok:=by
 simp only[okB,apT,aqM,dT_]at h;obtain⟨⟨⟨y,A,B,D,E,F⟩,l,u⟩,i,w,h5⟩:=h;exact⟨by unfold Fits;omega,by unfold Fits;omega,by unfold Fits;omega,by unfold Fits;omega,by unfold Fits;omega,by unfold Fits;omega,λx e=>Pg (l x e),λx e=>⟨fv (i x e).1,(i x e).2⟩,w,λx e=>Ql (u x e),h5⟩
def lK:=bV [43] Proofs.Tryz.f215
def VQ:=aA lK 8
def VR:=aA lK 9
def QM:=aA lK 10
def QN:=aA lK 11
def QP:=aA lK 12
def EM:=aA lK 13
def EN:=aA lK 14
def ZV:aI:=(sq (aA lK 0) (sq (aA lK 1) (sq (aA lK 2) (.seq (dF (aA lK 3) 0 (eN (aA lK 4) 13 0 EN (sq (aA lK 5) (jQ (aA lK 6) 20 (.region (aA lK 7)) (sq VQ (sq VR (jQ QM 35 (sq QN (.region QP)) (.region EM)))))))) (sq (aA lK 15) .ret)))))
def qJ:=bV [51] Proofs.Tryz.f227
def gw:=aA qJ 5
def gx:=aA qJ 6
def gy:=aA qJ 7
def QQ:=aA qJ 8
def QR:=aA qJ 9
def JN:=aA qJ 10
def JO:=aA qJ 11
def JP:=aA qJ 12
def VT:=aA qJ 13
def oo:aI:=(sq (aA qJ 0) (sq (aA qJ 1) (sq (aA qJ 2) (.seq (dF (aA qJ 3) 0 (eN (aA qJ 4) 22 0 JP (sq gw (jQ gx 29 (.region gy) (jQ QQ 40 (.region QR) (sq JN (.region JO))))))) (sq VT .ret)))))
def mV:=bV [] Proofs.Tryz.f214
def VV:=aA mV 4
def VW:=aA mV 5
def QS:aI:=(eN (aA mV 6) 25 2 (aA mV 9) (dq (eH mV 0) (sq (aA mV 7) (.region (aA mV 8)))))
def QT:=aA mV 10
def ZW:aI:=(sq (aA mV 0) (sq (aA mV 1) (.seq (dF (aA mV 2) 0 (eN (aA mV 3) 19 0 (aA mV 11) (sq VV (.seq (dF VW 2 QS) (.region QT))))) (sq (aA mV 12) .ret))))
def Mp:=bV [] Proofs.Tryz.f204
def v8:=cF Mp
def Mz:=bV [] Proofs.Tryz.f206
def wg:=cF Mz
def Mw:=bV [] Proofs.Tryz.f207
def wd:=cF Mw
def ym:=bV [] Proofs.Tryz.f212
def oa:=cF ym
def uup:=bV [35,42] Proofs.Tryz.f213
def Ec:=cF uup
def sP:=bV [47] Proofs.Tryz.f216
def gv:=aA sP 9
def VP:=aA sP 10
def oc:aI:=(sq (aA sP 0) (pI (aA sP 1) 12 (aA sP 2) (sq (aA sP 3) (.seq (dF (aA sP 4) 0 (eN (aA sP 5) 18 0 VP (sq (aA sP 6) (jQ (aA sP 7) 30 (.region (aA sP 8)) (.region gv))))) (sq (aA sP 11) .ret)))))
def pt:=bV [1] Proofs.Tryz.f66
def ai:=cF pt
def ow:=bV [1] Proofs.Tryz.f228
def ZY:=cF ow
def yw:=bV [1] Proofs.Tryz.f205
def ot:=cF yw
def XR:=bV [1] Proofs.Tryz.f112
def WB:=cF XR
def pq:=bV [] Proofs.Tryz.f161
def aa:=cF pq
def pi:=bV [2,3] Proofs.Tryz.f111
def ZZ:=cF pi
def yx:=bV [2,3] Proofs.Tryz.f115
def oz:=cF yx
def yz:=bV [2,3] Proofs.Tryz.f109
def pj:=cF yz
def y6:=bV [1] Proofs.Tryz.f67
def pn:=cF y6
def Ed:=bV [2,3] Proofs.Tryz.f160
def VX:=cF Ed
def BB:=bV [] Proofs.Tryz.f108
def Iq:=aA BB 0
def Ir:=aA BB 1
def Is:=aA BB 2
def It:=aA BB 3
def Iu:=eH BB 0
def sy:=aA BB 4
def Iv:=aA BB 5
def Iw:=aA BB 6
def Ix:=aA BB 7
def Ip:aI:=(eN It 12 0 Ix (dq Iu (pI sy 25 Iv (.region Iw))))
def Ek:=aA BB 8
def wj:aI:=(sq Iq (sq Ir (.seq (dF Is 0 Ip) (sq Ek .ret))))
def JA:=bV [] Proofs.Tryz.f113
def vZ:=cF JA
def XU:=bV [] Proofs.Tryz.f158
def WG:=cF XU
def pw:=bV [] Proofs.Tryz.f203
def aj:=cF pw
def XS:=bV [] Proofs.Tryz.f159
def WE:=cF XS
def XT:=bV [] Proofs.Tryz.f105
def WF:=cF XT
theorem vR(P:N_)(v:Nat):bC P++[[.int .u32 (v:Int)]]=bC (P++[v]):=by simp[bC]
theorem vQ{P:N_}(h:Z' P<=35184372087808):roomFor (bC P).length 1 4:=by
 unfold roomFor;rw[eJ];simp only[maxLen];omega
def XP(a b:N_)(v:PV)(c i:Nat):PF:=(((((n_.set 0 (aY a)).set 1 (aY b)).set 5 (v)).set 6 (.int .u64 c)).set 7 (.int .i64 i))
theorem Sb(L:vD C)(a b:N_)(ha:Lim a)(hb:Lim b)(η:val b<=val a)(hl:Z' b<=Z' a)(h1:Z' a<=35184372087808) :
  ZV.wp C (aW lK.res (cY (aY (aS (val a-val b))))) (g_ [aY a,aY b]) .nil:=by
 simp only[go_sem,ZV,lK];refine wp_loop (α:=N_ × T3_) (λs=>XP a b s.2.2.1 s.2.1 s.1.length) (λs=>s.2.2.2)
  (λs=>s.1.length<=Z' a/\Lim s.1/\s.2.1<=1/\val (a.take s.1.length)+4294967296^s.1.length*s.2.1=val s.1+val (b.take s.1.length)/\bA s.2.2.2 1 s.2.2.1 (bC s.1)) (λs=>Z' a-s.1.length) ([],0,.aG,.nil) ⟨by simp,by simp[Lim],by simp,by simp[val],.nil⟩ ?_ a_ ?_
 unfold XP;exact Lq;rintro⟨P,c,v,H0⟩ ⟨hP,i,hc,B,V⟩;simp only at hP i hc B V ⊢;simp only[go_sem,XP];by_cases W:Z' P<Z' a;have E:(Z' P:Int)<(Z' a:Nat):=Om;have ε:=ha _ (apW W);have δ:=gQ a W;have β:(bC a)[Z' P]?=some [.int .u32 ((a[Z' P]:Nat):Int)]:=gM a W;generalize hx:a[Z' P]=x at *
 have ex:u_.wrap ((x:Nat):Int)=((x:Nat):Int):=eA Om;have fin:∀(t:Nat)(D:PF),t<4294967296->val (b.take (Z' P+1))=val (b.take P.length)+4294967296^P.length*t ->
   D 0=some (aY a)->D 1=some (aY b)->D 5=some v->D 8=some (.int .u64 (c+t:Nat))->D 7=some (.j P.length) ->
   ∀K:bT,(∀A l v' U H2,Z' A=Z' P+1->Lim A->l<=1->val (a.take (Z' P+1))+4294967296^A.length*l=val A+val (b.take (Z' P+1))->(XP a b v' l A.length).le U->bA H2 1 v' (bC A)->K .normal U H2) ->
   aI.wp C (.seq (.region VQ) (.seq (.region VR) (.seq (.seq (.region QM) (.cond (.tmp 35) (.seq (.region QN) (.region QP)) .skip)) (.region EM)))) (fE 1 (gH C (aI.wp C (.region EN)) K)) D H0:=by
  intro t D ht w g0 g1 g5 g8 g7 K hK;have step:∀(d l:Nat),d<4294967296->l<=1->x+4294967296*l=d+(c+t)->val (a.take (Z' P+1))+4294967296^(Z' P+1)*l=val (P++[d])+val (b.take (Z' P+1)):=by
   intro d l hd ζ he;have h2:4294967296^P.length*(x+4294967296*l)=4294967296^P.length*(d+(c+t)):=by rw[he]
   rw[arH,arH,arH]at h2;rw[HT,atF,arN,δ,w];omega
  simp only[go_sem,VQ,g0,g7,β,ex,VR,QM,g8];by_cases c2:x<c+t;have F:((x:Nat):Int)<((c+t:Nat):Int):=Om;have O:u_.wrap ((x:Int)+4294967296)=((x+4294967296:Nat):Int):=by rw[show(x:Int)+4294967296=((x+4294967296:Nat):Int) by omega];exact eA Om
  have e2:u_.wrap (((x+4294967296:Nat):Int)-((c+t:Nat):Int))=((x+4294967296-(c+t):Nat):Int):=by rw[show((x+4294967296:Nat):Int)-((c+t:Nat):Int)=((x+4294967296-(c+t):Nat):Int) by omega];exact eA Om
  have M:IntKind.u32.wrap ((x+4294967296-(c+t):Nat):Int)=((x+4294967296-(c+t):Nat):Int):=by rw[iG,asU Om]
  have N:(1:Nat)*1<=16777216:=by decide
  simp only[go_sem,F,QN,O,QP,EM,g5,g8,e2,M,N];refine fS (src:=[[.int .u32 ((x+4294967296-(c+t):Nat):Int)]]) V rfl (vQ Om) λv' H' u _=>?_;rw[vR]at u;simp only[go_sem,EN,g7,fQ (Om:Z' P<9223372036854775807)];refine hK _ 1 v' _ H' aX (i.app λy S=>by simp at S;subst S;omega) (apU _) ?_ ?_ u;rw[apV,aqH];exact step _ 1 Om (apU _) Om;unfold XP;rw[apV,aqH];exact Lq;have F:¬((x:Nat):Int)<((c+t:Nat):Int):=Om;have e2:u_.wrap (((x:Nat):Int)-((c+t:Nat):Int))=((x-(c+t):Nat):Int):=by rw[show((x:Nat):Int)-((c+t:Nat):Int)=((x-(c+t):Nat):Int) by omega];exact eA Om
  have M:IntKind.u32.wrap ((x-(c+t):Nat):Int)=((x-(c+t):Nat):Int):=by rw[iG,asU Om]
  have N:(1:Nat)*1<=16777216:=by decide
  simp only[go_sem,F,EM,g5,g8,e2,M,N];refine fS (src:=[[.int .u32 ((x-(c+t):Nat):Int)]]) V rfl (vQ Om) λv' H' u _=>?_;rw[vR]at u;simp only[go_sem,EN,g7,fQ (Om:Z' P<9223372036854775807)];refine hK _ 0 v' _ H' aX (i.app λy S=>by simp at S;subst S;omega) aT ?_ ?_ u;rw[apV,aqH];exact step _ 0 Om aT Om;unfold XP;rw[apV,aqH];exact Lq
 simp only[aI.wp,go_sem]at fin;simp only[go_sem,E];by_cases X:Z' P<Z' b;have J:(Z' P:Int)<(Z' b:Nat):=Om;have γ:=hb _ (apW X);have w:=gQ b X;have eb:u_.wrap ((b[Z' P]:Nat):Int)=((b[Z' P]:Nat):Int):=eA Om;have es:u_.wrap ((c:Int)+(b[Z' P]:Int))=((c+b[Z' P]:Nat):Int):=rU Om;simp only[go_sem,J,gM b X,eb,es];refine fin b[Z' P] _ γ w rfl rfl rfl rfl rfl _ ?_;intro A l v' U H2 O e2 M R Y Z;rw[<-O]at R;exact aF (α:=N_ × T3_) (A,l,v',H2) ⟨by simp only;omega,e2,M,R,Z⟩ sO_ Y b_;have J:¬(Z' P:Int)<(Z' b:Nat):=Om;have w:val (b.take (Z' P+1))=val (b.take P.length)+4294967296^P.length*0:=by rw[aqR Om,aqR Om];simp
 simp only[go_sem,J];refine fin 0 _ aT w rfl rfl rfl rfl rfl _ ?_;intro A l v' U H2 O e2 M R Y Z;rw[<-O]at R;exact aF (α:=N_ × T3_) (A,l,v',H2) ⟨by simp only;omega,e2,M,R,Z⟩ sO_ Y b_;have e:Z' P=Z' a:=Om;have E:¬(Z' P:Int)<(Z' a:Nat):=Om;have hV:val P=val a-val b:=by
  rw[e,aqO,aqR hl]at B;have hlt:=nR i;rw[e]at hlt;rcases arZ c with h|h
  subst h;omega;have:c=1:=Om;subst this;omega
 simp only[go_sem,E];have hs:=L.trim _ i Om;rw[hV]at hs;refine AE hs V rfl λF1 H1 _=>?_;simp only[go_sem];exact bK (.inr rfl) .nil rfl a_ ⟨.refl _,rfl⟩
def xV(a b:N_)(o i:Nat):PF:=((((n_.set 0 (aY a)).set 1 (aY b)).set 5 (.osl o 1 0 (Z' a+Z' b))).set 6 (.int .i64 i))
def utG(a b:N_)(o i c j:Nat):PF:=((((((n_.set 0 (aY a)).set 1 (aY b)).set 5 (.osl o 1 0 (Z' a+Z' b))).set 6 (.int .i64 i)).set 7 (.int .u64 c)).set 8 (.int .i64 j))
theorem M0(a b:N_)(ha:Lim a)(hb:Lim b)(h1:Z' a<=35184372087808)(h2:Z' b<=35184372087808)(L:N_)(i:Nat)(hi:i<Z' a)(O:zi a b L i)(q:Nat)(K:bT)(F:PF)(H:PH)(N:(xV a b q i).le F)(hH:H q=some (.rows 1 (bC L)))
  (hK:∀L' F' H',zi a b L' (i+1)->(xV a b q i).le F'->H' q=some (.rows 1 (bC L'))->K .normal F' H') :
  aI.wp C (.block 1 (.seq (.region VV) (.seq (.seq (.region VW) (.block 2 (.loop QS))) (.region QT)))) K F H:=by
 have f0:=N 0 _ (by unfold xV;simp only[go_sem];rfl);have f1:=N 1 _ (by unfold xV;simp only[go_sem];rfl);have f5:=N 5 _ (by unfold xV;simp only[go_sem];rfl);have f6:=N 6 _ (by unfold xV;simp only[go_sem];rfl);have hx:=ha _ (apW hi);have β:=gQ a hi;generalize δ:a[i]=x at *
 have X:(bC a)[i]?=some [.int .u32 ((x:Nat):Int)]:=by rw[gM a hi,δ]
 simp only[go_sem,VV,VW];refine wp_loop (α:=N_ × Nat × Nat) (λt=>utG a b q i t.2.1 t.2.2) (λt=>h_.set q (.rows 1 (bC t.1)))
  (λt=>t.2.2<=Z' b/\t.1.length=Z' a+Z' b/\Lim t.1/\t.2.1<4294967296/\val t.1+4294967296^(i+t.2.2)*t.2.1=val (a.take i)*val b+4294967296^i*(x*val (b.take t.2.2))/\∀j y,i+Z' b<=j->t.1[j]?=some y->y=0) (λt=>Z' b-t.2.2) (L,0,0)
  ⟨by simp,O.len,O.lim,by simp,by simp[val,O.v],O.z⟩ ?_ (c_ a_ hH) ?_
 unfold utG;exact Lq;rintro⟨M,c,j⟩ ⟨hj,W,l,Z,A,S⟩;simp only at hj W l Z A S;simp only[go_sem,QS,utG];by_cases U:j<Z' b;have B:(j:Int)<(Z' b:Nat):=Om;have R:=hb _ (apW U);have γ:=gQ b U;generalize ε:b[j]=y at *
 have Y:(bC b)[j]?=some [.int .u32 ((y:Nat):Int)]:=by rw[gM b U,ε]
 have e:i+j<Z' M:=Om;have J:=l _ (apW e);have w:=sw e;generalize ζ:M[i+j]=z at *
 have E:(bC M)[i+j]?=some [.int .u32 ((z:Nat):Int)]:=by rw[gM M e,ζ]
 have ex:u_.wrap ((x:Nat):Int)=((x:Nat):Int):=eA Om;have ey:u_.wrap ((y:Nat):Int)=((y:Nat):Int):=eA Om;have ez:u_.wrap ((z:Nat):Int)=((z:Nat):Int):=eA Om;have em:=aaP hx R;have θ:x*y<=4294967295*4294967295:=atU Om Om;have e1:u_.wrap (((x*y:Nat):Int)+(z:Int))=((x*y+z:Nat):Int):=rU Om;have e2:u_.wrap (((x*y+z:Nat):Int)+(c:Int))=((x*y+z+c:Nat):Int):=rU Om;have D:i_.wrap ((i:Int)+(j:Int))=((i+j:Nat):Int):=rT Om;have hlt:((i+j:Nat):Int)<((Z' a+Z' b:Nat):Int):=Om;generalize ht:x*y+z+c=t at *
 have η:t<4294967296*4294967296:=Om;have u:(bC M).set (i+j) [.int .u32 ((t%4294967296:Nat):Int)]=bC (M.set (i+j) (t%4294967296)):=uL M (i+j) _;simp only[go_sem,B];refine bE .nil cO a_ ?_;simp only[go_sem,X,Y,ex,ey,em,D,hlt,E,ez,e1,e2,iG,u,yj,wZz j];refine aF (M.set (i+j) (t%4294967296),t/4294967296,j+1) ⟨by simp only;omega,by simp only[arD];exact W,l.set _ (Nat.mod_lt _ aT),by simp only;omega,?_,Nh S _ _ Om⟩ sO_ ?_ (c_ a_ Sq);simp only;have V:=w (t%4294967296);have h4:4294967296^(i+(j+1))*(t/4294967296)+4294967296^(i+j)*(t%4294967296)=4294967296^(i+j)*t:=by rw[<-atA,atF,arN,<-arH,Nat.div_add_mod]
 have h5:4294967296^(i+j)*t=4294967296^(i+j)*(x*y)+4294967296^(i+j)*z+4294967296^(i+j)*c:=by rw[<-ht,arH,arH]
 have h6:4294967296^i*(x*val (b.take (j+1)))=4294967296^i*(x*val (b.take j))+4294967296^(i+j)*(x*y):=by rw[γ,arH,arH,Nat.pow_add];congr 1;rw[Nat.mul_left_comm x,arN]
 omega;exact Lq;have he:j=Z' b:=Om;have B:¬(j:Int)<(Z' b:Nat):=Om;subst he;have e:i+Z' b<Z' M:=Om;have J:M[i+Z' b]=0:=S _ _ (apU _) (apZ e);have w:=sw e;have E:(bC M)[i+Z' b]?=some [.int .u32 ((0:Nat):Int)]:=by rw[gM M e,J]
 have D:i_.wrap ((i:Int)+(Z' b:Int))=((i+Z' b:Nat):Int):=rT Om;have hlt:((i+Z' b:Nat):Int)<((Z' a+Z' b:Nat):Int):=Om;have u:(bC M).set (i+Z' b) [.int .u32 ((c%4294967296:Nat):Int)]=bC (M.set (i+Z' b) c):=by rw[asU Z];exact uL M _ _
 simp only[go_sem,B,QT,D,iG,hlt,E,u];refine hK (M.set (i+Z' b) c) _ _ ⟨by rw[arD];exact W,l.set _ Z,?_,λj y hj R=>?_⟩ (by unfold xV;exact Lq) Sq;have V:=w c;rw[J,Nat.mul_zero,arG]at V;rw[V,A,aqO,β,arJ,arN];rw[List.getElem?_set_ne Om]at R;exact S j y Om R
theorem Sg(L:vD C)(a b:N_)(O:Lim a)(hb:Lim b)(V:Z' a<=8388608)(W:Z' b<=8388608) :
  ZW.wp C (aW mV.res (cY (aY (aS (val a*val b))))) (g_ [aY a,aY b]) .nil:=by
 have w:i_.wrap ((Z' a:Int)+(Z' b:Int))=((Z' a+Z' b:Nat):Int):=rT Om;have D:((Z' a+Z' b:Nat):Int)*((4:Nat):Int)<=140737488355328:=Om;have E:((Z' a+Z' b:Nat):Int)<=9223372036854775807:=Om;have R:apX (Z' a+Z' b) [PV.int .u32 0]=bC (apX (Z' a+Z' b) 0):=by simp[bC]
 simp only[go_sem,ZW,mV,apP,w,D,E,R];refine aQ λo X=>?_;simp only[go_sem];refine wp_loop (α:=N_ × Nat) (λt=>xV a b o t.2) (λt=>h_.set o (.rows 1 (bC t.1))) (λt=>t.2<=Z' a/\zi a b t.1 t.2) (λt=>Z' a-t.2) (apX (Z' a+Z' b) 0,0)
  ⟨by simp,by simp,TS _,by simp[val,JR],λj x _ J=>by rw[List.getElem?_replicate]at J;split at J<;>simp_all⟩ ?_ (c_ a_ Sq) ?_
 unfold xV;exact Lq;rintro⟨M,i⟩ ⟨hi,l⟩;simp only at hi l;simp only[go_sem,xV];by_cases K:i<Z' a;have u:(i:Int)<(Z' a:Nat):=Om;have y:=M0 (C:=C) a b O hb Om Om M i K l o;simp only[go_sem]at y;simp only[go_sem,u];refine y _ _ _ (by unfold xV;exact Lq) Sq ?_;intro L' S H' B e A;have N:=e 6 _ (by unfold xV;simp only[go_sem];rfl);have g0:=e 0 _ (by unfold xV;simp only[go_sem];rfl);have g1:=e 1 _ (by unfold xV;simp only[go_sem];rfl);have U:=e 5 _ (by unfold xV;simp only[go_sem];rfl);simp only[go_sem,N,wZz i];refine aF (L',i+1) ⟨by simp only;omega,B⟩ sO_ ?_ (c_ a_ A);exact Lq;have he:i=Z' a:=Om;subst he;have u:¬(Z' a:Int)<(Z' a:Nat):=Om;have hV:val M=val a*val b:=by rw[l.v,aqO]
 simp only[go_sem];have F:=L.trim _ l.lim (by rw[l.len];omega);rw[hV]at F;refine p5 (o:=o) (s:=1) (k:=Z' a+Z' b) (rs:=bC M) (v:=aY (aS (val a*val b))) ?_ rfl Sq (by rw[eJ,l.len];exact apU _) ?_;rw[aqR (by rw[eJ,l.len];exact apU _)];exact F;simp only[go_sem];exact bK (.inr rfl) .nil rfl a_ ⟨.refl _,rfl⟩
structure zl(C:Ctx):Prop extends zj C where
 minus:∀a b,Lim a->Lim b->val b<=val a->Z' b<=Z' a->Z' a<=35184372087808->aJ C 42 [aY a,aY b] .nil (aL (aY (aS (val a-val b))))
 times:∀a b,Lim a->Lim b->Z' a<=8388608->Z' b<=8388608->aJ C 44 [aY a,aY b] .nil (aL (aY (aS (val a*val b))))
theorem acH(L:zl C)(a b:N_)(u:Lim a)(hb:Lim b)(y:Z' a<=35184372087808)(A:Z' b<=35184372087808) :
  wd.wp C (aW Mw.res (cY (opV (nC (val a) (val b)) (val a*val b)))) (g_ [aY a,aY b]) .nil:=by
 unfold opV;simp only[go_sem,wd,Mw];refine aD (L.large a u y) rfl ?_;by_cases i:nl (val a)>512;simp only[go_sem,i];rw[aE (by simp[nC,i])];exact mS rfl;simp only[go_sem,i];refine aD (L.large b hb A) rfl ?_;by_cases l:nl (val b)>512;simp only[go_sem,l];rw[aE (by simp[nC,l])];exact mS rfl;rw[aC (by simp[nC,i,l])];simp only[go_sem,l];refine aD (L.trim a u y) rfl ?_;simp only[go_sem];refine aD (L.trim b hb A) rfl ?_;simp only[go_sem];have x:=L.times (aS (val a)) (aS (val b)) (cA _) (cA _) (by rw[cE];omega) (by rw[cE];omega);rw[bZ,bZ]at x;refine aD x rfl ?_;have B:=zK (a:=val a) (b:=val b) (m:=512) (n:=512) Om Om;have w:=L.large (aS (val a*val b)) (cA _) (by rw[cE];omega);rw[bZ]at w;simp only[go_sem];refine aD w rfl ?_;unfold szV szL szE;by_cases e:nl (val a*val b)>512;rw[aE e,aE e];simp only[go_sem,e];exact mS rfl;rw[aC e,aC e];simp only[go_sem,e];exact bK (.inr rfl) .nil rfl a_ ⟨.refl _,rfl⟩
def DK(a:N_)(i:Nat):Nat:=a.getD i 0
theorem Ai{a:N_}(h:Lim a)(i:Nat):DK a i<4294967296:=by
 unfold DK;rw[apY];rcases aqW i a.length with h1|h1
 rw[apZ h1];exact h _ (apW h1);rw[arC h1];decide
theorem bn{a:N_}{i:Nat}(h:i<Z' a):DK a i=a[i]:=by simp[DK,apY,h]
theorem TA{a:N_}{i:Nat}(h:¬i<Z' a):DK a i=0:=by simp[DK,apY,h]
theorem VY(a:N_)(i:Nat):val (a.take (i+1))=val (a.take i)+4294967296^i*DK a i:=by
 rcases aqW i a.length with h|h
 rw[bn h];exact gQ a h;rw[TA Om,aqR Om,aqR Om];simp
def AB(a b:N_)(v:PV)(c i:Nat):PF:=(((((n_.set 0 (aY a)).set 1 (aY b)).set 5 (v)).set 6 (.int .u64 c)).set 7 (.int .i64 i))
theorem Xo(L:vD C)(a b:N_)(ha:Lim a)(hb:Lim b)(h1:Z' a<=8388608)(h2:Z' b<=8388608) :
  oo.wp C (aW qJ.res (cY (aY (aS (val a+val b))))) (g_ [aY a,aY b]) .nil:=by
 simp only[go_sem,oo,qJ];refine wp_loop (α:=N_ × T3_) (λs=>AB a b s.2.2.1 s.2.1 s.1.length) (λs=>s.2.2.2)
  (λs=>s.1.length<=max a.length b.length+1/\(s.1.length<=max a.length b.length\/s.2.1=0)/\Lim s.1/\s.2.1<=1/\val s.1+4294967296^s.1.length*s.2.1=val (a.take s.1.length)+val (b.take s.1.length)/\bA s.2.2.2 1 s.2.2.1 (bC s.1)) (λs=>max a.length b.length+1-s.1.length) ([],0,.aG,.nil)
  ⟨by simp,by simp,by simp[Lim],by simp,by simp[val],.nil⟩ ?_ a_ ?_
 unfold AB;exact Lq;rintro⟨P,c,v,H0⟩ ⟨hP,ζ,u,hc,J,hO⟩;simp only at hP ζ u hc J hO ⊢;have μ:=Ai ha P.length;have ν:=Ai hb P.length;have ι:=VY a P.length;have κ:=VY b P.length;generalize hx:DK a P.length=x at *
 generalize hy:DK b P.length=y at *
 have ex:u_.wrap ((x:Nat):Int)=((x:Nat):Int):=eA Om;have ey:u_.wrap ((y:Nat):Int)=((y:Nat):Int):=eA Om;have R:u_.wrap ((c:Int)+(x:Int))=((c+x:Nat):Int):=rU Om;have e2:u_.wrap (((c+x:Nat):Int)+(y:Int))=((c+x+y:Nat):Int):=rU Om;have θ:Z' P<Z' a->(bC a)[Z' P]?=some [.int .u32 ((x:Nat):Int)]:=λh=>by rw[gM a h,<-hx,bn h]
 have β:Z' P<Z' b->(bC b)[Z' P]?=some [.int .u32 ((y:Nat):Int)]:=λh=>by rw[gM b h,<-hy,bn h]
 have γ:¬Z' P<Z' a->x=0:=λh=>by rw[<-hx,TA h]
 have S:¬Z' P<Z' b->y=0:=λh=>by rw[<-hy,TA h]
 have body:(Z' P<=max a.length b.length)->∀K:bT,(∀l A v' U H2,Z' l=Z' P+1->Lim l->A<=1->(Z' P+1<=max a.length b.length\/A=0)->val l+4294967296^l.length*A=val (a.take (Z' P+1))+val (b.take (Z' P+1))->(AB a b v' A l.length).le U->bA H2 1 v' (bC l)->K .normal U H2) ->
   ∀F:PF,(AB a b v c P.length).le F->aI.wp C (.seq (.block 1 (.seq (.region gw) (.seq (.seq (.region gx) (.cond (.tmp 29) (.region gy) .skip)) (.seq (.seq (.region QQ) (.cond (.tmp 40) (.region QR) .skip)) (.seq (.region JN) (.region JO)))))) (.region JP)) K F H0:=by
  intro ξ K hK F Y;have g0:F 0=some (aY a):=Y 0 _ (by unfold AB;simp only[go_sem]);have g1:F 1=some (aY b):=Y 1 _ (by unfold AB;simp only[go_sem]);have g5:F 5=some v:=Y 5 _ (by unfold AB;simp only[go_sem]);have g6:F 6=some (.int .u64 c):=Y 6 _ (by unfold AB;simp only[go_sem]);have B:F 7=some (.j P.length):=Y 7 _ (by unfold AB;simp only[go_sem]);have fin:∀M:PF,M 0=some (aY a)->M 1=some (aY b)->M 5=some v->M 7=some (.j P.length)->M 8=some (.int .u64 (c+x+y:Nat)) ->
    aI.wp C (.seq (.region JN) (.region JO)) (fE 1 (gH C (aI.wp C (.region JP)) K)) M H0:=by
   intro M q0 q1 q5 q7 q8;have η:(1:Nat)*1<=16777216:=by decide
   generalize ht:c+x+y=t at *
   have ο:t<2*4294967296:=Om;simp only[go_sem,JN,q5,q8,η,iG];refine fS (src:=[[.int .u32 ((t%4294967296:Nat):Int)]]) hO rfl (vQ Om) λv' H' Z _=>?_;rw[vR]at Z;simp only[go_sem,JO,q8,yj,JP,q7,fQ (Om:Z' P<9223372036854775807)];refine hK (P++[t%4294967296]) (t/4294967296) v' _ H' aX (u.app λy hy=>by simp at hy;subst hy;omega) Om ?_ ?_ ?_ Z;rcases aqW P.length (max a.length b.length)with h|h
   exact .inl h;right;have h1:=γ Om;have h2:=S Om;omega;rw[HT,apV,aqH,ι,κ,atF,arN,atA,<-arH];rw[show t%4294967296+4294967296*(t/4294967296)=t from Nat.mod_add_div t 4294967296];have h3:4294967296^P.length*t=4294967296^P.length*c+4294967296^P.length*x+4294967296^P.length*y:=by rw[<-ht,arH,arH]
   omega;unfold AB;rw[apV,aqH];exact Lq
  simp only[aI.wp,go_sem]at fin;simp only[go_sem,gw,g6,gx,B,g0];by_cases c1:Z' P<Z' a;have i:(Z' P:Int)<(Z' a:Nat):=Om;simp only[go_sem,i,gy,g0,B,θ c1,ex,R,QQ,g1];by_cases N:Z' P<Z' b;have e:(Z' P:Int)<(Z' b:Nat):=Om;simp only[go_sem,e,QR,g1,B,β N,ey,e2];exact fin _ (by simp only[go_sem,g0]) (by simp only[go_sem,g1]) (by simp only[go_sem,g5]) (by simp only[go_sem,B]) rfl;have e:¬(Z' P:Int)<(Z' b:Nat):=Om;have h0:=S N;simp only[go_sem,e];exact fin _ (by simp only[go_sem,g0]) (by simp only[go_sem,g1]) (by simp only[go_sem,g5]) (by simp only[go_sem,B]) (by simp only[go_sem,h0]);have i:¬(Z' P:Int)<(Z' a:Nat):=Om;have h0:=γ c1;simp only[go_sem,i,QQ,g1,B];by_cases N:Z' P<Z' b;have e:(Z' P:Int)<(Z' b:Nat):=Om;have δ:u_.wrap ((c:Int)+(y:Int))=((c+x+y:Nat):Int):=by rw[h0];exact rU Om
  simp only[go_sem,e,QR,g1,B,β N,ey,δ];exact fin _ (by simp only[go_sem,g0]) (by simp only[go_sem,g1]) (by simp only[go_sem,g5]) (by simp only[go_sem,B]) rfl;have e:¬(Z' P:Int)<(Z' b:Nat):=Om;have ε:=S N;simp only[go_sem,e];exact fin _ (by simp only[go_sem,g0]) (by simp only[go_sem,g1]) (by simp only[go_sem,g5]) (by simp only[go_sem,B]) (by simp only[go_sem,h0,ε])
 simp only[aI.wp,go_sem]at body;have w:¬Z' P<Z' a->¬Z' P<Z' b->c=0->∀F:PF,F 5=some v->aI.wp C (.seq (.region VT) .ret) (aW [.tmp 4] (cY (aY (aS (val a+val b))))) F H0:=by
  intro n1 n2 n3 F f5;have hV:val P=val a+val b:=by rw[n3,aqR Om,aqR Om]at J;omega
  have hs:=L.trim _ u Om;rw[hV]at hs;simp only[go_sem,VT,f5];refine AE hs hO rfl λF1 H1 _=>?_;simp only[go_sem];exact bK (.inr rfl) .nil rfl a_ ⟨.refl _,rfl⟩
 simp only[aI.wp,go_sem]at w;simp only[go_sem,AB];by_cases c1:Z' P<Z' a;have i:(Z' P:Int)<(Z' a:Nat):=Om;simp only[go_sem,i];refine body Om _ ?_ _ (by unfold AB;exact Lq);intro l A v' U H2 R e2 V D E W X;rw[<-R]at E D;exact aF (α:=N_ × T3_) (l,A,v',H2) ⟨by simp only;omega,D,e2,V,E,X⟩ sO_ W b_;have i:¬(Z' P:Int)<(Z' a:Nat):=Om;simp only[go_sem,i];by_cases N:Z' P<Z' b;have e:(Z' P:Int)<(Z' b:Nat):=Om;simp only[go_sem,e];refine body Om _ ?_ _ (by unfold AB;exact Lq);intro l A v' U H2 R e2 V D E W X;rw[<-R]at E D;exact aF (α:=N_ × T3_) (l,A,v',H2) ⟨by simp only;omega,D,e2,V,E,X⟩ sO_ W b_;have e:¬(Z' P:Int)<(Z' b:Nat):=Om;simp only[go_sem,e];by_cases c3:c=0;have O:¬(c:Int)>0:=Om;simp only[go_sem,O];exact w c1 N c3 _ rfl;have O:(c:Int)>0:=Om;simp only[go_sem,O];refine body Om _ ?_ _ (by unfold AB;exact Lq);intro l A v' U H2 R e2 V D E W X;rw[<-R]at E D;exact aF (α:=N_ × T3_) (l,A,v',H2) ⟨by simp only;omega,D,e2,V,E,X⟩ sO_ W b_
structure iw(C:Ctx):Prop extends zl C where
 plus:∀a b,Lim a->Lim b->Z' a<=8388608->Z' b<=8388608->aJ C 43 [aY a,aY b] .nil (aL (aY (aS (val a+val b))))
theorem acD(L:iw C)(a b:N_)(u:Lim a)(hb:Lim b)(y:Z' a<=35184372087808)(A:Z' b<=35184372087808) :
  v8.wp C (aW Mp.res (cY (opV (nC (val a) (val b)) (val a+val b)))) (g_ [aY a,aY b]) .nil:=by
 unfold opV;simp only[go_sem,v8,Mp];refine aD (L.large a u y) rfl ?_;by_cases i:nl (val a)>512;simp only[go_sem,i];rw[aE (by simp[nC,i])];exact mS rfl;simp only[go_sem,i];refine aD (L.large b hb A) rfl ?_;by_cases l:nl (val b)>512;simp only[go_sem,l];rw[aE (by simp[nC,l])];exact mS rfl;rw[aC (by simp[nC,i,l])];simp only[go_sem,l];refine aD (L.trim a u y) rfl ?_;simp only[go_sem];refine aD (L.trim b hb A) rfl ?_;simp only[go_sem];have x:=L.plus (aS (val a)) (aS (val b)) (cA _) (cA _) (by rw[cE];omega) (by rw[cE];omega);rw[bZ,bZ]at x;refine aD x rfl ?_;have B:=P2 (a:=val a) (b:=val b) (m:=512) Om Om;have w:=L.large (aS (val a+val b)) (cA _) (by rw[cE];omega);rw[bZ]at w;simp only[go_sem];refine aD w rfl ?_;unfold szV szL szE;by_cases e:nl (val a+val b)>512;rw[aE e,aE e];simp only[go_sem,e];exact mS rfl;rw[aC e,aC e];simp only[go_sem,e];exact bK (.inr rfl) .nil rfl a_ ⟨.refl _,rfl⟩
theorem acK(L:iw C)(a b:N_)(u:Lim a)(hb:Lim b)(w:Z' a<=35184372087808)(x:Z' b<=35184372087808) :
  wg.wp C (aW Mz.res (cY (Mi (val a) (val b)))) (g_ [aY a,aY b]) .nil:=by
 unfold Mi;simp only[go_sem,wg,Mz];refine aD (L.large a u w) rfl ?_;by_cases e:nl (val a)>512;simp only[go_sem,e];rw[aE (by simp[nC,e])];exact mS rfl;simp only[go_sem,e];refine aD (L.large b hb x) rfl ?_;by_cases i:nl (val b)>512;simp only[go_sem,i];rw[aE (by simp[nC,i])];exact mS rfl;rw[aC (by simp[nC,e,i])];simp only[go_sem,i];refine aD (L.cmp a b u hb w x) rfl ?_;by_cases l:val a<val b;have:iV (val a) (val b)=-1:=by simp[iV,l]
 rw[aE l];simp only[go_sem,this,show((-1:Int)<0) by decide];exact mS rfl;have:¬iV (val a) (val b)<0:=by unfold iV;rw[aC l];split<;>decide
 rw[aC l];have B:=pQ (Nat.sub_le (val a) (val b));have A:=pQ (Om:val b<=val a);simp only[go_sem,this];refine aD (L.trim a u w) rfl ?_;simp only[go_sem];refine aD (L.trim b hb x) rfl ?_;simp only[go_sem];have y:=L.minus (aS (val a)) (aS (val b)) (cA _) (cA _) (by rw[bZ,bZ];omega) (by rw[cE,cE];exact A) (by rw[cE];omega);rw[bZ,bZ]at y;refine aD y rfl ?_;rw[nj Om];simp only[go_sem];exact bK (.inr rfl) .nil rfl a_ ⟨.refl _,rfl⟩
def D6(k:Nat)(v:Nat):PF:=((n_.set 3 (.int .i64 k)).set 4 (.int .u32 v))
theorem Xe(L:vD C)(xs:N_)(M:Lim xs)(U:Z' xs<=35184372087808) :
  oa.wp C (aW ym.res (aL (.j (fC (val xs):Nat)))) (g_ [aY xs]) .nil:=by
 simp only[go_sem,oa,ym];refine aD (L.trim xs M U) rfl ?_;have V:=CK M;simp only[go_sem,apP,cE,JM];by_cases A:nl (val xs)=0
 ·simp only[go_sem,aZ A];refine eD ?_;have:val xs=0:=qE.1 A;simp[bO,this,rV]
 obtain⟨n,R⟩:∃n,nl (val xs)=n+1:=⟨nl (val xs)-1,by omega⟩;obtain⟨t,y,D⟩:=afQ (xs:=aS (val xs)) (cA _) (by rw[bZ];exact R);have w:t<4294967296:=cA _ t (asC y);have S:val xs=val ((aS (val xs)).take n)+4294967296^n*t:=by
  have:=bZ (val xs);have e:n<(aS (val xs)).length:=by rw[cE];omega
  have O:(aS (val xs))[n]=t:=by rw[apZ e]at y;exact asB.inj y
  conv=>lhs;rw[<-this,<-aqR (l:=aS (val xs)) (i:=n+1) (by rw[cE];omega)]
  rw[gQ _ e,O]
 have hb:fC (val xs)=32*n+fC t:=by have J:=nR ((cA (val xs)).take n);rw[aqF,cE,asK Om]at J;have x:=S8 (lo:=val ((aS (val xs)).take n)) (k:=32*n) (hi:=t) (by rw[Nat.pow_mul];exact J) D;rw[<-x,Nat.pow_mul];exact congrArg fC S
 have u:(bC (aS (val xs)))[n]?=some [.int .u32 (t:Nat)]:=by simp[bC,y]
 have N:i_.wrap (((nl (val xs):Nat):Int)-1)=(n:Int):=wO_
 have e2:i_.wrap (32*(n:Int))=((32*n:Nat):Int):=wO_
 simp only[go_sem,bG A,apP,cE,N,e2,u];refine wp_loop (α:=Nat × Nat) (λa=>D6 a.1 a.2) (λ_=>.nil) (λa=>a.1+fC a.2=32*n+fC t/\a.2<4294967296) (λa=>a.2) (32*n,t) ⟨rfl,w⟩ ?_ a_ ?_
 ·unfold D6;exact Lq
 rintro⟨k,v⟩ ⟨x,hlt⟩;simp only at x hlt;have K:fC t<=32:=(tF t 32).2 w;simp only[go_sem,D6];by_cases F:(v:Int)>0
 ·have E:v≠0:=Om;have B:IntKind.u32.wrap (Int.tdiv (v:Int) 2)=((v/2:Nat):Int):=by rw[show Int.tdiv (v:Int) 2=((v/2:Nat):Int)from Int.ofNat_tdiv v 2,iG,asU Om]
  simp only[go_sem,F,B,wZz k];refine aF (k+1,v/2) ⟨?_,?_⟩ (Nat.div_lt_self Om aT) ?_ a_
  ·have:=GA E;simp only;omega
  ·simp only;omega
  ·exact Lq
 ·have:v=0:=Om;subst this;simp only[go_sem,F];refine eD ?_;rw[rV]at x;simp only[bO,PV.int.injEq,true_and];omega
theorem u7(n:Nat):4294967296^(n/32)*2^(n%32)=2^n:=by
 rw[show(4294967296:Nat)=2^32 by decide,<-Nat.pow_mul,<-Nat.pow_add];congr 1;omega
theorem Rw(n:Nat):i_.wrap (Int.tdiv (n:Int) 32)=i_.wrap ((n/32:Nat):Int):=by
 rw[show Int.tdiv (n:Int) 32=((n/32:Nat):Int)from Int.ofNat_tdiv n 32]
theorem R3(n:Nat):Int.tmod (n:Int) 32=((n%32:Nat):Int):=Int.ofNat_tmod n 32
def Xr(a:N_)(n:Nat)(v:PV)(c i:Nat):PF:=(((((n_.set 0 (aY a)).set 1 (.int .i64 n)).set 5 (v)).set 6 (.int .u64 c)).set 7 (.int .i64 i))
theorem afU(L:vD C)(a:N_)(n:Nat)(ha:Lim a)(h1:Z' a<=8388608)(hn:n<=8388608)(h0:Z' a=0->val a=0) :
  Ec.wp C (aW uup.res (pH 1 (bC (aS (val a*2^n))))) (g_ [aY a,.j n]) .nil:=by
 simp only[go_sem,Ec,uup,apP,JM];by_cases F:Z' a=0;simp only[go_sem,aZ F];rw[h0 F,Nat.zero_mul,jT];exact MD (.inr rfl) rfl;have ez:i_.wrap (Int.tdiv (n:Int) 32)=((n/32:Nat):Int):=by rw[Rw,ia Om]
 have em:=R3 n;have eu:u_.wrap ((n%32:Nat):Int)=((n%32:Nat):Int):=eA Om;have X:=u7 n;have W:n%32<32:=Nat.mod_lt _ aT;have hz:n/32<=8388608:=Om;generalize ζ:n/32=z at *
 generalize δ:n%32=s at *
 have U:((z:Nat):Int)*((4:Nat):Int)<=140737488355328:=Om;have V:((z:Nat):Int)<=9223372036854775807:=Om;have Z:apX z [PV.int .u32 0]=bC (apX z 0):=by simp[bC]
 have N:2^s<=2147483648:=Nat.pow_le_pow_right (show 0<2 by decide) (Om:s<=31);have D:0<2^s:=Nat.pow_pos aT;simp only[go_sem,bG F,ez,U,V,Z];refine aQ λo ho=>?_;simp only[go_sem];refine wp_loop (α:=N_ × Nat × T3_) (λt=>Xr a n t.2.2.2.1 t.2.1 t.2.2.1) (λt=>t.2.2.2.2)
  (λt=>t.2.2.1<=Z' a/\t.1.length=z+t.2.2.1/\Lim t.1/\t.2.1<2^s/\val t.1+4294967296^t.1.length*t.2.1=val (a.take t.2.2.1)*2^n/\bA t.2.2.2.2 1 t.2.2.2.1 (bC t.1)) (λt=>Z' a-t.2.2.1) (apX z 0,0,0,.osl o 1 0 z,h_.set o (.rows 1 (bC (apX z 0))))
  ⟨by simp,by simp,TS _,D,by simp[val,JR],.inr ⟨o,bC (apX z 0),by rw[eJ,List.length_replicate],s_,by rw[eJ];exact apU _,aqO⟩⟩ ?_ b_ ?_
 unfold Xr;exact Lq;rintro⟨P,c,i,v,H0⟩ ⟨hi,hP,l,hc,w,R⟩;simp only at hi hP l hc w R ⊢;simp only[go_sem,Xr];by_cases J:i<Z' a;have A:(i:Int)<(Z' a:Nat):=Om;have γ:=ha _ (apW J);have Y:=gQ a J;have S:=gM a J;generalize hx:a[i]=x at *
 have ε:x*2^s<=4294967295*2147483648:=atU Om N;have ex:u_.wrap ((x:Nat):Int)=((x:Nat):Int):=eA Om;have β:2^s*x=x*2^s:=arW _ _;have M:shift .shl .u64 (x:Int) (s:Int)=some (.int .u64 ((2^s*x:Nat):Int)):=Mf Om Om;have K:=orI (a:=2^s*x) (b:=c) (n:=c+2^s*x) Om Om (by rw[Nat.or_comm];exact Qd hc Om) Om;have E:(c+2^s*x)/4294967296<2^s:=by rw[auD aT];have:2^s*(x+1)<=2^s*4294967296:=atM _ Om;rw[arH,Nat.mul_one]at this;omega
 have B:(1:Nat)*1<=16777216:=by decide
 simp only[go_sem,A,S,ex,em,eu,M,K,iG,B];refine fS (src:=[[.int .u32 (((c+2^s*x)%4294967296:Nat):Int)]]) R rfl (vQ Om) λv' H' u _=>?_;rw[vR]at u;simp only[go_sem,yj,wZz i];refine aF (P++[(c+2^s*x)%4294967296],(c+2^s*x)/4294967296,i+1,v',H') ⟨by simp only;omega,by simp;omega,l.app λy hy=>by simp at hy;subst hy;exact Nat.mod_lt _ aT,E,?_,u⟩ sO_ ?_ b_;simp only;have hp:4294967296^P.length*(2^s*x)=4294967296^i*x*2^n:=by rw[hP,Nat.pow_add,<-X];rw[arN,Nat.mul_left_comm (4294967296^i),<-arN (4294967296^z),arW (4294967296^z*2^s),arN,arW x]
 rw[HT,apV,aqH,atF,arN,atA,<-arH,Nat.mod_add_div,Y,arH,arJ,<-atA,w,hp];exact Lq;have e:i=Z' a:=Om;subst e;have A:¬(Z' a:Int)<(Z' a:Nat):=Om;have B:(1:Nat)*1<=16777216:=by decide
 have hV:val (P++[c])=val a*2^n:=by rw[HT,w,aqO]
 have O:Lim (P++[c]):=l.app λx hx=>by simp at hx;omega
 have ec:IntKind.u32.wrap ((c:Nat):Int)=((c:Nat):Int):=by rw[iG,asU Om]
 simp only[go_sem,A,ec,B];refine fS (src:=[[.int .u32 ((c:Nat):Int)]]) R rfl (vQ Om) λv' H' u _=>?_;rw[vR]at u;have W:=L.trimM _ O (by simp;omega);rw[hV]at W;refine xj W u rfl λF1 H1 _ r H2 hr _=>?_;simp only[go_sem];exact Qy (.inr rfl) hr rfl
def VO(a:N_)(n:Nat)(v:PV)(i:Nat):PF:=((((n_.set 0 (aY a)).set 1 (.int .i64 n)).set 5 (v)).set 6 (.int .i64 i))
theorem Xh(L:vD C)(a:N_)(n:Nat)(N:Lim a)(h1:Z' a<=8388608)(hn:n<=1000000000) :
  oc.wp C (aW sP.res (cY (aY (aS (val a/2^n))))) (g_ [aY a,.j n]) .nil:=by
 have ez:i_.wrap (Int.tdiv (n:Int) 32)=((n/32:Nat):Int):=by rw[Rw,ia Om]
 have em:=R3 n;have eu:u_.wrap ((n%32:Nat):Int)=((n%32:Nat):Int):=eA Om;have R:=u7 n;have V:n%32<32:=Nat.mod_lt _ aT;have hz:n/32<=1000000000:=Om;generalize κ:n/32=z at *
 generalize ι:n%32=s at *
 simp only[go_sem,oc,sP,apP,ez];by_cases c0:Z' a<=z;have w:((z:Nat):Int)>=(Z' a:Nat):=Om;have hq:val a/2^n=0:=by refine auC (Nat.lt_of_lt_of_le (nR N) ?_);rw[<-R];exact aqX (Nat.pow_le_pow_right aT c0) (Nat.le_mul_of_pos_right _ (Nat.pow_pos aT))
 simp only[go_sem,w];rw[hq,jT];exact bK (vs:=[.aG]) (.inr rfl) .nil rfl a_ ⟨.nil 1,rfl⟩;have w:¬((z:Nat):Int)>=(Z' a:Nat):=Om;have hR:val a/2^n=val (a.drop z)/2^s:=by rw[QU N Om,<-R,Nat.div_div_eq_div_mul]
 have J:Lim (a.drop z):=N.drop z;simp only[go_sem,w,ez];refine wp_loop (α:=N_ × PV × PH) (λt=>VO a n t.2.1 (z+t.1.length)) (λt=>t.2.2)
  (λt=>z+t.1.length<=Z' a/\t.1=pL t.1.length (val (a.drop z)/2^s)/\bA t.2.2 1 t.2.1 (bC t.1)) (λt=>Z' a-t.1.length) ([],.aG,.nil)
  ⟨by simp;omega,rfl,.nil⟩ ?_ a_ ?_
 unfold VO
 (repeat' (first|exact d_|refine e_ ?_ ?_))<;>first|(simp only[go_sem,asG]<;>rfl)|rfl
 rintro⟨P,v,H0⟩ ⟨hP,hD,hO⟩;simp only at hP hD hO ⊢;simp only[go_sem,VO];have E:Lim P:=by rw[hD];exact br _ _
 by_cases W:z+Z' P<Z' a;have A:((z+Z' P:Nat):Int)<(Z' a:Nat):=Om;have θ:=N _ (apW W);have γ:=gM a W;have ε:Z' P<=(a.drop z).length:=by rw[arM];omega
 have S:=QU J ε;have u:(a.drop z).drop P.length=a[z+Z' P]::a.drop (z+Z' P+1):=by rw[List.drop_drop,asI W]
 generalize hx:a[z+Z' P]=x at *
 have ex:u_.wrap ((x:Nat):Int)=((x:Nat):Int):=eA Om;have δ:(1:Nat)*1<=16777216:=by decide
 have ew:i_.wrap (((z+Z' P:Nat):Int)+1)=((z+Z' P+1:Nat):Int):=fQ Om;have fin:∀(t:Nat)(F:PF),t<18446744073709551616->val (a.drop z)/4294967296^P.length%(4294967296*4294967296)=t->F 0=some (aY a)->F 1=some (.j n)->F 5=some v->F 6=some (.j (z+Z' P:Nat))->F 7=some (.int .u64 t) ->
   ∀K:bT,(∀v' U H2,(VO a n v' (z+(Z' P+1))).le U->bA H2 1 v' (bC (P++[t/2^s%4294967296]))->(P++[t/2^s%4294967296])=pL (Z' P+1) (val (a.drop z)/2^s)->K .normal U H2) ->
   aI.wp C (.region gv) (fE 1 (gH C (aI.wp C (.region VP)) K)) F H0:=by
  intro t F ht ζ f0 f1 f5 f6 f7 K hK;have D:shift .shr .u64 (t:Int) (s:Int)=some (.int .u64 ((t/2^s:Nat):Int)):=amT Om;simp only[go_sem,gv,f5,f7,f1,em,eu,D,iG,δ];refine fS (src:=[[.int .u32 ((t/2^s%4294967296:Nat):Int)]]) hO rfl (vQ Om) λv' H' M _=>?_;rw[vR]at M;simp only[go_sem,VP,f6,ew];refine hK v' _ H' ?_ M ?_;unfold VO;exact Lq;rw[TB,<-hD];congr 2;have e:val (a.drop z)/4294967296^P.length=t%4294967296+4294967296*(t/4294967296+4294967296*(val (a.drop z)/4294967296^P.length/(4294967296*4294967296))):=by have:=Nat.mod_add_div (val (a.drop z)/4294967296^P.length) (4294967296*4294967296);rw[ζ]at this;have h2:=Nat.mod_add_div t 4294967296;rw[arH,<-atA,h2,<-arN];exact this.symm
  have:=Fy V e;rw[this];congr 2;have h2:=Nat.mod_add_div t 4294967296;omega
 simp only[aI.wp,go_sem]at fin;simp only[go_sem,A,γ,ex,ew];by_cases X:z+Z' P+1<Z' a;have B:((z+Z' P+1:Nat):Int)<(Z' a:Nat):=Om;have η:=N _ (apW X);have O:=gM a X;rw[asI X]at u;generalize hy:a[z+Z' P+1]=y at *
 have ey:u_.wrap ((y:Nat):Int)=((y:Nat):Int):=eA Om;have D:shift .shl .u64 (y:Int) ((32:Nat):Int)=some (.int .u64 ((2^32*y:Nat):Int)):=Mf aT Om;have β:=orI (a:=x) (b:=2^32*y) (n:=x+2^32*y) Om Om (Qd Om Om) Om;simp only[go_sem,B,ew,O,ey,show shift .shl .u64 (y:Int) 32=_ from D,β];refine fin (x+2^32*y) _ Om ?_ rfl rfl rfl rfl rfl _ ?_;rw[<-S,u];simp only[val];omega;intro v' U H2 Y e2 Z;refine aF (α:=N_ × PV × PH) (P++[(x+2^32*y)/2^s%4294967296],v',H2) ⟨by simp;omega,by simpa using Z,e2⟩ (by simp;omega) ?_ b_;simp only[apV,aqH];exact Y;have B:¬((z+Z' P+1:Nat):Int)<(Z' a:Nat):=Om;rw[List.drop_of_length_le (l:=a) (i:=z+Z' P+1) Om]at u;simp only[go_sem,B];refine fin x _ Om ?_ rfl rfl rfl rfl rfl _ ?_;rw[<-S,u];simp only[val];omega;intro v' U H2 Y e2 Z;refine aF (α:=N_ × PV × PH) (P++[x/2^s%4294967296],v',H2) ⟨by simp;omega,by simpa using Z,e2⟩ (by simp;omega) ?_ b_;simp only[apV,aqH];exact Y;have e:z+Z' P=Z' a:=Om;have A:¬((z+Z' P:Nat):Int)<(Z' a:Nat):=Om;have hV:val P=val (a.drop z)/2^s:=by rw[hD];refine ZX (Nat.lt_of_le_of_lt (asH _ _) ?_);have:=nR J;rw[arM]at this;rw[show P.length=Z' a-z by omega];exact this
 have V:=L.trim _ E Om;rw[hV,<-hR]at V;simp only[go_sem,A];refine AE V hO rfl λF1 H1 _=>?_;simp only[go_sem];exact bK (.inr rfl) .nil rfl a_ ⟨.refl _,rfl⟩
structure SC(C:Ctx):Prop extends iw C where
 bits:∀xs,Lim xs->Z' xs<=35184372087808->aJ C 31 [aY xs] .nil (aL (.int .i64 (fC (val xs):Nat)))
 upM:∀(a:N_)(n:Nat),Lim a->Z' a<=8388608->n<=8388608->(Z' a=0->val a=0)->aJ C 45 [aY a,.int .i64 n] .nil (pH 1 (bC (aS (val a*2^n))))
 down:∀(a:N_)(n:Nat),Lim a->Z' a<=8388608->n<=1000000000->aJ C 40 [aY a,.int .i64 n] .nil (aL (aY (aS (val a/2^n))))
def udS:Spec:=λname vs=>match name,vs with
 |35,[.int _ v]=>some ([],λ_=>aL (aY (aS v.toNat)))
 |44,[x,y]=>some ([],λ_=>aL (aY (aS (val (sD x)*val (sD y)))))
 |32,[x,.osl q _ _ _]=>some ([q],λe r H'=>H'=e/\∀xs,Lim xs->e q=some (.rows 1 (bC xs))->r=.int .i64 (iV (val (sD x)) (val xs)))
 |_,_=>none
theorem Xg(v:Nat):udS 35 [.int .u64 v]=some ([],λ_=>aL (aY (aS v))):=rfl
theorem R8(x y:N_):udS 44 [aY x,aY y]=some ([],λ_=>aL (aY (aS (val x*val y)))):=by
 show some ([],λ_=>aL (aY (aS (val (sD (aY x))*val (sD (aY y))))))=_;rw[lS,lS]
theorem Te(q:Nat)(x L:N_):(h_.set q (.rows 1 (bC L)))=(h_.set q (.rows 1 (bC L)))/\∀xs,Lim xs->(h_.set q (.rows 1 (bC L))) q=some (.rows 1 (bC xs))->(PV.int .i64 (iV (val x) (val L)))=.j (iV (val (sD (aY x))) (val xs)):=by
 refine⟨rfl,λxs i e=>?_⟩;rw[bL]at e;have:bC L=bC xs:=(aR.rows.inj (asB.inj e)).2;rw[uy this,lS]
def duF(n o i:Nat)(y:N_)(top l e:Nat)(k:Int):PF:=
 ((((((n_.set 10 (.int .i64 n)).set 11 (.osl o 1 0 i)).set 12 (aY y)).set 13 (.int .u64 top)).set 14 (.osl l 1 0 e)).set 15 (.int .i64 k))
abbrev fI(X:N_)(Z:P2_):P2_:=bC X++Z
theorem QY{X:N_}{Z:P2_}{i:Nat}(h:i<Z' X):(fI X Z)[i]?=some [.int .u32 ((X[i]:Nat):Int)]:=by
 rw[fI,asE (by rw[eJ];exact h),gM X h]
theorem wn{X:N_}{Z:P2_}{i:Nat}(h:i<Z' X)(v:Nat):(fI X Z).set i [.int .u32 (v:Int)]=fI (X.set i v) Z:=by
 rw[fI,List.set_append_left _ _ (by rw[eJ];exact h),uL]
theorem wm{X:N_}{Z:P2_}{j m:Nat}(h:j+m<=Z' X):((fI X Z).drop j).take m=bC ((X.drop j).take m):=by
 rw[fI,List.drop_append_of_le_length (by rw[eJ];omega),List.take_append_of_le_length (by rw[arM,eJ];omega)];unfold bC;rw[<-List.map_drop,<-List.map_take]
theorem afS(L:SC C)(n o w:Nat)(y:N_)(top u V j:Nat)(X:N_)(Z:P2_)(S:u≠o)(hy:Lim y)(hX:Lim X)(γ:Z' X=w)(hl:w<=5000)(hj:j+(Z' y+1)<=w)(E:0<val y)
  (qv:aR) (g0:Nat) (hg:val ((X.drop j).take (Z' y+1))/val y<=g0) (R:g0<4294967296) (K:bT) (F:PF) (H:PH) (hF:((duF n o w y top u V j).set 17 (.int .u64 g0)).le F) (hH:((h_.set o (.rows 1 (fI X Z))).set u qv).le H)
  (hK:∀F' H',((duF n o w y top u V j).set 17 (.int .u64 (val ((X.drop j).take (Z' y+1))/val y:Nat))).le F'->((h_.set o (.rows 1 (fI X Z))).set u qv).le H'->K .normal F' H') :
  aI.wp C (.block 4 (.loop BM)) K F H:=by
 have e:¬o=u:=λh=>S h.symm;have i:((X.drop j).take (Z' y+1)).length=Z' y+1:=by rw[aqF,arM];omega
 have x:Lim ((X.drop j).take (Z' y+1)):=(hX.drop _).take _;have A:=wm (X:=X) (Z:=Z) (j:=j) (m:=Z' y+1) Om;have B:j+(Z' y+1)<=(fI X Z).length:=by rw[fI,apV,eJ];omega
 have N:bC ((X.drop j).take (Z' y+1))≠[]:=λh=>by have:=congrArg List.length h;rw[eJ,i]at this;simp at this
 generalize hW:(X.drop j).take (Z' y+1)=W at *
 generalize D:val W/val y=M at *
 simp only[go_sem];refine wp_loop (α:=Nat) (λg=>(duF n o w y top u V j).set 17 (.int .u64 g)) (λ_=>(h_.set o (.rows 1 (fI X Z))).set u qv) (λg=>M<=g/\g<4294967296) (λg=>g) g0 ⟨hg,R⟩ hF hH ?_;rintro g ⟨β,hlt⟩;have e1:i_.wrap ((j:Int)+(Z' y:Int))=((j+Z' y:Nat):Int):=rT Om;have e2:i_.wrap (((j+Z' y:Nat):Int)+1)=((j+Z' y+1:Nat):Int):=fQ Om;have b1:(j:Int)<=((j+Z' y+1:Nat):Int):=Om;have b2:((j+Z' y+1:Nat):Int)<=(w:Nat):=Om;have b3:j+Z' y+1-j=Z' y+1:=Om;have mk:=L.make g Om;have tm:=L.times y (aS g) hy (cA _) Om (by have J:nl g<=1:=xO (by rw[Nat.pow_one];exact hlt);rw[cE];omega)
 rw[bZ]at tm;have U:(aS (val y*g)).length<=35184372087808:=by have J:nl g<=1:=xO (by rw[Nat.pow_one];exact hlt);have h2:=zK (a:=val y) (b:=g) (CK hy) J;rw[cE];omega
 have cm:=L.cmp (aS (val y*g)) W (cA _) x U Om;rw[bZ]at cm;simp only[go_sem,BM];refine bE .nil udS a_ ?_;simp only[go_sem,duF];refine cM (Xg g) mk Sq a_ ?_;simp only[go_sem];have tS:=R8 y (aS g);rw[bZ]at tS;refine cM tS tm Sq a_ ?_;simp only[go_sem,apP,e1,e2,b1,b2,b3];refine rS (src:=bC W) ?_ ?_ (λh=>absurd h N) λ_ o' l=>?_
 ·simp only[go_sem,e,B,A]
 ·unfold roomFor;rw[eJ,i];simp only[maxLen];omega
 refine⟨a_,?_⟩;rw[eJ,i];have n1:¬o'=u:=(yD.1 l).1;refine Tn (o:=o') (s:=1) (rs:=bC W) (vs:=[aY (aS (val y*g)),.osl o' 1 0 (Z' y+1)]) (v:=.j (iV (val y*g) (val W))) rfl (.int _ _) Sq ?_ ?_ ?_ Sq a_ ?_
 ·rw[aqQ,aqQ,arL,AK (by rw[eJ,i];exact apU _),aqR (by rw[eJ,i];exact apU _)];exact cm
 ·have:=Te o' (aS (val y*g)) W;rw[bZ]at this;exact this
 ·rintro r H' ⟨J,h2⟩;have:=h2 W x (by rw[bL]);rw[lS,bZ]at this;exact⟨this,J⟩
 simp only[go_sem];by_cases c:val W<val y*g
 ·have O:iV (val y*g) (val W)=1:=by unfold iV;rw[aC Om,aE c]
  have hq:M<g:=by rw[<-D];exact(auD E).2 (by rw[arW];exact c)
  have ew:u_.wrap ((g:Int)-1)=((g-1:Nat):Int):=by rw[wrap_u64 Om Om];omega
  simp only[go_sem,O,show(1:Int)>0 by decide,ew];refine aF (g-1) ⟨by omega,by omega⟩ Om ?_ ?_
  ·exact Lq
  ·refine c_ (c_ a_ ?_) ?_
   ·have Y:¬o=o':=λh=>by subst h;rw[aM,aC e,bL]at l;cases l
    simp only[go_sem,Y,e]
   ·have n3:¬u=o':=λh=>n1 h.symm;simp only[go_sem,n3]
 ·have O:¬iV (val y*g) (val W)>0:=by unfold iV;rw[aC c];split<;>decide
  have hq:g=M:=by
   have:g<=M:=by rw[<-D];exact(Nat.le_div_iff_mul_le E).2 (by rw[arW];omega)
   omega
  simp only[go_sem,O];refine hK _ _ ?_ ?_
  ·unfold duF
   (repeat' (first|exact d_|refine e_ ?_ ?_))<;>first|(simp only[go_sem,<-hq]<;>rfl)|rfl
  ·refine c_ (c_ a_ ?_) ?_
   ·have Y:¬o=o':=λh=>by subst h;rw[aM,aC e,bL]at l;cases l
    simp only[go_sem,Y,e]
   ·have n3:¬u=o':=λh=>n1 h.symm;simp only[go_sem,n3]
theorem aaH(R k:Nat)(h:k<nl R):∃u:k<(aS R).length,(aS R)[k]=R/4294967296^k%4294967296:=by
 have e:k<(aS R).length:=by rw[cE];exact h
 refine⟨e,?_⟩;have i:=QU (cA R) (Nat.le_of_lt e);rw[bZ,asI e]at i;have l:=cA R _ (apW e);simp only[val]at i;rw[<-i,Nat.add_mul_mod_self_left,asU l]
theorem U4(R k:Nat)(h:nl R<=k):R/4294967296^k%4294967296=0:=by
 rw[auC ((oG R k).1 h)]
theorem abS{A P W Z:N_}{i:Nat}(e:Z' P=i)(hi:i<Z' W)(v:Nat):(A++(P++W.drop i)++Z).set (Z' A+i) v=A++((P++[v])++W.drop (i+1))++Z:=
 uy (by rw[<-uL];exact abT e hi v)
theorem aiU(n o D:Nat)(y:N_)(top x U j:Nat)(X:N_)(Z:P2_)(J:x≠o)(O:Z' X=D)(hl:D<=5000)(hj:j+(Z' y+1)<=D)
  (V:aR) (g R:Nat) (K:bT) (F:PF) (H:PH) (hF:((((duF n o D y top x U j).set 17 (.int .u64 g)).set 18 (aY (aS R))).set 19 (.j 0)).le F) (hH:((h_.set o (.rows 1 (fI X Z))).set x V).le H)
  (hK:∀Y H',((duF n o D y top x U j).set 17 (.int .u64 g)).le Y->((h_.set o (.rows 1 (fI (X.take j++pL (Z' y+1) R++X.drop (j+(Z' y+1))) Z))).set x V).le H'->K .normal Y H') :
  aI.wp C (.block 6 (.loop BN)) K F H:=by
 have u:¬o=x:=λh=>J h.symm;have hA:(X.take j).length=j:=by rw[aqF];omega
 have ε:((X.drop j).take (Z' y+1)).length=Z' y+1:=by rw[aqF,arM];omega
 have θ:(X.drop (j+(Z' y+1))).length=D-(j+(Z' y+1)):=by rw[arM,O]
 have B:X.take j++(X.drop j).take (Z' y+1)++X.drop (j+(Z' y+1))=X:=by rw[aqT,<-List.drop_drop,asZ,asZ]
 rw[<-B]at hH;generalize γ:X.take j=A at *
 generalize δ:(X.drop j).take (Z' y+1)=W at *
 generalize η:X.drop (j+(Z' y+1))=w at *
 simp only[go_sem];refine wp_loop (α:=N_) (λP=>(((duF n o D y top x U j).set 17 (.int .u64 g)).set 18 (aY (aS R))).set 19 (.j P.length)) (λP=>(h_.set o (.rows 1 (fI (A++(P++W.drop P.length)++w) Z))).set x V)
  (λP=>Z' P<=Z' y+1/\P=pL P.length R) (λP=>Z' y+1-Z' P) [] ⟨apR _,rfl⟩ hF (by simpa using hH) ?_
 rintro P ⟨hP,hD⟩;simp only[go_sem,BN,duF];by_cases c:Z' P<Z' y+1;have M:(Z' P:Int)<=(Z' y:Nat):=Om;have ei:i_.wrap ((j:Int)+(Z' P:Int))=((j+Z' P:Nat):Int):=rT Om;have β:(A++(P++W.drop P.length)++w).length=D:=by simp only[apV,arM];omega
 have hi:j+Z' P<(A++(P++W.drop P.length)++w).length:=Om;have b1:((j+Z' P:Nat):Int)<(D:Nat):=Om;have r1:=QY (Z:=Z) hi;have s1:=wn (Z:=Z) hi 0;have L:j+Z' P<((A++(P++W.drop P.length)++w).set (j+Z' P) 0).length:=by rw[arD];exact hi
 have l:=λv=>abS (A:=A) (P:=P) (W:=W) (Z:=w) (i:=Z' P) rfl Om v;rw[hA]at l;generalize ζ:A++(P++W.drop P.length)++w=XX at *
 have r2:(fI (A++((P++[0])++W.drop (Z' P+1))++w) Z)[j+Z' P]?=some [.int .u32 ((0:Nat):Int)]:=by rw[<-l 0,QY L,List.getElem_set_self]
 have s2:∀v,(fI (A++((P++[0])++W.drop (Z' P+1))++w) Z).set (j+Z' P) [.int .u32 ((v:Nat):Int)]=fI (A++((P++[v])++W.drop (Z' P+1))++w) Z:=by intro v;rw[<-l 0,wn L,List.set_set,l]
 have aoZ:=TB P.length R;rw[<-hD]at aoZ;have ew:i_.wrap ((Z' P:Int)+1)=((Z' P+1:Nat):Int):=fQ Om;simp only[go_sem,M,ei,b1,u,r1,show([PV.int .u32 (0:Int)])=[PV.int .u32 ((0:Nat):Int)]from rfl,s1,cE];by_cases c2:Z' P<nl R;have E:(Z' P:Int)<(nl R:Nat):=Om;obtain⟨N,S⟩:=aaH R P.length c2;have hr:=gM (aS R) N;rw[S]at hr;simp only[go_sem,E,hr,ei,b1,u,r2,s2,List.set_set,l,ew];refine aF (P++[R/4294967296^P.length%4294967296]) ⟨by simp;omega,by rw[apV,aqH];exact aoZ.symm⟩ (by simp;omega) ?_ ?_;rw[apV,aqH];exact Lq;rw[apV,aqH];refine c_ (c_ a_ ?_) ?_<;>simp only[go_sem,u,show ¬x=o from J];have E:¬(Z' P:Int)<(nl R:Nat):=Om;have S:=U4 R P.length Om;rw[S]at aoZ;simp only[go_sem,E,l,ew];refine aF (P++[0]) ⟨by simp;omega,by rw[apV,aqH];exact aoZ.symm⟩ (by simp;omega) ?_ ?_;rw[apV,aqH];exact Lq;rw[apV,aqH];refine c_ (c_ a_ ?_) ?_<;>simp only[go_sem,u,show ¬x=o from J];have M:¬(Z' P:Int)<=(Z' y:Nat):=Om;have e:Z' P=Z' y+1:=Om;simp only[go_sem,M];refine hK _ _ (by unfold duF;exact Lq) ?_;have h2:A++pL (Z' y+1) R++w=A++(P++W.drop P.length)++w:=by rw[List.drop_of_length_le Om,aqY,<-e,<-hD]
 rw[h2];exact b_
theorem Uh{y W:N_}{m:Nat}(D:Lim y)(hW:Lim W)(A:Z' y=m+1)(x:Z' W=m+2)(B:0<y[m]):val W/val y<=(4294967296*W[m+1]+W[m])/y[m]:=by
 have w:=gQ y (Om:m<Z' y);rw[aqR Om]at w;have l:=gQ W (Om:m+1<Z' W);rw[aqR Om,gQ W (Om:m<Z' W)]at l;have u:=nR (hW.take m);rw[aqF,asK Om]at u;have hp:0<4294967296^m:=Nat.pow_pos aT;have hb:4294967296^m*y[m]<=val y:=Om;have i:0<4294967296^m*y[m]:=Nat.mul_pos hp B;have e:val W=val (W.take m)+4294967296^m*(4294967296*W[m+1]+W[m]):=by rw[l,atF,arH,arN];omega
 refine aqX (Nat.div_le_div_left hb i) ?_;rw[<-Nat.div_div_eq_div_mul,e,Nat.add_mul_div_left _ _ hp,auC u,aqA];exact apU _
theorem R9(L:SC C)(U0 n o l e i m:Nat)(y z:N_)(O:i≠o)(hy:Lim y)(J:Z' y=m+1)(ht:0<y[m])(e':l=e+(m+1))(S:l<=5000)(X:N_)(E:FL U0 (val y) (m+1) l e e X (apX e 0))(K:bT)(F:PF)(H:PH)
  (hF:(duF n o l y (y[m]) i e ((e:Int)-1)).le F) (hH:((h_.set o (.rows 1 (fI X (bC z)))).set i (.rows 1 (bC (apX e 0)))).le H)
  (hK:∀X' Q' F' H',FL U0 (val y) (m+1) l e 0 X' Q'->(duF n o l y (y[m]) i e (-1)).le F'->((h_.set o (.rows 1 (fI X' (bC z)))).set i (.rows 1 (bC Q'))).le H'->K .normal F' H') :
  aI.wp C (.block 2 (.loop BO)) K F H:=by
 have u:¬o=i:=λh=>O h.symm;have n':¬i=o:=O;have hV:val y<4294967296^(m+1):=by have:=nR hy;rw[J]at this;exact this
 have μ:0<val y:=by have h1:=gQ y (Om:m<Z' y);rw[aqR Om]at h1;have:0<4294967296^m*y[m]:=Nat.mul_pos (Nat.pow_pos aT) ht;omega
 have t':=hy _ (apW (Om:m<Z' y));generalize htop:y[m]=top at *
 simp only[go_sem];refine wp_loop (α:=Nat × N_ × N_) (λt=>duF n o l y top i e ((t.1:Int)-1)) (λt=>(h_.set o (.rows 1 (fI t.2.1 (bC z)))).set i (.rows 1 (bC t.2.2)))
  (λt=>t.1<=e/\FL U0 (val y) (m+1) l e t.1 t.2.1 t.2.2) (λt=>t.1) (e,X,apX e 0) ⟨apU _,E⟩ hF hH ?_
 rintro⟨k,X,Q⟩ ⟨hk,E⟩;simp only at hk E;simp only[go_sem,BO,duF];by_cases h0:0<k;obtain⟨j,rfl⟩:∃j,k=j+1:=⟨k-1,by omega⟩;have hz:((j+1:Nat):Int)-1=(j:Int):=Om;have a':(j:Int)>=0:=Om;have dst:=Tr E hV Om e';rw[show m+1+1=m+2 from rfl]at dst;obtain⟨hlt,Δ⟩:=dst;have ν:=E.lu';have p':=E.lq';have N:((X.drop j).take (m+2)).length=m+2:=by rw[aqF,arM];omega
 have β:Lim ((X.drop j).take (m+2)):=(E.limU.drop _).take _;have r':m+1<((X.drop j).take (m+2)).length:=Om;have q':m<((X.drop j).take (m+2)).length:=Om;have a1:j+(m+1)<Z' X:=Om;have a0:j+m<Z' X:=Om;have w1:((X.drop j).take (m+2))[m+1]=X[j+(m+1)]:=by simp
 have w0:((X.drop j).take (m+2))[m]=X[j+m]:=by simp
 have ο:=Uh hy β J N (by rw[htop];exact ht);rw[w1,w0,htop]at ο;have r1:=QY (Z:=bC z) a1;have r0:=QY (Z:=bC z) a0;have l1:=E.limU _ (apW a1);have l0:=E.limU _ (apW a0);generalize v':X[j+(m+1)]=A at *
 generalize u':X[j+m]=D at *
 have e1:i_.wrap ((j:Int)+(Z' y:Int))=((j+(m+1):Nat):Int):=by rw[J];exact rT Om
 have e0:i_.wrap (((j+(m+1):Nat):Int)-1)=((j+m:Nat):Int):=wO_
 have b1:((j+(m+1):Nat):Int)<(l:Nat):=Om;have b0:((j+m:Nat):Int)<(l:Nat):=Om;have ω:u_.wrap ((A:Nat):Int)=((A:Nat):Int):=eA Om;have ψ:u_.wrap ((D:Nat):Int)=((D:Nat):Int):=eA Om;have ζ:shift .shl .u64 (A:Int) 32=some (.int .u64 ((2^32*A:Nat):Int)):=Mf (s:=32) Om Om;have χ:(2:Nat)^32=4294967296:=by decide
 have δ:=orI (a:=2^32*A) (b:=D) (n:=2^32*A+D) Om Om (Nat.two_pow_add_eq_or_of_lt Om A).symm Om;rw[χ]at ζ δ;have Ξ:¬((top:Nat):Int)=0:=Om;have τ:(4294967296*A+D)/top<18446744073709551616:=Nat.lt_of_le_of_lt (asH _ _) Om;have ε:u_.wrap (Int.tdiv ((4294967296*A+D:Nat):Int) ((top:Nat):Int))=(((4294967296*A+D)/top:Nat):Int):=by rw[show Int.tdiv ((4294967296*A+D:Nat):Int) ((top:Nat):Int)=(((4294967296*A+D)/top:Nat):Int)from rfl];exact eA τ
 have υ:val ((X.drop j).take (m+2))/val y<4294967296:=(auD μ).2 (by rw[arW];exact hlt);have ξ:=wm (X:=X) (Z:=bC z) (j:=j) (m:=m+2) Om;have ρ:j+(m+2)<=(fI X (bC z)).length:=by rw[fI,apV,eJ];omega
 have γ:val ((X.drop j).take (m+2))-val y*(val ((X.drop j).take (m+2))/val y)=val ((X.drop j).take (m+2))%val y:=by have:=Nat.div_add_mod (val ((X.drop j).take (m+2))) (val y);omega
 have B:val y*(val ((X.drop j).take (m+2))/val y)<=val ((X.drop j).take (m+2)):=Nat.mul_div_le _ _;clear w1 w0;have gu:=λg0=>afS (C:=C) L n o l y top i e j X (bC z) O hy E.limU ν S Om μ (.rows 1 (bC Q)) g0;rw[J,show m+1+1=m+2 from rfl]at gu;generalize hW:(X.drop j).take (m+2)=W at *
 generalize s':val W/val y=M at *
 have Θ:bC W≠[]:=λh=>by have:=congrArg List.length h;rw[eJ,N]at this;simp at this
 have tail:∀(g0:Nat)(F:PF)(H:PH),M<=g0->g0<4294967296->((duF n o l y top i e j).set 17 (.int .u64 g0)).le F->((h_.set o (.rows 1 (fI X (bC z)))).set i (.rows 1 (bC Q))).le H ->
   aI.wp C (.seq (.block 4 (.loop BM)) (.seq (.region KN) (.seq (.seq (.region KO) (.block 6 (.loop BN))) (.region KP)))) (fE 3 (gH C (aI.wp C (.region KQ)) (fK (λ(t:Nat × N_ × N_)=>duF n o l y top i e ((t.1:Int)-1)) (λt=>(h_.set o (.rows 1 (fI t.2.1 (bC z)))).set i (.rows 1 (bC t.2.2))) (λt=>t.1<=e/\FL U0 (val y) (m+1) l e t.1 t.2.1 t.2.2) (λt=>t.1) (j+1) (fE 2 K)))) F H:=by
  intro g0 F H hg Ω hF hH;have gu:=gu g0 hg Ω;simp only[go_sem]at gu;simp only[go_sem];refine gu _ F H hF hH ?_;intro U H1 w ι;have f11:U 11=some (.osl o 1 0 l):=w 11 _ (by unfold duF;simp only[go_sem]);have Y:U 12=some (aY y):=w 12 _ (by unfold duF;simp only[go_sem]);have η:U 15=some (.j j):=w 15 _ (by unfold duF;simp only[go_sem]);have θ:U 17=some (.int .u64 (M:Nat)):=w 17 _ (by unfold duF;simp only[go_sem]);have Γ:U 10=some (.j n):=w 10 _ (by unfold duF;simp only[go_sem]);have f13:U 13=some (.int .u64 top):=w 13 _ (by unfold duF;simp only[go_sem]);have f14:U 14=some (.osl i 1 0 e):=w 14 _ (by unfold duF;simp only[go_sem]);have ho:H1 o=some (.rows 1 (fI X (bC z))):=ι o _ (by simp only[go_sem,u]);have σ:H1 i=some (.rows 1 (bC Q)):=ι i _ Sq;have b3:(j:Int)<=((j+(m+1)+1:Nat):Int):=Om;have b4:((j+(m+1)+1:Nat):Int)<=(l:Nat):=Om;have b5:j+(m+1)+1-j=m+2:=Om;have e2:i_.wrap (((j+(m+1):Nat):Int)+1)=((j+(m+1)+1:Nat):Int):=fQ Om;simp only[go_sem,KN,f11,η,Y,apP,e1,e2,b3,b4,b5];refine rS (src:=bC W) ?_ ?_ (λh=>absurd h Θ) λ_ o' R=>?_;simp only[go_sem,ho,ρ,ξ];unfold roomFor;rw[eJ,N];simp only[maxLen];omega;rw[eJ,N];have n1:¬i=o':=λh=>by subst h;rw[σ]at R;cases R
  have n2:¬o=o':=λh=>by subst h;rw[ho]at R;cases R
  have nq:nl M<=1:=xO (by rw[Nat.pow_one];exact υ);have tm:=L.times y (aS M) hy (cA _) Om (by rw[cE];omega);rw[bZ]at tm;have nW:=CK β;have mn:=L.minus W (aS (val y*M)) β (cA _) (by rw[bZ];exact B) (by rw[cE];exact aqX (pQ B) nW) Om;rw[bZ,γ]at mn;have Λ:(bC W).take (m+2)=bC W:=aqR (by rw[eJ];omega);simp only[go_sem,θ];refine aD (L.make M Om) Sq ?_;simp only[go_sem,Y];refine aD tm Sq ?_;simp only[go_sem];refine tM (o:=o') (s:=1) (rs:=bC W) mn Sq (by simp only[go_sem,show m+2<=W.length by omega,Λ]) ?_;simp only[go_sem,KO];have Ψ:(fI X (bC z)).map (λr=>r.map (PV.cZ o' 1 (bC W)))=fI X (bC z):=by
   have:fI X (bC z)=bC (X++z):=by simp[fI,bC]
   rw[this];exact TH _ _ _ _
  have Φ:(bC Q).map (λr=>r.map (PV.cZ o' 1 (bC W)))=bC Q:=TH _ _ _ _;have ur:=aiU (C:=C) n o l y top i e j X (bC z) O ν S Om (.rows 1 (bC Q)) M (val W%val y);rw[J,show m+1+1=m+2 from rfl]at ur;simp only[go_sem]at ur;refine ur _ _ _ ?_ ?_ ?_;unfold duF
  (repeat' (first|exact d_|refine e_ ?_ ?_))<;>first|(simp only[go_sem,Γ,f11,Y,f13,f14,η,θ,n1,n2]<;>rfl)|rfl
  refine c_ (c_ a_ ?_) ?_;simp only[go_sem,u,n2,ho,aR.frz,Ψ];simp only[go_sem,n1,σ,aR.frz,Φ];intro V H3 x κ;have h':V 10=some (.j n):=x 10 _ (by unfold duF;simp only[go_sem]);have i':V 11=some (.osl o 1 0 l):=x 11 _ (by unfold duF;simp only[go_sem]);have j':V 12=some (aY y):=x 12 _ (by unfold duF;simp only[go_sem]);have k':V 13=some (.int .u64 top):=x 13 _ (by unfold duF;simp only[go_sem]);have φ:V 14=some (.osl i 1 0 e):=x 14 _ (by unfold duF;simp only[go_sem]);have l':V 15=some (.j j):=x 15 _ (by unfold duF;simp only[go_sem]);have m':V 17=some (.int .u64 M):=x 17 _ (by unfold duF;simp only[go_sem]);have f':H3 o=some (.rows 1 (fI (X.take j++pL (m+2) (val W%val y)++X.drop (j+(m+2))) (bC z))):=κ o _ (by simp only[go_sem,u]);have g':H3 i=some (.rows 1 (bC Q)):=κ i _ Sq;have d':j<Z' Q:=Om;have rq:=gM Q d';have b':(j:Int)<(e:Nat):=Om;have sq:=uL Q j M;have ec:IntKind.u32.wrap ((M:Nat):Int)=((M:Nat):Int):=by rw[iG,asU υ]
  have ej:i_.wrap ((j:Int)-1)=(j:Int)-1:=wrap_i64 Om Om;simp only[go_sem,KP,φ,l',m',b',g',rq,ec,sq,KQ,ej];refine aF (α:=Nat × N_ × N_) (j,_,_) ⟨by simp only;omega,Δ⟩ sO_ ?_ ?_;unfold duF;exact lE5 h' i' j' k' φ;refine c_ (c_ a_ ?_) ?_;simp only[go_sem,u,f'];simp only[go_sem]
 simp only[aI.wp,go_sem]at tail;simp only[go_sem,hz,a'];refine bE .nil cO a_ ?_;simp only[go_sem,e1,e0,b1,b0,u,r1,r0,ω,ψ,ζ,δ,Ξ,ε];by_cases c:(4294967296*A+D)/top>4294967295;have c':(((4294967296*A+D)/top:Nat):Int)>4294967295:=Om;simp only[go_sem,c'];exact tail 4294967295 _ _ Om aT (by unfold duF;exact Lq) b_;have c':¬(((4294967296*A+D)/top:Nat):Int)>4294967295:=Om;simp only[go_sem,c'];exact tail _ _ _ ο Om (by unfold duF;exact Lq) b_;have:k=0:=Om;subst this;have hz:¬((0:Nat):Int)-1>=0:=by decide
 simp only[go_sem,hz];refine hK X Q _ _ E ?_ b_;unfold duF;exact lE1 (show((0:Nat):Int)-1=-1 from rfl)
def Xf(a:N_)(d q k r:Nat):PF:=(((((n_.set 0 (aY a)).set 1 (aY [d])).set 6 (.osl q 1 0 a.length)).set 7 (.int .u64 r)).set 8 (.int .i64 ((k:Int)-1)))
theorem Ms(L:SC C)(a:N_)(d:Nat)(ha:Lim a)(l:0<d)(hd:d<4294967296)(h1:Z' a<=1000)(F:PF)(f0:F 0=some (aY a))(f1:F 1=some (aY [d])) :
  aI.wp C (.seq (.region QJ) (.seq (.region QK) (.seq (.seq (.region QL) (.block 0 (.loop KG))) (.seq (.region KI) .ret)))) (aW [.tmp 4,.tmp 5] (cY (bs (val a) d))) F .nil:=by
 have Y:(Z' a:Int)*((4:Nat):Int)<=140737488355328:=Om;have Z:(Z' a:Int)<=9223372036854775807:=Om;have hz:apX a.length [PV.int .u32 0]=bC (apX a.length 0++[]):=by simp[bC]
 simp only[go_sem,QJ,f0,apP,Y,Z,hz];refine aQ λo ho=>?_;simp only[go_sem,QK,QL,f0,apP];refine wp_loop (α:=Nat × N_ × Nat) (λt=>Xf a d o t.1 t.2.2) (λt=>h_.set o (.rows 1 (bC (apX t.1 0++t.2.1))))
  (λt=>t.1+t.2.1.length=Z' a/\Lim t.2.1/\t.2.2<d/\val t.2.1*d+t.2.2=val (a.drop t.1)) (λt=>t.1) (Z' a,[],0) ⟨by simp,by simp[Lim],l,by simp[val]⟩ ?_ ?_ ?_
 unfold Xf
 (repeat' (first|exact d_|refine e_ ?_ ?_))<;>first|(simp only[go_sem,f0,f1,wrap_i64 (Om:-9223372036854775808<=(Z' a:Int)-1) (Om:(Z' a:Int)-1<=9223372036854775807)]<;>rfl)|rfl
 exact c_ a_ Sq;rintro⟨k,S,r⟩ ⟨hk,i,N,e⟩;simp only at hk i N e;simp only[go_sem,KG,Xf];by_cases h0:0<k;obtain⟨m,rfl⟩:∃m,k=m+1:=⟨k-1,by omega⟩;have A:((m+1:Nat):Int)-1=(m:Int):=Om;have W:(m:Int)>=0:=Om;have w:m<Z' a:=Om;have hlt:(m:Int)<(Z' a:Nat):=Om;have γ:=ha _ (apW w);have u:val (a.drop m)=a[m]+4294967296*val (a.drop (m+1)):=by rw[asI w];rfl
 have U:=gM a w;generalize hx:a[m]=x at *
 have ex:u_.wrap ((x:Nat):Int)=((x:Nat):Int):=eA Om;have ed:u_.wrap ((d:Nat):Int)=((d:Nat):Int):=eA Om;have J:shift .shl .u64 (r:Int) 32=some (.int .u64 ((2^32*r:Nat):Int)):=Mf (s:=32) Om Om;have O:(2:Nat)^32=4294967296:=by decide
 have B:=orI (a:=2^32*r) (b:=x) (n:=2^32*r+x) Om Om (Nat.two_pow_add_eq_or_of_lt Om r).symm Om;rw[O]at J B;have hq:(4294967296*r+x)/d<4294967296:=by rw[auD l];have:4294967296*(r+1)<=4294967296*d:=atM _ N;omega
 have V:¬((d:Nat):Int)=0:=Om;have D:u_.wrap (Int.tdiv ((4294967296*r+x:Nat):Int) ((d:Nat):Int))=(((4294967296*r+x)/d:Nat):Int):=by rw[show Int.tdiv ((4294967296*r+x:Nat):Int) ((d:Nat):Int)=(((4294967296*r+x)/d:Nat):Int)from rfl];exact eA Om
 have E:Int.tmod ((4294967296*r+x:Nat):Int) ((d:Nat):Int)=(((4294967296*r+x)%d:Nat):Int):=rfl;have ec:IntKind.u32.wrap (((4294967296*r+x)/d:Nat):Int)=(((4294967296*r+x)/d:Nat):Int):=by rw[iG,asU hq]
 have K:apX (m+1) 0++S=apX m 0++(0::S):=by rw[List.replicate_succ',aqT];rfl
 have X:(bC (apX m 0++(0::S)))[m]?=some [.int .u32 ((0:Nat):Int)]:=by rw[gM _ aX];simp
 have M:(bC (apX m 0++(0::S))).set m [.int .u32 (((4294967296*r+x)/d:Nat):Int)]=bC (apX m 0++(((4294967296*r+x)/d)::S)):=by rw[uL,asY _ _ aX];simp
 simp only[go_sem,A,W,J,U,ex,B,ed,V,D,ec,hlt,K,X,M,E];refine aF (m,((4294967296*r+x)/d)::S,(4294967296*r+x)%d) ⟨by simp only[aqV];omega,λy hy=>?_,Nat.mod_lt _ l,?_⟩ sO_ ?_ (c_ a_ Sq);rw[aqG]at hy;rcases hy with rfl|hy
 exact hq;exact i y hy;simp only[val];rw[u,<-e,arJ,arH,arN];have:=Nat.div_add_mod (4294967296*r+x) d;rw[arW d]at this;omega
 (repeat' (first|exact d_|refine e_ ?_ ?_))<;>first|(simp only[go_sem,wrap_i64 (Om:-9223372036854775808<=(m:Int)-1) (Om:(m:Int)-1<=9223372036854775807)]<;>rfl)|rfl
 have:k=0:=Om;subst this;have A:¬((0:Nat):Int)-1>=0:=by decide
 rw[asN]at e;have hS:Z' S=Z' a:=Om;have hq:val S=val a/d:=by rw[<-e,arW,Nat.mul_add_div l,auC N,arG]
 have β:r=val a%d:=by rw[<-e,arW,Nat.mul_add_mod,asU N]
 have δ:apX 0 0++S=S:=by simp
 have hl:=L.trim S i Om;have R:(bC S).take a.length=bC S:=aqR (by rw[eJ];omega);simp only[go_sem,A,KI,atL];refine tM (o:=o) (s:=1) (rs:=bC S) hl Sq (by simp only[go_sem,R,show a.length<=S.length by omega]) ?_;simp only[go_sem];refine aD (L.make r Om) Sq ?_;simp only[go_sem];refine bK (vs:=[aY (aS (val S)),aY (aS r)]) (.inr rfl) .nil Ev a_ ⟨?_,rfl⟩;rw[hq,β];exact .refl _
theorem Y4{B m:Nat}(h:nl B=m+1):32*m<fC B/\fC B<=32*(m+1):=by
 refine⟨?_,(pO B (m+1)).2 Om⟩;rcases aqW (32*m) (fC B)with h1|h1
 exact h1;have:=(pO B m).1 h1;omega
theorem Y5{B:Nat}(h:B≠0):2^(fC B-1)<=B:=by
 rcases aqW B (2^(fC B-1))with h1|h1
 have i:=(tF B _).2 h1;have l:fC B≠0:=λe=>h (tZ.1 e);omega;exact h1
theorem Mt(L:SC C)(A B:Nat)(hB:B≠0)(hA:nl A<=512)(Ψ:nl B<=512) :
  VN.wp C (aW eE.res (cY (bs A B))) (g_ [aY (aS A),aY (aS B)]) .nil:=by
 have S:=cA A;have LB:=cA B;have vA:=bZ A;have vB:=bZ B;have lA:(aS A).length=nl A:=rfl;have lB:(aS B).length=nl B:=rfl;simp only[go_sem,VN,eE];refine aD (L.cmp _ _ S LB Om Om) rfl ?_;rw[vA,vB];by_cases c1:A<B;have hc:iV A B<0:=by simp[iV,c1]
 simp only[go_sem,hc];refine aD (L.trim _ S Om) rfl ?_;rw[vA];simp only[go_sem];refine bK (vs:=[.aG,aY (aS A)]) (.inr rfl) .nil rfl a_ ⟨?_,rfl⟩;rw[bs,auC c1,asU c1,jT];exact CoL.tup (CoL.cons (.nil 1) (CoL.cons (.refl _) .nil));have hc:¬iV A B<0:=by unfold iV;rw[aC c1];split<;>decide
 have τ:0<B:=atB hB;have e':nl B≠0:=λh=>hB (qE.1 h);simp only[go_sem,hc,apP,lB];by_cases c2:nl B=1;have U:B<4294967296:=by have:=(oG B 1).1 Om;simpa using this
 have ω:aS B=[B]:=tI hB U;have sh:=Ms (C:=C) L (aS A) B S τ U Om;rw[vA]at sh;simp only[aI.wp,go_sem]at sh;simp only[go_sem,cC (Om:((nl B:Nat):Int)=1)];exact sh _ rfl (by simp only[go_sem,ω]);obtain⟨m,hm⟩:∃m,nl B=m+1:=⟨nl B-1,by omega⟩;have d':1<=m:=Om;obtain⟨b',γ⟩:=Y4 hm;obtain⟨n,hn⟩:∃n,n+fC B=32*(m+1):=⟨32*(m+1)-fC B,by omega⟩;have ε:n<32:=Om;have M:0<2^n:=Nat.pow_pos aT;have W:B<2^fC B:=(tF B _).1 (apU _);have V:=Y5 hB;have Z:B*2^n<4294967296^(m+1):=by have:B*2^n<2^fC B*2^n:=Nat.mul_lt_mul_of_pos_right W M;rw[<-Nat.pow_add,show fC B+n=32*(m+1) by omega,Nat.pow_mul]at this;exact this
 have Ξ:4294967296^m*2147483648<=B*2^n:=by have:2^(fC B-1)*2^n<=B*2^n:=arK _ V;rw[<-Nat.pow_add,show fC B-1+n=32*m+31 by omega,Nat.pow_add,Nat.pow_mul]at this;exact this
 have nV:nl (B*2^n)=m+1:=by
  have J:=(oG (B*2^n) (m+1)).2 Z;rcases aqW (nl (B*2^n)) (m+1)with h|h
  have:=(oG (B*2^n) m).1 Om;have Δ:0<4294967296^m:=Nat.pow_pos aT;omega;omega
 have a':B*2^n≠0:=Nat.mul_ne_zero hB Om;have g':nl (A*2^n)<=nl A+1:=zK (apU _) (xO (by rw[Nat.pow_one];exact Nat.pow_lt_pow_right (a:=2) (m:=n) (n:=32) aT ε));have χ:B*2^n<=A*2^n:=arK _ Om;have h':m+1<=nl (A*2^n):=by rw[<-nV];exact pQ χ
 have Ω:A*2^n≠0:=Om;have μ:i_.wrap (32*((nl B:Nat):Int))=((32*(m+1):Nat):Int):=wO_
 have en:i_.wrap (((32*(m+1):Nat):Int)-((fC B:Nat):Int))=(n:Int):=wO_
 have bt:=L.bits (aS B) LB Om;rw[vB]at bt;have ua:=L.upM (aS A) n S Om Om (λh=>by have:=nR S;rw[h]at this;omega);have ub:=(L.upM (aS B) n LB Om Om (λh=>by have:=nR LB;rw[h]at this;omega)).freeze;rw[vA]at ua;rw[vB]at ub;have tail:∀(o:Nat)(F:PF)(H:PH),F 0=some (aY (aS A))->F 1=some (aY (aS B))->F 10=some (.j n)->F 11=some (.osl o 1 0 (nl (A*2^n)+2))->F 12=some (aY (aS (B*2^n)))->H o=some (.rows 1 (bC (aS (A*2^n))++[[.int .u32 0],[.int .u32 0]])) ->
   aI.wp C (.seq (.region KJ) (.seq (.region KK) (.seq (.region KL) (.seq (.seq (.region KM) (.block 2 (.loop BO))) (.seq (.region KR) .ret))))) (aW [.tmp 4,.tmp 5] (cY (bs A B))) F H:=by
  intro o F H f0 f1 ν f11 ξ hH;have LU:=cA (A*2^n);have LV:=cA (B*2^n);have vU:=bZ (A*2^n);have vV:=bZ (B*2^n);have lU:(aS (A*2^n)).length=nl (A*2^n):=rfl;have lV:(aS (B*2^n)).length=m+1:=nV;have eu:i_.wrap (((nl (A*2^n):Nat):Int)+1)=((nl (A*2^n)+1:Nat):Int):=fQ Om;have b1:((nl (A*2^n)+1:Nat):Int)<=((nl (A*2^n)+2:Nat):Int):=Om;simp only[go_sem,KJ,f11,f0,ν];refine aD ua.freeze rfl ?_;obtain⟨e,c'⟩:∃e,nl (A*2^n)+1-(m+1)=e:=⟨_,rfl⟩;have Γ:nl (A*2^n)+1=e+(m+1):=Om;have em:i_.wrap (((m+1:Nat):Int)-1)=((m:Nat):Int):=wO_
  have w:m<(aS (B*2^n)).length:=Om;have rm:=gM (aS (B*2^n)) w;have tl:=LV _ (apW w);have htop:0<(aS (B*2^n))[m]:=by
   have J:=gQ (aS (B*2^n)) w;rw[aqR Om,vV]at J;have h2:=nR (LV.take m);rw[aqF,asK Om]at h2;have Δ:0<4294967296^m:=Nat.pow_pos aT;rcases arZ (aS (B*2^n))[m]with h|h
   rw[h]at J;omega;exact h
  have κ:2147483648<=(aS (B*2^n))[m]:=by
   have J:=gQ (aS (B*2^n)) w;rw[aqR Om,vV]at J;have h2:=nR (LV.take m);rw[aqF,asK Om]at h2;rcases aqW (aS (B*2^n))[m] 2147483648 with h|h
   exfalso;have h3:4294967296^m*((aS (B*2^n))[m]+1)<=4294967296^m*2147483648:=atM _ h;rw[arH,Nat.mul_one]at h3;omega;exact h
  have D:=R9 (C:=C) L (A*2^n) n o (nl (A*2^n)+1) e;have hI:FL (A*2^n) (val (aS (B*2^n))) (m+1) (nl (A*2^n)+1) e e (aS (A*2^n)++[0]) (apX e 0):=by
   refine⟨by rw[apV,lU];rfl,List.length_replicate,LU.app λx R=>by simp at R;omega,TS _,?_,?_,λi x _ R=>X1 R⟩;rw[jW,vU,JR];simp[val];have Φ:(aS (A*2^n)++[0]).length=nl (A*2^n)+1:=by rw[apV,lU];rfl
   have Λ:val (aS (A*2^n)++[0])=A*2^n:=by rw[jW,vU];simp[val]
   rw[QU (LU.app λx R=>by simp at R;omega) Om,Λ,vV,auD (Nat.pow_pos aT)];have J:A*2^n<4294967296^nl (A*2^n):=(oG _ _).1 (apU _);have R:nl (A*2^n)=m+e:=Om;rw[R,Nat.pow_add]at J;have h2:4294967296^m*4294967296^e<=(B*2^n)*4294967296^e:=arK _ Om;omega
  have N:bC (aS (A*2^n))++[[PV.int .u32 0],[PV.int .u32 0]]=fI (aS (A*2^n)++[0]) (bC [0]):=by simp[fI,bC]
  rw[N]at hH;generalize ι:(aS (B*2^n))[m]=top at *
  have et:u_.wrap ((top:Nat):Int)=((top:Nat):Int):=eA Om;have k2:i_.wrap (((nl (A*2^n)+1:Nat):Int)-((m+1:Nat):Int))=((e:Nat):Int):=wO_
  have k3:((e:Nat):Int)*((4:Nat):Int)<=140737488355328:=Om;have k4:((e:Nat):Int)<=9223372036854775807:=Om;have hz:apX e [PV.int .u32 0]=bC (apX e 0):=by simp[bC]
  have jq:i_.wrap ((e:Int)-1)=(e:Int)-1:=wrap_i64 Om Om;simp only[go_sem,apP,lU,eu,b1,KK,ξ,lV,em,rm,et,KL,k2,k3,k4,hz];refine aQ λE θ=>?_;have ζ:E≠o:=by rintro rfl;rw[hH]at θ;cases θ
  have u:¬o=E:=λh=>ζ h.symm;have y:=D E m (aS (B*2^n)) [0] ζ LV lV (by rw[ι];exact htop) Γ Om _ hI;rw[ι]at y;simp only[go_sem]at y;simp only[go_sem,KM,jq];refine y _ _ _ ?_ ?_ ?_;unfold duF;exact Lq;refine c_ (c_ a_ ?_) ?_;simp only[go_sem,u,hH];simp only[go_sem];clear y D;intro X Q F1 H1 l K Y;have ο:F1 10=some (.j n):=K 10 _ (by unfold duF;simp only[go_sem]);have ρ:F1 11=some (.osl o 1 0 (nl (A*2^n)+1)):=K 11 _ (by unfold duF;simp only[go_sem]);have σ:F1 14=some (.osl E 1 0 e):=K 14 _ (by unfold duF;simp only[go_sem]);have η:H1 o=some (.rows 1 (fI X (bC [0]))):=Y o _ (by simp only[go_sem,u]);have Θ:H1 E=some (.rows 1 (bC Q)):=Y E _ Sq;have hu:val X<val (aS (B*2^n)):=by have:=l.r;rwa[asN]at this
  have O:=l.v;rw[vV]at hu O;have φ:val Q=A/B:=by
   have:A*2^n/(B*2^n)=val Q:=by rw[<-O,Nat.add_mul_div_right _ _ Om,auC hu,aqA]
   rw[<-this,Nat.mul_div_mul_right _ _ M]
  have ψ:val X/2^n=A%B:=by
   have:A*2^n%(B*2^n)=val X:=by rw[<-O,Nat.add_mul_mod_self_right,asU hu]
   rw[<-this,Nat.mul_mod_mul_right,Nat.mul_div_cancel _ M]
  have lX:=l.lu';have lQ:=l.lq';have υ:(bC Q).take e=bC Q:=aqR (by rw[eJ];omega);have β:(fI X (bC [0])).take (nl (A*2^n)+1)=bC X:=by rw[fI,List.take_append_of_le_length (by rw[eJ];omega),aqR (by rw[eJ];omega)]
  have α:nl (A*2^n)+1<=(fI X (bC [0])).length:=by rw[fI,apV,eJ];omega
  have δ:(fI X (bC [0])).map (λr=>r.map (PV.cZ E 1 (bC Q)))=fI X (bC [0]):=by
   have:fI X (bC [0])=bC (X++[0]):=by simp[fI,bC]
   rw[this];exact TH _ _ _ _
  have nX:=CK l.limU;have t1:=L.trim Q l.limQ Om;have t2:=L.trim X l.limU Om;have dn:=L.down (aS (val X)) n (cA _) (by rw[cE];omega) Om;rw[bZ,ψ]at dn;rw[φ]at t1;generalize bC [0]=Z0 at η β α δ;simp only[go_sem,KR,σ];refine tM (o:=E) (s:=1) (rs:=bC Q) t1 Θ (by simp only[go_sem,υ,show e<=Q.length by omega]) ?_;simp only[go_sem,ρ,u];refine tM (o:=o) (s:=1) (rs:=fI X Z0) t2 (by simp only[go_sem,u,η,aR.frz,δ]) (by simp only[go_sem,β,α]) ?_;simp only[go_sem,ο];refine aD dn rfl ?_;simp only[go_sem];exact bK (vs:=[aY (aS (A/B)),aY (aS (A%B))]) (.inr rfl) .nil rfl a_ ⟨.refl _,rfl⟩
 simp only[aI.wp,go_sem]at tail;simp only[go_sem,bJ (Om:¬((nl B:Nat):Int)=1),apP,lB];refine aD bt rfl ?_;simp only[go_sem,μ,en];refine jG ua rfl a_ λr H1 hr _=>?_;have γ:(2:Nat)*1<=16777216:=by decide
 rcases hr with⟨h0,_⟩|⟨o,rs,rfl,rfl,hrl,hrt⟩
 exfalso;have:=congrArg List.length h0;rw[eJ,cE]at this;simp at this;omega;rw[PH.uP];rw[eJ,cE]at hrl hrt;simp only[go_sem,γ,eJ,cE];refine Em (src:=[[.int .u32 0],[.int .u32 0]]) (rs:=rs) rfl ?_ Sq hrl ?_ λo' f'=>?_;unfold roomFor;simp only[maxLen,aqV,asG];omega;rw[hrt];simp only[go_sem];refine aD ub rfl ?_;simp only[go_sem];exact tail o _ _ rfl rfl rfl rfl rfl Sq;rw[hrt];simp only[go_sem];refine aD ub rfl ?_;simp only[go_sem];exact tail o' _ _ rfl rfl rfl rfl rfl Sq
def bU(C:Ctx)(k:Nat)(pf:kT):Prop:=∀(args:V_)(H:PH)(R:R_),Z' args<=pf.ntmps->pf.body.wp C (aW pf.res R) (g_ args) H->aJ C k args H R
theorem bU.go{k:Nat}{pf:kT}(r:bU C k pf){args:V_}{H:PH}{R:R_}(h:pf.body.wp C (aW pf.res R) (g_ args) H)(e:Nat.ble args.length pf.ntmps=true):aJ C k args H R:=r args H R (Nat.le_of_ble_eq_true e) h
abbrev FN(C:Ctx):Prop:=∀n:Nat,n<100->aJ C 195 [.int .i64 n] .nil (aL (.str (cN n)))
section
variable {C:Ctx} {F F':PF} {H:PH}
theorem fY(e:F.le F'){x:aP}{v:PV}(h:x.ev F=some v):x.ev F'=some v:=by
 cases x
 ·exact e _ _ h
 all_goals exact h
theorem LM(e:F.le F'):∀{xs:List aP}{vs:V_},aP.evs F xs=some vs->aP.evs F' xs=some vs
 |[],_,h=>h
 |x::xs,vs,h=>by
  rw[GH]at h ⊢;cases l:x.ev F with
  |none=>simp[l]at h
  |some v=>
   cases i:aP.evs F xs with
   |none=>simp[i]at h
   |some u =>rw[l,i]at h;rw[fY e l,LM e i];exact h
theorem Au(e:F.le F'):∀{ps:List (Nat × Nat × aP)}{cs ds:V_},pZ cs F ps=some ds->pZ cs F' ps=some ds
 |[],_,_,h=>h
 |(off,size,x)::ps,cs,ds,h=>by
  simp only[pZ]at h ⊢;cases i:x.ev F with
  |none=>simp[i]at h
  |some v =>rw[i]at h;rw[fY e i];simp only at h ⊢;split at h;rename_i l;rw[aE l];exact Au e h;cases h
theorem JZ(e:F.le F'){size:Nat}:∀{ps:List (Nat × aP)}{cs ds:P2_},gU size cs F ps=some ds->gU size cs F' ps=some ds
 |[],_,_,h=>h
 |(i,x)::ps,cs,ds,h=>by
  simp only[gU]at h ⊢;cases l:x.ev F with
  |none=>simp[l]at h
  |some v =>rw[l]at h;rw[fY e l];simp only at h ⊢;split at h;rename_i u;rw[aE u];exact JZ e h;cases h
theorem SI(e:F.le F'){d n:Int}{x:Option aP}(h:bnd F d x=some n):bnd F' d x=some n:=by
 cases x with
 |none=>exact h
 |some x=>
  simp only[bnd]at h ⊢;cases i:x.ev F with
  |none=>simp[i]at h
  |some v=>rw[fY e i,<-i];exact h
theorem C0{op:POp}{v:PV}(e:F.le F')(h:aV op F H=some v):aV op F' H=some v:=by
 cases op
 case mv x=>exact fY e h
 case pick c a b=>
  simp only[aV]at h ⊢;cases D:c.ev F with
  |none=>simp[D]at h
  |some t=>
   rw[D]at h;rw[fY e D];cases t<;>simp only at h ⊢<;>try cases h
   rename_i t;cases t
   ·simp only[arO,if_false]at h ⊢;exact fY e h
   ·simp only[if_true]at h ⊢;exact fY e h
 case box r x=>
  cases r
  ·cases h
  simp only[aV]at h ⊢;rcases i:x.ev F with _|a
  ·simp[i]at h
  ·rw[fY e i,<-i];exact h
 case load n p=>
  cases n
  all_goals
   simp only[aV]at h ⊢;rcases i:p.ev F with _|a
   ·simp[i]at h
   ·rw[fY e i,<-i];exact h
 case build z ps =>simp only[aV,aqB]at h ⊢;obtain⟨cs,A,B⟩:=h;exact⟨cs,Au e A,B⟩
 case aoI r s l z ps=>
  cases r
  ·cases h
  simp only[aV]at h ⊢;split at h
  ·rename_i D;rw[aE D];rw[aqB]at h ⊢;obtain⟨cs,A,B⟩:=h;exact⟨cs,JZ e A,B⟩
  ·cases h
 case mkfn n cs =>simp only[aV,aqB]at h ⊢;obtain⟨vs,A,B⟩:=h;exact⟨vs,LM e A,B⟩
 case sliceA n s x lo hi mx=>
  cases lo<;>cases hi<;>cases mx<;>simp only[aV]at h ⊢<;>try cases h
  cases i:x.ev F with
  |none=>simp[i]at h
  |some a=>rw[fY e i,<-i];exact h
 case apA x lo hi=>
  simp only[aV]at h ⊢;cases i:x.ev F with
  |none=>simp[i]at h
  |some a=>
   rw[i]at h;rw[fY e i];cases a<;>simp only at h ⊢<;>try cases h
   cases A:bnd F 0 lo with
   |none=>simp[A]at h
   |some l=>
    rename_i s;cases B:bnd F s.length hi with
    |none=>simp[A,B]at h
    |some u=>rw[SI e A,SI e B,<-A,<-B];exact h
 case slice s x lo hi mx=>
  simp only[aV]at h ⊢;cases i:x.ev F with
  |none=>simp[i]at h
  |some a=>
   rw[i]at h;rw[fY e i];have J:∀(d:Int)(w:PV),(match bnd F 0 lo,bnd F d hi with
     |some a1,some a2=>match(generalizing:=false) mx with
      |none=>PV.slice s w a1 a2 none
      |some m=>(bnd F 0 (some m)).bind λm=>PV.slice s w a1 a2 (some m)
     |_,_=>none)=some v->(match bnd F' 0 lo,bnd F' d hi with
     |some a1,some a2=>match(generalizing:=false) mx with
      |none=>PV.slice s w a1 a2 none
      |some m=>(bnd F' 0 (some m)).bind λm=>PV.slice s w a1 a2 (some m)
     |_,_=>none)=some v:=by
    intro d w h;cases A:bnd F 0 lo with
    |none=>simp[A]at h
    |some l=>
     cases B:bnd F d hi with
     |none=>simp[A,B]at h
     |some u=>
      rw[A,B]at h;rw[SI e A,SI e B];cases mx with
      |none=>exact h
      |some m=>
       simp only at h ⊢;cases E:bnd F 0 (some m)with
       |none=>simp[E]at h
       |some q=>rw[SI e E,<-E];exact h
   cases a<;>simp only at h ⊢<;>first|exact J _ _ h|cases h
 all_goals try exact h
 all_goals simp only[aV]at h ⊢
 all_goals first
  |(rename_i x y;rcases i:x.ev F with _|a;simp[i]at h;rcases hy:y.ev F with _|b;simp[i,hy]at h;rw[fY e i,fY e hy,<-i,<-hy];exact h)
  |(rename_i x y _;rcases i:x.ev F with _|a;simp[i]at h;rcases hy:y.ev F with _|b;simp[i,hy]at h;rw[fY e i,fY e hy,<-i,<-hy];exact h)
  |(rename_i x;rcases i:x.ev F with _|a;simp[i]at h;rw[fY e i,<-i];exact h)
  |(rename_i x _;rcases i:x.ev F with _|a;simp[i]at h;rw[fY e i,<-i];exact h)
theorem zw{op:POp}{r:(Nat->PV) × aR}(e:F.le F')(h:cK op F=some r):cK op F'=some r:=by
 cases op
 case box b x=>
  cases b
  ·simp only[cK]at h ⊢;cases i:x.ev F with
   |none=>simp[i]at h
   |some a=>rw[fY e i,<-i];exact h
  ·cases h
 case aoI b s l z ps=>
  cases b
  ·simp only[cK]at h ⊢;split at h
   ·rename_i A;rw[aE A];rw[aqB]at h ⊢;obtain⟨cs,w,y⟩:=h;exact⟨cs,JZ e w,y⟩
   ·cases h
  ·cases h
 case aoL s b z l c=>
  simp only[cK]at h ⊢;cases i:l.ev F with
  |none=>simp[i]at h
  |some a=>
   cases u:c.ev F with
   |none=>simp[i,u]at h
   |some b=>rw[fY e i,fY e u,<-i,<-u];exact h
 all_goals exact h
theorem Ep{op:POp}{K:R_}(e:F.le F')(h:cG op F H K):cG op F' H K:=by
 cases op
 case store n x y=>
  simp only[cG]at h ⊢;cases i:x.ev F with
  |none=>simp[i]at h
  |some a=>
   cases l:y.ev F with
   |none=>simp[i,l]at h
   |some b=>rw[fY e i,fY e l];rw[i,l]at h;exact h
 case append s b x y=>
  simp only[cG]at h ⊢;cases i:x.ev F with
  |none=>simp[i]at h
  |some a=>
   cases l:y.ev F with
   |none=>simp[i,l]at h
   |some b=>rw[fY e i,fY e l];rw[i,l]at h;exact h
 case aoV sh x y z=>
  simp only[cG]at h ⊢;cases i:x.ev F with
  |none=>simp[i]at h
  |some a=>
   cases l:y.ev F with
   |none=>simp[i,l]at h
   |some b=>
    cases u:z.ev F with
    |none=>simp[i,l,u]at h
    |some c=>rw[fY e i,fY e l,fY e u];rw[i,l,u]at h;exact h
 case insert sh x y z=>
  simp only[cG]at h ⊢;cases i:x.ev F with
  |none=>simp[i]at h
  |some a=>
   cases l:y.ev F with
   |none=>simp[i,l]at h
   |some b=>
    cases u:z.ev F with
    |none=>simp[i,l,u]at h
    |some c=>rw[fY e i,fY e l,fY e u];rw[i,l,u]at h;exact h
 all_goals exact h
theorem PF.afJ(l:F.le F')(i:Nat)(v:PV):(F.set i v).le (F'.set i v):=by
 intro j u h;rw[mU]at h ⊢;split at h;rename_i e;rw[aE e];exact h;rename_i e;rw[aC e];exact l j u h
theorem PF.zS(e:F.le F')(d:O_)(v:PV):(F.put d v).le (F'.put d v):=by
 cases d with
 |none=>exact e
 |some d=>exact PF.afJ e d v
theorem PF.adX(e:F.le F')(o s:Nat)(rs:P2_):(F.frz o s rs).le (F'.frz o s rs):=by
 intro j u h;rw[uE,aqB]at h ⊢;obtain⟨x,i,l⟩:=h;exact⟨x,e j x i,l⟩
theorem PF.le_trans{A B D:PF}(h:A.le B)(k:B.le D):A.le D:=λi v hi=>k i v (h i v hi)
theorem jJ.up{l:PF}{u:PH}(h:jJ F H l u):∀{F':PF},F.le F'->∃e,jJ F' H e u/\l.le e:=by
 induction h with
 |refl F H=>exact λ{F'} i=>⟨F',.refl _ _,i⟩
 |step o y _ A =>intro F' i;obtain⟨e,w,x⟩:=A (PF.adX i o _ _);exact⟨e,.step o y w,x⟩
theorem i9{name:Nat}{args:Option V_}{d:O_}{K1 K2:K_}(A:∀F F' H,F.le F'->K1 F H->K2 F' H)(i:F.le F'){e:Option V_}(B:∀vs,args=some vs->e=some vs)(h:uW C name args d K1 F H):uW C name e d K2 F' H:=by
 obtain⟨vs,l,R,u,w,x,y⟩:=h;exact⟨vs,l,R,B _ u,w,x,λr H' a b=>A _ _ _ (PF.zS i d r) (y r H' a b)⟩
theorem B0{cs:V_}{args:List aP}(e:F.le F')(vs:V_)(h:(aP.evs F args).map (·++cs)=some vs):(aP.evs F' args).map (·++cs)=some vs:=by
 rw[aqB]at h ⊢;obtain⟨x,i,l⟩:=h;exact⟨x,LM e i,l⟩
theorem Gv{name:Nat}{args:List aP}{cs:V_}{d:O_}{K1 K2:K_}(l:∀F F' H,F.le F'->K1 F H->K2 F' H)(e:F.le F')(h:jX C name args cs d K1 F H):jX C name args cs d K2 F' H:=by
 rcases h with h|⟨F1,H1,h1,h2⟩
 exact .inl (i9 l e (B0 e) h);obtain⟨i,w,u⟩:=h1.up e;exact .inr ⟨i,H1,w,i9 l u (B0 u) h2⟩
theorem TZ{op:POp}{d:O_}{K1 K2:K_}(u:∀F F' H,F.le F'->K1 F H->K2 F' H)(e:F.le F')(h:oN (cK op F) d K1 F H):oN (cK op F') d K2 F' H:=by
 obtain⟨y,x,i,l⟩:=h;exact⟨y,x,zw e i,λo w=>u _ _ _ (PF.zS e d _) (l o w)⟩
theorem qp{op:POp}{d:O_}{K1 K2:K_}(u:∀F F' H,F.le F'->K1 F H->K2 F' H)(e:F.le F')(h:wU (aV op F H) d K1 F H):wU (aV op F' H) d K2 F' H:=by
 obtain⟨v,i,l⟩:=h;exact⟨v,C0 e i,u _ _ _ (PF.zS e d v) l⟩
theorem y8{op:POp}{d:O_}{K1 K2:K_}(i:∀F F' H,F.le F'->K1 F H->K2 F' H)(e:F.le F')(h:cG op F H λr H'=>K1 (F.put d r) H'):cG op F' H λr H'=>K2 (F'.put d r) H':=
 Ep e (HW (λv H' l=>i _ _ _ (PF.zS e d v) l) h)
theorem Ym{op:POp}{d:O_}{K1 K2:K_}(i:∀F F' H,F.le F'->K1 F H->K2 F' H)(e:F.le F')(h:wpOp C op d K1 F H):wpOp C op d K2 F' H:=by
 cases op
 case call n a=>exact Gv i e h
 case apF x a=>
  have w:wD C (x.ev F) a d K1 F H:=h;show wD C (x.ev F') a d K2 F' H;cases K:x.ev F with
  |none=>rw[K]at w;exact w.elim
  |some u=>
   rw[fY e K];rw[K]at w;cases u<;>first|exact Gv i e w|exact w.elim|skip
   obtain⟨l,M,A⟩:=w;refine⟨l,M,?_⟩;rcases A with⟨vs,D,R,A,E,J,h5⟩|⟨F1,H1,k1,vs,D,R,A,E,J,h5⟩
   ·exact .inl ⟨vs,D,R,LM e A,E,J,λr H' p q=>i _ _ _ (PF.zS e d r) (h5 r H' p q)⟩
   ·obtain⟨B,N,L⟩:=k1.up e;exact .inr ⟨B,H1,N,vs,D,R,LM L A,E,J,λr H' p q=>i _ _ _ (PF.zS L d r) (h5 r H' p q)⟩
 case box r x=>cases r<;>first|exact TZ (op:=.box false x) i e h|exact qp (op:=.box true x) i e h
 case aoI r s l z ps=>cases r<;>first|exact TZ (op:=.aoI false s l z ps) i e h|exact qp (op:=.aoI true s l z ps) i e h
 case alloc cs=>exact TZ (op:=.alloc cs) i e h
 case aoL s b z l c=>exact TZ (op:=.aoL s b z l c) i e h
 case apK sh=>exact TZ (op:=.apK sh) i e h
 case store n x y=>exact y8 (op:=.store n x y) i e h
 case append s b x y=>exact y8 (op:=.append s b x y) i e h
 case aoV sh x y z=>exact y8 (op:=.aoV sh x y z) i e h
 case insert sh x y z=>exact y8 (op:=.insert sh x y z) i e h
 all_goals exact qp i e h
theorem UG{K1 K2:K_}(l:∀F F' H,F.le F'->K1 F H->K2 F' H):∀{ops:List bQ}{F F':PF}{H:PH},F.le F'->wpOps C ops K1 F H->wpOps C ops K2 F' H
 |[],_,_,_,i,h=>l _ _ _ i h
 |⟨d,op,none⟩::rest,_,_,_,i,h=>Ym (λ_ _ _ a b=>UG l a b) i h
 |⟨d,op,some (t,u)⟩::rest,F,F',H,i,h=>by rw[Gg]at h ⊢;unfold CD at h;split at h;rename_i b hb;rw[i t _ hb];unfold CD;simp only;split at h;rename_i e;rw[aE e];exact Ym (λ_ _ _ a b=>UG l a b) i h;rename_i e;rw[aC e];exact UG l (PF.zS i d _) h;rename_i hb;rw[i t _ hb];exact UG l (PF.zS i d _) h;exact h.elim
theorem Cq{Hs:PH}{S:Spec}{st:Bool}{op:POp}{K:R_}(e:F.le F')(h:(op.kind F).run C Hs S st K H):(op.kind F').run C Hs S st K H:=by
 have new:∀op:POp,(Kind.new (cK op F)).run C Hs S st K H->(Kind.new (cK op F')).run C Hs S st K H:=λop h=>by obtain⟨N,x,i,w⟩:=h;exact⟨N,x,zw e i,w⟩
 have calm:∀op:POp,(Kind.calm (aV op F)).run C Hs S st K H->(Kind.calm (aV op F')).run C Hs S st K H:=λop h=>by obtain⟨v,i,w⟩:=h;exact⟨v,C0 e i,w⟩
 have M:∀op:POp,(Kind.write λH K=>cG op F H K).run C Hs S st K H->(Kind.write λH K=>cG op F' H K).run C Hs S st K H:=λop h=>Ep (op:=op) e (show cG op F H (λr H'=>Hs.le H'/\K r H')from h);cases op
 case call n a =>obtain⟨vs,D,R,i,w⟩:=h;exact⟨vs,D,R,LM e i,w⟩
 case apF x a=>
  unfold POp.kind at h ⊢;simp only at h ⊢;cases A:x.ev F with
  |none=>rw[A]at h;exact h.elim
  |some u=>
   rw[A]at h;rw[fY e A];cases u<;>simp only at h ⊢<;>first|exact h|skip
   obtain⟨vs,D,R,i,w⟩:=h;exact⟨vs,D,R,B0 e _ i,w⟩
 case insert sh x k v=>
  obtain⟨o,L,J,u,g,i,w⟩:=h;refine⟨o,L,J,u,g,?_,w⟩;cases A:x.ev F with
  |none=>simp[A]at i
  |some a=>
   cases B:k.ev F with
   |none=>simp[A,B]at i
   |some b=>
    cases E:v.ev F with
    |none=>simp[A,B,E]at i
    |some c=>rw[fY e A,fY e B,fY e E];rw[A,B,E]at i;exact i
 case box r x=>cases r<;>first|exact new (.box false x) h|exact calm (.box true x) h
 case aoI r s l z ps=>cases r<;>first|exact new (.aoI false s l z ps) h|exact calm (.aoI true s l z ps) h
 case alloc cs=>exact new (.alloc cs) h
 case aoL s b z l c=>exact new (.aoL s b z l c) h
 case apK sh=>exact new (.apK sh) h
 case store n x y=>exact M (.store n x y) h
 case append s b x y=>exact M (.append s b x y) h
 case aoV sh x y z=>exact M (.aoV sh x y z) h
 all_goals exact calm _ h
theorem Uo{Hs:PH}{S:Spec}{st:Bool}{i:bQ}{K:R_}(l:F.le F')(h:(i.kind F).run C Hs S st K H):(i.kind F').run C Hs S st K H:=by
 unfold bQ.kind at h ⊢;split;rename_i u;rw[u]at h;exact Cq l h;rename_i t w u;rw[u]at h;simp only at h;split at h;rename_i b hb;rw[l t _ hb];simp only;split at h;rename_i e;rw[aE e];exact Cq l h;rename_i e;rw[aC e];exact h;rename_i hb;rw[l t _ hb];exact h;exact h.elim
theorem Sp{Hs:PH}{S:Spec}{K1 K2:K_}(u:∀F F' H,F.le F'->K1 F H->K2 F' H):∀{ops:List (bQ × Bool)}{F F':PF}{H:PH},Hs.le H->F.le F'->wpD C Hs S ops K1 F H->wpD C Hs S ops K2 F' H
 |[],_,_,_,_,e,h=>u _ _ _ e h
 |i::rest,F,F',H,y,e,h=>by have w:(i.1.kind F).run C Hs S i.2 (λv H'=>wpD C Hs S rest K1 (F.put i.1.dst v) H') H:=h;exact Uo e (Kind.xT (xL _ _) (λv H' l x=>Sp u l (PF.zS e _ v) x) y w)
class Up(K:bT):Prop where
 up:∀{e:lY}{F F':PF}{H:PH},F.le F'->K e F H->K e F' H
theorem mA:∀(c:aI){K1 K2:bT}(_:∀e F F' H,F.le F'->K1 e F H->K2 e F' H){F F':PF}{H:PH},F.le F'->c.wp C K1 F H->c.wp C K2 F' H
 | .skip,_,_,l,_,_,_,i,h=>l _ _ _ _ i h
 | .region ops,_,_,l,_,_,_,i,h=>UG (l .normal) i h
 | .draw ops,_,_,l,_,_,_,i,⟨Hs,S,x,E⟩=>⟨Hs,S,x,Sp (l .normal) x i E⟩
 | .seq a b,K1,K2,l,_,_,_,i,h=>mA a (K1:=gH C (b.wp C) K1) (K2:=gH C (b.wp C) K2) (λe F F' H w u=>by
   cases e with
   |normal=>exact mA b l w u
   |exit id=>exact l (.exit id) _ _ _ w u
   |ret=>exact l .ret _ _ _ w u) i h
 | .cond c a b,K1,K2,l,F,F',H,i,h=>by rw[X0]at h ⊢;unfold jj at h;split at h;rename_i t O;rw[fY i O];unfold jj;simp only;split at h;rename_i e;rw[aE e];exact mA a l i h;rename_i e;rw[aC e];exact mA b l i h;exact h.elim
 | .block id c,K1,K2,l,_,_,_,i,h=>mA c (K1:=fE id K1) (K2:=fE id K2) (λe F F' H w u=>by
   cases e with
   |normal=>exact l .normal _ _ _ w u
   |exit j =>rw[JX]at u ⊢;split at u;rename_i e;rw[aE e];exact l .normal _ _ _ w u;rename_i e;rw[aC e];exact l (.exit j) _ _ _ w u
   |ret=>exact l .ret _ _ _ w u) i h
 | .loop c,K1,K2,l,F,F',H,i,⟨α,B,Hs,D,m,K,F1,J,x,E,L,M,h5⟩=>by
  obtain⟨y,R,U⟩:=x.up i;refine⟨α,B,Hs,D,m,K,y,J,R,E,PF.le_trans L U,M,λa N=>?_⟩;refine mA c (K1:=fK B Hs D m (m a) K1) (K2:=fK B Hs D m (m a) K2) (λe F F' H w u=>?_) PF.le_refl (h5 a N);cases e with
  |normal =>obtain⟨b,F2,H2,X,Y,Z,z4,z5⟩:=u;obtain⟨A,V,W⟩:=X.up w;exact⟨b,A,H2,V,Y,Z,PF.le_trans z4 W,z5⟩
  |exit id=>exact l (.exit id) _ _ _ w u
  |ret=>exact l .ret _ _ _ w u
 | .exit id,_,_,l,_,_,_,i,h=>l (.exit id) _ _ _ i h
 | .ret,_,_,l,_,_,_,i,h=>l .ret _ _ _ i h
instance Up.seq{K:bT}[Up K](b:aI):Up (gH C (b.wp C) K) where
 up {e} {F} {F'} {H} hl hh:=by
  cases e with
  |normal=>exact mA b (λe F F' H a h=>Up.up a h) hl hh
  |exit id=>exact Up.up (K:=K) (e:=.exit id) hl hh
  |ret=>exact Up.up (K:=K) (e:=.ret) hl hh
instance Up.block{K:bT}[Up K](id:Nat):Up (fE id K) where
 up {e} {F} {F'} {H} hl hh:=by
  cases e with
  |normal=>exact Up.up (K:=K) (e:=.normal) hl hh
  |exit j =>rw[JX]at hh ⊢;split at hh;rename_i e;rw[aE e];exact Up.up (K:=K) (e:=.normal) hl hh;rename_i e;rw[aC e];exact Up.up (K:=K) (e:=.exit j) hl hh
  |ret=>exact Up.up (K:=K) (e:=.ret) hl hh
instance Up.loop{K:bT}[Up K]{α:Type}(l:α->PF)(Hs:α->PH)(u:α->Prop)(m:α->Nat)(n:Nat):Up (fK l Hs u m n K) where
 up {e} {F} {F'} {H} hl hh:=by
  cases e with
  |normal =>obtain⟨b,J,H2,y,A,B,D,E⟩:=hh;obtain⟨i,w,x⟩:=y.up hl;exact⟨b,i,H2,w,A,B,PF.le_trans D x,E⟩
  |exit id=>exact Up.up (K:=K) (e:=.exit id) hl hh
  |ret=>exact Up.up (K:=K) (e:=.ret) hl hh
theorem aeZ{H:PH}(e:F.le F'){x:dY}{v:PV}(h:x.ev F H=some v):x.ev F' H=some v:=by
 cases x with
 |tmp t=>exact e t v h
 |cell t n=>
  cases n<;>simp only[dY.ev]at h ⊢<;>(cases i:F t with
   |none=>simp[i]at h
   |some a=>rw[e t a i,<-i];exact h)
theorem se{H:PH}(e:F.le F'):∀{xs:List dY}{vs:V_},dY.evs F H xs=some vs->dY.evs F' H xs=some vs
 |[],_,h=>h
 |x::xs,vs,h=>by
  rw[nM]at h ⊢;cases l:x.ev F H with
  |none=>simp[l]at h
  |some v=>
   cases i:dY.evs F H xs with
   |none=>simp[i]at h
   |some u =>rw[l,i]at h;rw[aeZ e l,se e i];exact h
instance Up.ret(res:List dY)(R:R_):Up (aW res R) where
 up {e} {F} {F'} {H} hl hh:=by
  cases e with
  |exit id=>exact hh
  |normal=>obtain⟨vs,i,l⟩:=hh;exact⟨vs,se hl i,l⟩
  |ret=>obtain⟨vs,i,l⟩:=hh;exact⟨vs,se hl i,l⟩
end
open Go Go.RowKit
def IG(R:PH->Prop):bT
 | .normal,_,H=>R H
 |_,_,_=>False
theorem bS.putObj{E:Env}{H:PH}{w:World}{l:Nat}{o o':Obj}(hW:bS E H w)(A:w.heap[l]?=some o)(B:∀c t b,o≠.cells c t b)(D:H l=none):bS E H (w.putObj l o'):=by
 refine⟨λb cs h=>?_,λq x h=>?_,λq n h=>?_⟩;obtain⟨i,ty,fr,u⟩:=hW.g b cs h;have:b≠l:=λe=>by rw[e,A]at u;exact B _ _ _ (by injection u)
 exact⟨i,ty,fr,(World.putObj_heap_other this).trans u⟩;obtain⟨i,u⟩:=hW.h q x h;have:q≠l:=λe=>by rw[e,D]at h;cases h
 exact⟨by rw[World.putObj_size];exact i,u.mono (.refl E) (World.putObj_heap_other this)⟩;obtain⟨y,ty,fr,i,u⟩:=hW.s q n h;have:q≠l:=λe=>by rw[e,A]at i;exact B _ _ _ (by injection i)
 exact⟨y,ty,fr,(World.putObj_heap_other this).trans i,u⟩
theorem bS.setObj{E:Env}{H:PH}{w:World}{l:Nat}{o:Obj}{x:aR}(hW:bS E H w)(u:w.heap[l]?=some o)(B:∀c t b,o≠.cells c t b)(D:SA E w l x):bS E (H.set l x) w:=by
 refine⟨λb cs h=>?_,λq y h=>?_,hW.s⟩;obtain⟨A,ty,fr,i⟩:=hW.g b cs h;have:¬b=l:=λe=>by rw[e,u]at i;exact B _ _ _ (by injection i)
 refine⟨λy F=>A y ?_,ty,fr,i⟩
 rwa[aM,aC this]at F
 rw[aM]at h;split at h;rename_i e;cases h;subst e;exact⟨(atC.1 u).1,D⟩;exact hW.h q y h
theorem Sr{c:Code}{l m:Nat}{P:Program}{Q:Exit->Act->World->Prop}{i tm':Array Value}{ds:List Deferred}{w:World}(e:i=tm')(h:c.wpIn (Fz (some l)) m P Q { tmps:=tm',defers:=ds } w):c.wpIn (Fence.wide.inRound l) m P Q { tmps:=i,defers:=ds } w:=by
 subst e;exact h
section
variable {C:Ctx} {T:Tbl}
theorem Gi(V:C.P=T.P)(M:C.num=T.num){n t l:Nat}{J K:Code}{ζ O:aI}(h1:T.code n J=some ζ)(h2:T.code n K=some O)(ht:t<n){F:PF}{x:PV}{H:PH}{R:PH->Prop}(hl:H l=none)
  (Ξ:ζ.wp C (gH C (O.wp C) (IG R)) (F.set t x) H) :
  LC C l [x] (H.set l (.loop F n t J K)) (λr H'=>r=.bool true/\∃H2,R H2/\H2 l=none/\H'=H2.set l (.loop F n t J K)):=by
 intro E w vs hN hW Λ;obtain⟨vl⟩:=vs;cases Λ with
 |cons e1 e2=>
 cases e2;rename_i v;obtain⟨hlt,rec,U,N,ε,δ,has,ι,ρ,hF⟩:=hW.h l (.loop F n t J K) (by rw[bL]);have Γ:bS E H w:=hW.weaken λo y ho=>by
  have:¬o=l:=λe=>by rw[e,hl]at ho;cases ho
  rw[aM,aC this];exact ho
 refine⟨rec.fn,_,rec.assign,rec.body,run_yield U (by rw[δ];rfl),?_⟩;rw[has,ι,δ];refine roundIn_of_wpIn (F:=Fence.wide) trivial ?_;have hA:eP [] n E (F.set t x) { tmps:=rec.tmps.setIfInBounds t v,defers:=[] }:=by refine⟨by simp[ρ],rfl,λi pv hi=>?_⟩;rw[mU]at hi;split at hi;rename_i e;cases hi;subst e;simp only[auE];rw[Array.getElem?_setIfInBounds_self_of_lt Om];exact e1;rename_i e;simp only[auE];rw[Array.getElem?_setIfInBounds_ne (λh=>e h.symm),<-auE];exact hF i pv hi
 rw[V];refine Sr (tm':=rec.tmps.setIfInBounds t v) aX ?_;refine vH (ro:=some l) (fu:=0) V M J ζ (gH C (O.wp C) (IG R)) _ E (F.set t x) H _ w h1 Ξ hA Γ (hN.trans M) λe E1 F1 H1 a1 D υ φ u X=>?_;cases e with
 |exit id=>exact X.elim
 |ret=>exact X.elim
 |normal=>
  have α:D.heap[l]?=some (.loop rec):=(u.block l hlt hl).trans U;have W:H1 l=none:=by
   cases hh:H1 l with
   |none=>rfl
   |some y=>
    rcases u.new l y hh with⟨z,B⟩|hge
    rw[hl]at B;cases B;omega
  refine⟨_,run_beginRound α N,?_⟩;have χ:=φ.putObj (o':=.loop { rec with state:=.busy }) α (λ_ _ _ h=>by cases h) W;have S:l<D.heap.size:=(atC.1 α).1;have Θ:(D.putObj l (.loop { rec with state:=.busy })).heap[l]?=some (.loop { rec with state:=.busy }):=World.putObj_heap_same S;have σ:(D.putObj l (.loop { rec with state:=.busy })).heap.size=D.heap.size:=World.putObj_size;have γ:∀b,b≠l->(D.putObj l (.loop { rec with state:=.busy })).heap[b]?=D.heap[b]?:=λb hb=>World.putObj_heap_other hb;have ο:(D.putObj l (.loop { rec with state:=.busy })).os=D.os:=rfl;have τ:(D.putObj l (.loop { rec with state:=.busy })).tape=D.tape:=rfl;have ξ:(D.putObj l (.loop { rec with state:=.busy })).output=D.output:=rfl;generalize D.putObj l (.loop { rec with state:=.busy })=w2 at *
  refine vH (ro:=some l) (fu:=0) V M K O (IG R) _ E1 F1 H1 a1 w2 h2 X υ χ (u.env.num.trans (hN.trans M)) λe2 E2 F2 H2 a2 w3 Φ ψ A Y=>?_;cases e2 with
  |exit id=>exact Y.elim
  |ret=>exact Y.elim
  |normal=>
   have β:w3.heap[l]?=some (.loop { rec with state:=.busy }):=(A.block l (by rw[σ];exact S) W).trans Θ;have ν:l<w3.heap.size:=(atC.1 β).1;have θ:H2 l=none:=by
    cases hh:H2 l with
    |none=>rfl
    |some y=>
     rcases A.new l y hh with⟨z,B⟩|hge
     rw[W]at B;cases B;omega
   have η:({ { rec with state:=.busy }with state:=if(none:Option Code).isNone then .ready else .done,pending:=none }:Loop)=rec:=by obtain⟨a,b,c,d,e,f,g,h⟩:=rec;simp only at N ε;subst N ε;rfl
   refine⟨_,_,run_endRound none β,?_⟩;rw[η];have ω:=(ψ.putObj (o':=.loop rec) β (λ_ _ _ h=>by cases h) θ);have μ:(w3.putObj l (.loop rec)).heap[l]?=some (.loop rec):=World.putObj_heap_same ν;have κ:E.le E2:=u.env.trans A.env;refine⟨.bool true,.bool true,E2,H2.set l (.loop F n t J K),rfl,ω.setObj μ (λ_ _ _ h=>by cases h) ⟨rec,μ,N,ε,δ,has,ι,ρ,λi pv hi=>(hF i pv hi).mono κ⟩,.bool true,?_,rfl,H2,Y,θ,rfl⟩;refine⟨κ,?_,?_,?_,?_,λb hb hn=>?_,λo y ho=>?_,λb cs hb=>?_⟩;exact A.os.trans (ο.trans u.os);exact A.tape.trans (τ.trans u.tape);exact A.output.trans (ξ.trans u.output);have:=u.size;have:=A.size;rw[World.putObj_size];omega;have Z:b≠l:=λe=>by rw[e,bL]at hn;cases hn
   rw[aM,aC Z]at hn;have Δ:H1 b=none:=by
    cases hh:H1 b with
    |none=>rfl
    |some y=>
     rcases u.new b y hh with⟨z,B⟩|hge
     rw[hn]at B;cases B;omega
   rw[World.putObj_heap_other Z,A.block b (by have:=u.size;omega) Δ,γ b Z,u.block b hb hn];rw[aM]at ho;split at ho;rename_i e;exact .inl ⟨_,by rw[e,bL]⟩;rename_i e;rcases A.new o y ho with⟨z,B⟩|hge
   rcases u.new o z B with⟨z2,L⟩|hge
   exact .inl ⟨z2,by rw[aM,aC e];exact L⟩;exact .inr hge;have:=u.size;exact .inr Om;rcases A.newG b cs hb with hg|⟨z,B⟩|hge
   rcases u.newG b cs hg with hg|⟨z,B⟩|hge
   exact .inl hg;have e:¬b=l:=λe=>by rw[e,hl]at B;cases B
   exact .inr (.inl ⟨z,by rw[aM,aC e];exact B⟩);exact .inr (.inr hge);rcases u.new b z B with⟨z2,L⟩|hge
   have e:¬b=l:=λe=>by rw[e,hl]at L;cases L
   exact .inr (.inl ⟨z2,by rw[aM,aC e];exact L⟩);exact .inr (.inr hge);have:=u.size;exact .inr (.inr Om)
end
open Go Go.RowKit
abbrev BJ(D:Nat):Deferred:={ target:=.collected D,args:=#[] }
theorem bS.alloc{E:Env}{H:PH}{w:World}(hW:bS E H w)(o:Obj):bS E H (w.alloc o):=by
 have e:(w.alloc o).heap.size=w.heap.size+1:=World.size_alloc w o;have hb:∀b,b<w.heap.size->(w.alloc o).heap[b]?=w.heap[b]?:=λb hlt=>Below.heap_alloc w o b hlt;exact hW.same Om (λb hlt _=>hb b hlt) (λq x hq=>hb q (hW.h q x hq).1)
section
variable {C:Ctx} {T:Tbl} {ds:List Deferred} {fu:Nat}
theorem adW{f:FuncId}{args:Array Value}{w:World}{P:Program}{fn:Func}(l:P.funcs[f]?=some fn)(hb:fn.body.isSome=true)(i:(fn.name=="runtime.NumGoroutine")=false):(callFunc f args).run P w=.ok (.enter f args) w:=by
 have e:fn.body.isNone=false:=by cases h:fn.body<;>simp_all
 simp only[callFunc,Sem.run_bind,Sem.run_pure,Result.andThen_ok,run_program,l,i,e,arO,if_false]
def zd(C:Ctx)(name:Nat)(cs:V_)(F:PF)(H:PH)(n t:Nat)(e i:Code)(u:PH->Prop):Prop:=
 ∀l,H l=none->aJ C name (CV l::cs) (H.set l (.loop F n t e i)) (λ_ H'=>∃H2,u H2/\H2.le H'/\H2 l=none/\H' l=some (.loop F n t e i))
theorem Fu(β:C.P=T.P)(α:C.num=T.num){n t name:Nat}{g:Operand}{pg:aP}{J K:Code}{cs:V_}{E:Env}{F:PF}{H:PH}{a:Act}{w:World}{KH:PH->Prop}{Q:Exit->Act->World->Prop}(hg:T.opd g=some pg)(Γ:pg.ev F=some (.fn name cs))
  (Δ:zd C name cs F H n t J K KH) (Z:eP ds n E F a) (hW:bS E H w) (hN:E.num=T.num)
  (hT:∀D X H2 w',eP (BJ D::ds) n X F { a with defers:=BJ D::a.defers }->bS X H2 w'->Ext E H w X H2 w'->w'.heap[D]?=some (.deferred (some []))->H2 D=none->w.heap.size<=D->KH H2->Q .normal { a with defers:=BJ D::a.defers } w') :
  (Code.rangeFunc g #[t] J K).wpIn (Fz none) fu T.P Q a w:=by
 have r:=bH hg Γ Z hN;generalize Ψ:a.eval g=vg at r;cases r with
 |fn vc ψ ω=>
 have M:∀o x,H o=some x->o<w.heap.size:=λo x ho=>(hW.h o x ho).1;have nD:H w.heap.size=none:=by
  cases h:H w.heap.size with
  |none=>rfl
  |some x=>have:=M _ x h;omega
 have nl:H (w.heap.size+1)=none:=by
  cases h:H (w.heap.size+1)with
  |none=>rfl
  |some x=>have:=M _ x h;omega
 obtain⟨⟨fn,hf,hb,Θ⟩,U⟩:=Δ (w.heap.size+1) nl;rw[β]at hf;refine wpIn_rangeFunc λξ _=>?_;obtain⟨rec,O⟩:∃rec:Loop,rec={ state:=.ready,pending:=none,fn:=ξ,tmps:=a.tmps,params:=#[t],assign:=J,body:=K,defers:=w.heap.size }:=⟨_,rfl⟩;obtain⟨A,l⟩:∃A,(w.alloc (.deferred (some []))).alloc (.loop rec)=A:=⟨_,rfl⟩;have κ:(w.alloc (.deferred (some []))).heap.size=w.heap.size+1:=World.size_alloc _ _;have a':A.heap.size=w.heap.size+2:=by rw[<-l,World.size_alloc,κ]
 have θ:∀b,b<w.heap.size->A.heap[b]?=w.heap[b]?:=λb hb=>by rw[<-l];exact(Below.heap_alloc _ _ b Om).trans (Below.heap_alloc _ _ b hb)
 have ρ:A.heap[w.heap.size]?=some (.deferred (some [])):=by rw[<-l];exact(Below.heap_alloc _ _ _ Om).trans (World.alloc_heap_new w _)
 have ζ:A.heap[w.heap.size+1]?=some (.loop rec):=by
  rw[<-l];have:=World.alloc_heap_new (w.alloc (.deferred (some []))) (.loop rec)
  rwa[κ]at this
 have φ:bS E H A:=by rw[<-l];exact(hW.alloc _).alloc _
 have χ:bS E (H.set (w.heap.size+1) (.loop F n t J K)) A:=φ.setObj ζ (λ_ _ _ h=>by cases h) (by subst O;exact⟨_,ζ,rfl,rfl,rfl,rfl,rfl,Z.size,Z.t⟩);have Ξ:A.os=w.os:=by rw[<-l];rfl
 have Φ:A.tape=w.tape:=by rw[<-l];rfl
 have Λ:A.output=w.output:=by rw[<-l];rfl
 have N:C.num name=E.num name:=by rw[α,hN]
 refine⟨w.heap.size+1,[BJ w.heap.size],A,{ target:=.fn (.func (E.num name)) vc,args:=#[.func (.yield (w.heap.size+1)) #[] #[]] },A,E.num name,#[Value.func (.yield (w.heap.size+1)) #[] #[]]++vc,A,?_,?_,?_,?_,?_,?_⟩;rw[<-l,O];exact run_enterLoop_outer _ _ _ _ _;simp only[resolve,Ψ];simp[go_sem];exact λ_ _=>trivial;simp only[invoke];exact adW (by rw[<-N];exact hf) hb Θ;intro h;cases h;have S:fO E (CV (w.heap.size+1)::cs) (#[Value.func (.yield (w.heap.size+1)) #[] #[]]++vc).toList:=by rw[Array.toList_append];exact .cons (.lit _) (fO.Yl (by simpa using ψ) λj p u hp hu=>ω j p u hp (by simpa using hu))
 have hc:=U E A _ (hN.trans α.symm) χ S;rw[β,N]at hc;refine Fz.calls (hc.mono λe w3 he=>?_);obtain⟨v,pv,X,H',rfl,ε,hr,B,H2,υ,V,L,τ⟩:=he;obtain⟨Ω,ν,η,μ,ι,-⟩:=ε.h _ _ τ;have W:w.heap.size≠w.heap.size+1:=Om;have σ:w3.heap[w.heap.size]?=some (.deferred (some [])):=(B.block _ Om (by rw[aM,aC W];exact nD)).trans ρ;have δ:H' w.heap.size=none:=by
  cases hh:H' w.heap.size with
  |none=>rfl
  |some y=>
   rcases B.new _ y hh with⟨z,R⟩|hge
   rw[aM,aC W,nD]at R;cases R;omega
 have γ:H2 w.heap.size=none:=by
  cases hh:H2 w.heap.size with
  |none=>rfl
  |some y=>rw[V _ y hh]at δ;cases δ
 refine⟨ν.pending,_,run_endLoop η (by rw[μ];exact λh=>by cases h),?_⟩;rw[ι];simp only;have ο:eP (BJ w.heap.size::ds) n X F { a with defers:=BJ w.heap.size::a.defers }:=⟨Z.size,by simp only;rw[Z.defers],λi pv hi=>(Z.t i pv hi).mono B.env⟩;refine hT w.heap.size X H2 _ ο ((ε.weaken V).putObj η (λ_ _ _ h=>by cases h) L) ?_ ((World.putObj_heap_other W).trans σ) γ (apU _) υ;refine⟨B.env,B.os.trans Ξ,B.tape.trans Φ,B.output.trans Λ,?_,λb hb hn=>?_,λo y ho=>?_,λb cs hb=>?_⟩;have:=B.size;rw[World.putObj_size];omega;have Y:b≠w.heap.size+1:=Om;rw[World.putObj_heap_other Y,B.block b Om (by rw[aM,aC Y];exact hn),θ b hb];have Y:o≠w.heap.size+1:=λe=>by rw[e,L]at ho;cases ho
 rcases B.new o y (V o y ho)with⟨z,R⟩|hge
 rw[aM,aC Y]at R;exact .inl ⟨z,R⟩;exact .inr Om;rcases B.newG b cs hb with h|⟨z,R⟩|hge
 exact .inl h;by_cases Y:b=w.heap.size+1;exact .inr (.inr Om);rw[aM,aC Y]at R;exact .inr (.inl ⟨z,R⟩);exact .inr (.inr Om)
end
open Go Go.RowKit
inductive rX where
 |seq (a:aI) (t:rX)
 |range (g:aP) (n t:Nat) (asg bdy:Code) (pas pbd rest:aI)
def rX.wp (C : Ctx) : rX -> bT -> PF -> PH -> Prop
  | .seq a t, K, F, H => a.wp C (gH C (t.wp C) K) F H
  | .range g n t asg bdy pas pbd rest, K, F, H => ∃ name cs KH, g.ev F = some (.fn name cs) /\
      ((∀ (l : Nat) (x : PV) (J : PH) (J' : PH -> Prop), J l = none -> pas.wp C (gH C (pbd.wp C) (IG J')) (F.set t x) J ->
        LC C l [x] (J.set l (.loop F n t asg bdy)) (fun r H' => r = .bool true /\ ∃ H2, J' H2 /\ H2 l = none /\ H' = H2.set l (.loop F n t asg bdy))) -> zd C name cs F H n t asg bdy KH) /\
      ∀ H2, KH H2 -> rest.wp C K F H2
namespace Tbl
variable (T:Tbl)
def tail(n:Nat):Code->Option rX
 | .seq (.rangeFunc g ps e i) rest=>match T.opd g,T.code n e,T.code n i,T.code n rest with
  |some x,some l,some u,some y=>match ps.toList with
   |[t]=>if t<n then some (.range x n t e i l u y)else none
   |_=>none
  |_,_,_,_=>none
 | .seq (.seq a (.block _ (.rangeFunc g ps e i))) rest=>match T.code n a,T.opd g,T.code n e,T.code n i,T.code n rest with
  |some w,some x,some l,some u,some y=>match ps.toList with
   |[t]=>if t<n then some (.seq w (.range x n t e i l u y))else none
   |_=>none
  |_,_,_,_,_=>none
 | .seq a b=>match T.code n a,tail n b with
  |some w,some A=>some (.seq w A)
  |_,_=>none
 |_=>none
end Tbl
section
variable {C:Ctx} {T:Tbl} {fu:Nat}
def FT(n:Nat)(E:Env)(H:PH)(w:World)(K:bT)(Q:Exit->Act->World->Prop):Prop:=
 ∀ds,(ds=[]\/∃D,ds=[BJ D])->∀e l u H' x i,eP ds n l u x->bS l H' i->Ext E H w l H' i->(∀D,ds=[BJ D]->i.heap[D]?=some (.deferred (some []))/\H' D=none/\w.heap.size<=D)->K e u H'->Q e.out x i
theorem FT.after{n:Nat}{E u:Env}{H H':PH}{w y:World}{K:bT}{Q:Exit->Act->World->Prop}(h:FT n E H w K Q)(x:Ext E H w u H' y):FT n u H' y K Q:=
 λds i e A B H2 a2 M F hW L l J=>h ds i e A B H2 a2 M F hW (x.trans L) (λD hD=>⟨(l D hD).1,(l D hD).2.1,aqX x.size (l D hD).2.2⟩) J
theorem FT.plain{n:Nat}{E:Env}{H:PH}{w:World}{K:bT}{Q:Exit->Act->World->Prop}(h:FT n E H w K Q):SD [] n E H w K Q:=
 λe i l H' u B x hW A y=>h [] (.inl rfl) e i l H' u B x hW A (λD hD=>by cases hD) y
theorem mg(L:C.P=T.P)(B:C.num=T.num){n t:Nat}{g:Operand}{pg:aP}{ps:Array Tmp}{u A rest:Code}{R S pr:aI}{K:bT}{Q Q0:Exit->Act->World->Prop}{E:Env}{F:PF}{H:PH}{a:Act}{w:World}(hQ:∀a w,rest.wpIn (Fz none) fu T.P Q a w->Q0 .normal a w)
  (h1:T.opd g=some pg) (h2:T.code n u=some R) (h3:T.code n A=some S) (h4:T.code n rest=some pr) (h5:ps.toList=[t]) (ht:t<n)
  (γ:(rX.range pg n t u A R S pr).wp C K F H) (hA:eP [] n E F a) (hW:bS E H w) (hN:E.num=T.num) (hT:FT n E H w K Q) :
  (Code.rangeFunc g ps u A).wpIn (Fz none) fu T.P Q0 a w:=by
 obtain⟨name,cs,KH,k1,k2,k3⟩:=γ;have β:ps=#[t]:=by obtain⟨l⟩:=ps;simp only at h5;subst h5;rfl
 subst β;refine Fu (ds:=[]) L B h1 k1 (k2 λl x J J' hJ hw=>Gi L B h2 h3 ht hJ hw) hA hW hN λD E' H2 w' U Z N hD O W Y=>?_;refine hQ _ w' ?_;refine vH (ro:=none) (fu:=fu) (ds:=[BJ D]) L B rest pr K Q E' F H2 _ w' h4 (k3 H2 Y) U Z (N.env.num.trans hN) λe E3 F3 H3 a3 w3 V α M X=>?_;refine hT [BJ D] (.inr ⟨D,rfl⟩) e E3 F3 H3 a3 w3 V α (N.trans M) (λD' i=>?_) X;injection i with i _
 injection i with i _
 injection i with i
 subst i;have hlt:D<w'.heap.size:=(atC.1 hD).1;refine⟨(M.block D hlt O).trans hD,?_,W⟩;cases hh:H3 D with
 |none=>rfl
 |some y=>
  rcases M.new D y hh with⟨z,hz⟩|hge
  rw[O]at hz;cases hz;omega
theorem Ml(A:C.P=T.P)(u:C.num=T.num){n:Nat}:∀(c:Code)(t:rX)(K:bT)(Q:Exit->Act->World->Prop)(E:Env)(F:PF)(H:PH)(a:Act)(w:World),
  T.tail n c=some t->t.wp C K F H->eP [] n E F a->bS E H w->E.num=T.num->FT n E H w K Q->c.wpIn (Fz none) fu T.P Q a w:=by
 intro c
 induction c with
 |seq x y γ α=>
  intro t K Q E F H a w i L hA hW W J;unfold Tbl.tail at i;split at i;rename_i g ps B D rest e;cases e;split at i;rename_i pg M N pr V e2 Y Z;split at i;rename_i t0 e5;split at i;rename_i e6;cases i;exact wpIn_seq (mg A u (λ_ _ h=>h) V e2 Y Z e5 e6 L hA hW W J);cases i;cases i;cases i;rename_i a0 β g ps B D rest e;cases e;split at i;rename_i X pg M N pr e0 V e2 Y Z;split at i;rename_i t0 e5;split at i
  ·rename_i e6;cases i;have l:X.wp C (gH C ((rX.range pg n t0 B D M N pr).wp C) K) F H:=L;refine wpIn_seq (wpIn_seq (vH (ro:=none) (fu:=fu) (ds:=[]) A u a0 X (gH C ((rX.range pg n t0 B D M N pr).wp C) K) _ E F H a w e0 l hA hW W λe O R H' S U g1 g2 g3 g4=>?_));cases e with
   |normal=>exact wpIn_block (mg A u (λ_ _ h=>h) V e2 Y Z e5 e6 g4 g1 g2 (g3.env.num.trans W) (J.after g3))
   |exit id=>exact J.plain (.exit id) O R H' S U g1 g2 g3 g4
   |ret=>exact J.plain .ret O R H' S U g1 g2 g3 g4
  cases i;cases i;cases i;rename_i a0 b0 _ _ e;cases e;split at i
  ·rename_i X tb V e2;cases i;have l:X.wp C (gH C (tb.wp C) K) F H:=L;refine wpIn_seq (vH (ro:=none) (fu:=fu) (ds:=[]) A u x X (gH C (tb.wp C) K) _ E F H a w V l hA hW W λe O R H' S U g1 g2 g3 g4=>?_);cases e with
   |normal=>exact α tb K Q O R H' S U e2 g4 g1 g2 (g3.env.num.trans W) (J.after g3)
   |exit id=>exact J.plain (.exit id) O R H' S U g1 g2 g3 g4
   |ret=>exact J.plain .ret O R H' S U g1 g2 g3 g4
  cases i;cases i
 |_=>intro t K Q E F H a w i;simp[Tbl.tail]at i
end
structure FP where
 nparams:Nat
 ntmps:Nat
 body:rX
 res:List dY
namespace Tbl
variable (T:Tbl)
def xu(fn:Func):Option FP:=
 match fn.body with
 |some c=>match T.tail fn.ntmps c,T.sb fn.results.toList with
  |some b,some rs=>some ⟨fn.params.size,fn.ntmps,b,rs⟩
  |_,_=>none
 |none=>none
end Tbl
theorem Jw{T:Tbl}{H:PH}(L:C.P=T.P)(K:C.num=T.num){name:Nat}{args:V_}{R:R_}{fn:Func}{pf:FP}(hf:C.P.funcs[C.num name]?=some fn)(δ:(fn.name=="runtime.NumGoroutine")=false)
  (l:T.xu fn=some pf) (S:Z' args<=pf.ntmps) (h:pf.body.wp C (aW pf.res R) (g_ args) H):aJ C name args H R:=by
 unfold Tbl.xu at l;split at l;rename_i c hb;split at l
 ·rename_i b rs A F;cases l;refine⟨⟨fn,hf,by simp[hb],δ⟩,λE w vs hN hW W=>?_⟩;have η:vs.size=Z' args:=by simpa using W.len
  refine(callsIn_wide (n:=0)).1 (callsIn_of_wp_marks hf hb trivial ?_ rfl);rw[L];have hA:eP [] fn.ntmps E (g_ args) { tmps:=vs++arX (fn.ntmps-vs.size) undef,defers:=[] }:=by
   refine⟨by simp only at S;simp;omega,rfl,λi pv hi=>?_⟩;have B:i<vs.size:=by
    rw[η];rcases aqW i args.length with h'|h'
    exact h';simp[g_,arC h']at hi
   simp only[auE];rw[Array.getElem?_append_left B,atP B];exact W.at_ i pv _ hi (by simp[B])
  refine Ml (fu:=0) L K c b (aW rs R) _ E (g_ args) H _ w A h hA hW (hN.trans K) λds β e u F' H' Y y J M x hm hK=>?_;have fin:∀Z,bS u H' Z->Ext E H w u H' Z->aW rs R .ret F' H'->LeavesIn Fence.wide 0 T.P fn Y.tmps (λe y=>∃v pv u H',e=.returned v/\bS u H' y/\bB u pv v/\Ext E H w u H' y/\R pv H') [] .returning Z:=by
   rintro Z N α ⟨θ,U,F1,H1,H2,γ,O,v0,ζ,hR⟩;obtain⟨us,g1,g2⟩:=PK J N fn.results.toList rs θ F U;have ε:=l7 g2;obtain⟨E2,k1,k2,k3⟩:=γ.sound N;have V:=k3 (λ_=>if h:us.toArray.size=1 then us.toArray[0]else .tuple us.toArray) (λi pv hi=>by simp only[PF.set,upd]at hi;split at hi;cases hi;exact ε;cases hi) 0 v0 ζ
   refine⟨_,?_,_,v0,E2,H2,rfl,k1.weaken O,V,(α.trans k2).drop O,hR⟩;rw[mi,Array.mapM_eq_mapM_toList];simp[g1]
  have X:aW rs R .ret F' H'->bodyPostM Fence.wide 0 T.P fn (λe y=>∃v pv u H',e=.returned v/\bS u H' y/\bB u pv v/\Ext E H w u H' y/\R pv H') .ret Y y:=by
   intro hr;show LeavesInM Fence.wide 0 T.P fn Y.tmps _ Y.defers .returning y;rw[J.defers];rcases β with rfl|⟨D,rfl⟩
   exact fin y M x hr;obtain⟨m1,m2,m3⟩:=hm D rfl;refine⟨(λh=>by cases h),.inl ⟨D,_,rfl,run_takeDeferred m1,?_⟩⟩;refine fin _ (M.putObj m1 (λ_ _ _ h=>by cases h) m2) ⟨x.env,x.os,x.tape,x.output,?_,λb hb hn=>?_,x.new,x.newG⟩ hr;rw[World.putObj_size];exact x.size;rw[World.putObj_heap_other Om];exact x.block b hb hn
  cases e with
  |normal=>exact X hK
  |exit id=>exact hK.elim
  |ret=>exact X hK
 cases l;cases l
end Go.PM
namespace Go.PM
open Go
def WM(C:Ctx)(k:Nat)(pf:FP):Prop:=∀(args:V_)(H:PH)(R:R_),Z' args<=pf.ntmps->pf.body.wp C (aW pf.res R) (g_ args) H->aJ C k args H R
variable{C:Ctx}
theorem WM.go{k:Nat}{pf:FP}(r:WM C k pf){args:V_}{H:PH}{R:R_}(h:pf.body.wp C (aW pf.res R) (g_ args) H)(e:Nat.ble args.length pf.ntmps=true):aJ C k args H R:=r args H R (Nat.le_of_ble_eq_true e) h
open Go Go.Na
structure dD where
 src:Nat
 dst:Nat
 cap:Nat
abbrev dD.cells(a:dD):V_:=[.int .i64 a.src,.int .i64 a.dst,.int .i64 a.cap,.int .i64 0]
abbrev akU(l:List dD):PV:=.sl 4 (l.map dD.cells)
structure dK where
 nodes:Nat
 source:Nat
 sink:Nat
 arcs:List dD
abbrev dK.cells(n:dK):V_:=[.int .i64 n.nodes,.int .i64 n.source,.int .i64 n.sink,akU n.arcs]
structure lE(n:dK):Prop where
 two:2<=n.nodes
 few:n.nodes<=700
 num:Z' n.arcs<=2500
 source:n.source<n.nodes
 sink:n.sink<n.nodes
 apart:n.source≠n.sink
 ends:∀a∈n.arcs,a.src<n.nodes/\a.dst<n.nodes/\a.cap<=2147483647
def gG:List dD->N_->Nat->Int
 |a::l,x::xs,v=>(if a.src=v then(x:Int)else 0)-(if a.dst=v then(x:Int)else 0)+gG l xs v
 |_,_,_=>0
def zO(S:Nat->Bool):List dD->N_->Int
 |a::l,x::xs=>(if S a.src=true/\S a.dst=false then(x:Int)else 0)-(if S a.src=false/\S a.dst=true then(x:Int)else 0)+zO S l xs
 |_,_=>0
def rP(S:Nat->Bool)(g:Nat->Int):Nat->Int
 |0=>0
 |n+1=>rP S g n+if S n=true then g n else 0
theorem gr(S:Nat->Bool)(g h:Nat->Int):∀n,rP S (λv=>g v+h v) n=rP S g n+rP S h n
 |0=>rfl
 |n+1=>by rw[rP,rP,rP,gr S g h n];split<;>omega
theorem EL{S:Nat->Bool}{g h:Nat->Int}:∀{n:Nat},(∀v,v<n->S v=true->g v=h v)->rP S g n=rP S h n
 |0,_=>rfl
 |n+1,e=>by rw[rP,rP,EL (n:=n) λv i=>e v Om];split;rename_i c;rw[e n Om c];rfl
theorem JH(S:Nat->Bool):∀n,rP S (λ_=>0) n=0
 |0=>rfl
 |n+1=>by rw[rP,JH S n];split<;>rfl
theorem QF(S:Nat->Bool)(a:Nat)(x:Int):∀{n:Nat},a<n->rP S (λv=>if a=v then x else 0) n=if S a=true then x else 0
 |0,h=>by omega
 |n+1,h=>by rw[rP];by_cases e:a=n;subst e;rw[EL (h:=λ_=>0) (n:=a) λv i _=>by rw[aC Om],JH,aE rfl];omega;rw[QF S a x (n:=n) Om,aC e];split<;>split<;>omega
theorem Il(S:Nat->Bool){N:Nat}:∀{l:List dD}{xs:N_},(∀a∈l,a.src<N/\a.dst<N)->rP S (gG l xs) N=zO S l xs
 |[],_,_=>JH S N
 |_::_,[],_=>JH S N
 |a::l,x::xs,h=>by
  obtain⟨i,u⟩:=h a aX;have w:=Il S (l:=l) (xs:=xs) λb hb=>h b (atK _ hb);have e:rP S (gG (a::l) (x::xs)) N=rP S (λv=>if a.src=v then(x:Int)else 0) N+(rP S (λv=>if a.dst=v then -(x:Int)else 0) N+rP S (gG l xs) N):=by rw[<-gr,<-gr];refine EL λv _ _=>?_;rw[gG];split<;>split<;>omega
  rw[e,QF S _ _ i,QF S _ _ u,w,zO];cases S a.src<;>cases S a.dst<;>simp<;>omega
structure kN(n:dK)(xs:N_):Prop where
 len:Z' xs=Z' n.arcs
 le:∀(i:Nat) a x,n.arcs[i]?=some a->xs[i]?=some x->x<=a.cap
 node:∀v,v<n.nodes->v≠n.source->v≠n.sink->gG n.arcs xs v=0
def rR(n:dK)(xs:N_):Int:=gG n.arcs xs n.source
def lW(S:Nat->Bool):List dD->Nat
 |[]=>0
 |a::l=>(if S a.src=true/\S a.dst=false then a.cap else 0)+lW S l
theorem kN.cut{n:dK}(i:lE n){xs:N_}(h:kN n xs){S:Nat->Bool}(w:S n.source=true)(x:S n.sink=false):zO S n.arcs xs=rR n xs:=by
 rw[<-Il S (N:=n.nodes) λa l=>⟨(i.ends a l).1,(i.ends a l).2.1⟩];rw[EL (h:=λv=>if n.source=v then rR n xs else 0) λv y u=>?_,QF S _ _ i.source,aE w];by_cases e:n.source=v;subst e;rw[aE rfl];rfl;rw[aC e];exact h.node v y (λc=>e c.symm) λc=>by rw[c,x]at u;cases u
theorem Hy(S:Nat->Bool):∀{l:List dD}{xs:N_},(∀(i:Nat) a x,l[i]?=some a->xs[i]?=some x->x<=a.cap)->zO S l xs<=lW S l
 |[],_,_=>by simp[zO,lW]
 |_::_,[],_=>by simp[zO]
 |a::l,x::xs,h=>by have u:=h 0 a x rfl rfl;have w:=Hy S (l:=l) (xs:=xs) λi b y hb e=>h (i+1) b y (by simpa using hb) (by simpa using e);rw[zO,lW];split<;>split<;>omega
theorem kN.aeK{n:dK}(l:lE n){xs:N_}(h:kN n xs){S:Nat->Bool}(e:S n.source=true)(i:S n.sink=false):rR n xs<=lW S n.arcs:=by
 rw[<-h.cut l e i];exact Hy S h.le
theorem Hx(S:Nat->Bool):∀{l:List dD}{xs:N_},Z' xs=Z' l->(∀(i:Nat) a x,l[i]?=some a->xs[i]?=some x->(S a.src=true->S a.dst=false->x=a.cap)/\(S a.src=false->S a.dst=true->x=0))->zO S l xs=lW S l
 |[],_,_,_=>by simp[zO,lW]
 |_::_,[],h,_=>by simp at h
 |a::l,x::xs,A,h=>by have e:=h 0 a x rfl rfl;have D:=Hx S (l:=l) (xs:=xs) (by simpa using A) λi b y hb B=>h (i+1) b y (by simpa using hb) (by simpa using B);rw[zO,lW,D];cases w:S a.src<;>cases u:S a.dst;simp;have:=e.2 w u;simp;omega;have:=e.1 w u;simp;omega;simp
theorem kN.full{n:dK}(w:lE n){xs:N_}(h:kN n xs){S:Nat->Bool}(e:S n.source=true)(l:S n.sink=false)
  (u:∀(i:Nat) a x,n.arcs[i]?=some a->xs[i]?=some x->(S a.src=true->S a.dst=false->x=a.cap)/\(S a.src=false->S a.dst=true->x=0)):rR n xs=lW S n.arcs:=by
 rw[<-h.cut w e l];exact Hx S h.len u
theorem Hq:∀{l:List dD}{xs:N_}{i:Nat}{a:dD}{x:Nat}(y:Nat),l[i]?=some a->xs[i]?=some x->∀v,gG l (xs.set i y) v=gG l xs v+(if a.src=v then(y:Int)-x else 0)-(if a.dst=v then(y:Int)-x else 0)
 |[],_,_,_,_,_,h,_,_=>by simp at h
 |_::_,[],_,_,_,_,_,h,_=>by simp at h
 |b::l,z::xs,0,a,x,y,e,u,v=>by simp only[List.getElem?_cons_zero,asB.injEq]at e u;subst e;subst u;rw[asT,gG,gG];split<;>split<;>omega
 |b::l,z::xs,i+1,a,x,y,e,u,v=>by rw[List.set_cons_succ,gG,gG,Hq (l:=l) (xs:=xs) y (by simpa using e) (by simpa using u) v];omega
theorem Cm(l:List dD):∀(n:Nat)(v:Nat),gG l (apX n 0) v=0:=by
 induction l with
 |nil=>intro n v;cases n<;>rfl
 |cons a l e=>
  intro n v;cases n with
  |zero=>rfl
  |succ n =>rw[List.replicate_succ,gG,e];split<;>split<;>rfl
theorem O4(n:dK):kN n (apX n.arcs.length 0)/\rR n (apX n.arcs.length 0)=0:=by
 refine⟨⟨by simp,λi a x _ e=>?_,λv _ _ _=>Cm _ _ _⟩,Cm _ _ _⟩;have:=asC e;rw[List.eq_of_mem_replicate this];exact apR _
theorem iz{f:aB}(h:VF f){d:Nat}(e:d<Z' f.aoC){lev:Int}(i:0<=lev)(l:lev<=4):cL f d lev<Z' f.aoF/\lvl f (cL f d lev)=lev:=by
 unfold cL;obtain⟨a,b⟩:=wS h e (k:=4-lev.toNat) Om;refine⟨a,?_⟩;rw[b];omega
theorem kQ{f:aB}(h:VF f){i:Nat}(hi:i<Z' f.aoF):0<=lvl f i/\lvl f i<=4:=by
 rcases arZ i with e|e
 rw[e,h.root.2.1];omega;have:=h.dom i e hi;omega
def fA(n:Nat):Nat->Nat->List N_
 |0,_=>[[]]
 |k+1,a=>(asD a (n-k-a)).flatMap λi=>(fA n k (i+1)).map (i::·)
def qW(n:Nat):N_->Option N_
 |[]=>none
 |x::t=>match qW n t with
  |some u=>some (x::u)
  |none=>if x+1+Z' t=n then none else some (asD (x+1) (Z' t+1))
theorem uw{n:Nat}:∀{s u:N_},qW n s=some u->Z' u=Z' s
 |[],_,h=>by cases h
 |x::t,u,h=>by rw[qW]at h;split at h;rename_i v e;cases h;simp[uw e];split at h;cases h;cases h;simp
inductive rY (n:Nat):N_->List N_->Prop
 |last {s:N_} (h:qW n s=none):rY n s [s]
 |step {s t:N_} {l:List N_} (h:qW n s=some t) (w:rY n t l):rY n s (s::l)
theorem rY.map{n x k:Nat}{rest:List N_}(u:(x+1+k=n/\rest=[])\/(x+1+k≠n/\rY n (asD (x+1) (k+1)) rest)){t:N_}{l:List N_}(w:rY n t l)(e:Z' t=k):rY n (x::t) (l.map (x::·)++rest):=by
 induction w with
 |@last s h=>
  rcases u with⟨i,rfl⟩|⟨i,h2⟩
  exact .last (by rw[qW,h];simp only;rw[aE (by rw[e];exact i)]);exact .step (by rw[qW,h];simp only;rw[aC (by rw[e];exact i),e]) h2
 |@step s t l h _ y=>exact .step (by rw[qW,h]) (y (by rw[uw h,e]))
theorem WC(n:Nat):∀(k a:Nat),a+k<=n->rY n (asD a k) (fA n k a)
 |0,a,_=>.last rfl
 |k+1,a,h=>by
  rw[fA];obtain⟨m,i⟩:∃m,n-k-a=m+1:=⟨n-k-a-1,by omega⟩;rw[i];clear h
  induction m generalizing a with
  |zero =>have:=rY.map (n:=n) (x:=a) (k:=k) (rest:=[]) (.inl ⟨by omega,rfl⟩) (WC n k (a+1) Om) List.length_range';rw[List.range'_succ (n:=0),atH];exact this
  |succ m l =>rw[List.range'_succ (n:=m+1),atH];have e:=l (a+1) Om;exact rY.map (.inr ⟨by omega,e⟩) (WC n k (a+1) Om) List.length_range'
theorem OU{n:Nat}:∀{s:N_},(∀i (h:i<Z' s),s[i]+Z' s=n+i)->qW n s=none
 |[],_=>rfl
 |x::t,h=>by rw[qW,OU (s:=t) λi hi=>by have:=h (i+1) (by simpa using hi);simp only[List.getElem_cons_succ,aqV]at this;omega];have e:=h 0 aX;simp only[List.getElem_cons_zero,aqV]at e;simp only;rw[aE Om]
theorem Cn{n:Nat}:∀{s:N_}(i:Nat)(hi:i<Z' s),(∀j (h:j<Z' s),i<j->s[j]+Z' s=n+j)->s[i]+Z' s≠n+i->qW n s=some (s.take i++asD (s[i]+1) (Z' s-i))
 |[],i,hi,_,_=>by cases hi
 |x::t,0,_,h,e=>by rw[qW,OU (s:=t) λi hi=>by have:=h (i+1) (by simpa using hi) Om;simp only[List.getElem_cons_succ,aqV]at this;omega];simp only[List.getElem_cons_zero,aqV]at e ⊢;rw[aC Om];rfl
 |x::t,i+1,hi,h,e=>by
  have l:i<Z' t:=by simpa using hi
  simp only[List.getElem_cons_succ,aqV]at e;rw[qW,Cn (s:=t) i l (λj w u=>by have:=h (j+1) (by simpa using w) Om;simp only[List.getElem_cons_succ,aqV]at this;omega) Om];simp only[List.getElem_cons_succ,aqV,List.take_succ_cons,asV];rw[show t.length+1-(i+1)=Z' t-i by omega]
theorem HQ(n:Nat):∀(k a:Nat),∀s∈fA n k a,Z' s=k/\(∀x∈s,a<=x/\x<n)/\s.Pairwise (· < ·)
 |0,a,s,h=>by rw[fA,arA]at h;subst h;exact⟨rfl,(λx hx=>by cases hx),.nil⟩
 |k+1,a,s,h=>by
  rw[fA,List.mem_flatMap]at h;obtain⟨i,hi,h⟩:=h;rw[aqJ]at h;obtain⟨t,w,rfl⟩:=h;rw[List.mem_range'_1]at hi;obtain⟨l,e,u⟩:=HQ n k (i+1) t w;refine⟨by simp[l],λx hx=>?_,List.pairwise_cons.2 ⟨λy A=>by have:=(e y A).1;omega,u⟩⟩;rcases aqG.1 hx with rfl|hx
  omega;have:=e x hx;omega
theorem AW(n:Nat):∀(k a:Nat),(fA n k a).length<=2^(n-a)
 |0,a=>by rw[fA];exact Nat.one_le_two_pow
 |k+1,a=>by
  rw[fA];have e:∀(m a:Nat),m+a<=n->((asD a m).flatMap λi=>(fA n k (i+1)).map (i::·)).length+2^(n-a-m)<=2^(n-a):=by
   intro m
   induction m with
   |zero=>intro a _;simp
   |succ m l=>
    intro a h;rw[List.range'_succ,atH,apV,apP];have u:=AW n k (a+1);have w:=l (a+1) Om;rw[show n-a-(m+1)=n-(a+1)-m by omega];have x:2^(n-a)=2^(n-(a+1))+2^(n-(a+1)):=by rw[show n-a=(n-(a+1))+1 by omega,atF];omega
    omega
  rcases aqW n a with h|h
  rw[show n-k-a=0 by omega];simp;exact aqX (Nat.le_add_right _ _) (e (n-k-a) a Om)
def lR(f:aB)(p:bY)(set:I_):Bool:=(apQ f.aoF.length).all λi=>!(decide (dR f p i>0)&&decide (fN f set i>dR f p i))
def FX(f:aB)(p:bY)(d:Int):Bool:=p.aoD.contains ((mdl f d.toNat:Nat):Int)
def nY(f:aB)(p:bY)(set:I_):Bool:=set.all (FX f p)&&lR f p set
def nJ(f:aB)(aoP:Int):bY:=f.aoG.getD aoP.toNat lm
def mY(p:bY):Int:=p.k+p.m
def sX(f:aB)(aoP:Int):Bool:=cP f&&(decide (0<=aoP)&&decide (aoP<Z' f.aoG))
def cT(s:N_):I_:=s.map λ(x:Nat)=>(x:Int)
def iX(f:aB)(p:bY):L2_:=((fA f.aoC.length (mY p).toNat 0).map cT).filter (nY f p)
def lL(f:aB)(level:Int):L2_:=
 if level=5 then(apQ f.aoC.length).map λ(d:Nat)=>[(d:Int)]
 else((apQ f.aoF.length).filter λi=>decide (lvl f i=level)).map λi=>cT ((apQ f.aoC.length).filter λd=>decide (cL f d level=i))
def gN(m:Int):Nat->Int
 |0=>1
 |i+1=>Int.tdiv (gN m i*(m-i)) (i+1)
def DN(u:L2_)(s:N_)(d:Nat):Bool:=s.any λi=>(u.getD i []).contains (d:Int)
def PT(f:aB)(u:L2_)(count:Nat):L2_:=(fA u.length count 0).map λs=>cT ((apQ f.aoC.length).filter (DN u s))
def pW(s set:I_):Nat:=set.countP λd=>s.contains d
def fF(sc:L2_)(set:I_)(m:Int):Nat:=sc.countP λs=>decide (((pW s set:Nat):Int)>m)
theorem SK:∀{s t:I_},s.Nodup->t.Nodup->pW s t=pW t s
 |[],t,_,_=>by simp[pW]
 |d::s,t,w,y=>by
  obtain⟨D,E⟩:=List.nodup_cons.1 w;have l:=SK E y;unfold pW at l ⊢;rw[atE,<-l];clear l w
  induction t with
  |nil=>simp
  |cons x t u=>
   obtain⟨F,J⟩:=List.nodup_cons.1 y;have:=u J;rw[atE,atE,this];by_cases e:x=d;subst e;have i:(x::s).contains x=true:=by simp
   have e2:s.contains x=false:=by simpa using D
   have A:t.contains x=false:=by simpa using F
   have B:(x::t).contains x=true:=by simp
   simp only[i,e2,A,B];have i:(d::s).contains x=s.contains x:=by simp[e]
   have e2:(x::t).contains d=t.contains d:=by have:¬d=x:=λh=>e h.symm;simp[this]
   rw[i,e2];omega
def fL(set:I_)(d:Int):Nat:=(set.takeWhile λx=>decide (x<d)).length
theorem sk(set:I_)(d:Int):fL set d<=Z' set:=(List.takeWhile_prefix _).length_le
theorem PU(set:I_)(d:Int){i:Nat}(h:i<fL set d):set[i]'(Nat.lt_of_lt_of_le h (sk set d))<d:=by
 have hp:=List.takeWhile_prefix (p:=λx=>decide (x<d)) (l:=set);have u:(set.takeWhile λx=>decide (x<d))[i]∈set.takeWhile λx=>decide (x<d):=apW h;have w:=List.all_takeWhile (p:=λx=>decide (x<d)) (l:=set);have e:=aqM.1 w _ u;rw[hp.getElem h]at e;exact of_decide_eq_true e
theorem Ij(set:I_)(d:Int)(h:fL set d<Z' set):¬set[fL set d]<d:=by
 induction set with
 |nil=>simp at h
 |cons x t i=>
  by_cases c:x<d;have e:fL (x::t) d=fL t d+1:=by simp[fL,List.takeWhile_cons,c]
  simp only[e,List.getElem_cons_succ];exact i (by rw[e]at h;simpa using h);have e:fL (x::t) d=0:=by simp[fL,List.takeWhile_cons,c]
  simp only[e,List.getElem_cons_zero];exact c
theorem Wt{set:I_}(w:set.Pairwise (· < ·))(d:Int):set.contains d=(decide (fL set d<Z' set)&&decide (set.getD (fL set d) 0=d)):=by
 by_cases h:fL set d<Z' set;have x:=Ij set d h;rw[aZ h,aqL,apY,apZ h,arT];by_cases e:set[fL set d]=d;rw[aZ e];simp only[asW];exact e ▸ apW h;rw[bG e];simp only[Bool.eq_false_iff,ne_eq,asW];intro u;obtain⟨i,hi,l⟩:=arF u;rcases Nat.lt_trichotomy i (fL set d)with c|c|c
 have:=PU set d c;omega;subst c;exact e l;have:=List.pairwise_iff_getElem.1 w _ _ h hi c;omega;rw[bG h,aqD];simp only[Bool.eq_false_iff,ne_eq,asW];intro u;obtain⟨i,hi,l⟩:=arF u;have:=PU set d (i:=i) Om;omega
theorem Rb(set:I_){d e:Int}(h:d<=e):fL set d<=fL set e:=by
 induction set with
 |nil=>simp[fL]
 |cons x t l =>by_cases c:x<d;have i:x<e:=Om;simp only[fL,List.takeWhile_cons,c,i,decide_true,if_true,aqV]at l ⊢;omega;simp[fL,List.takeWhile_cons,c]
theorem WZ(a b:Nat):mkT (a:Int) (b:Int)=⟨false,aS (a/apS a b),aS (b/apS a b)⟩:=by
 have e:decide ((a:Int)<0)=false:=bG Om;have i:decide ((b:Int)<0)=false:=bG Om;unfold mkT qQ FV.rf;rw[e,i,Int.natAbs_natCast,Int.natAbs_natCast];rfl
structure SmF(x:RF)(p q:Nat):Prop where
 eq:x=⟨false,aS (p/apS p q),aS (q/apS p q)⟩
 a:p<=8
 b:q<=8
 pos:0<q
 c:p<=6\/q=8
theorem SmF.mk'{a b:Nat}(e:a<=8)(hb:b<=8)(h:0<b)(i:a<=6\/b=8):SmF (mkT (a:Int) (b:Int)) a b:=⟨WZ a b,e,hb,h,i⟩
theorem SmF.num{x:RF}{a b:Nat}(h:SmF x a b):val x.num=a/apS a b:=by rw[h.eq,bZ]
theorem SmF.den{x:RF}{a b:Nat}(h:SmF x a b):val x.den=b/apS a b:=by rw[h.eq,bZ]
theorem SmF.v{x:RF}{a b:Nat}(h:SmF x a b):x.v=(false,a/apS a b,b/apS a b):=by
 unfold RF.v;rw[h.num,h.den,h.eq]
theorem SmF.P5{x:RF}{a b:Nat}(_:SmF x a b):a/apS a b<=a:=asH ..
theorem SmF.Of{x:RF}{a b:Nat}(_:SmF x a b):b/apS a b<=b:=asH ..
theorem SmF.den_pos{x:RF}{a b:Nat}(h:SmF x a b):0<b/apS a b:=Nat.div_pos (Nat.le_of_dvd h.pos (Nat.gcd_dvd_right a b)) (Nat.gcd_pos_of_pos_right a h.pos)
theorem EW{n:Nat}(h:n<=4096):fC n<=32:=(tF n 32).2 Om
theorem Es{n:Nat}(h:0<n):0<fC n:=by
 rcases arZ (fC n)with e|e
 rw[tZ]at e;omega;exact e
theorem AC{a b:Nat}(i:a<=4096)(hb:b<=4096)(h:0<b):fT a b=true:=by
 have l:=EW i;have u:=EW hb;have e:=Es h;unfold fT;rw[aZ e,aZ (Om:fC b<=4096),aZ (Om:fC a<=4096)];rfl
theorem Hg{n:Bool}{a b:Nat}(e:a<=4096)(hb:b<=4096):qP n a b=.ok (n&&decide (a/apS a b≠0),a/apS a b,b/apS a b):=by
 have i:=EW (aqX (asH a (apS a b)) e);have l:=EW (aqX (asH b (apS a b)) hb);unfold qP;rw[aC Om]
theorem SmF.lim{x:RF}{a b:Nat}(h:SmF x a b):dO x=true:=by
 have u:=h.P5;have w:=h.Of;have e:=h.den_pos;have:=h.a;have:=h.b;have i:x.neg=false:=by rw[h.eq]
 unfold dO DB;rw[h.num,h.den,i,AC Om Om e,aE rfl,Hg Om Om];have l:=asH (a/apS a b) (apS (a/apS a b) (b/apS a b));have e2:=asH (b/apS a b) (apS (a/apS a b) (b/apS a b));simp only[aqD,aqI,aqL,apT,dT_];exact⟨EW Om,EW Om⟩
theorem SmF.yR{x:RF}{a b:Nat}(h:SmF x a b)(e:0<a):bR x=true:=by
 unfold bR;rw[h.num];exact aZ (Nat.ne_of_gt (Nat.div_pos (Nat.le_of_dvd e (Nat.gcd_dvd_left a b)) (Nat.gcd_pos_of_pos_right a h.pos)))
theorem SmF.zero{x:RF}{b:Nat}(h:SmF x 0 b):bR x=false:=by
 unfold bR;rw[h.num,Nat.zero_div];rfl
theorem SmF.one{x:RF}{a b:Nat}(h:SmF x a b)(e:a<=b):HB x=true:=by
 have u:=h.P5;have w:=h.Of;have i:=h.den_pos;have:=h.a;have:=h.b;have l:x.neg=false:=by rw[h.eq]
 unfold HB;rw[h.num,h.den,l,AC Om Om i];have:a/apS a b<=b/apS a b:=Nat.div_le_div_right e;show(true&&decide (iV (a/apS a b*1) (1*(b/apS a b))<=0))=true;rw[Nat.mul_one,Nat.one_mul,aqL];refine aZ ?_;unfold iV;split;decide;split;omega;decide
theorem SmF.ok{x:RF}{a b:Nat}(h:SmF x a b):FOk x:=by
 rw[h.eq];exact fok h.a h.b h.pos h.c
theorem Zi:∀c:Fin 9,∀k:Fin 9,c.val+k.val<=8 ->
  (c.val/apS c.val 8*(8/apS k.val 8)+k.val/apS k.val 8*(8/apS c.val 8))/apS (c.val/apS c.val 8*(8/apS k.val 8)+k.val/apS k.val 8*(8/apS c.val 8)) (8/apS c.val 8*(8/apS k.val 8))=(c.val+k.val)/apS (c.val+k.val) 8 /\
  8/apS c.val 8*(8/apS k.val 8)/apS (c.val/apS c.val 8*(8/apS k.val 8)+k.val/apS k.val 8*(8/apS c.val 8)) (8/apS c.val 8*(8/apS k.val 8))=8/apS (c.val+k.val) 8:=by decide +kernel
abbrev eV(c:Nat):FV:=(false,c/apS c 8,8/apS c 8)
theorem JY(c:Nat):0<8/apS c 8:=Nat.div_pos (Nat.le_of_dvd aT (Nat.gcd_dvd_right c 8)) (Nat.gcd_pos_of_pos_right c aT)
theorem zr{c k:Nat}(h:c+k<=8):nU (eV c) (eV k)=.ok (eV (c+k)):=by
 obtain⟨e,e2⟩:=Zi ⟨c,by omega⟩ ⟨k,by omega⟩ h;simp only at e e2;have a1:=asH c (apS c 8);have a2:=asH k (apS k 8);have a3:=asH 8 (apS c 8);have a4:=asH 8 (apS k 8);have i:=JY c;have l:=JY k;simp only[nU];rw[AC Om Om i,AC Om Om l,Bool.and_self,aE rfl,aE trivial];have b1:c/apS c 8*(8/apS k 8)<=8*8:=atU Om a4;have b2:k/apS k 8*(8/apS c 8)<=8*8:=atU Om a3;have u:8/apS c 8*(8/apS k 8)<=8*8:=atU a3 a4;rw[Hg Om Om,e,e2];rfl
theorem VD:∀(l:N_)(c:Nat),c+l.sum<=8->(l.map eV).foldlM nU (eV c)=.ok (eV (c+l.sum))
 |[],c,_=>rfl
 |k::l,c,h=>by rw[List.sum_cons]at h;rw[aqQ,List.foldlM_cons,zr Om,List.sum_cons,<-atA];exact VD l (c+k) Om
theorem Zh:eV 0=(false,0,1):=by decide +kernel
theorem Tw:eV 8=(false,1,1):=by decide +kernel
theorem abZ(l:N_)(h:l.sum=8):(match AA (l.map eV)with
  | .ok (n,a,b)=>decide (CZ n a b false 1 1=0)
  | .error _=>false)=true:=by
 unfold AA;rw[<-Zh,VD l 0 Om,aqA,h,Tw];rfl
def dig(k:Nat):List UInt8:=if k<10 then[UInt8.ofNat (48+k)]else[UInt8.ofNat (48+k/10),UInt8.ofNat (48+k%10)]
def XQ:List UInt8->Nat
 |[a]=>a.toNat-48
 |[a,b]=>(a.toNat-48)*10+(b.toNat-48)
 |_=>0
theorem TN{k:Nat}(h:k<100):cN k=dig k:=by
 unfold cN dig;by_cases e:k<10;rw[aE e];exact Lib.decDigits_one e;rw[aC e];exact Lib.decDigits_two e h
theorem Aj:∀k:Fin 100,XQ (dig k.val)=k.val/\(dig k.val).length<=2/\((dig k.val).all λc=>iK c.toNat)=true:=by decide +kernel
theorem rt{p:List UInt8}{c:UInt8}{t:List UInt8}(e:p=c::t)(l:gO c.toNat=true)(x:(t.all λc=>iK c.toNat)=true)(y:Z' p<=8){k:Nat}(u:k<100):isName (p++cN k)=true:=by
 obtain⟨-,w,i⟩:=Aj ⟨k,u⟩;simp only at w i;subst e;rw[TN u];show(decide ((c::t++dig k).length<=16)&&gO c.toNat&&(c::t++dig k).all λc=>iK c.toNat)=true;have hi:iK c.toNat=true:=by unfold iK;rw[l];rfl
 rw[aZ (by rw[apV];omega),l,atQ,i,atS,x,hi];rfl
theorem YJ{l:List (List UInt8)}(u:∀x∈l,isName x=true)(w:l.Nodup):distinct l=true:=by
 unfold distinct;rw[aqM];intro i hi;rw[aqN]at hi;have e:l.getD i []=l[i]:=by simp[apY,hi]
 rw[e,u _ (apW hi),aqL];have:¬l[i]∈l.take i:=by intro A;obtain⟨j,y,e⟩:=arF A;rw[aqF]at y;rw[List.getElem_take]at e;have:=(List.nodup_iff_pairwise_ne.1 w);rw[List.pairwise_iff_getElem]at this;exact this j i Om hi Om e
 simp[this]
theorem UC{l:List (List UInt8)}{g:List UInt8->Nat}(h:∀i (hi:i<Z' l),g l[i]=i):l.Nodup:=by
 rw[List.nodup_iff_pairwise_ne,List.pairwise_iff_getElem];intro i j hi w hlt e;have u:=h i hi;have x:=h j w;rw[e]at u;omega
theorem yY{l:List (List UInt8)}{p:List UInt8}{c:UInt8}{t:List UInt8}(e:p=c::t)(u:gO c.toNat=true)(y:(t.all λc=>iK c.toNat)=true)(w:Z' p<=8)(B:Z' l<=100)(h:∀i (hi:i<Z' l),l[i]=p++cN i):distinct l=true:=by
 refine YJ ?_ (UC (g:=λs=>XQ (s.drop p.length)) ?_);intro x A;obtain⟨i,hi,rfl⟩:=arF A;rw[h i hi];exact rt e u y w Om;intro i hi;rw[h i hi];simp only[List.drop_left];rw[TN Om];exact(Aj ⟨i,by omega⟩).1
structure yP(x:RF):Prop where
 lim:dO x=true
 ok:FOk x
theorem SmF.o{x:RF}{a b:Nat}(h:SmF x a b):yP x:=⟨h.lim,h.ok⟩
theorem uX:SmF mB 0 1:=SmF.mk' (a:=0) (b:=1) aT aT aT aT
theorem xJ(l:N_)(a:Nat):yP (iA l a).1/\bR (iA l a).1=true:=by
 have e:=cJ l (show 0<6 by decide) a;have i:=cJ l (show 0<8 by decide) (aH l 6 a).2;have:=SmF.mk' (a:=1+(aH l 6 a).1) (b:=1+(aH l 8 (aH l 6 a).2).1) Om Om Om Om;exact⟨this.o,this.yR Om⟩
theorem Tc(l:N_)(i j a:Nat):yP (kV l i j a).1/\(j=i->bR (kV l i j a).1=false)/\(j=i+1->bR (kV l i j a).1=true):=by
 unfold kV;by_cases e:j=i+1;rw[aE e];exact⟨(xJ l a).1,λh=>by omega,λ_=>(xJ l a).2⟩;rw[aC e];by_cases u:j=i;rw[aE u];exact⟨uX.o,λ_=>uX.zero,λh=>absurd h e⟩;rw[aC u];simp only;split;exact⟨(xJ l _).1,λh=>absurd h u,λh=>absurd h e⟩;exact⟨uX.o,λh=>absurd h u,λh=>absurd h e⟩
theorem If(l:N_)(i a:Nat):∀n,(eW l i a n).1.length=n/\∀j (u:j<(eW l i a n).1.length),yP (eW l i a n).1[j]/\(j=i->bR (eW l i a n).1[j]=false)/\(j=i+1->bR (eW l i a n).1[j]=true)
 |0=>⟨rfl,λj u=>absurd u (by simp[eW])⟩
 |n+1=>by obtain⟨w,x⟩:=If l i a n;have e:(eW l i a (n+1)).1=(eW l i a n).1++[(kV l i n (eW l i a n).2).1]:=rfl;rw[e];refine⟨by simp[w],λj u=>?_⟩;by_cases hlt:j<(eW l i a n).1.length;rw[List.getElem_append_left hlt];exact x j hlt;rw[apV,aqH]at u;have:j=n:=Om;subst this;rw[List.getElem_append_right Om];simp only[List.getElem_singleton];exact Tc l i j _
theorem Ie(l:N_)(a:Nat):∀n,(mT l a n).1.length=n/\∀x∈(mT l a n).1,yP x/\bR x=true
 |0=>⟨rfl,λx i=>by cases i⟩
 |n+1=>by
  obtain⟨u,w⟩:=Ie l a n;have e:(mT l a (n+1)).1=(mT l a n).1++[(iA l (mT l a n).2).1]:=rfl;rw[e];refine⟨by simp[u],λx i=>?_⟩;rw[aqZ,arA]at i;rcases i with i|rfl
  exact w x i;exact xJ l _
theorem T2(l:N_)(n i a:Nat):yP (gR l n i a).1/\(i+1=n->bR (gR l n i a).1=true):=by
 unfold gR;by_cases h:i+1<n;simp only[aE h];refine⟨?_,λe=>by omega⟩;split;exact uX.o;exact(xJ l a).1;simp only[aC h];exact⟨(xJ l a).1,λ_=>(xJ l a).2⟩
def adL(n:Nat)(aoH:List (List RF)):Prop:=∀i (hi:i<Z' aoH),aoH[i].length=n/\∀j (e:j<aoH[i].length),yP aoH[i][j]/\(j=i->bR aoH[i][j]=false)/\(j=i+1->bR aoH[i][j]=true)
def adG(n:Nat)(exit:List RF):Prop:=∀i (hi:i<Z' exit),yP exit[i]/\(i+1=n->bR exit[i]=true)
structure akT(n i:Nat)(s:JV)(cs:N_):Prop where
 start:s.start=cs.map λc=>mkT ((c:Nat):Int) ((8:Nat):Int)
 lens:Z' s.exit=i/\Z' s.aoH=i/\Z' cs=i
 left:cs.sum+s.left=8/\(i=n->0<n->s.left=0)
 exit:adG n s.exit
 aoH:adL n s.aoH
theorem xU{α:Type}{P:Nat->α->Prop}{xs:List α}{x:α}(h:∀i (hi:i<Z' xs),P i xs[i])(e:P xs.length x):∀i (hi:i<(xs++[x]).length),P i (xs++[x])[i]:=by
 intro i hi;by_cases hlt:i<Z' xs;rw[List.getElem_append_left hlt];exact h i hlt;rw[apV,aqH]at hi;have:i=Z' xs:=Om;subst this;rw[List.getElem_append_right Om];simpa using e
theorem ue(l:N_)(n a:Nat):∀i,i<=n->∃cs,akT n i (iW l n a i) cs
 |0,_=>⟨[],rfl,⟨rfl,rfl,rfl⟩,⟨rfl,λh u=>by omega⟩,λi hi=>absurd hi (by simp[iW]),λi hi=>absurd hi (by simp[iW])⟩
 |i+1,hi=>by
  obtain⟨cs,y,⟨u,w,A⟩,⟨h5,-⟩,B,h7⟩:=ue l n a i Om;generalize E:iW l n a i=s at *
  have e:iW l n a (i+1)=⟨s.start++[mkT ((eU l n i s).1:Nat) 8],s.exit++[(gR l n i (eU l n i s).2).1],s.aoH++[(eW l i (gR l n i (eU l n i s).2).2 n).1],s.left-(eU l n i s).1,(eW l i (gR l n i (eU l n i s).2).2 n).2⟩:=by simp only[iW,E]
  rw[e];have D:(eU l n i s).1<=s.left/\(i+1=n->(eU l n i s).1=s.left):=by unfold eU;split;exact⟨by have:=cJ l (Om:0<s.left+1) s.a;omega,λh=>by omega⟩;exact⟨apU _,λ_=>rfl⟩
  refine⟨cs++[(eU l n i s).1],?_,⟨by simp[u],by simp[w],by simp[A]⟩,⟨?_,λh _=>?_⟩,?_,?_⟩;simp only[y,aqP,aqQ,arL];rfl;simp only[List.sum_append,List.sum_cons,List.sum_nil];omega;have:=D.2 h;simp only;omega;refine xU (P:=λi x=>yP x/\(i+1=n->bR x=true)) B ?_;rw[u];exact T2 l n i _;refine xU (P:=λi (r:List RF)=>Z' r=n/\∀j (F:j<Z' r),yP r[j]/\(j=i->bR r[j]=false)/\(j=i+1->bR r[j]=true)) h7 ?_;rw[w];exact If l i _ n
theorem Tz{x:cS}{e r:RF}(i:x.exit=[e])(l:x.aoH=[[r]])(u:bR e=true):vI x=true:=by
 unfold vI;rw[i];show((dV x 2).all id)=true;simp only[dV,dT,nL,dB,i,l,aqV,asG,List.getD_cons_zero,aqQ,arL,u];cases bR r<;>rfl
theorem UL{x:cS}{y A e i l u:RF}(B:x.exit=[y,A])(D:x.aoH=[[e,i],[l,u]])(E:bR A=true)(F:bR i=true)(a b:Bool) :
  ∃c,dT x [a,b] 2=[c,true]/\(b=true->c=true)/\(a=true->c=true):=by
 have J:nL x [a,b] 0=[((a||bR y)||bR e&&(a||bR y))||b,b]:=by unfold nL;rw[B,D];simp only[List.getD_cons_zero,aqQ,asT];generalize(a||bR y)=c;show dB [c,b] 0 [e,i] 2=_;have:dB [c,b] 0 [e,i] 1=[c||bR e&&c,b]:=rfl;show(let w:=dB [c,b] 0 [e,i] 1;w.set 0 (w.getD 0 false||([e,i].map bR).getD 1 false&&w.getD 1 false))=_;rw[this];show[(c||bR e&&c)||(bR i&&b),b]=_;rw[F,aqL]
 have K:∀c,nL x [c,b] 1=[c,true]:=by intro c;unfold nL;rw[B,D];have:dB [c,true] 1 [l,u] 1=[c,true||bR l&&c]:=rfl;show dB [c,b||bR A] 1 [l,u] 2=_;rw[E,Bool.or_true];show(let w:=dB [c,true] 1 [l,u] 1;w.set 1 (w.getD 1 false||([l,u].map bR).getD 1 false&&w.getD 1 false))=_;rw[this,Bool.true_or];show[c,true||bR u&&true]=_;rw[Bool.true_or]
 refine⟨_,by rw[show dT x [a,b] 2=nL x (nL x [a,b] 0) 1 from rfl,J,K],?_,?_⟩;rintro rfl;rw[Bool.or_true];rintro rfl;simp
theorem T0{x:cS}{u F B l D E:RF}(i:x.exit=[u,F])(w:x.aoH=[[B,l],[D,E]])(y:bR F=true)(A:bR l=true):vI x=true:=by
 unfold vI;rw[i];show((dV x 3).all id)=true;have e:∀r,dV x (r+1)=dT x (dV x r) 2:=λr=>by rw[dV,i];rfl
 have u:dV x 0=[false,false]:=by rw[dV,i];rfl
 obtain⟨J,L,-,-⟩:=UL i w y A false false;obtain⟨K,M,S,-⟩:=UL i w y A J true;obtain⟨R,N,O,-⟩:=UL i w y A K true;rw[e,e,e,u,L,M,N,O rfl];rfl
theorem Bv{c:Nat}:∀{cs:N_},c∈cs->c<=cs.sum
 |k::t,h=>by
  rw[List.sum_cons];rcases aqG.1 h with rfl|h
  omega;have:=Bv h;omega
theorem LR{α:Type}{l:List α}(h:Z' l=2):∃a b,l=[a,b]:=by
 match l,h with
 |[a,b],_=>exact⟨a,b,rfl⟩
theorem afN(cs:N_)(h:cs.sum=8):(match AA ((cs.map λc=>mkT ((c:Nat):Int) ((8:Nat):Int)).map RF.v)with
  | .ok (n,a,b)=>decide (CZ n a b false 1 1=0)
  | .error _=>false)=true:=by
 have l:∀c∈cs,c<=8:=λc i=>by have:=Bv i;omega
 have e:((cs.map λc=>mkT ((c:Nat):Int) ((8:Nat):Int)).map RF.v)=cs.map eV:=by rw[asR];refine arQ λc i=>?_;have:=l c i;exact(SmF.mk' (a:=c) (b:=8) Om aT aT (.inr rfl)).v
 rw[e];exact abZ cs h
theorem EV{α:Type}{p:α->Bool}{l:List α}(h:∀i (hi:i<Z' l),p l[i]=true):l.all p=true:=by
 rw[aqM];intro x e;obtain⟨i,hi,rfl⟩:=arF e;exact h i hi
theorem st8:∀c:Fin 9,[(c.val/apS c.val 8,8/apS c.val 8),((8-c.val)/apS (8-c.val) 8,8/apS (8-c.val) 8)]∈stN:=by decide +kernel
theorem rf8{c:Nat}(h:c<=8):mkT (c:Nat) ((8:Nat):Int)=rfQ (c/apS c 8,8/apS c 8):=by
 have e:=asH c (apS c 8);have e2:=asH 8 (apS c 8);rw[WZ,Df Om Om (JY c)]
theorem aiQ{cs:N_}{l:List RF}(e:l=cs.map λc=>mkT ((c:Nat):Int) ((8:Nat):Int))(h8:cs.sum=8)(hl:Z' cs=1\/Z' cs=2):JW l:=by
 rcases hl with hl|hl
 obtain⟨c,rfl⟩:=List.length_eq_one_iff.1 hl;have:c=8:=by simpa using h8
 subst this;exact⟨[(1,1)],by decide,by rw[e];simp only[aqQ,arL,rf8 (apU 8)];rfl⟩;obtain⟨c,d,rfl⟩:=LR hl;have:c+d=8:=by simpa using h8
 obtain rfl:d=8-c:=Om;exact⟨_,st8 ⟨c,by omega⟩,by rw[e];simp only[aqQ,arL,rf8 (Om:c<=8),rf8 (Om:8-c<=8)]⟩
theorem Kx(l:N_)(a:Nat)(L:List UInt8):mQ { (wG l 2 a).1 with name:=L }=true/\({ (wG l 2 a).1 with name:=L }:cS).Ok:=by
 obtain⟨n,hn⟩:∃n,n=1+(aH l 2 a).1:=⟨_,rfl⟩;have X:n=1\/n=2:=by have:=cJ l (show 0<2 by decide) a;omega
 obtain⟨cs,M,⟨h2,h3,h4⟩,⟨h5,R⟩,N,h7⟩:=ue l n (aH l 2 a).2 n (apU _);generalize hs:iW l n (aH l 2 a).2 n=s at *
 have e:({ (wG l 2 a).1 with name:=L }:cS)=⟨L,s.start,s.aoH,s.exit⟩:=by simp only[wG,<-hn,hs]
 rw[e];have A:cs.sum=8:=by have:=R rfl Om;omega
 have W:∀c∈cs,c<=8:=λc S=>by have:=Bv S;omega
 have w:∀x∈s.start,yP x:=by intro x u;rw[M]at u;obtain⟨c,S,rfl⟩:=aqJ.1 u;have:=W c S;exact(SmF.mk' (a:=c) (b:=8) Om aT aT (.inr rfl)).o
 have β:Z' s.start=n:=by rw[M,apP,h4]
 have B:vI ⟨L,s.start,s.aoH,s.exit⟩=true:=by
  rcases X with rfl|rfl
  obtain⟨e,he⟩:=List.length_eq_one_iff.1 h2;obtain⟨η,y⟩:=List.length_eq_one_iff.1 h3;have Y:=(h7 0 Om).1;obtain⟨r,K⟩:=List.length_eq_one_iff.1 Y;have u:=(N 0 Om).2 rfl;simp only[y,List.getElem_cons_zero]at K;simp only[he,List.getElem_cons_zero]at u;exact Tz he (by rw[y,K]) u;obtain⟨e0,e1,he⟩:=LR h2;obtain⟨r0,r1,y⟩:=LR h3;have F:=(h7 0 Om).1;have J:=(h7 1 Om).1;have u:=(N 1 Om).2 rfl;have Z:=((h7 0 Om).2 1 Om).2.2 rfl;simp only[he,List.getElem_cons_succ,List.getElem_cons_zero]at u;simp only[y,List.getElem_cons_succ,List.getElem_cons_zero]at F J Z;obtain⟨γ,δ,D⟩:=LR F;obtain⟨ε,ζ,O⟩:=LR J;simp only[D,List.getElem_cons_succ,List.getElem_cons_zero]at Z;exact T0 he (by rw[y,D,O]) u Z
 constructor;unfold mQ;simp only[apT];refine⟨⟨⟨⟨⟨⟨⟨?_,?_⟩,?_⟩,?_⟩,?_⟩,?_⟩,?_⟩,B⟩;rw[within_iff];omega;exact aZ Om;exact aZ Om;exact aqM.2 λx u=>(w x u).lim;exact EV λi hi=>(N i hi).1.lim;rw[aqM];intro i hi;rw[aqN]at hi;obtain⟨k1,k2⟩:=h7 i hi;have eg:s.aoH.getD i []=s.aoH[i]:=by simp[apY,hi]
 rw[eg,apT,apT];refine⟨⟨aZ Om,EV λj V=>(k2 j V).1.lim⟩,?_⟩;have E:i<s.aoH[i].length:=Om;rw[getD_at E,(k2 i E).2.1 rfl];rfl;rw[M];exact afN cs A;have U:∀m:Nat,m<=2->m<=9223372036854775807:=λm hm=>by omega
 have α:n<=2:=Om;refine⟨aiQ M A Om,⟨?_,λx u=>?_⟩,?_,λr y=>⟨?_,λx u=>?_⟩⟩;exact U s.exit.length Om;obtain⟨i,hi,rfl⟩:=arF u;exact(N i hi).1.ok;exact U s.aoH.length Om;obtain⟨i,hi,rfl⟩:=arF y;have:=(h7 i hi).1;exact U (s.aoH[i]'hi).length Om;obtain⟨i,hi,rfl⟩:=arF y;obtain⟨j,V,rfl⟩:=arF u;exact((h7 i hi).2 j V).1.ok
theorem YR(l:N_)(a:Nat):∀n,(jE l a n).1.length=n/\∀i (hi:i<(jE l a n).1.length),(jE l a n).1[i].name=[108,97,119]++cN i/\mQ (jE l a n).1[i]=true/\(jE l a n).1[i].Ok
 |0=>⟨rfl,λi hi=>absurd hi (by simp[jE])⟩
 |n+1=>by obtain⟨u,w⟩:=YR l a n;have e:(jE l a (n+1)).1=(jE l a n).1++[{ (wG l 2 (jE l a n).2).1 with name:=[108,97,119]++cN n }]:=rfl;rw[e];refine⟨by simp[u],xU (P:=λi (x:cS)=>x.name=[108,97,119]++cN i/\mQ x=true/\x.Ok) w ?_⟩;rw[u];exact⟨rfl,Kx l _ _⟩
theorem RV(l:N_)(aoK:Nat)(y:0<aoK)(a:Nat):∀n,(fU l aoK a n).1.length=n/\∀i (hi:i<(fU l aoK a n).1.length),(fU l aoK a n).1[i].name=[109]++cN i/\∃e p w:Nat,(fU l aoK a n).1[i].aoT=e/\1<=e/\e<=4/\(fU l aoK a n).1[i].port=p/\1<=p/\p<=8/\(fU l aoK a n).1[i].law=w/\w<aoK
 |0=>⟨rfl,λi hi=>absurd hi (by simp[fU])⟩
 |n+1=>by
  obtain⟨u,A⟩:=RV l aoK y a n;obtain⟨s,B⟩:∃s,s=fU l aoK a n:=⟨_,rfl⟩;have e:(fU l aoK a (n+1)).1=(fU l aoK a n).1++[⟨[109]++cN n,(1+(aH l 4 s.2).1:Nat),(1+(aH l 8 (aH l 4 s.2).2).1:Nat),((aH l aoK (aH l 8 (aH l 4 s.2).2).2).1:Nat)⟩]:=by rw[B];rfl
  rw[e];refine⟨by simp[u],xU (P:=λi (x:dL)=>x.name=[109]++cN i/\∃e p w:Nat,x.aoT=e/\1<=e/\e<=4/\x.port=p/\1<=p/\p<=8/\x.law=w/\w<aoK) A ?_⟩;rw[u];have E:=cJ l (show 0<4 by decide) s.2;have F:=cJ l (show 0<8 by decide) (aH l 4 s.2).2;have D:=cJ l y (aH l 8 (aH l 4 s.2).2).2;exact⟨rfl,_,_,_,rfl,by omega,by omega,rfl,by omega,by omega,rfl,D⟩
theorem EK(l:N_)(a:Nat):∃n:Nat,(jU l a).1=n/\n<=3:=by
 have h:=cJ l (show 0<3 by decide) (aH l 3 a).2;unfold jU;simp only;split;exact⟨1+(aH l 3 (aH l 3 a).2).1,rfl,by omega⟩;exact⟨0,rfl,by omega⟩
theorem fX{n lo hi:Int}(e:lo<=n)(i:n<=hi):within n lo hi=true:=within_iff.2 ⟨e,i⟩
theorem aeW{B:List UInt8}{k m q s1 s2 s3 s4 g h:Nat}{ms:I_}{y:List RF}{mc:Nat}(F:1<=k)(J:k<=2)(V:m<=2)(L:k<=q)(M:q<=k+m)(N:s1<=3)(D:s2<=3)(O:s3<=3)(R:s4<=3)(E:g<=8)(U:h<=4)
  (w:Z' y=max m 1) (u:∀x∈y,yP x/\bR x=true)
  (K:mc<=2) (i:∃f:Nat,f<mc/\(ms=[(f:Int)]\/mc=2/\ms=[(f:Int),1-(f:Int)])) :
  lH mc ⟨B,(k:Nat),(m:Nat),(q:Nat),0,(s1:Nat),(s2:Nat),(s3:Nat),(s4:Nat),ms,y,mkT (g:Nat) ((8:Nat):Int),mkT (h:Nat) ((1:Nat):Int)⟩=true /\
  (⟨B,(k:Nat),(m:Nat),(q:Nat),0,(s1:Nat),(s2:Nat),(s3:Nat),(s4:Nat),ms,y,mkT (g:Nat) ((8:Nat):Int),mkT (h:Nat) ((1:Nat):Int)⟩:bY).Ok:=by
 have G:=SmF.mk' (a:=g) (b:=8) Om aT aT (.inr rfl);have Z:=SmF.mk' (a:=h) (b:=1) Om aT aT Om;obtain⟨f,S,i⟩:=i;constructor;unfold lH OV IW;simp only[apT,atS,List.all_nil,arY];refine⟨⟨⟨⟨⟨⟨⟨⟨fX Om Om,fX Om Om⟩,aZ Om⟩,fX Om Om⟩,rfl⟩,fX Om Om,fX Om Om,fX Om Om,fX Om Om,fX Om Om⟩,?_⟩,⟨⟨⟨⟨aZ (by rw[w];omega),?_⟩,G.lim⟩,G.one Om⟩,Z.lim⟩⟩,?_⟩;rcases i with e|⟨-,e⟩<;>rw[e]<;>rfl
 rw[aqM];intro x l;rw[(u x l).1.lim,(u x l).2];rfl;rw[aqM];rcases i with rfl|⟨rfl,rfl⟩
 intro j A;simp only[aqV,asG,aqN]at A;have:j=0:=Om;subst this;rw[apT];exact⟨fX aX (by simp;omega),by simp⟩;intro j A;simp only[aqV,asG,aqN]at A;have:j=0\/j=1:=Om;rcases this with rfl|rfl
 rw[apT];exact⟨fX aX (by simp;omega),by simp⟩;rw[apT];refine⟨fX (by simp;omega) (by simp;omega),?_⟩;have:¬(1-(f:Int)=f):=Om;simp[this];refine⟨by unfold eK;constructor<;>simp only<;>omega,by unfold eK;constructor<;>simp only<;>omega,by unfold eK;constructor<;>simp only<;>omega,?_,?_,⟨?_,λx l=>(u x l).1.ok⟩,by rw[WZ];exact tok E,Z.ok⟩;show ms.length<=_;rcases i with e|⟨-,e⟩<;>rw[e]<;>simp
 show ∀x∈ms,eK x;unfold eK;rcases i with e|⟨D,e⟩<;>rw[e]<;>intro x l<;>simp only[aqG,aqS,or_false]at l
 subst l;omega;rcases l with rfl|rfl<;>omega
 show y.length<=_;rw[w];omega
theorem w9(l:N_){mc:Nat}(A:0<mc)(B:mc<=2)(i a:Nat):(pR l mc i a).1.name=[112]++cN i/\lH mc (pR l mc i a).1=true/\(pR l mc i a).1.Ok:=by
 refine⟨rfl,?_⟩;have K:=cJ l (show 0<2 by decide) a;have L:=cJ l (show 0<3 by decide) (aH l 2 a).2;have J:=cJ l (show 0<4 by decide) (aH l 3 (aH l 2 a).2).2;unfold pR;simp only;generalize aH l 2 a=k at *
 generalize aH l 3 k.2=m at *
 generalize aH l 4 m.2=h at *
 have hq:=cJ l (Om:0<m.1+1) h.2;generalize aH l (m.1+1) h.2=q at *
 obtain⟨r1,r2⟩:=Ie l q.2 (max m.1 1);generalize mT l q.2 (max m.1 1)=r at *
 have F:=cJ l (show 0<9 by decide) r.2;generalize aH l 9 r.2=g at *
 obtain⟨M,w,b1⟩:=EK l g.2;generalize jU l g.2=s1 at *
 obtain⟨N,e2,b2⟩:=EK l s1.2;generalize jU l s1.2=s2 at *
 obtain⟨O,x,e⟩:=EK l s2.2;generalize jU l s2.2=s3 at *
 obtain⟨R,y,u⟩:=EK l s3.2;generalize jU l s3.2=s4 at *
 have D:=cJ l A s4.2;generalize aH l mc s4.2=f at *
 generalize aH l 2 f.2=b at *
 rw[w,e2,x,y];refine aeW Om Om Om Om Om b1 b2 e u Om Om r1 r2 B ⟨f.1,D,?_⟩;split;rename_i E;split;exact .inr ⟨by omega,rfl⟩;exact .inl rfl;exact .inl rfl
theorem IV(l:N_){mc:Nat}(u:0<mc)(w:mc<=2)(a:Nat):∀n,(eY l mc a n).1.length=n/\∀i (hi:i<(eY l mc a n).1.length),(eY l mc a n).1[i].name=[112]++cN i/\lH mc (eY l mc a n).1[i]=true/\(eY l mc a n).1[i].Ok
 |0=>⟨rfl,λi hi=>absurd hi (by simp[eY])⟩
 |n+1=>by obtain⟨y,A⟩:=IV l u w a n;have e:(eY l mc a (n+1)).1=(eY l mc a n).1++[(pR l mc n (eY l mc a n).2).1]:=rfl;rw[e];refine⟨by simp[y],xU (P:=λi (x:bY)=>x.name=[112]++cN i/\lH mc x=true/\x.Ok) A ?_⟩;rw[y];exact w9 l u w n _
theorem MI(l:N_){pc:Nat}(u:0<pc)(a:Nat):∀n,(fW l pc a n).1.length=n/\∀i (hi:i<(fW l pc a n).1.length),(fW l pc a n).1[i].name=[118]++cN i/\∃p:Nat,(fW l pc a n).1[i].aoP=p/\p<pc
 |0=>⟨rfl,λi hi=>absurd hi (by simp[fW])⟩
 |n+1=>by obtain⟨w,y⟩:=MI l u a n;have e:(fW l pc a (n+1)).1=(fW l pc a n).1++[⟨[118]++cN n,((aH l pc (fW l pc a n).2).1:Nat)⟩]:=rfl;rw[e];refine⟨by simp[w],xU (P:=λi (x:fV)=>x.name=[118]++cN i/\∃p:Nat,x.aoP=p/\p<pc) y ?_⟩;rw[w];exact⟨rfl,_,rfl,cJ l u _⟩
abbrev lvs(ds:List cQ):I_:=ds.map cQ.level
def akQ(ds:List cQ)(i:Nat)(d:cQ):Prop:=∃lev p u:Nat,d.name=[oW lev]++cN (i+1)/\d.level=lev/\1<=lev/\lev<=4/\d.parent=p/\p<=i/\(lvs ds)[p]?=some ((lev:Int)-1)/\d.aoX=u/\1<=u/\u<=16/\yP d.aoS
def adF(ds:List cQ)(mc i:Nat)(d:eG):Prop:=∃m c:Nat,d.name=[100]++cN i/\d.model=m/\m<mc/\d.machine=c/\(lvs ds)[c]?=some 4
structure GV(mc aoC:Nat)(s:GS):Prop where
 len:Z' s.aoM<=35
 aoW:Z' s.aoW<=aoC
 root:s.aoM[0]?=some mM
 dom:∀i (hi:i+1<Z' s.aoM),akQ s.aoM i s.aoM[i+1]
 drv:∀i (hi:i<Z' s.aoW),adF s.aoM mc i s.aoW[i]
theorem GV.a{mc aoC:Nat}{s:GS}(h:GV mc aoC s)(x:Nat):GV mc aoC { s with a:=x }:=⟨h.len,h.aoW,h.root,h.dom,h.drv⟩
theorem A8(l:N_){mc aoC dom:Nat}(u:0<mc){s:GS}(h:GV mc aoC s)(x:(lvs s.aoM)[dom]?=some 4):∀n,GV mc aoC (kX l mc aoC dom s n)/\(kX l mc aoC dom s n).aoM=s.aoM
 |0=>⟨h,rfl⟩
 |n+1=>by
  obtain⟨e,w⟩:=A8 l u h x n;simp only[kX];generalize kX l mc aoC dom s n=t at *
  split;rename_i hlt;refine⟨⟨e.len,by simp only[apV,aqH];omega,e.root,e.dom,?_⟩,w⟩;refine xU (P:=λi d=>adF t.aoM mc i d) e.drv ?_;exact⟨_,dom,rfl,rfl,cJ l u _,rfl,by rw[w];exact x⟩;exact⟨e,w⟩
theorem FB{ds:List cQ}{p:Nat}{x:Int}{t:List cQ}(h:(lvs ds)[p]?=some x):(lvs (ds++t))[p]?=some x:=by
 unfold lvs at *
 rw[aqP,asE];exact h;exact(aqU.1 h).1
theorem Ze(l:N_){mc aoC dom level:Nat}{s:GS}(h:GV mc aoC s)(A:1<=level)(K:level<=4)(D:(lvs s.aoM)[dom]?=some ((level:Int)-1))(E:vL aoC s=false) :
  GV mc aoC (nZ l level dom s)/\(∃t,(nZ l level dom s).aoM=s.aoM++t)/\(nZ l level dom s).aoM.length=Z' s.aoM+1/\(lvs (nZ l level dom s).aoM)[Z' s.aoM]?=some (level:Int):=by
 unfold vL at E;simp only[Bool.or_eq_false_iff,decide_eq_false_iff_not]at E;have J:dom<Z' s.aoM:=by
  have:=(aqU.1 D).1
  rwa[apP]at this
 have M:=cJ l (show 0<16 by decide) s.a;have L:=cJ l (show 0<6 by decide) (aH l 3 (aH l 16 s.a).2).2;unfold nZ;simp only;generalize aH l 16 s.a=u at *
 generalize aH l 3 u.2=t at *
 generalize aH l 6 t.2=k at *
 have B:yP (if t.1=0 then(mkT 1 ((2+k.1:Nat):Int),k.2)else(mB,t.2)).1:=by split;exact(SmF.mk' (a:=1) (b:=2+k.1) Om Om Om Om).o;exact uX.o
 generalize(if t.1=0 then(mkT 1 ((2+k.1:Nat):Int),k.2)else(mB,t.2))=sh at *
 refine⟨⟨by simp only[apV,aqH];omega,h.aoW,?_,?_,λi hi=>?_⟩,⟨_,rfl⟩,by simp,?_⟩;rw[asE Om];exact h.root;intro i hi;simp only[apV,aqH]at hi;by_cases hlt:i+1<Z' s.aoM;rw[List.getElem_append_left hlt];obtain⟨lev,p,v,e,w,x,y,h5,F,h7,h8⟩:=h.dom i hlt;exact⟨lev,p,v,e,w,x,y,h5,F,FB h7,h8⟩;have:i+1=Z' s.aoM:=Om;rw[List.getElem_append_right Om];simp only[List.getElem_singleton];exact⟨level,dom,1+u.1,by rw[this],rfl,A,K,rfl,by omega,FB D,rfl,by omega,by omega,B⟩;obtain⟨m,c,e,w,x,y,h5⟩:=h.drv i hi;exact⟨m,c,e,w,x,y,FB h5⟩;unfold lvs;rw[aqP,arS (by rw[apP];exact apU _),apP,asA];rfl
theorem A9(l:N_){mc aoC dom level:Nat}(i:1<=level)(D:level<=4){rec:Nat->GS->GS}
  (e:∀d t,GV mc aoC t->(lvs t.aoM)[d]?=some (level:Int)->GV mc aoC (rec d t)/\∃u,(rec d t).aoM=t.aoM++u) {s:GS} (h:GV mc aoC s) (B:(lvs s.aoM)[dom]?=some ((level:Int)-1)) :
  ∀n,GV mc aoC (iB l level aoC dom rec s n)/\∃u,(iB l level aoC dom rec s n).aoM=s.aoM++u
 |0=>⟨h,[],by simp[iB]⟩
 |n+1=>by
  obtain⟨A,u,x⟩:=A9 l i D e h B n;simp only[iB];generalize iB l level aoC dom rec s n=t at *
  split;exact⟨A,u,x⟩;rename_i E;have y:(lvs t.aoM)[dom]?=some ((level:Int)-1):=by rw[x];exact FB B
  obtain⟨F,⟨v,J⟩,K,L⟩:=Ze l A i D y (by simpa using E);obtain⟨M,w,N⟩:=e ((nZ l level dom t).aoM.length-1) (nZ l level dom t) F (by rw[K,Nat.add_sub_cancel];exact L);exact⟨M,u++(v++w),by rw[N,J,x];simp⟩
theorem Bb(l:N_){mc aoC:Nat}(e:0<mc):∀(k:Nat),k<=4->∀(dom:Nat){s:GS},GV mc aoC s->(lvs s.aoM)[dom]?=some (4-(k:Int))->GV mc aoC (fR l mc aoC k dom s)/\∃u,(fR l mc aoC k dom s).aoM=s.aoM++u
 |0,_,dom,s,h,i=>by simp only[fR];obtain⟨x,y⟩:=A8 l e (h.a (aH l 2 s.a).2) i (1+(aH l 2 s.a).1);exact⟨x,[],by rw[y];simp⟩
 |k+1,B,dom,s,h,i=>by simp only[fR];refine A9 l Om Om (λd t A w=>Bb l e k Om d A ?_) (h.a (aH l 2 s.a).2) ?_ _;rw[w];congr 1;omega;rw[i];congr 1;omega
theorem ug(lev:Nat)(e:1<=lev)(i:lev<=4):gO (oW lev).toNat=true/\oW lev≠100:=by
 have:lev=1\/lev=2\/lev=3\/lev=4:=Om;rcases this with rfl|rfl|rfl|rfl<;>decide
theorem oi(c:UInt8){k:Nat}(e:k<100):XQ (([c]++cN k).drop 1)=k:=by
 show XQ (cN k)=k;rw[TN e];exact(Aj ⟨k,e⟩).1
theorem E9{mc aoC:Nat}{s:GS}(h:GV mc aoC s)(L:aoC<=60):distinct ((s.aoM.drop 1).map cQ.name++s.aoW.map eG.name)=true:=by
 have D:∀i (hi:i<((s.aoM.drop 1).map cQ.name).length),∃lev:Nat,1<=lev/\lev<=4/\((s.aoM.drop 1).map cQ.name)[i]=[oW lev]++cN (i+1):=by intro i hi;rw[apP,arM]at hi;obtain⟨lev,p,u,l,-,F,w,-⟩:=h.dom i Om;refine⟨lev,F,w,?_⟩;rw[arI,List.getElem_drop];simp only[Nat.add_comm 1 i];exact l
 have hB:∀i (hi:i<(s.aoW.map eG.name).length),(s.aoW.map eG.name)[i]=[100]++cN i:=by intro i hi;rw[apP]at hi;obtain⟨m,c,l,-⟩:=h.drv i hi;rw[arI];exact l
 have M:((s.aoM.drop 1).map cQ.name).length<=40:=by rw[apP,arM];have:=h.len;omega
 have N:(s.aoW.map eG.name).length<=60:=by rw[apP];have:=h.aoW;omega
 generalize(s.aoM.drop 1).map cQ.name=A at *
 generalize s.aoW.map eG.name=B at *
 refine YJ ?_ ?_;intro x hx;rcases aqZ.1 hx with hx|hx
 obtain⟨i,hi,rfl⟩:=arF hx;obtain⟨lev,l,w,e⟩:=D i hi;rw[e];exact rt rfl (ug lev l w).1 rfl aX Om;obtain⟨i,hi,rfl⟩:=arF hx;rw[hB i hi];exact rt rfl aT rfl aX Om;rw[asS];refine⟨?_,?_,?_⟩;refine UC (g:=λs=>XQ (s.drop 1)-1) λi hi=>?_;obtain⟨lev,-,-,e⟩:=D i hi;rw[e,oi _ Om];omega;refine UC (g:=λs=>XQ (s.drop 1)) λi hi=>?_;rw[hB i hi];exact oi _ Om;intro x hx y K e;obtain⟨i,hi,rfl⟩:=arF hx;obtain⟨j,J,rfl⟩:=arF K;obtain⟨lev,l,w,E⟩:=D i hi;rw[E,hB j J]at e;exact(ug lev l w).2 (List.cons.inj e).1
theorem Wf{mc aoC a:Nat}:GV mc aoC ⟨[mM],[],a⟩:=
 ⟨by simp,apR _,rfl,λi hi=>absurd hi aX,λi hi=>absurd hi aX⟩
theorem Zz{mc aoC:Nat}{s:GS}(h:GV mc aoC s)(f:aB)(B:f.aoF=s.aoM):sE f=true:=by
 have y:=h.root;have x:=h.dom;unfold sE;rw[B];cases l:s.aoM with
 |nil=>rw[l]at y;cases y
 |cons r t=>
  rw[l]at y;have:r=mM:=by simpa using y
  subst this;show IF f mM t=true;unfold IF;simp only[apT];refine⟨⟨⟨⟨⟨⟨rfl,rfl⟩,rfl⟩,rfl⟩,uX.lim⟩,by rw[show mM.aoS=mB from rfl,uX.zero];rfl⟩,?_⟩;rw[aqM];intro i hi;rw[aqN]at hi;rw[apZ hi];obtain⟨lev,p,u,D,A,F,J,h5,K,h7,h8,L,E,w⟩:=x i (by rw[l];simp;omega);have e:s.aoM[i+1]'(by rw[l];simp;omega)=t[i]:=by simp[l]
  rw[e]at D A h5 h8 w;show NE f i t[i]=true;unfold NE;simp only[apT];refine⟨⟨⟨⟨?_,?_⟩,?_⟩,?_⟩,w.lim⟩;rw[h5];exact fX Om Om;rw[h5,A,B,arP,apY,h7,p7 Om Om];exact aZ rfl;rw[A];exact fX Om Om;rw[h8];exact fX Om Om
theorem GL(l:N_)(aoC aoE a:Nat)(hd:aoC<=24)(hv:aoE<=12) :
  cP (iJ l aoC aoE a).1=true/\(iJ l aoC aoE a).1.Ok:=by
 unfold iJ;simp only;have he:=cJ l (show 0<2 by decide) a;generalize aH l 2 a=e at *
 have γ:=cJ l (show 0<2 by decide) e.2;generalize aH l 2 e.2=F at *
 obtain⟨w1,V⟩:=YR l F.2 (1+F.1);generalize jE l F.2 (1+F.1)=aoK at *
 have δ:=cJ l (show 0<2 by decide) aoK.2;generalize aH l 2 aoK.2=D at *
 obtain⟨Y,Z⟩:=RV l (1+F.1) Om D.2 (1+D.1);generalize fU l (1+F.1) D.2 (1+D.1)=aoD at *
 obtain⟨G,-⟩:=Bb l (mc:=1+D.1) (aoC:=aoC) Om 4 aT 0 (s:=⟨[mM],[],aoD.2⟩) Wf rfl;generalize fR l (1+D.1) aoC 4 0 ⟨[mM],[],aoD.2⟩=g at *
 have ε:=cJ l (show 0<2 by decide) g.a;generalize aH l 2 g.a=pl at *
 obtain⟨p1,S⟩:=IV l (mc:=1+D.1) Om Om pl.2 (1+pl.1);generalize eY l (1+D.1) pl.2 (1+pl.1)=pols at *
 have ζ:=cJ l (Om:0<aoE+1) pols.2;generalize aH l (aoE+1) pols.2=K at *
 obtain⟨v1,U⟩:=MI l (pc:=1+pl.1) Om K.2 K.1;generalize fW l (1+pl.1) K.2 K.1=vols at *
 have g1:=G.len;have g2:=G.aoW;have R:∀f:aB,f.aoF=g.aoM->sE f=true:=λf hf=>Zz G f hf;have w:∀n:Nat,n<=1000->n<=9223372036854775807:=λn h=>by omega
 have E:∀x∈g.aoW,∃m c:Nat,x.model=m/\m<1+D.1/\x.machine=c/\c<Z' g.aoM/\(lvs g.aoM)[c]?=some 4:=by
  intro x A;obtain⟨i,hi,rfl⟩:=arF A;obtain⟨m,c,-,O,W,X,h5⟩:=G.drv i hi;refine⟨m,c,O,W,X,?_,h5⟩;have:=(aqU.1 h5).1
  rwa[apP]at this
 constructor;unfold cP;rw[R _ rfl];simp only[apT,arY];refine⟨⟨?_,⟨⟨⟨⟨?_,?_⟩,?_⟩,?_⟩,?_⟩⟩,⟨⟨⟨?_,?_⟩,E9 G Om⟩,?_⟩,?_⟩;unfold rN;simp only[apT];exact⟨⟨⟨⟨⟨⟨fX Om Om,aZ Om⟩,aZ Om⟩,aZ Om⟩,aZ Om⟩,aZ Om⟩,aZ Om⟩;exact EV λi hi=>(V i hi).2.1;refine EV λi hi=>?_;obtain⟨-,x,y,z,B,e2,J,L,M,e6,e7,e8⟩:=Z i hi;unfold mR;simp only[apT];rw[B,L,e7,w1];exact⟨⟨fX Om Om,fX Om Om⟩,fX Om Om⟩;rw[aqM];intro x A;obtain⟨m,c,B,e2,J,L,M⟩:=E x A;unfold kP;simp only[apT];rw[B,J,Y,arP,apY,M];exact⟨⟨fX Om Om,fX Om Om⟩,rfl⟩;refine EV λi hi=>?_;rw[Y];exact(S i hi).2.1;refine EV λi hi=>?_;obtain⟨-,p,B,e2⟩:=U i hi;unfold sR;rw[B,p1];exact fX Om Om;refine yY (p:=[108,97,119]) rfl aT aT aT (by rw[apP];omega) λi hi=>?_;rw[arI];exact(V i (by simpa using hi)).1;refine yY (p:=[109]) rfl aT aT aT (by rw[apP];omega) λi hi=>?_;rw[arI];exact(Z i (by simpa using hi)).1;refine yY (p:=[112]) rfl aT aT aT (by rw[apP];omega) λi hi=>?_;rw[arI];exact(S i (by simpa using hi)).1;refine yY (p:=[118]) rfl aT aT aT (by rw[apP];omega) λi hi=>?_;rw[arI];exact(U i (by simpa using hi)).1;refine⟨w aoK.1.length Om,w aoD.1.length Om,w g.aoM.length Om,w g.aoW.length Om,w pols.1.length Om,w vols.1.length Om,?_,?_,?_,?_,?_⟩;intro x A;obtain⟨i,hi,rfl⟩:=arF A;exact(V i hi).2.2;intro x A;obtain⟨i,hi,rfl⟩:=arF A;rcases arZ i with rfl|hp
 have:g.aoM[0]=mM:=by have:=G.root;rw[apZ hi]at this;exact asB.inj this
 rw[this];exact⟨uX.ok,by unfold eK;decide,by unfold eK;decide⟩;obtain⟨k,rfl⟩:∃k,i=k+1:=⟨i-1,by omega⟩;obtain⟨lev,p,u,h1,O,W,X,h5,h6,h7,h8,h9,α,N⟩:=G.dom k hi;have β:k+1<Z' g.aoM:=hi;rw[O,h5];exact⟨N.ok,by unfold eK;omega,by unfold eK;omega⟩;intro x A;obtain⟨m,c,B,e2,J,L,M⟩:=E x A;rw[B,J];unfold eK;omega;intro x A;obtain⟨i,hi,rfl⟩:=arF A;exact(S i hi).2.2;intro x A;obtain⟨i,hi,rfl⟩:=arF A;obtain⟨-,p,B,e2⟩:=U i hi;rw[B];unfold eK;omega
theorem Wy(f:aB)(i:VF f)(v:Nat)(h:v<Z' f.aoE) :
  mr.wp C (aW yi.res (cY (.j (kW f v)))) (g_ [.agg f.cells,.j v]) .nil:=by
 obtain⟨hp,he⟩:=kB i h;have e:=i.aoP _ (apW hp);rw[he]at e;have l:i_.wrap ((bF f v).k+(bF f v).m)=(bF f v).k+(bF f v).m:=wrap_i64 Om Om;simp only[go_sem,mr,yi];refine bE .nil cO a_ ?_;simp only[go_sem,oM h,i.zP h,mJ hp,he];refine aQ λo u=>?_;simp only[go_sem,l];refine⟨a_,?_⟩;exact qR (n:=(bF f v).k+(bF f v).m) Ev rfl
abbrev iiv(l:I_):P2_:=l.map λx=>[PV.int .i64 x]
def Ya(l:N_)(v:PV)(o a:Nat)(f:aB)(r:PV)(H:PH):Prop:=Co r (ints (tR l f a).1)/\H=h_.set o (bD v (tR l f a).2)
theorem US(l:N_){a:Nat}(h:a<=Z' l):∀k,(qH l a k).2<=Z' l/\(qH l a k).1.length=k
 |0=>⟨h,rfl⟩
 |k+1=>by obtain⟨e,i⟩:=US l h k;exact⟨bN l 7 e,by simp only[qH,apV,aqH,i]⟩
def Cj(f:aB)(o:Nat)(w:PV)(i:Nat):PF:=((((n_.set 0 (.ptr o 2 0 0)).set 3 (.aU f.cells)).set 5 (w)).set 6 (.int .i64 i))
theorem Vm(L:IA C){l:N_}{v:PV}(T:Tp l v)(o a:Nat)(f:aB)(Z:Z' f.aoC<=1000)(N:a<=Z' l):ll.wp C (aW yc.res (Ya l v o a f)) (g_ [.ptr o 2 0 0,.agg f.cells]) (h_.set o (bD v a)):=by
 have M:aO (h_.set o (bD v a)) [(o,bD v a)] []:=aO.nil.new (H:=h_) rfl (bD v a);simp only[go_sem,ll,yc];refine eF L T (o:=o) (n:=4) (a:=a) aT N (by simp only[go_sem];rfl) (M.at 0 rfl) ?_;have A:=M.set 0 rfl (bD v (aH l 4 a).2);rw[PH.set_set]at A;have J:=bN l 4 N;have y:tR l f a=if(aH l 4 a).1=0 then([],(aH l 4 a).2)else qH l (aH l 4 a).2 f.aoC.length:=rfl
 have F:∀r H,Ya l v o a f r H↔Co r (ints (tR l f a).1)/\H=h_.set o (bD v (tR l f a).2):=λ_ _=>Iff.rfl;generalize aH l 4 a=t at *
 by_cases O:t.1=0;rw[aE O]at y;simp only[go_sem,cC (Om:(t.1:Int)=0)];refine bK (vs:=[.aG]) (.inr rfl) (h_.set o (bD v t.2)) Sq (c_ a_ (A.at 0 rfl)) ?_;rw[bO,F,y];exact⟨.nil 1,rfl⟩;rw[aC O]at y;have S:=A.oF 1;simp only[go_sem,bJ (Om:(t.1:Int)≠0)];refine wp_loop (α:=T3_) (λs=>Cj f o s.2.1 s.1) (λs=>s.2.2) (λs=>s.1<=Z' f.aoC/\aO s.2.2 [(o,bD v (qH l t.2 s.1).2)] [(s.2.1,1,iiv (qH l t.2 s.1).1)]) (λs=>Z' f.aoC-s.1) (0,.aG,_) ⟨apR _,S⟩ ?_ b_ ?_;unfold Cj;exact Lq;rintro⟨k,w,Y⟩ ⟨U,i⟩;simp only at U i ⊢;obtain⟨V,W⟩:=US l J k;simp only[go_sem,Cj,apP];by_cases hlt:k<Z' f.aoC;have e:(k:Int)<(Z' f.aoC:Nat):=Om;have u:qH l t.2 (k+1)=((qH l t.2 k).1++[((aH l 7 (qH l t.2 k).2).1:Int)-1],(aH l 7 (qH l t.2 k).2).2):=rfl;have hz:=cJ l (show 0<7 by decide) (qH l t.2 k).2;generalize hs:qH l t.2 k=s at *
 have K:i_.wrap (((aH l 7 s.2).1:Int)-1)=((aH l 7 s.2).1:Int)-1:=wrap_i64 Om Om;have D:(1:Nat)*1<=16777216:=by decide
 simp only[go_sem,e];refine eF L T (o:=o) (n:=7) (a:=s.2) aT V (by simp only[go_sem];rfl) (i.at 0 rfl) ?_;have E:=i.set 0 rfl (bD v (aH l 7 s.2).2);simp only[go_sem,K,D];refine E.append 0 (src:=[[PV.int .i64 (((aH l 7 s.2).1:Int)-1)]]) rfl Sq (by unfold roomFor;rw[apP,W];simp only[aqH,maxLen];omega) λX H' R _=>?_;simp only[go_sem,wZz k];refine aF (k+1,X,H') ⟨hlt,?_⟩ sO_ ?_ b_;simp only;rw[u];have:iiv (s.1++[((aH l 7 s.2).1:Int)-1])=iiv s.1++[[PV.int .i64 (((aH l 7 s.2).1:Int)-1)]]:=by simp[iiv]
 rw[this];exact R;exact Lq;have e:¬(k:Int)<(Z' f.aoC:Nat):=Om;have:k=Z' f.aoC:=Om;subst this;rw[<-y]at i;simp only[go_sem,e];rcases i.own 0 rfl with⟨B,rfl⟩|⟨q,rs,rfl,_⟩
 refine bK (vs:=[.aG]) (.inr rfl) (h_.set o (bD v (tR l f a).2)) Sq (c_ a_ (i.at 0 rfl)) ?_;rw[bO,F];refine⟨?_,rfl⟩;unfold ints;rw[show(tR l f a).1.map (λx=>[PV.int .i64 x])=[]from B];exact .nil 1;obtain⟨rs,g1,g2,g3,-,g4⟩:=i.frz 0 rfl;refine rJ (vs:=[.osl q 1 0 (iiv (tR l f a).1).length]) (.inr rfl) Sq (.step g1 (.done (H2:=h_.set o (bD v (tR l f a).2)) ?_ (c_ a_ ?_)));rw[bO,g3,F];exact⟨.refl _,rfl⟩;have:=g4.at 0 rfl;rw[this];simp only[aR.frz,aqQ,arL,T.frz];rfl

theorem exactly{name:Nat}{args:V_}{H H2:PH}{v:PV}(h:aJ C name args H (λr H'=>Co r v/\H'=H2)):aJ C name args H (λr H'=>r=v/\H'=H2):=
 h.post λr H' e=>⟨_,e.1,rfl,e.2⟩
theorem O2(l:N_)(aoC aoE:Nat){a:Nat}(h:a<=Z' l):(iJ l aoC aoE a).2<=Z' l:=by
 have x:=bN l 2 h;have u:=bN l 2 x;obtain⟨i,-⟩:=GU l u (1+(aH l 2 (aH l 2 a).2).1);have w:=bN l 2 i;obtain⟨e,-⟩:=zI l (1+(aH l 2 (aH l 2 a).2).1) w (1+(aH l 2 (jE l (aH l 2 (aH l 2 a).2).2 (1+(aH l 2 (aH l 2 a).2).1)).2).1);obtain⟨y,-⟩:=GN (mc:=1+(aH l 2 (jE l (aH l 2 (aH l 2 a).2).2 (1+(aH l 2 (aH l 2 a).2).1)).2).1) 4 0 (⟨by simp,apR _,e⟩:GOk l aoC ⟨[mM],[],_⟩);exact(KU l _ (bN l (aoE+1) (zQ l _ (bN l 2 y.a) _).1) _).1
structure yO(f:aB)(L:L2_):Prop where
 len:Z' L=Z' f.aoE
 row:∀v (h:v<Z' L),((L[v].length:Nat):Int)=kW f v
 home:∀r∈L,∀x∈r,-1<=x/\x<Z' f.aoC
theorem yO.aiE{f:aB}{L:L2_}(h:yO f L)(hV:VF f):∀k,k<=Z' L->(L.take k).flatten.length<=k*8:=by
 have x:=h.len;intro k
 induction k with
 |zero=>intro _;simp
 |succ k u =>intro i;rw[yC L i,apV];have w:=u Om;have l:=h.row k i;obtain⟨hp,he⟩:=kB hV (Om:k<Z' f.aoE);have e:=hV.aoP _ (apW hp);rw[he]at e;unfold kW at l;omega
theorem yO.ok{f:aB}(hV:VF f){L:L2_}(h:yO f L):iO L:=by
 have i:=hV.small.aoE;have e:=h.len;have:=h.aiE hV L.length (apU _);rw[aqO]at this;exact⟨by omega,by omega⟩

theorem wT{k v:Int}{n:Nat}{p:Nat->Bool}:cB k v n p=[]↔∀i,i<n->p i=false:=by
 unfold cB;rw[List.map_eq_nil_iff,List.filter_eq_nil_iff];constructor;intro h i hi;have:=h i (aqN.2 hi);simpa using this;intro h i hi;rw[h i (aqN.1 hi)];decide
theorem TK{f:aB}{l:L2_}{room:I_}(i:cP f=true)(e:Z' l=Z' f.aoE) :
  dQ f l room=true↔qU f l l.length=[]/\∀d,d<Z' f.aoC->over f l room d=false:=by
 unfold dQ sQ Yu;rw[i,aE rfl,aE e,aqL,dT_,List.length_eq_zero_iff,List.append_eq_nil_iff,wT]
theorem Km{f:aB}{l:L2_}{r1 r2:I_}(x:cP f=true)(w:Z' l=Z' f.aoE)(h:dQ f l r1=true)(B:∀d,d<Z' f.aoC->kJ f r1 d<=kJ f r2 d):dQ f l r2=true:=by
 obtain⟨y,A⟩:=(TK x w).1 h;refine(TK x w).2 ⟨y,λd u=>?_⟩;have i:=A d u;have D:=B d u;have e:∀r,(bM f r).getD d 0=kJ f r d:=λr=>by simp[bM,apY,u]
 unfold over at i ⊢;rw[e]at i ⊢;rw[decide_eq_false_iff_not]at i ⊢;omega
theorem YM{p:Int->Bool}:∀{l:I_}{i:Nat},(∀x∈l,p x=false)->gL p l i=none
 |[],_,_=>rfl
 |y::t,i,h=>by rw[gL,h y aX,aC aT];exact YM λx e=>h x (by simp[e])
theorem yO.shape{f:aB}{L:L2_}(h:yO f L){v:Nat}(i:v<Z' L):sZ f L v=none:=by
 have e:L.getD v []=L[v]:=by simp[apY,i]
 unfold sZ;rw[e,aE (h.row v i),YM];rfl;intro x l;have:=h.home _ (apW i) x l;simp[kZ];omega
section
variable {H:PH} {B:List BX} {L:List LI} {s:Nat} {rows:P2_}
theorem aO.Yi(h:aO H B L){r:PV}{H':PH}(m:pH s rows r H')(l:qS H .nil H'):aO (H.over .nil H') B (L++[(r,s,rows)]):=by
 obtain⟨w,y⟩:=m.over l;have i:=h.oF s;have e:(L++[(PV.aG,s,([]:P2_))]).set L.length (r,s,rows)=L++[(r,s,rows)]:=by rw[asY _ _ (apU _),asA];rfl
 rw[<-e];refine i.JJ L.length (v:=.aG) (s:=s) (rows:=[]) aX w (λq hq=>.inr ?_) λq hq _=>?_;rcases m with⟨-,rfl,-⟩|⟨p,rs,rfl,rfl,-⟩
 cases hq;cases hq;exact l q (.rows s rs) (by rw[bL]) rfl;obtain⟨x,u⟩:=i.MG hq;rw[u];exact y q x u
theorem pH.some(s:Nat)(rows:P2_)(G:PH):∃r H',pH s rows r H'/\qS G .nil H':=by
 obtain⟨o,l⟩:=G.fresh;refine⟨.osl o s 0 rows.length,h_.set o (.rows s rows),.inr ⟨o,rows,rfl,rfl,apU _,aqO⟩,λq x i _=>?_⟩;rw[aM]at i;split at i;rename_i e;rw[e];exact l;cases i
end

section
variable {C:Ctx} {F:PF} {H:PH} {B:List BX} {L:List LI} {args:List aP} {d:O_} {K:K_}
theorem aO.D5(h:aO H B L)(i:Nat){o name:Nat}{x y:aR}{r:PV}{vs:V_}(hi:B[i]?=some (o,x))(l:aJ C name vs (h_.set o x) (λr' H'=>r'=r/\H'=h_.set o y))(e:aP.evs F args=some vs)
  (u:∀H',aO H' (B.set i (o,y)) L->K (F.put d r) H'):jX C name args [] d K F H:=oT l (h.at i hi) e (u _ (h.set i hi y))
theorem aO.SL(h:aO H B L){x:aR}{e:Nat->PV}(i:∀o H',aO H' (B++[(o,x)]) L->K (F.put d (e o)) H'):oN (some (e,x)) d K F H:=aQ λo l=>i o _ (h.new l x)
end
theorem Q1{f:aB}(hV:VF f)(room:I_){d:Nat}(e:d<Z' f.aoC):0<=kJ f room d/\kJ f room d<=ext f d/\1<=ext f d/\ext f d<=16:=by
 obtain⟨i,he⟩:=hV.As e;have:=hV.model _ (apW i);rw[he]at this;unfold kJ;split;omega;omega
end Go.PM
