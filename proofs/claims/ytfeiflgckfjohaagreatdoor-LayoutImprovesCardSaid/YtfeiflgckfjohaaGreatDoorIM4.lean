/-Lemmas for the law. No condition.-/
import Derived.Test.YtfeiflgckfjohaaGreatDoorIM3
import Derived.Lib.SlicesCompact
import Derived.Shelf.Slices.CompactI
import Derived.Shelf.Slices.In.SortNone
set_option linter.unusedSimpArgs false
set_option linter.unusedVariables false
open Nat renaming reduceEqDiff->γ,reduceAdd->δ,reduceSub->ε,reduceMul->ζ,reduceLT->η,reduceLeDiff->θ,reduceBEq->τ
open Int renaming reduceLT->ι,reduceLE->κ,reduceEq->μ,reduceToNat->ν,reduceAdd->ξ,reduceNeg->ο,reduceBEq->ρ,reduceBNe->σ
open List renaming reduceReplicate->υ
open List renaming length_map->asO,range->asP,getElem_mem->asS,replicate->asT,getD_eq_getElem?_getD->asW,length_append->asX,getElem?_eq_getElem->asZ,getElem?_map->atC,length_singleton->atD,length_take->atF,mem_cons->atG,all_eq_true->atI,map_append->atK,take_length->atL,mem_map->atM,take_of_length_le->atP,mem_range->atQ,not_mem_nil->atS,map_cons->atU,append_assoc->atV,take_succ_eq_append_getElem->atW,getElem?_eq_some_iff->atX,length_cons->atZ,append_nil->auA,mem_singleton->auB,mem_append->auC,length_set->auD,getElem?_eq_none->auE,getElem_of_mem->auG,map_nil->auH,getElem_map->auN,getElem?_append_right->auS,getElem?_range->auT,length_drop->auU,range'->auX,take_zero->avA,length_nil->avD,Sublist->avE,drop_eq_getElem_cons->avF,drop_zero->avG,range_succ->avH,ext_getElem->avL,getElem?_append_left->avM,Perm->avN,map_congr_left->avO,map_set->avP,set_append_right->avQ,set_cons_zero->avR,map_map->avT,nodup_append->avU,contains_iff_mem->avX,cons_append->awD,length->awE,filter_append->awH,length_filter_le->awJ,take_append_drop->awK,getElem?_drop->awM,mem_cons_of_mem->awN,mem_filter->awT,flatten_cons->awZ,mem_cons_self->axA,mem_or_eq_of_mem_set->axB,eq_nil_of_length_eq_zero->axE,getElem_cons_zero->axF,map_eq_nil_iff->axG
open Nat renaming zero_le->asQ,gcd->asR,le_refl->asU,zero_add->atA,le_trans->atT,add_zero->auI,mul_add->auJ,sub_self->auK,mul_le_mul_right->auO,eq_zero_or_pos->avB,mul_comm->avC,div_le_self->avI,succ_mul->avS,pow_succ->awL,mul_le_mul->awV,pow_le_pow_right->awW
open Bool renaming and_eq_true->asV,not_true->asY,false_and->atE,not_false->atH,true_and->atJ,and_false->auF,false_eq_true->auQ,and_self->avW,or_eq_true->awY
open Option renaming map_eq_some_iff->atB,map_some->atO,getD_some->auV,bind_eq_some_iff->awX
open Int renaming toNat_natCast->auL
open Array renaming getElem?_eq_some_iff->awB,getElem?_eq_getElem->awR
open List renaming length->Z'
set_option maxRecDepth 100000
set_option maxHeartbeats 800000
open Go.IntKind renaming i64->i_,u64->u_
open Go.PM.PF renaming nil->n_,args->g_
open Go.PM.PH renaming nil->h_
noncomputable section
namespace Go.PM
open Go Go.Na
abbrev qQ(l:L2_):P2_:=l.map λr=>[ints r]
theorem acU(l:L2_):Flat (qQ l):=tB λr i c e=>by
 obtain⟨x,_,rfl⟩:=atM.1 i;rw[auB]at e;subst e;rfl
theorem Wg(l:N_)(arB at_ i:Nat){a:Nat}(h:a<=Z' l):(uK l arB at_ i a).2<=Z' l:=by
 unfold uK;split;exact h;have:=bO l 6 h;simp only;split;exact bO l arB this;split;exact bO l (arB+1) this;exact this
theorem HU(l:N_)(arB at_:Nat){a:Nat}(h:a<=Z' l):∀k,(nK l arB at_ a k).2<=Z' l/\(nK l arB at_ a k).1.length=k
 |0=>⟨h,rfl⟩
 |k+1=>by obtain⟨e,i⟩:=HU l arB at_ h k;exact⟨Wg l arB at_ k e,by simp only[nK,asX,atD,i]⟩
theorem EO(l:N_)(f:aB){a:Nat}(h:a<=Z' l):∀k,(eE l f a k).2<=Z' l/\(eE l f a k).1.length=k
 |0=>⟨h,rfl⟩
 |k+1=>by obtain⟨e,i⟩:=EO l f h k;exact⟨(HU l _ _ (bO l _ e) _).1,by simp only[eE,asX,atD,i]⟩
def Xd(f:aB)(o:Nat)(w:PV)(i:Nat):PF:=((((n_.set 0 (.ptr o 2 0 0)).set 3 (.aU f.cells)).set 5 (w)).set 6 (.int .i64 i))
def lC(f:aB)(o:Nat)(w:PV)(i:Nat)(e:PV)(at_ k:Nat):PF:=(((((((n_.set 0 (.ptr o 2 0 0)).set 3 (.aU f.cells)).set 5 (w)).set 6 (.int .i64 i)).set 7 (e)).set 8 (.int .i64 at_)).set 9 (.int .i64 k))
def Xe:aJ:=(.seq (.region PY) (.seq (.seq (.region PZ) (.cond (.tmp 34) (.seq (.region KT) (.seq (.region KU) (.block 4 (.seq (.region KV) (.cond (.tmp 44) (.region KW) (.seq (.region CG) (.cond (.tmp 51) (.region KX) .skip))))))) .skip)) (.region CH)))
theorem acY:KR=.seq (.seq (.region PX) (.cond (.tmp 28) .skip (.exit 2))) (.seq (.block 3 Xe) (.region KY)):=rfl
variable{C:Ctx}
theorem Xf(R:zH C){l:N_}{v:PV}(T:Tp l v)(o:Nat)(f:aB)(hd:Z' f.arB<=1000)(w M:PV)(i at_ k a:Nat)(α:at_<=2000)(hk:k<=2000)(Y:a<=Z' l)(L:List LI)(U:bP)(F:PF)(H:PH)
  (B:(lC f o w i M at_ k).le F) (S:aN H [(o,aY v a)] L)
  (O:∀u H',(lC f o w i M at_ k).le u->u 10=some (.j (uK l f.arB.length at_ k a).1)->aN H' [(o,aY v (uK l f.arB.length at_ k a).2)] L->aJ.wp C (.region CH) U u H') :
  aJ.wp C Xe U F H:=by
 unfold Xe;have f0:F 0=some (.ptr o 2 0 0):=B 0 _ (by unfold lC;simp only[go_sem]);have y:F 3=some (.aU f.cells):=B 3 _ (by unfold lC;simp only[go_sem]);have N:F 5=some w:=B 5 _ (by unfold lC;simp only[go_sem]);have f6:F 6=some (.j i):=B 6 _ (by unfold lC;simp only[go_sem]);have f7:F 7=some M:=B 7 _ (by unfold lC;simp only[go_sem]);have D:F 8=some (.j at_):=B 8 _ (by unfold lC;simp only[go_sem]);have E:F 9=some (.j k):=B 9 _ (by unfold lC;simp only[go_sem]);have x:∀u:PF,u 0=some (.ptr o 2 0 0)->u 3=some (.aU f.cells)->u 5=some w->u 6=some (.j i)->u 7=some M->u 8=some (.j at_)->u 9=some (.j k)->(lC f o w i M at_ k).le u:=λu a0 a3 a5 a6 a7 a8 a9=>by unfold lC;exact lE7 a0 a3 a5 a6 a7 a8 a9
 have e:uK l f.arB.length at_ k a=if f.arB.length=0 then(-1,a)else if(aI l 6 a).1=0 then(((aI l f.arB.length (aI l 6 a).2).1:Int),(aI l f.arB.length (aI l 6 a).2).2)else if(aI l 6 a).1=1 then(((aI l (Z' f.arB+1) (aI l 6 a).2).1:Int)-1,(aI l (Z' f.arB+1) (aI l 6 a).2).2)else((((at_+k)%f.arB.length:Nat):Int),(aI l 6 a).2):=rfl
 simp only[go_sem,PY,PZ,y,asO];by_cases X:Z' f.arB=0;rw[aF X]at e;have A:¬(Z' f.arB:Int)>0:=Om;simp only[go_sem,A];refine O _ _ (x _ (by simp only[go_sem,f0]) (by simp only[go_sem,y]) (by simp only[go_sem,N]) (by simp only[go_sem,f6]) (by simp only[go_sem,f7]) (by simp only[go_sem,D]) (by simp only[go_sem,E])) ?_ ?_;rw[e];simp only[go_sem];rw[e];exact S;rw[aC X]at e;have A:(Z' f.arB:Int)>0:=Om;have e1:i_.wrap ((at_:Int)+(k:Int))=((at_+k:Nat):Int):=wO_
 have Z:=bO l 6 Y;have β:=cM l (show 0<6 by decide) a;have hz:¬(Z' f.arB:Int)=0:=Om;have em:Int.tmod ((at_+k:Nat):Int) (Z' f.arB:Nat)=(((at_+k)%f.arB.length:Nat):Int):=Int.ofNat_tmod _ _;have e2:i_.wrap ((Z' f.arB:Int)+1)=((Z' f.arB+1:Nat):Int):=fI Om;simp only[go_sem,A,KT,D,E,y,asO,e1,hz,em,KU,f0];refine dM R T (o:=o) (n:=6) (a:=a) aR Y (by simp only[go_sem,f0];rfl) (S.at 0 rfl) ?_;have J:=S.set 0 rfl (aY v (aI l 6 a).2);generalize aI l 6 a=t at *
 simp only[go_sem,KV];by_cases V:t.1=0;rw[aF V]at e;simp only[go_sem,bR (Om:(t.1:Int)=0),KW,f0,y,asO];refine dM R T (o:=o) (n:=Z' f.arB) (a:=t.2) Om Z (by simp only[go_sem,f0]) (J.at 0 rfl) ?_;have K:=J.set 0 rfl (aY v (aI l f.arB.length t.2).2);rw[PH.set_set]at K;simp only[go_sem];refine O _ _ (x _ (by simp only[go_sem,f0]) (by simp only[go_sem,y]) (by simp only[go_sem,N]) (by simp only[go_sem,f6]) (by simp only[go_sem,f7]) (by simp only[go_sem,D]) (by simp only[go_sem,E])) ?_ ?_;rw[e];simp only[go_sem];rw[e];exact K;rw[aC V]at e;by_cases W:t.1=1;rw[aF W]at e;have nd:=cM l (Om:0<Z' f.arB+1) t.2;have e3:i_.wrap (((aI l (Z' f.arB+1) t.2).1:Int)-1)=((aI l (Z' f.arB+1) t.2).1:Int)-1:=wrap_i64 Om Om;simp only[go_sem,bH (Om:(t.1:Int)≠0),CG,bR (Om:(t.1:Int)=1),KX,f0,y,asO,e2];refine dM R T (o:=o) (n:=Z' f.arB+1) (a:=t.2) Om Z (by simp only[go_sem,f0]) (J.at 0 rfl) ?_;have K:=J.set 0 rfl (aY v (aI l (Z' f.arB+1) t.2).2);rw[PH.set_set]at K;simp only[go_sem,e3];refine O _ _ (x _ (by simp only[go_sem,f0]) (by simp only[go_sem,y]) (by simp only[go_sem,N]) (by simp only[go_sem,f6]) (by simp only[go_sem,f7]) (by simp only[go_sem,D]) (by simp only[go_sem,E])) ?_ ?_;rw[e];simp only[go_sem];rw[e];exact K;rw[aC W]at e;simp only[go_sem,bH (Om:(t.1:Int)≠0),CG,bH (Om:(t.1:Int)≠1)];refine O _ _ (x _ (by simp only[go_sem,f0]) (by simp only[go_sem,y]) (by simp only[go_sem,N]) (by simp only[go_sem,f6]) (by simp only[go_sem,f7]) (by simp only[go_sem,D]) (by simp only[go_sem,E])) ?_ ?_;rw[e];simp only[go_sem];rw[e];exact J
theorem acZ(M:zH C){l:N_}{v:PV}(T:Tp l v)(o:Nat)(f:aB)(hd:Z' f.arB<=1000)(i n:Nat)(hn:n<=1000)(J:aH C 82 [.agg f.cells,.j i] .nil (aK (.j n)))(w:PV)(R:P2_)(at_ a:Nat)(β:at_<=1000)(Z:a<=Z' l)(K:bP)(F:PF)(H:PH)
  (X:(lC f o w i .aG at_ 0).le F) (B:aN H [(o,aY v a)] [(w,1,R),(.aG,1,iiv [])])
  (Y:∀A L H',(lC f o w i A at_ n).le L->aN H' [(o,aY v (nK l f.arB.length at_ a n).2)] [(w,1,R),(A,1,iiv (nK l f.arB.length at_ a n).1)]->K (.exit 2) L H') :
  aJ.wp C (.loop KR) K F H:=by
 refine wp_loop (α:=T3_) (λs=>lC f o w i s.2.1 at_ s.1) (λs=>s.2.2) (λs=>s.1<=n/\aN s.2.2 [(o,aY v (nK l f.arB.length at_ a s.1).2)] [(w,1,R),(s.2.1,1,iiv (nK l f.arB.length at_ a s.1).1)]) (λs=>n-s.1) (0,.aG,H) ⟨asQ _,B⟩ X b_ ?_;rintro⟨k,A,H0⟩ ⟨hk,B⟩;simp only at hk B ⊢;obtain⟨k1,k2⟩:=HU l f.arB.length at_ Z k;have y:nK l f.arB.length at_ a (k+1)=((nK l f.arB.length at_ a k).1++[(uK l f.arB.length at_ k (nK l f.arB.length at_ a k).2).1],(uK l f.arB.length at_ k (nK l f.arB.length at_ a k).2).2):=rfl;generalize hs:nK l f.arB.length at_ a k=s at *
 rw[acY];simp only[go_sem,PX,lC];refine aD J Sq ?_;by_cases hlt:k<n;have u:(k:Int)<(n:Nat):=Om;have E:(1:Nat)*1<=16777216:=by decide
 simp only[go_sem,u];refine Xf (C:=C) M T o f hd w A i at_ k s.2 Om Om k1 _ _ _ _ (by unfold lC;exact Lq) B ?_;intro x H1 e D W;have f0:x 0=some (.ptr o 2 0 0):=e 0 _ (by unfold lC;simp only[go_sem]);have N:x 3=some (.aU f.cells):=e 3 _ (by unfold lC;simp only[go_sem]);have O:x 5=some w:=e 5 _ (by unfold lC;simp only[go_sem]);have f6:x 6=some (.j i):=e 6 _ (by unfold lC;simp only[go_sem]);have f7:x 7=some A:=e 7 _ (by unfold lC;simp only[go_sem]);have S:x 8=some (.j at_):=e 8 _ (by unfold lC;simp only[go_sem]);have U:x 9=some (.j k):=e 9 _ (by unfold lC;simp only[go_sem]);simp only[go_sem,CH,f7,D,E];refine W.append 1 (src:=[[PV.int .i64 (uK l f.arB.length at_ k s.2).1]]) rfl Sq (by unfold roomFor;rw[asO,k2];simp only[atD,maxLen];omega) λw' H' V _=>?_;simp only[go_sem,KY,U,wZz k];refine aE (k+1,w',H') ⟨hlt,?_⟩ sO_ ?_ b_;simp only;rw[y];have:iiv (s.1++[(uK l f.arB.length at_ k s.2).1])=iiv s.1++[[PV.int .i64 (uK l f.arB.length at_ k s.2).1]]:=by simp[iiv]
 rw[this];exact V;exact lE5 f0 N O f6 S;have u:¬(k:Int)<(n:Nat):=Om;have:k=n:=Om;subst this;simp only[go_sem,u];refine Y A _ _ ?_ (by rw[hs];exact B);unfold lC;exact Lq
def It(l:N_)(v:PV)(o a:Nat)(f:aB)(r:PV)(H:PH):Prop:=Co r (lay (eE l f a f.arD.length).1)/\H=h_.set o (aY v (eE l f a f.arD.length).2)
theorem Nd(N:zH C){l:N_}{v:PV}(T:Tp l v)(o a:Nat)(f:aB)(hV:VF f)(K:∀i,i<Z' f.arD->aH C 82 [.agg f.cells,.j i] .nil (aK (.j (fX f i))))(ha:a<=Z' l) :
  VG.wp C (aV iF.res (It l v o a f)) (g_ [.ptr o 2 0 0,.agg f.cells]) (h_.set o (aY v a)):=by
 have hd:=hV.small.arB;have γ:=hV.small.arD;have h0:aN (h_.set o (aY v a)) [(o,aY v a)] [(.aG,1,qQ [])]:=(aN.nil.new (H:=h_) rfl (aY v a)).lE 1;have R:∀r H,It l v o a f r H↔Co r (lay (eE l f a f.arD.length).1)/\H=h_.set o (aY v (eE l f a f.arD.length).2):=λ_ _=>Iff.rfl;simp only[go_sem,VG,iF];refine wp_loop (α:=T3_) (λs=>Xd f o s.2.1 s.1) (λs=>s.2.2) (λs=>s.1<=Z' f.arD/\aN s.2.2 [(o,aY v (eE l f a s.1).2)] [(s.2.1,1,qQ (eE l f a s.1).1)]) (λs=>Z' f.arD-s.1) (0,.aG,_) ⟨asQ _,h0⟩ ?_ b_ ?_;unfold Xd;exact Lq;rintro⟨i,w,H0⟩ ⟨hi,y⟩;simp only at hi y ⊢;obtain⟨U,k2⟩:=EO l f ha i;simp only[go_sem,Xd,asO];by_cases hlt:i<Z' f.arD;have u:(i:Int)<(Z' f.arD:Nat):=Om;obtain⟨hp,he⟩:=iN hV hlt;have D:=hV.arO _ (asS hp);rw[he]at D;obtain⟨n,L⟩:∃n:Nat,fX f i=n:=⟨(fX f i).toNat,by unfold fX;omega⟩;have β:1<=n/\n<=8:=by unfold fX at L;omega
 have B:=K i hlt;rw[L]at B;have x:eE l f a (i+1)=((eE l f a i).1++[(nK l f.arB.length (aI l (Z' f.arB+1) (eE l f a i).2).1 (aI l (Z' f.arB+1) (eE l f a i).2).2 (fX f i).toNat).1],(nK l f.arB.length (aI l (Z' f.arB+1) (eE l f a i).2).1 (aI l (Z' f.arB+1) (eE l f a i).2).2 (fX f i).toNat).2):=rfl;rw[L,auL]at x;generalize hs:eE l f a i=s at *
 have e2:i_.wrap ((Z' f.arB:Int)+1)=((Z' f.arB+1:Nat):Int):=fI Om;have δ:=cM l (Om:0<Z' f.arB+1) s.2;have E:=bO l (Z' f.arB+1) U;simp only[go_sem,u,asO,e2];refine dM N T (o:=o) (n:=Z' f.arB+1) (a:=s.2) Om U Sq (y.at 0 rfl) ?_;have h1:=(y.set 0 rfl (aY v (aI l (Z' f.arB+1) s.2).2)).lE 1;generalize aI l (Z' f.arB+1) s.2=t at *
 obtain⟨r1,r2⟩:=HU l f.arB.length t.1 E n;simp only[go_sem];refine acZ (C:=C) N T o f Om i n Om B w (qQ s.1) t.1 t.2 Om E _ _ _ (by unfold lC;exact Lq) h1 ?_;intro w7 A H1 e O;generalize S:nK l f.arB.length t.1 t.2 n=row at *
 obtain⟨q,rfl⟩:=(O.own 1 rfl).one (by rw[asO];omega);have f0:A 0=some (.ptr o 2 0 0):=e 0 _ (by unfold lC;simp only[go_sem]);have f3:A 3=some (.aU f.cells):=e 3 _ (by unfold lC;simp only[go_sem]);have f5:A 5=some w:=e 5 _ (by unfold lC;simp only[go_sem]);have f6:A 6=some (.j i):=e 6 _ (by unfold lC;simp only[go_sem]);have f7:A 7=some (.osl q 1 0 (iiv row.1).length):=e 7 _ (by unfold lC;simp only[go_sem]);have J:(1:Nat)*1<=16777216:=by decide
 simp only[go_sem,f5,f7,J];refine O.append 0 (src:=[[.osl q 1 0 (iiv row.1).length]]) rfl Sq (by unfold roomFor;rw[asO,k2];simp only[atD,maxLen];omega) λw' H' h3 hw=>?_;obtain⟨M,rfl⟩:=hw aZ;obtain⟨rs,z1,z2,z3,z4,z5⟩:=h3.frz 1 rfl;have V:=z4 0 _ aR rfl;simp only at V;have y0:=T.frz q 1 rs;have W:PV.frz q 1 rs (PV.osl M 1 0 (qQ s.1++[[PV.osl q 1 0 (iiv row.1).length]]).length)=PV.osl M 1 0 (qQ s.1++[[PV.osl q 1 0 (iiv row.1).length]]).length:=V;simp only[go_sem,f6,wZz i];refine yU (i+1,PV.osl M 1 0 (qQ s.1++[[PV.osl q 1 0 (iiv row.1).length]]).length,H'.frz q 1 rs) z1 ⟨hlt,?_⟩ sO_ ?_ b_;simp only;rw[x];have Z:([(o,aY v row.2)]:List BX).map (λb=>(b.1,b.2.frz q 1 rs))=[(o,aY v row.2)]:=by show[(o,aS.rows 2 [[PV.cO q 1 rs v,.j row.2]])]=_;rw[y0]
 have X:(qQ s.1++[[PV.osl q 1 0 (iiv row.1).length]]).map (λr=>r.map (PV.cO q 1 rs))=qQ (s.1++[row.1]):=by rw[atK,acU];show qQ s.1++[[PV.cO q 1 rs (.osl q 1 0 (iiv row.1).length)]]=_;rw[z2];simp[qQ]
 rw[<-Z,<-X];exact z5;have Y:(qQ s.1++[[PV.osl q 1 0 (iiv row.1).length]]).length=(qQ s.1++[[PV.osl q 1 0 row.1.length]]).length:=by simp
 rw[Y]at W ⊢;exact lE3 f0 f3 W;have u:¬(i:Int)<(Z' f.arD:Nat):=Om;have:i=Z' f.arD:=Om;subst this;simp only[go_sem,u];rcases y.own 0 rfl with⟨F,rfl⟩|⟨q,rs,rfl,_⟩
 refine bM (vs:=[.aG]) (.inr rfl) (h_.set o (aY v (eE l f a f.arD.length).2)) Sq (d_ a_ (y.at 0 rfl)) ?_;rw[bN,R];refine⟨?_,rfl⟩;unfold lay;rw[show(eE l f a f.arD.length).1.map (λr=>[ints r])=[]from F];exact .nil 1;obtain⟨rs,g1,g2,g3,-,g4⟩:=y.frz 0 rfl;refine pE (vs:=[.osl q 1 0 (qQ (eE l f a f.arD.length).1).length]) (.inr rfl) Sq (.step g1 (.done (H2:=h_.set o (aY v (eE l f a f.arD.length).2)) ?_ (d_ a_ ?_)));rw[bN,g3,R];exact⟨.refl _,rfl⟩;have:=g4.at 0 rfl;rw[this];simp only[aS.frz,atU,auH,T.frz];rfl
theorem exactly{name:Nat}{args:V_}{H H2:PH}{v:PV}(h:aH C name args H (λr H'=>Co r v/\H'=H2)):aH C name args H (λr H'=>r=v/\H'=H2):=
 h.post λr H' e=>⟨_,e.1,rfl,e.2⟩
theorem Q1(l:N_)(arB arD:Nat){a:Nat}(h:a<=Z' l):(jN l arB arD a).2<=Z' l:=by
 have x:=bO l 2 h;have u:=bO l 2 x;obtain⟨i,-⟩:=PB l u (1+(aI l 2 (aI l 2 a).2).1);have w:=bO l 2 i;obtain⟨e,-⟩:=FA l (1+(aI l 2 (aI l 2 a).2).1) w (1+(aI l 2 (jR l (aI l 2 (aI l 2 a).2).2 (1+(aI l 2 (aI l 2 a).2).1)).2).1);obtain⟨y,-⟩:=ON (mc:=1+(aI l 2 (jR l (aI l 2 (aI l 2 a).2).2 (1+(aI l 2 (aI l 2 a).2).1)).2).1) 4 0 (⟨by simp,asQ _,e⟩:GOk l arB ⟨[pV],[],_⟩);exact(LS l _ (bO l (arD+1) (AI l _ (bO l 2 y.a) _).1) _).1
theorem Wf(l:N_)(arB at_ i a:Nat):-1<=(uK l arB at_ i a).1/\(uK l arB at_ i a).1<arB:=by
 unfold uK;split;simp only;omega;rename_i h;have e:=cM l (Om:0<arB) (aI l 6 a).2;have u:=cM l (Om:0<arB+1) (aI l 6 a).2;have w:=Nat.mod_lt (at_+i) (Om:0<arB);simp only;split;simp only;omega;split;simp only;omega;simp only;omega
theorem Do(l:N_)(arB at_ a:Nat):∀k,∀x∈(nK l arB at_ a k).1,-1<=x/\x<arB
 |0,x,h=>by cases h
 |k+1,x,h=>by
  rcases auC.1 h with h|h
  exact Do l arB at_ a k x h;rw[auB]at h;subst h;exact Wf l arB at_ k _
structure BB(f:aB)(L:L2_):Prop where
 len:Z' L=Z' f.arD
 row:∀v (h:v<Z' L),((L[v].length:Nat):Int)=fX f v
 home:∀r∈L,∀x∈r,-1<=x/\x<Z' f.arB
theorem vu(l:N_){f:aB}(hV:VF f){a:Nat}(A:a<=Z' l):∀k,k<=Z' f.arD->(eE l f a k).1.length=k/\(∀v (h:v<(eE l f a k).1.length),(((eE l f a k).1[v].length:Nat):Int)=fX f v)/\∀r∈(eE l f a k).1,∀x∈r,-1<=x/\x<Z' f.arB
 |0,_=>⟨rfl,λv h=>absurd h (by simp[eE]),λr h=>by cases h⟩
 |k+1,K=>by
  obtain⟨y,D,E⟩:=vu l hV A k Om;obtain⟨hp,he⟩:=iN hV (Om:k<Z' f.arD);have i:=hV.arO _ (asS hp);rw[he]at i;have F:((fX f k).toNat:Int)=fX f k:=by unfold fX;omega
  have u:=(EO l f A k).1;have J:=(HU l f.arB.length (aI l (Z' f.arB+1) (eE l f a k).2).1 (bO l (Z' f.arB+1) u) (fX f k).toNat).2;have hi:=Do l f.arB.length (aI l (Z' f.arB+1) (eE l f a k).2).1 (aI l (Z' f.arB+1) (eE l f a k).2).2 (fX f k).toNat;have e:(eE l f a (k+1)).1=(eE l f a k).1++[(nK l f.arB.length (aI l (Z' f.arB+1) (eE l f a k).2).1 (aI l (Z' f.arB+1) (eE l f a k).2).2 (fX f k).toNat).1]:=rfl;rw[e];generalize(nK l f.arB.length (aI l (Z' f.arB+1) (eE l f a k).2).1 (aI l (Z' f.arB+1) (eE l f a k).2).2 (fX f k).toNat).1=row at *
  generalize(eE l f a k).1=L at *
  refine⟨by simp[y],λv h=>?_,λr h=>?_⟩;by_cases B:v<Z' L;rw[List.getElem_append_left B];exact D v B;have w:v=k:=by simp at h;omega
  subst w;rw[List.getElem_append_right Om];simp only[y,auK,axF];rw[J,F];rcases auC.1 h with h|h
  exact E r h;rw[auB]at h;subst h;exact hi
theorem BB.akY{f:aB}{L:L2_}(h:BB f L)(hV:VF f):∀k,k<=Z' L->(L.take k).flatten.length<=k*8:=by
 have x:=h.len;intro k
 induction k with
 |zero=>intro _;simp
 |succ k u =>intro i;rw[yR L i,asX];have w:=u Om;have l:=h.row k i;obtain⟨hp,he⟩:=iN hV (Om:k<Z' f.arD);have e:=hV.arO _ (asS hp);rw[he]at e;unfold fX at l;omega
theorem BB.ok{f:aB}(hV:VF f){L:L2_}(h:BB f L):iD L:=by
 have i:=hV.small.arD;have e:=h.len;have:=h.akY hV L.length (asU _);rw[atL]at this;exact⟨by omega,by omega⟩

theorem xG{k v:Int}{n:Nat}{p:Nat->Bool}:cF k v n p=[]↔∀i,i<n->p i=false:=by
 unfold cF;rw[axG,List.filter_eq_nil_iff];constructor;intro h i hi;have:=h i (atQ.2 hi);simpa using this;intro h i hi;rw[h i (atQ.1 hi)];decide
theorem Ra{f:aB}{l:L2_}{room:I_}(i:cI f=true)(e:Z' l=Z' f.arD) :
  eU f l room=true↔rJ f l l.length=[]/\∀d,d<Z' f.arB->over f l room d=false:=by
 unfold eU tI aaP;rw[i,aF rfl,aF e,atJ,dT_,List.length_eq_zero_iff,List.append_eq_nil_iff,xG]
theorem ZX{p:Int->Bool}:∀{l:I_}{i:Nat},(∀x∈l,p x=false)->gS p l i=none
 |[],_,_=>rfl
 |y::t,i,h=>by rw[gS,h y aZ,aC aR];exact ZX λx e=>h x (by simp[e])
theorem BB.shape{f:aB}{L:L2_}(h:BB f L){v:Nat}(i:v<Z' L):tT f L v=none:=by
 have e:L.getD v []=L[v]:=by simp[asW,i]
 unfold tT;rw[e,aF (h.row v i),ZX];rfl;intro x l;have:=h.home _ (asS i) x l;simp[kY];omega
section
variable {H:PH} {B:List BX} {L:List LI} {s:Nat} {rows:P2_}
theorem aN.aaD(h:aN H B L){r:PV}{H':PH}(m:pQ s rows r H')(l:rG H .nil H'):aN (H.over .nil H') B (L++[(r,s,rows)]):=by
 obtain⟨w,y⟩:=m.over l;have i:=h.lE s;have e:(L++[(PV.aG,s,([]:P2_))]).set L.length (r,s,rows)=L++[(r,s,rows)]:=by rw[avQ _ _ (asU _),auK];rfl
 rw[<-e];refine i.JX L.length (v:=.aG) (s:=s) (rows:=[]) aZ w (λq hq=>.inr ?_) λq hq _=>?_;rcases m with⟨-,rfl,-⟩|⟨p,rs,rfl,rfl,-⟩
 cases hq;cases hq;exact l q (.rows s rs) (by rw[bK]) rfl;obtain⟨x,u⟩:=i.NF hq;rw[u];exact y q x u
theorem pQ.some(s:Nat)(rows:P2_)(G:PH):∃r H',pQ s rows r H'/\rG G .nil H':=by
 obtain⟨o,l⟩:=G.fresh;refine⟨.osl o s 0 rows.length,h_.set o (.rows s rows),.inr ⟨o,rows,rfl,rfl,asU _,atL⟩,λq x i _=>?_⟩;rw[aO]at i;split at i;rename_i e;rw[e];exact l;cases i
end

section
variable {C:Ctx} {F:PF} {H:PH} {B:List BX} {L:List LI} {args:List aP} {d:O_} {K:K_}
theorem aN.jk(h:aN H B L)(i:Nat){o name:Nat}{x y:aS}{r:PV}{vs:V_}(hi:B[i]?=some (o,x))(l:aH C name vs (h_.set o x) (λr' H'=>r'=r/\H'=h_.set o y))(e:aP.evs F args=some vs)
  (u:∀H',aN H' (B.set i (o,y)) L->K (F.put d r) H'):jX C name args [] d K F H:=pB l (h.at i hi) e (u _ (h.set i hi y))
theorem aN.TS(h:aN H B L){x:aS}{e:Nat->PV}(i:∀o H',aN H' (B++[(o,x)]) L->K (F.put d (e o)) H'):oU (some (e,x)) d K F H:=aQ λo l=>i o _ (h.new l x)
end
theorem S4{f:aB}(hV:VF f)(room:I_){d:Nat}(e:d<Z' f.arB):0<=nF f room d/\nF f room d<=ext f d/\1<=ext f d/\ext f d<=16:=by
 obtain⟨i,he⟩:=hV.Cl e;have:=hV.model _ (asS i);rw[he]at this;unfold nF;split;omega;omega
def eM(g:Nat->Nat):Nat->Nat
 |0=>0
 |n+1=>eM g n+g n
theorem IN(g h:Nat->Nat):∀n,eM (λk=>g k+h k) n=eM g n+eM h n
 |0=>rfl
 |n+1=>by rw[eM,eM,eM,IN g h n];omega
theorem GM{g h:Nat->Nat}:∀{n:Nat},(∀k,k<n->g k<=h k)->eM g n<=eM h n
 |0,_=>asU _
 |n+1,e=>by rw[eM,eM];exact Nat.add_le_add (GM λk i=>e k Om) (e n Om)
theorem AS{g h:Nat->Nat}:∀{n:Nat},(∀k,k<n->g k=h k)->eM g n=eM h n
 |0,_=>rfl
 |n+1,e=>by rw[eM,eM,AS (n:=n) λk i=>e k Om,e n Om]
theorem x9:∀n,eM (λ_=>0) n=0
 |0=>rfl
 |n+1=>by rw[eM,x9 n]
theorem WS(g:Nat->Nat->Nat)(n:Nat):∀m,eM (λv=>eM (g v) n) m=eM (λd=>eM (λv=>g v d) m) n
 |0=>by rw[eM];exact(x9 n).symm
 |m+1=>by rw[eM,WS g n m,<-IN];rfl
theorem Ke{g:Nat->Nat}:∀{n k:Nat},k<n->g k<=eM g n
 |0,_,h=>by omega
 |n+1,k,h=>by rw[eM];by_cases e:k=n;subst e;omega;have:=Ke (g:=g) (n:=n) (k:=k) Om;omega
theorem jf(c:Nat)(g:Nat->Nat):∀n,eM (λk=>c*g k) n=c*eM g n
 |0=>rfl
 |n+1=>by rw[eM,eM,jf c g n,auJ]
def one(b:Bool):Nat:=if b=true then 1 else 0
theorem YS:one true=1:=rfl
theorem Aj:one false=0:=rfl
def KN(p:Nat->Bool)(n:Nat):Nat:=eM (λk=>one (p k)) n
def iA(f:aB)(v i:Nat):Nat:=if i=0 then 2+v else 2+Z' f.arD+v*(Z' f.arE-1)+i-1
def fG(f:aB)(d:Nat):Nat:=2+Z' f.arD*Z' f.arE+d
def lK(f:aB)(v:Nat):Nat:=(fX f v).toNat
def QB(f:aB)(v i:Nat):Nat:=if dU f (bF f v) i=0 then lK f v else(dU f (bF f v) i).toNat
def oz(f:aB)(room:I_)(d:Nat):Nat:=(nF f room d).toNat
def okD(f:aB)(v d:Nat):Bool:=pF f (bF f v) d
def DR(f:aB)(v k:Nat):dR:=⟨iA f v (tA f (k+1)),iA f v (k+1),QB f v (k+1)⟩
def pK(f:aB)(v d:Nat):dR:=⟨iA f v (cP f d),fG f d,1⟩
def qB(f:aB)(v:Nat):List dR:=⟨0,2+v,lK f v⟩::((asP (Z' f.arE-1)).map (DR f v)++((asP f.arB.length).filter (okD f v)).map (pK f v))
def JS(f:aB)(room:I_)(d:Nat):dR:=⟨fG f d,1,oz f room d⟩
def mE(f:aB)(room:I_):List dR:=(asP f.arD.length).flatMap (qB f)++(asP f.arB.length).map (JS f room)
def lD(f:aB)(room:I_):dL:=⟨fG f f.arB.length,0,1,mE f room⟩
def Bt(f:aB):Nat:=eM (lK f) f.arD.length
theorem AX{f:aB}(h:VF f){v:Nat}(l:v<Z' f.arD):lK f v<=8/\1<=lK f v/\(lK f v:Int)=fX f v/\∀i,QB f v i<=8:=by
 obtain⟨hp,he⟩:=iN h l;have e:=h.arO _ (asS hp);rw[he]at e;have u:fX f v=(bF f v).k+(bF f v).m:=rfl;unfold QB lK;refine⟨by omega,by omega,by omega,λi=>?_⟩;have:=e.2.2.2.2.2.2.1 (lvl f i).toNat;unfold dU;split<;>omega
theorem o9{f:aB}(h:VF f)(room:I_){d:Nat}(e:d<Z' f.arB):oz f room d<=16/\(oz f room d:Int)=nF f room d:=by
 have:=S4 h room e;unfold oz;omega
theorem FZ{f:aB}(h:VF f){v i:Nat}(l:v<Z' f.arD)(hi:i<Z' f.arE):2<=iA f v i/\iA f v i<fG f 0:=by
 have w:=h.root.1;have e:(v+1)*(Z' f.arE-1)<=Z' f.arD*(Z' f.arE-1):=auO _ l;rw[avS]at e;have u:Z' f.arD*Z' f.arE=Z' f.arD*(Z' f.arE-1)+Z' f.arD:=by
  conv=>lhs;rw[show f.arE.length=(Z' f.arE-1)+1 by omega,Nat.mul_succ]
 unfold iA fG;split<;>omega
theorem Gn(f:aB)(v:Nat):(qB f v).length<=Z' f.arE+Z' f.arB+1:=by
 unfold qB;rw[atZ,asX,asO,asO,List.length_range];have:=awJ (okD f v) (asP f.arB.length);rw[List.length_range]at this;omega
theorem Xj(f:aB)(room:I_):(mE f room).length<=Z' f.arD*(Z' f.arE+Z' f.arB+1)+Z' f.arB:=by
 unfold mE;rw[asX,asO,List.length_range];have e:∀n,((asP n).flatMap (qB f)).length<=n*(Z' f.arE+Z' f.arB+1):=by
  intro n
  induction n with
  |zero=>simp
  |succ n i =>rw[avH,List.flatMap_append,asX,avS];have:=Gn f n;simp only[List.flatMap_cons,List.flatMap_nil,auA];omega
 have:=e f.arD.length;omega
theorem Rz{f:aB}(h:VF f)(room:I_):lH (lD f room):=by
 obtain⟨s1,s2,s3,s4,K,L⟩:=h.small;have E:fG f f.arB.length=fG f 0+Z' f.arB:=by unfold fG;omega
 have J:Z' f.arD*Z' f.arE<=12*40:=awV Om Om;have B:=h.root.1;have hb:fG f 0=2+Z' f.arD*Z' f.arE:=rfl;refine⟨?_,?_,?_,?_,?_,(show(0:Nat)≠1 by decide),λa ha=>?_⟩;show 2<=fG f f.arB.length;omega;show fG f f.arB.length<=700;omega;refine atT (Xj f room) ?_;have:Z' f.arD*(Z' f.arE+Z' f.arB+1)<=12*(40+24+1):=awV Om Om;omega;show 0<fG f f.arB.length;omega;show 1<fG f f.arB.length;omega;show a.src<fG f f.arB.length/\a.dst<fG f f.arB.length/\a.cap<=2147483647;have w:∀d,d<Z' f.arB->fG f d<fG f f.arB.length:=λd w=>by unfold fG;omega
 rcases auC.1 (show a∈mE f room from ha)with ha|ha
 obtain⟨v,u,ha⟩:=List.mem_flatMap.1 ha;have u:=atQ.1 u;obtain⟨b1,b2,D,y⟩:=AX h u;rcases atG.1 ha with rfl|ha
 have:=(FZ h u B).2;simp only[iA,if_true]at this;simp only;exact⟨by omega,by omega,by omega⟩;rcases auC.1 ha with ha|ha
 obtain⟨k,x,rfl⟩:=atM.1 ha;have x:=atQ.1 x;have hp:=(h.dom (k+1) Om Om).2.1;have A:=(FZ h u (i:=tA f (k+1)) Om).2;have F:=(FZ h u (i:=k+1) Om).2;have:=y (k+1);simp only[DR];exact⟨by omega,by omega,by omega⟩;obtain⟨d,l,rfl⟩:=atM.1 ha;have e:=atQ.1 (awT.1 l).1;have A:=(FZ h u (i:=cP f d) (h.drive d e).2.2.2.1).2;have:=w d e;simp only[pK];exact⟨by omega,this,by omega⟩;obtain⟨d,l,rfl⟩:=atM.1 ha;have e:=atQ.1 l;have:=w d e;have:=o9 h room e;simp only[JS];exact⟨by omega,by omega,by omega⟩
def inD(f:aB)(i d:Nat):Bool:=decide (dC f d (lvl f i)=i)
structure XY(f:aB)(room:I_)(u:Nat->Nat->Bool):Prop where
 num:∀v,v<Z' f.arD->KN (u v) f.arB.length=lK f v
 ok:∀v d,v<Z' f.arD->d<Z' f.arB->u v d=true->okD f v d=true
 bound:∀v i,v<Z' f.arD->0<i->i<Z' f.arE->dU f (bF f v) i≠0->KN (λd=>u v d&&inD f i d) f.arB.length<=(dU f (bF f v) i).toNat
 room:∀d,d<Z' f.arB->KN (λv=>u v d) f.arD.length<=oz f room d
theorem uA(S:Nat->Bool):∀l m:List dR,mD S (l++m)=mD S l+mD S m
 |[],m=>by simp[mD]
 |a::l,m=>by rw[awD,mD,mD,uA S l m];omega
def pI(S:Nat->Bool)(a:dR):Nat:=if S a.src=true/\S a.dst=false then a.cap else 0
theorem da(S:Nat->Bool)(F:Nat->dR):∀n,mD S ((asP n).map F)=eM (λk=>pI S (F k)) n
 |0=>rfl
 |n+1=>by rw[avH,atK,uA,da S F n,eM];rfl
theorem uy(S:Nat->Bool)(F:Nat->List dR):∀n,mD S ((asP n).flatMap F)=eM (λk=>mD S (F k)) n
 |0=>rfl
 |n+1=>by rw[avH,List.flatMap_append,uA,uy S F n,eM];simp
theorem ZO(S:Nat->Bool)(F:Nat->dR)(p:Nat->Bool):∀n,mD S (((asP n).filter p).map F)=eM (λk=>if p k=true then pI S (F k)else 0) n
 |0=>rfl
 |n+1=>by rw[avH,awH,atK,uA,ZO S F p n,eM];cases h:p n<;>simp[h,mD,pI]
theorem Nk(a b:Bool)(h:a=true->b=true):one a<=one b:=by
 cases a<;>cases b<;>simp_all [one]
theorem Qd{f:aB}(h:VF f){d:Nat}(x:d<Z' f.arB)(S:Nat->Bool)(D:Nat->Nat)(w:S (D 0)=true):∀k,k<=4->S (D (upN f k (cP f d)))=false->∃i,0<i/\i<Z' f.arE/\inD f i d=true/\S (D (tA f i))=true/\S (D i)=false:=by
 have top:upN f 4 (cP f d)=0:=by
  obtain⟨a,b⟩:=AU h x (k:=4) (asU _);rcases avB (upN f 4 (cP f d))with e|e
  exact e;have:=(h.dom _ e a).2.2.2.1;omega
 intro k y l;obtain⟨m,B⟩:∃m,m=4-k:=⟨_,rfl⟩
 induction m generalizing k with
 |zero =>have:k=4:=Om;subst this;rw[top,w]at l;cases l
 |succ m A=>
  cases hp:S (D (upN f (k+1) (cP f d)))with
  |false=>exact A (k+1) Om hp Om
  |true=>
   obtain⟨a,b⟩:=AU h x y;have u:0<upN f k (cP f d):=by
    rcases avB (upN f k (cP f d))with e|e
    rw[e,w]at l;cases l;exact e
   refine⟨upN f k (cP f d),u,a,?_,hp,l⟩;unfold inD dC;rw[b,dT_];congr 1;omega
theorem XY.vol{f:aB}(h:VF f){room:I_}{u:Nat->Nat->Bool}(A:XY f room u)(S:Nat->Bool)(L:S 0=true){v:Nat}(D:v<Z' f.arD) :
  lK f v<=mD S (qB f v)+eM (λd=>one (u v d)*one (S (fG f d))) f.arB.length:=by
 have N:mD S (qB f v)=pI S ⟨0,2+v,lK f v⟩+(eM (λk=>pI S (DR f v k)) (Z' f.arE-1)+eM (λd=>if okD f v d=true then pI S (pK f v d)else 0) f.arB.length):=by unfold qB;rw[mD,uA,da,ZO];rfl
 rw[N];cases K:S (2+v)with
 |false=>
  have:pI S ⟨0,2+v,lK f v⟩=lK f v:=by unfold pI;simp[L,K]
  omega
 |true=>
  have l:S (iA f v 0)=true:=K;have each:∀d,d<Z' f.arB->one (u v d)<=one (u v d)*one (S (fG f d))+((if okD f v d=true then pI S (pK f v d)else 0)+eM (λk=>one (u v d&&inD f (k+1) d)*one (S (iA f v (tA f (k+1)))&&!S (iA f v (k+1)))) (Z' f.arE-1)):=by
   intro d F;cases R:u v d with
   |false=>exact asQ _
   |true=>
    have B:=A.ok v d D F R;cases M:S (fG f d)with
    |true=>rw[YS];omega
    |false=>
     cases E:S (iA f v (cP f d))with
     |true=>
      have:pI S (pK f v d)=1:=by unfold pI pK;simp[M,E]
      rw[aF B,this,YS,Aj];omega
     |false =>obtain⟨i,X,Y,U,V,W⟩:=Qd h F S (iA f v) l 0 Om E;have J:=Ke (g:=λk=>one (true&&inD f (k+1) d)*one (S (iA f v (tA f (k+1)))&&!S (iA f v (k+1)))) (n:=Z' f.arE-1) (k:=i-1) Om;simp only[show i-1+1=i by omega,U,V,W,YS,avW,atH]at J;rw[YS,Aj];omega
  have w:=A.num v D;have x:=GM (n:=Z' f.arB) each;rw[IN,IN,WS]at x;have y:eM (λk=>eM (λd=>one (u v d&&inD f (k+1) d)*one (S (iA f v (tA f (k+1)))&&!S (iA f v (k+1)))) f.arB.length) (Z' f.arE-1)<=eM (λk=>pI S (DR f v k)) (Z' f.arE-1):=by
   refine GM λk J=>?_;have e:eM (λd=>one (u v d&&inD f (k+1) d)*one (S (iA f v (tA f (k+1)))&&!S (iA f v (k+1)))) f.arB.length=one (S (iA f v (tA f (k+1)))&&!S (iA f v (k+1)))*KN (λd=>u v d&&inD f (k+1) d) f.arB.length:=by unfold KN;rw[<-jf];exact AS λd _=>avC _ _
   rw[e];unfold pI DR;simp only;cases g1:S (iA f v (tA f (k+1)))<;>cases g2:S (iA f v (k+1))<;>simp only[YS,Aj,auF,atE,atH,asY,avW,auQ,if_false,if_true,Nat.zero_mul,Nat.one_mul,and_false,false_and,and_self,asU,asQ,reduceCtorEq];unfold QB;split;have:KN (λd=>u v d&&inD f (k+1) d) f.arB.length<=KN (u v) f.arB.length:=GM λd _=>Nk _ _ λh=>by rw[asV]at h;exact h.1
   omega;rename_i O;exact A.bound v (k+1) D Om Om O
  unfold KN at w;omega
theorem XY.cut{f:aB}(h:VF f){room:I_}{u:Nat->Nat->Bool}(A:XY f room u)(S:Nat->Bool)(l:S 0=true)(w:S 1=false):Bt f<=mD S (mE f room):=by
 unfold mE;rw[uA,uy,da];have i:Bt f<=eM (λv=>mD S (qB f v)+eM (λd=>one (u v d)*one (S (fG f d))) f.arB.length) f.arD.length:=GM λv y=>A.vol h S l y;rw[IN,WS]at i;have e2:eM (λd=>eM (λv=>one (u v d)*one (S (fG f d))) f.arD.length) f.arB.length<=eM (λk=>pI S (JS f room k)) f.arB.length:=by
  refine GM λd x=>?_;have e:eM (λv=>one (u v d)*one (S (fG f d))) f.arD.length=one (S (fG f d))*KN (λv=>u v d) f.arD.length:=by unfold KN;rw[<-jf];exact AS λv _=>avC _ _
  rw[e];have:=A.room d x;unfold pI JS;simp only[w];cases S (fG f d)with
  |false=>simp[Aj]
  |true=>simp[YS];exact this
 omega



theorem Kj{f:aB}{p:bX}{v:Nat}{row:I_}:tW f p v row=[]↔(∀i,i<Z' row->0<=row.getD i 0)/\(∀d,d<Z' f.arB->row.count (d:Int)<=1)/\(∀i,i<Z' row->0<=row.getD i 0->p.arC.contains ((mdl f (row.getD i 0).toNat:Nat):Int)=true)/\∀i,i<Z' f.arE->dU f p i>0->fO f row i<=dU f p i:=by
 have e:∀d,d<Z' f.arB->(fN f.arB.length row).getD d 0=(row.count (d:Int):Nat):=λd h=>by simp[fN,asW,h]
 have l:∀i,i<Z' f.arE->(fC f row).getD i 0=fO f row i:=λi h=>by simp[fC,asW,h]
 unfold tW;rw[List.append_eq_nil_iff,List.append_eq_nil_iff,List.append_eq_nil_iff,xG,xG,xG,xG,and_assoc,and_assoc];refine and_congr ?_ (and_congr ?_ (and_congr ?_ ?_));refine forall_congr' λi=>forall_congr' λhi=>?_;unfold home;rw[decide_eq_false_iff_not];omega;refine forall_congr' λd=>forall_congr' λu=>?_;unfold lS;rw[e d u,decide_eq_false_iff_not];omega;refine forall_congr' λi=>forall_congr' λhi=>?_;unfold dV;by_cases c:0<=row.getD i 0<;>simp[c];refine forall_congr' λi=>forall_congr' λhi=>?_;unfold nJ;rw[l i hi,Bool.and_eq_false_iff,decide_eq_false_iff_not,decide_eq_false_iff_not];omega
theorem IR{f:aB}(i:cI f=true){l:L2_}(u:BB f l)(room:I_):eU f l room=true↔(∀v (h:v<Z' l),tW f (bF f v) v l[v]=[])/\∀d,d<Z' f.arB->((l.flatten.count (d:Int):Nat):Int)<=nF f room d:=by
 rw[Ra i u.len];refine and_congr ?_ ?_;unfold rJ;rw[List.flatMap_eq_nil_iff];constructor;intro h v i;have:=h v (atQ.2 i);unfold vH at this;rw[u.shape i]at this;have e:l.getD v []=l[v]:=by simp[asW,i]
 rw[e]at this;exact this;intro h v A;have i:=atQ.1 A;unfold vH;rw[u.shape i];have e:l.getD v []=l[v]:=by simp[asW,i]
 simp only;rw[e];exact h v i;refine forall_congr' λd=>forall_congr' λw=>?_;have x:(cD f l).getD d 0=(l.flatten.count (d:Int):Nat):=by simp[cD,fN,asW,w]
 have y:(bA f room).getD d 0=nF f room d:=by simp[bA,asW,w]
 unfold over;rw[x,y,decide_eq_false_iff_not];omega
theorem count_flatten(d:Int):∀l:L2_,l.flatten.count d=eM (λv=>(l.getD v []).count d) l.length:=by
 intro l;obtain⟨r,rfl⟩:∃r,l=List.reverse r:=⟨l.reverse,by simp⟩
 induction r with
 |nil=>rfl
 |cons x r i =>rw[List.reverse_cons,List.flatten_append,List.count_append,i,asX,atD,eM];congr 1;refine AS λv e=>?_;rw[asW,asW,avM e];rw[asW,auS (asU _)];simp
def apF(f:aB)(u:Nat->Nat->Bool)(v:Nat):I_:=cA ((asP f.arB.length).filter (u v))
def aoM(f:aB)(u:Nat->Nat->Bool):L2_:=(asP f.arD.length).map (apF f u)
def nP:=bT [3,4] Proofs.Tryz.f144
def c9:aJ:=(dH (aA nP 14) 57 4 (aA nP 19) (sq (aA nP 15) (sq (aA nP 16) (sq (aA nP 17) (.cond (Tm 88) (sq (aA nP 18) .ret) .skip)))))
def HE:aJ:=(iE (aA nP 9) 37 2 (aA nP 20) (sq (aA nP 10) (kK (aA nP 11) 49 (aA nP 12) (cS (aA nP 13) 4 c9))))
def ux:aJ:=(sq (aA nP 0) (sq (aA nP 1) (.seq (cS (aA nP 2) 0 (iE (aA nP 3) 23 0 (aA nP 6) (sq (aA nP 4) (.region (aA nP 5))))) (sq (aA nP 7) (.seq (cS (aA nP 8) 2 HE) (sq (aA nP 21) .ret))))))
def kw:=bT [2] Proofs.Tryz.f97
def ZQ:=cG kw
def call17:=bT [2] Proofs.Tryz.f62
def ZM:=cG call17
def gO:=bT [2,23,24,50,90] Proofs.Tryz.f56
def EE:aJ:=(.seq (sq (aA gO 21) (.cond (Tm 70) .skip (.exit 6))) (.block 7 (.region (aA gO 22))))
def ZS:aJ:=(sq (aA gO 0) (sq (aA gO 1) (jJ (aA gO 2) 14 (.seq (cS (aA gO 3) 0 (iE (aA gO 4) 19 0 (aA gO 7) (sq (aA gO 5) (.region (aA gO 6))))) (sq (aA gO 8) .ret)) (sq (aA gO 9) (.seq (cS (aA gO 10) 2 (iE (aA gO 11) 36 2 (aA gO 16) (sq (aA gO 12) (sq (aA gO 13) (.cond (Tm 43) (sq (aA gO 14) (.region (aA gO 15))) .skip))))) (.seq (cS (aA gO 17) 4 (iE (aA gO 18) 57 4 (aA gO 23) (sq (aA gO 19) (sq (aA gO 20) (.seq (.block 6 (.loop EE)) (dq (dZ gO 0) (.draw (dZ gO 1)))))))) (sq (aA gO 24) .ret)))))))
def YG:=bT [] Proofs.Tryz.f57
def TV:=cG YG
def mR:=bT [] Proofs.Tryz.f22
def CV:aJ:=(.seq (sq (aA mR 9) (.cond (Tm 37) .skip (.exit 4))) (.block 5 (.region (aA mR 10))))
def IW:aJ:=(iE (aA mR 7) 23 2 (aA mR 13) (sq (aA mR 8) (.seq (.block 4 (.loop CV)) (sq (aA mR 11) (.cond (Tm 51) (.region (aA mR 12)) .skip)))))
def ky:aJ:=(sq (aA mR 0) (sq (aA mR 1) (.seq (cS (aA mR 2) 0 (iE (aA mR 3) 17 0 (aA mR 16) (sq (aA mR 4) (sq (aA mR 5) (.seq (cS (aA mR 6) 2 IW) (sq (aA mR 14) (.cond (Tm 57) (.region (aA mR 15)) .skip))))))) (sq (aA mR 17) .ret))))
def zp:=bT [] Proofs.Tryz.f58
def lg:=cG zp
def kQ:=bT [] Proofs.Tryz.f93
def UD:aJ:=(iE (aA kQ 3) 16 0 (aA kQ 6) (sq (aA kQ 4) (.region (aA kQ 5))))
def UE:=aA kQ 7
def UF:=aA kQ 8
def zP:=dZ kQ 0
def NV:=aA kQ 9
def EF:aJ:=(.seq (dq zP (.cond (Tm 42) .skip (.exit 4))) (.block 5 (.region NV)))
def EH:=aA kQ 10
def NW:=aA kQ 11
def NX:=aA kQ 12
def EI:=aA kQ 13
def NY:=aA kQ 14
def NZ:=aA kQ 15
def EG:aJ:=(dH EI 57 6 NZ (.region NY))
def lh:aJ:=(.seq (sq UE (.cond (Tm 26) .skip (.exit 2))) (.block 3 (sq UF (.seq (.block 4 (.loop EF)) (jJ EH 46 .ret (sq NW (cS NX 6 EG)))))))
def ZT:aJ:=(jJ (aA kQ 0) 10 .ret (sq (aA kQ 1) (.seq (cS (aA kQ 2) 0 UD) (.block 2 (.loop lh)))))
def zr:=bT [] Proofs.Tryz.f10
def ll:=cG zr
theorem D7(a b:N_):cA (a++b)=cA a++cA b:=atK
theorem gT(a:N_):(cA a).length=Z' a:=asO _
theorem BN{a:N_}{i:Nat}(h:i<Z' a):(aM (cA a))[i]?=some [PV.int .i64 (a[i]:Nat)]:=by
 unfold aM cA;rw[atC,atC,asZ h];rfl
theorem gm(a:N_)(i x:Nat):(aM (cA a)).set i [PV.int .i64 (x:Nat)]=aM (cA (a.set i x)):=by
 unfold aM cA;rw[avP,avP]
theorem Ts{top n:Nat}(h:top<n):dQ top n 0=[]:=by
 cases n with
 |zero=>omega
 |succ n =>rw[dQ,show top-n-0=0 by omega];rfl
theorem sN.head{n:Nat}{s:N_}{l:List N_}(h:sN n s l):∃r,l=s::r:=by
 cases h with
 |last=>exact⟨_,rfl⟩
 |step=>exact⟨_,rfl⟩
def uJ(n i:Nat):N_:=auX 0 i++asT (n-i) 0
theorem Mc(n:Nat):uJ n 0=asT n 0:=by unfold uJ;simp
theorem Qx{n i:Nat}(h:i<=n):(uJ n i).length=n:=by unfold uJ;simp;omega
theorem Mb(n:Nat):uJ n n=auX 0 n:=by unfold uJ;simp
theorem Qy{n i:Nat}(h:i<n):(uJ n i).set i i=uJ n (i+1):=by
 unfold uJ;obtain⟨m,e⟩:∃m,n-i=m+1:=⟨n-i-1,by omega⟩;rw[e,List.replicate_succ,avQ _ _ aZ,List.length_range',auK,avR,show n-(i+1)=m by omega,List.range'_concat];simp
def onU(s:N_)(j y m:Nat):N_:=s.take j++auX y (m-j)++s.drop m
theorem Jy{s:N_}{j y m:Nat}(e:j<=m)(i:m<=Z' s):(onU s j y m).length=Z' s:=by
 unfold onU;simp;omega
theorem adK{s:N_}{j y:Nat}(h:j<Z' s):s.set j y=onU s j y (j+1):=by
 unfold onU;rw[List.set_eq_take_append_cons_drop,aF h,show j+1-j=1 by omega];simp
theorem Xn{s:N_}{j y m:Nat}(l:j<m)(i:m<=Z' s):∃h,(onU s j y m)[m-1]'h=y+(m-1-j):=by
 refine⟨by rw[Jy Om i];omega,?_⟩;unfold onU;have e:(s.take j).length=j:=by rw[atF];omega
 rw[List.getElem_append_left (by simp;omega),List.getElem_append_right Om];simp[e]
theorem adL{s:N_}{j y m:Nat}(l:j<=m)(i:m<Z' s):(onU s j y m).set m (y+(m-j))=onU s j y (m+1):=by
 unfold onU;have e:(s.take j++auX y (m-j)).length=m:=by simp;omega
 rw[avQ _ _ Om,e,auK,avF i,avR,show m+1-j=(m-j)+1 by omega,List.range'_concat];simp
theorem Xm{s:N_}{j y:Nat}:onU s j y s.length=s.take j++auX y (Z' s-j):=by
 unfold onU;simp
theorem abD{K:bP}[Up K]{n o1 o2 q:Nat}{y:PV}{F:PF}{H:PH}(J:n<=1000)(hq:H q=some (.rows 1 (aM (cA (uJ n 0)))))(A:(((((((n_.set 0 (y)).set 1 (.ptr o1 1 0 0)).set 2 (.ptr o2 1 0 0)).set 4 (.osl q 1 0 n)).set 14 (.j n)).set 15 (.j 0))).le F)
  (B:K (.exit 0) (((((n_.set 0 (y)).set 1 (.ptr o1 1 0 0)).set 2 (.ptr o2 1 0 0)).set 4 (.osl q 1 0 n))) (H.set q (.rows 1 (aM (cA (auX 0 n)))))):aJ.wp C (.loop UD) K F H:=by
 refine wp_loop (α:=Nat × PH) (λs=>((((((n_.set 0 (y)).set 1 (.ptr o1 1 0 0)).set 2 (.ptr o2 1 0 0)).set 4 (.osl q 1 0 n)).set 14 (.j n)).set 15 (.j s.1))) (λs=>s.2) (λs=>s.1<=n/\s.2=H.set q (.rows 1 (aM (cA (uJ n s.1))))) (λs=>n-s.1) (0,H) ⟨asQ _,?_⟩ A b_ ?_;refine PH.ext λo=>?_;show H o=(H.set q _) o;rw[aO];split;rename_i e;rw[e,hq];rfl;rintro⟨i,D⟩ ⟨hi,x⟩;simp only at hi x;subst x;simp only[go_sem,UD];by_cases hlt:i<n;have l:(i:Int)<(n:Nat):=Om;have E:=Qx hi;have u:=BN (a:=uJ n i) (i:=i) Om;have w:i<(aM (cA (uJ n i))).length:=by rw[bV,gT];omega
 simp only[go_sem,l,u,w,atA,gm,Qy hlt,wZz i];exact aE (i+1,_) ⟨hlt,rfl⟩ sO_ Lq b_;have l:¬(i:Int)<(n:Nat):=Om;have:i=n:=Om;subst this;rw[Mb];simp only[go_sem,l];exact Up.up Lq B
def cyF(y:PV)(o1 o2 q n:Nat):PF:=((((n_.set 0 (y)).set 1 (.ptr o1 1 0 0)).set 2 (.ptr o2 1 0 0)).set 4 (.osl q 1 0 n))
theorem Qi{K:bP}[Up K]{n top o1 o2 q:Nat}{y:PV}{s:N_}(V:Z' s=n)(U:n<=1000)(W:top<=1000)(O:n<=top){F:PF}{H:PH}(b1:H o1=some (.rows 1 [[.j n]]))(b2:H o2=some (.rows 1 [[.j top]]))(hq:H q=some (.rows 1 (aM (cA s))))
  (N:((cyF y o1 o2 q n).set 6 (.j ((n:Int)-1))).le F)
  (D:∀m,m<=n->(∀i (h:i<Z' s),m<=i->s[i]+n=top+i)->(0<m->∀(h:m-1<Z' s),s[m-1]+n≠top+(m-1))->K (.exit 4) ((cyF y o1 o2 q n).set 6 (.j ((m:Int)-1))) H):aJ.wp C (.loop EF) K F H:=by
 refine wp_loop (α:=Nat) (λm=>(cyF y o1 o2 q n).set 6 (.j ((m:Int)-1))) (λ_=>H) (λm=>m<=n/\∀i (h:i<Z' s),m<=i->s[i]+n=top+i) (λm=>m) n ⟨asU _,λi h S=>by omega⟩ N b_ ?_;rintro m ⟨E,l⟩;rw[show EF=(.seq (.seq (.draw zP) (.cond (.tmp 42) .skip (.exit 4))) (.block 5 (.region NV)))from rfl];simp only[go_sem];refine bE .nil cR a_ ?_;by_cases M:m=0;subst M;simp only[go_sem,zP,cyF,show ¬((0:Nat):Int)-1>=0 by omega];refine Up.up ?_ (D 0 E l (λh=>by omega));unfold cyF;exact Lq;obtain⟨k,rfl⟩:∃k,m=k+1:=⟨m-1,by omega⟩;have A:(((k+1:Nat):Int)-1)=(k:Int):=Om;have B:k<Z' s:=Om;have w:=BN B;have x:k<(aM (cA s)).length:=by rw[bV,gT];omega
 have J:i_.wrap ((top:Int)-(n:Int))=(top:Int)-n:=wrap_i64 Om Om;have L:i_.wrap ((top:Int)-(n:Int)+(k:Int))=(top:Int)-n+k:=wrap_i64 Om Om;have u:(k:Int)<(n:Nat):=Om;by_cases c:s[k]+n=top+k;simp only[go_sem,zP,cyF,A,show(k:Int)>=0 by omega,hq,w,x,u,b1,b2,atA,J,L,bR (Om:((s[k]:Nat):Int)=(top:Int)-n+k),NV];have R:i_.wrap ((k:Int)-1)=(k:Int)-1:=wrap_i64 Om Om;refine aE k ⟨by omega,λi h hi=>?_⟩ Om (lE1 R) b_;by_cases e:i=k;subst e;exact c;exact l i h Om;simp only[go_sem,zP,cyF,A,show(k:Int)>=0 by omega,hq,w,x,u,b1,b2,atA,J,L,bH (Om:((s[k]:Nat):Int)≠(top:Int)-n+k)];refine Up.up ?_ (D (k+1) E l (λ_ h=>c));unfold cyF;exact lE1 A
theorem abE{K:bP}[Up K]{n o1 o2 q j x:Nat}{y:PV}{s:N_}(U:Z' s=n)(Z:n<=1000)(hx:x<=1000000)(S:j<n){F:PF}{H:PH}(b1:H o1=some (.rows 1 [[.j n]]))(M:¬o1=q)(hq:H q=some (.rows 1 (aM (cA (onU s j x (j+1))))))
  (O:((cyF y o1 o2 q n).set 7 (.j (j+1:Nat))).le F)
  (R:K (.exit 6) (cyF y o1 o2 q n) (H.set q (.rows 1 (aM (cA (s.take j++auX x (n-j))))))):aJ.wp C (.loop EG) K F H:=by
 refine wp_loop (α:=Nat × PH) (λm=>(cyF y o1 o2 q n).set 7 (.j m.1)) (λm=>m.2) (λm=>j+1<=m.1/\m.1<=n/\m.2=H.set q (.rows 1 (aM (cA (onU s j x m.1))))) (λm=>n-m.1) (j+1,H) ⟨asU _,S,?_⟩ O b_ ?_;refine PH.ext λo=>?_;show H o=(H.set q _) o;rw[aO];split;rename_i e;rw[e,hq];rfl;rintro⟨m,X⟩ ⟨E,J,N⟩;simp only at E J N;subst N;have B:¬q=o1:=λe=>M e.symm;rw[show EG=(.seq (.seq (.region EI) (.cond (.tmp 57) .skip (.exit 6))) (.seq (.block 7 (.region NY)) (.region NZ)))from rfl];by_cases hlt:m<n;have i:(m:Int)<(n:Nat):=Om;obtain⟨hp,he⟩:=Xn (s:=s) (j:=j) (y:=x) (m:=m) Om Om;have l:=BN hp;rw[he]at l;have Y:=Jy (s:=s) (j:=j) (y:=x) (m:=m) Om Om;have D:m-1<(aM (cA (onU s j x m))).length:=by rw[bV,gT];omega
 have w:m<(aM (cA (onU s j x m))).length:=by rw[bV,gT];omega
 have u:(aM (cA (onU s j x m)))[m]?=some [PV.int .i64 ((onU s j x m)[m]'Om:Nat)]:=BN Om;have V:i_.wrap ((m:Int)-1)=((m-1:Nat):Int):=wO_
 have W:i_.wrap (((x+(m-1-j):Nat):Int)+1)=((x+(m-j):Nat):Int):=wO_
 have A:((m-1:Nat):Int)<(n:Nat):=Om;have L:=adL (s:=s) (j:=j) (y:=x) (m:=m) Om Om;simp only[go_sem,EI,cyF,b1,M,B,i,NY,V,A,l,D,atA,W,u,w,gm,L,NZ,wZz m];refine aE (m+1,_) ⟨by simp only;omega,hlt,rfl⟩ sO_ Lq b_;have i:¬(m:Int)<(n:Nat):=Om;have:m=n:=Om;subst this;have e:=Xm (s:=s) (j:=j) (y:=x);rw[U]at e;rw[e];simp only[go_sem,EI,cyF,b1,M,B,i];refine Up.up ?_ R;unfold cyF;exact Lq
theorem sN.done{n:Nat}{s:N_}{l:List N_}(h:sN n s l)(i:rL n s=none):l=[s]:=by
 cases h with
 |last=>rfl
 |step e=>rw[i]at e;cases e
theorem sN.next{n:Nat}{s t:N_}{l:List N_}(h:sN n s l)(i:rL n s=some t):∃r,l=s::r/\sN n t r:=by
 cases h with
 |last e=>rw[i]at e;cases e
 |step e w=>rw[i]at e;cases e;exact⟨_,rfl,w⟩
structure Uz(J:Nat->PH->Prop)(ss:List N_)(top n o1 o2 q k:Nat)(s:N_)(G H:PH):Prop where
 lt:k<Z' ss
 walk:sN top s (ss.drop k)
 len:Z' s=n
 rng:∀x∈s,x<top
 j:J k G
 le:G.le H
 g1:G o1=none
 g2:G o2=none
 gq:G q=none
 b1:H o1=some (.rows 1 [[.int .i64 n]])
 b2:H o2=some (.rows 1 [[.int .i64 top]])
 bq:H q=some (.rows 1 (aM (cA s)))
theorem B6{l o1 o2 n top:Nat}(J:Nat->PH->Prop)(u:List N_)(R:u=dQ top n 0)(h1:1<=n)(hn:n<=1000)(ht:top<=1000)
  (hY:∀k (hk:k<Z' u) G c,J k G->G c=none->MC C l [.osl c 1 0 n] (G.set c (.rows 1 (aM (cA u[k])))) (λr H'=>r=.bool true/\J (k+1) H'))
  {M H:PH} (V:J 0 M) (w:M.le H) (b1:H o1=some (.rows 1 [[.j n]])) (b2:H o2=some (.rows 1 [[.j top]])) (g1:M o1=none) (g2:M o2=none) :
  ZT.wp C (aV kQ.res (λ_ H'=>∃G,J u.length G/\G.le H')) (g_ [DQ l,.ptr o1 1 0 0,.ptr o2 1 0 0]) H:=by
 simp only[go_sem,ZT,kQ,b1,b2];by_cases c:n>top;have:u=[]:=by rw[R];exact Ts c
 subst this;simp only[go_sem,show(n:Int)>(top:Nat) by omega];exact bM (vs:=[]) (.inr rfl) M rfl w ⟨M,V,b_⟩;simp only[go_sem,show ¬(n:Int)>(top:Nat) by omega,b1,show(0:Int)<=n by omega,Int.le_refl,show(n:Int)*((8:Nat):Int)<=140737488355328 by omega,show(n:Int)<=9223372036854775807 by omega,auL];refine aQ λq hq=>?_;obtain⟨a1,τ⟩:¬o1=q/\¬q=o1:=⟨(λe=>by rw[e,hq]at b1;cases b1),λe=>by rw[<-e,hq]at b1;cases b1⟩;obtain⟨a2,υ⟩:¬o2=q/\¬q=o2:=⟨(λe=>by rw[e,hq]at b2;cases b2),λe=>by rw[<-e,hq]at b2;cases b2⟩;have ez:asT n [PV.int .i64 0]=aM (cA (uJ n 0)):=by rw[Mc];unfold aM cA;rw[List.map_replicate,List.map_replicate];rfl
 rw[ez];simp only[go_sem];refine abD (n:=n) (o1:=o1) (o2:=o2) (q:=q) (y:=DQ l) hn (by rw[bK]) Lq ?_;rw[PH.set_set];have Y:M q=none:=by
  cases h:M q with
  |none=>rfl
  |some x=>rw[w q x h]at hq;cases hq
 have hw:=XP top n 0 Om;rw[<-R]at hw;obtain⟨r0,δ⟩:=hw.head;have N:=tF top n 0;rw[<-R]at N;simp only[go_sem];refine wp_loop (α:=Nat × N_ × PH × PH) (λ_=>cyF (DQ l) o1 o2 q n) (λx=>x.2.2.2) (λx=>Uz J u top n o1 o2 q x.1 x.2.1 x.2.2.1 x.2.2.2) (λx=>Z' u-x.1) (0,auX 0 n,M,H.set q (.rows 1 (aM (cA (auX 0 n))))) ?_ (by unfold cyF;exact Lq) b_ ?_;exact⟨(by simp only;rw[δ];simp),hw,List.length_range',(λx hx=>by rw[List.mem_range'_1]at hx;omega),V,PH.le_trans w (PH.UV _ hq),g1,g2,Y,(by simp only;rw[aO,aC a1];exact b1),(by simp only;rw[aO,aC a2];exact b2),(by simp only;rw[bK])⟩;clear b1 b2 g1 g2 Y hq w V hw δ ez;rintro⟨k,s,G,H⟩ A;have A:Uz J u top n o1 o2 q k s G H:=A;obtain⟨hlt,U,D,ε,V,w,g1,g2,gq,b1,b2,bq⟩:=A;have E:u.drop k=u[k]::u.drop (k+1):=avF hlt;have ρ:u[k]=s:=by obtain⟨r,K⟩:=U.head;rw[E]at K;injection K
 have S:dG H 1 (.osl q 1 0 n)=some (aM (cA s)):=by
  have:=(show bC H 1 (.osl q 1 0 (aM (cA s)).length) (aM (cA s))from .inr ⟨q,_,rfl,bq,asU _,atL⟩).view
  rwa[bV,gT,D]at this
 rw[show lh=(.seq (.seq (.region UE) (.cond (.tmp 26) .skip (.exit 2))) (.block 3 (.seq (.region UF) (.seq (.block 4 (.loop EF)) (.seq (.seq (.region EH) (.cond (.tmp 46) .ret .skip)) (.seq (.region NW) (.seq (.region NX) (.block 6 (.loop EG)))))))))from rfl];simp only[go_sem,UE,cyF];refine pP S (by unfold roomFor;rw[bV,gT];simp only[maxLen];omega) (λh=>?_) λ_ c hc=>?_;have:=congrArg awE h;rw[bV,gT,D]at this;simp at this;omega;rw[bV,gT,D];have η:G c=none:=by
  cases h:G c with
  |none=>rfl
  |some x=>rw[w c x h]at hc;cases hc
 have hy:=hY k hlt G c V η;rw[ρ]at hy;have ne:∀{b:Nat}{x:aS},H b=some x->¬b=c:=λhb e=>by rw[e,hc]at hb;cases hb
 refine⟨l,rfl,.inl ⟨_,G.set c (.rows 1 (aM (cA s))),_,Ev,?_,hy,?_⟩⟩;intro o x L;rw[aO]at L ⊢;split at L;rename_i e;rw[aF e];exact L;rename_i e;rw[aC e];exact w o x L;rintro _ H' ⟨rfl,W⟩ θ;have keep:∀{b:Nat}{x:aS},H b=some x->G b=none->H' b=none/\((H.set c (.rows 1 (aM (cA s)))).over (G.set c (.rows 1 (aM (cA s)))) H') b=some x:=λ{b}{x} hb hg=>by
  have e:=ne hb;have h':H' b=none:=by
   cases h:H' b with
   |none=>rfl
   |some y =>have:=θ b y h (by rw[aO,aC e];exact hg);rw[aO,aC e,hb]at this;cases this
  refine⟨h',?_⟩;rw[iM,h'];simp only[aO,aC e,hg,hb]
 obtain⟨k1,d1⟩:=keep b1 g1;obtain⟨k2,d2⟩:=keep b2 g2;obtain⟨kq,dq⟩:=keep bq gq;have O:H'.le ((H.set c (.rows 1 (aM (cA s)))).over (G.set c (.rows 1 (aM (cA s)))) H'):=λo x L=>by rw[iM,L]
 generalize(H.set c (.rows 1 (aM (cA s)))).over (G.set c (.rows 1 (aM (cA s)))) H'=H2 at *
 have w1:i_.wrap ((n:Int)-1)=(n:Int)-1:=wrap_i64 Om Om;simp only[go_sem,UF,d1,w1];refine Qi (n:=n) (top:=top) (o1:=o1) (o2:=o2) (q:=q) (y:=DQ l) (s:=s) D hn ht Om d1 d2 dq (by unfold cyF;exact Lq) λm hm F Z=>?_;by_cases m0:m=0;subst m0;have ξ:rL top s=none:=QD λi hi=>by have:=F i hi (asQ _);omega
 have X:k+1=Z' u:=by have:=congrArg awE (U.done ξ);rw[auU,atD]at this;omega
 simp only[go_sem,cyF,EH,show((0:Nat):Int)-1<0 by omega];exact bM (vs:=[]) (.inr rfl) H' rfl O ⟨H',by rw[<-X];exact W,b_⟩;obtain⟨j,rfl⟩:∃j,m=j+1:=⟨m-1,by omega⟩;have B:j<Z' s:=Om;have ν:(j:Int)<(n:Nat):=Om;have e0:(((j+1:Nat):Int)-1)=(j:Int):=Om;have β:=Ec (n:=top) (s:=s) j B (λi hi μ=>by have:=F i hi μ;omega) (by have:=Z (Nat.succ_pos _) B;simp only[Nat.add_sub_cancel]at this;omega);rw[D]at β;have φ:=ε s[j] (asS B);have ι:=BN B;have κ:j<(aM (cA s)).length:=by rw[bV,gT];exact B
 have w2:i_.wrap (((s[j]:Nat):Int)+1)=((s[j]+1:Nat):Int):=fI Om;have γ:=adK (s:=s) (j:=j) (y:=s[j]+1) B;simp only[go_sem,cyF,EH,e0,show ¬(j:Int)<0 by omega,NW,dq,ι,κ,ν,atA,w2,gm,γ,NX,wZz j];refine abE (n:=n) (o1:=o1) (o2:=o2) (q:=q) (j:=j) (x:=s[j]+1) (y:=DQ l) (s:=s) D hn Om Om (by rw[aO,aC a1];exact d1) a1 (by rw[bK]) (by unfold cyF;exact Lq) ?_;rw[PH.set_set];have arY:k+1<Z' u/\sN top (s.take j++auX (s[j]+1) (n-j)) (u.drop (k+1)):=by
  obtain⟨r,K,ζ⟩:=U.next β;rw[E]at K;injection K with _ K
  rw[K];refine⟨?_,ζ⟩;obtain⟨r2,ο⟩:=ζ.head;have:=congrArg awE K;rw[ο,auU,atZ]at this;omega
 have σ:Uz J u top n o1 o2 q (k+1) (s.take j++auX (s[j]+1) (n-j)) H' (H2.set q (.rows 1 (aM (cA (s.take j++auX (s[j]+1) (n-j)))))):={
     lt:=arY.1
     walk:=arY.2
     len:=by simp;omega
     rng:=λx hx=>by
      have h2:=N (u[k+1]'arY.1) (asS _);have h3:u[k+1]'arY.1=s.take j++auX (s[j]+1) (n-j):=by obtain⟨r,K⟩:=arY.2.head;rw[avF arY.1]at K;injection K
      rw[h3]at h2;exact(h2.2.1 x hx).2
     j:=W
     le:=λo x L=>by
      have:¬o=q:=λe=>by rw[e,kq]at L;cases L
      rw[aO,aC this];exact O o x L
     g1:=k1,g2:=k2,gq:=kq
     b1:=by rw[aO,aC a1];exact d1
     b2:=by rw[aO,aC a2];exact d2
     bq:=by rw[bK] }
 simp only[go_sem,cyF];exact aE (k+1,s.take j++auX (s[j]+1) (n-j),H',H2.set q (.rows 1 (aM (cA (s.take j++auX (s[j]+1) (n-j)))))) σ sO_ Lq b_
def qA(f:aB)(p:bX)(xs:I_)(i:Nat):Bool:=!(decide (dU f p i>0)&&decide (fO f xs i>dU f p i))
theorem AP(f:aB)(p:bX)(xs:I_):jI f p xs=(asP f.arE.length).all (qA f p xs):=rfl
theorem Ql(f:aB)(xs ys:I_)(i:Nat):fO f xs i<=fO f (xs++ys) i:=by
 unfold fO;rw[List.countP_append];split<;>omega
theorem R8{f:aB}{p:bX}{xs ys:I_}{i:Nat}(h:qA f p xs i=false):qA f p (xs++ys) i=false:=by
 have:=Ql f xs ys i;unfold qA at h ⊢;simp only[Bool.not_eq_false',asV,dT_]at h ⊢;omega
theorem RH{f:aB}{p:bX}{xs:I_}{i:Nat}(hi:i<Z' f.arE)(h:qA f p xs i=false):jI f p xs=false:=by
 rw[AP];simp only[List.all_eq_false,atQ];exact⟨i,hi,by rw[h];simp⟩
theorem Fw{f:aB}{p:bX}{xs ys:I_}(h:jI f p xs=false):jI f p (xs++ys)=false:=by
 rw[AP]at h;simp only[List.all_eq_false,atQ]at h;obtain⟨i,hi,h⟩:=h;exact RH hi (R8 (by simpa using h))
theorem Ig(f:aB)(p:bX):jI f p []=true:=by
 rw[AP];simp only[atI,atQ];intro i _;unfold qA fO;simp;omega
theorem p5{f:aB}(hV:VF f){p:bX}{xs:I_}(h:∀i,i<Z' f.arE->0<lvl f i->qA f p xs i=true):jI f p xs=true:=by
 rw[AP];simp only[atI,atQ];intro i hi;have l:=hV.kE hi;by_cases e:i=0;unfold qA fO;rw[aF e];simp;omega;exact h i hi Om
theorem adI{f:aB}{p:bX}{xs:I_}(h:jI f p xs=true){i:Nat}(hi:i<Z' f.arE):qA f p xs i=true:=by
 rw[AP]at h;exact atI.1 h i (atQ.2 hi)
theorem x5(p:bX)(t:V_){n:Nat}(h:n<5):(if 1<=(List.drop n (PV.int .i64 p.s0::PV.int .i64 p.s1::PV.int .i64 p.s2::PV.int .i64 p.s3::PV.int .i64 p.s4::t)).length then some (List.take 1 (List.drop n (PV.int .i64 p.s0::PV.int .i64 p.s1::PV.int .i64 p.s2::PV.int .i64 p.s3::PV.int .i64 p.s4::t)))else none)=some [PV.int .i64 (p.spread n)]:=by
 have:n=0\/n=1\/n=2\/n=3\/n=4:=Om;rcases this with rfl|rfl|rfl|rfl|rfl<;>simp[bX.spread]
def NQ(f:aB)(p:bX)(e oD:Nat)(set:I_)(k:Nat):PF:=(((((((n_.set 3 (.aU f.cells)).set 4 (.aU p.cells)).set 7 (.osl e 1 0 f.arC.length)).set 10 (.osl oD 1 0 f.arE.length)).set 34 (ints set)).set 35 (.int .i64 (Z' set:Nat))).set 36 (.int .i64 k))
def Lj(f:aB)(p:bX)(e oD:Nat)(set:I_)(k:Nat)(at_:Nat):PF:=((((((((n_.set 3 (.aU f.cells)).set 4 (.aU p.cells)).set 7 (.osl e 1 0 f.arC.length)).set 10 (.osl oD 1 0 f.arE.length)).set 34 (ints set)).set 35 (.int .i64 (Z' set:Nat))).set 36 (.int .i64 k)).set 13 (.int .i64 at_))
theorem abB{K:bP}[Up K](f:aB)(hV:VF f)(p:bX)(oA oD:Nat)(set:I_)(k:Nat)(xs:I_)(ζ:Z' xs<=16777216)(β:jI f p xs=true)(d:Nat)(hd:d<Z' f.arB){F:PF}{H:PH}
  (hF:(Lj f p oA oD set k (cP f d)).le F) (hD:H oD=some (.rows 1 (aM (fC f xs))))
  (hR:∀F' H',F' 6=some (.bool false)->jI f p (xs++[(d:Int)])=false->K .ret F' H')
  (hK:jI f p (xs++[(d:Int)])=true->K (.exit 4) (NQ f p oA oD set k) (H.set oD (.rows 1 (aM (fC f (xs++[(d:Int)])))))) :
  aJ.wp C (.loop c9) K F H:=by
 refine wp_loop (α:=Nat × PH) (λt=>Lj f p oA oD set k (upN f t.1 (cP f d))) (λt=>t.2) (λt=>t.1<=4/\t.2=H.set oD (.rows 1 (aM (pJ f xs d t.1)))/\∀i,i<Z' f.arE->4-(t.1:Int)<lvl f i->qA f p (xs++[(d:Int)]) i=true) (λt=>4-t.1) (0,H) ⟨asQ _,?_,?_⟩ (by rw[upN];exact hF) b_ ?_;rw[u6 hV];refine PH.ext λo=>?_;show H o=(H.set oD _) o;rw[aO];split;rename_i e;rw[e,hD];rfl;intro i hi hl;have:=(hV.kE hi).2.1;simp only at hl;omega;rintro⟨j,H0⟩ ⟨hj,hH,w⟩;simp only at hj hH w;subst hH;obtain⟨x,U⟩:=AU hV hd (k:=j) hj;simp only[go_sem,c9,Lj];by_cases hlt:j<4;have Z:0<upN f j (cP f d):=by
  rcases avB (upN f j (cP f d))with e|e
  rw[e,hV.root.2.1]at U;omega;exact e
 have V:((upN f j (cP f d):Nat):Int)>0:=Om;obtain⟨b1,b2⟩:=I9 hV xs hd hlt;have L:(aM (pJ f xs d j))[upN f j (cP f d)]?=some [.j (fO f xs (upN f j (cP f d)))]:=by unfold aM;rw[atC,b1];rfl
 have δ:=I8 f xs (upN f j (cP f d));have hw:i_.wrap (fO f xs (upN f j (cP f d))+1)=fO f xs (upN f j (cP f d))+1:=wrap_i64 Om Om;have y:((upN f j (cP f d):Nat):Int)<(Z' f.arE:Nat):=Om;have X:upN f j (cP f d)<(aM (pJ f xs d j)).length:=by rw[bV,Vq];exact x
 have O:fO f (xs++[(d:Int)]) (upN f j (cP f d))=fO f xs (upN f j (cP f d))+1:=by rw[IX f xs d Om,dC,U,show 4-(4-(j:Int)).toNat=j by omega,aF rfl]
 have l:qA f p (xs++[(d:Int)]) (upN f j (cP f d))=!(decide (dU f p (upN f j (cP f d))>0)&&decide (fO f xs (upN f j (cP f d))+1>dU f p (upN f j (cP f d)))):=by rw[qA,O]
 have arY:qA f p (xs++[(d:Int)]) (upN f j (cP f d))=true->∀i,i<Z' f.arE->4-((j+1:Nat):Int)<lvl f i->qA f p (xs++[(d:Int)]) i=true:=by
  intro h i hi hl;by_cases e:i=upN f j (cP f d);rw[e];exact h;by_cases c:4-(j:Int)<lvl f i;exact w i hi c;have N:lvl f i=4-(j:Int):=Om;have W:i≠0:=by intro e;subst e;rw[hV.root.2.1]at N;omega
  have E:fO f (xs++[(d:Int)]) i=fO f xs i:=by rw[IX f xs d W,dC,N,show 4-(4-(j:Int)).toNat=j by omega,aC (λh=>e h.symm)];simp
  have:=adI β hi;unfold qA at this ⊢;rw[E];exact this
 have M:qA f p (xs++[(d:Int)]) (upN f j (cP f d))=false->jI f p (xs++[(d:Int)])=false:=RH x;have Y:dU f p (upN f j (cP f d))=p.spread (4-(j:Int)).toNat:=by rw[dU,U]
 rw[Y]at l;have γ:=L;have D:(aM (pJ f xs d j)).set (upN f j (cP f d)) [.j (fO f xs (upN f j (cP f d))+1)]=aM (pJ f xs d (j+1)):=by rw[iI,b2]
 have A:(aM (pJ f xs d (j+1)))[upN f j (cP f d)]?=some [.j (fO f xs (upN f j (cP f d))+1)]:=by rw[<-D,List.getElem?_set_self X]
 have R:upN f (j+1) (cP f d)=tA f (upN f j (cP f d)):=rfl;have B:=hV.MY Z x;generalize ε:upN f j (cP f d)=u at *
 generalize fO f xs u=dc at *
 have l0:(0:Int)<=4-(j:Int):=Om;have h5:4-(j:Int)<((5:Nat):Int):=Om;simp only[go_sem,V,y,atA,L,hw,D,fP x,tO x,U,l0,h5,Nat.mul_one];rw[x5 p _ (Om:(4-(j:Int)).toNat<5)];by_cases J:p.spread (4-(j:Int)).toNat>0;by_cases S:dc+1>p.spread (4-(j:Int)).toNat;simp only[go_sem,J,S,y,A,atA];exact hR _ _ Sq (M (by rw[l,aW J,aW S];rfl));simp only[go_sem,J,S,y,A,atA,fP x,MX x,B];exact aE (j+1,_) ⟨hlt,rfl,arY (by rw[l,bD S,auF];rfl)⟩ sO_ (lE1 R) b_;simp only[go_sem,J,y,atA,fP x,MX x,B];exact aE (j+1,_) ⟨hlt,rfl,arY (by rw[l,bD J];rfl)⟩ sO_ (lE1 R) b_;have:j=4:=Om;subst this;have h0:upN f 4 (cP f d)=0:=by have:=hV.kE x;omega
 have V:¬((upN f 4 (cP f d):Nat):Int)>0:=Om;simp only[go_sem,V];rw[u5 hV];refine Up.up ?_ (hK (p5 hV λi hi h=>w i hi (by simpa using h)));unfold NQ;exact Lq
theorem U3{f:aB}{p:bX}{set:I_}{d:Int}(e:d∈set)(h:pF f p d=false):mX f p set=false:=by
 unfold mX;have:set.all (pF f p)=false:=by simp only[List.all_eq_false];exact⟨d,e,by rw[h];simp⟩
 rw[this];rfl
theorem U2{f:aB}{p:bX}{set:I_}{k:Nat}(h:jI f p (set.take k)=false):mX f p set=false:=by
 have:=Fw (ys:=set.drop k) h;rw[awK]at this;unfold mX;rw[this,auF]
def zj(f:aB)(set:I_):Prop:=Z' set<=16777216/\∀x∈set,0<=x/\x<(Z' f.arB:Nat)
theorem P7{K:bP}[Up K](f:aB)(hV:VF f)(p:bX)(M oD:Nat)(hn:M≠oD)(set:I_)(hs:zj f set){F:PF}{H:PH}
  (Y:(NQ f p M oD set 0).le F) (L:H M=some (.rows 1 (dE (marks f.arC.length p.arC)))) (hD:H oD=some (.rows 1 (aM (fC f []))))
  (V:∀N H',N 6=some (.bool false)->mX f p set=false->K .ret N H')
  (Z:∀N H',mX f p set=true->K (.exit 2) N H') :
  aJ.wp C (.loop HE) K F H:=by
 obtain⟨β,U⟩:=hs;refine wp_loop (α:=Nat × PH) (λt=>NQ f p M oD set t.1) (λt=>t.2) (λt=>t.1<=Z' set/\t.2 M=some (.rows 1 (dE (marks f.arC.length p.arC)))/\t.2 oD=some (.rows 1 (aM (fC f (set.take t.1))))/\(set.take t.1).all (pF f p)=true/\jI f p (set.take t.1)=true) (λt=>Z' set-t.1) (0,H) ⟨asQ _,L,hD,rfl,Ig f p⟩ Y b_ ?_;rintro⟨k,W⟩ ⟨hk,L,hD,i,B⟩;simp only at hk L hD i B;by_cases hlt:k<Z' set
 ·have u:(k:Int)<(Z' set:Nat):=Om;have S:(set.map λn=>[PV.int .i64 n])[k]?=some [.j set[k]]:=by simp[hlt]
  have D:set.take (k+1)=set.take k++[set[k]]:=atW hlt;have hx:=U set[k] (asS hlt);have hm:=asS hlt;generalize γ:set[k]=x at *
  obtain⟨d,rfl⟩:∃d:Nat,x=d:=⟨x.toNat,by omega⟩;have e:d<Z' f.arB:=Om;have E:(d:Int)<(Z' f.arB:Nat):=Om;obtain⟨w1,w2,w3,w4,w5⟩:=hV.drive d e;have J:((mdl f d:Nat):Int)<(Z' f.arC:Nat):=Om;have A:(dE (marks f.arC.length p.arC))[mdl f d]?=some [.bool (p.arC.contains ((mdl f d:Nat):Int))]:=by have:=yC (n:=Z' f.arC) (l:=p.arC) (m:=((mdl f d:Nat):Int)) Om J;rw[auL]at this;unfold dE;rw[atC,this];rfl
  have w:pF f p (d:Int)=p.arC.contains ((mdl f d:Nat):Int):=by rw[pF,auL]
  cases hb:p.arC.contains ((mdl f d:Nat):Int)with
  |false =>rw[hb]at A w;simp only[go_sem,HE,NQ,u,S,kC e,E,hV.DD e,J,atA,L,A,atH];exact V _ _ Sq (U3 hm w)
  |true=>
   rw[hb]at A w;simp only[go_sem,HE,NQ,u,S,kC e,E,hV.DD e,J,atA,L,A,asY,hV.GH e];have up:=λ{K:bP} [Up K] {F:PF} {H:PH}=>abB (C:=C) (K:=K) f hV p M oD set k (set.take k) (by rw[atF];omega) B d e (F:=F) (H:=H);refine up (by unfold Lj;exact Lq) hD ?_ ?_;intro N H' X O;simp only[go_sem];exact V _ _ X (U2 (k:=k+1) (by rw[D];exact O));intro R;simp only[go_sem,NQ,wZz k];refine aE (k+1,W.set oD (.rows 1 (aM (fC f (set.take k++[(d:Int)]))))) ⟨hlt,?_,?_,?_,by rw[D];exact R⟩ sO_ Lq b_;simp only[aO,aC hn];exact L;simp only[bK,D];rw[D];intro y hy;rcases auC.1 hy with h|h
   exact atI.1 i y h;rw[auB.1 h];exact w
 have u:¬(k:Int)<(Z' set:Nat):=Om;have:k=Z' set:=Om;subst this;rw[atL]at i B;simp only[go_sem,HE,NQ,u];exact Z _ _ (by rw[mX,i,B];rfl)

def akV(down:I_)(d:Int):Bool:=decide (0<=d)&&down.contains d
def akW(down:I_)(d:Int):Bool:=decide (0<=d)&&!down.contains d
def aoL(down row:I_):Bool:=row.any (akV down)
def adM(down row:I_):Nat:=row.countP (akW down)
def aiA(f:aB)(e:Int)(down:I_)(v:Nat)(row:I_):Bool:=aoL down row&&decide (((adM down row:Nat):Int)<(bF f v).k+e)
def akX(f:aB)(i:L2_)(e:Int)(down:I_)(n:Nat):Bool:=(asP n).all λv=>!aiA f e down v (i.getD v [])
def zt(f:aB)(i:L2_)(e:Int)(down:I_):Bool:=akX f i e down i.length
def uI:=bT [3,4] Proofs.Tryz.f68
def it:aJ:=(dH (aA uI 8) 69 2 (aA uI 12) (sq (aA uI 9) (sq (aA uI 10) (.cond (Tm 90) (sq (aA uI 11) .ret) .skip))))
def xk:aJ:=(sq (aA uI 0) (kK (aA uI 1) 17 (aA uI 2) (.seq (cS (aA uI 3) 0 (dH (aA uI 4) 21 0 (aA uI 6) (dq (dZ uI 0) (.cond (Tm 64) (sq (aA uI 5) .ret) .skip)))) (.seq (cS (aA uI 7) 2 it) (sq (aA uI 13) .ret)))))
def MZ:=bT [13,42] Proofs.Tryz.f65
def IF:=cG MZ
def iu:=bT [2,60] Proofs.Tryz.f33
def xl:=cG iu
def pn:=bT [2,19,20,42] Proofs.Tryz.f64
def bo:=cG pn
def Fb:=bT [] Proofs.Tryz.f35
def xn:=cG Fb
def fY:=bT [2,3,109,113] Proofs.Tryz.f29
def WE:aJ:=(dH (aA fY 22) 88 6 (aA fY 24) (.region (aA fY 23)))
def WF:aJ:=(dH (aA fY 19) 79 4 (aA fY 27) (sq (aA fY 20) (.seq (cS (aA fY 21) 6 WE) (sq (aA fY 25) (.cond (Tm 106) (.region (aA fY 26)) .skip)))))
def WG:aJ:=(dH (aA fY 16) 72 2 (aA fY 29) (sq (aA fY 17) (.seq (cS (aA fY 18) 4 WF) (.region (aA fY 28)))))
def pi:aJ:=(sq (aA fY 0) (kK (aA fY 1) 38 (aA fY 2) (kK (aA fY 3) 42 (aA fY 4) (sq (aA fY 5) (sq (aA fY 6) (.seq (cS (aA fY 7) 0 (dH (aA fY 8) 50 0 (aA fY 10) (.region (aA fY 9)))) (kK (aA fY 11) 63 (aA fY 12) (sq (aA fY 13) (sq (aA fY 14) (.seq (cS (aA fY 15) 2 WG) (sq (aA fY 30) .ret)))))))))))
def Am:=bT [] Proofs.Tryz.f34
def ow:=cG Am
def rO:=bT [2,44] Proofs.Tryz.f31
def i8:=aA rO 8
def WP:=aA rO 9
def WQ:=aA rO 10
def RI:aJ:=(sq (aA rO 0) (kK (aA rO 1) 10 (aA rO 2) (sq (aA rO 3) (.seq (cS (aA rO 4) 0 (dH (aA rO 5) 15 0 WP (dq (dZ rO 0) (jJ (aA rO 6) 34 (.region (aA rO 7)) (.region i8))))) (sq WQ .ret)))))
def po:=bT [3] Proofs.Tryz.f145
def br:=cG po
def YW:=bT [2,41] Proofs.Tryz.f99
def WJ:=cG YW
def nZ:=bT [2] Proofs.Tryz.f32
def RC:aJ:=(dH (aA nZ 7) 27 2 (aA nZ 10) (sq (aA nZ 8) (.cond (Tm 49) (.region (aA nZ 9)) .skip)))
def bw:aJ:=(sq (aA nZ 0) (kK (aA nZ 1) 10 (aA nZ 2) (sq (aA nZ 3) (.seq (cS (aA nZ 4) 0 (dH (aA nZ 5) 18 0 (aA nZ 11) (cS (aA nZ 6) 2 RC))) (sq (aA nZ 12) .ret)))))
def N9:=bT [2] Proofs.Tryz.f146
def xt:=cG N9
def QY:=bT [3,4] Proofs.Tryz.f51
def TC:=cG QY
def vL:=bT [3] Proofs.Tryz.f101
def WI:=aA vL 6
def bu:aJ:=(sq (aA vL 0) (sq (aA vL 1) (.seq (cS (aA vL 2) 0 (dH (aA vL 3) 12 0 (aA vL 5) (dq (dZ vL 0) (.cond (Tm 35) (.region (aA vL 4)) .skip)))) (sq WI .ret))))
def iZ:=bT [3,27,36,52,81,118,150] Proofs.Tryz.f100
def i9:aJ:=(dH (aA iZ 8) 40 0 (aA iZ 11) (sq (aA iZ 9) (.cond (Tm 47) (.region (aA iZ 10)) .skip)))
def ja:aJ:=(dH (aA iZ 16) 64 4 (aA iZ 19) (sq (aA iZ 17) (.cond (Tm 72) (.region (aA iZ 18)) .skip)))
def jb:aJ:=(dH (aA iZ 13) 58 2 (aA iZ 22) (sq (aA iZ 14) (.seq (cS (aA iZ 15) 4 ja) (sq (aA iZ 20) (.cond (Tm 76) (.region (aA iZ 21)) .skip)))))
def jc:aJ:=(dH (aA iZ 24) 96 6 (aA iZ 26) (dq (dZ iZ 1) (.cond (Tm 113) (.region (aA iZ 25)) .skip)))
def RJ:=aA iZ 30
def je:=aA iZ 31
def IM:=aA iZ 32
def jd:aJ:=(dH (aA iZ 28) 124 8 IM (sq (aA iZ 29) (sq RJ (.cond (Tm 145) (.region je) .skip))))
def x8:aJ:=(sq (aA iZ 0) (kK (aA iZ 1) 22 (aA iZ 2) (.seq (sq (aA iZ 3) (sq (aA iZ 4) (.cond (Tm 32) (sq (aA iZ 5) .ret) .skip))) (sq (aA iZ 6) (.seq (cS (aA iZ 7) 0 i9) (.seq (cS (aA iZ 12) 2 jb) (dq (dZ iZ 0) (.seq (cS (aA iZ 23) 6 jc) (.seq (cS (aA iZ 27) 8 jd) (sq (aA iZ 33) .ret))))))))))
def nM:=bT [3,24,64] Proofs.Tryz.f67
def WT:aJ:=(dH (aA nM 10) 49 2 (aA nM 12) (dq (dZ nM 2) (.cond (Tm 60) (.region (aA nM 11)) .skip)))
def p9:aJ:=(sq (aA nM 0) (kK (aA nM 1) 14 (aA nM 2) (kK (aA nM 3) 20 (aA nM 4) (sq (aA nM 5) (.seq (cS (aA nM 6) 0 (dH (aA nM 7) 28 0 (aA nM 8) (.draw (dZ nM 0)))) (dq (dZ nM 1) (.seq (cS (aA nM 9) 2 WT) (sq (aA nM 13) .ret))))))))
def pw:=bT [3] Proofs.Tryz.f30
def bv:=cG pw
theorem xr(f:aB)(l:VF f)(d:Nat)(h:d<Z' f.arB)(level:Int)(y:0<=level)(A:level<=4) :
  br.wp C (aV po.res (aK (.j (dC f d level:Nat)))) (g_ [.agg f.cells,.j d,.j level]) .nil:=by
 simp only[go_sem,br,po,kC h,l.GH h];refine wp_loop (α:=Nat) (λk=>(((n_.set 2 (.j level)).set 3 (.aU f.cells)).set 7 (.j (upN f k (cP f d))))) (λ_=>.nil) (λk=>k<=4-level.toNat) (λk=>4-level.toNat-k) 0 (asQ _) (by(repeat' (first|exact c_|refine e_ ?_ ?_))<;>first|(simp only[go_sem,upN]<;>rfl)|rfl) a_ ?_;intro k B;obtain⟨i,x⟩:=AU l h (k:=k) Om;simp only[go_sem,fP i,tO i];by_cases hlt:k<4-level.toNat;have u:lvl f (upN f k (cP f d))>level:=by rw[x];omega
 have w:0<upN f k (cP f d):=by
  rcases avB (upN f k (cP f d))with e|e
  rw[e,l.root.2.1]at x;omega;exact e
 simp only[go_sem,u,fP i,MX i,l.MY w i];exact aE (k+1) hlt Om (by(repeat' (first|exact c_|refine e_ ?_ ?_))<;>first|(simp only[go_sem,upN]<;>rfl)|rfl) a_;have u:¬lvl f (upN f k (cP f d))>level:=by rw[x];omega
 have:k=4-level.toNat:=Om;subst this;simp only[go_sem,u];refine cZ (.inr rfl) Ev ?_;rfl
structure j9(C:Ctx):Prop where
 valid:∀f:aB,f.Ok->aH C 67 [.agg f.cells] .nil (aK (.bool (cI f)))
 vX:∀(f:aB)(d:Nat)(level:Int),VF f->d<Z' f.arB->0<=level->level<=4->aH C 88 [.agg f.cells,.int .i64 d,.int .i64 level] .nil (aK (.int .i64 (dC f d level:Nat)))
structure TJ(C:Ctx):Prop extends j9 C where
 dj:∀(f:aB)(v:Nat),VF f->v<Z' f.arD->aH C 82 [.agg f.cells,.int .i64 v] .nil (aK (.int .i64 (fX f v)))
def soS(f:aB):Spec:=λname vs=>match name,vs with
 |88,[_,.int _ d,.int _ l]=>some ([],λ_=>aK (.int .i64 (dC f d.toNat l:Nat)))
 |82,[_,.int _ v]=>some ([],λ_=>aK (.int .i64 (fX f v.toNat)))
 |_,_=>none
theorem xz(f:aB)(d:Nat)(l:Int):soS f 88 [.agg f.cells,.j d,.j l]=some ([],λ_=>aK (.j (dC f d l:Nat))):=rfl
theorem Rt{f:aB}(hV:VF f){n:Nat}(i:n<Z' f.arE):0<=lvl f n/\lvl f n<=4:=by
 rcases avB n with e|e
 rw[e,hV.root.2.1];decide;have:=hV.dom n e i;omega
theorem Oa(L:j9 C)(f:aB)(J:f.Ok)(dom:Int) :
  WJ.wp C (aV YW.res (cN (ints (MK f dom)))) (g_ [.agg f.cells,.j dom]) .nil:=by
 simp only[go_sem,WJ,YW];refine aD (L.valid f J) Sq ?_;unfold MK;cases M:cI f with
 |false =>simp only[go_sem,atH];rw[aC aZ];exact AL Ev
 |true=>
  have hV:=VF.of M;by_cases y:dom<0;simp only[go_sem,asY,y];rw[aC Om];exact AL Ev;by_cases D:dom>=(Z' f.arE:Nat);simp only[go_sem,asY,y,asO,D];rw[aC Om];exact AL Ev;obtain⟨n,rfl⟩:∃n:Nat,dom=n:=⟨dom.toNat,by omega⟩;have B:n<Z' f.arE:=Om;have E:=hV.small.arB;have l:=Rt hV B;simp only[go_sem,asY,y,asO,D];rw[aF Om];generalize hp:(λd=>decide ((dC f d (lvl f n):Nat)=n))=p;refine wp_loop (α:=T3_) (λt=>((((n_.set 1 (.j n)).set 2 (.aU f.cells)).set 5 (t.2.1)).set 6 (.j t.1))) (λt=>t.2.2) (λt=>t.1<=Z' f.arB/\bC t.2.2 1 t.2.1 (aM (pick t.1 p))) (λt=>Z' f.arB-t.1) (0,.aG,.nil) ⟨asQ _,.nil⟩ Lq a_ ?_;rintro⟨k,v,F⟩ ⟨K,u⟩;simp only at K u ⊢;simp only[go_sem,asO];by_cases hlt:k<Z' f.arB;have i:(k:Int)<(Z' f.arB:Nat):=Om;simp only[go_sem,i];refine bE .nil (soS f) a_ ?_;simp only[go_sem,fP B,tO B];refine cJ (xz f k (lvl f n)) (L.vX f k (lvl f n) hV hlt l.1 l.2) Sq a_ ?_;have x:p k=decide ((dC f k (lvl f n):Nat)=n):=by rw[<-hp]
  have e:=Sl k p;have A:(1:Nat)*1<=16777216:=by decide
  by_cases c:dC f k (lvl f n)=n;rw[aF (by rw[x];simp[c])]at e;simp only[go_sem,bR (show((dC f k (lvl f n):Nat):Int)=(n:Int) by omega),A];refine fB (src:=[[.j k]]) u Sq (by unfold roomFor;have:=Xs k p;rw[bV];simp only[atD,maxLen];omega) λv' H' w _=>?_;rw[OY,<-e]at w;simp only[go_sem,wZz k];exact aE (k+1,v',H') ⟨hlt,w⟩ sO_ Lq b_;rw[aC (by rw[x];simp[c])]at e;simp only[go_sem,bH (show((dC f k (lvl f n):Nat):Int)≠(n:Int) by omega),wZz k];rw[<-e]at u;exact aE (k+1,v,F) ⟨hlt,u⟩ sO_ Lq b_;have i:¬(k:Int)<(Z' f.arB:Nat):=Om;have:k=Z' f.arB:=Om;subst this;simp only[go_sem,i];exact NC u Sq
def c7(f:aB)(row:I_):Int:=match gS (kY f) row 0 with
 |some i=>i
 |none=>-1
theorem aeE(f:aB)(row:I_)(A:Z' row<=16777216):xt.wp C (aV N9.res (aK (.j (c7 f row)))) (g_ [.agg f.cells,ints row]) .nil:=by
 unfold c7;simp only[go_sem,xt,N9];refine wp_loop (α:=Nat) (λk=>(((n_.set 1 (ints row)).set 2 (.aU f.cells)).set 5 (.j k))) (λ_=>.nil) (λk=>k<=Z' row/\gS (kY f) row 0=gS (kY f) (row.drop k) k) (λk=>Z' row-k) 0 ⟨asQ _,rfl⟩ Lq a_ ?_;rintro k ⟨y,i⟩;simp only[go_sem,asO];by_cases hlt:k<Z' row;have e:(k:Int)<(Z' row:Nat):=Om;have l:(row.map λx=>[PV.int .i64 x])[k]?=some [.j row[k]]:=by simp[hlt]
 rw[avF hlt,gS]at i;generalize row[k]=x at *
 simp only[go_sem,e];refine bE .nil cR a_ ?_;by_cases u:x < -1;rw[show kY f x=true from by unfold kY;rw[aW u];rfl,aF rfl]at i;simp only[go_sem,l,u];refine cZ (.inr rfl) Ev ?_;rw[bN,i];by_cases w:x>=(Z' f.arB:Nat);rw[show kY f x=true from by unfold kY;rw[aW w,Bool.or_true],aF rfl]at i;simp only[go_sem,l,u,asO,w];refine cZ (.inr rfl) Ev ?_;rw[bN,i];rw[show kY f x=false from by unfold kY;rw[bD u,bD w];rfl,aC aR]at i;simp only[go_sem,l,u,asO,w,wZz k];exact aE (k+1) ⟨hlt,i⟩ Om Lq b_;have e:¬(k:Int)<(Z' row:Nat):=Om;have:k=Z' row:=Om;subst this;rw[List.drop_length,gS]at i;simp only[go_sem,e];refine cZ (.inr rfl) Ev ?_;rw[bN,i]
theorem acV{r e:Int}(h:0<=e):max 0 (min r e)=min (max r 0) e:=Om
theorem N0(f:aB)(room:I_){k:Nat}(h:k<Z' f.arB):(bA f room).take (k+1)=(bA f room).take k++[nF f room k]:=by
 have e:k<(bA f room).length:=by rw[pA];exact h
 rw[atW e,iy]
theorem x7(valid:∀f:aB,f.Ok->aH C 67 [.agg f.cells] .nil (aK (.bool (cI f))))(f:aB)(M:f.Ok)(room:I_) :
  RI.wp C (aV rO.res (cN (ints (oR f room)))) (g_ [.agg f.cells,ints room]) .nil:=by
 simp only[go_sem,RI,rO];refine aD (valid f M) Sq ?_;unfold oR;cases O:cI f with
 |false =>simp only[go_sem,atH];exact AL Ev
 |true=>
  have hV:=VF.of O;have E:=hV.small.arB;have A:=pA f room;simp only[go_sem,asY];refine wp_loop (α:=T3_) (λt=>((((n_.set 1 (ints room)).set 2 (.aU f.cells)).set 5 (t.2.1)).set 6 (.j t.1))) (λt=>t.2.2) (λt=>t.1<=Z' f.arB/\bC t.2.2 1 t.2.1 (aM ((bA f room).take t.1))) (λt=>Z' f.arB-t.1) (0,.aG,.nil) ⟨asQ _,.nil⟩ Lq a_ ?_;rintro⟨k,v,K⟩ ⟨N,w⟩;simp only at N w ⊢;simp only[go_sem,asO];by_cases hlt:k<Z' f.arB;have e:(k:Int)<(Z' f.arB:Nat):=Om;obtain⟨J,he⟩:=hV.Cl hlt;have B:=hV.model _ (asS J);rw[he]at B;have y:(1:Nat)*1<=16777216:=by decide
  have i:=N0 f room hlt;have rest:∀(x:Int)(F:PF),x=nF f room k->((((((n_.set 1 (ints room)).set 2 (.aU f.cells)).set 5 (v)).set 6 (.j k)).set 7 (.j x)):PF).le F ->
    aJ.wp C (.region i8) (fL 1 (gL C (aJ.wp C (.region WP)) (fK (λt:T3_=>((((n_.set 1 (ints room)).set 2 (.aU f.cells)).set 5 (t.2.1)).set 6 (.j t.1))) (λt=>t.2.2) (λt=>t.1<=Z' f.arB/\bC t.2.2 1 t.2.1 (aM ((bA f room).take t.1))) (λt=>Z' f.arB-t.1) (Z' f.arB-k) (fL 0 (gL C (aJ.wp C (.seq (.region WQ) .ret)) (aV [.tmp 4] (cN (ints (bA f room))))))))) F K:=by
   intro x F R L;refine jL _ (λ_ _ _ _ a b=>Up.up a b) L ?_;simp only[go_sem,i8,y];refine fB (src:=[[.j x]]) w Sq (by unfold roomFor;rw[bV,atF];simp only[atD,maxLen];omega) λv' H' l _=>?_;rw[OY,R,<-i]at l;simp only[go_sem,WP,wZz k];exact aE (k+1,v',H') ⟨hlt,l⟩ sO_ Lq b_
  simp only[aJ.wp,go_sem]at rest;simp only[go_sem,e];refine bE .nil cR a_ ?_;simp only[go_sem,kC hlt,hV.DD hlt,we J,he];by_cases c:Z' room=Z' f.arB;have u:k<Z' room:=Om;have D:(room.map λn=>[PV.int .i64 n])[k]?=some [.j room[k]]:=by simp[u]
  simp only[go_sem,asO,bR (Om:(Z' room:Int)=(Z' f.arB:Nat)),D,max_eq,Jr];refine rest _ _ ?_ Lq;rw[nF,aF c,acV Om,asW,asZ u,auV];simp only[go_sem,asO,bH (Om:(Z' room:Int)≠(Z' f.arB:Nat))];refine rest _ _ ?_ Lq;rw[nF,aC c];have e:¬(k:Int)<(Z' f.arB:Nat):=Om;have:k=Z' f.arB:=Om;subst this;rw[<-A,atL]at w;simp only[go_sem,e,WQ];exact NC w Sq
theorem Fy(L:TJ C)(f:aB)(e:f.Ok)(room:I_) :
  RI.wp C (aV rO.res (cN (ints (oR f room)))) (g_ [.agg f.cells,ints room]) .nil:=x7 L.valid f e room
theorem LA(f:aB)(hV:VF f)(p:bX)(hp:Fits p.arC)(d:Nat)(w:d<Z' f.arB) :
  TC.wp C (aV QY.res (aK (.bool (p.arC.contains ((mdl f d:Nat):Int))))) (g_ [.agg p.cells,.agg f.cells,.j d]) .nil:=by
 have y:Z' p.arC<=9223372036854775807:=hp;simp only[go_sem,TC,QY];refine wp_loop (α:=Nat) (λk=>((((n_.set 2 (.j d)).set 3 (.aU p.cells)).set 4 (.aU f.cells)).set 7 (.j k))) (λ_=>.nil) (λk=>k<=Z' p.arC/\p.arC.contains ((mdl f d:Nat):Int)=(p.arC.drop k).contains ((mdl f d:Nat):Int)) (λk=>Z' p.arC-k) 0 ⟨asQ _,rfl⟩ Lq a_ ?_;rintro k ⟨A,l⟩;simp only[go_sem,asO];by_cases hlt:k<Z' p.arC
 ·have i:(k:Int)<(Z' p.arC:Nat):=Om;have u:(p.arC.map λx=>[PV.int .i64 x])[k]?=some [.j p.arC[k]]:=by simp[hlt]
  rw[avF hlt,List.contains_cons]at l;have e:(p.arC[k]==((mdl f d:Nat):Int))=(((mdl f d:Nat):Int)==p.arC[k]):=BEq.comm;simp only[go_sem,i];refine bE .nil cR a_ ?_;cases c:((mdl f d:Nat):Int)==p.arC[k]with
  |true =>rw[c]at e;rw[c,Bool.true_or]at l;simp only[go_sem,u,kC w,hV.DD w,e];refine cZ (.inr rfl) Ev ?_;rw[bN,l]
  |false =>rw[c]at e;rw[c,Bool.false_or]at l;simp only[go_sem,u,kC w,hV.DD w,e,wZz k];exact aE (k+1) ⟨hlt,l⟩ Om Lq b_
 have i:¬(k:Int)<(Z' p.arC:Nat):=Om;have:k=Z' p.arC:=Om;subst this;rw[List.drop_length]at l;simp only[go_sem,i];refine cZ (.inr rfl) Ev ?_;rw[bN,l];rfl
theorem ZR{p:Int->Bool}{xs:I_}{k:Nat}(h:k<Z' xs):(xs.take (k+1)).countP p=(xs.take k).countP p+if p xs[k]then 1 else 0:=by
 rw[atW h,List.countP_append];by_cases hp:p xs[k]<;>simp[List.countP_cons,hp]
theorem xu(L:j9 C)(f:aB)(hV:VF f)(row:I_)(K:vW f row)(n:Nat)(E:n<Z' f.arE) :
  bu.wp C (aV vL.res (aK (.j (row.countP (kL f n):Nat)))) (g_ [.agg f.cells,ints row,.j n]) .nil:=by
 have J:=K.len;have w:=Rt hV E;simp only[go_sem,bu,vL];refine wp_loop (α:=Nat) (λk=>(((((n_.set 1 (ints row)).set 2 (.j n)).set 3 (.aU f.cells)).set 7 (.j ((row.take k).countP (kL f n):Nat))).set 8 (.j k))) (λ_=>.nil) (λk=>k<=Z' row) (λk=>Z' row-k) 0 (asQ _) Lq a_ ?_;intro k O;simp only[go_sem,asO];by_cases hlt:k<Z' row;have i:(k:Int)<(Z' row:Nat):=Om;have A:(row.map λx=>[PV.int .i64 x])[k]?=some [.j row[k]]:=by simp[hlt]
 have R:=K.at_ _ (asS hlt);have y:=ZR (p:=kL f n) hlt;have N:(row.take k).countP (kL f n)<=16777216:=by have:=List.countP_le_length (p:=kL f n) (l:=row.take k);rw[atF]at this;omega
 have u:kL f n row[k]=(decide (0<=row[k])&&decide (dC f row[k].toNat (lvl f n)=n)):=rfl;have fin:∀(c:Nat)(B:PF),(row.take (k+1)).countP (kL f n)=c->((((((n_.set 1 (ints row)).set 2 (.j n)).set 3 (.aU f.cells)).set 7 (.j c)).set 8 (.j (k+1:Nat))):PF).le B->fK (λk:Nat=>(((((n_.set 1 (ints row)).set 2 (.j n)).set 3 (.aU f.cells)).set 7 (.j ((row.take k).countP (kL f n):Nat))).set 8 (.j k))) (λ_=>.nil) (λk=>k<=Z' row) (λk=>Z' row-k) (Z' row-k) (fL 0 (gL C (aJ.wp C (.seq (.region WI) .ret)) (aV [.tmp 6] (aK (.j (row.countP (kL f n):Nat)))))) .normal B .nil:=
  λc B e h=>aE (k+1) hlt Om (by rw[e];exact h) b_
 generalize(row.take k).countP (kL f n)=c at *
 generalize row[k]=x at *
 simp only[go_sem,i];refine bE .nil (soS f) a_ ?_;by_cases D:x>=0;obtain⟨d,rfl⟩:∃d:Nat,x=d:=⟨x.toNat,by omega⟩;have M:d<Z' f.arB:=Om;rw[aW (Om:(0:Int)<=d),atJ,auL]at u;rw[u]at y;simp only[go_sem,A,D,fP E,tO E];refine cJ (xz f d (lvl f n)) (L.vX f d (lvl f n) hV M w.1 w.2) Sq a_ ?_;by_cases F:dC f d (lvl f n)=n;rw[aW F,aF rfl]at y;simp only[go_sem,bR (show((dC f d (lvl f n):Nat):Int)=(n:Int) by omega),wZz c,wZz k];exact fin (c+1) _ y Lq;rw[bD F,aC aR,auI]at y;simp only[go_sem,bH (show((dC f d (lvl f n):Nat):Int)≠(n:Int) by omega),wZz k];exact fin c _ y Lq;rw[bD (show ¬0<=x from D),atE]at u;rw[u,aC aR,auI]at y;simp only[go_sem,A,D,wZz k];exact fin c _ y Lq;have i:¬(k:Int)<(Z' row:Nat):=Om;have:k=Z' row:=Om;subst this;simp only[go_sem,i,WI,atL];refine cZ (.inr rfl) Ev ?_;rfl
theorem C4{xs:I_}{k:Nat}{d:Int}(h:k<Z' xs):(xs.take (k+1)).contains d=((xs.take k).contains d||decide (xs[k]=d)):=by
 rw[Bool.eq_iff_iff];rw[avX,atW h,auC,auB,awY,avX,dT_];exact⟨λh=>h.imp id Eq.symm,λh=>h.imp id Eq.symm⟩
theorem J8(l:I_)(A:Z' l<=1000000000000000)(x:Int):xn.wp C (aV Fb.res (aK (.bool (l.contains x)))) (g_ [ints l,.j x]) .nil:=by
 simp only[go_sem,xn,Fb];refine wp_loop (α:=Nat) (λk=>(((n_.set 0 (ints l)).set 1 (.j x)).set 5 (.j k))) (λ_=>.nil) (λk=>k<=Z' l/\(l.take k).contains x=false) (λk=>Z' l-k) 0 ⟨asQ _,by simp⟩ Lq a_ ?_;rintro k ⟨y,u⟩;simp only[go_sem,asO];by_cases hlt:k<Z' l;have e:(k:Int)<(Z' l:Nat):=Om;have i:(l.map λn=>[PV.int .i64 n])[k]?=some [.j l[k]]:=by simp[hlt]
 have w:=C4 (d:=x) hlt;by_cases c:l[k]=x;simp only[go_sem,e,i,bR c];refine eD ?_;rw[bN];exact congrArg PV.bool (avX.2 (c ▸ asS hlt)).symm;simp only[go_sem,e,i,bH c,wZz k];exact aE (k+1) ⟨hlt,by rw[w,u];simp[c]⟩ Om Lq b_;have e:¬(k:Int)<(Z' l:Nat):=Om;have:k=Z' l:=Om;subst this;rw[atL]at u;simp only[go_sem,e];refine eD ?_;rw[bN,u]

def sd:=bT [1] Proofs.Tryz.f85
def cw:=cG sd
def ZI:=bT [] Proofs.Tryz.f124
def XW:=cG ZI
def kA:=bT [1] Proofs.Tryz.f82
def jy:=aA kA 17
def SH:aJ:=(dH (aA kA 18) 111 6 (aA kA 20) (.region (aA kA 19)))
def jz:=aA kA 21
def jv:aJ:=(dH (aA kA 15) 90 4 jz (sq (aA kA 16) (cS jy 6 SH)))
def jw:aJ:=(dH (aA kA 13) 85 2 (aA kA 22) (cS (aA kA 14) 4 jv))
def jx:aJ:=(dH (aA kA 24) 141 8 (aA kA 27) (sq (aA kA 25) (.cond (Tm 148) (sq (aA kA 26) .ret) .skip)))
def j0:=aA kA 28
def yv:aJ:=(sq (aA kA 0) (sq (aA kA 1) (kK (aA kA 2) 41 (aA kA 3) (.seq (cS (aA kA 4) 0 (dH (aA kA 5) 44 0 (aA kA 8) (sq (aA kA 6) (.cond (Tm 66) (sq (aA kA 7) .ret) .skip)))) (.seq (sq (aA kA 9) (dq (dZ kA 0) (.cond (Tm 80) (sq (aA kA 10) .ret) .skip))) (sq (aA kA 11) (.seq (cS (aA kA 12) 2 jw) (.seq (cS (aA kA 23) 8 jx) (sq j0 .ret)))))))))
def Pk:=bT [] Proofs.Tryz.f130
def yw:=cG Pk
def NJ:=bT [] Proofs.Tryz.f79
def IU:=cG NJ
def sb:=bT [] Proofs.Tryz.f80
def cv:=cG sb
def SI:=bT [7] Proofs.Tryz.f86
def TE:=cG SI
def Ph:=bT [6,7] Proofs.Tryz.f87
def yr:=cG Ph
def sa:=bT [] Proofs.Tryz.f123
def cu:=cG sa
def dK:=bT [1] Proofs.Tryz.f48
def SJ:aJ:=(dH (aA dK 6) 61 0 (aA dK 9) (sq (aA dK 7) (.region (aA dK 8))))
def SK:aJ:=(dH (aA dK 11) 91 2 (aA dK 15) (sq (aA dK 12) (sq (aA dK 13) (.region (aA dK 14)))))
def SM:=aA dK 18
def FQ:aJ:=(dH (aA dK 19) 169 4 (aA dK 22) (sq (aA dK 20) (sq (aA dK 21) (.draw (dZ dK 0)))))
def SN:=aA dK 23
def FS:aJ:=(dH (aA dK 24) 227 6 (aA dK 28) (sq (aA dK 25) (sq (aA dK 26) (.region (aA dK 27)))))
def SO:=aA dK 29
def SL:aJ:=(dH (aA dK 37) 344 12 (aA dK 38) (.draw (dZ dK 2)))
def FT:aJ:=(dH (aA dK 35) 329 10 (aA dK 39) (dq (dZ dK 1) (cS (aA dK 36) 12 SL)))
def SP:=aA dK 40
def FU:aJ:=(dH (aA dK 30) 278 8 SP (sq (aA dK 31) (sq (aA dK 32) (sq (aA dK 33) (cS (aA dK 34) 10 FT)))))
def SQ:=aA dK 41
def FW:aJ:=(dH (aA dK 42) 368 14 (aA dK 44) (sq (aA dK 43) (.draw (dZ dK 3))))
def SR:=aA dK 45
def cx:aJ:=(sq (aA dK 0) (kK (aA dK 1) 53 (aA dK 2) (sq (aA dK 3) (sq (aA dK 4) (.seq (cS (aA dK 5) 0 SJ) (.seq (cS (aA dK 10) 2 SK) (sq (aA dK 16) (sq (aA dK 17) (.seq (cS SM 4 FQ) (.seq (cS SN 6 FS) (.seq (cS SO 8 FU) (.seq (cS SQ 14 FW) (sq SR .ret)))))))))))))
def r9:=bT [8] Proofs.Tryz.f81
def cr:=cG r9

theorem kD{t:Nat}{b i:Bool}{F:PF}{H:PH}(h:F t=some (.bool b))(e:b=i):aV [.tmp t] (aK (.bool i)) .ret F H:=by
 subst e;exact bM (.inr rfl) .nil (vs:=[.bool b]) (by rw[nT,sB,h,uE]) a_ ⟨rfl,rfl⟩
theorem abA(f:aB)(hV:VF f)(p:bX)(hp:∀m∈p.arC,0<=m/\m<Z' f.arC)(u:Fits p.arC)(set:I_)(V:zj f set) :
  ux.wp C (aV nP.res (aK (.bool (mX f p set)))) (g_ [.agg f.cells,.agg p.cells,ints set]) .nil:=by
 have i:=hV.small;have x:(Z' f.arC:Int)*((1:Nat):Int)<=140737488355328:=by have:=i.arC;omega
 have y:(Z' f.arC:Int)<=9223372036854775807:=by have:=i.arC;omega
 have A:(0:Int)<=(Z' f.arC:Int):=Om;have E:(Z' f.arE:Int)*((8:Nat):Int)<=140737488355328:=by have:=i.arE;omega
 have F:(Z' f.arE:Int)<=9223372036854775807:=by have:=i.arE;omega
 have J:(0:Int)<=(Z' f.arE:Int):=Om;simp only[go_sem,ux,nP,asO,x,y,A,Int.le_refl,auL];refine aQ λw W=>?_;rw[HD];simp only[go_sem,asO];refine wp_loop (α:=Nat) (λk=>(((((((n_.set 2 (ints set)).set 3 (.aU f.cells)).set 4 (.aU p.cells)).set 7 (.osl w 1 0 f.arC.length)).set 20 (ints p.arC)).set 21 (.j (Z' p.arC:Nat))).set 22 (.j k))) (λk=>h_.set w (.rows 1 (dE (marks f.arC.length (p.arC.take k))))) (λk=>k<=Z' p.arC) (λk=>Z' p.arC-k) 0 (asQ _) Lq (by rw[avA];exact b_) ?_;intro k X;simp only[go_sem];by_cases hlt:k<Z' p.arC;have e:(k:Int)<(Z' p.arC:Nat):=Om;have K:(p.arC.map λn=>[PV.int .i64 n])[k]?=some [.j p.arC[k]]:=by simp[hlt]
 obtain⟨M,N⟩:=hp _ (asS hlt);have B:(p.arC[k]).toNat<(dE (marks f.arC.length (p.arC.take k))).length:=by rw[yP,JG];omega
 have D:(dE (marks f.arC.length (p.arC.take k)))[(p.arC[k]).toNat]?=some [.bool ((p.arC.take k).contains p.arC[k])]:=by unfold dE;rw[atC,yC M N];rfl
 have O:Z' p.arC<=9223372036854775807:=by have:=u;omega
 simp only[go_sem,e,K,M,N,atA,D,B,kB,JH M N,wZz k];refine aE (k+1) hlt Om Lq ?_;rw[atW hlt];exact b_;have e:¬(k:Int)<(Z' p.arC:Nat):=Om;have:k=Z' p.arC:=Om;subst this;rw[atL];simp only[go_sem,e,asO,E,F,J,Int.le_refl,auL];refine aQ λoD hD=>?_;have R:w≠oD:=by rintro rfl;simp only[bK]at hD;cases hD
 rw[yu];simp only[go_sem,asO];refine P7 (C:=C) f hV p w oD R set V (by unfold NQ;exact lM) (by simp only[aO,aC R,if_true]) (by rw[bK]) ?_ ?_;intro S H' U l;simp only[go_sem];exact kD U l.symm;intro S H' L;simp only[go_sem];exact kD Sq L.symm
theorem fg{f:aB}{arO:Int}(h:mZ f arO=true):VF f/\0<=arO/\arO.toNat<Z' f.arF/\arO=(arO.toNat:Nat):=by
 unfold mZ at h;simp only[asV,dT_]at h;exact⟨VF.of h.1,h.2.1,by omega,by omega⟩
theorem vr{f:aB}{arO:Int}(h:mZ f arO=true):mF f arO∈f.arF/\f.arF[arO.toNat]?=some (mF f arO):=by
 obtain⟨_,_,i,_⟩:=fg h;have e:mF f arO=f.arF[arO.toNat]:=by simp[mF,asW,i]
 rw[e];exact⟨asS i,asZ i⟩
theorem Qa(val:∀f:aB,f.Ok->aH C 96 [.agg f.cells] .nil (aK (.j (yL f))))(f:aB)(l:f.Ok)(arO:Int) :
  ZQ.wp C (aV kw.res (aK (.bool (mZ f arO)))) (g_ [.agg f.cells,.j arO]) .nil:=by
 have i:=val f l;unfold yL at i;simp only[go_sem,ZQ,kw];refine aD i Ev ?_;have e:mZ f arO=(cI f&&(decide (0<=arO)&&decide (arO<Z' f.arF))):=rfl;cases hp:cI f with
 |false =>rw[hp,atE]at e;simp only[go_sem,bH (show(1:Int)≠0 by decide)];exact kD Sq e.symm
 |true =>rw[hp,atJ]at e;by_cases c:arO>=0;rw[aW (Om:0<=arO),atJ]at e;simp only[go_sem,bR (show(0:Int)=0 from rfl),c,asO];exact kD (b:=decide (arO<Z' f.arF)) Sq e.symm;rw[bD (Om:¬0<=arO),atE]at e;simp only[go_sem,bR (show(0:Int)=0 from rfl),c,asO];exact kD Sq e.symm
structure Po(C:Ctx):Prop where
 adm:∀(f:aB)(p:bX)(set:I_),VF f->(∀m∈p.arC,0<=m/\m<Z' f.arC)->Fits p.arC->zj f set->aH C 201 [.agg f.cells,.agg p.cells,ints set] .nil (aK (.bool (mX f p set)))
 known:∀(f:aB)(arO:Int),f.Ok->aH C 203 [.agg f.cells,.int .i64 arO] .nil (aK (.bool (mZ f arO)))
theorem EC{m:Nat}(e:m<=1000):∀i,i<=1000->(eK m i).natAbs<=1000^i
 |0,_=>asU _
 |i+1,h=>by have l:=EC e i Om;have hb:((m:Int)-(i:Int)).natAbs<=1000:=Om;rw[eK,Int.natAbs_tdiv,Int.natAbs_mul,awL];exact atT (avI _ _) (awV l hb)
theorem ED{m:Nat}(l:m<=1000){i:Nat}(hi:i<=3):-1000000000<=eK m i/\eK m i<=1000000000:=by
 have h:=EC l i Om;have:1000^i<=1000^3:=awW Om hi;have e:(1000:Nat)^3=1000000000:=by decide
 omega
theorem Ln(m n:Nat)(w:m<=1000)(M:n<=3) :
  TV.wp C (aV YG.res (aK (.j (max (eK m n) 0)))) (g_ [.j m,.j n]) .nil:=by
 simp only[go_sem,TV,YG];refine wp_loop (α:=Nat) (λk=>((((n_.set 0 (.j m)).set 1 (.j n)).set 5 (.j (eK m k))).set 6 (.j k))) (λ_=>.nil) (λk=>k<=n) (λk=>n-k) 0 (asQ _) (by(repeat' (first|exact c_|refine e_ ?_ ?_))<;>first|(simp only[go_sem,eK]<;>rfl)|rfl) a_ ?_;intro k L;simp only[go_sem];by_cases hlt:k<n;have l:(k:Int)<(n:Nat):=Om;obtain⟨b1,b2⟩:=ED w (i:=k) Om;have D:=EC w k Om;have hb:((m:Int)-(k:Int)).natAbs<=1000:=Om;have u:=awV (atT D (awW Om (Om:k<=2))) hb;rw[<-Int.natAbs_mul]at u;have e:(1000:Nat)^2*1000=1000000000:=by decide
 have E:i_.wrap ((m:Int)-(k:Int))=(m:Int)-k:=wrap_i64 Om Om;have F:i_.wrap (eK m k*((m:Int)-(k:Int)))=eK m k*((m:Int)-k):=wrap_i64 Om Om;have J:i_.wrap ((k:Int)+1)=(k:Int)+1:=wrap_i64 Om Om;have y:¬((k:Int)+1)=0:=Om;obtain⟨A,B⟩:=ED w (i:=k+1) Om;have hq:eK m (k+1)=Int.tdiv (eK m k*((m:Int)-k)) ((k:Int)+1):=by rw[eK]
 rw[hq]at A B;have K:i_.wrap (Int.tdiv (eK m k*((m:Int)-k)) ((k:Int)+1))=Int.tdiv (eK m k*((m:Int)-k)) ((k:Int)+1):=wrap_i64 Om Om;simp only[go_sem,l,E,F,J,y,K]
 try simp only[go_sem,wZz k]
 exact aE (k+1) hlt Om (lE1 hq) a_;have l:¬(k:Int)<(n:Nat):=Om;have:k=n:=Om;subst this;simp only[go_sem,l];have x:(if eK m k<0 then 0 else eK m k)=max (eK m k) 0:=by split<;>omega
 rw[x];refine cZ (.inr rfl) Ev ?_;rfl
def zT(k:Nat)(b:Bool):Nat:=if b then k+1 else k
theorem BZ{α:Type}(q:α->Bool)(l:List α){i:Nat}(h:i<Z' l):(l.take (i+1)).countP q=zT ((l.take i).countP q) (q l[i]):=by
 rw[atW h,List.countP_append];unfold zT;cases hq:q l[i]<;>simp[hq]
def JF(sc:L2_)(set:I_)(m:Int)(n i:Nat):PF:=((((((n_.set 1 (ints set)).set 2 (.int .i64 m)).set 7 (.int .i64 n)).set 14 (lay sc)).set 15 (.int .i64 (Z' sc:Nat))).set 16 (.int .i64 i))
def qP(sc:L2_)(set:I_)(m:Int)(n i:Nat)(b:Nat)(s:I_)(j:Nat):PF:=((((((((((n_.set 1 (ints set)).set 2 (.int .i64 m)).set 7 (.int .i64 n)).set 14 (lay sc)).set 15 (.int .i64 (Z' sc:Nat))).set 16 (.int .i64 i)).set 10 (.int .i64 b)).set 20 (ints s)).set 21 (.int .i64 (Z' s:Nat))).set 22 (.int .i64 j))
theorem Lo{K:bP}[Up K](sc:L2_)(set:I_)(B:Z' set<=1000000000000000)(m:Int)(n i b:Nat)(s:I_)(j:Nat)(d:Int)(k:Nat)(x:k<=fT set d){F:PF}{H:PH}
  (y:(((qP sc set m n i b s j).set 13 (.j d)).set 11 (.j k)).le F)
  (w:K (.exit 4) (((qP sc set m n i b s j).set 13 (.j d)).set 11 (.j (fT set d:Nat))) H) :
  aJ.wp C (.loop CV) K F H:=by
 refine wp_loop (α:=Nat) (λk=>((qP sc set m n i b s j).set 13 (.j d)).set 11 (.j k)) (λ_=>H) (λk=>k<=fT set d) (λk=>fT set d-k) k x y b_ ?_;intro k x;have A:=ue set d;by_cases hlt:k<Z' set;have l:(k:Int)<(Z' set:Nat):=Om;have u:(set.map λn=>[PV.int .i64 n])[k]?=some [.j set[k]]:=by simp[hlt]
 by_cases c:k<fT set d;have hb:set[k]<d:=QZ set d c;simp only[go_sem,CV,qP,asO,l,u,hb,wZz k];exact aE (k+1) c Om Lq b_;have e:k=fT set d:=Om;subst e;have hb:¬set[fT set d]<d:=Kd set d hlt;simp only[go_sem,CV,qP,asO,l,u,hb];refine Up.up ?_ w;unfold qP;exact Lq;have l:¬(k:Int)<(Z' set:Nat):=Om;have e:k=fT set d:=Om;subst e;simp only[go_sem,CV,qP,asO,l];refine Up.up ?_ w;unfold qP;exact Lq
theorem Qb{K:bP}[Up K](sc:L2_)(set:I_)(U:Z' set<=1000000000000000)(W:set.Pairwise (· < ·))(m:Int)(n i:Nat)(s:I_)(X:Z' s<=1000000000000000)(E:s.Pairwise (· < ·)){F:PF}{H:PH}
  (L:((qP sc set m n i 0 s 0).set 11 (.j 0)).le F)
  (M:K (.exit 2) ((JF sc set m n i).set 10 (.j (lJ set s:Nat))) H) :
  aJ.wp C (.loop IW) K F H:=by
 refine wp_loop (α:=Nat × Nat) (λt=>(qP sc set m n i ((s.take t.1).countP λd=>set.contains d) s t.1).set 11 (.j t.2)) (λ_=>H) (λt=>t.1<=Z' s/\∀d∈s.drop t.1,t.2<=fT set d) (λt=>Z' s-t.1) (0,0) ⟨asQ _,λd _=>asQ _⟩ (by simpa using L) b_ ?_;rintro⟨j,k⟩ ⟨S,J⟩;simp only at S J;by_cases hlt:j<Z' s;have w:(j:Int)<(Z' s:Nat):=Om;have B:(s.map λn=>[PV.int .i64 n])[j]?=some [.j s[j]]:=by simp[hlt]
 have l:=BZ (λd=>set.contains d) s hlt;have u:s.drop j=s[j]::s.drop (j+1):=avF hlt;have D:k<=fT set s[j]:=J _ (by rw[u];exact axA ..);have arY:∀d∈s.drop (j+1),fT set s[j]<=fT set d:=by intro d O;have:=E.sublist (List.drop_sublist j s);rw[u,List.pairwise_cons]at this;exact Te set (Int.le_of_lt (this.1 d O))
 have e:=Yn W s[j];have N:(s.take j).countP (λd=>set.contains d)<=j:=atT List.countP_le_length (by rw[atF];omega);generalize(s.take j).countP (λd=>set.contains d)=b at *
 generalize s[j]=d at *
 simp only[go_sem,IW,qP,w,B];have Y:=λ{K:bP} [Up K] {F:PF}=>Lo (C:=C) (K:=K) sc set U m n i b s j d k D (F:=F) (H:=H);refine Y (by unfold qP;exact Lq) ?_;have V:=ue set d;by_cases c:fT set d<Z' set;have y:((fT set d:Nat):Int)<(Z' set:Nat):=Om;have x:(set.map λn=>[PV.int .i64 n])[fT set d]?=some [.j set[fT set d]]:=by simp[c]
 have R:set.getD (fT set d) 0=set[fT set d]:=by simp[asW,c]
 rw[aW c,atJ,R]at e;by_cases A:set[fT set d]=d;rw[aW A]at e;rw[e]at l;simp only[go_sem,qP,asO,y,x,bR A,wZz b,wZz j];exact aE (j+1,fT set d) ⟨hlt,arY⟩ sO_ (by(repeat' (first|exact c_|refine e_ ?_ ?_))<;>first|(simp only[go_sem,l,zT]<;>rfl)|rfl) b_;rw[bD A]at e;rw[e]at l;simp only[go_sem,qP,asO,y,x,bH A,wZz j];exact aE (j+1,fT set d) ⟨hlt,arY⟩ sO_ (by(repeat' (first|exact c_|refine e_ ?_ ?_))<;>first|(simp only[go_sem,l,zT]<;>rfl)|rfl) b_;have y:¬((fT set d:Nat):Int)<(Z' set:Nat):=Om;rw[bD c,atE]at e;rw[e]at l;simp only[go_sem,qP,asO,y,wZz j];exact aE (j+1,fT set d) ⟨hlt,arY⟩ sO_ (by(repeat' (first|exact c_|refine e_ ?_ ?_))<;>first|(simp only[go_sem,l,zT]<;>rfl)|rfl) b_;have w:¬(j:Int)<(Z' s:Nat):=Om;have:j=Z' s:=Om;subst this;simp only[go_sem,IW,qP,w,atL];refine Up.up ?_ M;unfold JF lJ;exact Lq
theorem Vd(sc:L2_)(E:Z' sc<=1000000000000000)(x:∀s∈sc,Z' s<=1000000000000000/\s.Pairwise (· < ·))(set:I_)(D:Z' set<=1000000000000000)(y:set.Pairwise (· < ·))(m:Int) :
  ky.wp C (aV mR.res (aK (.j (eO sc set m:Nat)))) (g_ [lay sc,ints set,.j m]) .nil:=by
 simp only[go_sem,ky,mR,asO];refine wp_loop (α:=Nat) (λi=>JF sc set m ((sc.take i).countP λs=>decide (((lJ s set:Nat):Int)>m)) i) (λ_=>.nil) (λi=>i<=Z' sc) (λi=>Z' sc-i) 0 (asQ _) (by unfold JF;exact Lq) a_ ?_;intro i hi;by_cases hlt:i<Z' sc;have l:(i:Int)<(Z' sc:Nat):=Om;have w:(sc.map λr=>[ints r])[i]?=some [ints sc[i]]:=by simp[hlt]
 have e:=BZ (λs=>decide (((lJ s set:Nat):Int)>m)) sc hlt;obtain⟨J,A⟩:=x sc[i] (asS hlt);have B:(sc.take i).countP (λs=>decide (((lJ s set:Nat):Int)>m))<=i:=atT List.countP_le_length (by rw[atF];omega);generalize(sc.take i).countP (λs=>decide (((lJ s set:Nat):Int)>m))=n at *
 generalize sc[i]=s at *
 have u:lJ set s=lJ s set:=TR (y.imp (λh=>by omega)) (A.imp (λh=>by omega));simp only[go_sem,JF,l,w,asO];have one:=λ{K:bP} [Up K] {F:PF} {H:PH}=>Qb (C:=C) (K:=K) sc set D y m n i s J A (F:=F) (H:=H);refine one (by unfold qP;exact Lq) ?_;rw[u];by_cases c:((lJ s set:Nat):Int)>m;rw[aW c]at e;simp only[go_sem,JF,c,wZz n,wZz i];exact aE (i+1) hlt Om (by(repeat' (first|exact c_|refine e_ ?_ ?_))<;>first|(simp only[go_sem,e,zT]<;>rfl)|rfl) a_;rw[bD c]at e;simp only[go_sem,JF,c,wZz i];exact aE (i+1) hlt Om (by(repeat' (first|exact c_|refine e_ ?_ ?_))<;>first|(simp only[go_sem,e,zT]<;>rfl)|rfl) a_;have l:¬(i:Int)<(Z' sc:Nat):=Om;have:i=Z' sc:=Om;subst this;rw[atL];simp only[go_sem,JF,l];refine cZ (.inr rfl) Ev ?_;rfl
def Kept(f:aB)(p:bX)(xs:I_):Prop:=∀i,i<Z' f.arE->dU f p i>0->fO f xs i<=dU f p i
theorem Kept.nil(f:aB)(p:bX):Kept f p []:=λi _ h=>by
 have:fO f [] i=0:=by unfold fO;split<;>simp
 omega
theorem If{f:aB}{p:bX}{xs:I_}:jI f p xs=true↔Kept f p xs:=by
 unfold jI Kept;rw[atI];constructor;intro h i hi e;have:=h i (atQ.2 hi);rw[Bool.not_eq_true',Bool.and_eq_false_iff,decide_eq_false_iff_not,decide_eq_false_iff_not]at this;omega;intro h i hi;have:=h i (atQ.1 hi);rw[Bool.not_eq_true',Bool.and_eq_false_iff,decide_eq_false_iff_not,decide_eq_false_iff_not];omega
def GQ(f:aB)(p:bX)(xs:I_)(d:Nat)(k:Nat):Prop:=∀i,i<Z' f.arE->4-(k:Int)<lvl f i->dU f p i>0->fO f (xs++[(d:Int)]) i<=dU f p i
theorem GQ.zero{f:aB}(hV:VF f){p:bX}(xs:I_)(d:Nat):GQ f p xs d 0:=λi hi h _=>by
 have:=hV.kE hi;omega
theorem GQ.done{f:aB}(hV:VF f){p:bX}(u:dU f p 0<=0){xs:I_}{d:Nat}(h:GQ f p xs d 4):Kept f p (xs++[(d:Int)]):=λi hi l=>by
 have:=hV.kE hi;by_cases e:i=0;subst e;omega;exact h i hi Om l
theorem GQ.next{f:aB}(hV:VF f){p:bX}{xs:I_}{d k:Nat}(y:d<Z' f.arB)(A:k<4)(w:Kept f p xs)(h:GQ f p xs d k)(x:dU f p (upN f k (cP f d))>0->fO f (xs++[(d:Int)]) (upN f k (cP f d))<=dU f p (upN f k (cP f d))):GQ f p xs d (k+1):=λi hi B u=>by
 by_cases e:4-(k:Int)<lvl f i;exact h i hi e u;have l:lvl f i=4-(k:Int):=Om;by_cases c:i=upN f k (cP f d);subst c;exact x u;have:fO f (xs++[(d:Int)]) i=fO f xs i:=by
  unfold fO;split;rfl;rw[List.countP_append,List.countP_cons,List.countP_nil];have:kL f i (d:Int)=false:=by unfold kL dC;rw[l,show(4-(4-(k:Int)).toNat)=k by omega,auL];simp[show ¬upN f k (cP f d)=i from λh=>c h.symm]
  rw[this];simp
 rw[this];exact w i hi u
theorem Qz{q:Nat->Bool}{n:Nat}:∀{i:Nat},i<n->q i=true->((asP n).filter q)[(asP i).countP q]?=some i:=by
 intro i hi hq;have e:asP n=asP i++(i::auX (i+1) (n-i-1)):=by rw[List.range_eq_range',List.range_eq_range',show i::auX (i+1) (n-i-1)=auX i (n-i-1+1)from rfl];have:=List.range'_append (s:=0) (m:=i) (n:=n-i-1+1) (step:=1);rw[Nat.one_mul,atA]at this;rw[this];congr 1;omega
 rw[e,awH,List.filter_cons_of_pos hq,List.countP_eq_length_filter,auS (asU _),auK];rfl
def InR(l:I_)(n:Nat):Prop:=∀x∈l,0<=x/\x<(n:Int)
def XQ(f:aB)(e:L2_)(r:Int)(l:I_):Bool:=!l.isEmpty&&zt f e r l
def Xw(f:aB)(u:L2_)(r:Int)(e:L2_)(d:Nat):L2_:=match e.findIdx? (λl=>zt f u r (l++[(d:Int)]))with
 |some i=>e.set i (e.getD i []++[(d:Int)])
 |none=>e++[[(d:Int)]]
def ru(f:aB)(e:L2_)(r:Int):Nat->L2_
 |0=>[]
 |d+1=>Xw f e r (ru f e r d) d
def P1(f:aB)(e:L2_)(r:Int):Bool:=(asP f.arB.length).all λd=>zt f e r [(d:Int)]
theorem set_perm:∀(e:L2_) (i:Nat) (x:Int),i<Z' e->((e.set i (e.getD i []++[x])).flatten).Perm (e.flatten++[x])
 |[],i,x,h=>by cases h
 |l::e,0,x,_=>by simp only[avR,List.getD_cons_zero,awZ,atV];exact avN.append_left _ List.perm_append_comm
 |l::e,i+1,x,h=>by have:=set_perm e i x (by simpa using h);simp only[List.set_cons_succ,List.getD_cons_succ,awZ,atV];exact avN.append_left _ this
structure Bp(f:aB)(now:L2_)(r:Int)(n:Nat)(w:L2_):Prop where
 ok:∀l∈w,XQ f now r l=true
 len:Z' w.flatten=n
 nd:w.flatten.Nodup
 rng:InR w.flatten n
theorem Bp.put{f:aB}{e:L2_}{r:Int}{n:Nat}{w:L2_}(h:Bp f e r n w)(B:zt f e r [(n:Int)]=true):Bp f e r (n+1) (Xw f e r w n):=by
 have A:∀u:L2_,u.flatten.Perm (w.flatten++[(n:Int)])->(∀l∈u,XQ f e r l=true)->Bp f e r (n+1) u:=λu hp D=>by
  refine⟨D,by rw[hp.length_eq,asX,h.len];rfl,hp.nodup_iff.2 ?_,λx E=>?_⟩;rw[avU];refine⟨h.nd,by simp,λa B b hb=>?_⟩;rw[auB]at hb;subst hb;have:=h.rng a B;omega;have:=hp.mem_iff.1 E;rw[auC,auB]at this;rcases this with E|rfl
  have:=h.rng x E;omega;omega
 unfold Xw;split;rename_i i hi;obtain⟨hlt,hp,-⟩:=List.findIdx?_eq_some_iff_getElem.1 hi;refine A _ (set_perm w i n hlt) λl y=>?_;rcases axB y with y|rfl
 exact h.ok l y;unfold XQ;rw[asW,asZ hlt,auV,hp];simp;refine A _ (by rw[List.flatten_append];simp) λl y=>?_;rw[auC,auB]at y;rcases y with y|rfl
 exact h.ok l y;unfold XQ;rw[B];rfl
theorem yl{f:aB}{e:L2_}{r:Int}(i:P1 f e r=true):∀d,d<=Z' f.arB->Bp f e r d (ru f e r d)
 |0,_=>⟨(λl h=>by cases h),rfl,.nil,λx h=>by cases h⟩
 |d+1,u=>(yl i d Om).put (atI.1 i d (atQ.2 Om))
end Go.PM
namespace Go.RO
open Go
def ins(x:Int):I_->I_
 |[]=>[x]
 |y::ys=>if y<x then y::ins x ys else if y=x then y::ys else x::y::ys
def srt(xs:I_):I_:=xs.mergeSort λx y=>decide (x<=y)
end Go.RO
namespace Go.PM
open Go Go.Na

def JP(l:I_):jY:=λk=>match k with
 |[.int .i64 d]=>if l.contains d then some (.bool true)else none
 |_=>none
theorem Ti:JP []=(λ_=>none:jY):=by
 funext k;unfold JP;split<;>rfl
theorem Tj(l:I_)(d:Int):jY.upd (JP l) [KS.int .i64 d] (.bool true)=JP (l++[d]):=by
 funext k;unfold jY.upd;by_cases c:k=[KS.int .i64 d];subst c;rw[aF rfl];show _=if(l++[d]).contains d then some (PV.bool true)else none
 rw[aF aZ];rw[aC c];unfold JP;split;rename_i e;have i:¬e=d:=λh=>c (by rw[h]);have:(l++[d]).contains e=l.contains e:=by rw[List.contains_eq_any_beq,List.contains_eq_any_beq,List.any_append];simp[i]
 rw[this];rfl




def aaE(c:UInt8)(n:Nat):List UInt8:=[c,UInt8.ofNat (97+n/26%26),UInt8.ofNat (97+n%26)]
def Cd(ds:List cU)(level parent arW:Nat):List cU:=ds++[⟨aaE 110 ds.length,(level:Nat),(parent:Nat),(arW:Nat),mI⟩]
theorem Xb(a b:Nat)(l:a<4294967296)(hb:b<4294967296):(mkT (a:Int) (b:Int)).Ok:=by
 rw[YO];have e:=avI a (asR a b);have i:=avI b (asR a b);have u:nl (a/asR a b)<=1:=(oN _ _).2 Om;have w:nl (b/asR a b)<=1:=(oN _ _).2 Om;refine⟨cE _,cE _,?_,?_⟩;show(aT _).length<=_;rw[cH];omega;show(aT _).length<=_;rw[cH];omega
theorem Db{n:Nat}(h:n<=1000000):eQ (n:Int):=by unfold eQ;omega
def A9(ds:List cU):Prop:=∀x∈ds,x.arR.Ok/\eQ x.level/\eQ x.parent
theorem A9.dom{ds:List cU}(h:A9 ds){level parent arW:Nat}(i:level<=1000)(l:parent<=1000):A9 (Cd ds level parent arW):=λx e=>by
 unfold Cd at e;rw[auC,auB]at e;rcases e with e|rfl
 exact h x e;exact⟨Xb 0 1 aR aR,Db Om,Db Om⟩
structure FM(f:aB):Prop where
 ok:f.Ok
 km:∀p∈f.arF,1<=p.k/\p.k<=2/\0<=p.m/\p.m<=2
 arB:Z' f.arB<=9
 pols:1<=Z' f.arF/\Z' f.arF<=2
 vols:∀x∈f.arD,0<=x.arO/\x.arO<Z' f.arF
theorem FM.pol{f:aB}(h:FM f){v:Nat}(i:v<Z' f.arD):dI f v<Z' f.arF/\bF f v∈f.arF:=by
 have l:=h.vols _ (asS i);have u:dI f v=(f.arD[v]).arO.toNat:=by rw[dI,getD_at i]
 have e:dI f v<Z' f.arF:=Om;refine⟨e,?_⟩;unfold bF;rw[asW,asZ e,auV];exact asS e
theorem FM.dj{f:aB}(h:FM f){v:Nat}(e:v<Z' f.arD):1<=fX f v/\fX f v<=4:=by
 have:=h.km _ (h.pol e).2;unfold fX;omega
abbrev alM(l:I_)(a:Nat):aS:=.rows 2 [[ints l,.int .i64 (a:Nat)]]
structure ME where
 o:Nat
 o4:Nat
 o5:Nat
 vols:Nat
abbrev ME.boxes(E:ME)(l:I_)(ext e i u w wp wv:PV)(a:Nat):List BX:=[(E.o5,flB ext e i u w wp wv),(E.o,alM l a),(E.o4,flZ)]





def anM(ds:List cU)(i:Nat)(d:cU):Prop:=∃e p u:Nat,d.name=aaE 110 (i+1)/\d.level=e/\1<=e/\e<=4/\d.parent=p/\p<=i/\(lvs ds)[p]?=some ((e:Int)-1)/\d.arW=u/\1<=u/\u<=64/\d.arR=mI
structure DV(ds:List cU):Prop where
 root:ds[0]?=some pV
 dom:∀i (hi:i+1<Z' ds),anM ds i ds[i+1]
theorem DV.new{ds:List cU}(h:DV ds){level parent up:Nat}(y:1<=level)(A:level<=4)(hp:(lvs ds)[parent]?=some ((level:Int)-1))(D:1<=up)(E:up<=64) :
  DV (Cd ds level parent up)/\(lvs (Cd ds level parent up))[Z' ds]?=some (level:Int):=by
 have B:parent<Z' ds:=by
  have:=(atX.1 hp).1
  rwa[asO]at this
 unfold Cd;refine⟨⟨by rw[avM Om];exact h.root,λi hi=>?_⟩,?_⟩;simp only[asX,atD]at hi;by_cases hlt:i+1<Z' ds;rw[List.getElem_append_left hlt];obtain⟨e,p,v,g1,g2,g3,g4,l,u,w,x⟩:=h.dom i hlt;exact⟨e,p,v,g1,g2,g3,g4,l,u,GG w,x⟩;have:i+1=Z' ds:=Om;rw[List.getElem_append_right Om];simp only[List.getElem_singleton];exact⟨level,parent,up,by rw[this],rfl,y,A,rfl,by omega,GG hp,rfl,D,E,rfl⟩;unfold lvs;rw[atK,auS (by rw[asO];exact asU _),asO,auK];rfl




theorem aN.store{H:PH}{B:List BX}{L:List LI}(h:aN H B L)(i:Nat){q s n:Nat}{rows:P2_}(hi:L[i]?=some (.osl q s 0 n,s,rows))(k:Nat)(c:V_) :
  ∃rs,H q=some (.rows s rs)/\n<=Z' rs/\rs.take n=rows/\aN (H.set q (.rows s (rs.set k c))) B (L.set i (.osl q s 0 n,s,rows.set k c)):=by
 obtain⟨rs,u,w,e,l⟩:=(h.own i hi).id rfl;injection w with _ _ _ x
 subst x;refine⟨rs,u,e,l,h.JX i hi (.inr ⟨q,rs.set k c,by rw[auD],by rw[bK],by rw[auD,auD];exact e,by rw[auD,List.take_set,l]⟩) (λp hp=>.inl hp) λp _ hp=>?_⟩;have:p≠q:=hp q rfl;rw[aO,aC this]

open Go Go.RowKit Go.Sort Go.Shelf Go.Proofs
section
variable {E:Env} {H:PH} {w:World}
theorem bZ.Bz(hW:bZ E H w){u:World}(y:w.heap.size<=u.heap.size)(hb:∀b,b<w.heap.size->u.heap[b]?=w.heap[b]?):bZ E H u:=by
 refine⟨λb cs h=>?_,λo x h=>?_,λo n h=>?_⟩;obtain⟨e,ty,fr,i⟩:=hW.g b cs h;exact⟨e,ty,fr,(hb b (awB.1 i).1).trans i⟩;obtain⟨e,i⟩:=hW.h o x h;exact⟨Nat.lt_of_lt_of_le e y,i.mono (.refl E) (hb o e)⟩;obtain⟨l,ty,fr,e,i⟩:=hW.s o n h;exact⟨l,ty,fr,(hb o (awB.1 e).1).trans e,i⟩
theorem Ext.Bz{l:Env}{H':PH}{e i:World}(h:Ext E H w l H' e)(x:i.os=e.os)(A:i.tape=e.tape)(hp:i.output=e.output)(y:e.heap.size<=i.heap.size)
  (hb:∀b,b<e.heap.size->i.heap[b]?=e.heap[b]?):Ext E H w l H' i:=
 ⟨h.env,x.trans h.os,A.trans h.tape,hp.trans h.output,atT h.size y,λb hlt u=>(hb b (Nat.lt_of_lt_of_le hlt h.size)).trans (h.block b hlt u),h.new,h.newG⟩
theorem Mu(hW:bZ E H w){o off:Nat}{rs:P2_}{xs:I_}(J:H o=some (.rows 1 rs))(K:(rs.drop off).take xs.length=aM xs):Holds (Value.int .i64) w o off xs.toArray:=by
 obtain⟨-,y,ty,x,L,M,N,h5⟩:=hW.h o _ J;intro j F;have i:j<Z' xs:=by simpa using F
 have l:at2 rs (off+j) 0=some (.j xs[j]):=by
  have e:((rs.drop off).take xs.length)[j]?=(aM xs)[j]?:=by rw[K]
  rw[List.getElem?_take_of_lt i,awM]at e;unfold at2;rw[e];simp[aM,i]
 obtain⟨u,A,e2,B⟩:=h5 _ 0 _ l;cases B;have D:xs.toArray[j]! = xs[j]:=by simp[i]
 refine⟨?_,?_⟩;simp only[World.cell?,x,Option.isSome_none,auQ,if_false];rw[D];simpa using A;simp[World.frozen?,x]
theorem adQ(hW:bZ E H w){o:Nat}{xs ys:I_}(J:H o=some (.rows 1 (aM xs)))(V:Z' ys=Z' xs)(n:Nat)(os:Array Obj) :
  bZ E (H.set o (.rows 1 (aM ys))) (grow (putRow (Value.int .i64) (Sort.ahead w n) o 0 ys.toArray) os)/\Ext E H w E (H.set o (.rows 1 (aM ys))) (grow (putRow (Value.int .i64) (Sort.ahead w n) o 0 ys.toArray) os):=by
 obtain⟨-,l,ty,B,S,U,L,h5⟩:=hW.h o _ J;have D:Z' xs<=l.size:=by simpa[aM]using L
 have M:mW E 1 (aM ys) (putCells (Value.int .i64) 0 ys.toArray l):=by
  refine⟨λr y=>?_,?_,λi j pv hp=>?_⟩;unfold aM at y;rw[atM]at y;obtain⟨n,-,rfl⟩:=y;rfl;simp[aM,putCells];omega
  ·unfold at2 aM at hp;rw[atC,awX]at hp;obtain⟨r,y,hp⟩:=hp;rw[atB]at y;obtain⟨m,F,rfl⟩:=y;have hi:=(atX.1 F).1;cases j with
   |succ j=>simp at hp
   |zero=>
    simp at hp;subst hp;refine⟨.int .i64 m,?_,rfl,.int _ _⟩;have N:i<l.size:=Om;simp only[Nat.mul_one,auI,putCells,Array.getElem?_mapIdx,awR N,atO,asQ,true_and,atA,Nat.sub_zero,List.size_toArray];rw[aF hi];have:ys.toArray[i]! = m:=by obtain⟨h,e⟩:=atX.1 F;simp[h,e]
    rw[this]
 obtain⟨O,R⟩:=hW.YZ J B (by simp[putCells]) M;have u:∀b,b<(w.setRow o (putCells (Value.int .i64) 0 ys.toArray l)).heap.size->(grow (putRow (Value.int .i64) (Sort.ahead w n) o 0 ys.toArray) os).heap[b]?=(w.setRow o (putCells (Value.int .i64) 0 ys.toArray l)).heap[b]?:=by
  intro b hb;have A:b<w.heap.size:=by simpa[World.setRow]using hb
  have K:(grow (putRow (Value.int .i64) (Sort.ahead w n) o 0 ys.toArray) os).heap[b]?=(putRow (Value.int .i64) (Sort.ahead w n) o 0 ys.toArray).heap[b]?:=by unfold grow;exact Array.getElem?_append_left (by simpa using A)
  rw[K];simp only[putRow,mapBlock,World.setRow,Array.getElem?_modify,heap_ahead];by_cases e:o=b;subst e;simp[B,onCells];simp[e]
 have x:(w.setRow o (putCells (Value.int .i64) 0 ys.toArray l)).heap.size<=(grow (putRow (Value.int .i64) (Sort.ahead w n) o 0 ys.toArray) os).heap.size:=by simp[World.setRow]
 exact⟨O.Bz x u,R.Bz rfl rfl rfl x u⟩
end
section
variable {C:Ctx} {ρ:Ren} {name:Nat}
def sorted(xs:I_):I_:=xs.mergeSort λx y=>decide (x<=y)
theorem Ie(L:Lays.n191 C.P ρ)(U:C.num name=ρ.f 191)(R:∃fn,C.P.funcs[C.num name]?=some fn/\fn.body.isSome=true/\(fn.name=="runtime.NumGoroutine")=false)(o:Nat)(xs:I_)(V:xs≠[])(S:Z' xs<4611686018427387904) :
  aH C name [.osl o 1 0 xs.length] (h_.set o (.rows 1 (aM xs))) (λr H'=>r=.tup []/\H'=h_.set o (.rows 1 (aM (sorted xs)))):=by
 refine⟨R,λE w vs W hW A=>?_⟩;have x:(h_.set o (.rows 1 (aM xs))) o=some (.rows 1 (aM xs)):=by simp[cW]
 obtain⟨Z⟩:=vs;cases A with
 |cons K M=>
 cases M;cases K with
 |@osl _ _ _ _ cap n a hb u i B D X y=>
 have l:cap≠0:=by intro e;subst e;exact V (axE Om)
 have O:a=⟨o,0,none⟩:=by
  obtain⟨b,off,Y⟩:=a;simp only at hb u i;subst hb;subst u;rcases i with h|h
  exact(l h).elim;simp at h;subst h;rfl
 subst O;rw[U];have N:=Mu hW (off:=0) (xs:=xs) x (by rw[avG];exact atP (by simp[aM]));refine(Any.sort_Ints L o 0 cap xs w N (hW.h o _ x).1 S).mono λe w' he=>?_;obtain⟨rfl,n,os,rfl⟩:=he;obtain⟨F,J⟩:=adQ hW x (ys:=sorted xs) (by simp[sorted]) n os;rw[show(h_.set o (.rows 1 (aM xs))).set o (.rows 1 (aM (sorted xs)))=h_.set o (.rows 1 (aM (sorted xs)))from PH.ext λq=>by simp only[cW];split<;>rfl]at F J;exact⟨_,.tup [],E,_,rfl,F,.tup #[] rfl aZ,J,rfl,rfl⟩
end
open Go Go.RowKit Go.Sort Go.Shelf Go.Proofs
abbrev lists(e:L2_):PV:=.sl 1 (e.map λw=>[ints w])
abbrev WPs:=List (PV × I_)
def dF(ps:WPs):P2_:=ps.map λp=>[p.1]
def kO(ps:WPs):List LI:=ps.map λp=>(p.1,1,aM p.2)
def wls(ps:WPs):L2_:=ps.map (·.2)
def eZ(e:PV)(ps:WPs):List LI:=(e,1,dF ps)::kO ps
section
variable {H:PH} {B:List BX}
theorem mB(ps:WPs):(dF ps).length=Z' ps:=asO _
theorem YK{ps:WPs}{i:Nat}{v:PV}{w:I_}(hi:ps[i]?=some (v,w)):(kO ps)[i]?=some (v,1,aM w):=by
 unfold kO;rw[atC,hi];rfl
theorem QJ{ps:WPs}{i:Nat}{v:PV}{w:I_}(hi:ps[i]?=some (v,w)):(dF ps)[i]?=some [v]:=by
 unfold dF;rw[atC,hi];rfl
theorem aN.qS(h:aN H B []):aN H B (eZ .aG []):=h.lE 1
theorem aN.inner{e:PV}{ps:WPs}(h:aN H B (eZ e ps)){i:Nat}{v:PV}{w:I_}(hi:ps[i]?=some (v,w)):bC H 1 v (aM w):=h.own (i+1) (YK hi)
theorem aN.outer{e:PV}{ps:WPs}(h:aN H B (eZ e ps)):bC H 1 e (dF ps):=h.own 0 rfl
theorem zU(a b:I_):aM (a++b)=aM a++aM b:=atK
theorem aN.alI{A:PV}{ps:WPs}(h:aN H B (eZ A ps)){i b:Nat}{v y:PV}{w src:I_}{K:R_}(hi:ps[i]?=some (v,w))(J:dG H 1 y=some (aM src))(E:roomFor w.length src.length b)(u:src≠[])
  (D:∀q H',aN H' B ((A,1,dF ps)::(kO ps).set i (.osl q 1 0 (w++src).length,1,aM (w++src)))->K (.osl q 1 0 (w++src).length) H'):kP H 1 b v y K:=by
 have l:aM src≠[]:=λe=>u (axG.1 e);refine h.append (i+1) (YK hi) J (by rw[bV,bV];exact E) λv' H' x F=>?_;obtain⟨q,rfl⟩:=F l;rw[<-zU,bV]at x ⊢;exact D q H' x
theorem aN.aiB{l n i:Nat}{ps:WPs}{v':PV}{u:I_}(h:aN H B ((.osl l 1 0 n,1,dF ps)::(kO ps).set i (v',1,aM u))) :
  ∃rs,H l=some (.rows 1 rs)/\n<=Z' rs/\rs.take n=dF ps/\aN (H.set l (.rows 1 (rs.set i [v']))) B (eZ (.osl l 1 0 n) (ps.set i (v',u))):=by
 obtain⟨rs,w,x,y,A⟩:=h.store 0 rfl i [v'];refine⟨rs,w,x,y,?_⟩;have e:eZ (.osl l 1 0 n) (ps.set i (v',u))=((.osl l 1 0 n,1,dF ps)::(kO ps).set i (v',1,aM u)).set 0 (.osl l 1 0 n,1,(dF ps).set i [v']):=by unfold eZ dF kO;rw[avP,avP];rfl
 rw[e];exact A
theorem aN.adB{i:PV}{ps:WPs}{b:Nat}{y:PV}{K:R_}(h:aN H B (eZ i ps))(D:dG H 1 y=some [[.aG]])(x:roomFor ps.length 1 b)
  (w:∀q H',aN H' B (eZ (.osl q 1 0 (Z' ps+1)) (ps++[(.aG,[])]))->K (.osl q 1 0 (Z' ps+1)) H'):kP H 1 b i y K:=by
 refine h.append 0 (src:=[[.aG]]) rfl D (by rw[mB];exact x) λv' H' u A=>?_;obtain⟨q,rfl⟩:=A aZ;have l:=u.lE 1;rw[asX,mB]at l ⊢;refine w q H' ?_;have e:eZ (.osl q 1 0 (Z' ps+1)) (ps++[(.aG,[])])=(((i,1,dF ps)::kO ps).set 0 (.osl q 1 0 (Z' ps+1),1,dF ps++[[.aG]]))++[(.aG,1,[])]:=by unfold eZ dF kO;rw[atK,atK];rfl
 rw[e];exact l
def qI(e:P2_)(l:L2_):Prop:=Z' e=Z' l/\∀(i:Nat) r w,e[i]?=some r->l[i]?=some w->r=[ints w]\/(r=[.aG]/\w=[])
theorem qI.nil:qI [] []:=⟨rfl,λi r w h=>by cases h⟩
theorem qI.snoc{y:P2_}{A:L2_}{u:PV}{w:I_}(h:qI y A)(D:u=ints w\/(u=.aG/\w=[])):qI (y++[[u]]) (A++[w]):=by
 refine⟨by simp[h.1],λi r x e l=>?_⟩;rcases Nat.lt_trichotomy i y.length with c|c|c
 rw[avM c]at e;rw[avM (by rw[<-h.1];exact c)]at l;exact h.2 i r x e l;subst c;rw[auS (asU _),auK]at e;rw[h.1,auS (asU _),auK]at l;cases e;cases l;rcases D with rfl|⟨rfl,rfl⟩
 exact .inl rfl;exact .inr ⟨rfl,rfl⟩;rw[auS Om,auE (by simp;omega)]at e;cases e
theorem qI.flat{l:P2_}{x:L2_}(h:qI l x):Flat l:=Flat.of λr w c e q s rs=>by
 obtain⟨i,hi⟩:=List.mem_iff_getElem?.1 w;have u:=(atX.1 hi).1;rcases h.2 i r _ hi (asZ (by rw[<-h.1];exact u))with rfl|⟨rfl,-⟩
 rw[auB]at e;subst e;rfl;rw[auB]at e;subst e;rfl
theorem qI.co{y:P2_}{x:L2_}(h:qI y x):Co (.sl 1 y) (lists x):=by
 have u:∀(i:Nat) r t,y[i]?=some r->(x.map λw=>[ints w])[i]?=some t->∃w,t=[ints w]/\(r=[ints w]\/(r=[.aG]/\w=[])):=λi r t l e=>by
  rw[atC]at e;cases D:x[i]? with
  |none=>rw[D]at e;cases e
  |some w =>rw[D]at e;cases e;exact⟨w,rfl,h.2 i r w l D⟩
 refine .sl (by rw[asO,h.1]) (λi r t l e=>?_) (λi j p q hp hq=>?_);obtain⟨w,rfl,A|⟨A,-⟩⟩:=u i r t l e<;>subst A<;>rfl
 ·unfold at2 at hp hq;cases l:y[i]? with
  |none=>rw[l]at hp;cases hp
  |some r=>
   cases e:(x.map λw=>[ints w])[i]? with
   |none=>rw[e]at hq;cases hq
   |some t=>
    rw[l]at hp;rw[e]at hq;obtain⟨w,rfl,A⟩:=u i r t l e;rcases A with rfl|⟨rfl,rfl⟩
    have:some p=some q:=hp.symm.trans hq;cases this;exact .refl _
    ·cases j with
     |zero=>cases hp;cases hq;exact .nil 1
     |succ j=>cases hp
end
def Fx(u:PV):Prop:=∀q s rs,PV.frz q s rs u=u
theorem Fx.int(k:IntKind)(n:Int):Fx (.int k n):=λ_ _ _=>rfl
theorem Fx.bool(b:Bool):Fx (.bool b):=λ_ _ _=>rfl
theorem Fx.sl(n:Nat)(r:P2_):Fx (.sl n r):=λ_ _ _=>rfl
theorem Fx.aG:Fx .aG:=λ_ _ _=>rfl
theorem Fx.ptr(q z i c:Nat):Fx (.ptr q z i c):=λ_ _ _=>rfl
theorem Fx.aU(c:V_):Fx (.aU c):=λ_ _ _=>rfl
theorem bC.cO{H:PH}{s:Nat}{v:PV}{rows:P2_}(h:bC H s v rows)(q z:Nat)(rs:P2_):PV.frz q z rs v=PV.cO q z rs v:=by
 rcases h with⟨-,rfl⟩|⟨p,rs',rfl,-⟩<;>rfl
def Gm(φ:PV->PV)(F:PF):PF:=λi=>(F i).map φ
theorem BV(φ:PV->PV)(F:PF)(i:Nat):Gm φ F i=(F i).map φ:=rfl
theorem BO:∀(ps:WPs){H:PH}{B:List BX}{A:PV}(y:P2_) (l:L2_),qI y l->aN H B ((A,1,y++dF ps)::kO ps)->(∀b∈B,∀q s rs,aS.frz q s rs b.2=b.2) ->
  ∃(φ:PV->PV)(D:PH),Co (φ A) (lists (l++wls ps))/\(∀u,Fx u->φ u=u)/\(∀e:Int,φ (.tup [A,.j e])=.tup [φ A,.j e])/\aN D B []/\(∀F:PF,jM F H (Gm φ F) D)/\∀o,(H o=none\/A.oid=some o\/∃p∈ps,p.1.oid=some o)->D o=none
 |[],H,B,A,y,l,J,h,hB=>by
  have M:y++dF []=y:=auA y;have e1:l++wls []=l:=auA l;rw[M]at h;rw[e1];rcases h.own 0 rfl with⟨R,rfl⟩|⟨q,rs,rfl,_⟩
  ·refine⟨id,H,?_,λ_ _=>rfl,λ_=>rfl,h.Lx 0,λF=>?_,λo ho=>?_⟩
   ·subst R;have:l=[]:=List.length_eq_zero_iff.1 J.1.symm;subst this;exact .nil 1
   ·have:Gm id F=F:=funext λi=>by rw[BV];simp
    rw[this];exact .refl _ _
   ·rcases ho with ho|ho|⟨p,hp,-⟩
    ·exact ho
    ·cases ho
    ·cases hp
  ·obtain⟨rs,Y,Z,z3,z4,L⟩:=h.frz 0 rfl;refine⟨PV.frz q 1 rs,H.frz q 1 rs,?_,λu N=>N _ _ _,λe=>?_,?_,λF=>.step q Y (.refl _ _),λo ho=>?_⟩
   ·rw[z3];exact J.co
   ·show PV.tup [PV.cO q 1 rs (.osl q 1 0 y.length),.j e]=_;rw[Z,z3]
   ·have O:(B.map λb=>(b.1,b.2.frz q 1 rs))=B:=by
     conv=>rhs;rw[<-List.map_id B]
     refine avO λb hb=>?_;rw[hB b hb q 1 rs];rfl
    rw[O]at L;exact L
   ·rw[BH];rcases ho with ho|ho|⟨p,hp,-⟩
    ·rw[ho];split<;>rfl
    ·have:q=o:=by injection ho
     rw[aF this.symm]
    ·cases hp
 |(v,w)::ps,H,B,A,y,l,J,h,hB=>by
  have eo:∀u:PV,y++[[u]]++dF ps=y++[u]::dF ps:=λu=>by rw[atV];rfl
  have ew:l++[w]++wls ps=l++wls ((v,w)::ps):=by rw[atV];rfl
  have ho:bC H 1 v (aM w):=h.own 1 rfl;rcases ho with⟨R,rfl⟩|⟨q,rs,rfl,_⟩
  ·have hw:w=[]:=axG.1 R;have h2:=h.Lx 1;obtain⟨φ,D,K,S,U,V,W,X⟩:=BO ps (y++[[.aG]]) (l++[w]) (J.snoc (.inr ⟨rfl,hw⟩)) (by rw[eo];exact h2) hB;rw[ew]at K;refine⟨φ,D,K,S,U,V,W,λo ho=>X o ?_⟩;rcases ho with ho|ho|⟨p,hp,ho⟩
   ·exact .inl ho
   ·exact .inr (.inl ho)
   ·rcases atG.1 hp with rfl|hp
    ·cases ho
    ·exact .inr (.inr ⟨p,hp,ho⟩)
  ·obtain⟨rs,Y,Z,z3,z4,L⟩:=h.frz 1 rfl;have O:(B.map λb=>(b.1,b.2.frz q 1 rs))=B:=by
    conv=>rhs;rw[<-List.map_id B]
    refine avO λb hb=>?_;rw[hB b hb q 1 rs];rfl
   have y0:PV.cO q 1 rs A=A:=z4 0 _ aR rfl;have E:PV.frz q 1 rs A=A:=((h.own 0 rfl).cO q 1 rs).trans y0;have yp:∀p∈ps,PV.cO q 1 rs p.1=p.1:=λp hp=>by obtain⟨j,hj⟩:=List.mem_iff_getElem?.1 hp;exact z4 (j+2) (p.1,1,aM p.2) Om (YK hj)
   have er:(y++dF ((.osl q 1 0 (aM w).length,w)::ps)).map (λr=>r.map (PV.cO q 1 rs))=y++[[ints w]]++dF ps:=by
    rw[atK,J.flat,atV];congr 1;show[PV.cO q 1 rs (.osl q 1 0 (aM w).length)]::(dF ps).map _=_;rw[Z];have:(dF ps).map (λr=>r.map (PV.cO q 1 rs))=dF ps:=by unfold dF;rw[avT];refine avO λp hp=>?_;show[PV.cO q 1 rs p.1]=_;rw[yp p hp]
    rw[this];rfl
   have ei:(kO ps).map (λx=>(x.1,x.2.1,x.2.2.map λr=>r.map (PV.cO q 1 rs)))=kO ps:=by unfold kO;rw[avT];refine avO λp _=>?_;show(p.1,1,(aM p.2).map λr=>r.map (PV.cO q 1 rs))=_;rw[show(aM p.2).map (λr=>r.map (PV.cO q 1 rs))=aM p.2 from Flat.map p.2 (λx c hc q s rs=>by rw[auB]at hc;subst hc;rfl) q 1 rs]
   have z6:aN (H.frz q 1 rs) B ((A,1,y++[[ints w]]++dF ps)::kO ps):=by rw[O]at L;have z7:aN (H.frz q 1 rs) B ((A,1,(y++dF ((.osl q 1 0 (aM w).length,w)::ps)).map (λr=>r.map (PV.cO q 1 rs)))::(kO ps).map (λx=>(x.1,x.2.1,x.2.2.map λr=>r.map (PV.cO q 1 rs)))):=L;rw[er,ei]at z7;exact z7
   obtain⟨φ,D,K,S,U,V,W,X⟩:=BO ps (y++[[ints w]]) (l++[w]) (J.snoc (.inl rfl)) z6 hB;rw[ew]at K;refine⟨λu=>φ (PV.frz q 1 rs u),D,?_,λu N=>?_,λe=>?_,V,λF=>.step q Y ?_,λo ho=>X o ?_⟩
   ·simp only;rw[E];exact K
   ·simp only;rw[N,S u N]
   ·simp only;rw[E];have yt:PV.frz q 1 rs (.tup [A,.j e])=.tup [PV.frz q 1 rs A,.j e]:=by rcases h.own 0 rfl with⟨-,M⟩|⟨p,rs',M,-⟩<;>(subst M;rfl)
    rw[yt,E,U]
   ·have:Gm (λu=>φ (PV.frz q 1 rs u)) F=Gm φ (F.frz q 1 rs):=funext λi=>by rw[BV,BV,uZ,Option.map_map];rfl
    rw[this];exact W _
   ·rw[BH];rcases ho with ho|ho|⟨p,hp,ho⟩
    ·left;rw[ho];split<;>rfl
    ·exact .inr (.inl ho)
    ·rcases atG.1 hp with rfl|hp
     ·have:q=o:=by injection ho
      left;rw[aF this.symm]
     ·exact .inr (.inr ⟨p,hp,ho⟩)
theorem kF{res:List dX}{F:PF}{H:PH}{i:PV}{ps:WPs}{c:Int}{e:lI}(he:e=.normal\/e=.ret)(h:dX.evs F H res=some [i,.j c])(l:aN H [] (eZ i ps)):aV res (cN (.tup [lists (wls ps),.j c])) e F H:=by
 obtain⟨φ,y,u,-,w,-,x,-⟩:=BO ps [] [] .nil l (λb hb=>by cases hb);refine pE he h ⟨_,_,.nil,x _,a_,φ (bN [i,.j c]),?_,?_⟩;rw[BV,mL,aF rfl];rfl
 ·show cN _ (φ (.tup [i,.j c])) .nil;rw[w];refine⟨.tup rfl λj p q hp hq=>?_,rfl⟩
  match j with
  |0=>cases hp;cases hq;exact u
  |1=>cases hp;cases hq;exact .refl _
  |j+2=>cases hp
theorem bC.lenOf{H:PH}{v:PV}{rows:P2_}{s:Nat}(h:bC H s v rows):PV.sX v=some (.j (Z' rows:Nat)):=by
 rcases h with⟨rfl,rfl⟩|⟨q,rs,rfl,-⟩<;>rfl
theorem aN.ahG{H:PH}{B:List BX}{u:PV}{ps:WPs}(h:aN H B (eZ u ps)){i:Nat}(hi:i<Z' ps) :
  ∃l rs,u=.osl l 1 0 ps.length/\H l=some (.rows 1 rs)/\rs[i]?=some [ps[i].1]/\i<Z' rs:=by
 rcases h.outer with⟨e,-⟩|⟨q,rs,rfl,e,h2,h3⟩
 have:(dF ps).length=0:=by rw[e];rfl
 rw[mB]at this;omega;rw[mB]at h2 h3;refine⟨q,rs,by rw[mB],e,?_,by omega⟩;have:=QJ (ps:=ps) (i:=i) (v:=ps[i].1) (w:=ps[i].2) (by rw[asZ hi]);rw[<-h3,List.getElem?_take_of_lt hi]at this;exact this
theorem aN.adE{H:PH}{B:List BX}{e:PV}{ps:WPs}(h:aN H B (eZ e ps)):PV.sX e=some (.j (Z' ps:Nat)):=by
 have:=h.outer.lenOf
 rwa[mB]at this
theorem BY(ps:WPs):(wls ps).length=Z' ps:=asO _
theorem QU{res:List dX}{F:PF}{H:PH}{i:PV}{ps:WPs}{e:lI}(he:e=.normal\/e=.ret)(h:dX.evs F H res=some [i])(l:aN H [] (eZ i ps)):aV res (cN (lists (wls ps))) e F H:=by
 obtain⟨φ,x,u,-,-,-,w,-⟩:=BO ps [] [] .nil l (λb hb=>by cases hb);refine pE he h ⟨_,_,.nil,w _,a_,φ (bN [i]),?_,?_⟩;rw[BV,mL,aF rfl];rfl;exact⟨u,rfl⟩
def OZ(f:aB)(lv:Int)(i:Nat):Bool:=decide (lvl f i=lv)
def IY(f:aB)(lv:Int):N_:=(asP f.arE.length).filter (OZ f lv)
def fW(f:aB)(lv:Int)(i:Nat):Nat:=(asP i).countP (OZ f lv)
def iH(f:aB)(lv:Int)(k:Nat):I_:=(asP f.arE.length).map λi=>if i<k/\lvl f i=lv then((fW f lv i:Nat):Int)else 0
def rW(f:aB)(lv:Int)(d i:Nat):N_:=(asP d).filter λe=>decide (dC f e lv=i)
def tV(f:aB)(lv:Int)(d:Nat):L2_:=(IY f lv).map λi=>cA (rW f lv d i)
theorem jm(f:aB){lv:Int}(h:lv≠5):jF f lv=tV f lv f.arB.length:=by
 unfold jF;rw[aC h];rfl
theorem yg(f:aB):jF f 5=(asP f.arB.length).map λ(d:Nat)=>[(d:Int)]:=by
 unfold jF;rw[aF rfl]
theorem No(f:aB)(lv:Int)(k:Nat):(iH f lv k).length=Z' f.arE:=by unfold iH;simp
theorem Hr(f:aB)(lv:Int):iH f lv 0=asT f.arE.length 0:=by
 unfold iH;refine avL aZ λi e l=>?_;simp
theorem wx{f:aB}{lv:Int}{k i:Nat}(hi:i<Z' f.arE):(iH f lv k)[i]?=some (if i<k/\lvl f i=lv then((fW f lv i:Nat):Int)else 0):=by
 unfold iH;rw[atC,auT hi];rfl
theorem Nn{f:aB}{lv:Int}{k:Nat}(h:lvl f k=lv):(iH f lv k).set k ((fW f lv k:Nat):Int)=iH f lv (k+1):=by
 refine avL (by simp[iH]) λi l u=>?_;simp only[iH,List.getElem_set,auN,List.getElem_range];by_cases e:k=i;subst e;rw[aF rfl,aF ⟨by omega,h⟩];rw[aC e];have:i<k↔i<k+1:=Om;simp only[this]
theorem Hq{f:aB}{lv:Int}{k:Nat}(h:lvl f k≠lv):iH f lv k=iH f lv (k+1):=by
 refine avL (by simp[iH]) λi l u=>?_;simp only[iH,auN,List.getElem_range];by_cases e:k=i;subst e;rw[aC Om,aC (λx=>h x.2)];have:i<k↔i<k+1:=Om;simp only[this]
theorem O2{f:aB}{lv:Int}{k:Nat}(h:lvl f k=lv):fW f lv (k+1)=fW f lv k+1:=by
 unfold fW OZ;rw[avH,List.countP_append];simp[h]
theorem Ik{f:aB}{lv:Int}{k:Nat}(h:lvl f k≠lv):fW f lv (k+1)=fW f lv k:=by
 unfold fW OZ;rw[avH,List.countP_append];simp[h]
theorem Ua(f:aB)(lv:Int)(k:Nat):fW f lv k<=k:=atT List.countP_le_length aZ
theorem Kg{f:aB}{lv:Int}{a:Nat}(e:a<Z' f.arE)(h:lvl f a=lv):(IY f lv)[fW f lv a]?=some a:=Qz (q:=OZ f lv) e (by rw[OZ,aW h])
theorem Hc(f:aB)(lv:Int)(d i:Nat):rW f lv (d+1) i=if dC f d lv=i then rW f lv d i++[d]else rW f lv d i:=by
 unfold rW;rw[avH,awH];by_cases h:dC f d lv=i<;>simp[h]
theorem mw(f:aB)(lv:Int)(d i:Nat):(rW f lv d i).length<=d:=atT (awJ ..) aZ
theorem Vs(f:aB)(lv:Int):(IY f lv).Nodup:=List.nodup_range.filter _
theorem Zc{f:aB}{lv:Int}{d:Nat}(D:dC f d lv<Z' f.arE)(h:lvl f (dC f d lv)=lv){ps:WPs}(hp:wls ps=tV f lv d){v:PV}{w:I_}(hi:ps[fW f lv (dC f d lv)]?=some (v,w))(v':PV) :
  w.length<=d/\wls (ps.set (fW f lv (dC f d lv)) (v',w++[(d:Int)]))=tV f lv (d+1):=by
 have u:=Kg D h;have y:w=cA (rW f lv d (dC f d lv)):=by
  have l:(wls ps)[fW f lv (dC f d lv)]?=some w:=by unfold wls;rw[atC,hi];rfl
  rw[hp,tV,atC,u]at l;injection l with l
  exact l.symm
 refine⟨by rw[y];unfold cA;rw[asO];exact mw ..,?_⟩;have x:wls (ps.set (fW f lv (dC f d lv)) (v',w++[(d:Int)]))=(tV f lv d).set (fW f lv (dC f d lv)) (w++[(d:Int)]):=by rw[<-hp];unfold wls;rw[avP]
 rw[x,y];unfold tV;refine avL aZ λi l x=>?_;have il:i<(IY f lv).length:=by simpa using x
 rw[List.getElem_set];simp only[auN];rw[Hc];obtain⟨E,A⟩:=atX.1 u;by_cases e:fW f lv (dC f d lv)=i;subst e;rw[aF rfl,A,aF rfl];unfold cA;rw[atK];rfl;rw[aC e,aC];intro e2;have B:(IY f lv)[fW f lv (dC f d lv)]=(IY f lv)[i]:=A.trans e2;exact e ((List.getElem_inj (Vs f lv)).1 B)
def FF(n:Nat):P2_:=(asP n).map λ(d:Nat)=>[ints [(d:Int)]]
theorem xo(n:Nat):(FF n).length=n:=by unfold FF;simp
theorem pe(n:Nat):FF (n+1)=FF n++[[ints [(n:Int)]]]:=by unfold FF;rw[avH,atK];rfl
theorem yf(f:aB):lay (jF f 5)=.sl 1 (FF f.arB.length):=by
 rw[yg];unfold FF;show PV.sl 1 (List.map _ (List.map _ _))=_;rw[avT];rfl
theorem Ij(f:aB)(lv:Int):tV f lv 0=asT (fW f lv f.arE.length) []:=by
 unfold tV fW;rw[List.countP_eq_length_filter];refine avL (by simp[IY]) λi e l=>?_;simp[rW,cA]
theorem qu(f:aB)(lv:Int)(d:Nat):(tV f lv d).length=(IY f lv).length:=by unfold tV;simp
def unB(f:aB)(lv:Int)(e:Nat)(i:PV)(k:Nat):PF:=(((((((n_.set 1 (.int .i64 lv)).set 2 (.aU f.cells)).set 5 (i)).set 7 (.osl e 1 0 f.arE.length)).set 33 (.sl 7 (f.arE.map cU.cells))).set 34 (.int .i64 (Z' f.arE:Nat))).set 35 (.int .i64 k))
def unC(f:aB)(lv:Int)(e:Nat)(i:PV)(d:Nat):PF:=(((((((n_.set 1 (.int .i64 lv)).set 2 (.aU f.cells)).set 5 (i)).set 7 (.osl e 1 0 f.arE.length)).set 54 (.sl 3 (f.arB.map eN.cells))).set 55 (.int .i64 (Z' f.arB:Nat))).set 56 (.int .i64 d))
def unE(f:aB)(lv:Int)(e:Nat)(i:PV)(d at_:Nat):PF:=(((((((((n_.set 1 (.int .i64 lv)).set 2 (.aU f.cells)).set 5 (i)).set 7 (.osl e 1 0 f.arE.length)).set 54 (.sl 3 (f.arB.map eN.cells))).set 55 (.int .i64 (Z' f.arB:Nat))).set 56 (.int .i64 d)).set 10 (.int .i64 d)).set 12 (.int .i64 at_))
variable{C:Ctx}
theorem Qh{K:bP}[Up K](f:aB)(hV:VF f)(lv:Int)(M:1<=lv)(N:lv<=4)(A:Nat)(D:PV)(d:Nat)(L:d<Z' f.arB){F:PF}{H:PH}
  (J:(unE f lv A D d (cP f d)).le F) (E:K (.exit 6) (unE f lv A D d (dC f d lv)) H):aJ.wp C (.loop EE) K F H:=by
 refine wp_loop (α:=Nat) (λj=>unE f lv A D d (upN f j (cP f d))) (λ_=>H) (λj=>(j:Int)<=4-lv) (λj=>4-j) 0 Om (by rw[upN];exact J) b_ ?_;intro j O;obtain⟨l,B⟩:=AU hV L (k:=j) Om;have u:((upN f j (cP f d):Nat):Int)<(Z' f.arE:Nat):=Om;by_cases c:(j:Int)<4-lv;have i:4-(j:Int)>lv:=Om;have x:0<upN f j (cP f d):=by
  rcases avB (upN f j (cP f d))with e|e
  rw[e,hV.root.2.1]at B;omega;exact e
 have y:upN f (j+1) (cP f d)=tA f (upN f j (cP f d)):=rfl;have w:=hV.MY x l;simp only[go_sem,EE,unE,u,fP l,tO l,B,i,MX l,w];exact aE (j+1) Om Om (lE1 y) b_;have i:¬4-(j:Int)>lv:=Om;have e:dC f d lv=upN f j (cP f d):=by rw[dC,show 4-lv.toNat=j by omega]
 rw[e]at E;simp only[go_sem,EE,unE,u,fP l,tO l,B,i];refine Up.up ?_ E;unfold unE;exact Lq
theorem Qg(f:aB)(hV:VF f)(lv:Int)(h1:1<=lv)(h5:lv<=5) :
  ZS.wp C (aV gO.res (cN (lay (jF f lv)))) (g_ [.agg f.cells,.j lv]) .nil:=by
 have Z:=hV.small;have hd:=Z.arB;have μ:=Z.arE;simp only[go_sem,ZS,gO];by_cases c5:lv=5;subst c5;rw[yf];simp only[go_sem,bR (show(5:Int)=5 from rfl),asO];refine wp_loop (α:=T3_) (λs=>(((n_.set 5 (s.2.1)).set 17 (.j (Z' f.arB:Nat))).set 18 (.j s.1))) (λs=>s.2.2) (λs=>s.1<=Z' f.arB/\bC s.2.2 1 s.2.1 (FF s.1)) (λs=>Z' f.arB-s.1) (0,.aG,.nil) ⟨asQ _,.nil⟩ Lq b_ ?_;rintro⟨k,v,H⟩ ⟨hk,hO⟩;simp only at hk hO;simp only[go_sem];by_cases hlt:k<Z' f.arB;have e:(k:Int)<(Z' f.arB:Nat):=Om;simp only[go_sem,e];refine fB (src:=[[ints [(k:Int)]]]) hO (by simp only[go_sem];rfl) (by unfold roomFor;rw[xo];simp only[atD,maxLen];omega) λv' H' V _=>?_;rw[<-pe]at V;simp only[go_sem,wZz k];exact aE (k+1,v',H') ⟨hlt,V⟩ sO_ Lq b_;have e:¬(k:Int)<(Z' f.arB:Nat):=Om;have:k=Z' f.arB:=Om;subst this;simp only[go_sem,e];exact lO (.inr rfl) hO Sq;have h4:lv<=4:=Om;rw[jm f c5];have δ:(Z' f.arE:Int)*((8:Nat):Int)<=140737488355328:=Om;have ε:(Z' f.arE:Int)<=9223372036854775807:=Om;have ζ:(0:Int)<=(Z' f.arE:Int):=Om;simp only[go_sem,bH c5,asO,δ,ε,ζ,Int.le_refl,auL];refine aQ λB hP=>?_;have ez:asT f.arE.length [PV.int .i64 0]=aM (iH f lv 0):=by rw[Hr,oW]
 rw[ez];have U:aN (h_.set B (.rows 1 (aM (iH f lv 0)))) [(B,.rows 1 (aM (iH f lv 0)))] (eZ .aG []):=((aN.nil (H:=h_)).new hP _).qS;simp only[go_sem,asO];refine wp_loop (α:=Nat × PV × WPs × PH) (λs=>unB f lv B s.2.1 s.1) (λs=>s.2.2.2) (λs=>s.1<=Z' f.arE/\wls s.2.2.1=asT (fW f lv s.1) []/\aN s.2.2.2 [(B,.rows 1 (aM (iH f lv s.1)))] (eZ s.2.1 s.2.2.1)) (λs=>Z' f.arE-s.1) (0,.aG,[],_) ⟨asQ _,rfl,U⟩ (by unfold unB;exact Lq) b_ ?_;clear U ez hP;rintro⟨i,vo,ps,H⟩ ⟨hi,l,y⟩;simp only at hi l y;simp only[go_sem,unB];by_cases hlt:i<Z' f.arE;have e:(i:Int)<(Z' f.arE:Nat):=Om;have ι:Z' ps=fW f lv i:=by have:=congrArg awE l;rw[BY,List.length_replicate]at this;exact this
 have O:=Ua f lv i;simp only[go_sem,e,fP hlt];refine aQ λq hq=>?_;have E:=y.at 0 rfl;have n1:¬B=q:=by rintro rfl;rw[E]at hq;cases hq
 have L:=λx=>y.new hq x;simp only[go_sem,tO hlt];by_cases c:lvl f i=lv;have X:=y.adE;have D:=wx (f:=f) (lv:=lv) (k:=i) hlt;have A:(aM (iH f lv i))[i]?=some [.j (if i<i/\lvl f i=lv then((fW f lv i:Nat):Int)else 0)]:=by unfold aM;rw[atC,D];rfl
 have θ:i<(aM (iH f lv i)).length:=by rw[bV,No];exact hlt
 have R:(aM (iH f lv i)).set i [.j (Z' ps:Nat)]=aM (iH f lv (i+1)):=by rw[iI,ι,Nn c]
 have h3:=λx=>(L x).set 0 rfl (.rows 1 (aM (iH f lv (i+1))));simp only[go_sem,bR c,X,e,n1,E,A,θ,atA,R];refine(h3 _).adB Sq (by unfold roomFor;simp only[maxLen];omega) λq2 H2 h4=>?_;simp only[go_sem,wZz i];refine aE (i+1,PV.osl q2 1 0 (Z' ps+1),ps++[(PV.aG,[])],H2) ⟨hlt,?_,h4.wC 1⟩ sO_ Lq b_;simp only;rw[O2 c,List.replicate_succ'];unfold wls at l ⊢;rw[atK,l];rfl;have R:iH f lv i=iH f lv (i+1):=Hq c;simp only[go_sem,bH c,wZz i];refine aE (i+1,vo,ps,_) ⟨hlt,?_,?_⟩ sO_ Lq b_;simp only;rw[Ik c];exact l;simp only;rw[<-R];exact(L _).wC 1;have e:¬(i:Int)<(Z' f.arE:Nat):=Om;have:i=Z' f.arE:=Om;subst this;rw[<-Ij]at l;simp only[go_sem,e,asO];refine wp_loop (α:=Nat × PV × WPs × PH) (λs=>unC f lv B s.2.1 s.1) (λs=>s.2.2.2) (λs=>s.1<=Z' f.arB/\wls s.2.2.1=tV f lv s.1/\aN s.2.2.2 [(B,.rows 1 (aM (iH f lv f.arE.length)))] (eZ s.2.1 s.2.2.1)) (λs=>Z' f.arB-s.1) (0,vo,ps,H) ⟨asQ _,l,y⟩ (by unfold unC;exact Lq) b_ ?_;clear l y hi hlt e;rintro⟨d,vo,ps,H⟩ ⟨η,l,y⟩;simp only at η l y;simp only[go_sem,unC];by_cases hlt:d<Z' f.arB;have e:(d:Int)<(Z' f.arB:Nat):=Om;simp only[go_sem,e,kC hlt];refine aQ λq hq=>?_;have E:=y.at 0 rfl;have n1:¬B=q:=by rintro rfl;rw[E]at hq;cases hq
 have L:=λx=>(y.new hq x).wC 1;simp only[go_sem,hV.GH hlt];generalize hx:aS.rows 3 _=x;have L:=L x;have M:=L.at 0 rfl;generalize H.set q x=H1 at *
 have up:=λ{K:bP} [Up K] {F:PF} {H:PH}=>Qh (C:=C) (K:=K) f hV lv h1 h4 B vo d hlt (F:=F) (H:=H);refine up (by unfold unE;exact Lq) ?_;obtain⟨a1,a2⟩:=AU hV hlt (k:=4-lv.toNat) Om;have a3:lvl f (dC f d lv)=lv:=by rw[dC,a2];omega
 have a1:dC f d lv<Z' f.arE:=a1;have γ:((dC f d lv:Nat):Int)<(Z' f.arE:Nat):=Om;have D:=wx (f:=f) (lv:=lv) (k:=Z' f.arE) a1;rw[aF ⟨a1,a3⟩]at D;have A:(aM (iH f lv f.arE.length))[dC f d lv]?=some [.j (fW f lv (dC f d lv):Nat)]:=by unfold aM;rw[atC,D];rfl
 have J:fW f lv (dC f d lv)<Z' ps:=by have:=(atX.1 (Kg a1 a3)).1;rw[<-BY,l,qu];exact this
 have N:=λv'=>Zc (ps:=ps) a1 a3 l (asZ J) v';have O:ps[fW f lv (dC f d lv)]?=some (ps[fW f lv (dC f d lv)].1,ps[fW f lv (dC f d lv)].2):=by rw[asZ J]
 have ν:ps[fW f lv (dC f d lv)]=(ps[fW f lv (dC f d lv)].1,ps[fW f lv (dC f d lv)].2):=rfl;obtain⟨qo,rs,rfl,b1,b2,b3⟩:=L.ahG J;generalize ps[fW f lv (dC f d lv)].2=w at *
 generalize ps[fW f lv (dC f d lv)].1=v at *
 generalize fW f lv (dC f d lv)=u at *
 have β:(u:Int)<(Z' ps:Nat):=Om;have ξ:=(N .aG).1;simp only[go_sem,unE];refine bE (h_.set B (.rows 1 (aM (iH f lv f.arE.length)))) cR (d_ a_ M) ?_;simp only[go_sem,γ,M,A,atA,β,b1,b2,b3];refine L.alI (src:=[(d:Int)]) O (by simp only[go_sem];rfl) (by unfold roomFor;simp only[atD,maxLen];omega) aZ λq2 H2 h5=>?_;have Y:=h5.at 0 rfl;refine⟨d_ a_ Y,?_⟩;obtain⟨S,e1,e2,e3,h6⟩:=h5.aiB;have κ:u<Z' S:=Om;have W:S[u]?=some [v]:=by have:=QJ O;rw[<-e3,List.getElem?_take_of_lt J]at this;exact this
 refine bE .nil cR a_ ?_;simp only[go_sem,e1,κ,W,wZz d];refine⟨a_,?_⟩;refine aE (d+1,PV.osl qo 1 0 ps.length,ps.set u (PV.osl q2 1 0 (w++[(d:Int)]).length,w++[(d:Int)]),H2.set qo (.rows 1 (S.set u [.osl q2 1 0 (w++[(d:Int)]).length]))) ⟨hlt,(N _).2,h6⟩ sO_ Lq (by simp only;exact b_);have e:¬(d:Int)<(Z' f.arB:Nat):=Om;have:d=Z' f.arB:=Om;subst this;simp only[go_sem,e];rw[<-l];exact QU (.inr rfl) Sq (y.wC 0)
def sM.rs : sM->List Rg
 | .seq a b=>a.rs++b.rs | .range _ _ _ _ _ a b c=>a.rs++b.rs++c.rs
def rsT(ro:N_)(f:Func)(x:{l:List Rg//((Go.Proofs.YtfeiflgckfjohaaGreatDoor.T ro).zu f).map (·.body.rs)=some l}:=by refine⟨?_,?_⟩;rotate_left;conv=>lhs;reduce;try simp only[GN,UInt8.reduceOfNat,Int.reduceOfNat,Int.reduceNegSucc]):List Rg:=x.1
def jH(q:List Rg)(k:Nat)(x:{l:Rg//q.getD k []=l}:=by refine⟨?_,?_⟩;rotate_left;conv=>lhs;reduce;try simp only[GN,UInt8.reduceOfNat,Int.reduceOfNat,Int.reduceNegSucc]):Rg:=x.1
@[go_sem ↓] theorem aqQ(q:List Rg)(k:Nat)(l:Rg)(h:q.getD k []=l):jH q k ⟨l,h⟩=l:=(rfl)
end Go.PM
namespace Go.PM
open Go
def uY:=rsT [2,3,23] Proofs.Tryz.f98
def u0:aJ:=(.region (jH uY 3))
def u1:aJ:=(.block 1 (.seq (.region (jH uY 4)) (.cond (.tmp 20) (.region (jH uY 5)) .skip)))
def lf:aJ:=(.seq (.region (jH uY 6)) .ret)
def NU(e i:Code):sM:=(.seq (.region (jH uY 0)) (.seq (.region (jH uY 1)) (.seq (.region (jH uY 2)) (.range (.tmp 15) 26 16 e i u0 u1 lf))))
def Vk:N_:=[2,3,23]
def zo(e i:Code):GR:=⟨2,26,NU e i,[.tmp 4]⟩
def eW:=rsT [2,3,96,101] Proofs.Tryz.f20
def UA:aJ:=(.seq (.region (jH eW 14)) (.seq (.cond (.tmp 78) .skip (.exit 4)) (.seq (.block 5 (.seq (.region (jH eW 15)) (.region (jH eW 16)))) (.region (jH eW 17)))))
def UB:aJ:=(.seq (.region (jH eW 11)) (.seq (.cond (.tmp 69) .skip (.exit 2)) (.seq (.block 3 (.seq (.region (jH eW 12)) (.seq (.region (jH eW 13)) (.block 4 (.loop UA))))) (.region (jH eW 18)))))
def UC:aJ:=(.seq (.region (jH eW 21)) (.seq (.cond (.tmp 89) .skip (.exit 6)) (.seq (.block 7 (.seq (.region (jH eW 22)) (.seq (.region (jH eW 23)) (.cond (.tmp 93) (.region (jH eW 24)) .skip)))) (.region (jH eW 25)))))
def TY:aJ:=(.region (jH eW 8))
def TZ:aJ:=(.block 1 (.seq (.region (jH eW 9)) (.seq (.seq (.region (jH eW 10)) (.block 2 (.loop UB))) (.seq (.region (jH eW 19)) (.seq (.seq (.region (jH eW 20)) (.block 6 (.loop UC))) (.region (jH eW 26)))))))
def k9:aJ:=(.seq (.region (jH eW 27)) .ret)
def NT(e i:Code):sM:=(.seq (.region (jH eW 0)) (.seq (.seq (.region (jH eW 1)) (.cond (.tmp 39) (.seq (.region (jH eW 2)) .ret) .skip)) (.seq (.region (jH eW 3)) (.seq (.seq (.region (jH eW 4)) (.cond (.tmp 55) (.seq (.region (jH eW 5)) .ret) .skip)) (.seq (.region (jH eW 6)) (.seq (.region (jH eW 7)) (.range (.tmp 60) 104 61 e i TY TZ k9)))))))
def Vj:N_:=[2,3,96,101]
def Lu(e i:Code):GR:=⟨2,104,NT e i,[.tmp 4,.tmp 5]⟩
variable{C:Ctx}
theorem Rj{H:PH}{name:Nat}{pre:V_}{v u:PV}{l:I_}(A:Plain u)(hp:∀x∈pre,Fx x)(y:bC H 1 v (aM l))(i:l≠[])(h:aH C name (pre++[ints l]) .nil (aK u)) :
  ∃q,v=.osl q 1 0 l.length/\(∃x,H q=some x)/\aH C name (pre++[v]) (H.only [q]) (λr H'=>r=u/\H'=H.only [q]):=by
 rcases y with⟨w,-⟩|⟨q,rs,rfl,h1,h2,h3⟩
 ·exact absurd (axG.1 w) i
 ·rw[bV]at h2 h3 ⊢;refine⟨q,rfl,⟨_,h1⟩,?_⟩;rw[gt h1];refine aH.Wu A ?_;have e:pre.map (PV.frz q 1 rs)=pre:=by
   conv=>rhs;rw[<-List.map_id pre]
   exact avO λx B=>hp x B q 1 rs
  rw[atK,e,atU,auH,BG h2,h3];exact h
theorem GF{α:Type}(L:List α)(x:α)(n:Nat)(h:Z' L=n):(L++[x])[n]?=some x:=by
 subst h;simp
theorem JJ(e:PV)(ps:WPs):(eZ e ps).length=Z' ps+1:=by unfold eZ kO;simp
structure agC(f:aB)(now:L2_)(r:Int)(d:Nat)(ps:WPs):Prop where
 eq:wls ps=ru f now r d
 num:Z' ps<=d
 len:∀i (h:i<Z' ps),1<=(ps[i].2).length/\(ps[i].2).length<=d
theorem agC.of{f:aB}{e:L2_}{r:Int}(A:P1 f e r=true){d:Nat}(B:d<=Z' f.arB){ps:WPs}(h:wls ps=ru f e r d):agC f e r d ps:=by
 have k:=yl A d B;rw[<-h]at k;have u:∀i (h:i<Z' ps),ps[i].2∈wls ps:=λi hi=>atM.2 ⟨ps[i],asS hi,rfl⟩;have ne:∀l∈wls ps,1<=Z' l:=λl D=>by
  have:=k.ok l D;unfold XQ at this;cases l with
  |nil=>cases this
  |cons x xs=>rw[atZ];omega
 refine⟨h,?_,λi hi=>⟨ne _ (u i hi),?_⟩⟩;have y:(wls ps).length<=(wls ps).flatten.length:=by
  generalize wls ps=w at ne
  induction w with
  |nil=>exact asU _
  |cons l w F =>have:=F λx E=>ne x (awN _ E);have:=ne l aZ;rw[awZ,asX,atZ];omega
 rw[BY,k.len]at y;exact y;have:=(List.sublist_flatten_of_mem (u i hi)).length_le;rw[k.len]at this;exact this
def agB(n top:Int)(r:PV)(H':PH):Prop:=∃o1 o2,o1≠o2/\r=.fn 211 [.ptr o1 1 0 0,.ptr o2 1 0 0]/\H'=(h_.set o1 (.rows 1 [[.int .i64 n]])).set o2 (.rows 1 [[.int .i64 top]])
theorem B9(n top:Int):lg.wp C (aV zp.res (agB n top)) (g_ [.j n,.j top]) .nil:=by
 simp only[go_sem,lg,zp];refine aQ λo1 l=>?_;simp only[go_sem];refine aQ λo2 e=>?_;have i:o1≠o2:=by rintro rfl;simp only[bK]at e;cases e
 simp only[go_sem];exact bM (.inr rfl) _ (vs:=[.fn 211 [.ptr o1 1 0 0,.ptr o2 1 0 0]]) Sq b_ ⟨o1,o2,i,rfl,rfl⟩
structure LZ(C:Ctx):Prop where
 subs:∀n top:Int,aH C 210 [.int .i64 n,.int .i64 top] .nil (agB n top)
 iter:∀(l o1 o2 n top:Nat)(J:Nat->PH->Prop)(ss:List N_),ss=dQ top n 0->1<=n->n<=1000->top<=1000 ->
  (∀k (hk:k<Z' ss) G c,J k G->G c=none->MC C l [.osl c 1 0 n] (G.set c (.rows 1 (aM (cA ss[k])))) (λr H'=>r=.bool true/\J (k+1) H')) ->
  ∀G0 H:PH,J 0 G0->G0.le H->H o1=some (.rows 1 [[.int .i64 n]])->H o2=some (.rows 1 [[.int .i64 top]])->G0 o1=none->G0 o2=none->aH C 211 [DQ l,.ptr o1 1 0 0,.ptr o2 1 0 0] H (λ_ H'=>∃G,J ss.length G/\G.le H')
structure Pp(C:Ctx):Prop extends Po C,LZ C
theorem mz(Lb:LZ C){F:PF}{H:PH}{n m t o1 o2 top:Nat}{i u:Code}{R S:aJ}{E:List N_}(Z:E=dQ top n 0)(h1:1<=n)(hn:n<=1000)(ht:top<=1000)(α:o1≠o2)
  (I:Nat->PH->Prop) (A:PH) (hI:I 0 A) (O:A.le H) (b1:H o1=some (.rows 1 [[.j n]])) (b2:H o2=some (.rows 1 [[.j top]])) (g1:A o1=none) (g2:A o2=none)
  (hY:∀(l:Nat)(x:PV)(J:PH)(J':PH->Prop),J l=none->R.wp C (gL C (S.wp C) (JA J')) (F.set t x) J->MC C l [x] (J.set l (.loop F m t i u)) (λr H'=>r=.bool true/\∃H2,J' H2/\H2 l=none/\H'=H2.set l (.loop F m t i u)))
  (hb:∀k (hk:k<Z' E) G c,I k G->G c=none->R.wp C (gL C (S.wp C) (JA (I (k+1)))) (F.set t (.osl c 1 0 n)) (G.set c (.rows 1 (aM (cA E[k]))))) :
  Bc C 211 [.ptr o1 1 0 0,.ptr o2 1 0 0] F H m t i u (I E.length):=by
 intro l U;have L:A l=none:=by
  cases h:A l with
  |none=>rfl
  |some x=>rw[O l x h]at U;cases U
 have n1:¬o1=l:=λe=>by rw[e,U]at b1;cases b1
 have n2:¬o2=l:=λe=>by rw[e,U]at b2;cases b2
 refine(Lb.iter l o1 o2 n top (λk G=>∃w,I k w/\w l=none/\G=w.set l (.loop F m t i u)) E Z h1 hn ht ?_ (A.set l (.loop F m t i u)) (H.set l (.loop F m t i u)) ⟨A,hI,L,rfl⟩ ?_ ?_ ?_ ?_ ?_).post ?_;rintro k hk G c ⟨w,K,y,rfl⟩ W;have M:¬c=l:=λe=>by rw[e,bK]at W;cases W
 have N:¬l=c:=λe=>M e.symm;have X:w c=none:=by rwa[aO,aC M]at W
 have:=hY l (.osl c 1 0 n) (w.set c (.rows 1 (aM (cA E[k])))) (I (k+1)) (by rw[aO,aC N];exact y) (hb k hk w c K X);have e:(w.set c (.rows 1 (aM (cA E[k])))).set l (.loop F m t i u)=(w.set l (.loop F m t i u)).set c (.rows 1 (aM (cA E[k]))):=by refine PH.ext λo=>?_;simp only[aO];by_cases V:o=l;subst V;rw[aF rfl,aC N,aF rfl];rw[aC V,aC V]
 rw[e]at this;exact this;intro o x D;rw[aO]at D ⊢;split at D;rename_i e;rw[aF e];exact D;rename_i e;rw[aC e];exact O o x D;rw[aO,aC n1];exact b1;rw[aO,aC n2];exact b2;rw[aO,aC n1];exact g1;rw[aO,aC n2];exact g2;rintro r H' ⟨G,⟨w,K,y,rfl⟩,B⟩;have Y:H' l=some (.loop F m t i u):=B l _ (by rw[bK]);exact⟨r,.refl _,w,K,(λo x D=>B o x (by
  have:¬o=l:=λe=>by rw[e,y]at D;cases D
  rw[aO,aC this];exact D)),y,Y⟩
def Z2(i:Nat)(l:L2_)(G:PH):Prop:=∃e ps,aN G [(i,.rows 1 [[e]])] (eZ e ps)/\wls ps=l
theorem B8(Lb:LZ C)(J K:Code)(f:aB)(hd:Z' f.arB<=12)(p:bX)(adm:∀set,zj f set->set∈(dQ f.arB.length (gR p).toNat 0).map cA->aH C 201 [.agg f.cells,.agg p.cells,ints set] .nil (aK (.bool (mX f p set))))(hk:1<=p.k)(μ:p.k<=6)(hm:0<=p.m)(ν:p.m<=4) :
  (NU J K).wp C (aV (zo J K).res (cN (lay (gQ f p)))) (g_ [.agg f.cells,.agg p.cells]) .nil:=by
 obtain⟨n,hn⟩:∃n:Nat,(n:Int)=gR p:=⟨(p.k+p.m).toNat,by unfold gR;omega⟩;have β:1<=n/\n<=10:=by unfold gR at hn;omega
 have hw:i_.wrap (p.k+p.m)=(n:Int):=by rw[hn];exact wrap_i64 Om Om
 simp only[go_sem,NU,sM.wp,zo];refine aQ λD γ=>?_;simp only[go_sem,hw,asO];refine iL (Lb.subs n f.arB.length) Sq a_ ?_;rintro r H' ⟨o1,o2,w,rfl,rfl⟩ R;have X:¬D=o1:=λe=>by have:=R o1 _ (by rw[aO,aC w,bK]) rfl;rw[<-e,bK]at this;cases this
 have Y:¬D=o2:=λe=>by have:=R o2 _ (by rw[bK]) rfl;rw[<-e,bK]at this;cases this
 have ι:¬o2=o1:=λe=>w e.symm;simp only[go_sem];generalize M:PF.set _ 15 _=F;have f2:F 2=some (.aU f.cells):=by rw[<-M];simp only[go_sem]
 have f3:F 3=some (.aU p.cells):=by rw[<-M];simp only[go_sem]
 have f5:F 5=some (.ptr D 1 0 0):=by rw[<-M];simp only[go_sem]
 have κ:F 15=some (.fn 211 [.ptr o1 1 0 0,.ptr o2 1 0 0]):=by rw[<-M];simp only[go_sem]
 clear M;have V:dQ f.arB.length n 0=dQ f.arB.length (gR p).toNat 0:=by rw[<-hn];rfl
 have O:=tF f.arB.length n 0;have hE:gQ f p=((dQ f.arB.length n 0).map cA).filter (mX f p):=by rw[V];rfl
 refine⟨211,[.ptr o1 1 0 0,.ptr o2 1 0 0],Z2 D (((((dQ f.arB.length n 0).take (dQ f.arB.length n 0).length)).map cA).filter (mX f p)),rfl,λhY=>?_,λH2 N=>?_⟩
 ·refine mz (m:=26) (t:=16) Lb rfl β.1 Om Om w (λk=>Z2 D ((((dQ f.arB.length n 0).take k).map cA).filter (mX f p))) (h_.set D (.rows 1 [[.aG]])) ⟨.aG,[],((aN.nil (H:=h_)).new γ _).qS,rfl⟩ ?_ ?_ ?_ ?_ ?_ hY ?_;intro o x ho;rw[aO]at ho;split at ho;rename_i e;rw[iM];simp only[aO,e,aC X,aC Y,MQ,if_true];exact ho;cases ho;rw[iM];simp only[aO,aC w,if_true];rw[iM];simp only[aO,if_true];rw[aO,aC (λe=>X e.symm)];rfl;rw[aO,aC (λe=>Y e.symm)];rfl;rintro k hk G c ⟨vo,ps,E,A⟩ hc;have δ:=O _ (asS hk);have ε:(dQ f.arB.length n 0).take (k+1)=(dQ f.arB.length n 0).take k++[(dQ f.arB.length n 0)[k]]:=atW hk;have S:cA (dQ f.arB.length n 0)[k]∈(dQ f.arB.length (gR p).toNat 0).map cA:=by rw[<-V];exact List.mem_map_of_mem (asS hk)
  generalize(dQ f.arB.length n 0)[k]=s at *
  obtain⟨sl,Z,-⟩:=δ;have l:((((dQ f.arB.length n 0).take (k+1)).map cA).filter (mX f p))=wls ps++if mX f p (cA s)then[cA s]else[]:=by rw[ε,atK,awH,A];congr 1;by_cases c:mX f p (cA s)<;>simp[c]
  have U:(aM (cA s)).length=n:=by rw[bV,gT,sl]
  have L:=E.Eb (s:=1) (rows:=aM (cA s)) hc;have hO:bC (G.set c (.rows 1 (aM (cA s)))) 1 (.osl c 1 0 n) (aM (cA s)):=by
   have:=L.own ((eZ vo ps).length) (GF _ _ _ rfl)
   rwa[U]at this
  have ξ:Z' ps<=4096:=by
   rw[<-BY,A];refine atT (awJ ..) ?_;rw[asO,atF];have h1:=tG f.arB.length n 0;have L:2^(Z' f.arB-0)<=2^12:=awW Om Om;have e:(2:Nat)^12=4096:=by decide
   omega
  have i:=adm (cA s) ⟨by rw[gT];omega,λx W=>by obtain⟨y,hy,rfl⟩:=atM.1 W;have:=Z y hy;omega⟩ S;obtain⟨q,e1,W,i⟩:=Rj (C:=C) (name:=201) (pre:=[.agg f.cells,.agg p.cells]) (u:=.bool (mX f p (cA s))) (.bool _) (λx W=>by
   simp only[atG,atS,or_false]at W;rcases W with rfl|rfl
   exact λ_ _ _=>rfl;exact λ_ _ _=>rfl) hO (λe=>by have:=congrArg awE e;rw[gT,sl]at this;simp at this;omega) i
  have eq:c=q:=by injection e1
  subst eq;have θ:=L.at 0 rfl;have η:¬D=c:=λe=>by have:=E.at 0 rfl;rw[e,hc]at this;cases this
  simp only[go_sem,u0,u1,f2,f3];refine AY (cs:=[]) (vs:=[.agg f.cells,.agg p.cells,.osl c 1 0 n]) (by rw[auA];exact i) Sq (YT _ _) ?_;cases B:mX f p (cA s)with
  |true=>
   rw[B,aF rfl]at l;simp only[go_sem,f5,η,E.at 0 rfl];refine L.append 0 (rows:=dF ps) (src:=[[.osl c 1 0 n]]) rfl Sq (by unfold roomFor;rw[mB];simp only[atD,maxLen];omega) λv' H' h3 ζ=>?_;obtain⟨q2,rfl⟩:=ζ aZ;have α:=h3.at 0 rfl;have h4:=h3.set 0 rfl (aS.rows 1 [[PV.osl q2 1 0 (dF ps++[[PV.osl c 1 0 n]]).length]]);simp only[go_sem,α,f5,atG,atS,or_false,forall_eq];refine⟨PV.osl q2 1 0 (dF ps++[[PV.osl c 1 0 n]]).length,ps++[(.osl c 1 0 n,cA s)],?_,?_⟩;have e:eZ (.osl q2 1 0 (dF ps++[[PV.osl c 1 0 n]]).length) (ps++[(PV.osl c 1 0 n,cA s)])=((eZ vo ps)++[(PV.osl c 1 0 (aM (cA s)).length,1,aM (cA s))]).set 0 (.osl q2 1 0 (dF ps++[[PV.osl c 1 0 n]]).length,1,dF ps++[[PV.osl c 1 0 n]]):=by rw[U];unfold eZ dF kO;rw[atK,atK];rfl
   rw[e];exact h4;rw[l];unfold wls;rw[atK];rfl
  |false =>rw[B,aC aR,auA]at l;simp only[go_sem];exact⟨vo,ps,L.sub (avE.refl _) (List.sublist_append_left ..),l.symm⟩
 rw[atL,<-hE]at N;obtain⟨vo,ps,E,A⟩:=N;have hb:=E.at 0 rfl;simp only[go_sem,lf,f5,hb];rw[<-A];exact QU (.inr rfl) Sq (E.wC 0)
def sP(f:aB)(arO:Int):Int:=if mZ f arO then(if f.arB.length>12 then 2 else 0)else 1
def zK(f:aB)(arO:Int):L2_:=if sP f arO=0 then gQ f (mF f arO)else[]
structure Pq(C:Ctx):Prop extends Pp C where
 sets:∀(f:aB)(p:bX),VF f->Z' f.arB<=12->(∀m∈p.arC,0<=m/\m<Z' f.arC)->Fits p.arC->1<=p.k->p.k<=6->0<=p.m->p.m<=4->aH C 229 [.agg f.cells,.agg p.cells] .nil (aK (lay (gQ f p)))
def cyS(r:PV):Spec:=λ_ _=>some ([],λ_=>aK r)
theorem P8(A:Pq C)(f:aB)(B:f.Ok)(arO:Int) :
  ZM.wp C (aV call17.res (cN (.tup [lay (zK f arO),.j (sP f arO)]))) (g_ [.agg f.cells,.j arO]) .nil:=by
 have hB:zK f arO=if sP f arO=0 then gQ f (mF f arO)else[]:=rfl
 have i:sP f arO=if mZ f arO then(if f.arB.length>12 then 2 else 0)else 1:=rfl
 simp only[go_sem,ZM,call17];refine aD (A.known f arO B) Ev ?_;cases x:mZ f arO with
 |false =>rw[x,aC aR]at i;rw[i,aC aR]at hB;rw[hB,i];simp only[go_sem,atH];exact kF (.inr rfl) Sq (aN.qS aN.nil)
 |true=>
  rw[x,aF rfl]at i;obtain⟨hV,D,E,he⟩:=fg x;obtain⟨w,y⟩:=vr x;have e:=hV.arO _ w;have u:=(B.arO _ w).arC;have l:(f.arF.map bX.cells)[arO.toNat]?=some (mF f arO).cells:=by rw[atC,y];rfl
  have hlt:arO<(Z' f.arF:Nat):=Om;by_cases c:Z' f.arB>12;rw[aF c]at i;rw[i,aC aR]at hB;rw[hB,i];simp only[go_sem,asY,asO,show(Z' f.arB:Int)>12 by omega];exact kF (.inr rfl) Sq (aN.qS aN.nil);rw[aC c]at i;rw[i,aF rfl]at hB;rw[hB,i];simp only[go_sem,asY,asO,show ¬(Z' f.arB:Int)>12 by omega];refine bE .nil (cyS (lay (gQ f (mF f arO)))) a_ ?_;simp only[go_sem,D,hlt,asO,l];refine cJ rfl (A.sets f (mF f arO) hV Om e.2.2.2.2.2.2.2 u e.1 e.2.1 e.2.2.1 e.2.2.2.1) Sq a_ ?_;simp only[go_sem];exact bM (.inr rfl) .nil (vs:=[lay (gQ f (mF f arO)),.j 0]) Sq a_ (aK.Od ⟨rfl,rfl⟩)
structure UOk(n:Nat)(U:L2_):Prop where
 len:Z' U<=1000
 at_:∀u∈U,Z' u<=1000/\∀d∈u,0<=d/\d<n
def sH(U:L2_)(s:N_):I_:=s.flatMap λi=>U.getD i []
theorem Gf(U:L2_)(s:N_){i:Nat}(h:i<Z' s):sH U (s.take (i+1))=sH U (s.take i)++U.getD s[i] []:=by
 unfold sH;rw[atW h,List.flatMap_append];simp
theorem Il(U:L2_)(s:N_)(d:Nat):(sH U s).contains (d:Int)=oI U s d:=by
 unfold sH oI
 induction s with
 |nil=>rfl
 |cons i s e=>rw[List.flatMap_cons,List.contains_append,e,List.any_cons]
theorem Qf{K:bP}[Up K](Y X x c nd n i:Nat)(J:PV)(u:I_)(β:Z' u<=1000)(hu:∀d∈u,0<=d/\d<nd)(l:I_){F:PF}{H:PH}{B:List BX}{L:List LI}
  (y:aN H B L) (b:Nat) (hb:B[b]?=some (x,.rows 1 (dE (marks nd l))))
  (hF:(((((((((((n_.set 2 (J)).set 6 (.ptr Y 1 0 0)).set 7 (.ptr X 1 0 0)).set 9 (.osl x 1 0 nd)).set 66 (.osl c 1 0 n)).set 67 (.j n)).set 68 (.j i)).set 75 (ints u)).set 76 (.j (Z' u:Nat))).set 77 (.j 0))).le F)
  (hK:∀H',aN H' (B.set b (x,.rows 1 (dE (marks nd (l++u))))) L->K (.exit 4) ((((((((n_.set 2 (J)).set 6 (.ptr Y 1 0 0)).set 7 (.ptr X 1 0 0)).set 9 (.osl x 1 0 nd)).set 66 (.osl c 1 0 n)).set 67 (.j n)).set 68 (.j i))) H') :
  aJ.wp C (.loop UA) K F H:=by
 refine wp_loop (α:=Nat × PH) (λs=>((((((((((n_.set 2 (J)).set 6 (.ptr Y 1 0 0)).set 7 (.ptr X 1 0 0)).set 9 (.osl x 1 0 nd)).set 66 (.osl c 1 0 n)).set 67 (.j n)).set 68 (.j i)).set 75 (ints u)).set 76 (.j (Z' u:Nat))).set 77 (.j s.1))) (λs=>s.2) (λs=>s.1<=Z' u/\aN s.2 (B.set b (x,.rows 1 (dE (marks nd (l++u.take s.1))))) L) (λs=>Z' u-s.1) (0,H) ⟨asQ _,?_⟩ hF b_ ?_;rw[avA,auA];have e:B.set b (x,.rows 1 (dE (marks nd l)))=B:=by obtain⟨h1,E⟩:=atX.1 hb;rw[<-E,List.set_getElem_self]
 rw[e];exact y;rintro⟨j,Z⟩ ⟨hj,y⟩;simp only at hj y;have M:b<Z' B:=(atX.1 hb).1;have A:(B.set b (x,aS.rows 1 (dE (marks nd (l++u.take j)))))[b]?=some (x,.rows 1 (dE (marks nd (l++u.take j)))):=List.getElem?_set_self M;simp only[go_sem,UA];by_cases hlt:j<Z' u;have w:(j:Int)<(Z' u:Nat):=Om;have S:(u.map λn=>[PV.int .i64 n])[j]?=some [.j u[j]]:=by simp[hlt]
 obtain⟨V,W⟩:=hu _ (asS hlt);have U:u.take (j+1)=u.take j++[u[j]]:=atW hlt;have O:(u[j]).toNat<(dE (marks nd (l++u.take j))).length:=by rw[yP,JG];omega
 have N:(dE (marks nd (l++u.take j)))[(u[j]).toNat]?=some [.bool ((l++u.take j).contains u[j])]:=by unfold dE;rw[atC,yC V W];rfl
 have R:=y.at b A;have E:=y.set b A (.rows 1 (dE (marks nd (l++u.take (j+1)))));rw[List.set_set]at E;have D:=JH (l:=l++u.take j) V W;rw[atV,<-U]at D;simp only[go_sem,w,S,V,W,atA,R,N,O,kB,D,wZz j];exact aE (j+1,Z.set x (.rows 1 (dE (marks nd (l++u.take (j+1)))))) ⟨hlt,E⟩ sO_ Lq b_;have w:¬(j:Int)<(Z' u:Nat):=Om;have:j=Z' u:=Om;subst this;rw[atL]at y;simp only[go_sem,w];exact Up.up Lq (hK Z y)
def scB(e u c i:Nat)(w:PV)(U:L2_)(s:N_)(nd:Nat)(l:I_):List BX:=[(e,.rows 1 [[w]]),(u,.rows 1 [[lay U]]),(c,.rows 1 (aM (cA s))),(i,.rows 1 (dE (marks nd l)))]
theorem G1{K:bP}[Up K](B y A c nd n:Nat)(E X:PV)(U:L2_)(hU:UOk nd U)(s:N_)(hs:Z' s=n)(S:∀x∈s,x<Z' U)(hn:n<=1000){F:PF}{H:PH}{L:List LI}
  (w:aN H (scB y B c A X U s nd []) L)
  (hF:((((((((n_.set 2 (E)).set 6 (.ptr B 1 0 0)).set 7 (.ptr y 1 0 0)).set 9 (.osl A 1 0 nd)).set 66 (.osl c 1 0 n)).set 67 (.j n)).set 68 (.j 0))).le F)
  (hK:∀H',aN H' (scB y B c A X U s nd (sH U s)) L->K (.exit 2) (((((n_.set 2 (E)).set 6 (.ptr B 1 0 0)).set 7 (.ptr y 1 0 0)).set 9 (.osl A 1 0 nd))) H') :
  aJ.wp C (.loop UB) K F H:=by
 refine wp_loop (α:=Nat × PH) (λt=>(((((((n_.set 2 (E)).set 6 (.ptr B 1 0 0)).set 7 (.ptr y 1 0 0)).set 9 (.osl A 1 0 nd)).set 66 (.osl c 1 0 n)).set 67 (.j n)).set 68 (.j t.1))) (λt=>t.2) (λt=>t.1<=Z' s/\aN t.2 (scB y B c A X U s nd (sH U (s.take t.1))) L) (λt=>Z' s-t.1) (0,H) ⟨asQ _,w⟩ hF b_ ?_;rintro⟨i,Z⟩ ⟨hi,w⟩;simp only at hi w;simp only[go_sem,UB];by_cases hlt:i<Z' s;have e:(i:Int)<(n:Nat):=Om;have hc:=w.at 2 rfl;have R:=w.at 1 rfl;have N:=BN hlt;have O:i<(aM (cA s)).length:=by rw[bV,gT];exact hlt
 have V:=S s[i] (asS hlt);have W:((s[i]:Nat):Int)<(Z' U:Nat):=Om;have l:=Gf U s hlt;have D:=hU.at_ U[s[i]] (asS V);have M:U.getD s[i] []=U[s[i]]:=by simp[asW,V]
 have J:(U.map λr=>[ints r])[s[i]]?=some [ints U[s[i]]]:=by simp[V]
 rw[M]at l;generalize U[s[i]]=u at *
 generalize s[i]=x at *
 simp only[go_sem,e,hc,N,O,atA,R,W,asO,J];have one:=λ{K:bP} [Up K] {F:PF}=>Qf (C:=C) (K:=K) B y A c nd n i E u D.1 D.2 (sH U (s.take i)) (F:=F) w 3 rfl;refine one lM λH' Y=>?_;rw[<-l]at Y;simp only[go_sem,wZz i];exact aE (i+1,H') ⟨hlt,Y⟩ sO_ Lq b_;have e:¬(i:Int)<(n:Nat):=Om;have:i=Z' s:=Om;subst this;rw[atL]at w;simp only[go_sem,e];exact Up.up Lq (hK Z w)
def scD(l:I_)(k:Nat):I_:=cA ((asP k).filter λd=>l.contains (d:Int))
theorem Yj(l:I_)(k:Nat):scD l (k+1)=if l.contains (k:Int)then scD l k++[(k:Int)]else scD l k:=by
 unfold scD;rw[avH,awH,D7];by_cases h:l.contains (k:Int);rw[aF h];simp[cA]at h ⊢;simp[h];rw[aC h];simp[cA]at h ⊢;simp[h]
theorem aeF(l:I_)(k:Nat):(scD l k).length<=k:=by
 unfold scD;rw[gT];exact atT (awJ ..) aZ
theorem B7{K:bP}[Up K](y x E c nd:Nat)(Y:nd<=1000)(J M:PV)(U:L2_)(s:N_)(l:I_){F:PF}{H:PH}{L:List LI}
  (u:aN H (scB x y c E M U s nd l) L)
  (V:((((((((n_.set 2 (J)).set 6 (.ptr y 1 0 0)).set 7 (.ptr x 1 0 0)).set 14 (.aG)).set 86 (.osl E 1 0 nd)).set 87 (.j nd)).set 88 (.j 0))).le F)
  (W:∀v H',aN H' (scB x y c E M U s nd l) (L++[(v,1,aM (scD l nd))])->K (.exit 6) (((((n_.set 2 (J)).set 6 (.ptr y 1 0 0)).set 7 (.ptr x 1 0 0)).set 14 (v))) H') :
  aJ.wp C (.loop UC) K F H:=by
 refine wp_loop (α:=T3_) (λt=>(((((((n_.set 2 (J)).set 6 (.ptr y 1 0 0)).set 7 (.ptr x 1 0 0)).set 14 (t.2.1)).set 86 (.osl E 1 0 nd)).set 87 (.j nd)).set 88 (.j t.1))) (λt=>t.2.2) (λt=>t.1<=nd/\aN t.2.2 (scB x y c E M U s nd l) (L++[(t.2.1,1,aM (scD l t.1))])) (λt=>nd-t.1) (0,.aG,H) ⟨asQ _,u.lE 1⟩ V b_ ?_;clear u;rintro⟨k,v,N⟩ ⟨X,u⟩;simp only at X u;simp only[go_sem,UC];by_cases hlt:k<nd
 ·have i:(k:Int)<(nd:Nat):=Om;have B:=u.at 3 rfl;have e:=Yj l k;have S:=aeF l k;have A:k<(dE (marks nd l)).length:=by rw[yP,JG];exact hlt
  have w:(dE (marks nd l))[k]?=some [.bool (l.contains (k:Int))]:=by have:=yC (n:=nd) (l:=l) (m:=(k:Int)) Om i;rw[auL]at this;unfold dE;rw[atC,this];rfl
  cases R:l.contains (k:Int)with
  |true=>
   rw[R]at w e;rw[aF rfl]at e;simp only[go_sem,i,B,w,A,atA];refine u.append L.length (rows:=aM (scD l k)) (src:=[[.j k]]) (GF _ _ _ rfl) Sq (by unfold roomFor;rw[bV];simp only[atD,maxLen];omega) λv' H' O _=>?_;have D:aM (scD l k)++[[.j k]]=aM (scD l (k+1)):=by rw[e,zU];rfl
   rw[D,avQ _ _ (asU _),auK]at O;simp only[go_sem,wZz k];exact aE (k+1,v',H') ⟨hlt,O⟩ sO_ Lq b_
  |false =>rw[R]at w e;rw[aC aR]at e;rw[<-e]at u;simp only[go_sem,i,B,w,A,atA,wZz k];exact aE (k+1,v,N) ⟨hlt,u⟩ sO_ Lq b_
 have i:¬(k:Int)<(nd:Nat):=Om;have:k=nd:=Om;subst this;simp only[go_sem,i];exact Up.up Lq (W v N u)
def fS(f:aB)(lv e:Int):Int:=if cI f&&(decide (1<=lv)&&decide (lv<=5)&&decide (1<=e)&&decide (e<=3))then(if 12<Z' f.arB\/512<eK ((jF f lv).length:Nat) e.toNat then 2 else 0)else 1
def lR(f:aB)(lv e:Int):L2_:=if fS f lv e=0 then FI f (jF f lv) e.toNat else[]
structure Pt(C:Ctx):Prop extends LZ C where
 val:∀f:aB,f.Ok->aH C 96 [.agg f.cells] .nil (aK (.int .i64 (yL f)))
 units:∀(f:aB)(lv:Int),VF f->1<=lv->lv<=5->aH C 206 [.agg f.cells,.int .i64 lv] .nil (aK (lay (jF f lv)))
 choose:∀m n:Nat,m<=1000->n<=3->aH C 207 [.int .i64 m,.int .i64 n] .nil (aK (.int .i64 (max (eK m n) 0)))
theorem jn{f:aB}(hV:VF f)(lv:Int):UOk f.arB.length (jF f lv)/\(jF f lv).length<=40:=by
 have E:=hV.small.arB;have A:=hV.small.arE;by_cases c:lv=5;subst c;rw[yg];refine⟨⟨by simp;omega,λu l=>?_⟩,by simp;omega⟩;obtain⟨d,e,rfl⟩:=atM.1 l;rw[atQ]at e;refine⟨by simp,λx w=>?_⟩;rw[auB]at w;omega;rw[jm f c];have B:(tV f lv f.arB.length).length<=40:=by rw[qu];exact atT (awJ ..) (by simp;omega)
 refine⟨⟨by omega,λu l=>?_⟩,B⟩;obtain⟨i,-,rfl⟩:=atM.1 l;refine⟨by rw[gT];have:=mw f lv f.arB.length i;omega,λx w=>?_⟩;obtain⟨y,D,rfl⟩:=atM.1 w;have:=atQ.1 (awT.1 D).1;omega
theorem ahX(U:L2_)(s:N_)(nd:Nat):scD (sH U s) nd=cA ((asP nd).filter (oI U s)):=by
 unfold scD;congr 2;funext d;exact Il U s d
instance upDone{R:PH->Prop}:Up (JA R):=⟨λ{e F i H} _ h=>by cases e<;>exact h⟩
def Bm(i l:Nat)(U:L2_)(u:L2_)(G:PH):Prop:=∃e ps,aN G [(i,.rows 1 [[e]]),(l,.rows 1 [[lay U]])] (eZ e ps)/\wls ps=u
theorem G2(f:aB)(hV:VF f)(U:L2_)(hU:UOk f.arB.length U)(Z:Z' U<=40)(n:Nat)(α:1<=n)(hn:n<=3)(E u:Nat)(F:PF)(f2:F 2=some (.aU f.cells))(f6:F 6=some (.ptr E 1 0 0))(f7:F 7=some (.ptr u 1 0 0))(k:Nat)(hk:k<(dQ U.length n 0).length)(G:PH)(c:Nat)
  (hI:Bm u E U (((dQ U.length n 0).take k).map λs=>cA ((asP f.arB.length).filter (oI U s))) G) (hc:G c=none) :
  TY.wp C (gL C (TZ.wp C) (JA (Bm u E U (((dQ U.length n 0).take (k+1)).map λs=>cA ((asP f.arB.length).filter (oI U s)))))) (F.set 61 (.osl c 1 0 n)) (G.set c (.rows 1 (aM (cA (dQ U.length n 0)[k])))):=by
 obtain⟨w,ps,hH,hw⟩:=hI;have A:=hV.small;have N:(Z' f.arB:Int)*((1:Nat):Int)<=140737488355328:=by have:=A.arB;omega
 have O:(Z' f.arB:Int)<=9223372036854775807:=by have:=A.arB;omega
 have i:(0:Int)<=(Z' f.arB:Int):=Om;have S:=tF U.length n 0 _ (asS hk);have V:(dQ U.length n 0).take (k+1)=(dQ U.length n 0).take k++[(dQ U.length n 0)[k]]:=atW hk;have β:Z' ps<=1099511627776:=by
  rw[<-BY,hw,asO,atF];have h1:=tG U.length n 0;have X:2^(Z' U-0)<=2^40:=awW Om Om;have e:(2:Nat)^40=1099511627776:=by decide
  omega
 generalize(dQ U.length n 0)[k]=s at *
 obtain⟨sl,M,-⟩:=S;rw[V,atK,<-hw];have X:=hH.new hc (.rows 1 (aM (cA s)));simp only[go_sem,TY,TZ,f2,asO,N,O,i,Int.le_refl,auL];refine aQ λW R=>?_;rw[HD];have h3:=X.new R (.rows 1 (dE (marks f.arB.length [])));simp only[go_sem];have mk:=λ{K:bP} [Up K] {F:PF} {H:PH}=>G1 (C:=C) (K:=K) E u W c f.arB.length n (.aU f.cells) w U hU s sl (λx hx=>(M x hx).2) Om (F:=F) (H:=H) (L:=eZ w ps);refine mk h3 (lE3 f2 f6 f7) λH1 h4=>?_;simp only[go_sem];have dr:=λ{K:bP} [Up K] {F:PF} {H:PH}=>B7 (C:=C) (K:=K) E u W c f.arB.length (by have:=A.arB;omega) (.aU f.cells) w U s (sH U s) (F:=F) (H:=H) (L:=eZ w ps);refine dr h4 Lq λv H2 h5=>?_;have Y:=h5.own (eZ w ps).length (GF _ _ _ rfl);have J:=h5.at 0 rfl;rw[ahX]at h5 Y;generalize hD:cA ((asP f.arB.length).filter (oI U s))=D at *
 have fin:∀(l:Nat)(H':PH),aN H' (scB u E c W w U s f.arB.length (sH U s)) ((eZ w ps++[(v,1,aM D)]).set 0 (PV.osl l 1 0 (dF ps++[[v]]).length,1,dF ps++[[v]]))->Bm u E U (wls ps++[D]) (H'.set u (.rows 1 [[PV.osl l 1 0 (dF ps++[[v]]).length]])):=by
  intro l H' y;have h7:=y.set 0 rfl (aS.rows 1 [[PV.osl l 1 0 (dF ps++[[v]]).length]]);refine⟨PV.osl l 1 0 (dF ps++[[v]]).length,ps++[(v,D)],?_,?_⟩;have e:eZ (PV.osl l 1 0 (dF ps++[[v]]).length) (ps++[(v,D)])=(eZ w ps++[(v,1,aM D)]).set 0 (PV.osl l 1 0 (dF ps++[[v]]).length,1,dF ps++[[v]]):=by unfold eZ dF kO;rw[atK,atK];rfl
  rw[e];exact(h7.wC 3).wC 2;unfold wls;rw[atK];rfl
 have room:roomFor (dF ps).length 1 24:=by unfold roomFor;rw[mB];simp only[maxLen];omega
 rcases Y with⟨-,rfl⟩|⟨q,rs,rfl,-,-,-⟩
 simp only[go_sem,J,atG,atS,or_false,forall_eq];refine h5.append 0 (rows:=dF ps) (src:=[[PV.aG]]) rfl Sq room λv' H' y B=>?_;obtain⟨l,rfl⟩:=B aZ;have i:=y.at 0 rfl;simp only[go_sem,i,atG,atS,or_false,forall_eq];exact fin l H' y;simp only[go_sem,J,atG,atS,or_false,forall_eq];refine h5.append 0 (rows:=dF ps) (src:=[[PV.osl q 1 0 (aM D).length]]) rfl Sq room λv' H' y B=>?_;obtain⟨l,rfl⟩:=B aZ;have i:=y.at 0 rfl;simp only[go_sem,i,atG,atS,or_false,forall_eq];exact fin l H' y
abbrev rI(lv e:Int):PV:=.agg [.int .i64 lv,.int .i64 e]
theorem Vi(K:Pt C)(L M:Code)(f:aB)(hf:f.Ok)(lv i:Int) :
  (NT L M).wp C (aV (Lu L M).res (cN (.tup [lay (lR f lv i),.j (fS f lv i)]))) (g_ [.agg f.cells,rI lv i]) .nil:=by
 have hB:lR f lv i=if fS f lv i=0 then FI f (jF f lv) i.toNat else[]:=rfl
 have O:fS f lv i=if cI f&&(decide (1<=lv)&&decide (lv<=5)&&decide (1<=i)&&decide (i<=3))then(if 12<Z' f.arB\/512<eK ((jF f lv).length:Nat) i.toNat then 2 else 0)else 1:=rfl
 have hv:=K.val f hf;unfold yL at hv;have bad:∀(e:Int)(F:PF)(H:PH),e≠0->fS f lv i=e->F 4=some .aG->F 5=some (.j e)->aV [.tmp 4,.tmp 5] (cN (.tup [lay (lR f lv i),.j (fS f lv i)])) .ret F H:=by intro e F H he l h2 h3;rw[l,aC he]at hB;rw[hB,l];exact kF (H:=H) (.inr rfl) (by simp only[go_sem,h2,h3]) (show aN H [] (eZ .aG [])from aN.qS aN.nil)
 have Y:(cI f&&(decide (1<=lv)&&decide (lv<=5)&&decide (1<=i)&&decide (i<=3)))=false->fS f lv i=1:=λh=>by rw[O,h];rfl
 simp only[go_sem,NT,sM.wp,Lu];refine aD hv Ev ?_;cases hp:cI f with
 |false =>have l:=Y (by rw[hp];rfl);simp only[go_sem,cY (show(1:Int)≠0 by decide)];exact bad 1 _ _ aR l Sq Sq
 |true=>
  have hV:=VF.of hp;by_cases N:lv<1;have l:=Y (by rw[bD (Om:¬1<=lv)];simp);simp only[go_sem,cB (show(0:Int)=0 from rfl),N];exact bad 1 _ _ aR l Sq Sq;by_cases c2:lv>5;have l:=Y (by rw[bD (Om:¬lv<=5)];simp);simp only[go_sem,cB (show(0:Int)=0 from rfl),N,c2];exact bad 1 _ _ aR l Sq Sq;by_cases c3:i<1;have l:=Y (by rw[bD (Om:¬1<=i)];simp);simp only[go_sem,cB (show(0:Int)=0 from rfl),N,c2,c3];exact bad 1 _ _ aR l Sq Sq;by_cases c4:i>3;have l:=Y (by rw[bD (Om:¬i<=3)];simp);simp only[go_sem,cB (show(0:Int)=0 from rfl),N,c2,c3,c4];exact bad 1 _ _ aR l Sq Sq;obtain⟨n,rfl⟩:∃n:Nat,i=n:=⟨i.toNat,by omega⟩;rw[hp,aW (Om:1<=lv),aW (Om:lv<=5),aW (Om:(1:Int)<=(n:Int)),aW (Om:(n:Int)<=3),avW,avW,avW,avW,aF rfl,auL]at O;rw[auL]at hB;obtain⟨hU,S⟩:=jn hV lv;have A:=K.units f lv hV Om Om;generalize jF f lv=U at *
  simp only[go_sem,cB (show(0:Int)=0 from rfl),N,c2,c3,c4];refine aD A Ev ?_;simp only[go_sem];refine aQ λw ε=>?_;simp only[go_sem,asO];by_cases c5:12<Z' f.arB;have l:fS f lv n=2:=by rw[O,aF (.inl c5)]
  simp only[go_sem,show(Z' f.arB:Int)>12 by omega];exact bad 2 _ _ aR l Sq Sq;simp only[go_sem,show ¬(Z' f.arB:Int)>12 by omega];refine aD (K.choose U.length n Om Om) Ev ?_;by_cases c6:512<eK (Z' U:Nat) n;have l:fS f lv n=2:=by rw[O,aF (.inr c6)]
  simp only[go_sem,show max (eK (Z' U:Nat) n) 0>512 by omega];exact bad 2 _ _ aR l Sq Sq;have l:fS f lv n=0:=by rw[O,aC (λh=>h.elim c5 c6)]
  rw[l,aF rfl]at hB;rw[hB,l];simp only[go_sem,show ¬max (eK (Z' U:Nat) n) 0>512 by omega];refine aQ λu J=>?_;have η:¬u=w:=by rintro rfl;rw[bK]at J;cases J
  have B:¬w=u:=λe=>η e.symm;simp only[go_sem,B,asO];refine iL (K.subs n U.length) Sq a_ ?_;rintro r H' ⟨o1,o2,E,rfl,rfl⟩ δ;have β:∀o x,(((h_.set o1 (.rows 1 [[.j n]])).set o2 (.rows 1 [[.j (Z' U:Nat)]])):PH) o=some x->¬u=o/\¬w=o:=λo x h=>by have:=δ o x h rfl;refine⟨λe=>?_,λe=>?_⟩;rw[<-e,bK]at this;cases this;rw[<-e,aO,aC B,bK]at this;cases this
  obtain⟨W,Z⟩:=β o1 _ (by rw[aO,aC E,bK]);obtain⟨X,α⟩:=β o2 _ (by rw[bK]);simp only[go_sem];generalize R:PF.set _ 60 _=F;have f2:F 2=some (.aU f.cells):=by rw[<-R];simp only[go_sem]
  have f6:F 6=some (.ptr w 1 0 0):=by rw[<-R];simp only[go_sem]
  have f7:F 7=some (.ptr u 1 0 0):=by rw[<-R];simp only[go_sem]
  have θ:F 60=some (.fn 211 [.ptr o1 1 0 0,.ptr o2 1 0 0]):=by rw[<-R];simp only[go_sem]
  clear R;have D:FI f U n=((dQ U.length n 0).take (dQ U.length n 0).length).map λs=>cA ((asP f.arB.length).filter (oI U s)):=by rw[atL];rfl
  have y:aN ((h_.set w (.rows 1 [[lay U]])).set u (.rows 1 [[.aG]])) [(u,.rows 1 [[.aG]]),(w,.rows 1 [[lay U]])] (eZ .aG []):=((((aN.nil (H:=h_)).new ε _).new J _).perm (avN.swap _ _ _) (avN.refl _)).qS;refine⟨211,[.ptr o1 1 0 0,.ptr o2 1 0 0],Bm u w U (FI f U n),rfl,λhY=>?_,λH2 γ=>?_⟩;rw[D];refine mz (m:=104) (t:=61) K.toLZ rfl Om Om Om E (λk=>Bm u w U (((dQ U.length n 0).take k).map λs=>cA ((asP f.arB.length).filter (oI U s)))) ((h_.set w (.rows 1 [[lay U]])).set u (.rows 1 [[.aG]])) ⟨.aG,[],y,rfl⟩ ?_ ?_ ?_ ?_ ?_ hY λk hk G c hI hc=>G2 f hV U hU S n Om Om w u F f2 f6 f7 k hk G c hI hc;intro o x V;rw[iM];have e1:¬o=o1:=λe=>by rw[e,aO,aC (λh=>W h.symm),aO,aC (λh=>Z h.symm)]at V;cases V
  have e2:¬o=o2:=λe=>by rw[e,aO,aC (λh=>X h.symm),aO,aC (λh=>α h.symm)]at V;cases V
  have:((h_.set o1 (.rows 1 [[.j n]])).set o2 (.rows 1 [[.j (Z' U:Nat)]]):PH) o=none:=by rw[aO,aC e2,aO,aC e1];rfl
  rw[this];exact V;rw[iM];simp only[aO,aC E,if_true];rw[iM];simp only[aO,if_true];rw[aO,aC (λe=>W e.symm),aO,aC (λe=>Z e.symm)];rfl;rw[aO,aC (λe=>X e.symm),aO,aC (λe=>α e.symm)];rfl;obtain⟨vo,ps,hH,ζ⟩:=γ;have hb:=hH.at 0 rfl;simp only[go_sem,k9,f7,hb];rw[<-ζ];exact kF (.inr rfl) Sq ((hH.wC 0).wC 0)
theorem Hk{l:N_}(h:l.Pairwise (· < ·)):(cA l).Pairwise (· < ·):=by
 unfold cA;rw[List.pairwise_map];exact h.imp λh=>by omega
theorem Yk{f:aB}(hV:VF f)(U:L2_)(w:Z' U<=40)(n:Nat):(FI f U n).length<=1099511627776/\∀s∈FI f U n,Z' s<=24/\s.Pairwise (· < ·):=by
 have x:=hV.small.arB;unfold FI;constructor;rw[asO];have l:=tG U.length n 0;have u:2^(Z' U-0)<=2^40:=awW Om Om;have e:(2:Nat)^40=1099511627776:=by decide
 omega;intro s i;obtain⟨t,-,rfl⟩:=atM.1 i;refine⟨?_,Hk (List.pairwise_lt_range.filter _)⟩;rw[gT];exact atT (awJ ..) (by simp;omega)

theorem Vz(i:∀l:I_,Fits l->aH C 94 [ints l,ints l] .nil (aK (.bool true)))(a:L2_)(y:Z' a<=9000000000000000000)(hb:∀w∈a,Z' w<=9000000000000000000) :
  ll.wp C (aV zr.res (aK (.bool true))) (g_ [lay a,lay a]) .nil:=by
 simp only[go_sem,ll,zr,asO,cB (show(Z' a:Int)=(Z' a:Nat)from rfl)];refine wp_loop (α:=Nat) (λk=>(((n_.set 0 (lay a)).set 1 (lay a)).set 5 (.j k))) (λ_=>.nil) (λk=>k<=Z' a) (λk=>Z' a-k) 0 (asQ _) Lq a_ ?_;intro k A;simp only[go_sem,asO];by_cases hlt:k<Z' a;have e:(k:Int)<(Z' a:Nat):=Om;have u:(a.map λw=>[ints w])[k]?=some [ints a[k]]:=by simp[hlt]
 have B:=hb a[k] (asS hlt);generalize a[k]=x at *
 simp only[go_sem,e];refine bE .nil (cyS (.bool true)) a_ ?_;simp only[go_sem,u,asO];refine cJ rfl (i x Om) Sq a_ ?_;simp only[go_sem,asY,wZz k];exact aE (k+1) hlt Om Lq a_;have e:¬(k:Int)<(Z' a:Nat):=Om;simp only[go_sem,e];refine cZ (.inr rfl) Ev ?_;rfl
noncomputable def On:aB:=(jN [] 1 0 0).1

def Grow(P:N_->Bool):Prop:=∀s t:N_,(∀x∈s,x∈t)->P s=true->P t=true
theorem Grow.cons{P:N_->Bool}(h:Grow P)(a:Nat):Grow λs=>P (a::s):=λs t i u=>
 h (a::s) (a::t) (λx l=>(atG.1 l).elim (λe=>e ▸ axA) λl=>awN _ (i x l)) u
def lvC(L:Int)(ds:List cU):Nat:=ds.countP λx=>decide (x.level=L)
theorem W2(f:aB)(L:Int):((asP f.arE.length).filter λi=>decide (lvl f i=L)).length=lvC L f.arE:=by
 rw[<-List.countP_eq_length_filter];unfold lvC lvl;have e:∀(ds:List cU),(asP ds.length).countP (λi=>decide ((ds.map cU.level).getD i 0=L))=ds.countP λx=>decide (x.level=L):=by
  intro ds
  induction ds with
  |nil=>rfl
  |cons d ds l =>rw[atZ,List.range_succ_eq_map,List.countP_cons,List.countP_map,List.countP_cons,<-l];rfl
 exact e f.arE
theorem B5:∀m:Fin 10,∀c:Fin 4,eK (m.val:Int) c.val<=512:=by decide
theorem Ub(f:aB)(lv:Int):(jF f lv).length=if lv=5 then f.arB.length else lvC lv f.arE:=by
 unfold jF;split;simp;rw[asO];exact W2 f lv
structure XZ(f:aB):Prop where
 ok:f.Ok
 valid:cI f=true
 arB:Z' f.arB<=9
 lv:∀L:Int,1<=L->L<=4->lvC L f.arE<=8
theorem XZ.num{f:aB}(h:XZ f){lv:Int}(e:1<=lv)(h5:lv<=5):(jF f lv).length<=9:=by
 rw[Ub];split;exact h.arB;have:=h.lv lv e Om;omega
theorem XZ.Fl{f:aB}(h:XZ f){lv:Int}(e:1<=lv)(h5:lv<=5){c:Nat}(l:1<=c)(u:c<=3):fS f lv c=0:=by
 have w:=h.num e h5;have i:=B5 ⟨(jF f lv).length,by omega⟩ ⟨c,by omega⟩;simp only at i;unfold fS;rw[h.valid,aW e,aW h5,aW (Om:(1:Int)<=(c:Int)),aW (Om:(c:Int)<=3),avW,avW,avW,avW,aF rfl,auL,aC];have:=h.arB;omega
theorem XZ.all{f:aB}(h:XZ f){p:Int}(i:mZ f p=true):sP f p=0/\zK f p=gQ f (mF f p):=by
 have e:sP f p=0:=by unfold sP;rw[i,aF rfl,aC];have:=h.arB;omega
 exact⟨e,by unfold zK;rw[aF e]⟩

def pR(f:aB)(sc L:L2_):Nat->Nat
 |0=>0
 |k+1=>pR f sc L k+eO sc (L.getD k []) (bF f k).m
theorem UZ{s t:I_}(h:s.Perm t)(sc:L2_)(m:Int):eO sc s m=eO sc t m:=by
 unfold eO;refine List.countP_congr λx _=>?_;unfold lJ;rw[h.countP_eq]
theorem BK(sc:L2_)(set:I_)(m:Int):eO sc set m<=Z' sc:=List.countP_le_length
theorem gM{f:aB}{L:L2_}{room:I_}(h:eU f L room=true):cI f=true:=by
 unfold eU at h;rw[asV]at h;exact h.1
theorem mN{f:aB}{L:L2_}{room:I_}(h:eU f L room=true):BB f L:=by
 have i:=gM h;unfold eU tI at h;rw[i,atJ,aF rfl,dT_]at h;by_cases c:Z' L=Z' f.arD;rw[aF c]at h;have h:=List.append_eq_nil_iff.1 (axE h);have D:∀v (i:v<Z' L),tT f L v=none:=λv i=>by have l:=List.flatMap_eq_nil_iff.1 h.1 v (atQ.2 i);unfold vH at l;split at l;cases l;assumption
 have u:∀v (i:v<Z' L),((L[v].length:Nat):Int)=fX f v/\∀x∈L[v],-1<=x/\x<Z' f.arB:=λv i=>by
  have l:=D v i;have e:L.getD v []=L[v]:=by simp[asW,i]
  unfold tT at l;rw[e]at l;split at l;rename_i y;refine⟨y,λx w=>?_⟩;have A:=xJ (Option.map_eq_none_iff.1 l) x w;simp only[kY,Bool.or_eq_false_iff,decide_eq_false_iff_not]at A;omega;cases l
 refine⟨c,λv i=>(u v i).1,λr B x w=>?_⟩;obtain⟨v,i,rfl⟩:=auG B;exact(u v i).2 x w;rw[aC c]at h;cases h
theorem kS{f:aB}{L:L2_}{room:I_}(h:eU f L room=true){v:Nat}(B:v<Z' L):L[v].Nodup/\(∀x∈L[v],0<=x/\x<Z' f.arB)/\L[v]≠[]/\L[v].length<=10:=by
 have D:=gM h;have y:=mN h;have K:=((IR D y room).1 h).1 v B;obtain⟨E,F,-,-⟩:=Kj.1 K;have A:∀x∈L[v],0<=x/\x<Z' f.arB:=λx l=>by
  obtain⟨i,hi,rfl⟩:=auG l;have:=E i hi;have e:L[v].getD i 0=L[v][i]:=by simp[asW,hi]
  rw[e]at this;exact⟨this,(y.home _ (asS B) _ l).2⟩
 have hV:=VF.of D;obtain⟨hp,he⟩:=iN hV (show v<f.arD.length by have:=y.len;omega);have w:=hV.arO _ (asS hp);rw[he]at w;have u:=y.row v B;have J:fX f v=(bF f v).k+(bF f v).m:=rfl;refine⟨List.nodup_iff_count.2 λx=>?_,A,λe=>?_,by omega⟩;by_cases l:x∈L[v];have:=F x.toNat (by have:=A x l;omega)
 rwa[Int.toNat_of_nonneg (A x l).1]at this
 rw[List.count_eq_zero_of_not_mem l];omega;rw[e,avD]at u;omega
theorem sorted_perm(xs:I_):(sorted xs).Perm xs:=List.mergeSort_perm ..
theorem RG(xs:I_):(sorted xs).length=Z' xs:=(sorted_perm xs).length_eq
theorem Of{xs:I_}(h:xs.Nodup):(sorted xs).Pairwise (· < ·):=by
 have e:(sorted xs).Pairwise λa b=>decide (a<=b)=true:=List.pairwise_mergeSort (λa b c e i=>by simp at *;omega) (λa b=>by simp;omega) xs;have i:(sorted xs).Nodup:=(sorted_perm xs).nodup_iff.2 h;refine(List.Pairwise.and e i).imp λh=>?_;have:=of_decide_eq_true h.1;omega
def YM:=bT [] Proofs.Tryz.f23
def VA:=cG YM
structure YE(C:Ctx):Prop where
 sort:∀(o:Nat)(xs:I_),xs≠[]->Z' xs<4611686018427387904->aH C 373 [.osl o 1 0 xs.length] (h_.set o (.rows 1 (aM xs))) (λr H'=>r=.tup []/\H'=h_.set o (.rows 1 (aM (sorted xs))))
theorem M6(u:YE C)(row:I_)(l:row≠[])(w:Z' row<=1000) :
  VA.wp C (aV YM.res (aK (ints (sorted row)))) (g_ [ints row]) .nil:=by
 have i:aM row≠[]:=λe=>l (axG.1 e);simp only[go_sem,VA,YM];refine pP (src:=aM row) (by simp only[go_sem];rfl) (by unfold roomFor;rw[bV];simp only[maxLen];omega) (λh=>absurd h i) λ_ o x=>?_;rw[bV]
 try simp only[go_sem]
 refine iL (u.sort o row l Om) Ev b_ ?_;rintro r H' ⟨rfl,rfl⟩ -;rw[PH.HY,PH.set_set];simp only[go_sem];refine BS (o:=o) (s:=1) (k:=Z' row) (rs:=aM (sorted row)) (.inr rfl) Sq Sq (by rw[bV,RG];omega) ?_;rw[show(aM (sorted row)).take row.length=aM (sorted row)from atP (by rw[bV,RG];omega)];exact⟨rfl,rfl⟩
end Go.PM
