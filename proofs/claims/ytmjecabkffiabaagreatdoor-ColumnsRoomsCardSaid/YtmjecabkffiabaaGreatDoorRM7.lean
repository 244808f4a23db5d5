/-Lemmas for the law. No condition.-/
import Derived.Test.YtmjecabkffiabaaGreatDoorRM6

set_option linter.unusedSimpArgs false
set_option linter.unusedVariables false
open Nat renaming reduceEqDiff->γ,reduceAdd->δ,reduceSub->ε,reduceMul->ζ,reduceLT->η,reduceLeDiff->θ,reduceBEq->τ
open Int renaming reduceLT->ι,reduceLE->κ,reduceEq->μ,reduceToNat->ν,reduceAdd->ξ,reduceNeg->ο,reduceBEq->ρ,reduceBNe->σ
open List renaming reduceReplicate->υ
open List renaming length_map->auD,range->auE,getElem_mem->auH,length_append->auJ,getD_eq_getElem?_getD->auM,getElem?_eq_getElem->auP,mem_cons->auQ,length_singleton->auS,mem_map->auT,all_eq_true->auX,take_of_length_le->auZ,getElem?_map->avC,map_append->avD,not_mem_nil->avE,length_cons->avG,map_cons->avH,take_length->avI,mem_range->avM,getElem?_eq_some_iff->avP,drop_zero->avR,length_set->avT,map_nil->avY,getElem?_eq_none->avZ,getElem?_append_right->awH,getElem_of_mem->awI,length_drop->awM,getElem?_append_left->awR,mem_of_getElem?->awW,ext_getElem->axK,map_congr_left->axL,map_map->axM,map_take->axQ,range_succ->ayA,map_drop->ayH,mem_filter->ayM,getElem?_drop->ayT,mem_or_eq_of_mem_set->ayU,mem_cons_of_mem->ayV,mem_of_mem_take->ayW
open Nat renaming le_refl->auG,zero_le->auK,zero_add->avA,lt_or_ge->avF,le_trans->avJ,mul_le_mul_right->avL,mul_comm->avO,mod_lt->awJ,beq->awK,pow_succ->awL,not_lt_zero->axA,succ_mul->axB,pow_le_pow_right->ayJ
open Bool renaming and_eq_true->auI,not_true->auO,not_false->auY,false_eq_true->awQ
open Option renaming map_some->avB,some->awN,getD_some->axC
open Int renaming toNat_natCast->awG,zero_mul->awV,natCast_mul->ayL,mul_le_mul_of_nonneg_left->ayX
open List renaming length->l''
set_option maxRecDepth 100000
set_option maxHeartbeats 800000
open Go.IntKind renaming i64->i_,u64->u_
open Go.PM.PF renaming nil->n_,args->g_
open Go.PM.PH renaming nil->h_
noncomputable section
namespace Go.PM
open Go Go.Na
def eQ(f:aH):aH:={ f with asR:=f.asR.drop 1 }
theorem Cc:∀{l:List (List UInt8)},distinct l=true->distinct (l.drop 1)=true
 |[],h=>h
 |x::t,h=>by
  rw[List.drop_succ_cons,avR];unfold distinct at *
  rw[auX]at *
  intro i hi;have u:=h (i+1) (avM.2 (by have:=avM.1 hi;rw[avG];omega));simp only[List.getD_cons_succ,List.take_succ_cons,List.contains_cons,auI,Bool.not_eq_true',Bool.or_eq_false_iff]at u ⊢;exact⟨u.1,u.2.2⟩
theorem IT{f:aH}(h:dR f=true):dR (eQ f)=true:=by
 unfold dR at *
 simp only[auI]at h ⊢;obtain⟨⟨⟨l,A⟩,⟨⟨u,w⟩,i⟩⟩,⟨y,h5⟩⟩:=h;refine⟨⟨⟨?_,A⟩,⟨⟨u,w⟩,?_⟩⟩,⟨y,?_⟩⟩;unfold pV at *
 simp only[auI,dT_]at l ⊢;refine⟨l.1,?_⟩;show(f.asR.drop 1).length<=12;rw[awM];omega;rw[auX]at i ⊢;exact λx E=>i x (List.mem_of_mem_drop E);show distinct ((f.asR.drop 1).map dW.name)=true;rw[ayH];exact Cc h5
theorem Yt{f:aH}(h:f.Ok):(eQ f).Ok:=
 {h with
  asR:=by
   have:=h.asR;unfold Fits at *
   show(f.asR.drop 1).length<=_;rw[awM];omega
  volume:=λx i=>h.volume x (List.mem_of_mem_drop i) }
theorem J0(f:aH)(i:Nat):∀k,upN (eQ f) k i=upN f k i
 |0=>rfl
 |k+1=>by rw[upN,upN,J0 f i k];rfl
theorem YQ(f:aH):eJ (eQ f)=eJ f:=by
 funext d lv;unfold eJ;rw[J0];rfl
theorem Q9(f:aH)(p:cJ):lO (eQ f) p=lO f p:=by
 have l:gU (eQ f)=gU f:=by
  funext xs i;have:DB (eQ f) i=DB f i:=by funext d;unfold DB;rw[YQ];rfl
  unfold gU;rw[this]
 have h:oO (eQ f) p=oO f p:=by funext set;unfold oO mI;rw[l];rfl
 unfold lO;rw[h];rfl
theorem bb(f:aH)(lv:Int):iV (eQ f) lv=iV f lv:=by
 unfold iV;rw[YQ];rfl
theorem Tl{f:aH}(h:dR f=true):zI (eQ f)=zI f:=by
 funext p;have e:nS (eQ f) p=nS f p:=by unfold nS;rw[h,IT h];rfl
 unfold zI CD;rw[e,Q9];rfl
theorem lz{f:aH}(h:dR f=true)(lv i:Int):kB (eQ f) lv i=kB f lv i/\mS (eQ f) lv i=mS f lv i:=by
 have e:kB (eQ f) lv i=kB f lv i:=by unfold kB;rw[h,IT h,bb];rfl
 refine⟨e,?_⟩;unfold mS;rw[e,bb];rfl
theorem kS(f:aH):(eX f).length=l'' f.asT:=zN _ _
theorem Tg(f:aH){p:Nat}(hp:p<l'' f.asT):(eX f).getD p 0=(((f.asR.map dW.atB).count (p:Int):Nat):Int):=by
 have h:p<(eX f).length:=by rw[kS];exact hp
 rw[auM,auP h];exact XC (f.asR.map dW.atB) hp
theorem Yl{f:aH}(hV:VF f)(h:f.asR≠[]):∃q n,q<(eX f).length/\(eX f).getD q 0=n/\0<n/\eX (eQ f)=(eX f).set q (n-1):=by
 cases l:f.asR with
 |nil=>exact absurd l h
 |cons v t=>
  have F:0<l'' f.asR:=by rw[l];simp
  obtain⟨H,y⟩:=hV.volume 0 F;have K:f.asR[0]=v:=by simp[l]
  rw[K]at H;have A:v.atB.toNat<l'' f.asT:=by unfold zZ at y;simpa[auM,l]using y
  have w:(eX f).getD v.atB.toNat 0=(((t.map dW.atB).count v.atB:Nat):Int)+1:=by rw[Tg f A,l,avH,List.count_cons,show(v.atB.toNat:Int)=v.atB by omega];simp
  refine⟨v.atB.toNat,_,by rw[kS];exact A,rfl,by rw[w];omega,?_⟩;refine axK (by rw[avT,kS,kS];rfl) λi u J=>?_;have hi:i<l'' f.asT:=by rw[kS]at u;exact u
  have E:(eX (eQ f))[i]=(((t.map dW.atB).count (i:Int):Nat):Int):=by have:=XC (n:=(eQ f).asT.length) ((eQ f).asR.map dW.atB) (d:=i) hi;refine this.trans ?_;show(((((f.asR.drop 1).map dW.atB).count (i:Int):Nat)):Int)=_;rw[l];rfl
  have e2:(eX f)[i]'(by rw[kS];exact hi)=((((v::t).map dW.atB).count (i:Int):Nat):Int):=by have:=XC (n:=l'' f.asT) (f.asR.map dW.atB) (d:=i) hi;refine this.trans ?_;rw[l]
  rw[E,List.getElem_set];by_cases c:v.atB.toNat=i;have:v.atB=(i:Int):=Om;rw[aD c,w,this];omega;rw[aB c,e2,avH,List.count_cons,aB (by simp;omega)];rfl
theorem F0{α β:Type}(g:α->List β)(B:Nat):∀l:List α,(∀x∈l,(g x).length<=B)->(l.flatMap g).length<=l'' l*B
 |[],_=>by simp
 |x::t,h=>by rw[List.flatMap_cons,auJ,avG,axB];have u:=F0 g B t λy i=>h y (ayV _ i);have w:=h x List.mem_cons_self;omega
theorem Jl(n:Nat):∀k a,(eC n k a).length<=n^k
 |0,a=>by rw[eC];exact auG _
 |k+1,a=>by rw[eC,awL,avO];refine avJ (F0 _ (n^k) _ λi _=>?_) ?_;rw[auD];exact Jl n k (i+1);rw[List.length_range'];exact avL _ Om
theorem abC{f:aH}(hV:VF f)(lv i:Int)(A:i<=2):(mS f lv i).length<=1600:=by
 unfold mS;split;unfold vS;rw[auD];have u:=Jl (iV f lv).length i.toNat 0;have l:=(i7 hV lv).2;have w:(iV f lv).length^i.toNat<=40^i.toNat:=Nat.pow_le_pow_left l _;have y:(40:Nat)^i.toNat<=40^2:=ayJ aU Om;omega;decide
def alF(f:aH)(p:Nat):L2_:=zI f (p:Nat)
def loF(f:aH)(lv i:Int)(p:Nat)(s:I_):Int:=(DD (mS f lv i) s (f.asT.getD p DN).m:Nat)
theorem acZ{f:aH}(y:dR f=true){p:Nat}(hp:p<l'' f.asT){s:I_}(i:s∈alF f p):s∈lO f (f.asT.getD p DN)/\s.Nodup/\l'' s<=8/\∀d∈s,0<=d/\d<(l'' f.asP:Nat):=by
 have hV:=VF.of y;unfold alF zI at i;split at i;have e:lK f (p:Nat)=f.asT.getD p DN:=by unfold lK;rw[awG]
 rw[e]at i;have w:f.asT.getD p DN∈f.asT:=by rw[auM,auP hp];exact auH hp
 have A:=hV.atB _ w;have l:=abH i;refine⟨i,(VC i).imp λh=>by omega,?_,λd u=>?_⟩;rw[l.1];unfold rO;omega;have:=l.2 d u;omega;cases i
theorem cu{dm:I_}{al:Nat->L2_}{lo:Nat->I_->Int}(B:Nat):∀k,(∀p,p<k->(al p).length<=B)->(jZ dm al lo k).length<=k*B
 |0,_=>by simp[jZ]
 |k+1,h=>by rw[xW,auJ,axB];have i:=cu (dm:=dm) (lo:=lo) B k λp hp=>h p Om;have l:=h k Om;split;rw[auD];omega;simp;omega
theorem Ss{f:aH}(h7:l'' f.asP<=12)(p:Nat):(alF f p).length<=4096:=by
 unfold alF zI;split;exact V7 f _ h7;decide
theorem ajK{f:aH}(hV:VF f){d:Nat}(i:d<l'' f.asP):1<=ext f d/\ext f d<=16:=by
 obtain⟨l,e⟩:=hV.l5 i;have:=hV.model _ (auH l);omega
theorem Xx{f:aH}(F:dR f=true)(h7:l'' f.asP<=7)(A:l'' f.asT<=2)(lv i:Int)(K:i<=2)(rm:I_):jC (eX f) (dK f rm) (alF f) (loF f lv i):=by
 have hV:=VF.of F;have M:=hV.small.asR;refine⟨?_,by rw[kS];omega,?_,λx w=>?_,λx w=>?_,λp hp s E=>?_,λp hp s E=>?_⟩;have u:(dE (eX f) (eX f).length).length<=(eX f).length:=by unfold dE;refine avJ (List.length_filter_le ..) ?_;rw[avI];exact auG _
 rw[kS]at u;rw[iZ];rw[kS];omega;have u:=cu (dm:=eX f) (al:=alF f) (lo:=loF f lv i) 4096 (eX f).length λp _=>Ss Om p;rw[kS]at *
 have:l'' f.asT*4096<=2*4096:=avL _ A;omega;unfold eX sI at w;obtain⟨d,-,rfl⟩:=auT.1 w;have:=List.count_le_length (a:=(d:Int)) (l:=f.asR.map dW.atB);rw[auD]at this;omega;unfold dK at w;obtain⟨d,y,rfl⟩:=auT.1 w;have:=ajK hV (avM.1 y);unfold rW;split<;>omega;rw[kS]at hp;obtain⟨-,u,H,J⟩:=acZ F hp E;refine⟨u,by omega,λd y=>?_⟩;have:=J d y;rw[iZ];omega;have u:=abC hV lv i K;have H:DD (mS f lv i) s (f.asT.getD p DN).m<=(mS f lv i).length:=List.countP_le_length;unfold loF;omega
theorem NU(l:N_)(mc asP dom:Nat)(s:GS)(n:Nat):∀j,(jQ l mc asP dom s n).atI.length<=(jQ l mc asP dom s (n+j)).atI.length
 |0=>auG _
 |j+1=>by refine avJ (NU l mc asP dom s n j) ?_;rw[show n+(j+1)=(n+j)+1 from rfl,jQ];simp only;split;simp;exact auG _
theorem NV{l:N_}{level asP dom:Nat}{rec:Nat->GS->GS}(i:∀d t,l'' t.atI<=(rec d t).atI.length)(s:GS)(n:Nat):∀j,(gS l level asP dom rec s n).atI.length<=(gS l level asP dom rec s (n+j)).atI.length
 |0=>auG _
 |j+1=>by refine avJ (NV i s n j) ?_;rw[show n+(j+1)=(n+j)+1 from rfl,gS];simp only;split;exact auG _;exact i _ (pC l level dom _)
theorem nc(l:N_)(mc asP:Nat):∀k dom (s:GS),l'' s.atI<=(fK l mc asP k dom s).atI.length
 |0,dom,s=>by rw[fK];have:=NU l mc asP dom { s with a:=(aI l 2 s.a).2 } 0 (1+(aI l 2 s.a).1);rw[avA]at this;exact this
 |k+1,dom,s=>by rw[fK];have:=NV (l:=l) (level:=4-k) (asP:=asP) (dom:=dom) (nc l mc asP k) { s with a:=(aI l 2 s.a).2 } 0 (if 4-k=2 then 1 else 1+(aI l 2 s.a).1);rw[avA]at this;exact this
theorem zl(l:N_)(mc:Nat){asP:Nat}(h:0<asP):∀k dom (s:GS),l'' s.asY+k<=34->0<(fK l mc asP k dom s).atI.length
 |0,dom,s,_=>by rw[fK];refine Nat.lt_of_lt_of_le ?_ (NU l mc asP dom _ 1 _);rw[jQ,jQ];simp only;split;simp;rename_i i;have w:¬l'' s.atI<asP:=i;show 0<l'' s.atI;omega
 |k+1,dom,s,y=>by
  rw[fK];have u:0<(gS l (4-k) asP dom (fK l mc asP k) { s with a:=(aI l 2 s.a).2 } 1).atI.length:=by rw[gS,gS];simp only;split;rename_i i;unfold sP at i;simp only[Bool.or_eq_true,dT_]at i;have w:asP<=l'' s.atI\/35<=l'' s.asY:=i;show 0<l'' s.atI;omega;exact zl l mc h k _ _ (by simp only[pC,auJ,auS];omega)
  split;exact u;exact Nat.lt_of_lt_of_le u (NV (nc l mc asP k) _ 1 _)
theorem T1(l:N_){asP:Nat}(h:0<asP)(asR a:Nat):0<(hZ l asP asR a).1.asP.length/\0<(hZ l asP asR a).1.asT.length/\(hZ l asP asR a).1.asT.length<=2:=by
 have i:=λa=>cM l (n:=2) aU a;refine⟨zl l _ h 4 0 _ (show[nI].length+4<=34 by decide),?_,?_⟩;show 0<(eM l _ _ _).1.length;rw[CJ];omega;show(eM l _ _ _).1.length<=2;rw[CJ];have u:∀x:Nat,x<2->1+x<=2:=λx h=>by omega
 exact u _ (i _)
section
variable {dm dm' rl rl':I_} {al:Nat->L2_} {lo:Nat->I_->Int} {b b':Nat->Nat}
theorem Sd.scale{D k:Nat}{x:FV}{z:Int}(h:Sd D x z):Sd (D*k) x (z*(k:Nat)):=by
 refine⟨h.1,h.2.1,?_⟩;have:=h.2.2;rw[ayL]
 grind
theorem Vc(hB:jC dm' rl' al lo)(s:(PB dm rl al lo false).Good b)(s':lG (PB dm' rl' al lo) (stB dm' rl' al lo).cols.length b'){k:Int}(l:0<k){y:Nat->Nat->Int}(h:vL dm' rl' al (k*(PB dm rl al lo false).den b) y)(i:HI al lo dm'.length y<=k*(PB dm rl al lo false).obj b) :
  (PB dm' rl' al lo false).obj b'*(PB dm rl al lo false).den b<=(PB dm rl al lo false).obj b*(PB dm' rl' al lo false).den b':=by
 have w:=lG.QX hB s' h;have A:=s'.jA.pos;have E:=ayX i (Om:0<=(PB dm' rl' al lo false).den b');refine Int.le_of_mul_le_mul_left (a:=k) ?_ l;have u:k*((PB dm' rl' al lo false).obj b'*(PB dm rl al lo false).den b)=k*(PB dm rl al lo false).den b*(PB dm' rl' al lo false).obj b':=by grind
 have e2:k*((PB dm rl al lo false).obj b*(PB dm' rl' al lo false).den b')=(PB dm' rl' al lo false).den b'*(k*(PB dm rl al lo false).obj b):=by grind
 omega
end
def rX(f:aH)(lv cnt:Int)(room:I_)(b:Nat->Nat):FV:=rS f room (dpX (eX f) (dK f room) (alF f) (loF f lv cnt) b) (rpX (eX f) (dK f room) (alF f) (loF f lv cnt) b)
def PF_(f:aH)(lv cnt:Int)(room:I_):Bool->Lin:=PB (eX f) (dK f room) (alF f) (loF f lv cnt)
def NF_(f:aH)(lv cnt:Int)(room:I_):Nat:=(stB (eX f) (dK f room) (alF f) (loF f lv cnt)).cols.length
structure xQ(f:aH)(cnt:Int):Prop where
 v:dR f=true
 ok:f.Ok
 d:0<l'' f.asP/\l'' f.asP<=7
 p:0<l'' f.asT/\l'' f.asT<=2
 c:cnt<=2
theorem xQ.drop{f:aH}{cnt:Int}(h:xQ f cnt):xQ (eQ f) cnt:=⟨IT h.v,Yt h.ok,h.d,h.p,h.c⟩
section
variable {f:aH} {lv cnt:Int} {room room':I_} {b b':Nat->Nat}
theorem xQ.beg(h:xQ f cnt)(lv:Int)(room:I_):jC (eX f) (dK f room) (alF f) (loF f lv cnt):=Xx h.v h.d.2 h.p.2 lv cnt h.c room
theorem xQ.sd(h:xQ f cnt)(s:lG (PF_ f lv cnt room) (NF_ f lv cnt room) b):0<((PF_ f lv cnt room false).den b).toNat/\((PF_ f lv cnt room false).den b).toNat<=362880/\Sd ((PF_ f lv cnt room false).den b).toNat (rX f lv cnt room b) ((PF_ f lv cnt room false).obj b)/\cK (rX f lv cnt room b).2.1 (rX f lv cnt room b).2.2=true:=by
 have hB:=h.beg lv room;have hp:=s.jA.pos;have l:=(hB.VO false).den b;have hV:=VF.of h.v;have i:=Xz (f:=f) (rm:=room) rfl (by unfold mR;rw[aD h.v]) hB (by rw[iZ];have:=h.d;omega) (b:=b) s.jA;unfold PF_ at *
 refine⟨by omega,by omega,i.1,i.1.valid Om Om Om⟩
theorem Vv{x y:FV}{D E:Nat}{z w:Int}(hD:0<D)(u:0<E)(A:Sd D x z)(F:Sd E y w)(h:w*(D:Int)<=z*(E:Int)):¬UP x y<0:=by
 have l:=A.scale (k:=E);have i:=F.scale (k:=D);rw[avO E D]at i;rw[akD (Nat.mul_pos hD u) l i];omega
theorem XH{P:Lin}(g:P.Good b):((P.den b).toNat:Int)=P.den b:=by have:=g.pos;omega
theorem aaS(h:xQ f cnt)(s:lG (PF_ f lv cnt room) (NF_ f lv cnt room) b)(J:∀d,d<l'' f.asP->(dK f room).getD d 0<=(dK f room').getD d 0) :
  (∀b',¬jz (PF_ f lv cnt room') (NF_ f lv cnt room') b')/\∀b',lG (PF_ f lv cnt room') (NF_ f lv cnt room') b'->¬UP (rX f lv cnt room b) (rX f lv cnt room' b')<0:=by
 have hB:=h.beg lv room;have i:=h.beg lv room';obtain⟨E,F⟩:=lG.sJ rfl hB s;have hp:=s.jA.pos;have l:=E.more (rl':=dK f room') (by rw[iZ,iZ]) (λd u=>J d (by rw[iZ]at u;exact u)) (by unfold PF_ at hp;omega);refine⟨λb' s'=>s'.no i hp l,λb' s'=>?_⟩;have H:=Vc (k:=1) i s.jA s' aU (by rw[Int.one_mul];exact l) (by rw[Int.one_mul];exact Int.le_of_eq F);obtain⟨w,-,y,-⟩:=h.sd s;obtain⟨A,-,e2,-⟩:=h.sd s';refine Vv w A y e2 ?_;rw[XH s.jA,XH s'.jA];exact H
theorem aaR(h:xQ f cnt)(E:f.asR≠[])(s:lG (PF_ f lv cnt room) (NF_ f lv cnt room) b) :
  (∀b',¬jz (PF_ (eQ f) lv cnt room) (NF_ (eQ f) lv cnt room) b')/\∀b',lG (PF_ (eQ f) lv cnt room) (NF_ (eQ f) lv cnt room) b'->¬UP (rX f lv cnt room b) (rX (eQ f) lv cnt room b')<0:=by
 have hB:=h.beg lv room;have i:=h.drop.beg lv room;obtain⟨N,O⟩:=lG.sJ rfl hB s;have hp:=s.jA.pos;obtain⟨q,n,U,S,y,A⟩:=Yl (VF.of h.v) E;obtain⟨H,Q⟩:=N.less (lo:=loF f lv cnt) U S y λp hp s V=>(hB.cost p hp s V).1;have u:alF (eQ f)=alF f:=by unfold alF;rw[Tl h.v]
 have w:loF (eQ f) lv cnt=loF f lv cnt:=by unfold loF;rw[(lz h.v lv cnt).2];rfl
 have l:PF_ (eQ f) lv cnt room=PB ((eX f).set q (n-1)) (dK f room) (alF f) (loF f lv cnt):=by unfold PF_;rw[u,w,A];rfl
 have F:NF_ (eQ f) lv cnt room=(stB ((eX f).set q (n-1)) (dK f room) (alF f) (loF f lv cnt)).cols.length:=by unfold NF_;rw[u,w,A];rfl
 rw[u,w,A]at i;change jC ((eX f).set q (n-1)) (dK f room) (alF f) (loF f lv cnt)at i;refine⟨λb' s'=>?_,λb' s'=>?_⟩;rw[l,F]at s';exact s'.no i (Int.mul_pos y hp) H;obtain⟨J,-,K,-⟩:=h.sd s;obtain⟨M,-,e2,-⟩:=h.drop.sd s';refine Vv J M K e2 ?_;rw[XH s.jA,XH s'.jA];rw[l]at s' ⊢;rw[F]at s';exact Vc i s.jA s' y H (by rw[avT,<-O];exact Q)
theorem aaT(h:xQ f cnt)(u:f.asR=[])(s:lG (PF_ f lv cnt room) (NF_ f lv cnt room) b):(rX f lv cnt room b).2.1=0:=by
 have hB:=h.beg lv room;obtain⟨y,A⟩:=lG.sJ rfl hB s;have l:∀p,p<(eX f).length->¬0<(eX f).getD p 0:=λp hp=>by rw[Tg f (by rw[kS]at hp;exact hp),u];exact Int.lt_irrefl 0
 have E:(PF_ f lv cnt room false).obj b=0:=by refine A.symm.trans ?_;unfold HI;refine gV λp hp=>gV λi hi=>?_;rw[y.none p i hp (l p hp) hi,awV]
 obtain⟨F,-,w,-⟩:=h.sd s;rw[E]at w;have e:sgF (rX f lv cnt room b)=0:=by
  have:=w.2.2;rw[awV]at this;rcases Int.mul_eq_zero.1 this with h|h
  omega;exact h
 rw[<-xw,e];rfl
end
def iH:=bR [62] Proofs.Tryz.f3
def yi:=aC iH 0
def yj:=aC iH 1
def yk:=aC iH 2
def yl:=aC iH 3
def HJ:=aC iH 4
def SX:=aC iH 5
def ym:=aC iH 6
def yn:=aC iH 7
def yo:=aC iH 8
def yq:=aC iH 9
def CK:=aC iH 10
def MW:=aC iH 11
def MX:=aC iH 12
def kp:=aC iH 13
def ko:aK:=(fY yo 42 0 kp (sq yq (iE CK 48 (.region MW) (.region MX))))
def ku:=aC iH 14
def kw:=aC iH 15
def Oo:=aC iH 16
def kx:=aC iH 17
def kz:=aC iH 18
def lf:=aC iH 19
def lg:=aC iH 20
def lh:=aC iH 21
def YZ:aK:=(sq yi (sq yj (sq yk (sq yl (mM HJ 37 SX (sq ym (.seq (eH yn 0 ko) (sq ku (mM kw 91 Oo (mM kx 95 kz (sq lf (sq lg (sq lh .ret)))))))))))))


def kn:=bR [] Proofs.Tryz.f4
def MV:=bX kn




variable{C:Ctx}
theorem aQ.aoB{F:PF}{H:PH}{B:List BX}{L:List LI}{args:List aP}{d:O_}{K:K_}(h:aQ H B L){l:N_}(y:aG C 28 [.sl 1 (iS l)] .nil (vh l))(u:aP.evs F args=some [.sl 1 (iS l)])(w:∀o v H',Tp (l.take 400) v->aQ H' (B++[(o,bF v 0)]) L->K (F.put d (.ptr o 2 0 0)) H'):iW C 28 args [] d K F H:=by
 refine fD y u a_ ?_;rintro r H' ⟨o,v,rfl,T,rfl⟩ i;rw[PH.oV];exact w o v _ T (h.new (i o (bF v 0) (by rw[cA]) rfl) _)
def AB(l:N_):Nat × Nat:=aI l 5 0
def qP(l:N_):Nat × Nat:=aI l 2 (AB l).2
def rdF(l:N_)(d v:Nat):aH × Nat:=hZ l d v (qP l).2
def rdR(l:N_)(d v:Nat):I_ × Nat:=sS l (rdF l d v).1 (rdF l d v).2
theorem aaU(l:N_)(f:aH){a:Nat}(h:a<=l'' l):(sS l f a).2<=l'' l:=by
 have i:=bU l 4 h;unfold sS;simp only;split;exact i;exact(UX l i _).1
theorem adJ(l:N_)(d v:Nat):(qP l).2<=l'' l/\(rdF l d v).2<=l'' l/\(rdR l d v).2<=l'' l:=by
 have w:=bU l 5 (auK l.length);have i:(qP l).2<=l'' l:=bU l 2 w;have u:(rdF l d v).2<=l'' l:=T0 l d v i;exact⟨i,u,aaU l _ u⟩
def Cz(l:N_)(d i:Nat)(r:PV)(H:PH):Prop:=∃o v,r=.tup [.agg (rdF (l.take 400) d i).1.cells,yC (1+(AB (l.take 400)).1:Nat) (1+(qP (l.take 400)).1:Nat),ints (rdR (l.take 400) d i).1,.ptr o 2 0 0]/\Tp (l.take 400) v/\H=h_.set o (bF v (rdR (l.take 400) d i).2)
structure Sk(C:Ctx):Prop where
 new:∀(l:N_),(∀x∈l,x<256)->l'' l<=9223372036854775807->aG C 28 [.sl 1 (iS l)] .nil (vh l)
 tfleet:∀(l:N_)(v:PV),Tp l v->∀(o asP asR a:Nat),asP<=60->asR<=50->a<=l'' l ->
  aG C 0 [.ptr o 2 0 0,.int .i64 asP,.int .i64 asR] (h_.set o (bF v a)) (λr H=>r=.agg (hZ l asP asR a).1.cells/\H=h_.set o (bF v (hZ l asP asR a).2))
 QK:∀(l:N_)(v:PV),Tp l v->∀(o a:Nat)(f:aH),l'' f.asP<=1000->a<=l'' l->aG C 6 [.ptr o 2 0 0,.agg f.cells] (h_.set o (bF v a)) (λr H=>r=ints (sS l f a).1/\H=h_.set o (bF v (sS l f a).2))
 next:∀(l:N_)(v:PV),Tp l v->∀(o n a:Nat),n<=1000000->a<=l'' l->aG C 4 [.ptr o 2 0 0,.int .i64 n] (h_.set o (bF v a)) (λr H=>r=.int .i64 ((aI l n a).1:Nat)/\H=h_.set o (bF v (aI l n a).2))
theorem Yd(K:Sk C)(l:N_)(hb:∀x∈l,x<256)(hl:l'' l<=9223372036854775807)(d u:Nat)(hd:d<=24)(W:u<=12) :
  MV.wp C (aX kn.res (Cz l d u)) (g_ [.sl 1 (iS l),.j (d:Nat),.j (u:Nat)]) .nil:=by
 have V:=cM (l.take 400) (n:=5) aU 0;have i1:=bU (l.take 400) 5 (auK _);have U:=cM (l.take 400) (n:=2) aU (AB (l.take 400)).2;obtain⟨i2,i3,i4⟩:=adJ (l.take 400) d u;obtain⟨hv,hf⟩:=TM (l.take 400) d u (qP (l.take 400)).2 hd W;have β:=(VF.of hv).small.asP;have k0:=λv T o=>K.next (l.take 400) v T o 5 0 aU (auK _);have k1:=λv T o=>K.next (l.take 400) v T o 2 (AB (l.take 400)).2 aU i1;have k2:=λv T o=>K.tfleet (l.take 400) v T o d u (qP (l.take 400)).2 Om Om i2;have k3:=λv T o=>K.QK (l.take 400) v T o (rdF (l.take 400) d u).2 (rdF (l.take 400) d u).1 (by show(hZ (l.take 400) d u (qP (l.take 400)).2).1.asP.length<=1000;omega) i3;unfold Cz;show MV.wp C (aX kn.res (λr H=>∃o v,r=.tup [.agg (rdF (l.take 400) d u).1.cells,yC (1+(AB (l.take 400)).1:Nat) (1+(qP (l.take 400)).1:Nat),ints (rdR (l.take 400) d u).1,.ptr o 2 0 0]/\Tp (l.take 400) v/\H=h_.set o (bF v (rdR (l.take 400) d u).2))) _ _;change ∀v,Tp (l.take 400) v->∀o,aG C 4 [.ptr o 2 0 0,.j 5] (h_.set o (bF v 0)) (λr H=>r=.j ((AB (l.take 400)).1:Nat)/\H=h_.set o (bF v (AB (l.take 400)).2))at k0;change ∀v,Tp (l.take 400) v->∀o,aG C 4 [.ptr o 2 0 0,.j 2] (h_.set o (bF v (AB (l.take 400)).2)) (λr H=>r=.j ((qP (l.take 400)).1:Nat)/\H=h_.set o (bF v (qP (l.take 400)).2))at k1;change ∀v,Tp (l.take 400) v->∀o,aG C 0 [.ptr o 2 0 0,.j (d:Nat),.j (u:Nat)] (h_.set o (bF v (qP (l.take 400)).2)) (λr H=>r=.agg (rdF (l.take 400) d u).1.cells/\H=h_.set o (bF v (rdF (l.take 400) d u).2))at k2;change ∀v,Tp (l.take 400) v->∀o,aG C 6 [.ptr o 2 0 0,.agg (rdF (l.take 400) d u).1.cells] (h_.set o (bF v (rdF (l.take 400) d u).2)) (λr H=>r=ints (rdR (l.take 400) d u).1/\H=h_.set o (bF v (rdR (l.take 400) d u).2))at k3;change(AB (l.take 400)).1<5 at V;change(qP (l.take 400)).1<2 at U;generalize(rdR (l.take 400) d u).1=room at *
 generalize(rdR (l.take 400) d u).2=O at *
 generalize(rdF (l.take 400) d u).2=af at *
 generalize(rdF (l.take 400) d u).1=f at *
 generalize(qP (l.take 400)).2=ac at *
 generalize(AB (l.take 400)).2=al at *
 generalize(qP (l.take 400)).1=J at *
 generalize(AB (l.take 400)).1=lv at *
 have w1:i_.wrap (1+((lv:Nat):Int))=((1+lv:Nat):Int):=wO_
 have w2:i_.wrap (1+((J:Nat):Int))=((1+J:Nat):Int):=wO_
 simp only[go_sem,MV,kn];refine aQ.nil.zM λo6 H1 h1=>?_;simp only[go_sem];refine h1.zM λo7 H2 h2=>?_;simp only[go_sem];refine h2.aoB (K.new l hb hl) Sq λo v H3 T h3=>?_;simp only[go_sem];refine h3.VQ 2 rfl (k0 v T o) Sq λH4 h4=>?_;simp only[go_sem,w1];refine h4.VQ 2 rfl (k1 v T o) Sq λH5 h5=>?_;simp only[go_sem,w2];refine h5.zM λE H6 Z=>?_;have e6:=Z.at 3 rfl;have h7:=Z.set 3 rfl (.rows 2 [[.j ((1+lv:Nat):Int),.j ((1+J:Nat):Int)]]);simp only[go_sem,e6];generalize H6.set E _=H7 at *
 try simp only[go_sem]
 refine h7.VQ 2 rfl (k2 v T o) Sq λH8 h8=>?_;simp only[go_sem];refine h8.zM λF H9 h9=>?_;have e9:=h9.at 4 rfl;have i:=h9.set 4 rfl (.rows 7 [f.cells]);simp only[go_sem,e9];generalize H9.set F _=Q at *
 have M:=i.at 4 rfl;have S:=i.at 3 rfl;have go:=i.at 2 rfl;have m1:=i.ne 2 3 rfl rfl aU;have m2:=i.ne 2 4 rfl rfl aU;have m3:=i.ne 0 3 rfl rfl aU;have m4:=i.ne 0 4 rfl rfl aU;have m5:=i.ne 1 3 rfl rfl aU;have m6:=i.ne 1 4 rfl rfl aU;have m7:=i.ne 3 4 rfl rfl aU;have m8:=i.ne 0 1 rfl rfl aU;have m9:=i.ne 0 2 rfl rfl aU;have γ:=i.ne 1 2 rfl rfl aU;have g6:=i.at 0 rfl;have g7:=i.at 1 rfl;refine bV ((h_.set F (.rows 7 [f.cells])).set E (.rows 2 [[.j ((1+lv:Nat):Int),.j ((1+J:Nat):Int)]])) (λ_ _=>some ([o],λ_ r H'=>r=ints room/\H'=h_.set o (bF v O))) (c_ (c_ a_ M) S) ?_;have Y:¬F=E:=λe=>m7 e.symm;simp only[go_sem,Y,M];have w:=i.set 2 rfl (bF v O);refine E8 rfl go (k3 v T o) ⟨rfl,rfl⟩ (λr' H' h=>h) Sq (c_ (c_ a_ (w.at 4 rfl)) (w.at 3 rfl)) ?_;generalize Q.set o (bF v O)=α at *
 have q6:=w.at 0 rfl;have y:=w.set 0 rfl (.rows 7 [f.cells]);simp only[go_sem,q6];refine⟨c_ (c_ a_ (y.at 4 rfl)) (y.at 3 rfl),?_⟩;have q7:=w.at 1 rfl;have N:¬o7=o6:=λe=>m8 e.symm;have A:=y.set 1 rfl (.rows 2 [[.j ((1+lv:Nat):Int),.j ((1+J:Nat):Int)]]);simp only[go_sem,N,q7];refine⟨c_ (c_ a_ (A.at 4 rfl)) (A.at 3 rfl),?_⟩;exact aY (.inr rfl) (h_.set o (bF v O)) (vs:=[.agg f.cells,yC (1+lv:Nat) (1+J:Nat),ints room,.ptr o 2 0 0]) (by simp only[go_sem,m8,N]) (c_ a_ (A.at 2 rfl)) ⟨o,v,rfl,T,rfl⟩
structure acV(C:Ctx):Prop where
 read:∀(l:N_),(∀x∈l,x<256)->l'' l<=9223372036854775807->aG C 326 [.sl 1 (iS l),.int .i64 (6:Nat),.int .i64 (4:Nat)] .nil (Cz l 6 4)
 rroom:∀(f:aH)(room:I_),f.Ok->aG C 85 [.agg f.cells,ints room] .nil (aJ (ints (mR f room)))
 solve:∀(f:aH)(lv cnt:Int)(room:I_),xQ f cnt->aG C 333 [.agg f.cells,yC lv cnt,ints room] .nil (λr H'=>Nx f room (eX f) (dK f room) (alF f) (loF f lv cnt) (kB f lv cnt) r/\H'=.nil)
 valid:∀x:RF,x.Ok->aG C 56 [.agg x.cells] .nil (aJ (.bool (cK (val x.num) (val x.den))))
 less:∀x y:RF,x.Ok->y.Ok->x.valid->y.valid->aG C 49 [.agg x.cells,.agg y.cells] .nil (aJ (.bool (decide (qO x y<0))))
 sign:∀x:RF,x.Ok->x.valid->aG C 54 [.agg x.cells] .nil (aJ (.int .i64 (rN x)))
 ML:aG C 332 [] .nil (aJ (.bool true))
def grM(more:N_)(d:Nat):Int:=if d<more.length then((more.getD d 0%3:Nat):Int)else 0
def grT(room:I_)(more:N_)(k:Nat):I_:=(auE k).map λd=>room.getD d 0+grM more d
theorem Y9(room:I_)(more:N_)(k:Nat):grT room more (k+1)=grT room more k++[room.getD k 0+grM more k]:=by unfold grT;rw[ayA,avD];rfl
theorem LC(room:I_)(more:N_)(k:Nat):(grT room more k).length=k:=by unfold grT;simp
theorem Ua(more:N_)(d:Nat):0<=grM more d/\grM more d<=2:=by
 unfold grM;split;have:=awJ (more.getD d 0) (show 3>0 by decide);omega;omega
theorem afI(f:aH)(i:I_)(more:N_)(hV:VF f){d:Nat}(l:d<l'' f.asP):(dK f (dK f i)).getD d 0<=(dK f (grT (dK f i) more f.asP.length)).getD d 0:=by
 have e:∀r:I_,(dK f r).getD d 0=rW f r d:=λr=>by
  have h:d<(dK f r).length:=by rw[iZ];exact l
  rw[auM,auP h,axC,ip]
 rw[e,e];have e2:(grT (dK f i) more f.asP.length).getD d 0=(dK f i).getD d 0+grM more d:=by unfold grT;simp[auM,l]
 unfold rW;rw[iZ,LC,aD rfl,aD rfl,e2];have:=Ua more d;omega
theorem Qx(f:aH)(lv i:Int)(room:I_)(b:Nat->Nat):(rX f lv i room b).rf.Ok:=by
 unfold rX rS;exact KR (KR (Ic 0 aU))
theorem S9(E:acV C)(l more:N_)(hb:∀x∈l,x<256)(hl:l'' l<=9223372036854775807)(hm:∀x∈more,x<256)(E':l'' more<=9223372036854775807) :
  YZ.wp C (aX iH.res (aJ (.bool true))) (g_ [.sl 1 (iS l),.sl 1 (iS more)]) .nil:=by
 obtain⟨hv,hf⟩:=TM (l.take 400) 6 4 (qP (l.take 400)).2 aU aU;have k':=Ce (l.take 400) 6 4 (a:=(qP (l.take 400)).2) (adJ (l.take 400) 6 4).1;obtain⟨ψ,ω,Γ⟩:=T1 (l.take 400) (asP:=6) aU 4 (qP (l.take 400)).2;have W:=E.read l hb hl;have n2:=cM (l.take 400) (show 0<2 by decide) (AB (l.take 400)).2;have j':((1+(qP (l.take 400)).1:Nat):Int)<=2:=by unfold qP;omega
 unfold Cz at W;change dR (rdF (l.take 400) 6 4).1=true at hv;change(rdF (l.take 400) 6 4).1.Ok at hf;change(rdF (l.take 400) 6 4).1.asP.length<=6 at k';change 0<(rdF (l.take 400) 6 4).1.asP.length at ψ;change 0<(rdF (l.take 400) 6 4).1.asT.length at ω;change(rdF (l.take 400) 6 4).1.asT.length<=2 at Γ;generalize(rdF (l.take 400) 6 4).1=f at *
 generalize(rdR (l.take 400) 6 4).1=i at *
 generalize(rdR (l.take 400) 6 4).2=ξ at *
 generalize(1+(AB (l.take 400)).1:Nat)=lv at *
 generalize(1+(qP (l.take 400)).1:Nat)=u at *
 have A:xQ f u:=⟨hv,hf,⟨ψ,by omega⟩,⟨ω,Γ⟩,j'⟩;have hV:=VF.of hv;have kr:=E.rroom f i hf;rw[show mR f i=dK f i from by unfold mR;rw[aD hv]]at kr;simp only[go_sem,YZ,yi,yj,iH];refine fD W (by simp only[go_sem];rfl) a_ ?_;rintro r H' ⟨o,v,rfl,T,rfl⟩ A';rw[PH.oV];have h1:aQ (h_.set o (bF v ξ)) [] []:=aQ.nil;generalize h_.set o (bF v ξ)=H1 at h1 ⊢;simp only[go_sem];refine h1.zM λo5 H2 h2=>?_;simp only[go_sem];refine h2.zM λo6 H3 h3=>?_;have q5:=h3.at 0 rfl;have h4:=h3.set 0 rfl (.rows 7 [f.cells]);have n9:¬o6=o5:=λe=>h3.ne 0 1 rfl rfl aU e.symm;have p':¬o5=o6:=λe=>n9 e.symm;have q6:=h3.at 1 rfl;have h5:=h4.set 1 rfl (.rows 2 [[.j ((lv:Nat):Int),.j ((u:Nat):Int)]]);simp only[go_sem,q5,q6,n9,p'];generalize(H3.set o5 _).set o6 _=H5 at *
 have S:=h5.at 0 rfl;have g6:=h5.at 1 rfl;simp only[go_sem,yk,S];refine aA kr Sq ?_;have k1:=E.solve f lv u (dK f i) A;have V:=λd hd=>afI f i more hV (d:=d) hd;have o':(dK f i).length=l'' f.asP:=iZ ..;have n':∀d,0<=(dK f i).getD d 0/\(dK f i).getD d 0<=200:=λd=>by by_cases hd:d<(dK f i).length;rw[auM,auP hd];exact(A.beg lv i).room _ (auH hd);rw[auM,avZ Om];decide
 generalize dK f i=rm at *
 simp only[go_sem,yl,S,g6];refine fD k1 Sq a_ ?_;rintro r H' ⟨hS,rfl⟩ -;rw[PH.rK];rcases hS with⟨he,rfl⟩|⟨he,b,s,rfl⟩|⟨he,b,s,cv,hcv,rfl⟩
 simp only[go_sem];refine h5.zM λJ H6 h6=>?_;have M:=h6.at 2 rfl;simp only[go_sem,M,HJ,eZ he,SX];refine aA E.ML Sq ?_;simp only[go_sem];exact jK Sq rfl;simp only[go_sem];refine h5.zM λJ H6 h6=>?_;have M:=h6.at 2 rfl;simp only[go_sem,M,HJ,SX];refine aA E.ML Sq ?_;simp only[go_sem];exact jK Sq rfl;obtain⟨z',F'⟩:True/\True:=⟨trivial,trivial⟩;have vx:=(A.sd s).2.2.2;have Y:(rX f lv u rm b).rf.Ok:=Qx ..;have one:=hcv;unfold PV.one at one;obtain⟨y,hy⟩:∃y,y=rX f lv u rm b:=⟨_,rfl⟩;rw[show rS f rm (dpX (eX f) (dK f rm) (alF f) (loF f lv u) b) (rpX (eX f) (dK f rm) (alF f) (loF f lv u) b)=y from hy.symm];rw[<-hy]at vx Y;generalize dpX (eX f) (dK f rm) (alF f) (loF f lv u) b=da;generalize rpX (eX f) (dK f rm) (alF f) (loF f lv u) b=ra;rw[show[cv,frs da,frs ra]++y.rf.cells=[cv,frs da,frs ra,.bool y.rf.neg,aL y.rf.num,aL y.rf.den]from rfl];simp only[go_sem];refine h5.zM λJ H6 h6=>?_;have M:=h6.at 2 rfl;have h7:=(h6.set 2 rfl (.rows 6 [[cv,frs da,frs ra,.bool y.rf.neg,aL y.rf.num,aL y.rf.den]])).lJ 1;simp only[go_sem,M,one,HJ,ym,yn];generalize H6.set J _=H7 at *
 have D':=V;refine wp_loop (α:=T3_) (λt=>(((((((n_.set 1 (.sl 1 (iS more))).set 5 (.ptr o5 7 0 0)).set 6 (.ptr o6 2 0 0)).set 9 (ints rm)).set 10 (.ptr J 6 0 0)).set 12 (t.2.1)).set 13 (.j t.1))) (λt=>t.2.2) (λt=>t.1<=l'' rm/\aQ t.2.2 [(o5,.rows 7 [f.cells]),(o6,.rows 2 [[.j ((lv:Nat):Int),.j ((u:Nat):Int)]]),(J,.rows 6 [[cv,frs da,frs ra,.bool y.rf.neg,aL y.rf.num,aL y.rf.den]])] [(t.2.1,1,aR (grT rm more t.1))]) (λt=>l'' rm-t.1) (0,.aE,H7) ⟨auK _,h7⟩ Lq b_ ?_;clear h7 M h6 h5 S g6 H6 H7;rintro⟨k,w,H7⟩ ⟨hk,h7⟩;simp only at hk h7 ⊢;simp only[go_sem,ko,yo,auD];by_cases Φ:k<l'' rm;have K:(k:Int)<(l'' rm:Nat):=Om;have i':(rm.map λn=>[PV.int .i64 n])[k]?=some [.j (rm.getD k 0)]:=by simp[auM,Φ]
 have B':=n' k;have C':=Ua more k;have hw:i_.wrap (rm.getD k 0+grM more k)=rm.getD k 0+grM more k:=wrap_i64 Om Om;simp only[go_sem,K,yq];refine wp_cut (a:=.seq (.region CK) (.cond (.tmp 48) (.region MW) .skip)) (c:=.region MX) (α:=Unit) (λ_=>((((((((n_.set 1 (.sl 1 (iS more))).set 5 (.ptr o5 7 0 0)).set 6 (.ptr o6 2 0 0)).set 9 (ints rm)).set 10 (.ptr J 6 0 0)).set 12 (w)).set 13 (.j k)).set 14 (.j (grM more k)))) (λ_=>H7) (λ_=>True) ?_ ?_;by_cases c:k<l'' more;have c':(k:Int)<(l'' more:Nat):=Om;have χ:(iS more)[k]?=some [.int .u8 ((more.getD k 0:Nat):Int)]:=by unfold iS;simp[auM,c]
 have hlt:more.getD k 0<256:=by rw[auM,auP c];exact hm _ (auH c)
 have η:grM more k=((more.getD k 0%3:Nat):Int):=by unfold grM;rw[aD c]
 rw[η];generalize more.getD k 0=x at *
 simp only[go_sem,CK,auD,c',MW,χ];have e:(i_.wrap (x:Int)).tmod 3=((x%3:Nat):Int):=by rw[wrap_i64 Om Om,Int.tmod_eq_emod_of_nonneg Om];omega
 refine⟨(),?_⟩;exact lE1 e;have c':¬(k:Int)<(l'' more:Nat):=Om;have η:grM more k=0:=by unfold grM;rw[aB c]
 rw[η];simp only[go_sem,CK,auD,c'];refine⟨(),?_⟩;exact Lq;intro _ _;simp only[go_sem,MX,i',K,hw];refine h7.append 0 (src:=[[.j (rm.getD k 0+grM more k)]]) rfl Sq (by unfold roomFor;rw[bG,LC];simp only[auS,maxLen];omega) λw' H8 h8 _=>?_;simp only[go_sem,kp,wZz k];refine aF (k+1,w',H8) ⟨Φ,?_⟩ sO_ Lq b_;show aQ H8 _ [(w',1,aR (grT rm more (k+1)))];rw[Y9,GC];exact h8;have K:¬(k:Int)<(l'' rm:Nat):=Om;have:k=l'' rm:=Om;subst this;obtain⟨q,rfl⟩:=(h7.own 0 rfl).one (by rw[bG,LC];omega);obtain⟨rs,d1,d2,-,-,h8⟩:=h7.frz 0 rfl;have S:=h7.at 0 rfl;have g6:=h7.at 1 rfl;have k2:=E.solve f lv u (grT rm more rm.length) A;rw[bG,LC]at d2;simp only[go_sem,K,ku,S,g6,bG,LC];refine .inr ⟨_,_,.step q d1 (.refl _ _),[.agg f.cells,yC lv u,ints (grT rm more rm.length)],.nil,_,?_,a_,k2,?_⟩;have d3:PV.frz q 1 rs (.osl q 1 0 rm.length)=.sl 1 (aR (grT rm more rm.length)):=d2;simp only[wA,EL,KT,rT,mF,Nat.reduceEqDiff,reduceIte,avB,d3];rfl;rintro r H' ⟨h',rfl⟩ -;rw[PH.rK];have h9:aQ (H7.frz q 1 rs) [(o5,.rows 7 [f.cells]),(o6,.rows 2 [[.j ((lv:Nat):Int),.j ((u:Nat):Int)]]),(J,.rows 6 [[PV.cZ q 1 rs cv,frs da,frs ra,.bool y.rf.neg,aL y.rf.num,aL y.rf.den]])] []:=h8;clear h8 h7 d1 d2 S g6 hcv one;generalize PV.cZ q 1 rs cv=cz at *
 generalize H7.frz q 1 rs=H8 at *
 obtain⟨no,v'⟩:=aaS (room':=grT rm more rm.length) A s λd hd=>by rw[o'];exact V d hd
 rcases h' with⟨l',-⟩|⟨-,b2,s2,-⟩|⟨-,b2,s2,cv2,hcv2,rfl⟩
 exact absurd he l';exact absurd s2 (no b2);have v2:=(A.sd s2).2.2.2;have θ:(rX f lv u (grT rm more rm.length) b2).rf.Ok:=Qx ..;have F:=v' b2 s2;have γ:=hcv2;unfold PV.one at γ;obtain⟨N,Δ⟩:∃y,y=rX f lv u (grT rm more rm.length) b2:=⟨_,rfl⟩;rw[show rS f (grT rm more rm.length) (dpX (eX f) (dK f (grT rm more rm.length)) (alF f) (loF f lv u) b2) (rpX (eX f) (dK f (grT rm more rm.length)) (alF f) (loF f lv u) b2)=N from Δ.symm];rw[<-Δ]at v2 θ F;rw[<-hy]at F;generalize dpX (eX f) (dK f (grT rm more rm.length)) (alF f) (loF f lv u) b2=ε;generalize rpX (eX f) (dK f (grT rm more rm.length)) (alF f) (loF f lv u) b2=κ;rw[show[cv2,frs ε,frs κ]++N.rf.cells=[cv2,frs ε,frs κ,.bool N.rf.neg,aL N.rf.num,aL N.rf.den]from rfl];simp only[go_sem];refine h9.zM λr' H9 σ=>?_;have t':=σ.at 3 rfl;have U:=σ.set 3 rfl (.rows 6 [[cv2,frs ε,frs κ,.bool N.rf.neg,aL N.rf.num,aL N.rf.den]]);simp only[go_sem,t',γ];generalize H9.set r' _=ν at *
 have S:=U.at 0 rfl;have g6:=U.at 1 rfl;have Q:=U.at 2 rfl;have ο:=U.at 3 rfl;have vr:y.rf.valid:=by unfold RF.valid FV.rf;rw[aV,aV];exact vx
 have b':N.rf.valid:=by unfold RF.valid FV.rf;rw[aV,aV];exact v2
 have Ψ:=E.valid y.rf Y;have Ω:=E.valid N.rf θ;have Λ:=E.less y.rf N.rf Y θ vr b';rw[show cK (val y.rf.num) (val y.rf.den)=true from vr]at Ψ;rw[show cK (val N.rf.num) (val N.rf.den)=true from b']at Ω;rw[Vg,bT F]at Λ;simp only[go_sem,kw,Q];refine aA Ψ Sq ?_;simp only[go_sem,auO,ο];refine aA Ω Sq ?_;simp only[go_sem,auO,Q,ο];refine aA Λ Sq ?_;simp only[go_sem,kx,S,auD];by_cases Z:f.asR=[];have c0:(l'' f.asR:Int)=0:=by rw[Z];rfl
 have hz:rN y.rf=0:=by unfold rN FV.rf;rw[aV,hy,aaT A Z s,aD rfl]
 have ks:=E.sign y.rf Y vr;rw[hz]at ks;simp only[go_sem,c0,kz,Q];refine aA ks Sq ?_;simp only[go_sem];refine aA E.ML Sq ?_;simp only[go_sem];exact jK Sq rfl;have c0:¬(l'' f.asR:Int)=0:=by have:l'' f.asR≠0:=λh=>Z (List.length_eq_zero_iff.1 h);omega
 have c1:1<=l'' f.asR:=Om;have k3:=E.solve (eQ f) lv u rm A.drop;have g':(1:Int)<=(l'' f.asR:Nat):=Om;have ed:List.drop 1 (List.take f.asR.length (f.asR.map dW.cells))=(eQ f).asR.map dW.cells:=by rw[auZ (by rw[auD];exact auG _),<-ayH];rfl
 have β:=U.set 0 rfl (.rows 7 [(eQ f).cells]);simp only[go_sem,bP c0,lf,S,g',ed];change aQ (ν.set o5 (.rows 7 [[.j f.atV,.sl 4 (f.asW.map cT.cells),.sl 4 (f.asQ.map dN.cells),.sl 7 (f.asS.map cQ.cells),.sl 3 (f.asP.map eE.cells),.sl 17 (f.asT.map cJ.cells),.sl 2 ((eQ f).asR.map dW.cells)]])) _ _ at β;generalize ν.set o5 _=x' at *
 have S:=β.at 0 rfl;have g6:=β.at 1 rfl;simp only[go_sem,lg,S,g6];refine fD k3 Sq a_ ?_;rintro r H' ⟨φ,rfl⟩ -;rw[PH.rK];rw[(lz hv lv u).1]at φ;obtain⟨q',e'⟩:=aaR A Z s;rcases φ with⟨m',-⟩|⟨-,b3,s3,-⟩|⟨-,b3,s3,cv3,hcv3,rfl⟩
 exact absurd he m';exact absurd s3 (q' b3);have v3:=(A.drop.sd s3).2.2.2;have ι:(rX (eQ f) lv u rm b3).rf.Ok:=Qx ..;have H:=e' b3 s3;have δ:=hcv3;unfold PV.one at δ;obtain⟨O,Θ⟩:∃y,y=rX (eQ f) lv u rm b3:=⟨_,rfl⟩;rw[show rS (eQ f) rm (dpX (eX (eQ f)) (dK (eQ f) rm) (alF (eQ f)) (loF (eQ f) lv u) b3) (rpX (eX (eQ f)) (dK (eQ f) rm) (alF (eQ f)) (loF (eQ f) lv u) b3)=O from Θ.symm];rw[<-Θ]at v3 ι H;rw[<-hy]at H;generalize dpX (eX (eQ f)) (dK (eQ f) rm) (alF (eQ f)) (loF (eQ f) lv u) b3=ζ;generalize rpX (eX (eQ f)) (dK (eQ f) rm) (alF (eQ f)) (loF (eQ f) lv u) b3=μ;rw[show[cv3,frs ζ,frs μ]++O.rf.cells=[cv3,frs ζ,frs μ,.bool O.rf.neg,aL O.rf.num,aL O.rf.den]from rfl];simp only[go_sem];refine β.zM λs' f' τ=>?_;have u':=τ.at 4 rfl;have υ:=τ.set 4 rfl (.rows 6 [[cv3,frs ζ,frs μ,.bool O.rf.neg,aL O.rf.num,aL O.rf.den]]);simp only[go_sem,u',δ];generalize f'.set s' _=y' at *
 have Q:=υ.at 2 rfl;have ρ:=υ.at 4 rfl;have d':O.rf.valid:=by unfold RF.valid FV.rf;rw[aV,aV];exact v3
 have a':=E.valid O.rf ι;have Ξ:=E.less y.rf O.rf Y ι vr d';rw[show cK (val O.rf.num) (val O.rf.den)=true from d']at a';rw[Vg,bT H]at Ξ;simp only[go_sem,lh,ρ];refine aA a' Sq ?_;simp only[go_sem,Q,ρ];refine aA Ξ Sq ?_;simp only[go_sem,auY];refine aA E.ML Sq ?_;simp only[go_sem];exact jK Sq rfl
def aW.vO:aW->Bool
 | .rows _ _=>true
 |_=>false
theorem OG{x:aW}(h:x.vO=true):x.live=some x:=by
 cases x<;>first|rfl|cases h
def okM(M:N_)(h:Hp):Bool:=DO M h&&M.all λi=>(gtH h i).vO
def bk(M:N_)(n:Nat)(j:Nat):Nat:=if Nat.blt j M.length then atN M j else n+(j-l'' M)
def CG(M:N_)(h2:Hp)(t:Nat->Nat):Nat->Hp->Hp
 |_,[]=>[]
 |i,x::xs=>(if inL M i then(gtH h2 (posOf M i)).rn t else x)::CG M h2 t (i+1) xs
def rV(M:N_)(h h2:Hp):Hp:=(match M with|[]=>h|_=>CG M h2 (bk M h.length) 0 h)++(h2.drop M.length).map (aW.rn (bk M h.length))
theorem Mj(M:N_)(h2:Hp)(t:Nat->Nat):∀(h:Hp)(i k:Nat),(CG M h2 t i h)[k]?=(h[k]?).map λx=>if inL M (i+k)then(gtH h2 (posOf M (i+k))).rn t else x
 |[],i,k=>by simp[CG]
 |x::xs,i,0=>by simp[CG]
 |x::xs,i,k+1=>by simp only[CG,List.getElem?_cons_succ];rw[Mj M h2 t xs (i+1) k,show i+1+k=i+(k+1) by omega]
theorem Gq(h2:Hp)(t:Nat->Nat):∀(h:Hp)(i:Nat),CG [] h2 t i h=h
 |[],i=>rfl
 |x::xs,i=>by simp[CG,inL,Gq h2 t xs]
theorem GF(M:N_)(h2:Hp)(t:Nat->Nat):∀(h:Hp)(i:Nat),(CG M h2 t i h).length=l'' h
 |[],i=>rfl
 |x::xs,i=>by simp[CG,GF M h2 t xs]
theorem Hb(M:N_)(h h2:Hp):rV M h h2=CG M h2 (bk M h.length) 0 h++(h2.drop M.length).map (aW.rn (bk M h.length)):=by
 unfold rV;split;rw[Gq];rfl
theorem HS(M:N_)(h h2:Hp):(rV M h h2).length=l'' h+(l'' h2-l'' M):=by
 rw[Hb];simp[GF]
theorem afJ(t:Nat->Nat)(l:Hp)(k:Nat):gtH (l.map (aW.rn t)) k=(gtH l k).rn t:=by
 unfold gtH;rw[avC];cases l[k]?<;>rfl
theorem Zb(l:Hp)(m k:Nat):gtH (l.drop m) k=gtH l (m+k):=by
 unfold gtH;rw[ayT]
theorem d9(M:N_)(h h2:Hp)(k:Nat):gtH (rV M h h2) k=if k<h.length then(if inL M k then(gtH h2 (posOf M k)).rn (bk M h.length)else gtH h k)else(gtH h2 (l'' M+(k-l'' h))).rn (bk M h.length):=by
 rw[Hb];by_cases i:k<l'' h;rw[aD i];unfold gtH;rw[awR (by rw[GF];exact i),Mj,avA];rw[auP i,avB];by_cases l:inL M k=true;simp only[aD l];rfl;simp only[aB l];rw[aB i];have:gtH (CG M h2 (bk M h.length) 0 h++(h2.drop M.length).map (aW.rn (bk M h.length))) k=gtH ((h2.drop M.length).map (aW.rn (bk M h.length))) (k-l'' h):=by unfold gtH;rw[awH (by rw[GF];omega),GF]
 rw[this,afJ,Zb]
theorem aW.adB{n:Nat}{x:aW}(h:x.Bd n):x.on (λi=>decide (i<n))=true:=by
 cases x with
 |rows s rs=>exact p6 ((PV.MO rs).trans h)
 |map=>rfl
 |loop=>rfl
 |dead=>rfl
theorem sR(h:Hp)(k:Nat):h.ph k=(gtH h k).live:=by
 unfold gtH;rw[Hp.mC];cases h[k]?<;>rfl
theorem agA{h:Hp}{x:aW}(l:x∈h):∃k,k<l'' h/\gtH h k=x:=by
 obtain⟨k,i,e⟩:=awI l;exact⟨k,i,by unfold gtH;rw[auP i,<-e]⟩
section
variable {r:Nat->Nat} {f:Fr} {h h2:Hp} {F:PF} {H H':PH} {v rv:PV} {M:N_}
theorem tK(ok:okM M h=true){i:Nat}(hi:inL M i=true):h.ph i=some (gtH h i):=by
 simp only[okM,auI,auX]at ok;rw[sR];exact OG (ok.2 i (zU hi))
theorem U7(ok:okM M h=true){i:Nat}(hi:inL M i=true):i<l'' h:=(lW (tK ok hi)).2
theorem Ha(R:Rl r f h F H)(ok:okM M h=true)(hc:Comes (λk=>r (atN M k)) M.length v h2 rv H')(ap:oX H (H.only (M.map r)) H') :
  ∃r',gR h.length r r'/\l'' h<=(rV M h h2).length/\Rl r' f (rV M h h2) F (H.over (H.only (M.map r)) H')/\rv=(v.ren (bk M h.length)).ren r'/\(v.ren (bk M h.length)).bound (rV M h h2).length=true:=by
 obtain⟨r2,δ,N,rfl,V,ζ⟩:=hc;have U:gR h.length r (λi=>if i<h.length then r i else r2 (l'' M+(i-l'' h))):=λi hi=>by
  show r i=if i<h.length then r i else _
  rw[aD hi]
 generalize ε:(λi=>if i<h.length then r i else r2 (l'' M+(i-l'' h)))=r' at U;have Y:∀i,l'' h<=i->r' i=r2 (l'' M+(i-l'' h)):=λi hi=>by rw[<-ε];exact aB Om
 have S:∀j,r' (bk M h.length j)=r2 j:=λj=>by unfold bk;by_cases Z:j<l'' M;rw[aD (by simpa[Nat.blt_eq]using Z),<-U _ (U7 ok (sZ Z)),<-δ j Z];rw[aB (by simpa[Nat.blt_eq]using Z),Y _ Om];congr 1;omega
 have W:∀j,j<l'' h2->bk M h.length j<l'' h+(l'' h2-l'' M):=λj Z=>by unfold bk;by_cases Q:j<l'' M;rw[aD (by simpa[Nat.blt_eq]using Q)];have:=U7 ok (sZ Q);omega;rw[aB (by simpa[Nat.blt_eq]using Q)];omega
 have γ:∀j,((gtH h2 j).rn (bk M h.length)).ren r'=(gtH h2 j).ren r2:=λj=>
  aW.Vw (L:=λi=>decide (i<l'' h2)) (λi _=>S i) (BK N j) (aW.adB (BK N j))
 have O:∀j,((gtH h2 j).rn (bk M h.length)).Bd (l'' h+(l'' h2-l'' M)):=λj=>
  aW.adM (L:=λi=>decide (i<l'' h2)) (λi hi=>W i (by simpa using hi)) (BK N j) (aW.adB (BK N j))
 have A:∀k x,Hp.ph (rV M h h2) k=some x->(h.ph k=some x/\r' k=r k/\H' (r k)=none/\(H.only (M.map r)) (r k)=none) \/
   ∃j,h2.ph j=some (gtH h2 j)/\x=(gtH h2 j).rn (bk M h.length)/\r' k=r2 j/\k=bk M h.length j:=by
  intro k x u;rw[sR,d9]at u;by_cases hk:k<l'' h;rw[aD hk]at u;by_cases hm:inL M k=true;rw[aD hm]at u;obtain⟨E,rfl⟩:=aW.xq u;have hp:=rL hm;have α:k=bk M h.length (posOf M k):=by unfold bk;rw[aD (by simpa[Nat.blt_eq]using hp.2),hp.1]
  refine .inr ⟨posOf M k,by rw[sR];exact E,rfl,?_,α⟩;exact(congrArg r' α).trans (S (posOf M k))
  ·rw[aB hm,<-sR]at u;have β:r k ∉ M.map r:=λhc=>by obtain⟨i,hi,e⟩:=auT.1 hc;have:=R.inj i k _ _ (tK ok (uC hi)) u e;subst this;exact hm (uC hi)
   have ho:(H.only (M.map r)) (r k)=none:=by rw[wI,aB β]
   refine .inl ⟨u,(U k hk).symm,?_,ho⟩;cases e:H' (r k)with
   |none=>rfl
   |some y =>have:=ap _ y e ho;rw[R.hp k x u]at this;cases this
  rw[aB hk]at u;obtain⟨E,rfl⟩:=aW.xq u;refine .inr ⟨l'' M+(k-l'' h),by rw[sR];exact E,rfl,Y k Om,?_⟩;unfold bk;rw[aB (by simp[Nat.blt_eq])];omega
 refine⟨r',U,by rw[HS];omega,⟨?_,λk x u=>?_,λk l x y u hy e=>?_,λi w hw=>?_,λx u=>?_⟩,(PV.Iz (L:=λi=>decide (i<l'' h2)) (λi _=>S i) v ((PV.MN v).trans V)).symm,?_⟩;rw[R.fr];exact PF.oI U R.fb;rcases A k x u with⟨E,J,K,h4⟩|⟨j,E,rfl,K,-⟩
 rw[J];have:=R.hp k x E;rw[aW.oI U (R.hb x (awW (lW E).1))]at this;simp only[PH.over,K,h4,this];rw[K,γ j];simp only[PH.over,N.hp j _ E];rcases A k x u with⟨E,J,K,h4⟩|⟨j,E,rfl,K,h4⟩<;>rcases A l y hy with⟨g1,g2,g3,g4⟩|⟨j',g1,rfl,g3,g4⟩
 rw[J,g2]at e;exact R.inj k l _ _ E g1 e;rw[J,g3]at e;rw[e,N.hp j' _ g1]at K;cases K;rw[K,g2]at e;rw[<-e,N.hp j _ E]at g3;cases g3;rw[K,g3]at e;rw[h4,g4,N.inj j j' _ _ E g1 e];rw[HS];exact PV.tW (Nat.le_add_right _ _) w (R.fb i w hw);rw[HS];obtain⟨k,hk,rfl⟩:=agA u;rw[d9];split;split;exact O _;exact(BK R k).mono (Nat.le_add_right _ _);exact O _;rw[HS];exact PV.gw (λi hi=>W i (by simpa using hi)) v ((PV.MN v).trans V)
theorem nj {C : Ctx} {call : gD} (hC : pJ C call) {name : Nat} {vs : V_} (R : Rl r f h F H) (ok : okM M h = true) (hv : PV.ons (inL M) vs = true)
    (e : call name (PV.kI (posOf M) vs) (qE h (posOf M) M) = some (v, h2)) : aG C name (vs.map (PV.ren r)) (H.only (M.map r)) (Comes (fun k => r (atN M k)) M.length v h2) := by
  have oks : DO M h = true := by simp only [okM, auI] at ok; exact ok.1
  have hlen : (qE h (posOf M) M).length = M.length := by simp [qE]
  have h1 := hC name _ _ v h2 e (fun k => r (atN M k)) (H.only (M.map r))
    ((R.cut oks).only fun k x hx => List.mem_map_of_mem (zU (sZ (PL hx).1))) (fun o x hx => by
      rw [wI] at hx;split at hx
      · rename_i hm
        obtain ⟨i, hi, rfl⟩ := auT.1 hm;have hp := rL (uC hi);have hl := tK ok (uC hi);rw [sR] at hl;refine ⟨posOf M i, (gtH h i).rn (posOf M), ?_, by show r (atN M (posOf M i)) = r i; rw [hp.1]⟩;rw [Hp.mC, qE, wF, aD hp.2, hp.1];show aW.live _ = _;generalize gtH h i = y at hl ⊢;cases y <;> first | rfl | cases hl
      · cases hx) (by rw [hlen]; exact PV.tL (fun i hi => (rL hi).2) vs hv)
  rw [hlen] at h1;rw [<- PV.fB, PV.xD (L := inL M) (s := r) (fun i hi => by show r (atN M (posOf M i)) = r i; rw [(rL hi).1]) vs hv] at h1;rw [<- PV.fB];exact h1
end
noncomputable def adD(call:gD)(M:N_)(name:Nat)(vs:V_)(h:Hp):Option (PV × Hp):=
 if okM M h&&UM (inL M) vs then match call name (YA (posOf M) vs) (qE h (posOf M) M)with
  |some (v,h2)=>some (v.xk (bk M h.length),rV M h h2)
  |none=>none
 else none
noncomputable def hand(call:gD):gD:=λname vs h=>adD call (reach h 1000 (uA vs []) []) name vs h
theorem afS{call:gD}(E:pJ C call):jo C (hand call):=by
 intro name vs h v S e r f F H d K R hb N;unfold hand adD at e;generalize reach h 1000 (uA vs []) []=M at e;split at e;rename_i i;simp only[auI]at i;rw[DQ]at e;split at e;rename_i w h2 e2;rw[PV.PT]at e;cases e;refine⟨_,H.only (M.map r),_,rfl,λo x l=>?_,nj E R i.1 (PD i.2) e2,λrv H' Q A=>?_⟩;rw[wI]at l;split at l;exact l;cases l;obtain⟨r',J,O,y,rfl,u⟩:=Ha R i.1 Q A;exact N r' _ J O y u;cases e;cases e
theorem vC{n:Nat}:∀{l:P2_},PV.gZ n l=true↔∀x∈l,PV.bounds n x=true
 |[]=>by simp[PV.gZ]
 |x::xs=>by simp[PV.gZ,vC (l:=xs)]
theorem rD{n:Nat}:∀{l:V_},PV.bounds n l=true↔∀x∈l,x.bound n=true
 |[]=>by simp[PV.bounds]
 |x::xs=>by simp[PV.bounds,rD (l:=xs)]
theorem XY{L:Nat->Bool}:∀{l:V_},PV.ons L l=true↔∀x∈l,x.on L=true
 |[]=>by simp[PV.ons]
 |x::xs=>by simp[PV.ons,XY (l:=xs)]
theorem If{L:Nat->Bool}:∀{l:P2_},PV.sK L l=true↔∀x∈l,PV.ons L x=true
 |[]=>by simp[PV.sK]
 |x::xs=>by simp[PV.sK,If (l:=xs)]
section
variable {L:Nat->Bool} {r:Nat->Nat} {o s n:Nat} {rs:P2_}
theorem NQ(hi:∀q,L q=true->r q=r o->q=o)(v:PV)(i:v.on L=true):(v.cZ o s rs).ren r=(v.ren r).cZ (r o) s (rs.map λx=>x.map (PV.ren r)):=by
 cases v with
 |osl q s' off len =>simp only[PV.on]at i;simp only[PV.cZ,PV.ren];by_cases e:q=o;subst e;rw[aD rfl,aD rfl];simp only[auD];by_cases c:s'=s/\off+len<=l'' rs;rw[aD c,aD c];simp only[PV.ren,PV.kA,axQ,ayH];rw[aB c,aB c];rfl;rw[aB e,aB (λh=>e (hi q i h))];rfl
 |_=>rfl
theorem F7(hi:∀q,L q=true->r q=r o->q=o)(v:PV)(i:v.on L=true):(v.rG o s rs).ren r=(v.ren r).rG (r o) s (rs.map λx=>x.map (PV.ren r)):=by
 cases v with
 |agg cs =>simp only[PV.on]at i;simp only[PV.rG,PV.ren,PV.fB,axM];congr 1;exact axL λx l=>NQ hi x (XY.1 i x l)
 |osl q s' off len=>exact NQ hi _ i
 |_=>rfl
theorem aeY(hi:∀q,L q=true->r q=r o->q=o)(v:PV)(i:v.on L=true):(v.frz o s rs).ren r=(v.ren r).frz (r o) s (rs.map λx=>x.map (PV.ren r)):=by
 cases v with
 |tup cs =>simp only[PV.on]at i;simp only[PV.frz,PV.ren,PV.fB,axM];congr 1;exact axL λx l=>F7 hi x (XY.1 i x l)
 |agg cs=>exact F7 hi _ i
 |osl q s' off len=>exact NQ hi _ i
 |_=>rfl
theorem DA(l:PV.gZ n rs=true)(v:PV)(i:v.bound n=true):(v.cZ o s rs).bound n=true:=by
 cases v with
 |osl q s' off len =>simp only[PV.cZ];split;split;simp only[PV.bound];exact vC.2 λx u=>vC.1 l x (List.mem_of_mem_drop (ayW u));rfl;exact i
 |_=>exact i
theorem mg(l:PV.gZ n rs=true)(v:PV)(i:v.bound n=true):(v.rG o s rs).bound n=true:=by
 cases v with
 |agg cs =>simp only[PV.bound]at i;simp only[PV.rG,PV.bound];refine rD.2 λx u=>?_;obtain⟨y,w,rfl⟩:=auT.1 u;exact DA l y (rD.1 i y w)
 |osl q s' off len=>exact DA l _ i
 |_=>exact i
theorem T4(l:PV.gZ n rs=true)(v:PV)(i:v.bound n=true):(v.frz o s rs).bound n=true:=by
 cases v with
 |tup cs =>simp only[PV.bound]at i;simp only[PV.frz,PV.bound];refine rD.2 λx u=>?_;obtain⟨y,w,rfl⟩:=auT.1 u;exact mg l y (rD.1 i y w)
 |agg cs=>exact mg l _ i
 |osl q s' off len=>exact DA l _ i
 |_=>exact i
theorem Qo(hi:∀q,L q=true->r q=r o->q=o)(x:aW)(l:x.on L=true):(x.frz o s rs).ren r=(x.ren r).frz (r o) s (rs.map λx=>x.map (PV.ren r)):=by
 cases x with
 |rows s' rs' =>simp only[aW.on]at l;simp only[aW.frz,aW.ren,axM];congr 1;refine axL λrow u=>?_;simp only[Function.comp,axM];exact axL λx i=>NQ hi x (XY.1 (If.1 (yM l) row u) x i)
 |_=>rfl
theorem U3(F:PV.gZ n rs=true)(x:aW)(u:x.Bd n):(x.frz o s rs).Bd n:=by
 cases x with
 |rows s' rs' =>refine vC.2 λrow i=>?_;obtain⟨l,A,rfl⟩:=auT.1 i;refine rD.2 λy J=>?_;obtain⟨w,E,rfl⟩:=auT.1 J;exact DA F w (rD.1 (vC.1 u l A) w E)
 |_=>exact u
end
def KZ(L:Nat->Bool)(o s:Nat)(rs:P2_)(x:aW):aW:=if x.on L then x.frz o s rs else .dead
def qL(p:PV × Hp)(o:Nat):PV × Hp:=match gtH p.2 o with
 | .rows s rs=>if PV.gZ 0 rs&&p.1.onC (λi=>(gtH p.2 i).vO)then(p.1.frz o s rs,(p.2.map (KZ (λi=>(gtH p.2 i).vO) o s rs)).set o .dead)else p
 |_=>p
mutual
def PV.P0:PV->N_->N_
 | .osl o _ _ _,l=>o::l
 | .ptr _ _ _ _,l=>l
 | .map _,l=>l
 | .sl _ _,l=>l
 | .bQ _,l=>l
 | .fn _ _,l=>l
 | .agg cs,l=>PV.Dc cs l
 | .tup cs,l=>PV.Dc cs l
 | .int _ _,l=>l
 | .bool _,l=>l
 | .str _,l=>l
 | .aE,l=>l
 | .lit _,l=>l
 | .junk,l=>l
def PV.Dc:V_->N_->N_
 |[],l=>l
 |v::vs,l=>PV.P0 v (PV.Dc vs l)
end
def Mk:P2_->N_->N_
 |[],l=>l
 |r::rs,l=>PV.Dc r (Mk rs l)
def mi(h:Hp)(n:Nat):Nat->N_->N_
 |0,l=>l
 |d+1,l=>match(l.filter λi=>Nat.ble n i).foldr (λi u=>match gtH h i with | .rows _ rs=>Mk rs u|_=>u) []with
  |[]=>l
  |l'=>mi h n d l'++l
def T2(n:Nat)(v:PV)(h:Hp):PV × Hp:=((mi h n 6 (PV.P0 v [])).filter λi=>Nat.ble n i).foldl qL (v,h)
section
variable {r:Nat->Nat} {H:PH}
theorem Zc(g:aW->aW)(i:g .dead=.dead)(l:Hp)(k:Nat):gtH (l.map g) k=g (gtH l k):=by
 unfold gtH;rw[avC];cases l[k]? with
 |none=>exact i.symm
 |some x=>rfl
theorem Uk{x:aW}{L:Nat->Bool}{o s:Nat}{rs:P2_}{y:aW}(h:(KZ L o s rs x).live=some y):x.on L=true/\x.live=some x/\y=x.frz o s rs:=by
 unfold KZ at h;split at h;rename_i i;refine⟨i,?_,(aW.BO h).symm⟩;cases x<;>first|rfl|cases h
 cases h
theorem T3{p:PV × Hp}(o:Nat)(R:Rl r .nil p.2 n_ H)(hb:p.1.bound p.2.length=true) :
  ∃N O,(∀K H2,jI N O K H2->jI (n_.set 0 (p.1.ren r)) H K H2)/\N=n_.set 0 ((qL p o).1.ren r)/\Rl r .nil (qL p o).2 n_ O/\(qL p o).1.bound (qL p o).2.length=true/\(qL p o).2.length=p.2.length:=by
 obtain⟨v,h⟩:=p;simp only at R hb;have u:∃N O,(∀K H2,jI N O K H2->jI (n_.set 0 (v.ren r)) H K H2)/\N=n_.set 0 (v.ren r)/\Rl r .nil h n_ O/\v.bound h.length=true/\l'' h=l'' h:=⟨_,H,λ_ _ h=>h,rfl,R,hb,rfl⟩;unfold qL;simp only;split;rename_i s rs Y;split;rename_i M;simp only[auI]at M;replace M:=And.intro M.1 (PV.Ib M.2);have E:h.ph o=some (.rows s rs):=by rw[sR,Y];rfl
 have S:=(lW E).2;have hi:∀q,(gtH h q).vO=true->r q=r o->q=o:=λq Z e=>by
  have h1:h.ph q=some (gtH h q):=by rw[sR];exact OG Z
  exact R.inj _ _ _ _ h1 E e
 have Q:PV.gZ h.length rs=true:=PV.xV (auK _) _ M.1;have F:((h.map (KZ (λi=>(gtH h i).vO) o s rs)).set o .dead).length=l'' h:=by simp
 have l:∀i x,Hp.ph ((h.map (KZ (λi=>(gtH h i).vO) o s rs)).set o .dead) i=some x->i≠o/\h.ph i=some (gtH h i)/\(gtH h i).on (λi=>(gtH h i).vO)=true/\x=(gtH h i).frz o s rs:=λi x A=>by rw[Hp.LO (by simpa using S)]at A;split at A;cases A;rename_i J;rw[sR,Zc _ (by rfl)]at A;obtain⟨h1,U,W⟩:=Uk A;exact⟨J,by rw[sR];exact U,h1,W⟩
 refine⟨_,H.frz (r o) s (rs.map λx=>x.map (PV.ren r)),λK H2 hs=>.step (r o) (R.hp o _ E) hs,?_,⟨rfl,λi x A=>?_,λi j x y A V e=>?_,λi w hw=>by simp[Fr.pf]at hw,λx A=>?_⟩,?_,F⟩;funext i;simp only[PF.frz,PF.set,upd];split;rw[avB,aeY (L:=λi=>(gtH h i).vO) hi v M.2];rfl;obtain⟨J,h1,U,rfl⟩:=l i x A;show(if r i=r o then none else(H (r i)).map (aW.frz (r o) s _))=_;rw[aB (λe=>J (R.inj _ _ _ _ h1 E e)),R.hp i _ h1,avB,Qo (L:=λi=>(gtH h i).vO) hi _ U];exact R.inj _ _ _ _ (l i x A).2.1 (l j y V).2.1 e;rw[F];rcases ayU A with h1|h1
 obtain⟨y,V,rfl⟩:=auT.1 h1;unfold KZ;split;exact U3 Q y (R.hb y V);trivial;subst h1;trivial;rw[F];exact T4 Q v hb;exact u;exact u
theorem mh:∀(l:N_){p:PV × Hp}{H:PH},Rl r .nil p.2 n_ H->p.1.bound p.2.length=true ->
  ∃i,jI (n_.set 0 (p.1.ren r)) H (n_.set 0 ((l.foldl qL p).1.ren r)) i/\Rl r .nil (l.foldl qL p).2 n_ i/\(l.foldl qL p).1.bound (l.foldl qL p).2.length=true/\(l.foldl qL p).2.length=p.2.length
 |[],p,H,R,hb=>⟨H,.refl _ _,R,hb,rfl⟩
 |o::l,p,H,R,hb=>by obtain⟨M,i,K,rfl,y,u,w⟩:=T3 o R hb;obtain⟨H2,A,E,F,J⟩:=mh l y u;exact⟨H2,K _ _ A,E,F,J.trans w⟩
end
end Go.PM
namespace Go.PM
open Go
def jx(C:Ctx)(k:Nat)(pf:lF):Prop:=∀(args:V_)(H:PH)(R:R_),l'' args<=pf.ntmps->pf.body.wp C (aX pf.res R) (g_ args) H->aG C k args H R
theorem Fr.Jh{l:V_}{f:Fr}(h:Fr.args l 0 (Fr.empty 9)=some f):f.pf=g_ l:=by
 rw[Fr.Lw h];funext i;simp only[axA,if_false,Nat.sub_zero,Fr.Fm,g_];cases l[i]?<;>rfl
theorem Xv(r:Nat->Nat)(l:V_):g_ (l.map (PV.ren r))=(g_ l).ren r:=by
 funext i;simp only[g_,PF.ren,avC]
abbrev Orc:=Nat->V_->Option PV
def Cx(C:Ctx)(i:Orc):Prop:=∀name vs v,i name vs=some v->aG C name vs h_ (λl _=>l=v)
noncomputable def JL(tab:Nat->Option lF)(i:Orc)(fz:Nat->Bool)(u:gD->KG)(m:Nat):Nat->gD
 |0=>λ_ _ _=>none
 |n+1=>λname args h=>match i name args with
  |some v=>if v.bound 0&&h.isEmpty then some (v,h)else none
  |none=>match tab name with
  |some pf=>if args.length<=pf.ntmps then match Fr.args args 0 (Fr.empty 9)with
    |none=>none
    |some f=>match qQ (hand (YG (JL tab i fz u m n))) (u (YG (JL tab i fz u m n))) m pf.body f h with
    |some (.exit _,_,_)=>none
    |some (_,w,l)=>match dZ.evs w.pf l.ph pf.res with
     |some vs=>if(bO vs).BE l.length then some (if fz name then T2 h.length (bO vs) l else(bO vs,l))else none
     |none=>none
    |none=>none
   else none
  |none=>none
section
variable {C:Ctx} {r:Nat->Nat} {f:Fr} {h:Hp} {F:PF} {H:PH}
theorem aaL{h:PH}(y:SF r h H){F:PF}{q:dZ}{v:PV}(e:q.ev F h=some v):q.ev (F.ren r) H=some (v.ren r):=by
 cases q with
 |tmp t=>simp only[dZ.ev]at e ⊢;simp only[PF.ren,e,avB]
 |cell t n=>
  cases n with
  |none =>simp only[dZ.ev]at e ⊢;split at e;rename_i p l;simp only[PF.ren,l,avB];split at e;rename_i w i;have u:=vP y i;simp only[avH,avY]at u;simp only[u];cases e;rfl;cases e;cases e
  |some k=>
   simp only[dZ.ev]at e ⊢;split at e
   ·rename_i p l;simp only[PF.ren,l,avB];cases i:loadCells h p k with
    |none=>rw[i]at e;cases e
    |some w =>rw[i]at e;rw[vP y i];cases e;simp only[avB,PV.ren,PV.fB]
   cases e
theorem Ay{h:PH}(i:SF r h H){F:PF}:∀{l:List dZ}{vs:V_},dZ.evs F h l=some vs->dZ.evs (F.ren r) H l=some (vs.map (PV.ren r))
 |[],_,e=>by cases e;rfl
 |q::l,vs,e=>by simp only[dZ.evs]at e ⊢;split at e;rename_i v y u w;cases e;rw[aaL i u,Ay i w];rfl;cases e
theorem Kz(vs:V_):bO (vs.map (PV.ren r))=(bO vs).ren r:=by
 unfold bO
 match vs with
 |[]=>rfl
 |[v]=>rfl
 |a::b::l=>simp only[avH,PV.ren,PV.fB]
theorem M8{tab:Nat->Option lF}{K:Orc}{fz:Nat->Bool}{Q:gD->KG}(hO:Cx C K)(hT:∀k pf,tab k=some pf->jx C k pf)(hD:∀call,pJ C call->D7 C (Q call))(m:Nat):∀n,pJ C (JL tab K fz Q m n)
 |0=>λname vs h v U e=>by cases e
 |n+1=>λname vs h v U e r H R X hb=>by
  have ih:=abN (M8 (fz:=fz) hO hT hD m n);simp only[JL]at e;split at e;rename_i w Z;split at e;rename_i V;simp only[auI,List.isEmpty_iff]at V;obtain⟨V,rfl⟩:=V;cases e;have hH:H=h_:=PH.ext λo=>by
   cases S:H o with
   |none=>rfl
   |some x =>obtain⟨i,y,A,-⟩:=X o x S;simp[Hp.mC]at A
  rw[hH,PV.oJ hb];exact(hO name vs v Z).oo λrv H' hr=>by subst hr;exact⟨r,λ_ _=>rfl,⟨rfl,λi x J=>by simp[Hp.mC]at J,λi j x y J=>by simp[Hp.mC]at J,λi w hw=>by simp[Fr.pf]at hw,λx J=>by cases J⟩,(PV.yU V r).symm,V,auG _⟩
  cases e;split at e;rename_i pf ht;split at e;rename_i hl;split at e;cases e;rename_i f0 W;have Y:∀(x:lE)(M:Fr)(A:Hp),(∀id,x≠.exit id)->qQ (hand (YG (JL tab K fz Q m n))) (Q (YG (JL tab K fz Q m n))) m pf.body f0 h=some (x,M,A) ->
    (match dZ.evs M.pf A.ph pf.res with|some vs=>if(bO vs).BE A.length then some (if fz name then T2 h.length (bO vs) A else(bO vs,A))else none|none=>none)=some (v,U)->aG C name (vs.map (PV.ren r)) H (Comes r h.length v U):=by
   intro x M A J S e2;refine hT name pf ht _ _ _ (by rw[auD];exact hl) ?_;have R0:Rl r f0 h (g_ (vs.map (PV.ren r))) H:=⟨by rw[Fr.Jh W,Xv],R.hp,R.inj,λi w hw=>by
    rw[Fr.Jh W]at hw;simp only[g_]at hw;have:∀(l:V_)(i:Nat),PV.bounds h.length l=true->l[i]?=some w->w.bound h.length=true:=by
     intro l
     induction l with
     |nil=>intro i _ hi;simp at hi
     |cons a l α=>
      intro i hb hi;simp only[PV.bounds,auI]at hb;cases i with
      |zero=>simp at hi;subst hi;exact hb.1
      |succ i=>exact α i hb.2 (by simpa using hi)
    exact this vs i hb hw,R.hb⟩
   refine Q5 (afS ih) (hD _ ih) m pf.body S R0 λr' F' H' ha hn R'=>?_;cases h2:dZ.evs M.pf A.ph pf.res with
   |none=>rw[h2]at e2;cases e2
   |some N=>
    rw[h2]at e2;simp only at e2;split at e2
    ·rename_i E;replace E:=PV.xU E;simp only[awN.injEq]at e2;have h3:=Ay R'.hp h2;rw[<-R'.fr]at h3;have hR:∃vs,dZ.evs F' H' pf.res=some vs/\∃F1 O H2,jI (n_.set 0 (bO vs)) H' F1 O/\PH.le H2 O/\∃u,F1 0=some u/\Comes r h.length v U u H2:=by refine⟨_,h3,?_⟩;rw[Kz N];split at e2;obtain⟨O,g1,g2,g3,g4⟩:=mh ((mi A h.length 6 (PV.P0 (bO N) [])).filter λi=>Nat.ble h.length i) (p:=(bO N,A)) R'.heap E;have e3:((mi A h.length 6 (PV.P0 (bO N) [])).filter λi=>Nat.ble h.length i).foldl qL (bO N,A)=(v,U):=e2;rw[e3]at g1 g2 g3 g4;exact⟨_,O,O,g1,λ_ _ Z=>Z,v.ren r',rfl,r',ha,g2,rfl,g3,by rw[g4];exact hn⟩;cases e2;exact⟨_,H',H',.refl _ _,λ_ _ Z=>Z,(bO N).ren r',rfl,r',ha,R'.heap,rfl,E,hn⟩
     cases x with
     |normal=>exact hR
     |ret=>exact hR
     |exit id=>exact absurd rfl (J id)
    cases e2
  split at e;cases e;rename_i x M A J S;exact Y x M A (λid he=>J id he) S e;cases e;cases e;cases e
end
def tH(W:N_):Nat->Hp->Hp
 |_,[]=>[]
 |i,x::xs=>(if W.contains i then .dead else x)::tH W (i+1) xs
theorem ZT(W:N_):∀(h:Hp)(i k:Nat)(x:aW),(tH W i h)[k]?=some x->x=.dead\/h[k]?=some x
 |[],_,_,_,e=>by simp[tH]at e
 |y::h,i,0,x,e=>by simp only[tH,List.getElem?_cons_zero,awN.injEq]at e;split at e;exact .inl e.symm;exact .inr (by rw[<-e];rfl)
 |y::h,i,k+1,x,e=>by simp only[tH,List.getElem?_cons_succ]at e ⊢;exact ZT W h (i+1) k x e
theorem Mp{W:N_}{h:Hp}{i:Nat}{x:aW}(e:Hp.ph (tH W 0 h) i=some x):h.ph i=some x:=by
 have l:=lW e;rcases ZT W h 0 i x l.1 with h2|h2
 subst h2;rw[Hp.mC,l.1]at e;cases e;rw[Hp.mC]at e ⊢;rw[l.1]at e;rw[h2];exact e
def i0(op:POp)(f:Fr):O_:=match op with
 | .store _ p _=>match p.ev f.pf with
  |some (.ptr o _ _ _)=>some o
  |_=>none
 | .append _ _ x _=>match x.ev f.pf with
  |some (.osl o _ _ _)=>some o
  |_=>none
 |_=>none
def Qp(hs:Hp)(op:POp)(f:Fr):Bool:=match i0 op f with
 |none=>true
 |some o=>match hs[o]? with
  |none=>true
  |some .dead=>true
  |_=>false
theorem Qq{hs:Hp}{op:POp}{f:Fr}{o:Nat}(h:Qp hs op f=true)(i:i0 op f=some o):hs.ph o=none:=by
 unfold Qp at h;rw[i]at h;simp only at h;rw[Hp.mC];split at h;rename_i e;rw[e];rfl;rename_i e;rw[e];rfl;cases h
noncomputable def j6(call:gD)(name:Nat)(vs:V_):Option PV:=
 if PV.bounds 0 vs then match call name vs []with
  |some (v,_)=>if v.bound 0 then some v else none
  |none=>none
 else none
def qk:aW->aW->Bool
 | .rows s rs,y=>match y with | .rows s' rs'=>awK s s'&&PV.WZ rs rs'|_=>false
 |_,_=>true
def anR(hs:Hp)(M:N_)(h':Hp):Bool:=M.all λi=>qk (gtH hs i) (gtH h' i)
noncomputable def Db(call:gD)(u hs:Hp)(name:Nat)(vs:V_)(h:Hp):Option (PV × Hp):=
 let M:=reach u 1000 (uA vs []) []
 if(M.all λi=>(gtH u i).vO)&&(okM M h&&UM (inL M) vs)then match call name (YA (posOf M) vs) (qE h (posOf M) M)with
  |some (v,l)=>if(Nat.ble M.length l.length&&v.BE l.length)&&((l.all λx=>x.vO.not||x.bd l.length)&&anR hs M (rV M h l))then some (v.xk (bk M h.length),rV M h l)else none
  |none=>none
 else none
noncomputable def qw(call:gD)(i hs:Hp)(op:POp)(st:Bool)(f:Fr)(h:Hp):Option (PV × Hp):=match op with
 | .call name args=>if args.all aP.clo then match aP.evs f.pf args with
  |some vs=>Db call i hs name vs h
  |none=>none
  else none
 | .atT x args=>if x.clo&&args.all aP.clo then match x.ev f.pf,aP.evs f.pf args with
  |some (.fn name cs),some vs=>Db call i hs name (vs++cs) h
  |_,_=>none
  else none
 |op=>if op.clo&&Qp hs op f then
   if op.iO then xH op f h else if op.eR then kU op f h else
    match aZ op f.pf (if st then hs.ph else h.ph)with
    |some v=>if v.BE h.length then some (v,h)else none
    |none=>none
  else none
noncomputable def qx(call:gD)(u hs:Hp)(i:bY)(st:Bool)(f:Fr)(h:Hp):Option (PV × Hp):=match i.guard with
 |none=>qw call u hs i.op st f h
 |some (t,l)=>match f.pf t with
  |some (.bool b)=>if b=l then qw call u hs i.op st f h else some (.tup [],h)
  |some (.tup [])=>some (.tup [],h)
  |_=>none
noncomputable def VA(call:gD)(l hs:Hp):List (bY × Bool)->Fr->Hp->Option (Fr × Hp)
 |[],f,h=>some (f,h)
 |i::rest,f,h=>if f.fits i.1.dst then match qx call l hs i.1 i.2 f h with
   |some (v,h')=>VA call l hs rest (f.put i.1.dst v) h'
   |none=>none
  else none
noncomputable def alB(l:Hp)(i:bY)(f:Fr)(h h':Hp):N_:=match i.op with
 | .call _ args=>match aP.evs f.pf args with
  |some vs=>(reach l 1000 (uA vs []) []).filter λi=>!qk (gtH h i) (gtH h' i)
  |none=>[]
 | .atT x args=>match x.ev f.pf,aP.evs f.pf args with
  |some (.fn _ cs),some vs=>(reach l 1000 (uA (vs++cs) []) []).filter λi=>!qk (gtH h i) (gtH h' i)
  |_,_=>[]
 |op=>(i0 op f).toList
noncomputable def targets(call:gD)(l:Hp):List (bY × Bool)->Fr->Hp->N_
 |[],_,_=>[]
 |i::rest,f,h=>match qx call l [] i.1 false f h with
  |some (v,h')=>alB l i.1 f h h'++targets call l rest (f.put i.1.dst v) h'
  |none=>[]
noncomputable def XJ(call:gD):KG:=λops f h=>
 if ops.any λi=>i.2 then
  if ops.any λi=>i.1.op.eR then VA call h (tH (targets call h ops f h) 0 h) ops f h
  else match VA call h h ops f h with
   |some x=>some x
   |none=>VA call h (tH (targets call h ops f h) 0 h) ops f h
 else VA call h [] ops f h
structure DI(r:Nat->Nat)(hs h:Hp)(Hs:PH):Prop where
 a:∀i x,hs.ph i=some x->h.ph i=some x
 b:∀o x,Hs o=some x->∃i y,hs.ph i=some y/\o=r i/\x=y.ren r
 c:SF r hs.ph Hs
section
variable {C:Ctx} {call:gD} {r:Nat->Nat} {f f':Fr} {hs h h':Hp} {F:PF} {H Hs:PH} {v:PV}
theorem DI.le(D:DI r hs h Hs)(R:Rl r f h F H):Hs.le H:=λo x u=>by
 obtain⟨i,y,l,rfl,rfl⟩:=D.b o x u;exact R.hp i y (D.a i y l)
theorem DI.next(D:DI r hs h Hs)(R:Rl r f h F H){r':Nat->Nat}(A:gR h.length r r')(K:∀i x,hs.ph i=some x->h'.ph i=some x):DI r' hs h' Hs:=by
 have l:∀i y,hs.ph i=some y->r i=r' i/\y.ren r=y.ren r':=λi y M=>by have u:=lW (D.a i y M);exact⟨A i u.2,aW.oI A (R.hb y (awW u.1))⟩
 refine⟨K,λo x w=>?_,λi x w=>?_⟩;obtain⟨i,y,u,E,J⟩:=D.b o x w;exact⟨i,y,u,E.trans (l i y u).1,J.trans (l i y u).2⟩;rw[<-(l i x w).1,<-(l i x w).2];exact D.c i x w
theorem Cl{op:POp}(e:xH op f h=some (v,h')){i:Nat}{x:aW}(l:h.ph i=some x):h'.ph i=some x:=by
 have hlt:=(lW l).2;unfold xH at e;split at e;split at e<;>cases e;rw[Hp.zY,aB Om];exact l;cases e
theorem qz{op:POp}(e:kU op f h=some (v,h')){i:Nat}{x:aW}(u:h.ph i=some x)(l:i0 op f≠some i):h'.ph i=some x:=by
 have hlt:=(lW u).2;cases op<;>try (simp[kU]at e;done)
 case store n p y=>
  simp only[kU]at e;simp only[i0]at l;split at e
  ·rename_i o s j c w A J;rw[A]at l;split at e
   ·rename_i s' rs E;split at e
    ·split at e<;>cases e;rw[Hp.LO ((avP.1 E).1),aB (λe=>l (by rw[e]))];exact u
    ·cases e
   ·cases e
  ·cases e
 case append size bytes y z=>
  simp only[kU]at e;simp only[i0]at l;split at e
  ·split at e
   ·cases e;exact u
   ·split at e<;>cases e;rw[Hp.zY,aB Om];exact u
   ·cases e
  ·rename_i o s len b A J;rw[A]at l;split at e
   ·rename_i src s' rs E K;split at e<;>cases e;rw[Hp.zY,aB (by rw[avT];omega),Hp.LO ((avP.1 K).1),aB (λe=>l (by rw[e]))];exact u
   ·cases e
  ·cases e
theorem Kg(S:pJ C call){name:Nat}{vs:V_}(e:j6 call name vs=some v) :
  vs.map (PV.ren r)=vs/\v.ren r=v/\v.bound 0=true/\aG C name vs h_ (λY _=>Y=v):=by
 unfold j6 at e;split at e;rename_i A;split at e;rename_i w Q e2;split at e;rename_i J;cases e;refine⟨PV.oJ A r,PV.yU J r,J,?_⟩;have K:=S name vs [] v Q e2 id h_ ⟨rfl,λi x l=>by simp[Hp.mC]at l,λi j x y l=>by simp[Hp.mC]at l,λi w W=>by simp[Fr.pf]at W,λx l=>by cases l⟩ (λo x l=>by cases l) A;rw[PV.oJ A]at K;refine⟨K.1,λE w Z U hW M=>(K.2 E w Z U hW M).mono λe' w' V=>?_⟩;obtain⟨u,pv,N,H',g1,g2,g3,g4,r',-,-,O,-,-⟩:=V;exact⟨u,pv,N,H',g1,g2,g3,g4,by rw[O,PV.yU J]⟩;cases e;cases e;cases e
end
theorem yc(r:Nat->Nat):∀n:Nat,∃b,∀j,j<n->r j<b
 |0=>⟨0,λj i=>absurd i (axA j)⟩
 |n+1=>by
  obtain⟨b,hb⟩:=yc r n;refine⟨b+r n+1,λj i=>?_⟩;rcases Nat.lt_succ_iff_lt_or_eq.1 i with h|h
  have:=hb j h;omega;subst h;omega
theorem ajO(r:Nat->Nat)(h:Hp)(hi:∀i j x y,h.ph i=some x->h.ph j=some y->r i=r j->i=j) :
  ∃H:PH,SF r h.ph H/\∀o x,H o=some x->∃i y,h.ph i=some y/\r i=o:=by
 classical
 obtain⟨b,hb⟩:=yc r h.length;refine⟨⟨λo=>if e:∃i y,h.ph i=some y/\r i=o then some ((Classical.choose (Classical.choose_spec e)).ren r)else none,b,λo E=>?_⟩,λi x l=>?_,λo x l=>?_⟩;rw[dif_neg];rintro⟨i,y,u,w⟩;have:=hb i (lW u).2;omega;have e:∃j y,h.ph j=some y/\r j=r i:=⟨i,x,l,rfl⟩;show(if e:∃j y,h.ph j=some y/\r j=r i then some ((Classical.choose (Classical.choose_spec e)).ren r)else none)=_;rw[dif_pos e];have u:=Classical.choose_spec (Classical.choose_spec e);have w:=hi _ _ _ _ u.1 l u.2;have A:=u.1.symm.trans ((congrArg h.ph.f w).trans l);rw[awN.inj A];change(if e:∃j y,h.ph j=some y/\r j=o then some ((Classical.choose (Classical.choose_spec e)).ren r)else none)=some x at l;split at l;rename_i e;exact e;cases l
theorem adT{r:Nat->Nat}{f:Fr}{h:Hp}{F:PF}{H:PH}(R:Rl r f h F H):∃q:Nat->Nat,∀i x,h.ph i=some x->q (r i)=i:=by
 classical
 refine⟨λo=>if e:∃i y,h.ph i=some y/\r i=o then Classical.choose e else 0,λi x l=>?_⟩;have e:∃j y,h.ph j=some y/\r j=r i:=⟨i,x,l,rfl⟩;show(if e:∃j y,h.ph j=some y/\r j=r i then Classical.choose e else 0)=i;rw[dif_pos e];obtain⟨y,u,w⟩:=Classical.choose_spec e;exact R.inj _ _ _ _ u l w
def Dj(q r:Nat->Nat)(M:N_)(H:PH):Hp:=M.map λi=>match H (r i)with
 |some x=>x.ren λo=>posOf M (q o)
 |none=>.dead
noncomputable def VI(call:gD)(h0:Hp)(q r:Nat->Nat):Spec:=λname vs=>
 some ((reach h0 1000 (uA (PV.kI q vs) []) []).map r,λl u H'=>∃v i,
  call name (PV.kI (posOf (reach h0 1000 (uA (PV.kI q vs) []) [])) (PV.kI q vs)) (Dj q r (reach h0 1000 (uA (PV.kI q vs) []) []) l)=some (v,i) /\
  Comes (λk=>r (atN (reach h0 1000 (uA (PV.kI q vs) []) []) k)) (reach h0 1000 (uA (PV.kI q vs) []) []).length v i u H')
theorem Comes.agree{r s:Nat->Nat}{n:Nat}{v:PV}{h:Hp}{l:PV}{H:PH}(A:Comes r n v h l H)(y:gR n r s):Comes s n v h l H:=by
 obtain⟨r',u,w⟩:=A;exact⟨r',λi hi=>(y i hi).symm.trans (u i hi),w⟩
theorem aaZ{x y:aW}(h:qk x y=true)(i:x.live=some x):x=y:=by
 cases x with
 |rows s rs =>cases y<;>simp only[qk,auI,awQ]at h;rw[PV.cq _ _ h.2,Nat.eq_of_beq_eq_true h.1]
 |map=>cases i
 |loop=>cases i
 |dead=>cases i
section
variable {C:Ctx} {call:gD} {q r0 r:Nat->Nat} {f f':Fr} {h0 hs h h':Hp} {F:PF} {H Hs:PH} {v:PV} {K:R_} {st:Bool}
theorem KP(hC:pJ C call)(hq:∀i x,h0.ph i=some x->q (r0 i)=i)(κ:gR h0.length r0 r)(R:Rl r f h F H)(D:DI r hs h Hs){name:Nat}{vs:V_}(e:Db call h0 hs name vs h=some (v,h'))
  (Q:∀r' H',gR h.length r r'->l'' h<=l'' h'->Rl r' f h' F H'->DI r' hs h' Hs->v.bound h'.length=true->K (v.ren r') H') :
  (Kind.call name (some (vs.map (PV.ren r)))).run C Hs (VI call h0 q r0) st K H:=by
 unfold Db at e;simp only at e;generalize hM:reach h0 1000 (uA vs []) []=M at e;split at e;rename_i δ;simp only[auI,auX]at δ;obtain⟨ρ,ok,hv⟩:=δ;replace hv:=PD hv;rw[DQ]at e;split at e;rename_i w E e2;split at e;rename_i hb;simp only[auI]at hb;obtain⟨⟨ν,V⟩,ξ,ο⟩:=hb;replace V:=PV.xU V;rw[PV.PT]at e;cases e;have σ:l'' M<=l'' E:=Nat.le_of_ble_eq_true ν;have O:∀i,inL M i=true->h0.ph i=some (gtH h0 i):=λi hi=>by rw[sR];exact OG (ρ i (zU hi))
 have S:∀i,inL M i=true->r0 i=r i:=λi hi=>κ i (lW (O i hi)).2;have ε:∀i,inL M i=true->q (r i)=i:=λi hi=>by rw[<-S i hi];exact hq i _ (O i hi)
 have τ:PV.kI q (vs.map (PV.ren r))=vs:=by rw[<-PV.fB,PV.xD (L:=inL M) (s:=id) ε vs hv,PV.xC]
 have β:M.map r0=M.map r:=axL λi hi=>S i (uC hi);have α:∀i,inL M i=true->(H.only (M.map r)) (r i)=some ((gtH h i).ren r):=λi hi=>by rw[wI,aD (List.mem_map_of_mem (zU hi))];exact R.hp i _ (tK ok hi)
 have Z:DO M h=true:=by simp only[okM,auI]at ok;exact ok.1
 have l:Dj q r0 M (H.only (M.map r))=qE h (posOf M) M:=by unfold Dj qE;refine axL λi hi=>?_;have W:=uC hi;rw[S i W,α i W];exact aW.akM (L:=inL M) (λj A=>by rw[ε j A]) (BK R i) (gv Z W)
 have J:gR M.length (λk=>r0 (atN M k)) (λk=>r (atN M k)):=λk Q=>S _ (sZ Q);have ι:∀x∈E,aW.Bd E.length x:=λx hx=>by
  have:=(auX.1 ξ) x hx;simp only[Bool.or_eq_true,Bool.not_eq_true']at this;rcases this with h1|h1
  cases x<;>first|trivial|cases h1
  exact aW.zK h1
 refine⟨_,M.map r,λH0 rv H'=>∃v E,call name (PV.kI (posOf M) vs) (Dj q r0 M H0)=some (v,E)/\Comes (λk=>r0 (atN M k)) M.length v E rv H',rfl,?_,λo ho=>?_,?_,λG=>?_,λrv H' hr ap=>?_⟩;simp only[VI,τ,hM,β];obtain⟨i,hi,rfl⟩:=auT.1 ho;exact⟨_,R.hp i _ (tK ok (uC hi))⟩;exact(nj hC R ok hv e2).oo λrv H' hc=>⟨w,E,by rw[l];exact e2,hc.agree λk Q=>(J k Q).symm⟩;obtain⟨nG,hG⟩:=G.fin;obtain⟨nH,hH⟩:=H.fin;have η:∀k,k<l'' M->r (atN M k)<nH:=λk Q=>by
  rcases avF (r (atN M k)) nH with h1|h1
  exact h1;have:=R.hp _ _ (tK ok (sZ Q));rw[hH _ h1]at this;cases this
 generalize ζ:(λj=>if j<M.length then r (atN M j)else nG+nH+j)=r2;have hlt:∀j,j<l'' M->r2 j=r (atN M j):=λj A=>by rw[<-ζ];exact aD A
 have N:∀j,¬j<l'' M->r2 j=nG+nH+j:=λj A=>by rw[<-ζ];exact aB A
 have U:∀i j x y,E.ph i=some x->E.ph j=some y->r2 i=r2 j->i=j:=λi j x y _ _ he=>by
  by_cases hi:i<l'' M<;>by_cases A:j<l'' M;rw[hlt i hi,hlt j A]at he;have:=R.inj _ _ _ _ (tK ok (sZ hi)) (tK ok (sZ A)) he;have γ:UH M=true:=by simp only[DO,auI]at Z;exact Z.1
  rw[<-BR γ hi,this,BR γ A];rw[hlt i hi,N j A]at he;have:=η i hi;omega;rw[N i hi,hlt j A]at he;have:=η j A;omega;rw[N i hi,N j A]at he;omega
 obtain⟨H',h1,h3⟩:=ajO r2 E U;refine⟨w.ren r2,H',⟨w,E,by rw[l];exact e2,r2,λk Q=>?_,⟨rfl,h1,U,λi u hu=>by simp[Fr.pf]at hu,ι⟩,rfl,V,σ⟩,λo x hx h4=>?_⟩;rw[hlt k Q];exact J k Q;obtain⟨i,y,-,rfl⟩:=h3 o x hx;by_cases hi:i<l'' M;rw[hlt i hi,α _ (sZ hi)]at h4;cases h4;rw[N i hi];exact hG _ Om;obtain⟨w',h3,e3,hc⟩:=hr;rw[l,e2]at e3;cases e3;obtain⟨r',ha,hn,R',rfl,μ⟩:=Ha R ok (hc.agree J) ap;have Y:∀i x,hs.ph i=some x->Hp.ph (rV M h E) i=some x:=λi x hx=>by have θ:=D.a i x hx;have hlt:=(lW θ).2;by_cases hi:inL M i=true;have h5:=(auX.1 ο) i (zU hi);have h6:=akF hx;have h7:=aaZ h5 (by rw[h6.1];exact h6.2);rw[sR,<-h7,h6.1];exact h6.2;rw[sR,d9,aD hlt,aB hi,<-sR];exact θ
 have D':=D.next R ha Y;exact⟨D'.le R',Q r' _ ha hn R' D' μ⟩;cases e;cases e;cases e
theorem au(hC:pJ C call)(hq:∀i x,h0.ph i=some x->q (r0 i)=i)(O:gR h0.length r0 r){op:POp}(R:Rl r f h F H)(D:DI r hs h Hs)(e:qw call h0 hs op st f h=some (v,h'))
  (Q:∀r' H',gR h.length r r'->l'' h<=l'' h'->Rl r' f h' F H'->DI r' hs h' Hs->v.bound h'.length=true->K (v.ren r') H') :
  (op.kind F).run C Hs (VI call h0 q r0) st K H:=by
 by_cases h1:∃name args,op=.call name args;obtain⟨name,args,rfl⟩:=h1;simp only[qw]at e;split at e;rename_i A;split at e;rename_i vs M;have W:=EM (r:=r) A M;rw[<-R.fr]at W;simp only[POp.kind];rw[W];exact KP hC hq O R D e Q;cases e;cases e;by_cases M:∃x args,op=.atT x args;obtain⟨x,args,rfl⟩:=M;simp only[qw]at e;split at e;rename_i A;simp only[auI]at A;split at e;rename_i name cs vs h3 W;have h5:=EM (r:=r) A.2 W;have h6:=cU (r:=r) A.1 h3;rw[<-R.fr]at h5 h6;simp only[POp.kind];rw[h6];simp only[PV.ren,PV.fB];rw[h5];simp only[avB,<-avD];exact KP hC hq O R D e Q;cases e;cases e;have l:(if op.clo&&Qp hs op f then if op.iO then xH op f h else if op.eR then kU op f h else
   match aZ op f.pf (if st then hs.ph else h.ph)with|some v=>if v.BE h.length then some (v,h)else none|none=>none else none)=some (v,h'):=by
  cases op<;>first|exact e|exact absurd ⟨_,_,rfl⟩ h1|exact absurd ⟨_,_,rfl⟩ M
 split at l;rename_i A;simp only[auI]at A;have U:∀i x,hs.ph i=some x->i0 op f≠some i:=λi x hx ht=>by rw[Qq A.2 ht]at hx;cases hx
 have h3:¬∃sh x k w,op=.insert sh x k w:=by rintro⟨sh,x,k,w,rfl⟩;simp[POp.clo]at A
 have J:op.kind F=if op.iO then .new (cS op F)else if op.eR then .write (λH K=>cD op F H K)else .calm (aZ op F):=by cases op<;>first|rfl|exact absurd ⟨_,_,rfl⟩ h1|exact absurd ⟨_,_,rfl⟩ M|exact absurd ⟨_,_,_,_,rfl⟩ h3
 rw[J];split at l;rename_i S;rw[aD S];have E:l'' h<=l'' h':=QG (op:=op) (f:=f) (v:=v) (by unfold BS;rw[aD A.1,aD S];exact l);obtain⟨mk,x,g1,g2⟩:=RZ (d:=some 0) (K:=λF' H'=>∀u,F' 0=some u->K u H') R A.1 l λr' H' N V hb u hu=>by simp only[PF.put,PF.set,J3]at hu;cases hu;exact Q r' H' N E V (D.next R N λi y Z=>Cl l (D.a i y Z)) hb
 exact⟨mk,x,g1,λo ho=>g2 o ho _ (by simp[PF.put,PF.set,J3])⟩;rename_i S;rw[aB S];split at l;rename_i Y;rw[aD Y];have E:l'' h<=l'' h':=QG (op:=op) (f:=f) (v:=v) (by unfold BS;rw[aD A.1,aB S,aD Y];exact l);show cD op F H λrv H'=>Hs.le H'/\K rv H';refine IG (K:=λrv H'=>Hs.le H'/\K rv H') R A.1 l λr' H' N V hb=>?_;have D':=D.next R N λi y Z=>qz l (D.a i y Z) (U i y Z);exact⟨D'.le V,Q r' H' N E V D' hb⟩;rename_i Y;rw[aB Y];split at l;rename_i w g1;split at l
 ·rename_i hb;replace hb:=PV.xU hb;cases l;refine⟨v.ren r,?_,Q r H (λ_ _=>rfl) (auG _) R D hb⟩;cases st with
  |true=>
   have:=UR D.c A.1 g1
   rwa[<-R.fr]at this
  |false=>
   have:=UR R.hp A.1 g1
   rwa[<-R.fr]at this
 cases l;cases l;cases l
theorem Ji(J:pJ C call)(M:∀i x,h0.ph i=some x->q (r0 i)=i)(l:gR h0.length r0 r){i:bY}(R:Rl r f h F H)(D:DI r hs h Hs)(e:qx call h0 hs i st f h=some (v,h'))
  (A:∀r' H',gR h.length r r'->l'' h<=l'' h'->Rl r' f h' F H'->DI r' hs h' Hs->v.bound h'.length=true->K (v.ren r') H') :
  (i.kind F).run C Hs (VI call h0 q r0) st K H:=by
 have u:∀t w,f.pf t=some w->F t=some (w.ren r):=λt w y=>by rw[R.fr];simp only[PF.ren,y,avB]
 unfold qx at e;unfold bY.kind;split at e;rename_i E;rw[E];exact au J M l R D e A;rename_i t N E;rw[E];simp only;split at e;rename_i b hb;rw[u t _ hb];simp only[PV.ren];split at e;rename_i y;rw[aD y];exact au J M l R D e A;rename_i y;rw[aB y];cases e;exact⟨_,rfl,A r H (λ_ _=>rfl) (auG _) R D rfl⟩;rename_i hb;rw[u t _ hb];cases e;exact⟨_,rfl,A r H (λ_ _=>rfl) (auG _) R D rfl⟩;cases e
end
variable{C:Ctx}
theorem qj{call:gD}(S:pJ C call){h0 hs:Hp}{Hs:PH}{q r0:Nat->Nat}(V:∀i x,h0.ph i=some x->q (r0 i)=i):∀(ops:List (bY × Bool)) {r:Nat->Nat} {f f':Fr} {h h':Hp} {F:PF} {H:PH} {K:K_},VA call h0 hs ops f h=some (f',h')->gR h0.length r0 r->l'' h0<=l'' h->Rl r f h F H->DI r hs h Hs ->
  (∀r' Q H',gR h.length r r'->l'' h<=l'' h'->Rl r' f' h' Q H'->K Q H')->wpD C Hs (VI call h0 q r0) ops K F H
 |[],r,f,f',h,h',F,H,K,e,_,_,R,D,J=>by cases e;exact J r F H (λ_ _=>rfl) (auG _) R
 |i::rest,r,f,f',h,h',F,H,K,e,l,u,R,D,J=>by simp only[VA]at e;split at e;rename_i hd;split at e;rename_i v h1 Z;refine Ji S V l R D Z λr' H' U M Y W hb=>?_;exact qj S V rest e (l.trans U u) (avJ u M) (Y.put hd hb) W λO w y E N A=>J O w y (U.trans E M) (avJ M N) A;cases e;cases e
theorem IC{call:gD}(E:pJ C call){hs:Hp}{ops:List (bY × Bool)}{r:Nat->Nat}{f f':Fr}{h h':Hp}{F:PF}{H:PH}{K:K_}(e:VA call h hs ops f h=some (f',h'))(R:Rl r f h F H)
  (l:∀i x,hs.ph i=some x->h.ph i=some x) (J:∀r' w H',gR h.length r r'->l'' h<=l'' h'->Rl r' f' h' w H'->K w H'):∃Hs S,PH.le Hs H/\wpD C Hs S ops K F H:=by
 obtain⟨q,N⟩:=adT R;have D:DI r hs h (H.only (((auE h.length).filter λi=>(Hp.ph hs i).isSome).map r)):=by refine⟨l,λo x u=>?_,λi x u=>?_⟩;rw[wI]at u;split at u;rename_i M;obtain⟨i,hi,rfl⟩:=auT.1 M;obtain⟨-,hi⟩:=ayM.1 hi;obtain⟨y,A⟩:=Option.isSome_iff_exists.1 hi;refine⟨i,y,A,rfl,?_⟩;have:=R.hp i y (l i y A);rw[this]at u;cases u;rfl;cases u;rw[wI,aD];exact R.hp i x (l i x u);exact auT.2 ⟨i,ayM.2 ⟨avM.2 (lW (l i x u)).2,by rw[u];rfl⟩,rfl⟩
 exact⟨_,_,D.le R,qj E N ops e (λ_ _=>rfl) (auG _) R D J⟩
theorem Ys(call:gD)(u:pJ C call):D7 C (XJ call):=by
 intro ops f h f' h' e r F H R K w;unfold XJ at e;split at e;split at e;exact IC u e R (λi x l=>Mp l) w;split at e;rename_i p y;cases e;exact IC u y R (λi x l=>l) w;exact IC u e R (λi x l=>Mp l) w;exact IC u e R (λi x l=>by simp[Hp.mC]at l) w
theorem Q7{tab:Nat->Option lF}{i:Orc}{fz:Nat->Bool}(u:Cx C i)(w:∀k pf,tab k=some pf->jx C k pf)(m n:Nat):pJ C (JL tab i fz XJ m n):=M8 u w (λcall l=>Ys call l) m n
theorem Q6{tab:Nat->Option lF}{i:Orc}{fz:Nat->Bool}(l:Cx C i)(u:∀k pf,tab k=some pf->jx C k pf)(m n:Nat){name:Nat}{vs:V_}{v:PV}(e:j6 (JL tab i fz XJ m n) name vs=some v):aG C name vs h_ (λw _=>w=v):=
 (Kg (r:=id) (Q7 l u m n) e).2.2.2
open Go Go.Na
def XT:P2_->Option N_
 |[]=>some []
 |r::rs=>match r with
  |[.int .u32 (.ofNat n)]=>if Nat.blt n 4294967296 then match XT rs with
   |some l=>some (n::l)
   |none=>none
   else none
  |_=>none
def yJ:PV->Option N_
 | .aE=>some []
 | .sl s rows=>if awK s 1&&Nat.ble rows.length 1000 then XT rows else none
 |_=>none
def I4:V_->Option RF
 |[.bool n,a,b]=>match yJ a,yJ b with
  |some x,some y=>some ⟨n,x,y⟩
  |_,_=>none
 |_=>none
theorem o9:∀{rs:P2_}{l:N_},XT rs=some l->rs=l.map (λ(n:Nat)=>[PV.int .u32 (n:Int)])/\Lim l
 |[],l,h=>by cases h;exact⟨rfl,λx i=>by cases i⟩
 |r::rs,l,h=>by
  simp only[XT]at h;split at h;split at h;rename_i n A;split at h;rename_i E u;cases h;obtain⟨w,y⟩:=o9 u;refine⟨by rw[w];rfl,λx i=>?_⟩;rcases auQ.1 i with e|e
  subst e;exact of_decide_eq_true (by simpa[Nat.blt_eq]using A);exact y x e;cases h;cases h;cases h
structure aiS(v:PV)(l:N_):Prop where
 co:Co v (aL l)
 lim:Lim l
 len:l'' l<=1000
theorem tJ{v:PV}{l:N_}(h:yJ v=some l):aiS v l:=by
 unfold yJ at h;split at h;cases h;exact⟨.nil 1,λx A=>(avE A).elim,auK _⟩;split at h;rename_i s rows i;simp only[auI]at i;obtain⟨u,y⟩:=o9 h;have w:=Nat.le_of_ble_eq_true i.2;rw[u,auD]at w;refine⟨?_,y,w⟩;rw[Nat.eq_of_beq_eq_true i.1,u];exact .refl _;cases h;cases h
structure aqC(cs:V_)(x:RF):Prop where
 co:CoL cs x.cells
 ok:x.Ok
theorem xo{cs:V_}{x:RF}(h:I4 cs=some x):aqC cs x:=by
 unfold I4 at h;split at h;split at h;rename_i a b _ _ i l;cases h;have k1:=tJ i;have k2:=tJ l;exact⟨.cons (.refl _) (.cons k1.co (.cons k2.co .nil)),k1.lim,k2.lim,avJ k1.len aU,avJ k2.len aU⟩;cases h;cases h
noncomputable def jT:aH:={ Rh with asR:=[⟨[118,48],0⟩] }
theorem i5:jT.Ok:=akB (by decide +kernel)
theorem VP:zI jT 0=[[0]]/\CD jT 0=0/\sL jT=0:=by decide +kernel
theorem rh:mS jT 5 1=[[0]]/\kB jT 5 1=0:=by decide +kernel
theorem Lf:dR jT=true:=by decide +kernel
theorem Ri:lO jT (lK jT 0)=[[0]]:=by decide +kernel
theorem Wj:l'' jT.asP<=12/\(∀m∈(lK jT 0).asQ,0<=m/\m<l'' jT.asQ)/\(lK jT 0).asQ.length<=99/\1<=(lK jT 0).k/\(lK jT 0).k<=6/\0<=(lK jT 0).m/\(lK jT 0).m<=4:=by decide +kernel
structure Cw(C:Ctx):Prop extends HB C where
 fleet:∀(l:N_),(∀x∈l,x<256)->l'' l<=9223372036854775807->∀asP asR:Nat,asP<=60->asR<=50 ->
  aG C 27 [.sl 1 (iS l),.int .i64 asP,.int .i64 asR] .nil (aJ (.agg (hZ (l.take 400) asP asR 0).1.cells))
 val:∀f:aH,f.Ok->aG C 96 [.agg f.cells] .nil (aJ (.int .i64 (sL f)))
 all:∀(f:aH)(atB:Int),f.Ok->aG C 205 [.agg f.cells,.int .i64 atB] .nil (aJ (.tup [lay (zI f atB),.int .i64 (CD f atB)]))
 GL:∀(f:aH)(lv cnt:Int),f.Ok->aG C 230 [.agg f.cells,yC lv cnt] .nil (aJ (.tup [lay (mS f lv cnt),.int .i64 (kB f lv cnt)]))
 sets:∀(f:aH)(p:cJ),VF f->l'' f.asP<=12->(∀m∈p.asQ,0<=m/\m<l'' f.asQ)->Fits p.asQ->1<=p.k->p.k<=6->0<=p.m->p.m<=4->aG C 229 [.agg f.cells,.agg p.cells] .nil (aJ (lay (lO f p)))
def or1(g:RF->PV)(vs:V_):Option PV:=match vs with
 |[.agg x]=>match I4 x with
  |some a=>some (g a)
  |none=>none
 |_=>none
def or2(g:RF->RF->PV)(vs:V_):Option PV:=match vs with
 |[.agg x,.agg y]=>match I4 x with
  |some a=>match I4 y with
   |some b=>some (g a b)
   |none=>none
  |none=>none
 |_=>none
def orE(vs i:V_)(v:PV):Option PV:=if PV.IQ vs i then some v else none
noncomputable def Ii:Orc:=λname vs=>match name with
 |113=>or2 (λa b=>frV (gY a.v b.v)) vs
 |114=>or2 (λa b=>CV a.neg (val a.num) (val a.den) b.neg (val b.num) (val b.den)) vs
 |115=>match vs with
  |[.int .i64 n,.int .i64 d]=>if decide (dS n)&&decide (dS d)then some (vQ n d)else none
  |_=>none
 |116=>or1 (λa=>frV (oF a)) vs
 |118=>or1 (λa=>.bool (cK (val a.num) (val a.den))) vs
 |120=>match vs with
  |[.bool neg,x,y]=>match yJ x with
   |some a=>match yJ y with
    |some b=>if decide (nl (val a)<=512)&&(decide (nl (val b)<=512)&&!awK (val b) 0)then some (zW neg (val a) (val b))else none
    |none=>none
   |none=>none
  |_=>none
 |121=>match vs with
  |[x,y]=>match yJ x with
   |some a=>match yJ y with
    |some b=>if decide (nl (val a)<=256)&&decide (nl (val b)<=256)then some (aL (aM (val a*val b)))else none
    |none=>none
   |none=>none
  |_=>none
 |128=>match vs with
  |[x]=>match yJ x with
   |some a=>some (.int .i64 (dC (val a):Nat))
   |none=>none
  |_=>none
 |27=>orE vs [.aE,.int .i64 1,.int .i64 0] (.agg Rh.cells)
 |96=>orE vs [.agg jT.cells] (.int .i64 0)
 |205=>orE vs [.agg jT.cells,.int .i64 0] (.tup [lay [[0]],.int .i64 0])
 |230=>orE vs [.agg jT.cells,yC 5 1] (.tup [lay [[0]],.int .i64 0])
 |229=>orE vs [.agg jT.cells,.agg (lK jT 0).cells] (lay [[0]])
 |_=>none
section
variable {C:Ctx}
theorem Vd{name:Nat}{g:RF->PV}(h:∀x:RF,x.Ok->aG C name [.agg x.cells] .nil (aJ (g x))){vs:V_}{v:PV}(e:or1 g vs=some v):aG C name vs .nil (aJ v):=by
 unfold or1 at e;split at e;split at e;rename_i a i;cases e;have k:=xo i;exact(h a k.ok).args (.cons (CoL.agg k.co) .nil);cases e;cases e
theorem Ve{name:Nat}{g:RF->RF->PV}(h:∀x y:RF,x.Ok->y.Ok->aG C name [.agg x.cells,.agg y.cells] .nil (aJ (g x y))){vs:V_}{v:PV}(e:or2 g vs=some v):aG C name vs .nil (aJ v):=by
 unfold or2 at e;split at e;split at e;rename_i a i;split at e;rename_i b l;cases e;have k:=xo i;have k2:=xo l;exact(h a b k.ok k2.ok).args (.cons (CoL.agg k.co) (.cons (CoL.agg k2.co) .nil));cases e;cases e;cases e
theorem UO{name:Nat}{vs i:V_}{v w:PV}(h:aG C name i .nil (aJ w))(e:orE vs i w=some v):aG C name vs .nil (aJ v):=by
 unfold orE at e;split at e;rename_i l;cases e;rw[PV.zL _ _ l];exact h;cases e
theorem Qs(L:Cw C){name:Nat}{vs:V_}{v:PV}(e:Ii name vs=some v):aG C name vs .nil (aJ v):=by
 unfold Ii at e;split at e;exact Ve L.plus e;exact Ve L.ord e;split at e;split at e;rename_i i;simp only[auI,dT_]at i;cases e;exact L.sJ _ _ i.1 i.2;cases e;cases e;exact Vd L.red e;exact Vd (λx u=>L.valid x.neg x.num x.den u.1 u.2.1 u.2.2.1 u.2.2.2) e;split at e;split at e;rename_i a l;split at e;rename_i b w;split at e;rename_i i;simp only[auI,dT_,Bool.not_eq_true']at i;cases e;have k1:=tJ l;have k2:=tJ w;exact(L.lowest _ a b k1.lim k2.lim (avJ k1.len aU) (avJ k2.len aU) i.1 i.2.1 (λA=>by rw[A]at i;simp at i)).args (.cons (.refl _) (.cons k1.co (.cons k2.co .nil)));cases e;cases e;cases e;cases e;split at e;split at e;rename_i a l;split at e;rename_i b w;split at e;rename_i i;simp only[auI,dT_]at i;cases e;have k1:=tJ l;have k2:=tJ w;exact(L.times a b k1.lim k2.lim (avJ k1.len aU) (avJ k2.len aU) i.1 i.2).args (.cons k1.co (.cons k2.co .nil));cases e;cases e;cases e;cases e;split at e;split at e;rename_i a l;cases e;have k1:=tJ l;exact(L.bits a k1.lim (avJ k1.len aU)).args (.cons k1.co .nil);cases e;cases e;have H:=L.fleet [] (λx u=>by cases u) aU 1 0 aU aU;have y:aG C 27 [.sl 1 (iS []),.j (1:Nat),.j (0:Nat)] .nil (aJ (.agg Rh.cells)):=H;exact UO (y.args (.Oj (.nil 1) (.Oj (.refl _) (.Oj (.refl _) .arE)))) e;have h:=L.val jT i5;rw[VP.2.2]at h;exact UO h e;have h:=L.all jT 0 i5;rw[VP.1,VP.2.1]at h;exact UO h e;have h:=L.GL jT 5 1 i5;rw[rh.1,rh.2]at h;exact UO h e;obtain⟨l,w,J,E,h5,F,h7⟩:=Wj;have h:=L.sets jT (lK jT 0) (VF.of Lf) l w (by unfold Fits;omega) E h5 F h7;rw[Ri]at h;exact UO h e;cases e
theorem agW(L:Cw C):Cx C Ii:=λ_ _ _ e=>(Qs L e).oo λ_ _ h=>h.1
theorem aG.bare{name:Nat}{vs:V_}{H:PH}{v:PV}(h:aG C name vs H (λJ _=>J=v)):aG C name vs H (aJ v):=by
 refine⟨h.1,λE w K A hW i=>(h.2 E w K A hW i).mono λM N F=>?_⟩;obtain⟨u,pv,l,H',g1,g2,g3,g4,y⟩:=F;exact⟨u,pv,l,.nil,g1,g2.weaken a_,g3,g4.drop a_,y,rfl⟩
theorem V1(L:Cw C){tab:Nat->Option lF}{fz:Nat->Bool}(i:∀k pf,tab k=some pf->jx C k pf)(m n:Nat){name:Nat}{vs:V_}{v:PV}(e:j6 (JL tab Ii fz XJ m n) name vs=some v):aG C name vs .nil (aJ v):=
 aG.bare (Q6 (agW L) i m n e)
end
theorem Ae{D:Nat}(hD:0<D)(i:D<=362880){v:FV}{z:Int}(h:Sd D v z)(l:z.natAbs<1152921504606846976):jR v.rf=true:=by
 have y:=h.valid hD i l;obtain⟨n,a,b⟩:=v;obtain⟨r,u,w⟩:=XP hD i (neg:=n) (a:=a) (b:=b) (z:=z) h.1 h.2.2 l;obtain⟨A,E⟩:=w.le hD;have e:oF (FV.rf (n,a,b))=.ok r:=by unfold oF FV.rf;simp only[aV];rw[aD y,u]
 unfold jR;rw[e];have a1:nl r.2.1<=2:=iA Om;have a2:nl r.2.2<=2:=iA Om;simp[a1,a2]
theorem abD{f:aH}(u:dR f=true)(lv cnt:Int):(mS f lv cnt).length<=1000000000000000/\∀s∈mS f lv cnt,l'' s<=1000000000000000/\s.Pairwise (· < ·):=by
 unfold mS;split;obtain⟨w,l⟩:=abB (VF.of u) (iV f lv) (i7 (VF.of u) lv).2 cnt.toNat;exact⟨by omega,λs i=>⟨by have:=(l s i).1;omega,(l s i).2⟩⟩;exact⟨auK _,λs i=>by cases i⟩
structure Sp(C:Ctx):Prop extends Sr C where
 dem:∀f:aH,VF f->l'' f.asT<=1000000->l'' f.asR<=1000000->aG C 337 [.agg f.cells] .nil (aJ (ints (eX f)))
 room:∀(f:aH)(room:I_),f.Ok->aG C 152 [.agg f.cells,ints room] .nil (aJ (ints (mR f room)))
 GL:∀(f:aH)(lv cnt:Int),f.Ok->aG C 230 [.agg f.cells,yC lv cnt] .nil (aJ (.tup [lay (mS f lv cnt),.int .i64 (kB f lv cnt)]))
 all:∀(f:aH)(atB:Int),f.Ok->aG C 205 [.agg f.cells,.int .i64 atB] .nil (aJ (.tup [lay (zI f atB),.int .i64 (CD f atB)]))
 loss:∀(sc:L2_),l'' sc<=1000000000000000->(∀s∈sc,l'' s<=1000000000000000/\s.Pairwise (· < ·))->∀(set:I_),l'' set<=1000000000000000->set.Pairwise (· < ·)->∀m:Int,
  aG C 351 [lay sc,ints set,.int .i64 m] .nil (aJ (.int .i64 (DD sc set m:Nat)))
 bound:∀(f:aH)(room:I_)(a b:List RF),f.Ok->dR f=true->(∀x∈a,x.Ok)->(∀x∈b,x.Ok)->l'' a<=1000000->l'' b<=1000000->aG C 328 [.agg f.cells,ints room,frs a,frs b] .nil (aJ (SN f room a b))
 num:∀n:Nat,n<=9223372036854775807->aG C 336 [.int .i64 n] .nil (aJ (.agg (FV.rf (false,n,1)).cells))
 sJ:∀n d:Int,dS n->dS d->aG C 115 [.int .i64 n,.int .i64 d] .nil (aJ (vQ n d))
 r333:bJ C 333 eN
section
variable {f:aH} {lv cnt:Int} {room:I_} {b:Nat->Nat}
theorem Vl(h:xQ f cnt)(s:lG (PF_ f lv cnt room) (NF_ f lv cnt room) b) :
  (∀x∈dpX (eX f) (dK f room) (alF f) (loF f lv cnt) b,x.Ok/\jR x=true)/\∀x∈rpX (eX f) (dK f room) (alF f) (loF f lv cnt) b,x.Ok/\jR x=true:=by
 have hB:=h.beg lv room;obtain⟨u,w,-,-⟩:=h.sd s;have l:∀k,(mkX ((PF_ f lv cnt room false).eF b k) ((PF_ f lv cnt room false).den b)).rf.Ok/\jR (mkX ((PF_ f lv cnt room false).eF b k) ((PF_ f lv cnt room false).den b)).rf=true:=λk=>by obtain⟨y,A,E⟩:=PQ hB s.jA k;exact⟨A,Ae u w y Om⟩
 have zero:(FV.rf (false,0,1)).Ok/\jR (FV.rf (false,0,1))=true:=⟨Ic 0 aU,Ae (D:=1) aU aU (p5 0) aU⟩;refine⟨λx i=>?_,λx i=>?_⟩;unfold dpX at i;obtain⟨k,-,rfl⟩:=auT.1 i;split;exact l _;exact zero;unfold rpX at i;obtain⟨k,-,rfl⟩:=auT.1 i;exact l _
theorem Wb(L:Sp C)(f:aH)(lv cnt:Int)(room:I_)(h:xQ f cnt) :
  aG C 333 [.agg f.cells,yC lv cnt,ints room] .nil (λr H'=>Nx f room (eX f) (dK f room) (alF f) (loF f lv cnt) (kB f lv cnt) r/\H'=.nil):=by
 have hV:=VF.of h.v;have hp:=hV.small.asT;have F:=hV.small.asR;have A:=hV.small.asP;have u:mR f room=dK f room:=by unfold mR;rw[aD h.v]
 obtain⟨s1,s2⟩:=abD h.v lv cnt;refine L.r333.go (Xc L.toSr f lv cnt room (eX f) (dK f room) (mS f lv cnt) (kB f lv cnt) (alF f) (λp=>CD f p) (loF f lv cnt) ⟨L.dem f hV Om Om,by have:=L.room f room h.ok;rw[u]at this;exact this,L.GL f lv cnt h.ok,λp _=>L.all f p h.ok,λp hp s E=>?_⟩
  (h.beg lv room) (by rw[kS];exact h.p.1) (by rw[iZ];exact h.d.1) (kS f).symm (iZ f room).symm (λp hp=>?_) (λb s=>?_) (L.num 0 aU) (λn d Q K O=>L.sJ n d (by unfold dS;omega) (by unfold dS;omega))) rfl
 rw[kS]at hp;obtain⟨a1,-,a2,-⟩:=acZ h.v hp E;exact L.loss _ s1 s2 s Om (VC a1) _;have M:=cu (dm:=eX f) (al:=alF f) (lo:=loF f lv cnt) 4096 p λq _=>Ss (by have:=h.d;omega) q;rw[kS]at hp;have N:p*4096<=24*4096:=avL _ Om;omega;obtain⟨w,y⟩:=Vl h s;have H:(dpX (eX f) (dK f room) (alF f) (loF f lv cnt) b).length=l'' f.asT:=by unfold dpX;rw[auD,iC,kS]
 have J:(rpX (eX f) (dK f room) (alF f) (loF f lv cnt) b).length=l'' f.asP:=by unfold rpX;rw[auD,List.length_range,iZ]
 have:=L.bound f room _ _ h.ok h.v (λx i=>(w x i).1) (λx i=>(y x i).1) Om Om;have l:KO f (dpX (eX f) (dK f room) (alF f) (loF f lv cnt) b) (rpX (eX f) (dK f room) (alF f) (loF f lv cnt) b)=true:=by unfold KO nE;rw[h.v,H,J,auX.2 λx i=>(w x i).2,auX.2 λx i=>(y x i).2];simp
 unfold SN at this;rw[aD l]at this;exact this
end

theorem Vx{f:aH}(hV:VF f)(room:I_):Ee (dK f room):=by
 intro x i;unfold dK at i;obtain⟨d,l,rfl⟩:=auT.1 i;obtain⟨w,u⟩:=hV.l5 (avM.1 l);have:=hV.model _ (auH w);rw[u]at this;unfold rW;split<;>omega
structure MI(C:Ctx):Prop where
 r0:bJ C 0 eA
 r1:bJ C 1 Dd
 r2:bJ C 2 lC
 r4:bJ C 4 DM
 r5:bJ C 5 P8
 r6:bJ C 6 Df
 r7:bJ C 7 mQ
 r27:bJ C 27 oa
 r28:bJ C 28 fq
 r29:bJ C 29 De
 r30:bJ C 30 Rk
 r31:bJ C 31 Dm
 r32:bJ C 32 Rm
 r33:bJ C 33 udiv
 r34:bJ C 34 Rq
 r35:bJ C 35 Do
 r36:bJ C 36 Rs
 r37:bJ C 37 Rv
 r38:bJ C 38 IM
 r39:bJ C 39 eD
 r40:bJ C 40 rQ
 r41:bJ C 41 sa
 r42:bJ C 42 lS
 r43:bJ C 43 pX
 r44:bJ C 44 nB
 r45:bJ C 45 uup
 r46:bJ C 46 J5
 r47:bJ C 47 Rz
 r48:bJ C 48 sw
 r49:bJ C 49 Dw
 r50:bJ C 50 sy
 r51:bJ C 51 s8
 r52:bJ C 52 YJ
 r53:bJ C 53 Dy
 r54:bJ C 54 Dz
 r55:bJ C 55 AH
 r56:bJ C 56 te
 r57:bJ C 57 Dv
 r58:bJ C 58 pI
 r59:bJ C 59 D0
 r60:bJ C 60 td
 r61:bJ C 61 ID
 r62:bJ C 62 YL
 r63:bJ C 63 tg
 r64:bJ C 64 YK
 r65:bJ C 65 YM
 r66:bJ C 66 Sh
 r67:bJ C 67 dO
 r68:bJ C 68 jY
 r69:bJ C 69 Sg
 r70:bJ C 70 vb
 r71:bJ C 71 vd
 r72:bJ C 72 RH
 r73:bJ C 73 ve
 r74:bJ C 74 vf
 r75:bJ C 75 YO
 r76:bJ C 76 MH
 r85:bJ C 85 rP
 r95:bJ C 95 tF
 r96:bJ C 96 gC
 r97:bJ C 97 mo
 r98:bJ C 98 C5
 r99:bJ C 99 C6
 r100:bJ C 100 C7
 r101:bJ C 101 gone
 r102:bJ C 102 nY
 r103:bJ C 103 mu
 r104:bJ C 104 gin
 r105:bJ C 105 Pe
 r106:bJ C 106 Pf
 r107:bJ C 107 C8
 r108:bJ C 108 C9
 r109:bJ C 109 mz
 r110:bJ C 110 Da
 r111:bJ C 111 F9
 r112:bJ C 112 Pg
 r113:bJ C 113 c9
 r114:bJ C 114 wB
 r115:bJ C 115 l8
 r116:bJ C 116 KY
 r117:bJ C 117 wa
 r118:bJ C 118 ml
 r119:bJ C 119 O0
 r120:bJ C 120 mH
 r121:bJ C 121 mj
 r122:bJ C 122 C4
 r123:bJ C 123 nz
 r124:bJ C 124 TV
 r125:bJ C 125 TX
 r126:bJ C 126 LF
 r127:bJ C 127 pE
 r128:bJ C 128 Dg
 r129:bJ C 129 Qc
 r130:bJ C 130 Qe
 r131:bJ C 131 Qj
 r132:bJ C 132 Dh
 r133:bJ C 133 pF
 r134:bJ C 134 qB
 r135:bJ C 135 Di
 r136:bJ C 136 eS
 r137:bJ C 137 pi
 r138:bJ C 138 EX
 r139:bJ C 139 OZ
 r140:bJ C 140 pn
 r141:bJ C 141 po
 r142:bJ C 142 HT
 r143:bJ C 143 nup
 r152:bJ C 152 QK
 r161:bJ C 161 rz
 r201:bJ C 201 nL
 r202:bJ C 202 Oe
 r203:bJ C 203 kf
 r205:bJ C 205 call17
 r206:bJ C 206 gE
 r207:bJ C 207 XA
 r210:bJ C 210 C1
 r211:bJ C 211 kP
 r326:bJ C 326 kn
 r328:bJ C 328 j8
 r333:bJ C 333 eN
 r335:bJ C 335 XG
 r336:bJ C 336 XD
 r337:bJ C 337 MQ
 r338:bJ C 338 C0
 r342:bJ C 342 WM
 r343:bJ C 343 iD
 r344:bJ C 344 tp
 r345:bJ C 345 WN
 r346:bJ C 346 WP
 r348:bJ C 348 ll
 r349:bJ C 349 O7
 r351:bJ C 351 mL
 r352:bJ C 352 jX
 r353:bJ C 353 WU
 r354:bJ C 354 WT
 r355:bJ C 355 WQ
 r356:bJ C 356 tj
 r358:bJ C 358 MG
 r359:bJ C 359 mK
 r360:bJ C 360 WS
 r229:∃asg bdy,jy C 229 (Ot asg bdy)
 r230:∃asg bdy,jy C 230 (Oq asg bdy)
namespace L
theorem anY{f:aH}(h:dR f=true):l'' f.asT<=1000/\l'' f.asR<=1000/\l'' f.asP<=1000:=by
 have i:=(VF.of h).small.asT;have l:=(VF.of h).small.asR;have u:=(VF.of h).small.asP;omega
theorem anX{f:aH}(room:I_)(h:dR f=true):Ee (mR f room)/\(mR f room).length=l'' f.asP:=by
 rw[mR,aD h];exact⟨Vx (VF.of h) room,iZ f room⟩
variable {C:Ctx} (c:MI C)
include c
theorem uE:vM C:=
 have len:∀xs,Lim xs->l'' xs<=35184372087808->aG C 138 [aL xs] .nil (aJ (.j (nl (val xs):Nat))):=λxs h l=>c.r138.go (Qm xs h l) rfl
 {length:=len
  large:=λxs h l=>c.r137.go (Ux xs (len xs h l)) rfl
  sized:=λxs h l=>(c.r141.go (U1 xs h (len xs h l)) rfl).seen
  trim:=λxs h l=>(c.r135.go (aaB xs h l (len xs h l)) rfl).seen
  make:=λv h=>c.r132.go (Z8 v h len) rfl
  cmp:=λxs ys i u w y=>c.r129.go (agJ xs ys i u w y (len xs i w) (len ys u y)) rfl }
theorem agH:Cv C:=
 {subtract:=λA W Z v f o hW w u l y i=>c.r142.go (Hu A W Z v f hW w u l y i o) rfl
  restore:=λA W Z v o hW w u l=>c.r139.go (Ky A W Z v hW w u l o) rfl }
theorem Qa:Ed C:=
 {L:=uE c
  D:=agH c
  up:=λa s l A i=>c.r143.go (akA a s l A i) rfl
  short:=λa d l u w i=>c.r140.go (Uz (uE c) a d l u w i) rfl
  lengthO:=λxs o E y=>c.r138.go (Kw xs E y o) rfl }
theorem ow(A B:Nat)(hB:B≠0)(l:nl A<=900)(i:nl B<=900):aG C 136 [aL (aM A),aL (aM B)] .nil (aJ (uS A B)):=
 (c.r136.go (Qh (Qa c) A B hB l i) rfl).seen
theorem wH:xO C:=
 {uE c with
  bits:=λxs h l=>c.r128.go (Z7 xs h l ((uE c).length xs h l)) rfl
  add:=λxs ys i u w y=>(c.r127.go (agI (uE c) xs ys i u w y) rfl).seen
  sub:=λxs ys i u w y=>(c.r134.go (agP (uE c) xs ys i u w y) rfl).seen
  mul:=λxs ys i u w y=>(c.r133.go (agO (uE c) xs ys i u w y) rfl).seen
  gcd:=λxs ys i u w y=>(c.r131.go (agN (uE c) (ow c) xs ys i u w y) rfl).seen
  div:=λxs ys i u w y=>(c.r130.go (agK (uE c) (ow c) xs ys i u w y) rfl).seen }
theorem EP:HC C:=
 {wH c with
  times:=λa b i hb l u w y=>c.r121.go (T5 (wH c) a b i hb l u w y) rfl
  zero:=λneg a b i l=>c.r122.go (Y2 (wH c) neg a b i l) rfl
  valid:=λneg a b i hb l u=>c.r118.go (T6 (wH c) neg a b i hb l u) rfl
  abs:=λv E F=>c.r119.go (aeQ (wH c) v E F) rfl
  lowest:=λneg a b i hb l u w y A=>(c.r120.go (O6 (wH c) neg a b i hb l u w y A) rfl).seen }
theorem F6(x y:RF)(i:x.Ok)(l:y.Ok):aG C 113 [.agg x.cells,.agg y.cells] .nil (aJ (frV (gY x.v y.v))):=
 (c.r113.go (aeR (EP c) x.neg y.neg x.num x.den y.num y.den i.1 i.2.1 l.1 l.2.1 i.2.2.1 i.2.2.2 l.2.2.1 l.2.2.2) rfl).seen
theorem qK:HB C:=
 {EP c with
  sJ:=λn d E w=>(c.r115.go (Y1 (EP c) n d E.1 E.2 w.1 w.2) rfl).seen
  red:=λx i=>by rw[<-Qz];exact(c.r116.go (O9 (EP c) x.neg x.num x.den i.1 i.2.1 i.2.2.1 i.2.2.2) rfl).seen
  ord:=λx y i u=>(c.r114.go (aeS (EP c) x.neg y.neg x.num x.den y.num y.den i.1 i.2.1 u.1 u.2.1 i.2.2.1 i.2.2.2 u.2.2.1 u.2.2.2) rfl).seen
  plus:=F6 c
  tot:=λl A=>(c.r117.go (afA (EP c) (F6 c) l A.all A.fits) rfl).seen }
theorem EO:xL C:=
 have inn:∀n lo hi:Int,aG C 104 [.j n,.j lo,.j hi] .nil (aJ (.bool (within n lo hi))):=λn lo hi=>(c.r104.go (ajN n lo hi) rfl).seen;have AI:∀x:RF,x.Ok->aG C 97 [.agg x.cells] .nil (aJ (.bool (bW x))):=λx w=>(c.r97.go (T7 (wH c) x w) rfl).seen;have lim:∀x:RF,x.Ok->aG C 105 [.agg x.cells] .nil (aJ (.bool (dQ x))):=λx w=>(c.r105.go (afD (qK c) x w) rfl).seen;have i:∀n:Nat,aG C 126 [.int .u8 n] .nil (aJ (.bool (gG n))):=λn=>c.r126.go (P1 n) rfl;have u:∀n:Nat,aG C 124 [.int .u8 n] .nil (aJ (.bool (pM n))):=λn=>c.r124.go (Uf n) rfl
 {qK c with
  inn:=inn
  AI:=AI
  lim:=lim
  one:=λx w=>(c.r101.go (afF (qK c) x w) rfl).seen
  allf:=λp fn l y h=>(c.r99.go (Y4 p fn l y h) rfl).seen
  alli:=λp fn l y h=>(c.r100.go (Y5 p fn l y h) rfl).seen
  allb:=λp fn l y h=>(c.r98.go (Y3 p fn l y h) rfl).seen
  ends1:=λb=>(c.r103.go (T8 b) rfl).seen
  num1:=λn=>(c.r107.go (Y8 inn n) rfl).seen
  rate1:=λx w=>(c.r109.go (Ub lim AI x w) rfl).seen
  name:=λs=>c.r123.go (Zs i (λn=>c.r125.go (Uj i u n) rfl) s) rfl }
theorem Ft:D8 C:=
 {EO c with
  num:=λp hp=>(c.r106.go (afE (EO c) p hp) rfl).seen
  rate:=λp hp=>(c.r108.go (Za (EO c) p hp) rfl).seen
  uniq:=λl i=>(c.r110.go (Ze (EO c) l i) rfl).seen }
theorem Fu:jl C:=
 {Ft c with
  ends:=λl u i=>(c.r102.go (Y7 (EO c) l u i) rfl).seen }
theorem Y0:nO C:=
 {Fu c with
  law:=λl u=>(c.r95.go (afC (Fu c) l u) rfl).seen
  pol:=λp n hp w=>(c.r112.go (afH (Ft c) p hp n w) rfl).seen
  asY:=λf i=>(c.r111.go (afB (EO c) f i) rfl).seen }
theorem BI(f:aH)(i:f.Ok):aG C 96 [.agg f.cells] .nil (aJ (.j (sL f))):=(c.r96.go (afL (Y0 c) f i) rfl).seen
theorem sD:tU C:={ trimM:=λxs h l=>c.r38.go (acB xs h l) rfl }
theorem Iu:Eg C:=
 {sD c with
  make:=λv h=>(c.r35.go (abT (sD c) v h) rfl).seen
  large:=λxs h l=>(c.r41.go (Wp (sD c) xs h l) rfl).seen
  cmp:=λxs ys i u w y=>c.r32.go (ahS (sD c) xs ys i u w y) rfl }
theorem Iw:Ei C:=
 {Iu c with
  minus:=λa b l hb u y i=>(c.r42.go (Ws (sD c) a b l hb u y i) rfl).seen
  times:=λa b l hb i w=>(c.r44.go (Ww (sD c) a b l hb i w) rfl).seen }
theorem ii:jv C:=
 {Iw c with
  plus:=λa b u hb i l=>(c.r43.go (abZ (sD c) a b u hb i l) rfl).seen }
theorem aaP:SH C:=
 {ii c with
  bits:=λxs h l=>c.r31.go (abP (sD c) xs h l) rfl
  upM:=λa n u i w y=>c.r45.go (alE (sD c) a n u i w y) rfl
  down:=λa n u i w=>(c.r40.go (abS (sD c) a n u i w) rfl).seen }
theorem ig:jt C:=
 {Iu c with
  divide:=λA B hB l i=>(c.r39.go (Rp (aaP c) A B hB l i) rfl).seen }
theorem Iv:Eh C:=
 {ig c with
  gcd:=λa b i hb l u=>(c.r34.go (ahU (ig c) a b i hb l u) rfl).seen
  div:=λa b i hb l u=>(c.r33.go (ahT (ig c) a b i hb l u) rfl).seen }
theorem M4:Nv C:=
 {Iv c with
  lowest:=λneg a b u hb w y A E l=>(c.r58.go (R2 (Iv c) neg a b u hb w y A E l) rfl).seen
  size:=λv i=>c.r59.go (acJ v i.1 i.2) rfl }
theorem PR:ju C:=
 {M4 c with
  fmk:=λn d l i=>(c.r50.go (acG (M4 c) n d l i) rfl).seen }
theorem LG(hi:FD C):HF C:=
 {PR c with
  int:=λn i=>(c.r47.go (Ni (PR c) n i) rfl).seen
  itoa:=hi
  next:=λl v T o n a i u=>c.r4.go (Z4 T o n a i u) rfl }
theorem Hf(hi:FD C):Eb C:=
 {LG c hi with
  sJ:=λl v T o a i=>c.r1.go (Zz (LG c hi) T o a i) rfl }
theorem Hg(hi:FD C):xN C:=
 {Hf c hi with
  rep:=λl v T o a m u i=>c.r5.go (agE (Hf c hi) T o a m u i) rfl
  name:=λs n y w=>c.r29.go (Z3 (LG c hi) s n y w) rfl }
theorem Hh(hi:FD C):qG C:=
 {Hg c hi with
  law:=λl v T o fP a w i u=>c.r2.go (agB (Hg c hi) T o fP a w i u) rfl }
theorem Hi(hi:FD C):Ec C:=
 {Hh c hi with
  grow:=λl v T mc asP i u w=>Gd (Hh c hi) T mc asP i u w (λargs H R y h=>c.r7 args H R (by rw[y];decide) h) 4 (auG _) }
theorem ef(hi:FD C):So C:=
 {Hi c hi with
  new:=λl hb y=>c.r28.go (agC l hb y) rfl
  fleet:=λl v T o asP asR a i u w=>SE.exact (c.r0.go (Ur (Hi c hi) T o asP asR a i u w) rfl) }
theorem xi:Cy C:=
 {PR c with
  int:=λn w=>(c.r47.go (Ni (PR c) n w) rfl).seen
  mul:=λa b i hb l u=>(c.r36.go (ahV (Iw c) a b i hb l u) rfl).seen
  add:=λa b i hb l u=>(c.r30.go (ahR (ii c) a b i hb l u) rfl).seen
  sub:=λa b i hb l u=>(c.r37.go (ahY (ii c) a b i hb l u) rfl).seen }
theorem ij:jw C:=
 {xi c with
  valid:=λx i=>c.r56.go (W2 (xi c) x.neg x.num x.den i.1 i.2.1 i.2.2.1 i.2.2.2) rfl
  big:=λx=>c.r48.go (Wz x.1 (aM x.2.1) (aM x.2.2)) rfl }
theorem Ix:Ej C:=
 {ij c with
  fits:=λx=>(c.r57.go (acD (ij c) x) rfl).seen
  red:=λx l=>(c.r52.go (R3 (ij c) x l) rfl).seen
  prod:=λa b i hb u w y A=>c.r60.go (W1 (xi c) a b i hb u w y A) rfl }
theorem GH:FI C:=
 {Ix c with
  order:=λx y i l u w=>c.r51.go (W0 (Ix c) x y i l u w) rfl }
theorem LP:Nw C:=
 {GH c with
  less:=λx y i l u w=>c.r49.go (acF (GH c) x y i l u w) rfl
  same:=λx y i l u w=>c.r53.go (acH (GH c) x y i l u w) rfl
  sign:=λx i u=>c.r54.go (acI (GH c) x i u) rfl
  plus:=λx y i l=>(c.r46.go (ahZ (GH c) x y i l) rfl).seen }
theorem ic:js C:=
 {LP c with
  sum:=λl u i=>(c.r55.go (aiB (LP c) l u i) rfl).seen
  inn:=λn lo hi=>c.r76.go (Sj n lo hi) rfl
  code:=λk m=>c.r61.go (abE k m) rfl }
theorem Az:vi C:=
 {ic c with
  small:=λx i=>c.r74.go (Xk (ic c) x i) rfl
  nums:=λk m q s0 s1 s2 s3 s4=>c.r72.go (Lr (ic c) k m q s0 s1 s2 s3 s4) rfl
  sizes:=λl u w y A E=>c.r73.go (Xj l u w y A E) rfl }
theorem A0:vj C:=
 {Az c with
  smalls:=λl i n=>c.r75.go (Si (Az c) l i n) rfl }
theorem A1:vk C:=
 {A0 c with
  reps:=λl i m=>c.r66.go (aiG (A0 c) l i m) rfl }
theorem A2:vm C:=
 have i:∀n:Nat,aG C 65 [.int .u8 n] .nil (aJ (.bool (gG n))):=λn=>c.r65.go (R6 n) rfl;have u:∀n:Nat,aG C 63 [.int .u8 n] .nil (aJ (.bool (pM n))):=λn=>c.r63.go (W3 n) rfl
 {A1 c with
  name:=λs=>c.r62.go (R5 i (λn=>c.r64.go (R4 i u n) rfl) s) rfl
  index:=λl w s=>c.r71.go (Xh l w s) rfl }
theorem A3:tT C:=
 {A2 c with
  fresh:=λl u s w H i=>c.r70.go (Xg (A2 c) l u s w H i) rfl }
theorem Vn:wS C:=
 {A3 c with
  law:=λl i=>c.r68.go (aiF (A3 c) l i) rfl }
theorem Vo:vn C:=
 {Vn c with
  dur:=λm rep l t h u i=>c.r69.go (aiE (A1 c) m rep l t h u i) rfl }
theorem acN(f:aH)(i:f.Ok):aG C 67 [.agg f.cells] .nil (aJ (.bool (dR f))):=c.r67.go (Xn (Vo c) f i) rfl
theorem alJ:amH C:=
 {adm:=λf p set hV hp i w=>c.r201.go (adX f hV p hp i set w) rfl
  asc:=λset n top u=>c.r202.go (aeA set u n top) rfl
  known:=λf atB l=>c.r203.go (S3 (BI c) f l atB) rfl }
theorem x9:Sm C:=
 {alJ c with
  subs:=λn top=>c.r210.go (Yi n top) rfl
  iter:=λl o1 o2 n top J K u w E F A M H y i b1 b2 g1 g2=>c.r211.go (X4 J K u w E F A y i b1 b2 g1 g2) rfl }
theorem YN:D5 C:=
 {x9 c with
  sets:=λf p hV A hp i E w F y=>by obtain⟨l,u,r⟩:=c.r229;exact(r.go (Yg (x9 c).tojk l u f A p (λset H _=>(x9 c).adm f p set hV hp i H) E w F y) rfl).seen }
theorem aiD:aiP C:=
 {YN c with
  val:=BI c
  units:=λf lv hV i h5=>(c.r206.go (Tc f hV lv i h5) rfl).seen
  choose:=λm n l u=>c.r207.go (Of m n l u) rfl }
theorem Mh(f:aH)(lv i:Int)(w:f.Ok):aG C 230 [.agg f.cells,yC lv i] .nil (aJ (.tup [lay (mS f lv i),.j (kB f lv i)])):=by
 obtain⟨l,u,r⟩:=c.r230;exact(r.go (Ye (aiD c).toSn l u f w lv i) rfl).seen
theorem anT(hi:FD C):Cw C:=
 {qK c with
  fleet:=λl hb y asP asR i u=>(c.r27.go (Uo (ef c hi) l hb y asP asR i u) rfl).seen
  val:=BI c
  all:=λf atB w=>(c.r205.go (yg (YN c) f w atB) rfl).seen
  GL:=Mh c
  sets:=(YN c).sets }
theorem akE(f:aH)(i:f.Ok):aG C 161 [.agg f.cells] .nil (aJ (.bool (dR f))):=(c.r161.go (Wm (BI c) f i) rfl).seen
theorem M1(f:aH)(room:I_)(i:f.Ok):aG C 152 [.agg f.cells,ints room] .nil (aJ (ints (mR f room))):=(c.r152.go (Wl (akE c) f i room) rfl).freeze
theorem anW:acS C:=
 {vald:=BI c
  prices:=λl A i n=>c.r335.go (Ol (λx w=>c.r348.go (Tb (qK c) x w) rfl) l A i n) rfl
  number:=λn u=>c.r336.go (MT (qK c) n u) rfl
  demands:=λf hV hp F=>(c.r337.go (YV f hV hp F) rfl).seen
  plus:=λs x E w n u=>c.r338.go (Yc (qK c) (λn u=>c.r336.go (MT (qK c) n u) rfl) (λx y w H=>(c.r349.go (aeW (qK c).toHC x y w H) rfl).seen) s x E w n u) rfl
  room:=M1 c }
theorem agZ(hi:FD C):Sk C:=
 {new:=(ef c hi).new
  tfleet:=(ef c hi).fleet
  QK:=λl v T o a f u i=>exactly (c.r6.go (Z5 (LG c hi) T o a f u i) rfl)
  next:=λl v T o n a w i=>(LG c hi).next l v T o n a w i }
theorem akL:Sp C:=
 {r346:=c.r346
  r352:=c.r352
  r353:=c.r353
  r354:=c.r354
  r355:=c.r355
  r356:=c.r356
  r358:=c.r358
  r359:=c.r359
  r360:=c.r360
  r342:=c.r342
  r343:=c.r343
  r344:=c.r344
  r345:=c.r345
  r333:=c.r333
  dem:=λf hV hp F=>(c.r337.go (YV f hV hp F) rfl).seen
  room:=M1 c
  GL:=Mh c
  all:=λf atB i=>(c.r205.go (yg (YN c) f i atB) rfl).seen
  loss:=λsc l u set w y m=>c.r351.go (X5 sc l u set w y m) rfl
  bound:=λf room a b i _ A hb H J=>(c.r328.go (S1 (anW c) f i room a b A hb Om Om (anX room) (λh=>by have:=anY h;omega)) rfl).seen
  num:=λn E=>c.r336.go (MT (qK c) n E) rfl
  sJ:=(qK c).sJ }
theorem akK(hi:FD C)(u:aG C 332 [] .nil (aJ (.bool true))):acV C:=
 {read:=λl hb y=>c.r326.go (Yd (agZ c hi) l hb y 6 4 aU aU) rfl
  rroom:=λf room w=>(c.r85.go (Wd (acN c) f w room) rfl).seen
  solve:=λf lv i room h=>Wb (akL c) f lv i room h
  valid:=(LP c).valid
  less:=(LP c).less
  sign:=(LP c).sign
  ML:=u }
end L
theorem Uc(c:MI C)(hi:FD C)(u:aG C 332 [] .nil (aJ (.bool true)))(r:bJ C 383 iH)(l m:N_)(hb:∀x∈l,x<256)(w:l'' l<=9223372036854775807)(y:∀x∈m,x<256)(i:l'' m<=9223372036854775807) :
  aG C 383 [.sl 1 (iS l),.sl 1 (iS m)] .nil (aJ (.bool true)):=r.go (S9 (L.akK c hi u) l m hb w y i) rfl
end Go.PM
