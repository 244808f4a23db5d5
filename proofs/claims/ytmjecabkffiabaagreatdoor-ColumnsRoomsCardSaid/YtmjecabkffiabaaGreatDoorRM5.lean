/-Lemmas for the law. No condition.-/
import Derived.Test.YtmjecabkffiabaaGreatDoorRM4
import Derived.Test.YtmjecabkffiabaaGreatDoorRows
import Derived.KernelRfl
import Derived.LaidMore
import Derived.Stop.Joined
import Derived.Shelf.Sort.Plain
import Derived.Shelf.Slices.CompactI
import Derived.Shelf.Slices.In.SortNone
set_option linter.unusedSimpArgs false
set_option linter.unusedVariables false
open Nat renaming reduceEqDiff->γ,reduceAdd->δ,reduceSub->ε,reduceMul->ζ,reduceLT->η,reduceLeDiff->θ,reduceBEq->τ
open Int renaming reduceLT->ι,reduceLE->κ,reduceEq->μ,reduceToNat->ν,reduceAdd->ξ,reduceNeg->ο,reduceBEq->ρ,reduceBNe->σ
open List renaming reduceReplicate->υ
open List renaming length_map->auD,range->auE,getElem_mem->auH,length_append->auJ,replicate->auL,getD_eq_getElem?_getD->auM,getElem?_eq_getElem->auP,mem_cons->auQ,length_singleton->auS,mem_map->auT,length_take->auU,all_eq_true->auX,take_of_length_le->auZ,getElem?_map->avC,map_append->avD,not_mem_nil->avE,length_cons->avG,map_cons->avH,take_length->avI,mem_range->avM,mem_singleton->avN,getElem?_eq_some_iff->avP,set_cons_zero->avQ,drop_zero->avR,length_nil->avS,length_set->avT,Sublist->avU,append_assoc->avW,mem_append->avX,map_nil->avY,getElem?_eq_none->avZ,getElem_map->awA,append_nil->awD,take_succ_eq_append_getElem->awE,getElem?_append_right->awH,getElem_of_mem->awI,length_drop->awM,getElem?_append_left->awR,drop_eq_getElem_cons->awS,range'->awT,nil_append->axI,ext_getElem->axK,map_congr_left->axL,map_map->axM,all_cons->axP,nodup_append->axR,set_append_right->axS,cons_append->axX,getElem?_take->axZ,range_succ->ayA,getElem?_set->ayG,countP_append->ayR,mem_or_eq_of_mem_set->ayU,mem_cons_of_mem->ayV,mem_of_mem_take->ayW,getElem_append_right->ayY
open Nat renaming gcd->auF,le_refl->auG,zero_le->auK,zero_add->avA,lt_or_ge->avF,le_trans->avJ,mul_le_mul_right->avL,pow_succ->awL,sub_self->awU,mul_le_mul->awY,not_lt_zero->axA,succ_mul->axB,add_assoc->axG,pos_of_ne_zero->axJ,eq_zero_or_pos->axN,div_le_self->axT
open Bool renaming and_eq_true->auI,false_and->auN,not_true->auO,true_and->auV,not_false->auY,and_false->awB,and_true->awP,and_assoc->ayC
open Option renaming map_some->avB,some->awN,getD_some->axC
open Int renaming toNat->awC,toNat_natCast->awG,zero_mul->awV,mul_assoc->axD,mul_zero->axE,natAbs_mul->axO,mul_comm->axW,mul_le_mul_of_nonneg_left->ayX
open List renaming length->l''
set_option maxRecDepth 100000
set_option maxHeartbeats 800000
open Go.IntKind renaming i64->i_,u64->u_
open Go.PM.PF renaming nil->n_,args->g_
open Go.PM.PH renaming nil->h_
noncomputable section
namespace Go.Proofs.YtmjecabkffiabaaGreatDoor
open Go Go.PM Go.RowKit Go.ChangeShapes Go.WideShapes
noncomputable def C:Ctx:=⟨Tryz.prog,num⟩
def UW:Code->Option (Code × Code)
 | .rangeFunc _ _ a b=>some (a,b)
 | .seq a b=>match UW a with|some x=>some x|none=>UW b
 | .block _ c=>UW c
 |_=>none
def adK(c:Option Code):Code:=match c with|some c=>((UW c).getD (.skip,.skip)).1|none=>.skip
def adL(c:Option Code):Code:=match c with|some c=>((UW c).getD (.skip,.skip)).2|none=>.skip
theorem bS{k:Nat}{ro:N_}{fn:Func}{x}(i:C.P.funcs[C.num k]?=some fn)(u:(fn.name=="runtime.NumGoroutine")=false:=by kernel_rfl):bJ C k (PM.bR ro fn x):=λ_ _ _ l h=>yz (T:=T ro) rfl rfl i u x.2 l h
theorem adN(T:Tbl){k:Nat}{fn:Func}{pf:FH}(w:C.P.funcs[C.num k]?=some fn)(u:T.C3 fn=some pf)(l:C.P=T.P:=by rfl)(i:C.num=T.num:=by rfl)(A:(fn.name=="runtime.NumGoroutine")=false:=by kernel_rfl):jy C k pf:=λ_ _ _ y h=>Ox l i w A u y h
theorem Tryz.own:ownKnob Tryz.prog.godebug=none:=by kernel_rfl
theorem Tryz.laidOut:laidOutB Tryz.prog=true:=by kernel_rfl
theorem itoa:FD C:=λn y=>by
 refine⟨⟨Tryz.f67,Tryz.func67,by kernel_rfl,by kernel_rfl⟩,λE w vs A hW i=>?_⟩;obtain⟨F⟩:=vs;cases i with
 |cons l e2=>
 cases e2;cases l;refine(Any.strconv_Itoa_small Tryz.afX n y w).mono λe H u=>?_;obtain⟨rfl,rfl⟩:=u;exact⟨_,.str (cL n),E,.nil,rfl,hW,.str ⟨(Lib.decDigits n).toArray⟩,.refl _ _ _,rfl,rfl⟩
theorem ye{pv:PV}(h:PV.Ty (.sl [.int .u8]) pv):∃l:N_,pv=.sl 1 (iS l)/\(∀x∈l,x<256)/\l'' l<=9223372036854775807:=by
 obtain⟨xs,rfl,F,u⟩:=Ty.Zl h;refine⟨xs.map awC,?_,?_,?_⟩;unfold Pu iS;rw[axM];congr 1;refine axL λx w=>?_;have:=(u x w).1;simp only[Function.comp];rw[Int.toNat_of_nonneg this];intro y A;obtain⟨x,i,rfl⟩:=auT.1 A;have:=(u x i).2;have E:=(u x i).1;have i:IntKind.u8.max=255:=by decide
 rw[i]at this;omega;rw[auD];have:maxLen<=9223372036854775807:=by decide
 omega
end Go.Proofs.YtmjecabkffiabaaGreatDoor
namespace Go.PM
open Go Go.Na
theorem pS{f:aH}(h:VF f){i:Nat}(hi:i<l'' f.asS):0<=lvl f i/\lvl f i<=4:=by
 rcases axN i with e|e
 rw[e,h.root.2.1];omega;have:=h.dom i e hi;omega


theorem Mt(a b:Nat):mkT (a:Int) (b:Int)=⟨false,aM (a/auF a b),aM (b/auF a b)⟩:=by
 have i:decide ((a:Int)<0)=false:=bT Om;have l:decide ((b:Int)<0)=false:=bT Om;unfold mkT nZ FV.rf;rw[i,l,Int.natAbs_natCast,Int.natAbs_natCast];rfl
structure SmF(x:RF)(p q:Nat):Prop where
 eq:x=⟨false,aM (p/auF p q),aM (q/auF p q)⟩
 a:p<=64
 b:q<=64
 pos:0<q
theorem SmF.mk'{a b:Nat}(i:a<=64)(hb:b<=64)(h:0<b):SmF (mkT (a:Int) (b:Int)) a b:=⟨Mt a b,i,hb,h⟩
theorem SmF.num{x:RF}{a b:Nat}(h:SmF x a b):val x.num=a/auF a b:=by rw[h.eq,aV]
theorem SmF.den{x:RF}{a b:Nat}(h:SmF x a b):val x.den=b/auF a b:=by rw[h.eq,aV]
theorem SmF.v{x:RF}{a b:Nat}(h:SmF x a b):x.v=(false,a/auF a b,b/auF a b):=by
 unfold RF.v;rw[h.num,h.den,h.eq]
theorem SmF.Hv{x:RF}{a b:Nat}(_:SmF x a b):a/auF a b<=a:=axT ..
theorem SmF.E9{x:RF}{a b:Nat}(_:SmF x a b):b/auF a b<=b:=axT ..
theorem SmF.den_pos{x:RF}{a b:Nat}(h:SmF x a b):0<b/auF a b:=Nat.div_pos (Nat.le_of_dvd h.pos (Nat.gcd_dvd_right a b)) (Nat.gcd_pos_of_pos_right a h.pos)
theorem EJ{n:Nat}(h:n<=4096):dC n<=32:=(pG n 32).2 Om
theorem Ke{n:Nat}(h:0<n):0<dC n:=by
 rcases axN (dC n)with e|e
 rw[mT]at e;omega;exact e
theorem zE{a b:Nat}(l:a<=4096)(hb:b<=4096)(h:0<b):cK a b=true:=by
 have u:=EJ l;have w:=EJ hb;have i:=Ke h;unfold cK;rw[bH i,bH (Om:dC b<=4096),bH (Om:dC a<=4096)];rfl
theorem Mm{n:Bool}{a b:Nat}(i:a<=4096)(hb:b<=4096):iU n a b=.ok (n&&decide (a/auF a b≠0),a/auF a b,b/auF a b):=by
 have l:=EJ (avJ (axT a (auF a b)) i);have u:=EJ (avJ (axT b (auF a b)) hb);unfold iU;rw[aB Om]
theorem SmF.lim{x:RF}{a b:Nat}(h:SmF x a b):dQ x=true:=by
 have w:=h.Hv;have y:=h.E9;have i:=h.den_pos;have:=h.a;have:=h.b;have l:x.neg=false:=by rw[h.eq]
 unfold dQ oF;rw[h.num,h.den,l,zE Om Om i,aD rfl,Mm Om Om];have u:=axT (a/auF a b) (auF (a/auF a b) (b/auF a b));have e2:=axT (b/auF a b) (auF (a/auF a b) (b/auF a b));simp only[auN,auY,auV,auI,dT_];exact⟨EJ Om,EJ Om⟩
theorem SmF.AI{x:RF}{a b:Nat}(h:SmF x a b)(i:0<a):bW x=true:=by
 unfold bW;rw[h.num];exact bH (Nat.ne_of_gt (Nat.div_pos (Nat.le_of_dvd i (Nat.gcd_dvd_left a b)) (Nat.gcd_pos_of_pos_right a h.pos)))
theorem SmF.zero{x:RF}{b:Nat}(h:SmF x 0 b):bW x=false:=by
 unfold bW;rw[h.num,Nat.zero_div];rfl
theorem SmF.one{x:RF}{a b:Nat}(h:SmF x a b)(i:a<=b):CH x=true:=by
 have w:=h.Hv;have y:=h.E9;have l:=h.den_pos;have:=h.a;have:=h.b;have u:x.neg=false:=by rw[h.eq]
 unfold CH;rw[h.num,h.den,u,zE Om Om l];have:a/auF a b<=b/auF a b:=Nat.div_le_div_right i;show(true&&decide (eI (a/auF a b*1) (1*(b/auF a b))<=0))=true;rw[Nat.mul_one,Nat.one_mul,auV];refine bH ?_;unfold eI;split;decide;split;omega;decide
theorem SmF.ok{x:RF}{a b:Nat}(h:SmF x a b):x.Ok:=by
 have i:=h.Hv;have l:=h.E9;have:=h.a;have:=h.b;have k1:nl (a/auF a b)<=1:=(kY _ _).2 Om;have k2:nl (b/auF a b)<=1:=(kY _ _).2 Om;rw[h.eq];refine⟨bA _,bA _,?_,?_⟩;show(aM _).length<=_;rw[bD];omega;show(aM _).length<=_;rw[bD];omega
theorem aeN:∀c:Fin 9,∀k:Fin 9,c.val+k.val<=8 ->
  (c.val/auF c.val 8*(8/auF k.val 8)+k.val/auF k.val 8*(8/auF c.val 8))/auF (c.val/auF c.val 8*(8/auF k.val 8)+k.val/auF k.val 8*(8/auF c.val 8)) (8/auF c.val 8*(8/auF k.val 8))=(c.val+k.val)/auF (c.val+k.val) 8 /\
  8/auF c.val 8*(8/auF k.val 8)/auF (c.val/auF c.val 8*(8/auF k.val 8)+k.val/auF k.val 8*(8/auF c.val 8)) (8/auF c.val 8*(8/auF k.val 8))=8/auF (c.val+k.val) 8:=by decide +kernel
abbrev eV(c:Nat):FV:=(false,c/auF c 8,8/auF c 8)
theorem ZF(c:Nat):0<8/auF c 8:=Nat.div_pos (Nat.le_of_dvd aU (Nat.gcd_dvd_right c 8)) (Nat.gcd_pos_of_pos_right c aU)
theorem Eo{c k:Nat}(h:c+k<=8):gY (eV c) (eV k)=.ok (eV (c+k)):=by
 obtain⟨i,e2⟩:=aeN ⟨c,by omega⟩ ⟨k,by omega⟩ h;simp only at i e2;have a1:=axT c (auF c 8);have a2:=axT k (auF k 8);have a3:=axT 8 (auF c 8);have a4:=axT 8 (auF k 8);have l:=ZF c;have u:=ZF k;simp only[gY];rw[zE Om Om l,zE Om Om u,Bool.and_self,aD rfl,aD trivial];have b1:c/auF c 8*(8/auF k 8)<=8*8:=awY Om a4;have b2:k/auF k 8*(8/auF c 8)<=8*8:=awY Om a3;have w:8/auF c 8*(8/auF k 8)<=8*8:=awY a3 a4;rw[Mm Om Om,i,e2];rfl
theorem VM:∀(l:N_)(c:Nat),c+l.sum<=8->(l.map eV).foldlM gY (eV c)=.ok (eV (c+l.sum))
 |[],c,_=>rfl
 |k::l,c,h=>by rw[List.sum_cons]at h;rw[avH,List.foldlM_cons,Eo Om,List.sum_cons,<-axG];exact VM l (c+k) Om
theorem aeM:eV 0=(false,0,1):=by decide +kernel
theorem Yu:eV 8=(false,1,1):=by decide +kernel
theorem ahQ(l:N_)(h:l.sum=8):(match qS (l.map eV)with
  | .ok (n,a,b)=>decide (rJ n a b false 1 1=0)
  | .error _=>false)=true:=by
 unfold qS;rw[<-aeM,VM l 0 Om,avA,h,Yu];rfl
def dig(k:Nat):List UInt8:=if k<10 then[UInt8.ofNat (48+k)]else[UInt8.ofNat (48+k/10),UInt8.ofNat (48+k%10)]
def YI:List UInt8->Nat
 |[a]=>a.toNat-48
 |[a,b]=>(a.toNat-48)*10+(b.toNat-48)
 |_=>0
theorem TU{k:Nat}(h:k<100):cL k=dig k:=by
 unfold cL dig;by_cases i:k<10;rw[aD i];exact Lib.decDigits_one i;rw[aB i];exact Lib.decDigits_two i h
theorem Fc:∀k:Fin 100,YI (dig k.val)=k.val/\(dig k.val).length<=2/\((dig k.val).all λc=>iI c.toNat)=true:=by decide +kernel
theorem wy{p:List UInt8}{c:UInt8}{t:List UInt8}(e:p=c::t)(l:gG c.toNat=true)(y:(t.all λc=>iI c.toNat)=true)(A:l'' p<=8){k:Nat}(u:k<100):isName (p++cL k)=true:=by
 obtain⟨-,w,i⟩:=Fc ⟨k,u⟩;simp only at w i;subst e;rw[TU u];show(decide ((c::t++dig k).length<=16)&&gG c.toNat&&(c::t++dig k).all λc=>iI c.toNat)=true;have hi:iI c.toNat=true:=by unfold iI;rw[l];rfl
 rw[bH (by rw[auJ];omega),l,List.all_append,i,axP,y,hi];rfl
theorem ZE{l:List (List UInt8)}(u:∀x∈l,isName x=true)(w:l.Nodup):distinct l=true:=by
 unfold distinct;rw[auX];intro i hi;rw[avM]at hi;have e:l.getD i []=l[i]:=by simp[auM,hi]
 rw[e,u _ (auH hi),auV];have:¬l[i]∈l.take i:=by intro A;obtain⟨j,y,e⟩:=awI A;rw[auU]at y;rw[List.getElem_take]at e;have:=(List.nodup_iff_pairwise_ne.1 w);rw[List.pairwise_iff_getElem]at this;exact this j i Om hi Om e
 simp[this]
theorem UI{l:List (List UInt8)}{g:List UInt8->Nat}(h:∀i (hi:i<l'' l),g l[i]=i):l.Nodup:=by
 rw[List.nodup_iff_pairwise_ne,List.pairwise_iff_getElem];intro i j hi w hlt e;have u:=h i hi;have y:=h j w;rw[e]at u;omega
theorem xZ{l:List (List UInt8)}{p:List UInt8}{c:UInt8}{t:List UInt8}(e:p=c::t)(u:gG c.toNat=true)(y:(t.all λc=>iI c.toNat)=true)(w:l'' p<=8)(E:l'' l<=100)(h:∀i (hi:i<l'' l),l[i]=p++cL i):distinct l=true:=by
 refine ZE ?_ (UI (g:=λs=>YI (s.drop p.length)) ?_);intro x A;obtain⟨i,hi,rfl⟩:=awI A;rw[h i hi];exact wy e u y w Om;intro i hi;rw[h i hi];simp only[List.drop_left];rw[TU Om];exact(Fc ⟨i,by omega⟩).1
structure xM(x:RF):Prop where
 lim:dQ x=true
 ok:x.Ok
theorem SmF.o{x:RF}{a b:Nat}(h:SmF x a b):xM x:=⟨h.lim,h.ok⟩
theorem tR:SmF mD 0 1:=SmF.mk' (a:=0) (b:=1) aU aU aU
theorem wE(l:N_)(a:Nat):xM (gW l a).1/\bW (gW l a).1=true:=by
 have i:=cM l (show 0<6 by decide) a;have u:=cM l (show 0<8 by decide) (aI l 6 a).2;have:=SmF.mk' (a:=1+(aI l 6 a).1) (b:=1+(aI l 8 (aI l 6 a).2).1) Om Om Om;exact⟨this.o,this.AI Om⟩
theorem X3(l:N_)(i j a:Nat):xM (kW l i j a).1/\(j=i->bW (kW l i j a).1=false)/\(j=i+1->bW (kW l i j a).1=true):=by
 unfold kW;by_cases u:j=i+1;rw[aD u];exact⟨(wE l a).1,λh=>by omega,λ_=>(wE l a).2⟩;rw[aB u];by_cases w:j=i;rw[aD w];exact⟨tR.o,λ_=>tR.zero,λh=>absurd h u⟩;rw[aB w];simp only;split;exact⟨(wE l _).1,λh=>absurd h w,λh=>absurd h u⟩;exact⟨tR.o,λh=>absurd h w,λh=>absurd h u⟩
theorem M7(l:N_)(i a:Nat):∀n,(fC l i a n).1.length=n/\∀j (u:j<(fC l i a n).1.length),xM (fC l i a n).1[j]/\(j=i->bW (fC l i a n).1[j]=false)/\(j=i+1->bW (fC l i a n).1[j]=true)
 |0=>⟨rfl,λj u=>absurd u (by simp[fC])⟩
 |n+1=>by obtain⟨w,y⟩:=M7 l i a n;have e:(fC l i a (n+1)).1=(fC l i a n).1++[(kW l i n (fC l i a n).2).1]:=rfl;rw[e];refine⟨by simp[w],λj u=>?_⟩;by_cases hlt:j<(fC l i a n).1.length;rw[List.getElem_append_left hlt];exact y j hlt;rw[auJ,auS]at u;have:j=n:=Om;subst this;rw[ayY Om];simp only[List.getElem_singleton];exact X3 l i j _
theorem M6(l:N_)(a:Nat):∀n,(mZ l a n).1.length=n/\∀x∈(mZ l a n).1,xM x/\bW x=true
 |0=>⟨rfl,λx i=>by cases i⟩
 |n+1=>by
  obtain⟨u,w⟩:=M6 l a n;have e:(mZ l a (n+1)).1=(mZ l a n).1++[(gW l (mZ l a n).2).1]:=rfl;rw[e];refine⟨by simp[u],λx i=>?_⟩;rw[avX,avN]at i;rcases i with i|rfl
  exact w x i;exact wE l _
theorem Yz(l:N_)(n i a:Nat):xM (gJ l n i a).1/\(i+1=n->bW (gJ l n i a).1=true):=by
 unfold gJ;by_cases h:i+1<n;simp only[aD h];refine⟨?_,λu=>by omega⟩;split;exact tR.o;exact(wE l a).1;simp only[aB h];exact⟨(wE l a).1,λ_=>(wE l a).2⟩
def aiU(n:Nat)(asU:List (List RF)):Prop:=∀i (hi:i<l'' asU),asU[i].length=n/\∀j (l:j<asU[i].length),xM asU[i][j]/\(j=i->bW asU[i][j]=false)/\(j=i+1->bW asU[i][j]=true)
def aiR(n:Nat)(exit:List RF):Prop:=∀i (hi:i<l'' exit),xM exit[i]/\(i+1=n->bW exit[i]=true)
structure aqB(n i:Nat)(s:IP)(cs:N_):Prop where
 start:s.start=cs.map λc=>mkT ((c:Nat):Int) ((8:Nat):Int)
 lens:l'' s.exit=i/\l'' s.asU=i/\l'' cs=i
 left:cs.sum+s.left=8/\(i=n->0<n->s.left=0)
 exit:aiR n s.exit
 asU:aiU n s.asU
theorem wM{α:Type}{P:Nat->α->Prop}{xs:List α}{x:α}(h:∀i (hi:i<l'' xs),P i xs[i])(l:P xs.length x):∀i (hi:i<(xs++[x]).length),P i (xs++[x])[i]:=by
 intro i hi;by_cases hlt:i<l'' xs;rw[List.getElem_append_left hlt];exact h i hlt;rw[auJ,auS]at hi;have:i=l'' xs:=Om;subst this;rw[ayY Om];simpa using l
theorem zt(l:N_)(n a:Nat):∀i,i<=n->∃cs,aqB n i (iT l n a i) cs
 |0,_=>⟨[],rfl,⟨rfl,rfl,rfl⟩,⟨rfl,λh u=>by omega⟩,λi hi=>absurd hi (by simp[iT]),λi hi=>absurd hi (by simp[iT])⟩
 |i+1,hi=>by
  obtain⟨cs,y,⟨u,w,A⟩,⟨h5,-⟩,E,h7⟩:=zt l n a i Om;generalize H:iT l n a i=s at *
  have e:iT l n a (i+1)=⟨s.start++[mkT ((fA l n i s).1:Nat) 8],s.exit++[(gJ l n i (fA l n i s).2).1],s.asU++[(fC l i (gJ l n i (fA l n i s).2).2 n).1],s.left-(fA l n i s).1,(fC l i (gJ l n i (fA l n i s).2).2 n).2⟩:=by simp only[iT,H]
  rw[e];have F:(fA l n i s).1<=s.left/\(i+1=n->(fA l n i s).1=s.left):=by unfold fA;split;exact⟨by have:=cM l (Om:0<s.left+1) s.a;omega,λh=>by omega⟩;exact⟨auG _,λ_=>rfl⟩
  refine⟨cs++[(fA l n i s).1],?_,⟨by simp[u],by simp[w],by simp[A]⟩,⟨?_,λh _=>?_⟩,?_,?_⟩;simp only[y,avD,avH,avY];rfl;simp only[List.sum_append,List.sum_cons,List.sum_nil];omega;have:=F.2 h;simp only;omega;refine wM (P:=λi x=>xM x/\(i+1=n->bW x=true)) E ?_;rw[u];exact Yz l n i _;refine wM (P:=λi (r:List RF)=>l'' r=n/\∀j (J:j<l'' r),xM r[j]/\(j=i->bW r[j]=false)/\(j=i+1->bW r[j]=true)) h7 ?_;rw[w];exact M7 l i _ n
theorem Yw{x:cT}{e r:RF}(i:x.exit=[e])(l:x.asU=[[r]])(u:bW e=true):sN x=true:=by
 unfold sN;rw[i];show((dV x 2).all id)=true;simp only[dV,dT,nM,dH,i,l,avG,avS,List.getD_cons_zero,avH,avY,u];cases bW r<;>rfl
theorem US{x:cT}{A E i l u w:RF}(F:x.exit=[A,E])(H:x.asU=[[i,l],[u,w]])(J:bW E=true)(K:bW l=true)(a b:Bool) :
  ∃c,dT x [a,b] 2=[c,true]/\(b=true->c=true)/\(a=true->c=true):=by
 have M:nM x [a,b] 0=[((a||bW A)||bW i&&(a||bW A))||b,b]:=by unfold nM;rw[F,H];simp only[List.getD_cons_zero,avH,avQ];generalize(a||bW A)=c;show dH [c,b] 0 [i,l] 2=_;have:dH [c,b] 0 [i,l] 1=[c||bW i&&c,b]:=rfl;show(let y:=dH [c,b] 0 [i,l] 1;y.set 0 (y.getD 0 false||([i,l].map bW).getD 1 false&&y.getD 1 false))=_;rw[this];show[(c||bW i&&c)||(bW l&&b),b]=_;rw[K,auV]
 have N:∀c,nM x [c,b] 1=[c,true]:=by intro c;unfold nM;rw[F,H];have:dH [c,true] 1 [u,w] 1=[c,true||bW u&&c]:=rfl;show dH [c,b||bW E] 1 [u,w] 2=_;rw[J,Bool.or_true];show(let y:=dH [c,true] 1 [u,w] 1;y.set 1 (y.getD 1 false||([u,w].map bW).getD 1 false&&y.getD 1 false))=_;rw[this,Bool.true_or];show[c,true||bW w&&true]=_;rw[Bool.true_or]
 refine⟨_,by rw[show dT x [a,b] 2=nM x (nM x [a,b] 0) 1 from rfl,M,N],?_,?_⟩;rintro rfl;rw[Bool.or_true];rintro rfl;simp
theorem Yx{x:cT}{u J E l F H:RF}(i:x.exit=[u,J])(w:x.asU=[[E,l],[F,H]])(y:bW J=true)(A:bW l=true):sN x=true:=by
 unfold sN;rw[i];show((dV x 3).all id)=true;have e:∀r,dV x (r+1)=dT x (dV x r) 2:=λr=>by rw[dV,i];rfl
 have u:dV x 0=[false,false]:=by rw[dV,i];rfl
 obtain⟨K,k1,-,-⟩:=US i w y A false false;obtain⟨M,k2,S,-⟩:=US i w y A K true;obtain⟨Q,N,O,-⟩:=US i w y A M true;rw[e,e,e,u,k1,k2,N,O rfl];rfl
theorem Gr{c:Nat}:∀{cs:N_},c∈cs->c<=cs.sum
 |k::t,h=>by
  rw[List.sum_cons];rcases auQ.1 h with rfl|h
  omega;have:=Gr h;omega
theorem XO{α:Type}{l:List α}(h:l'' l=2):∃a b,l=[a,b]:=by
 match l,h with
 |[a,b],_=>exact⟨a,b,rfl⟩
theorem akZ(cs:N_)(h:cs.sum=8):(match qS ((cs.map λc=>mkT ((c:Nat):Int) ((8:Nat):Int)).map RF.v)with
  | .ok (n,a,b)=>decide (rJ n a b false 1 1=0)
  | .error _=>false)=true:=by
 have l:∀c∈cs,c<=8:=λc i=>by have:=Gr i;omega
 have e:((cs.map λc=>mkT ((c:Nat):Int) ((8:Nat):Int)).map RF.v)=cs.map eV:=by rw[axM];refine axL λc i=>?_;have:=l c i;exact(SmF.mk' (a:=c) (b:=8) Om aU aU).v
 rw[e];exact ahQ cs h
theorem EI{α:Type}{p:α->Bool}{l:List α}(h:∀i (hi:i<l'' l),p l[i]=true):l.all p=true:=by
 rw[auX];intro x u;obtain⟨i,hi,rfl⟩:=awI u;exact h i hi
theorem Py(l:N_)(a:Nat)(O:List UInt8):mW { (uT l 2 a).1 with name:=O }=true/\({ (uT l 2 a).1 with name:=O }:cT).Ok:=by
 obtain⟨n,hn⟩:∃n,n=1+(aI l 2 a).1:=⟨_,rfl⟩;have β:n=1\/n=2:=by have:=cM l (show 0<2 by decide) a;omega
 obtain⟨cs,U,⟨h2,h3,h4⟩,⟨h5,W⟩,Q,h7⟩:=zt l n (aI l 2 a).2 n (auG _);generalize hs:iT l n (aI l 2 a).2 n=s at *
 have e:({ (uT l 2 a).1 with name:=O }:cT)=⟨O,s.start,s.asU,s.exit⟩:=by simp only[uT,<-hn,hs]
 rw[e];have N:cs.sum=8:=by have:=W rfl Om;omega
 have α:∀c∈cs,c<=8:=λc Y=>by have:=Gr Y;omega
 have w:∀x∈s.start,xM x:=by intro x u;rw[U]at u;obtain⟨c,Y,rfl⟩:=auT.1 u;have:=α c Y;exact(SmF.mk' (a:=c) (b:=8) Om aU aU).o
 have ε:l'' s.start=n:=by rw[U,auD,h4]
 have A:sN ⟨O,s.start,s.asU,s.exit⟩=true:=by
  rcases β with rfl|rfl
  obtain⟨e,F⟩:=List.length_eq_one_iff.1 h2;obtain⟨κ,y⟩:=List.length_eq_one_iff.1 h3;have γ:=(h7 0 Om).1;obtain⟨r,M⟩:=List.length_eq_one_iff.1 γ;have u:=(Q 0 Om).2 rfl;simp only[y,List.getElem_cons_zero]at M;simp only[F,List.getElem_cons_zero]at u;exact Yw F (by rw[y,M]) u;obtain⟨e0,e1,F⟩:=XO h2;obtain⟨r0,r1,y⟩:=XO h3;have J:=(h7 0 Om).1;have K:=(h7 1 Om).1;have u:=(Q 1 Om).2 rfl;have hy:=((h7 0 Om).2 1 Om).2.2 rfl;simp only[F,List.getElem_cons_succ,List.getElem_cons_zero]at u;simp only[y,List.getElem_cons_succ,List.getElem_cons_zero]at J K hy;obtain⟨ζ,η,E⟩:=XO J;obtain⟨θ,ι,V⟩:=XO K;simp only[E,List.getElem_cons_succ,List.getElem_cons_zero]at hy;exact Yx F (by rw[y,E,V]) u hy
 constructor;unfold mW;simp only[auI];refine⟨⟨⟨⟨⟨⟨⟨?_,?_⟩,?_⟩,?_⟩,?_⟩,?_⟩,?_⟩,A⟩;rw[within_iff];omega;exact bH Om;exact bH Om;exact auX.2 λx u=>(w x u).lim;exact EI λi hi=>(Q i hi).1.lim;rw[auX];intro i hi;rw[avM]at hi;obtain⟨k1,k2⟩:=h7 i hi;have eg:s.asU.getD i []=s.asU[i]:=by simp[auM,hi]
 rw[eg,auI,auI];refine⟨⟨bH Om,EI λj Z=>(k2 j Z).1.lim⟩,?_⟩;have H:i<s.asU[i].length:=Om;rw[getD_at H,(k2 i H).2.1 rfl];rfl;rw[U];exact akZ cs N;have S:∀m:Nat,m<=2->m<=9223372036854775807:=λm hm=>by omega
 have δ:n<=2:=Om;refine⟨⟨?_,λx u=>(w x u).ok⟩,⟨?_,λx u=>?_⟩,?_,λr y=>⟨?_,λx u=>?_⟩⟩;exact S s.start.length Om;exact S s.exit.length Om;obtain⟨i,hi,rfl⟩:=awI u;exact(Q i hi).1.ok;exact S s.asU.length Om;obtain⟨i,hi,rfl⟩:=awI y;have:=(h7 i hi).1;exact S (s.asU[i]'hi).length Om;obtain⟨i,hi,rfl⟩:=awI y;obtain⟨j,Z,rfl⟩:=awI u;exact((h7 i hi).2 j Z).1.ok
theorem ZP(l:N_)(a:Nat):∀n,(jE l a n).1.length=n/\∀i (hi:i<(jE l a n).1.length),(jE l a n).1[i].name=[108,97,119]++cL i/\mW (jE l a n).1[i]=true/\(jE l a n).1[i].Ok
 |0=>⟨rfl,λi hi=>absurd hi (by simp[jE])⟩
 |n+1=>by obtain⟨u,w⟩:=ZP l a n;have e:(jE l a (n+1)).1=(jE l a n).1++[{ (uT l 2 (jE l a n).2).1 with name:=[108,97,119]++cL n }]:=rfl;rw[e];refine⟨by simp[u],wM (P:=λi (x:cT)=>x.name=[108,97,119]++cL i/\mW x=true/\x.Ok) w ?_⟩;rw[u];exact⟨rfl,Py l _ _⟩
theorem RX(l:N_)(asW:Nat)(y:0<asW)(a:Nat):∀n,(fR l asW a n).1.length=n/\∀i (hi:i<(fR l asW a n).1.length),(fR l asW a n).1[i].name=[109]++cL i/\∃e p w:Nat,(fR l asW a n).1[i].atF=e/\1<=e/\e<=4/\(fR l asW a n).1[i].port=p/\1<=p/\p<=8/\(fR l asW a n).1[i].law=w/\w<asW
 |0=>⟨rfl,λi hi=>absurd hi (by simp[fR])⟩
 |n+1=>by
  obtain⟨u,A⟩:=RX l asW y a n;obtain⟨s,E⟩:∃s,s=fR l asW a n:=⟨_,rfl⟩;have e:(fR l asW a (n+1)).1=(fR l asW a n).1++[⟨[109]++cL n,(1+(aI l 4 s.2).1:Nat),(1+(aI l 8 (aI l 4 s.2).2).1:Nat),((aI l asW (aI l 8 (aI l 4 s.2).2).2).1:Nat)⟩]:=by rw[E];rfl
  rw[e];refine⟨by simp[u],wM (P:=λi (x:dN)=>x.name=[109]++cL i/\∃e p w:Nat,x.atF=e/\1<=e/\e<=4/\x.port=p/\1<=p/\p<=8/\x.law=w/\w<asW) A ?_⟩;rw[u];have k1:=cM l (show 0<4 by decide) s.2;have k2:=cM l (show 0<8 by decide) (aI l 4 s.2).2;have F:=cM l y (aI l 8 (aI l 4 s.2).2).2;exact⟨rfl,_,_,_,rfl,by omega,by omega,rfl,by omega,by omega,rfl,F⟩
theorem DX(l:N_)(a:Nat):∃n:Nat,(jS l a).1=n/\n<=3:=by
 have h:=cM l (show 0<3 by decide) (aI l 3 a).2;unfold jS;simp only;split;exact⟨1+(aI l 3 (aI l 3 a).2).1,rfl,by omega⟩;exact⟨0,rfl,by omega⟩
theorem fV{n lo hi:Int}(i:lo<=n)(l:n<=hi):within n lo hi=true:=within_iff.2 ⟨i,l⟩
theorem akH{E:List UInt8}{k m q s1 s2 s3 s4 g h:Nat}{ms:I_}{y:List RF}{mc:Nat}(H:1<=k)(J:k<=2)(Y:m<=2)(M:k<=q)(N:q<=k+m)(O:s1<=3)(F:s2<=3)(Q:s3<=3)(S:s4<=3)(V:g<=8)(W:h<=4)
  (w:l'' y=max m 1) (u:∀x∈y,xM x/\bW x=true)
  (K:mc<=2) (i:∃f:Nat,f<mc/\(ms=[(f:Int)]\/mc=2/\ms=[(f:Int),1-(f:Int)])) :
  lL mc ⟨E,(k:Nat),(m:Nat),(q:Nat),0,(s1:Nat),(s2:Nat),(s3:Nat),(s4:Nat),ms,y,mkT (g:Nat) ((8:Nat):Int),mkT (h:Nat) ((1:Nat):Int)⟩=true /\
  (⟨E,(k:Nat),(m:Nat),(q:Nat),0,(s1:Nat),(s2:Nat),(s3:Nat),(s4:Nat),ms,y,mkT (g:Nat) ((8:Nat):Int),mkT (h:Nat) ((1:Nat):Int)⟩:cJ).Ok:=by
 have G:=SmF.mk' (a:=g) (b:=8) Om aU aU;have Z:=SmF.mk' (a:=h) (b:=1) Om aU aU;obtain⟨f,U,i⟩:=i;constructor;unfold lL PA HW;simp only[auI,axP,List.all_nil,awP];refine⟨⟨⟨⟨⟨⟨⟨⟨fV Om Om,fV Om Om⟩,bH Om⟩,fV Om Om⟩,rfl⟩,fV Om Om,fV Om Om,fV Om Om,fV Om Om,fV Om Om⟩,?_⟩,⟨⟨⟨⟨bH (by rw[w];omega),?_⟩,G.lim⟩,G.one Om⟩,Z.lim⟩⟩,?_⟩;rcases i with e|⟨-,e⟩<;>rw[e]<;>rfl
 rw[auX];intro x l;rw[(u x l).1.lim,(u x l).2];rfl;rw[auX];rcases i with rfl|⟨rfl,rfl⟩
 intro j A;simp only[avG,avS,avM]at A;have:j=0:=Om;subst this;rw[auI];exact⟨fV bC (by simp;omega),by simp⟩;intro j A;simp only[avG,avS,avM]at A;have:j=0\/j=1:=Om;rcases this with rfl|rfl
 rw[auI];exact⟨fV bC (by simp;omega),by simp⟩;rw[auI];refine⟨fV (by simp;omega) (by simp;omega),?_⟩;have:¬(1-(f:Int)=f):=Om;simp[this];refine⟨by unfold dS;constructor<;>simp only<;>omega,by unfold dS;constructor<;>simp only<;>omega,by unfold dS;constructor<;>simp only<;>omega,?_,?_,⟨?_,λx l=>(u x l).1.ok⟩,G.ok,Z.ok⟩;show ms.length<=_;rcases i with e|⟨-,e⟩<;>rw[e]<;>simp
 show ∀x∈ms,dS x;unfold dS;rcases i with e|⟨F,e⟩<;>rw[e]<;>intro x l<;>simp only[auQ,avE,or_false]at l
 subst l;omega;rcases l with rfl|rfl<;>omega
 show y.length<=_;rw[w];omega
theorem Ci(l:N_){mc:Nat}(F:0<mc)(H:mc<=2)(i a:Nat):(pH l mc i a).1.name=[112]++cL i/\lL mc (pH l mc i a).1=true/\(pH l mc i a).1.Ok:=by
 refine⟨rfl,?_⟩;have O:=cM l (show 0<2 by decide) a;have Q:=cM l (show 0<3 by decide) (aI l 2 a).2;have N:=cM l (show 0<4 by decide) (aI l 3 (aI l 2 a).2).2;unfold pH;simp only;generalize aI l 2 a=k at *
 generalize aI l 3 k.2=m at *
 generalize aI l 4 m.2=h at *
 have S:=cM l (Om:0<m.1+1) h.2;generalize aI l (m.1+1) h.2=q at *
 obtain⟨r1,r2⟩:=M6 l q.2 (max m.1 1);generalize mZ l q.2 (max m.1 1)=r at *
 have M:=cM l (show 0<9 by decide) r.2;generalize aI l 9 r.2=g at *
 obtain⟨U,y,b1⟩:=DX l g.2;generalize jS l g.2=s1 at *
 obtain⟨V,e2,b2⟩:=DX l s1.2;generalize jS l s1.2=s2 at *
 obtain⟨W,A,u⟩:=DX l s2.2;generalize jS l s2.2=s3 at *
 obtain⟨Y,E,w⟩:=DX l s3.2;generalize jS l s3.2=s4 at *
 have J:=cM l F s4.2;generalize aI l mc s4.2=f at *
 generalize aI l 2 f.2=b at *
 rw[y,e2,A,E];refine akH Om Om Om Om Om b1 b2 u w Om Om r1 r2 H ⟨f.1,J,?_⟩;split;rename_i K;split;exact .inr ⟨by omega,rfl⟩;exact .inl rfl;exact .inl rfl
theorem HV(l:N_){mc:Nat}(u:0<mc)(w:mc<=2)(a:Nat):∀n,(eM l mc a n).1.length=n/\∀i (hi:i<(eM l mc a n).1.length),(eM l mc a n).1[i].name=[112]++cL i/\lL mc (eM l mc a n).1[i]=true/\(eM l mc a n).1[i].Ok
 |0=>⟨rfl,λi hi=>absurd hi (by simp[eM])⟩
 |n+1=>by obtain⟨k1,k2⟩:=HV l u w a n;have e:(eM l mc a (n+1)).1=(eM l mc a n).1++[(pH l mc n (eM l mc a n).2).1]:=rfl;rw[e];refine⟨by simp[k1],wM (P:=λi (x:cJ)=>x.name=[112]++cL i/\lL mc x=true/\x.Ok) k2 ?_⟩;rw[k1];exact Ci l u w n _
theorem MC(l:N_){pc:Nat}(u:0<pc)(a:Nat):∀n,(fU l pc a n).1.length=n/\∀i (hi:i<(fU l pc a n).1.length),(fU l pc a n).1[i].name=[118]++cL i/\∃p:Nat,(fU l pc a n).1[i].atB=p/\p<pc
 |0=>⟨rfl,λi hi=>absurd hi (by simp[fU])⟩
 |n+1=>by obtain⟨k1,k2⟩:=MC l u a n;have e:(fU l pc a (n+1)).1=(fU l pc a n).1++[⟨[118]++cL n,((aI l pc (fU l pc a n).2).1:Nat)⟩]:=rfl;rw[e];refine⟨by simp[k1],wM (P:=λi (x:dW)=>x.name=[118]++cL i/\∃p:Nat,x.atB=p/\p<pc) k2 ?_⟩;rw[k1];exact⟨rfl,_,rfl,cM l u _⟩
abbrev lvs(ds:List cQ):I_:=ds.map cQ.level
def apZ(ds:List cQ)(i:Nat)(d:cQ):Prop:=∃l p u:Nat,d.name=[oL l]++cL (i+1)/\d.level=l/\1<=l/\l<=4/\d.parent=p/\p<=i/\(lvs ds)[p]?=some ((l:Int)-1)/\d.atJ=u/\1<=u/\u<=16/\xM d.atE
def aiQ(ds:List cQ)(mc i:Nat)(d:eE):Prop:=∃m c:Nat,d.name=[100]++cL i/\d.model=m/\m<mc/\d.machine=c/\(lvs ds)[c]?=some 4
structure GV(mc asP:Nat)(s:GS):Prop where
 len:l'' s.asY<=35
 atI:l'' s.atI<=asP
 root:s.asY[0]?=some nI
 dom:∀i (hi:i+1<l'' s.asY),apZ s.asY i s.asY[i+1]
 drv:∀i (hi:i<l'' s.atI),aiQ s.asY mc i s.atI[i]
theorem GV.a{mc asP:Nat}{s:GS}(h:GV mc asP s)(x:Nat):GV mc asP { s with a:=x }:=⟨h.len,h.atI,h.root,h.dom,h.drv⟩
theorem Ga(l:N_){mc asP dom:Nat}(w:0<mc){s:GS}(h:GV mc asP s)(A:(lvs s.asY)[dom]?=some 4):∀n,GV mc asP (jQ l mc asP dom s n)/\(jQ l mc asP dom s n).asY=s.asY
 |0=>⟨h,rfl⟩
 |n+1=>by
  obtain⟨u,y⟩:=Ga l w h A n;simp only[jQ];generalize jQ l mc asP dom s n=t at *
  split;rename_i hlt;refine⟨⟨u.len,by simp only[auJ,auS];omega,u.root,u.dom,?_⟩,y⟩;refine wM (P:=λi d=>aiQ t.asY mc i d) u.drv ?_;exact⟨_,dom,rfl,rfl,cM l w _,rfl,by rw[y];exact A⟩;exact⟨u,y⟩
theorem ES{ds:List cQ}{p:Nat}{x:Int}{t:List cQ}(h:(lvs ds)[p]?=some x):(lvs (ds++t))[p]?=some x:=by
 unfold lvs at *
 rw[avD,awR];exact h;exact(avP.1 h).1
theorem aeL(l:N_){mc asP dom level:Nat}{s:GS}(h:GV mc asP s)(F:1<=level)(Q:level<=4)(K:(lvs s.asY)[dom]?=some ((level:Int)-1))(M:sP asP s=false) :
  GV mc asP (pC l level dom s)/\(∃t,(pC l level dom s).asY=s.asY++t)/\(pC l level dom s).asY.length=l'' s.asY+1/\(lvs (pC l level dom s).asY)[l'' s.asY]?=some (level:Int):=by
 unfold sP at M;simp only[Bool.or_eq_false_iff,decide_eq_false_iff_not]at M;have O:dom<l'' s.asY:=by
  have:=(avP.1 K).1
  rwa[auD]at this
 have U:=cM l (show 0<16 by decide) s.a;have S:=cM l (show 0<6 by decide) (aI l 3 (aI l 16 s.a).2).2;unfold pC;simp only;generalize aI l 16 s.a=u at *
 generalize aI l 3 u.2=t at *
 generalize aI l 6 t.2=k at *
 have H:xM (if t.1=0 then(mkT 1 ((2+k.1:Nat):Int),k.2)else(mD,t.2)).1:=by split;exact(SmF.mk' (a:=1) (b:=2+k.1) Om Om Om).o;exact tR.o
 generalize(if t.1=0 then(mkT 1 ((2+k.1:Nat):Int),k.2)else(mD,t.2))=sh at *
 refine⟨⟨by simp only[auJ,auS];omega,h.atI,?_,?_,λi hi=>?_⟩,⟨_,rfl⟩,by simp,?_⟩;rw[awR Om];exact h.root;intro i hi;simp only[auJ,auS]at hi;by_cases hlt:i+1<l'' s.asY;rw[List.getElem_append_left hlt];obtain⟨J,p,v,w,y,A,E,h5,N,h7,h8⟩:=h.dom i hlt;exact⟨J,p,v,w,y,A,E,h5,N,ES h7,h8⟩;have:i+1=l'' s.asY:=Om;rw[ayY Om];simp only[List.getElem_singleton];exact⟨level,dom,1+u.1,by rw[this],rfl,F,Q,rfl,by omega,ES K,rfl,by omega,by omega,H⟩;obtain⟨m,c,w,y,A,E,h5⟩:=h.drv i hi;exact⟨m,c,w,y,A,E,ES h5⟩;unfold lvs;rw[avD,awH (by rw[auD];exact auG _),auD,awU];rfl
theorem Gb(l:N_){mc asP dom level:Nat}(y:1<=level)(J:level<=4){rec:Nat->GS->GS}
  (i:∀d t,GV mc asP t->(lvs t.asY)[d]?=some (level:Int)->GV mc asP (rec d t)/\∃u,(rec d t).asY=t.asY++u) {s:GS} (h:GV mc asP s) (H:(lvs s.asY)[dom]?=some ((level:Int)-1)) :
  ∀n,GV mc asP (gS l level asP dom rec s n)/\∃u,(gS l level asP dom rec s n).asY=s.asY++u
 |0=>⟨h,[],by simp[gS]⟩
 |n+1=>by
  obtain⟨F,u,A⟩:=Gb l y J i h H n;simp only[gS];generalize gS l level asP dom rec s n=t at *
  split;exact⟨F,u,A⟩;rename_i K;have E:(lvs t.asY)[dom]?=some ((level:Int)-1):=by rw[A];exact ES H
  obtain⟨k1,⟨v,k2⟩,M,N⟩:=aeL l F y J E (by simpa using K);obtain⟨O,w,Q⟩:=i ((pC l level dom t).asY.length-1) (pC l level dom t) k1 (by rw[M,Nat.add_sub_cancel];exact N);exact⟨O,u++(v++w),by rw[Q,k2,A];simp⟩
theorem Gc(l:N_){mc asP:Nat}(i:0<mc):∀(k:Nat),k<=4->∀(dom:Nat){s:GS},GV mc asP s->(lvs s.asY)[dom]?=some (4-(k:Int))->GV mc asP (fK l mc asP k dom s)/\∃u,(fK l mc asP k dom s).asY=s.asY++u
 |0,_,dom,s,h,w=>by simp only[fK];obtain⟨A,E⟩:=Ga l i (h.a (aI l 2 s.a).2) w (1+(aI l 2 s.a).1);exact⟨A,[],by rw[E];simp⟩
 |k+1,H,dom,s,h,w=>by simp only[fK];refine Gb l Om Om (λd t F y=>Gc l i k Om d F ?_) (h.a (aI l 2 s.a).2) ?_ _;rw[y];congr 1;omega;rw[w];congr 1;omega
theorem zu(i:Nat)(l:1<=i)(u:i<=4):gG (oL i).toNat=true/\oL i≠100:=by
 have:i=1\/i=2\/i=3\/i=4:=Om;rcases this with rfl|rfl|rfl|rfl<;>decide
theorem se(c:UInt8){k:Nat}(i:k<100):YI (([c]++cL k).drop 1)=k:=by
 show YI (cL k)=k;rw[TU i];exact(Fc ⟨k,i⟩).1
theorem Kq{mc asP:Nat}{s:GS}(h:GV mc asP s)(N:asP<=60):distinct ((s.asY.drop 1).map cQ.name++s.atI.map eE.name)=true:=by
 have F:∀i (hi:i<((s.asY.drop 1).map cQ.name).length),∃l:Nat,1<=l/\l<=4/\((s.asY.drop 1).map cQ.name)[i]=[oL l]++cL (i+1):=by intro i hi;rw[auD,awM]at hi;obtain⟨l,p,u,w,-,J,E,-⟩:=h.dom i Om;refine⟨l,J,E,?_⟩;rw[awA,List.getElem_drop];simp only[Nat.add_comm 1 i];exact w
 have hB:∀i (hi:i<(s.atI.map eE.name).length),(s.atI.map eE.name)[i]=[100]++cL i:=by intro i hi;rw[auD]at hi;obtain⟨m,c,w,-⟩:=h.drv i hi;rw[awA];exact w
 have O:((s.asY.drop 1).map cQ.name).length<=40:=by rw[auD,awM];have:=h.len;omega
 have Q:(s.atI.map eE.name).length<=60:=by rw[auD];have:=h.atI;omega
 generalize(s.asY.drop 1).map cQ.name=A at *
 generalize s.atI.map eE.name=B at *
 refine ZE ?_ ?_;intro x hx;rcases avX.1 hx with hx|hx
 obtain⟨i,hi,rfl⟩:=awI hx;obtain⟨l,w,E,e⟩:=F i hi;rw[e];exact wy rfl (zu l w E).1 rfl bC Om;obtain⟨i,hi,rfl⟩:=awI hx;rw[hB i hi];exact wy rfl aU rfl bC Om;rw[axR];refine⟨?_,?_,?_⟩;refine UI (g:=λs=>YI (s.drop 1)-1) λi hi=>?_;obtain⟨l,-,-,e⟩:=F i hi;rw[e,se _ Om];omega;refine UI (g:=λs=>YI (s.drop 1)) λi hi=>?_;rw[hB i hi];exact se _ Om;intro x hx y M e;obtain⟨i,hi,rfl⟩:=awI hx;obtain⟨j,K,rfl⟩:=awI M;obtain⟨l,w,E,H⟩:=F i hi;rw[H,hB j K]at e;exact(zu l w E).2 (List.cons.inj e).1
theorem aaX{mc asP a:Nat}:GV mc asP ⟨[nI],[],a⟩:=
 ⟨by simp,auK _,rfl,λi hi=>absurd hi bC,λi hi=>absurd hi bC⟩
theorem afK{mc asP:Nat}{s:GS}(h:GV mc asP s)(f:aH)(F:f.asS=s.asY):rE f=true:=by
 have A:=h.root;have y:=h.dom;unfold rE;rw[F];cases l:s.asY with
 |nil=>rw[l]at A;cases A
 |cons r t=>
  rw[l]at A;have:r=nI:=by simpa using A
  subst this;show HM f nI t=true;unfold HM;simp only[auI];refine⟨⟨⟨⟨⟨⟨rfl,rfl⟩,rfl⟩,rfl⟩,tR.lim⟩,by rw[show nI.atE=mD from rfl,tR.zero];rfl⟩,?_⟩;rw[auX];intro i hi;rw[avM]at hi;rw[auP hi];obtain⟨K,p,u,H,E,M,N,h5,O,h7,h8,Q,J,w⟩:=y i (by rw[l];simp;omega);have e:s.asY[i+1]'(by rw[l];simp;omega)=t[i]:=by simp[l]
  rw[e]at H E h5 h8 w;show NH f i t[i]=true;unfold NH;simp only[auI];refine⟨⟨⟨⟨?_,?_⟩,?_⟩,?_⟩,w.lim⟩;rw[h5];exact fV Om Om;rw[h5,E,F,awG,auM,h7,ti Om Om];exact bH rfl;rw[E];exact fV Om Om;rw[h8];exact fV Om Om
theorem TM(l:N_)(asP asR a:Nat)(hd:asP<=24)(hv:asR<=12) :
  dR (hZ l asP asR a).1=true/\(hZ l asP asR a).1.Ok:=by
 unfold hZ;simp only;have he:=cM l (show 0<2 by decide) a;generalize aI l 2 a=e at *
 have γ:=cM l (show 0<2 by decide) e.2;generalize aI l 2 e.2=J at *
 obtain⟨w1,Y⟩:=ZP l J.2 (1+J.1);generalize jE l J.2 (1+J.1)=asW at *
 have δ:=cM l (show 0<2 by decide) asW.2;generalize aI l 2 asW.2=F at *
 obtain⟨m1,m2⟩:=RX l (1+J.1) Om F.2 (1+F.1);generalize fR l (1+J.1) F.2 (1+F.1)=asQ at *
 obtain⟨G,-⟩:=Gc l (mc:=1+F.1) (asP:=asP) Om 4 aU 0 (s:=⟨[nI],[],asQ.2⟩) aaX rfl;generalize fK l (1+F.1) asP 4 0 ⟨[nI],[],asQ.2⟩=g at *
 have ε:=cM l (show 0<2 by decide) g.a;generalize aI l 2 g.a=pl at *
 obtain⟨p1,V⟩:=HV l (mc:=1+F.1) Om Om pl.2 (1+pl.1);generalize eM l (1+F.1) pl.2 (1+pl.1)=pols at *
 have ζ:=cM l (Om:0<asR+1) pols.2;generalize aI l (asR+1) pols.2=M at *
 obtain⟨v1,W⟩:=MC l (pc:=1+pl.1) Om M.2 M.1;generalize fU l (1+pl.1) M.2 M.1=vols at *
 have g1:=G.len;have g2:=G.atI;have U:∀f:aH,f.asS=g.asY->rE f=true:=λf hf=>afK G f hf;have w:∀n:Nat,n<=1000->n<=9223372036854775807:=λn h=>by omega
 have H:∀x∈g.atI,∃m c:Nat,x.model=m/\m<1+F.1/\x.machine=c/\c<l'' g.asY/\(lvs g.asY)[c]?=some 4:=by
  intro x A;obtain⟨i,hi,rfl⟩:=awI A;obtain⟨m,c,-,S,Z,h4,h5⟩:=G.drv i hi;refine⟨m,c,S,Z,h4,?_,h5⟩;have:=(avP.1 h5).1
  rwa[auD]at this
 constructor;unfold dR;rw[U _ rfl];simp only[auI,awP];refine⟨⟨?_,⟨⟨⟨⟨?_,?_⟩,?_⟩,?_⟩,?_⟩⟩,⟨⟨⟨?_,?_⟩,Kq G Om⟩,?_⟩,?_⟩;unfold pV;simp only[auI];exact⟨⟨⟨⟨⟨⟨fV Om Om,bH Om⟩,bH Om⟩,bH Om⟩,bH Om⟩,bH Om⟩,bH Om⟩;exact EI λi hi=>(Y i hi).2.1;refine EI λi hi=>?_;obtain⟨-,x,y,z,E,e2,K,N,O,e6,e7,e8⟩:=m2 i hi;unfold mX;simp only[auI];rw[E,N,e7,w1];exact⟨⟨fV Om Om,fV Om Om⟩,fV Om Om⟩;rw[auX];intro x A;obtain⟨m,c,E,e2,K,N,O⟩:=H x A;unfold kT;simp only[auI];rw[E,K,m1,awG,auM,O];exact⟨⟨fV Om Om,fV Om Om⟩,rfl⟩;refine EI λi hi=>?_;rw[m1];exact(V i hi).2.1;refine EI λi hi=>?_;obtain⟨-,p,E,e2⟩:=W i hi;unfold rR;rw[E,p1];exact fV Om Om;refine xZ (p:=[108,97,119]) rfl aU aU aU (by rw[auD];omega) λi hi=>?_;rw[awA];exact(Y i (by simpa using hi)).1;refine xZ (p:=[109]) rfl aU aU aU (by rw[auD];omega) λi hi=>?_;rw[awA];exact(m2 i (by simpa using hi)).1;refine xZ (p:=[112]) rfl aU aU aU (by rw[auD];omega) λi hi=>?_;rw[awA];exact(V i (by simpa using hi)).1;refine xZ (p:=[118]) rfl aU aU aU (by rw[auD];omega) λi hi=>?_;rw[awA];exact(W i (by simpa using hi)).1;refine⟨w asW.1.length Om,w asQ.1.length Om,w g.asY.length Om,w g.atI.length Om,w pols.1.length Om,w vols.1.length Om,?_,?_,?_,?_,?_⟩;intro x A;obtain⟨i,hi,rfl⟩:=awI A;exact(Y i hi).2.2;intro x A;obtain⟨i,hi,rfl⟩:=awI A;rcases axN i with rfl|hp
 have:g.asY[0]=nI:=by have:=G.root;rw[auP hi]at this;exact awN.inj this
 rw[this];exact⟨tR.ok,by unfold dS;decide,by unfold dS;decide⟩;obtain⟨k,rfl⟩:∃k,i=k+1:=⟨i-1,by omega⟩;obtain⟨η,p,u,h1,S,Z,h4,h5,h6,h7,h8,h9,α,Q⟩:=G.dom k hi;have β:k+1<l'' g.asY:=hi;rw[S,h5];exact⟨Q.ok,by unfold dS;omega,by unfold dS;omega⟩;intro x A;obtain⟨m,c,E,e2,K,N,O⟩:=H x A;rw[E,K];unfold dS;omega;intro x A;obtain⟨i,hi,rfl⟩:=awI A;exact(V i hi).2.2;intro x A;obtain⟨i,hi,rfl⟩:=awI A;obtain⟨-,p,E,e2⟩:=W i hi;rw[E];unfold dS;omega



def rP:=bR [2,44] Proofs.Tryz.f5
def iu:=aC rP 8
def VJ:=aC rP 9
def VK:=aC rP 10
def qt:aK:=(sq (aC rP 0) (mM (aC rP 1) 10 (aC rP 2) (sq (aC rP 3) (.seq (eH (aC rP 4) 0 (fY (aC rP 5) 15 0 VJ (dq (eY rP 0) (iE (aC rP 6) 34 (.region (aC rP 7)) (.region iu))))) (sq VK .ret)))))

theorem afZ{r e:Int}(h:0<=e):max 0 (min r e)=min (max r 0) e:=Om
theorem Q1(f:aH)(room:I_){k:Nat}(h:k<l'' f.asP):(dK f room).take (k+1)=(dK f room).take k++[rW f room k]:=by
 have i:k<(dK f room).length:=by rw[iZ];exact h
 rw[awE i,ip]
variable{C:Ctx}
theorem Wd(valid:∀f:aH,f.Ok->aG C 67 [.agg f.cells] .nil (aJ (.bool (dR f))))(f:aH)(S:f.Ok)(room:I_) :
  qt.wp C (aX rP.res (cN (ints (mR f room)))) (g_ [.agg f.cells,ints room]) .nil:=by
 simp only[go_sem,qt,rP];refine aA (valid f S) Sq ?_;unfold mR;cases V:dR f with
 |false =>simp only[go_sem,auY];exact I3 Ev
 |true=>
  have hV:=VF.of V;have K:=hV.small.asP;have E:=iZ f room;simp only[go_sem,auO];refine wp_loop (α:=T3_) (λt=>((((n_.set 1 (ints room)).set 2 (.bQ f.cells)).set 5 (t.2.1)).set 6 (.j t.1))) (λt=>t.2.2) (λt=>t.1<=l'' f.asP/\cF t.2.2 1 t.2.1 (aR ((dK f room).take t.1))) (λt=>l'' f.asP-t.1) (0,.aE,.nil) ⟨auK _,.nil⟩ Lq a_ ?_;rintro⟨k,v,O⟩ ⟨U,y⟩;simp only at U y ⊢;simp only[go_sem,auD];by_cases hlt:k<l'' f.asP;have i:(k:Int)<(l'' f.asP:Nat):=Om;obtain⟨N,M⟩:=hV.l5 hlt;have H:=hV.model _ (auH N);rw[M]at H;have A:(1:Nat)*1<=16777216:=by decide
  have l:=Q1 f room hlt;have rest:∀(x:Int)(F:PF),x=rW f room k->((((((n_.set 1 (ints room)).set 2 (.bQ f.cells)).set 5 (v)).set 6 (.j k)).set 7 (.j x)):PF).le F ->
    aK.wp C (.region iu) (fX 1 (jB C (aK.wp C (.region VJ)) (iF (λt:T3_=>((((n_.set 1 (ints room)).set 2 (.bQ f.cells)).set 5 (t.2.1)).set 6 (.j t.1))) (λt=>t.2.2) (λt=>t.1<=l'' f.asP/\cF t.2.2 1 t.2.1 (aR ((dK f room).take t.1))) (λt=>l'' f.asP-t.1) (l'' f.asP-k) (fX 0 (jB C (aK.wp C (.seq (.region VK) .ret)) (aX [.tmp 4] (cN (ints (dK f room))))))))) F O:=by
   intro x F W Q;refine sT _ (λ_ _ _ _ a b=>Up.up a b) Q ?_;simp only[go_sem,iu,A];refine jJ (src:=[[.j x]]) y Sq (by unfold roomFor;rw[bG,auU];simp only[auS,maxLen];omega) λv' H' u _=>?_;rw[Pw,W,<-l]at u;simp only[go_sem,VJ,wZz k];exact aF (k+1,v',H') ⟨hlt,u⟩ sO_ Lq b_
  simp only[aK.wp,go_sem]at rest;simp only[go_sem,i];refine bV .nil dY a_ ?_;simp only[go_sem,wU hlt,hV.oe hlt,Ad N,M];by_cases c:l'' room=l'' f.asP;have w:k<l'' room:=Om;have J:(room.map λn=>[PV.int .i64 n])[k]?=some [.j room[k]]:=by simp[w]
  simp only[go_sem,auD,cI (Om:(l'' room:Int)=(l'' f.asP:Nat)),J,max_eq,Ms];refine rest _ _ ?_ Lq;rw[rW,aD c,afZ Om,auM,auP w,axC];simp only[go_sem,auD,bP (Om:(l'' room:Int)≠(l'' f.asP:Nat))];refine rest _ _ ?_ Lq;rw[rW,aB c];have i:¬(k:Int)<(l'' f.asP:Nat):=Om;have:k=l'' f.asP:=Om;subst this;rw[<-E,avI]at y;simp only[go_sem,i,VK];exact xm y Sq

abbrev iiv(l:I_):P2_:=l.map λx=>[PV.int .i64 x]
def acW(l:N_)(v:PV)(o a:Nat)(f:aH)(r:PV)(H:PH):Prop:=Co r (ints (sS l f a).1)/\H=h_.set o (bF v (sS l f a).2)
theorem UX(l:N_){a:Nat}(h:a<=l'' l):∀k,(pU l a k).2<=l'' l/\(pU l a k).1.length=k
 |0=>⟨h,rfl⟩
 |k+1=>by obtain⟨i,u⟩:=UX l h k;exact⟨bU l 7 i,by simp only[pU,auJ,auS,u]⟩
def Hj(f:aH)(o:Nat)(w:PV)(i:Nat):PF:=((((n_.set 0 (.ptr o 2 0 0)).set 3 (.bQ f.cells)).set 5 (w)).set 6 (.int .i64 i))
theorem Z5(Q:HF C){l:N_}{v:PV}(T:Tp l v)(o a:Nat)(f:aH)(hd:l'' f.asP<=1000)(U:a<=l'' l):ot.wp C (aX Df.res (acW l v o a f)) (g_ [.ptr o 2 0 0,.agg f.cells]) (h_.set o (bF v a)):=by
 have S:aQ (h_.set o (bF v a)) [(o,bF v a)] []:=aQ.nil.new (H:=h_) rfl (bF v a);simp only[go_sem,ot,Df];refine eG Q T (o:=o) (n:=4) (a:=a) aU U (by simp only[go_sem];rfl) (S.at 0 rfl) ?_;have E:=S.set 0 rfl (bF v (aI l 4 a).2);rw[PH.set_set]at E;have N:=bU l 4 U;have A:sS l f a=if(aI l 4 a).1=0 then([],(aI l 4 a).2)else pU l (aI l 4 a).2 f.asP.length:=rfl
 have M:∀r H,acW l v o a f r H↔Co r (ints (sS l f a).1)/\H=h_.set o (bF v (sS l f a).2):=λ_ _=>Iff.rfl;generalize aI l 4 a=t at *
 by_cases V:t.1=0;rw[aD V]at A;simp only[go_sem,cI (Om:(t.1:Int)=0)];refine aY (vs:=[.aE]) (.inr rfl) (h_.set o (bF v t.2)) Sq (c_ a_ (E.at 0 rfl)) ?_;rw[bO,M,A];exact⟨.nil 1,rfl⟩;rw[aB V]at A;have Y:=E.lJ 1;simp only[go_sem,bP (Om:(t.1:Int)≠0)];refine wp_loop (α:=T3_) (λs=>Hj f o s.2.1 s.1) (λs=>s.2.2) (λs=>s.1<=l'' f.asP/\aQ s.2.2 [(o,bF v (pU l t.2 s.1).2)] [(s.2.1,1,iiv (pU l t.2 s.1).1)]) (λs=>l'' f.asP-s.1) (0,.aE,_) ⟨auK _,Y⟩ ?_ b_ ?_;unfold Hj;exact Lq;rintro⟨k,w,H0⟩ ⟨Z,u⟩;simp only at Z u ⊢;obtain⟨k1,k2⟩:=UX l N k;simp only[go_sem,Hj,auD];by_cases hlt:k<l'' f.asP;have i:(k:Int)<(l'' f.asP:Nat):=Om;have y:pU l t.2 (k+1)=((pU l t.2 k).1++[((aI l 7 (pU l t.2 k).2).1:Int)-1],(aI l 7 (pU l t.2 k).2).2):=rfl;have hz:=cM l (show 0<7 by decide) (pU l t.2 k).2;generalize hs:pU l t.2 k=s at *
 have O:i_.wrap (((aI l 7 s.2).1:Int)-1)=((aI l 7 s.2).1:Int)-1:=wrap_i64 Om Om;have J:(1:Nat)*1<=16777216:=by decide
 simp only[go_sem,i];refine eG Q T (o:=o) (n:=7) (a:=s.2) aU k1 (by simp only[go_sem];rfl) (u.at 0 rfl) ?_;have K:=u.set 0 rfl (bF v (aI l 7 s.2).2);simp only[go_sem,O,J];refine K.append 0 (src:=[[PV.int .i64 (((aI l 7 s.2).1:Int)-1)]]) rfl Sq (by unfold roomFor;rw[auD,k2];simp only[auS,maxLen];omega) λw' H' W _=>?_;simp only[go_sem,wZz k];refine aF (k+1,w',H') ⟨hlt,?_⟩ sO_ ?_ b_;simp only;rw[y];have:iiv (s.1++[((aI l 7 s.2).1:Int)-1])=iiv s.1++[[PV.int .i64 (((aI l 7 s.2).1:Int)-1)]]:=by simp[iiv]
 rw[this];exact W;exact Lq;have i:¬(k:Int)<(l'' f.asP:Nat):=Om;have:k=l'' f.asP:=Om;subst this;rw[<-A]at u;simp only[go_sem,i];rcases u.own 0 rfl with⟨F,rfl⟩|⟨q,rs,rfl,_⟩
 refine aY (vs:=[.aE]) (.inr rfl) (h_.set o (bF v (sS l f a).2)) Sq (c_ a_ (u.at 0 rfl)) ?_;rw[bO,M];refine⟨?_,rfl⟩;unfold ints;rw[show(sS l f a).1.map (λx=>[PV.int .i64 x])=[]from F];exact .nil 1;obtain⟨rs,g1,g2,g3,-,g4⟩:=u.frz 0 rfl;refine FA (vs:=[.osl q 1 0 (iiv (sS l f a).1).length]) (.inr rfl) Sq (.step g1 (.done (H2:=h_.set o (bF v (sS l f a).2)) ?_ (c_ a_ ?_)));rw[bO,g3,M];exact⟨.refl _,rfl⟩;have:=g4.at 0 rfl;rw[this];simp only[aW.frz,avH,avY,T.frz];rfl

theorem exactly{name:Nat}{args:V_}{H H2:PH}{v:PV}(h:aG C name args H (λr H'=>Co r v/\H'=H2)):aG C name args H (λr H'=>r=v/\H'=H2):=
 h.post λr H' i=>⟨_,i.1,rfl,i.2⟩
theorem T0(l:N_)(asP asR:Nat){a:Nat}(h:a<=l'' l):(hZ l asP asR a).2<=l'' l:=by
 have A:=bU l 2 h;have w:=bU l 2 A;obtain⟨u,-⟩:=GD l w (1+(aI l 2 (aI l 2 a).2).1);have y:=bU l 2 u;obtain⟨i,-⟩:=yH l (1+(aI l 2 (aI l 2 a).2).1) y (1+(aI l 2 (jE l (aI l 2 (aI l 2 a).2).2 (1+(aI l 2 (aI l 2 a).2).1)).2).1);obtain⟨E,-⟩:=FW (mc:=1+(aI l 2 (jE l (aI l 2 (aI l 2 a).2).2 (1+(aI l 2 (aI l 2 a).2).1)).2).1) 4 0 (⟨by simp,auK _,i⟩:GOk l asP ⟨[nI],[],_⟩);exact(JY l _ (bU l (asR+1) (yQ l _ (bU l 2 E.a) _).1) _).1
structure ck(f:aH)(L:L2_):Prop where
 len:l'' L=l'' f.asR
 row:∀v (h:v<l'' L),((L[v].length:Nat):Int)=adC f v
 home:∀r∈L,∀x∈r,-1<=x/\x<l'' f.asP
theorem ck.anP{f:aH}{L:L2_}(h:ck f L)(hV:VF f):∀k,k<=l'' L->(L.take k).flatten.length<=k*8:=by
 have E:=h.len;intro k
 induction k with
 |zero=>intro _;simp
 |succ k y =>intro l;rw[Tz L l,auJ];have A:=y Om;have u:=h.row k l;obtain⟨hp,w⟩:=aaK hV (Om:k<l'' f.asR);have i:=hV.atB _ (auH hp);rw[w]at i;unfold adC at u;omega
theorem ck.ok{f:aH}(hV:VF f){L:L2_}(h:ck f L):amI L:=by
 have l:=hV.small.asR;have i:=h.len;have:=h.anP hV L.length (auG _);rw[avI]at this;exact⟨by omega,by omega⟩
section
variable {H:PH} {B:List BX} {L:List LI}
theorem aQ.We(h:aQ H B L)(i:Nat){q s k d:Nat}{rows:P2_}(hi:L[i]?=some (.osl q s 0 k,s,rows))(A:d<l'' rows)(r:V_) :
  ∃rs,H q=some (.rows s rs)/\rs[d]?=rows[d]?/\d<l'' rs/\aQ (H.set q (.rows s (rs.set d r))) B (L.set i (.osl q s 0 k,s,rows.set d r)):=by
 obtain⟨rs,u,w,y,l⟩:=(h.own i hi).id rfl;injection w with _ _ _ E
 subst E;refine⟨rs,u,?_,by omega,?_⟩
 ·conv=>rhs;rw[<-l]
  rw[axZ,aD A]
 ·refine h.IH i hi (.inr ⟨q,rs.set d r,by rw[avT],by rw[cA],by simpa using y,?_⟩) (λp hp=>.inl hp) λp _ hp=>?_
  ·rw[avT,List.take_set,l]
  ·have:=hp q rfl;rw[aT,aB this]
end

section
variable {H:PH} {B:List BX} {L:List LI} {s:Nat} {rows:P2_}
theorem qZ.some(s:Nat)(rows:P2_)(G:PH):∃r H',qZ s rows r H'/\oX G .nil H':=by
 obtain⟨o,l⟩:=G.fresh;refine⟨.osl o s 0 rows.length,h_.set o (.rows s rows),.inr ⟨o,rows,rfl,rfl,auG _,avI⟩,λq x i _=>?_⟩;rw[aT]at i;split at i;rename_i e;rw[e];exact l;cases i
end

section
variable {C:Ctx} {F:PF} {H:PH} {B:List BX} {L:List LI} {args:List aP} {d:O_} {K:K_}
theorem aQ.VQ(h:aQ H B L)(i:Nat){o name:Nat}{x y:aW}{r:PV}{vs:V_}(hi:B[i]?=some (o,x))(u:aG C name vs (h_.set o x) (λr' H'=>r'=r/\H'=h_.set o y))(l:aP.evs F args=some vs)
  (w:∀H',aQ H' (B.set i (o,y)) L->K (F.put d r) H'):iW C name args [] d K F H:=oK u (h.at i hi) l (w _ (h.set i hi y))
theorem aQ.zM(h:aQ H B L){x:aW}{i:Nat->PV}(l:∀o H',aQ H' (B++[(o,x)]) L->K (F.put d (i o)) H'):oG (some (i,x)) d K F H:=aS λo u=>l o _ (h.new u x)
end


theorem ck.move{f:aH}{L:L2_}(h:ck f L){x k d:Nat}(w:x<l'' L)(A:d<l'' f.asP):ck f (L.set x (L[x].set k d)):=by
 refine⟨by rw[avT];exact h.len,λv u=>?_,λr i=>?_⟩;rw[avT]at u;have:=h.row v u;rw[List.getElem_set];split;rename_i e;subst e;rw[avT];exact this;exact this;rcases ayU i with i|rfl
 exact h.home r i;intro y l;rcases ayU l with l|rfl
 exact h.home _ (auH w) y l;omega


structure Cy(C:Ctx):Prop extends ju C where
 int:∀n:Int,dS n->aG C 47 [.int .i64 n] .nil (aJ (.agg (mkT n 1).cells))
 mul:∀a b,Lim a->Lim b->l'' a<=35184372087808->l'' b<=35184372087808->aG C 36 [aL a,aL b] .nil (aJ (opV (fJ (val a) (val b)) (val a*val b)))
 add:∀a b,Lim a->Lim b->l'' a<=35184372087808->l'' b<=35184372087808->aG C 30 [aL a,aL b] .nil (aJ (opV (fJ (val a) (val b)) (val a+val b)))
 sub:∀a b,Lim a->Lim b->l'' a<=35184372087808->l'' b<=35184372087808->aG C 37 [aL a,aL b] .nil (aJ (wN (val a) (val b)))
theorem Bl(a b:Nat):cK a b=(decide (nl b>0)&&(decide (nl b<=128)&&decide (nl a<=128))):=by
 have:=@kK b;refine Bool.eq_iff_iff.2 ?_;rw[fT];simp only[auI,dT_];omega
theorem W2(L:Cy C)(neg:Bool)(a b:N_)(A:Lim a)(hb:Lim b)(E:l'' a<=35184372087808)(y:l'' b<=35184372087808) :
  bi.wp C (aX te.res (aJ (.bool (cK (val a) (val b))))) (g_ [.agg (fI neg a b)]) .nil:=by
 rw[Bl];simp only[go_sem,bi,te];refine aA (L.trim b hb y) rfl ?_;simp only[go_sem,auD,bD];by_cases u:nl (val b)>0;have i:((nl (val b):Nat):Int)>0:=Om;simp only[go_sem,i];refine aA (L.trim b hb y) rfl ?_;simp only[go_sem,auD,bD];by_cases w:nl (val b)<=128;have l:((nl (val b):Nat):Int)<=128:=Om;simp only[go_sem,l];refine aA (L.trim a A E) rfl ?_;simp only[go_sem,auD,bD];refine dA ?_;have:decide (((nl (val a):Nat):Int)<=128)=decide (nl (val a)<=128):=by refine decide_eq_decide.2 ?_;omega
 rw[bO,this,bH u,bH w];rfl;have l:¬((nl (val b):Nat):Int)<=128:=Om;simp only[go_sem,l];refine dA ?_;rw[bO,bT w,auN,awB];have i:¬((nl (val b):Nat):Int)>0:=Om;simp only[go_sem,i];refine dA ?_;rw[bO,bT u,auN]
theorem d7{neg:Bool}{a b:Nat}(h:cK a b=true):iU neg a b=.ok (nZ neg a b):=by
 obtain⟨w,i,l⟩:=fT.1 h;have u:=(kC (a/auF a b) 128).2 (pe _ l);have e2:=(kC (b/auF a b) 128).2 (pe _ i);unfold iU nZ;rw[aB Om]
def N7(a b:Nat):Bool:=decide (nl a>128)||decide (nl b>128)
theorem Wz(neg:Bool)(a b:N_) :
  be.wp C (aX sw.res (aJ (.bool (decide (l'' a>128)||decide (l'' b>128))))) (g_ [.agg (fI neg a b)]) .nil:=by
 simp only[go_sem,be,sw,auD];by_cases c:l'' a>128;have i:(l'' a:Int)>128:=Om;simp only[go_sem,i];refine dA ?_;rw[bO,bH c,Bool.true_or];have i:¬(l'' a:Int)>128:=Om;simp only[go_sem,i,auD];refine dA ?_;have:decide ((l'' b:Int)>128)=decide (l'' b>128):=by refine decide_eq_decide.2 ?_;omega
 rw[bO,this,bT c,Bool.false_or]
def Fq(x:FV):FR:=if N7 x.2.1 x.2.2 then .error 2 else .ok x
theorem aeT(neg:Bool)(a b:Nat):Fq (nZ neg a b)=iU neg a b:=by
 have i:=kC (a/auF a b) 128;have e2:=kC (b/auF a b) 128;unfold Fq nZ iU N7;simp only[Bool.or_eq_true,dT_];by_cases c:nl (a/auF a b)>128\/nl (b/auF a b)>128;rw[aD c,aD Om];rw[aB c,aB Om]
structure jw(C:Ctx):Prop extends Cy C where
 valid:∀x:RF,x.Ok->aG C 56 [.agg x.cells] .nil (aJ (.bool (cK (val x.num) (val x.den))))
 big:∀x:FV,aG C 48 [.agg x.rf.cells] .nil (aJ (.bool (N7 x.2.1 x.2.2)))
theorem acD(L:jw C)(x:FV):sr.wp C (aX Dv.res (cN (frV (Fq x)))) (g_ [.agg x.rf.cells]) .nil:=by
 simp only[go_sem,sr,Dv];refine aS λo i=>?_;simp only[go_sem];refine aA (L.big x) rfl ?_;unfold Fq;cases N7 x.2.1 x.2.2 with
 |true =>simp only[go_sem];refine iN ?_;simp only[go_sem]
 |false =>obtain⟨n,a,b⟩:=x;simp only[go_sem];exact aY (.inr rfl) .nil (vs:=[.agg (FV.rf (n,a,b)).cells,.int .i64 0]) Sq a_ ⟨.refl _,rfl⟩
theorem R3(L:jw C)(x:RF)(i:x.Ok):WF.wp C (aX YJ.res (cN (frV (oF x)))) (g_ [.agg x.cells]) .nil:=by
 simp only[go_sem,WF,YJ];refine aS λo w=>?_;simp only[go_sem];refine aA (L.valid x i) rfl ?_;unfold oF;cases l:cK (val x.num) (val x.den)with
 |false =>simp only[go_sem,auY];refine iN ?_;simp only[go_sem]
 |true =>obtain⟨u,y,A⟩:=fT.1 l;have e:=d7 (neg:=x.neg) l;rw[aD rfl,e];simp only[go_sem,auO];refine aA (L.lowest x.neg x.num x.den i.1 i.2.1 i.2.2.1 i.2.2.2 Om Om u) rfl ?_;simp only[go_sem];exact aY (.inr rfl) .nil (vs:=[.agg (nZ x.neg (val x.num) (val x.den)).rf.cells,.int .i64 0]) Sq a_ ⟨.refl _,rfl⟩
theorem W1(L:Cy C)(a b:N_)(i:Lim a)(hb:Lim b)(l:l'' a<=35184372087808)(u:l'' b<=35184372087808)(w:nl (val a)<=256)(y:nl (val b)<=256) :
  bg.wp C (aX td.res (aJ (aL (aM (val a*val b))))) (g_ [aL a,aL b]) .nil:=by
 simp only[go_sem,bg,td];refine aA (L.mul a b i hb l u) rfl ?_;have:=mY w y;rw[kJ Om Om,opV,GO Om];simp only[go_sem];refine dA ?_;rfl
structure Ej(C:Ctx):Prop extends jw C where
 fits:∀x:FV,aG C 57 [.agg x.rf.cells] .nil (aJ (frV (Fq x)))
 red:∀x:RF,x.Ok->aG C 52 [.agg x.cells] .nil (aJ (frV (oF x)))
 prod:∀a b,Lim a->Lim b->l'' a<=35184372087808->l'' b<=35184372087808->nl (val a)<=256->nl (val b)<=256->aG C 60 [aL a,aL b] .nil (aJ (aL (aM (val a*val b))))
def RF.valid(x:RF):Prop:=cK (val x.num) (val x.den)=true
def qO(x y:RF):Int:=rJ x.neg (val x.num) (val x.den) y.neg (val y.num) (val y.den)
def voS:Spec:=λname vs=>match name,vs with
 |60,[x,y]=>some ([],λ_=>aJ (aL (aM (val (jU x)*val (jU y)))))
 |_,_=>none
theorem BZ(a b:N_):voS 60 [aL a,aL b]=some ([],λ_=>aJ (aL (aM (val a*val b)))):=by
 show some _=_;rw[eW,eW]
theorem SU(a b:Nat):eI b a=- eI a b:=by
 unfold eI;rcases Nat.lt_trichotomy a b with h|h|h
 rw[aB Om,aD h,aD h];rfl;subst h;rw[aB Om,aB Om];rfl;rw[aD h,aB Om,aD h]
set_option maxHeartbeats 1000000 in
theorem W0 {C : Ctx} (L : Ej C) (x y : RF) (hx : x.Ok) (hy : y.Ok) (vx : x.valid) (vy : y.valid) : bf.wp C (aX s8.res (aJ (.j (qO x y)))) (g_ [.agg x.cells, .agg y.cells]) .nil := by
  obtain ⟨n1, a1, b1⟩ := x;obtain ⟨n2, a2, b2⟩ := y;obtain ⟨ha1, hb1, la1, lb1⟩ := hx;obtain ⟨ha2, hb2, la2, lb2⟩ := hy;obtain ⟨v1, v2, v3⟩ := fT.1 vx;obtain ⟨w1, w2, w3⟩ := fT.1 vy;simp only at ha1 hb1 la1 lb1 ha2 hb2 la2 lb2 v1 v2 v3 w1 w2 w3;have m1 := mY v3 w2;have m2 := mY w3 v2;have hA : decide (val a1 ≠ 0) = decide (nl (val a1 * val b2) > 0) := by refine decide_eq_decide.2 ?_;have := @kK (val a1 * val b2);rw [Nat.mul_eq_zero] at this;omega
  have hB : decide (val a2 ≠ 0) = decide (nl (val a2 * val b1) > 0) := by refine decide_eq_decide.2 ?_;have := @kK (val a2 * val b1);rw [Nat.mul_eq_zero] at this;omega
  unfold qO rJ;simp only [hA, hB];simp only[go_sem,bf,s8];refine bV .nil voS a_ ?_;simp only[go_sem];refine cB (BZ a1 b2) (L.prod a1 b2 ha1 hb2 la1 lb2 Om Om) rfl a_ ?_;simp only[go_sem];refine cB (BZ a2 b1) (L.prod a2 b1 ha2 hb1 la2 lb1 Om Om) rfl a_ ?_;have hc := L.cmp (aM (val a1 * val b2)) (aM (val a2 * val b1)) (bA _) (bA _) (by rw [bD]; omega) (by rw [bD]; omega);have hd := L.cmp (aM (val a2 * val b1)) (aM (val a1 * val b2)) (bA _) (bA _) (by rw [bD]; omega) (by rw [bD]; omega);rw [aV, aV] at hc hd;rw [SU (val a1 * val b2)] at hd;generalize val a1 * val b2 = A at *
  generalize val a2 * val b1 = B at *
  have gA : decide (((nl A : Nat) : Int) > 0) = decide (nl A > 0) := decide_eq_decide.2 Om;have gB : decide (((nl B : Nat) : Int) > 0) = decide (nl B > 0) := decide_eq_decide.2 Om;generalize decide (nl A > 0) = p at *
  generalize decide (nl B > 0) = q at *
  cases n1 <;> cases n2 <;> cases p <;> cases q
  all_goals
    simp only[go_sem,auD,bD,gA,gB]
    first
    | (refine dA ?_; rfl)
    | (refine aA hc rfl ?_
       simp only[go_sem];refine dA ?_;rfl)
    | (refine aA hd rfl ?_
       simp only[go_sem];refine dA ?_;rfl)
structure FI(C:Ctx):Prop extends Ej C where
 order:∀x y:RF,x.Ok->y.Ok->x.valid->y.valid->aG C 51 [.agg x.cells,.agg y.cells] .nil (aJ (.int .i64 (qO x y)))
theorem acF(L:FI C)(x y:RF)(i:x.Ok)(l:y.Ok)(u:x.valid)(w:y.valid):sx.wp C (aX Dw.res (aJ (.bool (decide (qO x y<0))))) (g_ [.agg x.cells,.agg y.cells]) .nil:=by
 simp only[go_sem,sx,Dw];refine aA (L.order x y i l u w) rfl ?_;simp only[go_sem];refine dA ?_;rfl
theorem acH(L:FI C)(x y:RF)(i:x.Ok)(l:y.Ok)(u:x.valid)(w:y.valid):s9.wp C (aX Dy.res (aJ (.bool (qO x y==0)))) (g_ [.agg x.cells,.agg y.cells]) .nil:=by
 simp only[go_sem,s9,Dy];refine aA (L.order x y i l u w) rfl ?_;simp only[go_sem];refine dA ?_;rfl
theorem LJ(n:Int):mkT n 1=⟨decide (n<0),aM n.natAbs,aM 1⟩:=by
 unfold mkT nZ FV.rf;rw[show(1:Int).natAbs=1 from rfl,Nat.gcd_one_right,Nat.div_one,Nat.div_one,show decide ((1:Int)<0)=false from rfl];congr 1;by_cases h:n<0;have:n.natAbs≠0:=Om;simp[h,this];simp[h]
theorem LH(n:Int)(h:dS n):(mkT n 1).Ok/\(mkT n 1).valid:=by
 have i:nl n.natAbs<=2:=iA (by unfold dS at h;omega);rw[LJ];refine⟨⟨bA _,bA _,?_,?_⟩,?_⟩;simp only[bD];omega;simp only[qV];decide;unfold RF.valid;simp only[aV];rw[Bl];have:nl 1=1:=by rw[nl,qV];rfl
 simp[this];omega
def rN(x:RF):Int:=if val x.num=0 then 0 else if x.neg then -1 else 1
theorem aaI(x:RF):qO x (mkT 0 1)=rN x:=by
 rw[LJ];unfold qO rN rJ;simp only[aV,show(0:Int).natAbs=0 from rfl,Nat.mul_one,Nat.zero_mul];by_cases h:val x.num=0;simp[h,eI];cases x.neg<;>simp[h,eI]
def viS(r:Int):Spec:=λname _=>if name=47 then some ([],λ_=>aJ (.agg (mkT 0 1).cells))else some ([],λ_=>aJ (.int .i64 r))
theorem acI(L:FI C)(x:RF)(u:x.Ok)(w:x.valid):ta.wp C (aX Dz.res (aJ (.j (rN x)))) (g_ [.agg x.cells]) .nil:=by
 have i:dS 0:=by unfold dS;omega
 have l:=L.order x (mkT 0 1) u (LH 0 i).1 w (LH 0 i).2;rw[aaI]at l;simp only[go_sem,ta,Dz];refine bV .nil (viS (rN x)) a_ ?_;simp only[go_sem];refine cB rfl (L.int 0 i) rfl a_ ?_;simp only[go_sem];refine cB rfl l rfl a_ ?_;simp only[go_sem];refine dA ?_;rfl
theorem Wx(L:FI C)(l u:Bool)(a1 b1 a2 b2:N_)(S:Lim a1)(M:Lim b1)(U:Lim a2)(N:Lim b2)
  (V:l'' a1<=35184372087808) (O:l'' b1<=35184372087808) (W:l'' a2<=35184372087808) (Q:l'' b2<=35184372087808) :
  WC.wp C (aX J5.res (cN (frV (gY (l,val a1,val b1) (u,val a2,val b2))))) (g_ [.agg (fI l a1 b1),.agg (fI u a2 b2)]) .nil:=by
 have vx:aG C 56 [.agg (fI l a1 b1)] .nil (aJ (.bool (cK (val a1) (val b1)))):=L.valid ⟨l,a1,b1⟩ ⟨S,M,V,O⟩;have vy:aG C 56 [.agg (fI u a2 b2)] .nil (aJ (.bool (cK (val a2) (val b2)))):=L.valid ⟨u,a2,b2⟩ ⟨U,N,W,Q⟩;simp only[go_sem,WC,J5];refine aS λo ho=>?_;simp only[go_sem];refine aA vx rfl ?_;simp only[gY];cases hv:cK (val a1) (val b1)with
 |false =>simp only[go_sem,auY,auN];refine iN ?_;simp only[go_sem]
 |true=>
  obtain⟨v1,v2,v3⟩:=fT.1 hv;simp only[go_sem,auO];refine aA vy rfl ?_;cases hw:cK (val a2) (val b2)with
  |false =>simp only[go_sem,auY,awB];refine iN ?_;simp only[go_sem]
  |true=>
   obtain⟨w1,w2,w3⟩:=fT.1 hw;simp only[go_sem,auO,awP];refine bV .nil voS a_ ?_;simp only[go_sem];refine cB (BZ a1 b2) (L.prod a1 b2 S N V Q Om Om) rfl a_ ?_;simp only[go_sem];refine cB (BZ a2 b1) (L.prod a2 b1 U M W O Om Om) rfl a_ ?_;simp only[go_sem];refine cB (BZ b1 b2) (L.prod b1 b2 M N O Q Om Om) rfl a_ ?_;simp only[go_sem];have m1:=mY v3 w2;have m2:=mY w3 v2;have m3:=mY v2 w2;have d0:val b1*val b2≠0:=Nat.mul_ne_zero v1 w1;generalize hA:val a1*val b2=A at *
   generalize hB:val a2*val b1=B at *
   generalize hD:val b1*val b2=D at *
   have fin:∀(F:PF)(H:PH)(r:FR),(∃i x y e,frV r=.tup [.agg (fI i x y),.j e]/\F 4=some (.ptr o 3 0 0)/\F 5=some (.j e)/\H o=some (.rows 3 [fI i x y]))->aX [.cell 4 (some 3),.tmp 5] (cN (frV r)) .ret F H:=by rintro F H r ⟨i,x,y,e,he,f4,f5,hH⟩;rw[he];exact aY (.inr rfl) .nil (vs:=[.agg (fI i x y),.j e]) (by simp only[go_sem,f4,f5,hH]) a_ ⟨.refl _,rfl⟩
   have eb:(l==u)=decide (l=u):=by cases l<;>cases u<;>rfl
   have low:∀neg x,nl x<=257->aG C 58 [.bool neg,aL (aM x),aL (aM D)] .nil (aJ (.agg (nZ neg x D).rf.cells)):=by
    intro neg x hx;have h1:(aM x).length<=35184372087808:=by rw[bD];omega
    have h2:(aM D).length<=35184372087808:=by rw[bD];omega
    have:=L.lowest neg (aM x) (aM D) (bA _) (bA _) h1 h2;rw[aV,aV]at this;exact this Om Om d0
   have K:∀neg x,aG C 57 [.agg (nZ neg x D).rf.cells] .nil (aJ (frV (iU neg x D))):=λneg x=>by
    have:=L.fits (nZ neg x D)
    rwa[aeT]at this
   have lA:(aM A).length<=35184372087808:=by rw[bD];omega
   have lB:(aM B).length<=35184372087808:=by rw[bD];omega
   try simp only[go_sem]
   by_cases c:l=u;rw[aD c];have Z:(l==u)=true:=by rw[eb,bH c]
   simp only[go_sem,Z];have E:=L.add (aM A) (aM B) (bA _) (bA _) lA lB;have α:=Hq m1 m2;rw[aV,aV,kJ Om Om,opV,GO Om]at E;refine aA E rfl ?_;simp only[go_sem];refine aA (low l _ Om) rfl ?_;simp only[go_sem];refine aA (K l _) rfl ?_;obtain⟨i,x,y,e,w⟩:=zQ (iU l (A+B) D);rw[w];simp only[go_sem];rw[<-w];exact fin _ _ _ ⟨i,x,y,e,w,s_,s_,s_⟩;rw[aB c];have Z:(l==u)=false:=by rw[eb,bT c]
   simp only[go_sem,Z];have hc:=L.cmp (aM A) (aM B) (bA _) (bA _) lA lB;rw[aV,aV]at hc;refine aA hc rfl ?_;have J:∀X Y:Nat,nl X<=256->nl Y<=256->Y<=X->aG C 37 [aL (aM X),aL (aM Y)] .nil (aJ (.tup [aL (aM (X-Y)),.j 0])):=by intro X Y h1 h2 h;have:=L.sub (aM X) (aM Y) (bA _) (bA _) (by rw[bD];omega) (by rw[bD];omega);have h3:=iX (Om:X-Y<=X);rw[aV,aV,wN,kJ Om Om,aB aU,aB Om,GO Om]at this;exact this
   by_cases g:B<=A;have g':eI A B>=0:=(XB A B).2 g;rw[aD g];simp only[go_sem,g'];refine aA (J A B Om Om g) rfl ?_;simp only[go_sem];have h3:=iX (Om:A-B<=A);refine aA (low l (A-B) Om) rfl ?_;simp only[go_sem];refine aA (K l _) rfl ?_;obtain⟨i,x,y,e,w⟩:=zQ (iU l (A-B) D);rw[w];simp only[go_sem];rw[<-w];exact fin _ _ _ ⟨i,x,y,e,w,s_,s_,s_⟩;have g':¬eI A B>=0:=λh=>g ((XB A B).1 h);rw[aB g];simp only[go_sem,g'];refine aA (J B A Om Om Om) rfl ?_;simp only[go_sem];have h3:=iX (Om:B-A<=B);refine aA (low u (B-A) Om) rfl ?_;simp only[go_sem];refine aA (K u _) rfl ?_;obtain⟨i,x,y,e,w⟩:=zQ (iU u (B-A) D);rw[w];simp only[go_sem];rw[<-w];exact fin _ _ _ ⟨i,x,y,e,w,s_,s_,s_⟩
theorem ahZ(L:FI C)(x y:RF)(i:x.Ok)(l:y.Ok):WC.wp C (aX J5.res (cN (frV (gY x.v y.v)))) (g_ [.agg x.cells,.agg y.cells]) .nil:=
 Wx L x.neg y.neg x.num x.den y.num y.den i.1 i.2.1 l.1 l.2.1 i.2.2.1 i.2.2.2 l.2.2.1 l.2.2.2
structure Nw(C:Ctx):Prop extends FI C where
 less:∀x y:RF,x.Ok->y.Ok->x.valid->y.valid->aG C 49 [.agg x.cells,.agg y.cells] .nil (aJ (.bool (decide (qO x y<0))))
 same:∀x y:RF,x.Ok->y.Ok->x.valid->y.valid->aG C 53 [.agg x.cells,.agg y.cells] .nil (aJ (.bool (qO x y==0)))
 sign:∀x:RF,x.Ok->x.valid->aG C 54 [.agg x.cells] .nil (aJ (.int .i64 (rN x)))
 plus:∀x y:RF,x.Ok->y.Ok->aG C 46 [.agg x.cells,.agg y.cells] .nil (aJ (frV (gY x.v y.v)))
def vsF(l:List RF)(o2 o4 k:Nat):PF:=((((n_.set 0 (frs l)).set 2 (.ptr o2 3 0 0)).set 4 (.ptr o4 3 0 0)).set 5 (.int .i64 k))
theorem aiB(L:Nw C)(l:List RF)(hl:∀x∈l,x.Ok)(β:l'' l<=9223372036854775807) :
  Bo.wp C (aX AH.res (cN (frV (qS (l.map RF.v))))) (g_ [frs l]) .nil:=by
 have h0:dS 0:=by unfold dS;omega
 have hi:(mkT 0 1).cells=(FV.rf (false,0,1)).cells:=by rw[LJ];rfl
 have E:=L.int 0 h0;rw[hi]at E;simp only[go_sem,Bo,Nk,AH];refine aS λo2 γ=>?_;have h1:aQ (h_.set o2 (.rows 3 [[.bool false,.aE,.aE]])) [(o2,.rows 3 [[.bool false,.aE,.aE]])] []:=aQ.nil.new (H:=h_) rfl _;generalize(h_.set o2 _)=H1 at *
 simp only[go_sem,Nl];refine aA E rfl ?_;simp only[go_sem];refine aS λo4 Y=>?_;have h2:=h1.new Y (.rows 3 [(FV.rf (false,0,1)).cells]);simp only[go_sem,Nm];refine wp_loop (α:=Nat × FV × PH) (λt=>vsF l o2 o4 t.1) (λt=>t.2.2) (λt=>t.1<=l'' l/\((l.map RF.v).take t.1).foldlM gY (false,0,1)=.ok t.2.1/\aQ t.2.2 [(o2,.rows 3 [[.bool false,.aE,.aE]]),(o4,.rows 3 [(FV.rf t.2.1).cells])] []/\(FV.rf t.2.1).Ok) (λt=>l'' l-t.1)
  (0,(false,0,1),_) ⟨auK _,rfl,h2,⟨bA _,bA _,?_,?_⟩⟩ ?_ b_ ?_
 ·show(aM 0).length<=_;rw[gL];simp
 ·show(aM 1).length<=_;rw[qV];simp
 ·unfold vsF;exact Lq
 rintro⟨k,u,Z⟩ ⟨hk,Q,J,y⟩;simp only at hk Q J y ⊢;simp only[go_sem,Nj,Nn,vsF,auD];by_cases hlt:k<l'' l
 ·have w:(k:Int)<(l'' l:Nat):=Om;have hr:(l.map RF.cells)[k]?=some (l[k]).cells:=by simp[hlt]
  have A:=L.plus (FV.rf u) l[k] y (hl _ (auH hlt));rw[FV.QA]at A;have i:=ZJ (f:=gY) (l.map RF.v) (false,0,1) (k:=k) (by simpa using hlt);rw[Q]at i;simp only[Except.bind,awA]at i;have S:=J.at 1 rfl;simp only[go_sem,w];refine bV .nil (λ_ _=>some ([],λ_=>aJ (frV (gY u (l[k]).v)))) a_ ?_;simp only[go_sem,No,S,hr];refine cB rfl A rfl a_ ?_;cases O:gY u (l[k]).v with
  |error e=>
   have W:e≠0:=by
    revert O;obtain⟨n1,a1,b1⟩:=u;obtain⟨n2,a2,b2⟩:=(l[k]).v;simp only[gY,iU]
    repeat' split
    all_goals (intro h;first|(injection h with h;subst h;decide)|cases h)
   rw[O]at i;simp only[go_sem,frV];refine aS λo6 F=>?_;simp only[go_sem];refine⟨a_,?_⟩;have K:=J.new F (.rows 3 [[.bool false,aL [],aL []]]);have e2:=K.at 0 rfl;simp only[go_sem,x7,eZ W,Np,e2];rw[qS,ma _ _ i];refine iN ?_;simp only[go_sem]
  |ok r=>
   rw[O]at i;obtain⟨rn,M,N⟩:=r;simp only[go_sem,frV];refine aS λo6 F=>?_;simp only[go_sem];refine⟨a_,?_⟩;have K:=J.new F (.rows 3 [(FV.rf (rn,M,N)).cells]);have e6:=K.at 2 rfl;have U:=K.at 1 rfl;generalize hG:Z.set o6 (.rows 3 [(FV.rf (rn,M,N)).cells])=H6 at *
   have V:Z.set o6 (.rows 3 [[.bool rn,aL (aM M),aL (aM N)]])=H6:=hG;simp only[go_sem,x7,Nq,V,e6,U,Nr,wZz k];have h7:=(K.set 1 rfl (.rows 3 [(FV.rf (rn,M,N)).cells])).AJ 2;refine aF (k+1,(rn,M,N),_) ⟨hlt,i,h7,WY O⟩ sO_ ?_ b_;exact Lq
 ·have w:¬(k:Int)<(l'' l:Nat):=Om;have:k=l'' l:=Om;subst this;rw[auZ bC]at Q;rw[qS,Q];have e2:=J.at 0 rfl;have S:=J.at 1 rfl;obtain⟨n,a,b⟩:=u;simp only[go_sem,w,J9,S,e2];exact aY (.inr rfl) .nil (vs:=[.agg (FV.rf (n,a,b)).cells,.j 0]) Sq a_ ⟨.refl _,rfl⟩
theorem dge{n:Nat}(k:Nat):decide ((n:Int)>=(k:Int))=decide (k<=n):=decide_eq_decide.2 Om
theorem dle{n:Nat}(k:Nat):decide ((n:Int)<=(k:Int))=decide (n<=k):=decide_eq_decide.2 Om
theorem R6(n:Nat):WK.wp C (aX YM.res (aJ (.bool (gG n)))) (g_ [.int .u8 n]) .nil:=by
 have i:=dge (n:=n) 97;have l:=dle (n:=n) 122;have u:=dge (n:=n) 65;have w:=dle (n:=n) 90;simp only[Int.cast_ofNat_Int]at i l u w;unfold gG;generalize decide (97<=n)=a at *
 generalize decide (n<=122)=b at *
 generalize decide (65<=n)=c at *
 generalize decide (n<=90)=d at *
 cases a<;>cases b<;>cases c<;>cases d
 all_goals
  simp only[go_sem,WK,YM,i,l,u,w];refine dA ?_;rfl
theorem W3(n:Nat):bj.wp C (aX tg.res (aJ (.bool (pM n)))) (g_ [.int .u8 n]) .nil:=by
 have i:=dge (n:=n) 48;have l:=dle (n:=n) 57;simp only[Int.cast_ofNat_Int]at i l;unfold pM;generalize decide (48<=n)=a at *
 generalize decide (n<=57)=b at *
 cases a<;>cases b
 all_goals
  simp only[go_sem,bj,tg,i,l];refine dA ?_;rfl
theorem R4(i:∀n:Nat,aG C 65 [.int .u8 n] .nil (aJ (.bool (gG n))))(l:∀n:Nat,aG C 63 [.int .u8 n] .nil (aJ (.bool (pM n))))(n:Nat) :
  WI.wp C (aX YK.res (aJ (.bool (iI n)))) (g_ [.int .u8 n]) .nil:=by
 have g1:((n:Int)==45)=decide (n=45):=by by_cases h:n=45<;>simp[h];omega
 have g2:((n:Int)==46)=decide (n=46):=by by_cases h:n=46<;>simp[h];omega
 have k1:=i n;have k2:=l n;unfold iI;generalize decide (n=45)=a at *
 generalize decide (n=46)=b at *
 simp only[go_sem,WI,YK];refine aA k1 rfl ?_;cases gG n with
 |true =>simp only[go_sem];refine dA ?_;rfl
 |false=>
  simp only[go_sem];refine aA k2 rfl ?_;cases pM n<;>cases a<;>cases b
  all_goals
   simp only[go_sem,g1,g2];refine dA ?_;rfl
theorem R5(J:∀n:Nat,aG C 65 [.int .u8 n] .nil (aJ (.bool (gG n))))(K:∀n:Nat,aG C 64 [.int .u8 n] .nil (aJ (.bool (iI n))))(s:List UInt8) :
  WJ.wp C (aX YL.res (aJ (.bool (isName s)))) (g_ [.str s]) .nil:=by
 simp only[go_sem,WJ,YL];cases s with
 |nil =>have H:decide (((0:Nat):Int)<1)=true:=rfl;simp only[go_sem,avS,H];refine dA ?_;rfl
 |cons c t=>
  have M:(c::t)[0]?=some c:=rfl;have u:isName (c::t)=(decide ((c::t).length<=16)&&gG c.toNat&&(c::t).all λc=>iI c.toNat):=rfl;have l:¬(((c::t).length:Nat):Int)<1:=by simp only[avG];omega
  generalize c::t=s at *
  by_cases F:l'' s<=16
  ·have w:¬(l'' s:Int)>16:=Om;rw[bH F,auV]at u;have k1:=J c.toNat;simp only[go_sem,l,w,M,avB];refine aA k1 rfl ?_;cases E:gG c.toNat with
   |false =>simp only[go_sem,auY];refine dA ?_;rw[bO,u,E,auN]
   |true=>
    rw[E,auV]at u;simp only[go_sem,auO];refine wp_loop (α:=Nat) (λk=>((n_.set 0 (.str s)).set 3 (.j k))) (λ_=>.nil) (λk=>k<=l'' s/\(s.take k).all (λc=>iI c.toNat)=true) (λk=>l'' s-k) 0 ⟨auK _,rfl⟩ Lq a_ ?_;rintro k ⟨N,y⟩;simp only[go_sem];by_cases hlt:k<l'' s
    ·have i:(k:Int)<(l'' s:Nat):=Om;have A:s[k]?=some s[k]:=auP hlt;have k2:=K (s[k]).toNat;simp only[go_sem,i,A,avB];refine aA k2 rfl ?_;cases hi:iI (s[k]).toNat with
     |false =>simp only[go_sem,auY];refine dA ?_;rw[bO,u,sY hlt hi]
     |true =>simp only[go_sem,auO,wZz k];exact aF (k+1) ⟨hlt,by simpa using sX hlt y hi⟩ Om Lq b_
    have i:¬(k:Int)<(l'' s:Nat):=Om;have:k=l'' s:=Om;subst this;rw[avI]at y;simp only[go_sem,i];refine dA ?_;rw[bO,u,y]
  have w:(l'' s:Int)>16:=Om;rw[bT F,auN,auN]at u;simp only[go_sem,l,w];refine dA ?_;rw[bO,u]
def MU(k m:Int):Bool:=within k 1 6&&(within m 0 4&&decide (k+m<=8))
theorem abE(k m:Int):uN.wp C (aX ID.res (aJ (.bool (MU k m)))) (g_ [.j k,.j m]) .nil:=by
 unfold MU within;by_cases i:1<=k;by_cases l:k<=6;by_cases u:0<=m;by_cases w:m<=4;have y:i_.wrap (k+m)=k+m:=wrap_i64 Om Om;simp only[go_sem,uN,ID,ge_iff_le,i,l,u,w,y];refine dA ?_;simp[bO,i,l,u,w];simp only[go_sem,uN,ID,ge_iff_le,i,l,u,w];refine dA ?_;simp[bO,i,l,u,w];simp only[go_sem,uN,ID,ge_iff_le,i,l,u];refine dA ?_;simp[bO,i,l,u];simp only[go_sem,uN,ID,ge_iff_le,i,l];refine dA ?_;simp[bO,i,l];simp only[go_sem,uN,ID,ge_iff_le,i];refine dA ?_;simp[bO,i]
def vf:=bR [1] Proofs.Tryz.f40
def ch:=bX vf
def YO:=bR [] Proofs.Tryz.f73
def WW:=bX YO
def jY:=bR [1] Proofs.Tryz.f39
def jh:=aC jY 17
def RG:aK:=(fY (aC jY 18) 111 6 (aC jY 20) (.region (aC jY 19)))
def ji:=aC jY 21
def je:aK:=(fY (aC jY 15) 90 4 ji (sq (aC jY 16) (eH jh 6 RG)))
def jf:aK:=(fY (aC jY 13) 85 2 (aC jY 22) (eH (aC jY 14) 4 je))
def jg:aK:=(fY (aC jY 24) 141 8 (aC jY 27) (sq (aC jY 25) (.cond (Tm 148) (sq (aC jY 26) .ret) .skip)))
def jj:=aC jY 28
def Ca:aK:=(sq (aC jY 0) (sq (aC jY 1) (mM (aC jY 2) 41 (aC jY 3) (.seq (eH (aC jY 4) 0 (fY (aC jY 5) 44 0 (aC jY 8) (sq (aC jY 6) (.cond (Tm 66) (sq (aC jY 7) .ret) .skip)))) (.seq (sq (aC jY 9) (dq (eY jY 0) (.cond (Tm 80) (sq (aC jY 10) .ret) .skip))) (sq (aC jY 11) (.seq (eH (aC jY 12) 2 jf) (.seq (eH (aC jY 23) 8 jg) (sq jj .ret)))))))))
def Sh:=bR [] Proofs.Tryz.f77
def Cb:=bX Sh
def MH:=bR [] Proofs.Tryz.f36
def GZ:=bX MH
def ve:=bR [] Proofs.Tryz.f37
def cg:=bX ve
def RH:=bR [7] Proofs.Tryz.f41
def SC:=bX RH
def Sg:=bR [6,7] Proofs.Tryz.f42
def B9:=bX Sg
def vd:=bR [] Proofs.Tryz.f72
def cf:=bX vd
def dO:=bR [1] Proofs.Tryz.f15
def RI:aK:=(fY (aC dO 6) 61 0 (aC dO 9) (sq (aC dO 7) (.region (aC dO 8))))
def RJ:aK:=(fY (aC dO 11) 91 2 (aC dO 15) (sq (aC dO 12) (sq (aC dO 13) (.region (aC dO 14)))))
def RL:=aC dO 18
def ED:aK:=(fY (aC dO 19) 169 4 (aC dO 22) (sq (aC dO 20) (sq (aC dO 21) (.draw (eY dO 0)))))
def RM:=aC dO 23
def EE:aK:=(fY (aC dO 24) 227 6 (aC dO 28) (sq (aC dO 25) (sq (aC dO 26) (.region (aC dO 27)))))
def RN:=aC dO 29
def RK:aK:=(fY (aC dO 37) 344 12 (aC dO 38) (.draw (eY dO 2)))
def EF:aK:=(fY (aC dO 35) 329 10 (aC dO 39) (dq (eY dO 1) (eH (aC dO 36) 12 RK)))
def RP:=aC dO 40
def EG:aK:=(fY (aC dO 30) 278 8 RP (sq (aC dO 31) (sq (aC dO 32) (sq (aC dO 33) (eH (aC dO 34) 10 EF)))))
def RQ:=aC dO 41
def EH:aK:=(fY (aC dO 42) 368 14 (aC dO 44) (sq (aC dO 43) (.draw (eY dO 3))))
def RR:=aC dO 45
def ci:aK:=(sq (aC dO 0) (mM (aC dO 1) 53 (aC dO 2) (sq (aC dO 3) (sq (aC dO 4) (.seq (eH (aC dO 5) 0 RI) (.seq (eH (aC dO 10) 2 RJ) (sq (aC dO 16) (sq (aC dO 17) (.seq (eH RL 4 ED) (.seq (eH RM 6 EE) (.seq (eH RN 8 EG) (.seq (eH RQ 14 EH) (sq RR .ret)))))))))))))
def vb:=bR [8] Proofs.Tryz.f38
def ce:=bX vb
theorem Sj(n lo hi:Int):GZ.wp C (aX MH.res (aJ (.bool (within n lo hi)))) (g_ [.j n,.j lo,.j hi]) .nil:=by
 unfold within;by_cases h:lo<=n;simp only[go_sem,GZ,MH,ge_iff_le,h];refine dA ?_;simp[bO,h];simp only[go_sem,GZ,MH,ge_iff_le,h];refine dA ?_;simp[bO,h]
def tO(a b c d e f:Nat):Bool:=decide (a<=4)&&(decide (b<=4)&&(decide (c<=40)&&(decide (d<=24)&&(decide (e<=4)&&decide (f<=12)))))
theorem Xj(a b c d e f:Nat):cg.wp C (aX ve.res (aJ (.bool (tO a b c d e f)))) (g_ [.j a,.j b,.j c,.j d,.j e,.j f]) .nil:=by
 have g:∀x k:Nat,decide ((x:Int)<=(k:Int))=decide (x<=k):=λx k=>decide_eq_decide.2 Om;have i:=g a 4;have l:=g b 4;have u:=g c 40;have w:=g d 24;have h5:=g e 4;have y:=g f 12;simp only[Int.cast_ofNat_Int]at i l u w h5 y;unfold tO;simp only[go_sem,cg,ve,i];cases decide (a<=4)with
 |false =>simp only[go_sem];refine dA ?_;rfl
 |true=>
  simp only[go_sem,l];cases decide (b<=4)with
  |false =>simp only[go_sem];refine dA ?_;rfl
  |true=>
   simp only[go_sem,u];cases decide (c<=40)with
   |false =>simp only[go_sem];refine dA ?_;rfl
   |true=>
    simp only[go_sem,w];cases decide (d<=24)with
    |false =>simp only[go_sem];refine dA ?_;rfl
    |true=>
     simp only[go_sem,h5];cases decide (e<=4)with
     |false =>simp only[go_sem];refine dA ?_;rfl
     |true =>simp only[go_sem,y];refine dA ?_;rfl
structure js(C:Ctx):Prop extends Nw C where
 sum:∀l:List RF,(∀x∈l,x.Ok)->l'' l<=9223372036854775807->aG C 55 [frs l] .nil (aJ (frV (qS (l.map RF.v))))
 inn:∀n lo hi:Int,aG C 76 [.int .i64 n,.int .i64 lo,.int .i64 hi] .nil (aJ (.bool (within n lo hi)))
 code:∀k m:Int,aG C 61 [.int .i64 k,.int .i64 m] .nil (aJ (.bool (MU k m)))
def PC(k m q s0 s1 s2 s3 s4:Int):Bool:=MU k m&&(within q k (k+m)&&(decide (s0=0)&&(within s1 0 8&&(within s2 0 8&&(within s3 0 8&&within s4 0 8)))))
theorem agQ(p:cJ):PA p=PC p.k p.m p.atO p.s0 p.s1 p.s2 p.s3 p.s4:=by
 unfold PA PC MU;have:within p.s0 0 8=true\/p.s0≠0:=by by_cases h:p.s0=0;rw[h];exact .inl rfl;exact .inr h
 simp only[axP,List.all_nil,awP];rcases this with h|h
 rw[h];simp only[auV,ayC];simp only[h,decide_false,auN,awB]
def spR(s1 s2 s3 s4:Int)(k:Nat):Int:=match k with
 |1=>s1
 |2=>s2
 |3=>s3
 |_=>s4
theorem Lr(L:js C)(k m q s0 s1 s2 s3 s4:Int) :
  SC.wp C (aX RH.res (aJ (.bool (PC k m q s0 s1 s2 s3 s4)))) (g_ [.j k,.j m,.j q,.agg [.j s0,.j s1,.j s2,.j s3,.j s4]]) .nil:=by
 obtain⟨X,w⟩:∃X,PC k m q s0 s1 s2 s3 s4=X:=⟨_,rfl⟩;rw[w];unfold PC at w;simp only[go_sem,SC,RH];refine aA (L.code k m) rfl ?_;cases K:MU k m with
 |false =>rw[K,auN]at w;simp only[go_sem,auY];refine dA ?_;rw[bO,w]
 |true=>
  rw[K,auV]at w;have hb:1<=k/\k<=6/\0<=m/\m<=4:=by simp only[MU,auI,within_iff]at K;omega
  have W:i_.wrap (k+m)=k+m:=wrap_i64 Om Om;simp only[go_sem,auO,W];refine aA (L.inn q k (k+m)) rfl ?_;cases O:within q k (k+m)with
  |false =>rw[O,auN]at w;simp only[go_sem,auY];refine dA ?_;rw[bO,w]
  |true=>
   rw[O,auV]at w;have J:(0:Int)<((5:Nat):Int):=by decide
   by_cases M:s0=0
   ·rw[bH M,auV]at w;simp only[go_sem,auO,J,dM M];refine wp_loop (α:=Nat) (λj=>((n_.set 7 (.bQ [.j s0,.j s1,.j s2,.j s3,.j s4])).set 9 (.j j))) (λ_=>.nil) (λj=>1<=j/\j<=5/\∀i,1<=i->i<j->within (spR s1 s2 s3 s4 i) 0 8=true) (λj=>5-j) 1 ⟨by decide,by decide,λi K O=>by omega⟩ Lq a_ ?_;rintro j ⟨S,U,l⟩;simp only[go_sem];by_cases hlt:j<5
    ·have u:(j:Int)<5:=Om;have E:((j:Nat):Int)<((5:Nat):Int):=Om;have A:=L.inn (spR s1 s2 s3 s4 j) 0 8;obtain⟨c,y⟩:∃c,within (spR s1 s2 s3 s4 j) 0 8=c:=⟨_,rfl⟩;rw[y]at A;have F:c=true->∀i,1<=i->i<j+1->within (spR s1 s2 s3 s4 i) 0 8=true:=λH i a b=>by
      by_cases e:i=j
      ·rw[e,y,H]
      ·exact l i a Om
     have N:c=false->X=false:=by intro h;rw[h]at y;have H:j=1\/j=2\/j=3\/j=4:=Om;rw[<-w];rcases H with rfl|rfl|rfl|rfl<;>(simp only[spR]at y;rw[y];simp)
     have H:j=1\/j=2\/j=3\/j=4:=Om;cases c with
     |false=>
      have Q:=N rfl;rcases H with rfl|rfl|rfl|rfl
      all_goals
       simp only[spR]at A;simp only[go_sem,u,E];refine aA A rfl ?_;simp only[go_sem,auY];refine dA ?_;rw[bO,Q]
     |true=>
      have V:=F rfl;rcases H with rfl|rfl|rfl|rfl
      all_goals
       simp only[spR]at A;simp only[go_sem,u,E];refine aA A rfl ?_;simp only[go_sem,auO];refine aF (_+1) ⟨by omega,hlt,V⟩ Om Lq b_
    ·have u:¬(j:Int)<5:=Om;have:j=5:=Om;subst this;simp only[go_sem,u];refine dA ?_;have a1:=l 1 aU aU;have a2:=l 2 aU aU;have a3:=l 3 aU aU;have a4:=l 4 aU aU;simp only[spR]at a1 a2 a3 a4;rw[bO,<-w,a1,a2,a3,a4];rfl
   ·rw[bT M,auN]at w;simp only[go_sem,auO,J,eZ M];refine dA ?_;rw[bO,w]
theorem uB{x:RF}(h:dQ x=true):x.valid:=by
 unfold dQ oF at h;unfold RF.valid;cases i:cK (val x.num) (val x.den)with
 |true=>rfl
 |false =>rw[i]at h;simp at h
theorem Xk(L:js C)(x:RF)(E:x.Ok):ch.wp C (aX vf.res (aJ (.bool (dQ x)))) (g_ [.agg x.cells]) .nil:=by
 have A:=L.red x E;unfold dQ;simp only[go_sem,ch,vf];refine aA A rfl ?_;cases w:oF x with
 |error e =>have u:=im w;simp only[go_sem,frV];refine aS λo y=>?_;simp only[go_sem,bP u];refine dA ?_;rfl
 |ok r=>
  obtain⟨n,a,b⟩:=r;have F:=kC a 1;have H:=kC b 1;have i:decide (((nl a:Nat):Int)<=1)=decide (dC a<=32):=decide_eq_decide.2 Om;have l:decide (((nl b:Nat):Int)<=1)=decide (dC b<=32):=decide_eq_decide.2 Om;simp only[go_sem,frV];refine aS λo y=>?_;cases n with
  |true =>simp only[go_sem,auO];refine dA ?_;rfl
  |false=>
   simp only[go_sem,auY,auD,bD,i];cases decide (dC a<=32)with
   |false =>simp only[go_sem];refine dA ?_;rfl
   |true =>simp only[go_sem,auD,bD,l];refine dA ?_;rfl
structure vi(C:Ctx):Prop extends js C where
 small:∀x:RF,x.Ok->aG C 74 [.agg x.cells] .nil (aJ (.bool (dQ x)))
 nums:∀k m q s0 s1 s2 s3 s4:Int,aG C 72 [.int .i64 k,.int .i64 m,.int .i64 q,.agg [.int .i64 s0,.int .i64 s1,.int .i64 s2,.int .i64 s3,.int .i64 s4]] .nil (aJ (.bool (PC k m q s0 s1 s2 s3 s4)))
 sizes:∀a b c d e f:Nat,aG C 73 [.int .i64 a,.int .i64 b,.int .i64 c,.int .i64 d,.int .i64 e,.int .i64 f] .nil (aJ (.bool (tO a b c d e f)))
theorem mb{l:List RF}{k:Nat}(h:k<l'' l):(l.map RF.cells)[k]?=some (l[k]).cells:=by simp[h]
theorem Si(L:vi C)(l:List RF)(y:mG l)(n:Int):WW.wp C (aX YO.res (aJ (.bool (decide ((l'' l:Int)=n)&&l.all dQ)))) (g_ [frs l,.j n]) .nil:=by
 have A:=y.fits;unfold Fits at A;simp only[go_sem,WW,YO,auD];by_cases h:(l'' l:Int)=n;rw[bH h,auV];subst h;simp only[go_sem,dM (show(l'' l:Int)=(l'' l:Nat)from rfl)];refine wp_loop (α:=Nat) (λk=>(((n_.set 0 (frs l)).set 1 (.j (l'' l:Nat))).set 5 (.j k))) (λ_=>.nil) (λk=>k<=l'' l/\(l.take k).all dQ=true) (λk=>l'' l-k) 0 ⟨auK _,rfl⟩ Lq a_ ?_;rintro k ⟨F,u⟩;simp only[go_sem];by_cases hlt:k<l'' l
 ·have i:(k:Int)<(l'' l:Nat):=Om;have E:=L.small l[k] (y.all _ (auH hlt));simp only[go_sem,i,mb hlt];refine aA E rfl ?_;cases hi:dQ l[k]with
  |false =>simp only[go_sem,auY];refine dA ?_;rw[bO,sY hlt hi]
  |true =>have w:=auX.1 (sX hlt u hi);simp only[go_sem,auO,wZz k];exact aF (k+1) ⟨hlt,w⟩ Om Lq b_
 have i:¬(k:Int)<(l'' l:Nat):=Om;have:k=l'' l:=Om;subst this;rw[avI]at u;simp only[go_sem,i];refine dA ?_;rw[bO,u];rw[bT h,auN];simp only[go_sem,eZ h];refine dA ?_;rfl
structure vj(C:Ctx):Prop extends vi C where
 smalls:∀l:List RF,mG l->∀n:Int,aG C 75 [frs l,.int .i64 n] .nil (aJ (.bool (decide ((l'' l:Int)=n)&&l.all dQ)))
theorem QF(x:RF):(rN x==0)=!bW x:=by
 unfold rN bW;by_cases h:val x.num=0;simp[h];cases x.neg<;>simp[h]
def io(l:List RF)(m:Int):Bool:=decide ((l'' l:Int)=max m 1)&&l.all dQ&&l.all bW
theorem aiG(L:vj C)(l:List RF)(E:mG l)(m:Int):Cb.wp C (aX Sh.res (aJ (.bool (io l m)))) (g_ [frs l,.j m]) .nil:=by
 have H:=E.fits;unfold Fits at H;have K:=L.smalls l E (max m 1);unfold io;simp only[go_sem,Cb,Sh,max_eq];refine aA K rfl ?_;cases h:(decide ((l'' l:Int)=max m 1)&&l.all dQ)with
 |false =>simp only[go_sem,auY];refine dA ?_;rfl
 |true=>
  rw[auI]at h;have u:=auX.1 h.2;simp only[go_sem,auO];refine wp_loop (α:=Nat) (λk=>((n_.set 0 (frs l)).set 5 (.j k))) (λ_=>.nil) (λk=>k<=l'' l/\(l.take k).all bW=true) (λk=>l'' l-k) 0 ⟨auK _,rfl⟩ Lq a_ ?_;rintro k ⟨M,y⟩;simp only[go_sem,auD];by_cases hlt:k<l'' l
  ·have i:(k:Int)<(l'' l:Nat):=Om;have F:=auH hlt;have J:=L.sign l[k] (E.all _ F) (uB (u _ F));have w:=QF l[k];simp only[go_sem,i,mb hlt];refine aA J rfl ?_;cases hi:bW l[k]with
   |false =>rw[hi]at w;simp only[go_sem,w,auY];refine dA ?_;rw[bO,sY hlt hi]
   |true =>rw[hi]at w;have A:=auX.1 (sX hlt y hi);simp only[go_sem,w,auO,wZz k];exact aF (k+1) ⟨hlt,A⟩ Om Lq b_
  have i:¬(k:Int)<(l'' l:Nat):=Om;have:k=l'' l:=Om;subst this;rw[avI]at y;simp only[go_sem,i];refine dA ?_;rw[bO,y]
structure vk(C:Ctx):Prop extends vj C where
 reps:∀l:List RF,mG l->∀m:Int,aG C 66 [frs l,.int .i64 m] .nil (aJ (.bool (io l m)))
def frD:V_->RF
 |[.bool n,a,b]=>⟨n,jU a,jU b⟩
 |_=>⟨false,[],[]⟩
theorem zd(x:RF):frD x.cells=x:=by
 show(⟨x.neg,jU (aL x.num),jU (aL x.den)⟩:RF)=x;rw[eW,eW]
def zdS(r s:Bool):Spec:=λname vs=>match name,vs with
 |66,_=>some ([],λ_=>aJ (.bool r))
 |74,[.agg cs]=>some ([],λ_=>aJ (.bool (dQ (frD cs))))
 |47,_=>some ([],λ_=>aJ (.agg (mkT 1 1).cells))
 |49,_=>some ([],λ_=>aJ (.bool s))
 |_,_=>none
theorem B8(r s:Bool)(x:RF):zdS r s 74 [.agg x.cells]=some ([],λ_=>aJ (.bool (dQ x))):=by
 show some ([],λ_=>aJ (.bool (dQ (frD x.cells))))=_;rw[zd]
theorem Vf(x y:RF):qO y x=- qO x y:=by
 unfold qO rJ;have e:=SU (val x.num*val y.den) (val y.num*val x.den);cases x.neg&&decide (val x.num≠0)<;>cases y.neg&&decide (val y.num≠0)<;>simp only[e,Int.neg_neg]<;>rfl
theorem aaG{x:RF}(i:x.valid):decide (qO (mkT 1 1) x<0)=!CH x:=by
 rw[Vf x];unfold CH;rw[show cK (val x.num) (val x.den)=true from i,auV,LJ];unfold qO;simp only[aV,show(1:Int).natAbs=1 from rfl,show decide ((1:Int)<0)=false from rfl];by_cases h:rJ x.neg (val x.num) (val x.den) false 1 1<=0;rw[bH h,bT Om];rfl;rw[bT h,bH Om];rfl
def TI(m:Int)(rep:List RF)(t h:RF):Bool:=io rep m&&(dQ t&&(CH t&&dQ h))
theorem aiE(L:vk C)(m:Int)(rep:List RF)(A:mG rep)(t h:RF)(w:t.Ok)(y:h.Ok) :
  B9.wp C (aX Sg.res (aJ (.bool (TI m rep t h)))) (g_ [.j m,frs rep,.agg t.cells,.agg h.cells]) .nil:=by
 have l:dS 1:=by unfold dS;omega
 unfold TI;simp only[go_sem,B9,Sg];refine bV .nil (zdS (io rep m) (!CH t)) a_ ?_;simp only[go_sem];refine cB rfl (L.reps rep A m) rfl a_ ?_;cases io rep m with
 |false =>simp only[go_sem];refine dA ?_;rfl
 |true=>
  simp only[go_sem];refine cB (B8 _ _ t) (L.small t w) rfl a_ ?_;cases u:dQ t with
  |false =>simp only[go_sem];refine dA ?_;rfl
  |true=>
   have i:=L.less (mkT 1 1) t (LH 1 l).1 w (LH 1 l).2 (uB u);rw[aaG (uB u)]at i;simp only[go_sem];refine cB rfl (L.int 1 l) rfl a_ ?_;simp only[go_sem];refine cB rfl i rfl a_ ?_;cases CH t with
   |false =>simp only[go_sem,auY,auO];refine dA ?_;rfl
   |true =>simp only[go_sem,auO,auY];refine cB (B8 _ _ h) (L.small h y) rfl a_ ?_;simp only[go_sem];refine dA ?_;rfl
theorem ajJ(p:cJ):HW p=TI p.m p.repair p.target p.asZ:=by
 unfold HW TI io;have:(p.repair.all λx=>dQ x&&bW x)=(p.repair.all dQ&&p.repair.all bW):=by
  induction p.repair with
  |nil=>rfl
  |cons a t i =>simp only[axP,i];cases dQ a<;>cases bW a<;>simp
 rw[this];simp only[ayC]
section
variable {H:PH} {B:List BX} {L:List LI}
theorem aQ.N2(h:aQ H B L)(i:Nat){s b:Nat}{v y:PV}{rows src:P2_}{K:R_}(hi:L[i]?=some (v,s,rows))(J:dP H s y=some src)(F:roomFor rows.length src.length b)
  (w:∀v' H',cF H' s v rows->aQ H' B (L.set i (v',s,rows++src))->K v' H'):mJ H s b v y K:=by
 rcases h.own i hi with⟨rfl,rfl⟩|⟨q,rs,rfl,h1,h2,h3⟩
 exact h.append i hi J F λv' H' M _=>w v' H' (.inl ⟨rfl,rfl⟩) M;have l:(rows++src).length=l'' rows+l'' src:=auJ;refine⟨src,J,rfl,rfl,F,rs,h1,h2,?_,λo u=>?_⟩;rw[h3];refine w _ _ (.inr ⟨q,rows++src,rfl,by rw[cA],by rw[l];omega,List.take_left' rfl⟩) (h.IH i hi (.inr ⟨q,rows++src,by rw[l],by simp only[aT,if_true],auG _,avI⟩) (λp hp=>by cases hp;exact .inl rfl) λp _ hp=>?_);rw[aT,aB (hp q rfl)];rw[h3];have E:q≠o:=by rintro rfl;rw[h1]at u;cases u
 refine w _ _ (.inr ⟨q,rs,rfl,by rw[aT,aB E];exact h1,h2,h3⟩) (h.IH i hi (.inr ⟨o,rows++src,by rw[l],by simp only[aT,if_true],auG _,avI⟩) (λp hp=>by cases hp;exact .inr u) λp A hp=>?_);obtain⟨f1,f2⟩:=h.fresh u;have N:p≠o:=by rintro rfl;exact A.elim f1 f2
 rw[aT,aB N]
end
abbrev pW(l:List (List UInt8)):P2_:=l.map λs=>[PV.str s]
def GA:List (List UInt8)->List UInt8->Nat->Int
 |[],_,_=>-1
 |x::t,s,i=>if x==s then(i:Int)else GA t s (i+1)
theorem Gg(s:List UInt8):∀(l:List (List UInt8)) (i:Nat),decide (GA l s i<0)=!l.contains s
 |[],i=>rfl
 |x::t,i=>by rw[GA,List.contains_cons,BEq.comm (a:=s)];by_cases h:(x==s)=true;rw[aD h,h,Bool.true_or,bT Om];rfl;rw[aB h,Gg s t (i+1)];simp only[Bool.not_eq_true]at h;rw[h,Bool.false_or]
theorem Xh(l:List (List UInt8))(E:l'' l<=1000000)(s:List UInt8):cf.wp C (aX vd.res (aJ (.j (GA l s 0)))) (g_ [.sl 1 (pW l),.str s]) .nil:=by
 simp only[go_sem,cf,vd];refine wp_loop (α:=Nat) (λk=>(((n_.set 0 (.sl 1 (pW l))).set 1 (.str s)).set 5 (.j k))) (λ_=>.nil) (λk=>k<=l'' l/\GA l s 0=GA (l.drop k) s k) (λk=>l'' l-k) 0 ⟨auK _,rfl⟩ Lq a_ ?_;rintro k ⟨A,u⟩;simp only[go_sem,auD];by_cases hlt:k<l'' l
 ·have i:(k:Int)<(l'' l:Nat):=Om;have w:(pW l)[k]?=some [.str l[k]]:=by simp[hlt]
  rw[awS hlt,GA]at u;cases y:l[k]==s with
  |true =>rw[y,aD rfl]at u;simp only[go_sem,i,w,y];refine dA ?_;rw[bO,u]
  |false =>rw[y,aB aU]at u;simp only[go_sem,i,w,y,wZz k];exact aF (k+1) ⟨hlt,u⟩ Om Lq b_
 have i:¬(k:Int)<(l'' l:Nat):=Om;have:k=l'' l:=Om;subst this;rw[List.drop_length,GA]at u;simp only[go_sem,i];refine dA ?_;rw[bO,u]
structure vm(C:Ctx):Prop extends vk C where
 name:∀s:List UInt8,aG C 62 [.str s] .nil (aJ (.bool (isName s)))
 index:∀(l:List (List UInt8)),l'' l<=1000000->∀s:List UInt8,aG C 71 [.sl 1 (pW l),.str s] .nil (aJ (.int .i64 (GA l s 0)))
def lH(l:List (List UInt8))(s:List UInt8):Bool:=isName s&&!l.contains s
def jm(l:List (List UInt8))(s:List UInt8)(r:PV)(B:List BX)(L:List LI):Prop:=∃i,r=.tup [i,.bool (lH l s)]/\B=[]/\L=[(i,1,pW (l++[s]))]
theorem Xg(L:vm C)(l:List (List UInt8))(W:l'' l<=1000000)(s:List UInt8)(w:PV)(H:PH)(U:aQ H [] [(w,1,pW l)]) :
  ce.wp C (aX vb.res (λr H'=>∃B' L',jm l s r B' L'/\aQ H' B' L')) (g_ [w,.str s]) H:=by
 have A:=L.index l W s;have N:=L.name s;have u:=Gg s l 0;have M:(1:Nat)*1<=16777216:=by decide
 have fin:∀(F:PF)(H':PH)(i:PV)(b:Bool),F 4=some i->F 5=some (.bool b)->b=lH l s->aQ H' [] [(i,1,pW (l++[s]))]->aX [.tmp 4,.tmp 5] (λr H'=>∃B' L',jm l s r B' L'/\aQ H' B' L') .ret F H':=λF H' i b Q S e K=>
  aY (vs:=[i,.bool b]) (.inr rfl) H' (by simp only[go_sem,Q,S]) b_ ⟨[],_,⟨i,by rw[e];rfl,rfl,rfl⟩,K⟩
 simp only[go_sem,ce,vb,M];refine U.N2 0 (src:=[[.str s]]) rfl rfl (by unfold roomFor;rw[auD];simp only[auS,maxLen];omega) λi H' V K=>?_;have y:aQ H' [] [(i,1,pW (l++[s]))]:=by
  have e:pW (l++[s])=pW l++[[.str s]]:=by simp[pW]
  rw[e];exact K
 refine aA N rfl ?_;cases O:isName s with
 |false =>simp only[go_sem];exact fin _ _ i false rfl rfl (by unfold lH;rw[O,auN]) y
 |true=>
  have E:lH l s=!l.contains s:=by unfold lH;rw[O,auV]
  rcases V with⟨Y,rfl⟩|⟨q,rs,rfl,q1,q2,q3⟩
  simp only[go_sem];rw[Y]at A;have J:aG C 71 [.aE,.str s] .nil (aJ (.j (GA l s 0))):=A.args (.cons (.nil 1) (.cons (.refl _) .nil));refine aA J rfl ?_;simp only[go_sem,u];exact fin _ _ i _ rfl rfl E.symm y;simp only[go_sem];refine Lj (vs:=[.osl q 1 0 (pW l).length,.str s]) (.int .i64 (GA l s 0)) ?_ q1 Sq ?_;rw[avH,avH,avY,zS q2,q3];exact A;simp only[go_sem,u];exact fin _ _ i _ rfl rfl E.symm y
theorem V9{x:RF}(h:dQ x=true):decide (rN x>0)=bW x:=by
 have l:=uB h;unfold dQ oF at h;rw[show cK (val x.num) (val x.den)=true from l,aD rfl,d7 l]at h;unfold rN bW;by_cases i:val x.num=0;simp[i];have w:val x.num/auF (val x.num) (val x.den)≠0:=by have:=Nat.div_pos (Nat.gcd_le_left (val x.den) (axJ i)) (Nat.gcd_pos_of_pos_left _ (axJ i));omega
 have u:x.neg=false:=by unfold nZ at h;simp only[w,ne_eq,not_false_eq_true,decide_true,awP,auI]at h;simpa using h.1
 rw[aB i,u];simp[i]
structure Ea(l:cT):Prop where
 exit:∀x∈l.exit,dQ x=true
 row:∀r∈l.asU,∀x∈r,dQ x=true
structure tT(C:Ctx):Prop extends vm C where
 fresh:∀(l:List (List UInt8)),l'' l<=1000000->∀(s:List UInt8)(w:PV)(H:PH),aQ H [] [(w,1,pW l)]->aG C 70 [w,.str s] H (λr H'=>∃B' L',jm l s r B' L'/\aQ H' B' L')
theorem tT.pos(L:tT C){x:RF}(i:x.Ok)(h:dQ x=true):∃n:Int,aG C 54 [.agg x.cells] .nil (aJ (.j n))/\decide (n>0)=bW x:=⟨_,L.sign x i (uB h),V9 h⟩
def zlF(l:cT)(o r i:Nat):PF:=(((((n_.set 1 (.bQ l.cells)).set 3 (.int .i64 (l'' l.exit:Nat))).set 7 (.osl o 1 0 l.exit.length)).set 8 (.int .i64 r)).set 9 (.int .i64 i))
theorem acO(L:tT C)(l:cT)(o r i:Nat)(row:List RF)(Y:(l.asU.map λr=>[frs r])[i]?=some [frs row])(S:mG row)(Q:∀x∈row,dQ x=true)(γ:l'' row=l'' l.exit)(hi:i<l'' l.exit)(hn:l'' l.exit<=4)(w:List Bool)(hR:l'' w=l'' l.exit)(K:cH)[Up K](F:PF)(H:PH)
  (V:((zlF l o r i).set 10 (.j 0)).le F) (U:(kE o w).le H)
  (hK:K (.exit 6) (zlF l o r i) (kE o (dH w i row row.length))):aK.wp C (.loop RG) K F H:=by
 refine wp_loop (α:=Nat) (λk=>(zlF l o r i).set 10 (.j k)) (λk=>kE o (dH w i row k)) (λk=>k<=l'' row) (λk=>l'' row-k) 0 (auK _) V U ?_;intro k hk;have β:=yS w i row k;have M:∀h:k<l'' row,dH w i row (k+1)=(dH w i row k).set i ((dH w i row k).getD i false||bW row[k]&&(dH w i row k).getD k false):=λh=>by simp only[dH,auM,avC,auP h,avB,axC]
 have fin:∀(b:Bool)(F:PF)(H:PH),k<l'' row->eK (dH w i row (k+1))=(eK (dH w i row k)).set i [.bool b]->((zlF l o r i).set 10 (.j (k+1:Nat))).le F->H o=some (.rows 1 ((eK (dH w i row k)).set i [.bool b])) ->
   iF (λk:Nat=>(zlF l o r i).set 10 (.j k)) (λk=>kE o (dH w i row k)) (λk=>k<=l'' row) (λk=>l'' row-k) (l'' row-k) K .normal F H:=by
  intro b F H hlt hb V U;refine aF (k+1) hlt Om V ?_;rw[<-hb]at U;exact c_ a_ U
 unfold zlF kE at fin;simp only[go_sem,RG,zlF,kE];by_cases hlt:k<l'' row
 ·have u:(k:Int)<(l'' l.exit:Nat):=Om;have J:(i:Int)<(l'' l.exit:Nat):=Om;have E:=vX (R:=dH w i row k) (i:=i) Om;have N:=vX (R:=dH w i row k) (i:=k) Om;have y:=M hlt;obtain⟨n,Z,O⟩:=L.pos (S.all _ (auH hlt)) (Q _ (auH hlt));have W:=mb hlt;generalize hb:(dH w i row k).getD i false=b at *
  generalize hc:(dH w i row k).getD k false=c at *
  generalize hA:bW row[k]=A at *
  cases b with
  |true =>simp only[go_sem,u,J,avA,E,wZz k];exact fin true _ _ hlt (by rw[y,mU,Bool.true_or]) Lq Sq
  |false=>
   simp only[go_sem,u,J,avA,E,Y,W];refine aA Z rfl ?_;cases A with
   |false =>simp only[go_sem,O,J,u,avA,E,N,wZz k];exact fin false _ _ hlt (by rw[y,mU,Bool.false_or,auN]) Lq Sq
   |true =>simp only[go_sem,O,J,u,avA,E,N,wZz k];exact fin c _ _ hlt (by rw[y,mU,Bool.false_or,auV]) Lq Sq
 have u:¬(k:Int)<(l'' l.exit:Nat):=Om;have:k=l'' row:=Om;subst this;simp only[go_sem,u];refine Up.up ?_ hK
 (repeat' (first|exact e_|refine d_ ?_ ?_))<;>first|(simp only[go_sem,zlF]<;>rfl)|rfl
theorem acQ(L:tT C)(l:cT)(Z:l.Ok)(V:HA l)(hm:Ea l)(o r:Nat)(R:List Bool)(hR:l'' R=l'' l.exit)(K:cH)[Up K](F:PF)(H:PH)
  (S:(zlF l o r 0).le F) (U:(kE o R).le H)
  (hK:K (.exit 4) (zlF l o r l.exit.length) (kE o (dT l R l.exit.length))):aK.wp C (.loop je) K F H:=by
 refine wp_loop (α:=Nat) (λi=>zlF l o r i) (λi=>kE o (dT l R i)) (λi=>i<=l'' l.exit) (λi=>l'' l.exit-i) 0 (auK _) S U ?_;intro i hi;have β:=uL l R i;have hn:=V.n;simp only[go_sem,je,zlF,kE];by_cases hlt:i<l'' l.exit
 ·have u:(i:Int)<(l'' l.exit:Nat):=Om;have y:i<l'' l.asU:=by rw[V.asU];exact hlt
  have E:=vX (R:=dT l R i) (i:=i) Om;have hx:=mb hlt;have O:(l.asU.map λr=>[frs r])[i]?=some [frs l.asU[i]]:=by simp[y]
  have W:(l.asU[i]).length=l'' l.exit:=V.row _ (auH y);generalize A:(dT l R i).set i ((dT l R i).getD i false||bW l.exit[i])=Q;have M:l'' Q=l'' l.exit:=by rw[<-A,avT];omega
  have J:dT l R (i+1)=dH Q i l.asU[i] (l.asU[i]).length:=by
   simp only[dT,nM];have e1:(l.exit.map bW).getD i false=bW l.exit[i]:=by simp[auM,hlt]
   have e2:l.asU.getD i []=l.asU[i]:=by simp[auM,y]
   rw[e1,e2,A]
  obtain⟨n,Y,N⟩:=L.pos (Z.exit.all _ (auH hlt)) (hm.exit _ (auH hlt));have rest:∀(F:PF)(H:PH),(zlF l o r i).le F->H o=some (.rows 1 (eK Q)) ->
    aK.wp C (.seq (.region jh) (.block 6 (.loop RG))) (fX 5 (jB C (aK.wp C (.region ji)) (iF (λi:Nat=>zlF l o r i) (λi=>kE o (dT l R i)) (λi=>i<=l'' l.exit) (λi=>l'' l.exit-i) (l'' l.exit-i) K))) F H:=by
   intro F H S U;refine sT _ (λ_ _ _ _ a b=>Up.up a b) S ?_;simp only[go_sem,jh];refine acO L l o r i l.asU[i] O (Z.row _ (auH y)) (hm.row _ (auH y)) W hlt hn Q M _ _ _ (by(repeat' (first|exact e_|refine d_ ?_ ?_))<;>first|(simp only[go_sem,zlF]<;>rfl)|rfl) (c_ a_ U) ?_;simp only[go_sem,zlF,ji,wZz i];exact aF (i+1) hlt Om Lq (by rw[J];exact b_)
  simp only[zlF,kE]at rest;have w:=rest;simp only[aK.wp,go_sem]at w;generalize hb:(dT l R i).getD i false=b at *
  cases b with
  |true =>simp only[go_sem,u,u,avA,E];refine w _ _ Lq ?_;rw[<-A];simp only[go_sem,mU,Bool.true_or]
  |false =>simp only[go_sem,u,u,avA,E,hx];refine aA Y rfl ?_;simp only[go_sem,u,avA,E,N];refine w _ _ Lq ?_;rw[<-A];simp only[go_sem,mU,Bool.false_or]
 have u:¬(i:Int)<(l'' l.exit:Nat):=Om;have:i=l'' l.exit:=Om;subst this;simp only[go_sem,u];exact Up.up (by(repeat' (first|exact e_|refine d_ ?_ ?_))<;>first|(simp only[go_sem,zlF]<;>rfl)|rfl) hK
theorem acP(L:tT C)(l:cT)(J:l.Ok)(w:HA l)(M:Ea l)(o:Nat)(K:cH)[Up K](F:PF)(H:PH)
  (y:(((((n_.set 1 (.bQ l.cells)).set 3 (.j (l'' l.exit:Nat))).set 7 (.osl o 1 0 l.exit.length)).set 8 (.j 0)):PF).le F) (A:(kE o (dV l 0)).le H)
  (E:K (.exit 2) (((n_.set 3 (.j (l'' l.exit:Nat))).set 7 (.osl o 1 0 l.exit.length))) (kE o (dV l l.exit.length))):aK.wp C (.loop jf) K F H:=by
 have N:=w.n;refine wp_loop (α:=Nat) (λr=>((((n_.set 1 (.bQ l.cells)).set 3 (.j (l'' l.exit:Nat))).set 7 (.osl o 1 0 l.exit.length)).set 8 (.j r))) (λr=>kE o (dV l r)) (λr=>r<=l'' l.exit) (λr=>l'' l.exit-r) 0 (auK _) y A ?_;intro r O;have u:=uK l r;simp only[go_sem,jf];by_cases hlt:r<l'' l.exit;have i:(r:Int)<(l'' l.exit:Nat):=Om;simp only[go_sem,i];refine acQ L l J w M o r (dV l r) u _ _ _ (by(repeat' (first|exact e_|refine d_ ?_ ?_))<;>first|(simp only[go_sem,zlF]<;>rfl)|rfl) b_ ?_;simp only[go_sem,zlF,wZz r];exact aF (r+1) hlt Om Lq b_;have i:¬(r:Int)<(l'' l.exit:Nat):=Om;have:r=l'' l.exit:=Om;subst this;simp only[go_sem,i];exact Up.up Lq E
theorem alK(R:List Bool)(O:l'' R<=4)(o:Nat)(X:Bool)(M:X=R.all id)(Q:R_)(K:Q=aJ (.bool X))(F:PF)(H:PH)
  (E:((((n_.set 3 (.j (l'' R:Nat))).set 7 (.osl o 1 0 R.length)).set 11 (.j 0)):PF).le F) (J:(kE o R).le H):aK.wp C (.loop jg) (fX 8 (jB C (aK.wp C (.seq (.region jj) .ret)) (aX [.tmp 2] Q))) F H:=by
 subst M K;refine wp_loop (α:=Nat) (λk=>(((n_.set 3 (.j (l'' R:Nat))).set 7 (.osl o 1 0 R.length)).set 11 (.j k))) (λ_=>kE o R) (λk=>k<=l'' R/\(R.take k).all id=true) (λk=>l'' R-k) 0 ⟨auK _,rfl⟩ E J ?_;rintro k ⟨S,y⟩;simp only[go_sem,jg,kE];by_cases hlt:k<l'' R
 ·have l:(k:Int)<(l'' R:Nat):=Om;have u:=vX (R:=R) (i:=k) hlt;have N:R.getD k false=R[k]:=by simp[auM,hlt]
  rw[N]at u;cases w:R[k]with
  |false =>rw[w]at u;simp only[go_sem,l,avA,u,auY];refine dA ?_;rw[bO,sY hlt (p:=id) w]
  |true =>rw[w]at u;have A:=sX hlt y (p:=id) w;simp only[go_sem,l,avA,u,auO,wZz k];exact aF (k+1) ⟨hlt,by simpa using auX.1 A⟩ Om Lq b_
 have l:¬(k:Int)<(l'' R:Nat):=Om;have:k=l'' R:=Om;subst this;rw[avI]at y;simp only[go_sem,l,jj];refine dA ?_;rw[bO,y]
def Marks(R S:List Bool):Prop:=l'' R=l'' S/\∀j:Nat,R[j]?=some true->S[j]?=some true
theorem Marks.akO(R:List Bool):Marks R R:=⟨rfl,λ_ h=>h⟩
theorem Marks.trans{R S T:List Bool}(h:Marks R S)(k:Marks S T):Marks R T:=⟨h.1.trans k.1,λj a=>k.2 j (h.2 j a)⟩
theorem Gz(R:List Bool)(i:Nat)(b:Bool):Marks R (R.set i (R.getD i false||b)):=by
 refine⟨by rw[avT],λj h=>?_⟩;rw[ayG];obtain⟨l,u⟩:=avP.1 h;split;rename_i e;subst e;rw[aD l,auM,h];rfl;exact h
theorem Aa(R:List Bool)(i:Nat)(row:List RF):∀k,Marks R (dH R i row k)
 |0=>Marks.akO R
 |k+1=>(Aa R i row k).trans (Gz _ _ _)
theorem IW(l:cT)(R:List Bool):∀i,Marks R (dT l R i)
 |0=>Marks.akO R
 |i+1=>(IW l R i).trans ((Gz _ _ _).trans (Aa _ _ _ _))
theorem G7:∀{R S:List Bool},Marks R S->R≠S->R.count true<S.count true
 |[],[],_,h=>absurd rfl h
 |[],_::_,h,_=>by have:=h.1;simp at this
 |_::_,[],h,_=>by have:=h.1;simp at this
 |a::R,b::S,h,i=>by
  have l:a=true->b=true:=λe=>by have:=h.2 0 (by rw[e];rfl);simpa using this
  have w:Marks R S:=⟨by have:=h.1;simpa using this,λj u=>by have:=h.2 (j+1) (by simpa using u);simpa using this⟩;by_cases e:R=S;subst e;have:a≠b:=λe=>i (by rw[e]);cases a<;>cases b<;>simp at this l ⊢;have:=G7 w e;cases a<;>cases b<;>simp at l ⊢<;>omega
theorem ki:∀{R:List Bool},l'' R<=R.count true->R.all id=true
 |[],_=>rfl
 |a::R,h=>by
  have i:=List.count_le_length (a:=true) (l:=R);cases a with
  |true =>simp only[List.count_cons_self,avG]at h;simp only[axP,id,auV];exact ki Om
  |false =>simp at h;omega
theorem PS(l:cT){s:Nat}(h:dV l (s+1)=dV l s):∀d,dV l (s+d)=dV l s
 |0=>rfl
 |d+1=>by show dT l (dV l (s+d)) l.exit.length=_;rw[PS l h d];exact h
theorem qe(l:cT):∀r,(∃s,s<r/\dV l (s+1)=dV l s)\/r<=(dV l r).count true
 |0=>.inr (auK _)
 |r+1=>by
  rcases qe l r with⟨s,u,i⟩|h
  exact .inl ⟨s,by omega,i⟩;by_cases e:dV l (r+1)=dV l r;exact .inl ⟨r,by omega,e⟩;have:=G7 (IW l (dV l r) l.exit.length) (λh=>e h.symm);exact .inr (by show r+1<=(dT l (dV l r) l.exit.length).count true;omega)
theorem aeO(l:cT):sN l=(dV l l.exit.length).all id:=by
 unfold sN;rcases qe l l.exit.length with⟨s,H,u⟩|h
 obtain⟨d,E⟩:∃d,l'' l.exit=s+d:=⟨l'' l.exit-s,by omega⟩;rw[show l.exit.length+1=s+(d+1) by omega,E,PS l u,PS l u];have w:(dV l l.exit.length).all id=true:=ki (by rw[uK];exact h);have A:Marks (dV l l.exit.length) (dV l (l'' l.exit+1)):=IW l (dV l l.exit.length) l.exit.length;rw[w,auX];intro x F;obtain⟨j,y,rfl⟩:=awI F;have i:j<(dV l l.exit.length).length:=by rw[A.1];exact y
 have:=A.2 j (by rw[auP i];have:=auX.1 w _ (auH i);simpa using this);rw[auP y]at this;simpa using this
def zsS(s:Bool):Spec:=λname vs=>match name,vs with
 |47,_=>some ([],λ_=>aJ (.agg (mkT 1 1).cells))
 |53,_=>some ([],λ_=>aJ (.bool s))
 |_,_=>none
theorem Zn(l:cT):mW l=(within l.start.length 1 4&&((decide ((l'' l.start:Int)=l'' l.start)&&l.start.all dQ)&&((decide ((l'' l.exit:Int)=l'' l.start)&&l.exit.all dQ)&&(decide (l'' l.asU=l'' l.start)&&((auE l.asU.length).all (wJ l)&&(AF l&&sN l)))))):=by
 rw[Mi,bH (rfl:(l'' l.start:Int)=l'' l.start),auV];have:decide (l'' l.exit=l'' l.start)=decide ((l'' l.exit:Int)=l'' l.start):=decide_eq_decide.2 Om;rw[this];cases within l.start.length 1 4<;>cases decide ((l'' l.exit:Int)=l'' l.start)<;>cases decide (l'' l.asU=l'' l.start)<;>cases l.start.all dQ<;>cases l.exit.all dQ<;>simp[ayC]
theorem I5(l:cT){i:Nat}(h:i<l'' l.asU):wJ l i=((decide (((l.asU[i]).length:Int)=l'' l.start)&&(l.asU[i]).all dQ)&&!((l.asU[i]).map bW).getD i false):=by
 unfold wJ;have:l.asU.getD i []=l.asU[i]:=by simp[auM,h]
 rw[this];have:decide ((l.asU[i]).length=l'' l.start)=decide (((l.asU[i]).length:Int)=l'' l.start):=decide_eq_decide.2 Om;rw[this]
theorem aiF(L:tT C)(l:cT)(U:l.Ok):Ca.wp C (aX jY.res (aJ (.bool (mW l)))) (g_ [.agg l.cells]) .nil:=by
 have u:=Zn l;have fail:∀(F:PF)(H:PH),mW l=false->F 2=some (.bool false)->aX [.tmp 2] (aJ (.bool (mW l))) .ret F H:=λF H e h=>by rw[e];exact aY (vs:=[.bool false]) (.inr rfl) .nil (by simp only[go_sem,h]) a_ ⟨rfl,rfl⟩
 have e1:=L.smalls l.start U.start l.start.length;have e2:=L.smalls l.exit U.exit l.start.length;simp only[go_sem,Ca,jY,auD];by_cases c1:(l'' l.start:Int)<1
 ·simp only[go_sem,c1];exact fail _ _ (by rw[u,show within l.start.length 1 4=false from by unfold within;rw[bT Om,auN],auN]) rfl
 by_cases c2:(l'' l.start:Int)>4
 ·simp only[go_sem,c1,c2];exact fail _ _ (by rw[u,show within l.start.length 1 4=false from by unfold within;rw[bT (Om:¬(l'' l.start:Int)<=4),awB],auN]) rfl
 rw[show within l.start.length 1 4=true from by unfold within;rw[bH (Om:(1:Int)<=(l'' l.start:Nat)),bH (Om:(l'' l.start:Int)<=4)];rfl,auV]at u;simp only[go_sem,c1,c2];refine aA e1 rfl ?_;cases k1:(decide ((l'' l.start:Int)=l'' l.start)&&l.start.all dQ)with
 |false =>rw[k1,auN]at u;simp only[go_sem,auY];exact fail _ _ u rfl
 |true=>
 rw[k1,auV]at u;simp only[go_sem,auO];refine aA e2 rfl ?_;cases k2:(decide ((l'' l.exit:Int)=l'' l.start)&&l.exit.all dQ)with
 |false =>rw[k2,auN]at u;simp only[go_sem,auY];exact fail _ _ u rfl
 |true=>
 rw[k2,auV]at u;rw[auI,dT_]at k2;have J:l'' l.exit=l'' l.start:=Om;have S:=auX.1 k2.2;by_cases c3:l'' l.asU=l'' l.start
 case neg =>rw[bT c3,auN]at u;simp only[go_sem,auO,auD,eZ (Om:(l'' l.asU:Int)≠(l'' l.start:Nat))];exact fail _ _ u rfl
 rw[bH c3,auV]at u;simp only[go_sem,auO,auD,dM (Om:(l'' l.asU:Int)=(l'' l.start:Nat))];refine wp_loop (α:=Nat) (λi=>(((n_.set 1 (.bQ l.cells)).set 3 (.j (l'' l.start:Nat))).set 4 (.j i))) (λ_=>.nil) (λi=>i<=l'' l.start/\∀j,j<i->wJ l j=true) (λi=>l'' l.start-i) 0 ⟨auK _,λj h=>by omega⟩ Lq a_ ?_;rintro i ⟨hi,y⟩;simp only[go_sem];by_cases hlt:i<l'' l.start
 ·have A:(i:Int)<(l'' l.start:Nat):=Om;have E:i<l'' l.asU:=Om;have M:(l.asU.map λr=>[frs r])[i]?=some [frs l.asU[i]]:=by simp[E]
  have β:=U.row _ (auH E);have e3:=L.smalls l.asU[i] β l.start.length;have w:=I5 l E;have V:wJ l i=false->mW l=false:=λh=>by rw[u,show(auE l.asU.length).all (wJ l)=false from List.all_eq_false.2 ⟨i,avM.2 E,by simp[h]⟩,auN]
  simp only[go_sem,A,M];refine aA e3 rfl ?_;cases k3:(decide (((l.asU[i]).length:Int)=l'' l.start)&&(l.asU[i]).all dQ)with
  |false =>rw[k3,auN]at w;simp only[go_sem,auY];exact fail _ _ (V w) rfl
  |true=>
   rw[k3,auV]at w;rw[auI,dT_]at k3;have ν:(l.asU[i]).length=l'' l.start:=Om;have N:i<(l.asU[i]).length:=Om;have hm:=auH N;have hs:=L.sign _ (β.all _ hm) (uB (auX.1 k3.2 _ hm));have hz:=QF (l.asU[i])[i];have hg:((l.asU[i]).map bW).getD i false=bW (l.asU[i])[i]:=by simp[auM,N]
   rw[hg]at w;have K:(rN (l.asU[i])[i] != 0)=bW (l.asU[i])[i]:=by rw[bne,hz,Bool.not_not]
   simp only[go_sem,auO,M,mb N];refine aA hs rfl ?_;cases k4:bW (l.asU[i])[i]with
   |true =>rw[k4]at w K;simp only[go_sem,K];exact fail _ _ (V w) rfl
   |false=>
    rw[k4]at w K;simp only[go_sem,K,wZz i];exact aF (i+1) ⟨hlt,λj hj=>by
     by_cases e:j=i
     ·rw[e];exact w
     ·exact y j Om⟩ Om Lq b_
 ·have A:¬(i:Int)<(l'' l.start:Nat):=Om;have:i=l'' l.start:=Om;subst this;have O:(auE l.asU.length).all (wJ l)=true:=auX.2 λj hj=>y j (by rw[<-c3];exact avM.1 hj);rw[O,auV]at u;have δ:∀r∈l.asU,l'' r=l'' l.start/\∀x∈r,dQ x=true:=λr hr=>by obtain⟨j,hj,rfl⟩:=awI hr;have h:=y j Om;rw[I5 l hj,auI,auI,dT_]at h;exact⟨by omega,auX.1 h.1.2⟩
  have Z:Ea l:=⟨S,λr hr=>(δ r hr).2⟩;have Y:HA l:=⟨by omega,by omega,λr hr=>by rw[(δ r hr).1,J]⟩;have ε:=L.sum l.start U.start.all U.start.fits;simp only[go_sem,A];refine aA ε rfl ?_;cases W:qS (l.start.map RF.v)with
  |error e=>
   have θ:=Jm W;have:AF l=false:=by unfold AF;rw[W]
   rw[this,auN]at u;simp only[go_sem,frV];refine aS λo ho=>?_;simp only[go_sem];refine bV .nil dY a_ ?_;simp only[go_sem,eZ θ];exact fail _ _ u rfl
  |ok r=>
   have γ:=Nc W;have κ:=q9 W;obtain⟨n,a,b⟩:=r;have h1:dS 1:=by unfold dS;omega
   have Q:=L.same (FV.rf (n,a,b)) (mkT 1 1) γ (LH 1 h1).1 (by unfold RF.valid FV.rf;simp only[aV];exact κ) (LH 1 h1).2;have hP:AF l=(qO (FV.rf (n,a,b)) (mkT 1 1)==0):=by unfold AF;rw[W,LJ];unfold qO FV.rf;simp only[aV,show(1:Int).natAbs=1 from rfl,show decide ((1:Int)<0)=false from rfl];by_cases h:rJ n a b false 1 1=0<;>simp[h]
   simp only[go_sem,frV];refine aS λo ho=>?_;have hH:aQ (h_.set o (.rows 3 [(FV.rf (n,a,b)).cells])) [(o,.rows 3 [(FV.rf (n,a,b)).cells])] []:=aQ.nil.new (H:=h_) rfl _;simp only[go_sem];refine bV (h_.set o (.rows 3 [(FV.rf (n,a,b)).cells])) (zsS (qO (FV.rf (n,a,b)) (mkT 1 1)==0)) b_ ?_;simp only[go_sem,dM (show(0:Int)=0 from rfl)];refine cB rfl (L.int 1 h1) rfl b_ ?_;simp only[go_sem];refine cB rfl Q rfl b_ ?_;rw[<-hP];cases hp:AF l with
   |false =>rw[hp,auN]at u;simp only[go_sem,auY];exact fail _ _ u rfl
   |true=>
    rw[hp,auV,aeO]at u;have ζ:(l'' l.start:Int)*((1:Nat):Int)<=140737488355328:=Om;have η:(l'' l.start:Int)<=9223372036854775807:=Om;simp only[go_sem,auO,ζ,η];refine aS λq hq=>?_;simp only[go_sem];have μ:auL l.start.length [PV.bool false]=eK (dV l 0):=by rw[<-J];simp[dV,eK]
    rw[<-J];refine acP L l U Y Z q _ _ _ Lq ?_ ?_
    ·refine c_ a_ ?_;rw[cA,J,μ]
    simp only[go_sem];have ι:(dV l l.exit.length).length<=4:=by rw[uK];omega
    refine alK (dV l l.exit.length) ι q (mW l) u _ rfl _ _ ?_ b_;rw[uK];exact Lq
structure wS(C:Ctx):Prop extends tT C where
 law:∀l:cT,l.Ok->aG C 68 [.agg l.cells] .nil (aJ (.bool (mW l)))
def okL(base ns:List (List UInt8))(P:Nat->Bool)(i:Nat):Bool:=lH (base++ns.take i) (ns.getD i [])&&P i
theorem vW{p:Nat->Bool}(k:Nat)(b:Bool):(b&&(auE (k+1)).all p)=((b&&(auE k).all p)&&p k):=by
 rw[ayA,List.all_append];cases(auE k).all p<;>cases b<;>simp
theorem vT{p:Nat->Bool}{b:Bool}{i n:Nat}(hi:i<=n)(h:(b&&(auE i).all p)=false):(b&&(auE n).all p)=false:=by
 cases b with
 |false=>rfl
 |true =>rw[auV]at h ⊢;obtain⟨x,l,hp⟩:=List.all_eq_false.1 h;exact List.all_eq_false.2 ⟨x,avM.2 (by have:=avM.1 l;omega),hp⟩
structure kD(H:PH)(w:PV)(base ns:List (List UInt8))(c:Bool)(i:Nat):Prop where
 ex:∃names,aQ H [] [(w,1,pW names)]/\(c=true->names=base++ns.take i)
section
variable {C:Ctx} {F:PF} {H:PH} {d:O_} {K:K_}
theorem kD.call(L:tT C){w:PV}{base ns:List (List UInt8)}{i:Nat}{B:List BX}{l:List (List UInt8)}(h:aQ H B [(w,1,pW l)])(U:l'' base<=1000)(hi:i<=1000)(J:l=base++ns.take i)(y:i<l'' ns){a b:Nat}(u:aP.evs F [.tmp a,.tmp b]=some [w,.str ns[i]])
  (N:∀A H',aQ H' B [(A,1,pW (l++[ns[i]]))]->kD H' A base ns true (i+1)->K (F.put d (.tup [A,.bool (lH (base++ns.take i) (ns.getD i []))])) H'):iW C 70 [.tmp a,.tmp b] [] d K F H:=by
 refine KB (B1:=[]) (B2:=B) (L1:=[(w,1,pW l)]) (L2:=[]) (Q:=jm l ns[i]) h (λO S=>L.fresh l (by rw[J,auJ,auU];omega) ns[i] w O S) u ?_;rintro r B' L' H' ⟨A,rfl,rfl,rfl⟩ M;have E:ns.getD i []=ns[i]:=by simp[auM,y]
 rw[E,<-J]at N;refine N A H' M ⟨l++[ns[i]],M.sub (List.nil_sublist _) (avU.refl _),λ_=>?_⟩;rw[awE y,<-avW,J]
end
theorem kD.QX{H:PH}{w:PV}{base ns:List (List UInt8)}{c:Bool}{i:Nat}(h:kD H w base ns true i):kD H w base ns c i:=by
 obtain⟨l,u,y⟩:=h.ex;exact⟨l,u,λ_=>y rfl⟩
def OF(f:aH):Bool:=(auE f.asW.length).all (okL [] (f.asW.map cT.name) λi=>(f.asW.map mW).getD i false)
theorem aiI(L:wS C)(f:aH)(hf:f.Ok)(hs:l'' f.asW<=4)(K:cH)[Up K](F:PF)(H:PH)
  (hF:(((((((((n_.set 1 (.bQ f.cells)).set 3 (.aE)).set 4 (.aE)).set 5 (.aE)).set 6 (.aE)).set 7 (.aE)).set 8 (.bool true)).set 9 (.j 0)):PF).le F)
  (U:∀H',K (.exit 0) (((((((n_.set 1 (.bQ f.cells)).set 4 (.aE)).set 5 (.aE)).set 6 (.aE)).set 7 (.aE)).set 8 (.bool (OF f)))) H'):aK.wp C (.loop RI) K F H:=by
 obtain⟨ok,M⟩:∃ok,okL [] (f.asW.map cT.name) (λi=>(f.asW.map mW).getD i false)=ok:=⟨_,rfl⟩;unfold OF at U;rw[M]at U;refine wp_loop (α:=T3_) (λs=>((((((((n_.set 1 (.bQ f.cells)).set 3 (s.2.1)).set 4 (.aE)).set 5 (.aE)).set 6 (.aE)).set 7 (.aE)).set 8 (.bool (true&&(auE s.1).all ok))).set 9 (.j s.1))) (λs=>s.2.2) (λs=>s.1<=l'' f.asW/\kD s.2.2 s.2.1 [] (f.asW.map cT.name) (true&&(auE s.1).all ok) s.1) (λs=>l'' f.asW-s.1)
  (0,.aE,H) ⟨auK _,⟨[],aQ.nil.lJ 1,λ_=>rfl⟩⟩ hF b_ ?_
 rintro⟨i,w,Y⟩ ⟨hi,Z⟩;simp only at hi Z ⊢;have fin:∀(b:Bool)(y:PV)(O:PF)(H':PH),i<l'' f.asW->(true&&(auE (i+1)).all ok)=b->kD H' y [] (f.asW.map cT.name) true (i+1) ->
   (((((((((n_.set 1 (.bQ f.cells)).set 3 (y)).set 4 (.aE)).set 5 (.aE)).set 6 (.aE)).set 7 (.aE)).set 8 (.bool b)).set 9 (.j (i+1:Nat))):PF).le O ->
   iF (λs:T3_=>((((((((n_.set 1 (.bQ f.cells)).set 3 (s.2.1)).set 4 (.aE)).set 5 (.aE)).set 6 (.aE)).set 7 (.aE)).set 8 (.bool (true&&(auE s.1).all ok))).set 9 (.j s.1))) (λs=>s.2.2) (λs=>s.1<=l'' f.asW/\kD s.2.2 s.2.1 [] (f.asW.map cT.name) (true&&(auE s.1).all ok) s.1) (λs=>l'' f.asW-s.1) (l'' f.asW-i) K .normal O H':=
  λb y O H' hlt hb S Q=>aF (i+1,y,H') ⟨hlt,S.QX⟩ sO_ (by simp only;rw[hb];exact Q) b_
 have l:=vW (p:=ok) i true;have stop:(true&&(auE i).all ok)=(true&&(auE f.asW.length).all ok)->K (.exit 0) (((((((n_.set 1 (.bQ f.cells)).set 4 (.aE)).set 5 (.aE)).set 6 (.aE)).set 7 (.aE)).set 8 (.bool (true&&(auE i).all ok)))) Y:=λe=>by rw[e,auV];exact U Y
 have E:=λh=>vT (p:=ok) (b:=true) hi h;generalize hc:(true&&(auE i).all ok)=c at *
 simp only[go_sem,RI,auD];by_cases hlt:i<l'' f.asW
 ·have u:(i:Int)<(l'' f.asW:Nat):=Om;cases c with
  |false =>simp only[go_sem,u];exact Up.up Lq (stop (E rfl).symm)
  |true=>
   obtain⟨W,g1,g3⟩:=Z.ex;have J:(f.asW.map cT.cells)[i]?=some (f.asW[i]).cells:=by simp[hlt]
   have V:i<(f.asW.map cT.name).length:=by rw[auD];exact hlt
   have N:ok i=(lH ([]++(f.asW.map cT.name).take i) ((f.asW.map cT.name).getD i [])&&mW f.asW[i]):=by rw[<-M];unfold okL;simp[auM,hlt]
   have hl:=L.law _ (hf.law _ (auH hlt));rw[N]at l;simp only[go_sem,u,J];refine kD.call L.totT (ns:=f.asW.map cT.name) g1 (auK _) Om (g3 rfl) V (by simp only[go_sem,awA]) λy H1 h1 A=>?_;generalize lH ([]++(f.asW.map cT.name).take i) ((f.asW.map cT.name).getD i [])=fb at *
   cases fb with
   |false =>simp only[go_sem,wZz i];exact fin false y _ _ hlt (l.trans rfl) A Lq
   |true =>simp only[go_sem,J];refine aA hl rfl ?_;simp only[go_sem,wZz i];exact fin _ y _ _ hlt (l.trans rfl) A Lq
 have u:¬(i:Int)<(l'' f.asW:Nat):=Om;have:i=l'' f.asW:=Om;subst this;simp only[go_sem,u];exact Up.up Lq (stop hc.symm)
theorem VE{a b c d e f:Nat}(h:tO a b c d e f=true):a<=4/\b<=4/\c<=40/\d<=24/\e<=4/\f<=12:=by
 simp only[tO,auI,dT_]at h;omega
theorem th{n:Nat}(h:n<=1000):i_.wrap ((n:Int)-1)=(n:Int)-1:=wrap_i64 Om Om
def inS:Spec:=λname vs=>match name,vs with
 |76,[.int _ n,.int _ lo,.int _ hi]=>some ([],λ_=>aJ (.bool (within n lo hi)))
 |_,_=>none
def wt(asW:Nat)(m:dN):Bool:=within m.atF 1 16&&(within m.port 1 64&&within m.law 0 ((asW:Int)-1))
def J8(pols:Nat)(v:dW):Bool:=within v.atB 0 ((pols:Int)-1)
def EU(f:aH):Bool:=(auE f.asQ.length).all (okL [] (f.asQ.map dN.name) λi=>(f.asQ.map (wt f.asW.length)).getD i false)
theorem Xm(L:wS C)(f:aH)(hf:f.Ok)(hz:tO f.asW.length f.asQ.length f.asS.length f.asP.length f.asT.length f.asR.length=true)(b:Bool)(K:cH)[Up K](F:PF)(H:PH)
  (hF:((((((((n_.set 1 (.bQ f.cells)).set 4 (.aE)).set 5 (.aE)).set 6 (.aE)).set 7 (.aE)).set 8 (.bool b)).set 10 (.j 0)):PF).le F)
  (W:∀H',K (.exit 2) ((((((n_.set 1 (.bQ f.cells)).set 5 (.aE)).set 6 (.aE)).set 7 (.aE)).set 8 (.bool (b&&EU f)))) H'):aK.wp C (.loop RJ) K F H:=by
 obtain⟨γ,δ,ε,ζ,η,θ⟩:=VE hz;obtain⟨ok,M⟩:∃ok,okL [] (f.asQ.map dN.name) (λi=>(f.asQ.map (wt f.asW.length)).getD i false)=ok:=⟨_,rfl⟩;unfold EU at W;rw[M]at W;refine wp_loop (α:=T3_) (λs=>(((((((n_.set 1 (.bQ f.cells)).set 4 (s.2.1)).set 5 (.aE)).set 6 (.aE)).set 7 (.aE)).set 8 (.bool (b&&(auE s.1).all ok))).set 10 (.j s.1))) (λs=>s.2.2) (λs=>s.1<=l'' f.asQ/\kD s.2.2 s.2.1 [] (f.asQ.map dN.name) (b&&(auE s.1).all ok) s.1) (λs=>l'' f.asQ-s.1)
  (0,.aE,H) ⟨auK _,⟨[],aQ.nil.lJ 1,λ_=>rfl⟩⟩ (by
   have e:(b&&(auE 0).all ok)=b:=by cases b<;>rfl
   simp only[e];exact hF) b_ ?_
 rintro⟨i,w,Q⟩ ⟨hi,hG⟩;simp only at hi hG ⊢;have fin:∀(c:Bool)(A:PV)(O:PF)(H':PH),i<l'' f.asQ->(b&&(auE (i+1)).all ok)=c->kD H' A [] (f.asQ.map dN.name) true (i+1) ->
   ((((((((n_.set 1 (.bQ f.cells)).set 4 (A)).set 5 (.aE)).set 6 (.aE)).set 7 (.aE)).set 8 (.bool c)).set 10 (.j (i+1:Nat))):PF).le O ->
   iF (λs:T3_=>(((((((n_.set 1 (.bQ f.cells)).set 4 (s.2.1)).set 5 (.aE)).set 6 (.aE)).set 7 (.aE)).set 8 (.bool (b&&(auE s.1).all ok))).set 10 (.j s.1))) (λs=>s.2.2) (λs=>s.1<=l'' f.asQ/\kD s.2.2 s.2.1 [] (f.asQ.map dN.name) (b&&(auE s.1).all ok) s.1) (λs=>l'' f.asQ-s.1) (l'' f.asQ-i) K .normal O H':=
  λc A O H' hlt hb V U=>aF (i+1,A,H') ⟨hlt,V.QX⟩ sO_ (by simp only;rw[hb];exact U) b_
 have l:=vW (p:=ok) i b;have stop:(b&&(auE i).all ok)=(b&&(auE f.asQ.length).all ok)->K (.exit 2) ((((((n_.set 1 (.bQ f.cells)).set 5 (.aE)).set 6 (.aE)).set 7 (.aE)).set 8 (.bool (b&&(auE i).all ok)))) Q:=λe=>by rw[e];exact W Q
 have J:=λh=>vT (p:=ok) (b:=b) hi h;generalize hc:(b&&(auE i).all ok)=c at *
 simp only[go_sem,RJ,auD];by_cases hlt:i<l'' f.asQ
 ·have u:(i:Int)<(l'' f.asQ:Nat):=Om;cases c with
  |false =>simp only[go_sem,u];exact Up.up Lq (stop (J rfl).symm)
  |true=>
   obtain⟨β,g1,g3⟩:=hG.ex;have Y:(f.asQ.map dN.cells)[i]?=some (f.asQ[i]).cells:=by simp[hlt]
   have Z:i<(f.asQ.map dN.name).length:=by rw[auD];exact hlt
   have N:ok i=(lH ([]++(f.asQ.map dN.name).take i) ((f.asQ.map dN.name).getD i [])&&(wt f.asW.length) f.asQ[i]):=by rw[<-M];unfold okL;simp[auM,hlt]
   rw[N]at l;have E:wt f.asW.length f.asQ[i]=(within (f.asQ[i]).atF 1 16&&(within (f.asQ[i]).port 1 64&&within (f.asQ[i]).law 0 ((l'' f.asW:Int)-1))):=rfl;rw[E]at l;simp only[go_sem,u,Y];refine aS λo ho=>?_;have g4:=g1.new ho (.rows 4 [(f.asQ[i]).cells]);have g5:=g4.at 0 rfl;simp only[go_sem];generalize Q.set o (.rows 4 [(f.asQ[i]).cells])=H2 at *
   try simp only[go_sem,g5]
   refine kD.call L.totT (ns:=(f.asQ.map dN.name)) g4 (auK _) Om (g3 rfl) Z (by simp only[go_sem,awA]) λA H1 h1 y=>?_;have S:=h1.at 0 rfl;generalize lH ([]++(f.asQ.map dN.name).take i) ((f.asQ.map dN.name).getD i [])=fb at *
   cases fb with
   |false =>simp only[go_sem,wZz i];exact fin false A _ _ hlt (l.trans rfl) y Lq
   |true=>
    simp only[go_sem,S];refine aA (L.inn (f.asQ[i]).atF 1 16) rfl ?_;cases k0:within (f.asQ[i]).atF 1 16 with
    |false =>simp only[go_sem,wZz i];exact fin false A _ _ hlt (by rw[l,k0]<;>simp) y Lq
    |true=>
     simp only[go_sem,S];refine aA (L.inn (f.asQ[i]).port 1 64) rfl ?_;cases k1:within (f.asQ[i]).port 1 64 with
     |false =>simp only[go_sem,wZz i];exact fin false A _ _ hlt (by rw[l,k0,k1]<;>simp) y Lq
     |true =>simp only[go_sem,S,auD,th (Om:l'' f.asW<=1000)];refine aA (L.inn (f.asQ[i]).law 0 ((l'' f.asW:Int)-1)) rfl ?_;simp only[go_sem,wZz i];exact fin _ A _ _ hlt (by rw[l,k0,k1]<;>simp) y Lq
 have u:¬(i:Int)<(l'' f.asQ:Nat):=Om;have:i=l'' f.asQ:=Om;subst this;simp only[go_sem,u];exact Up.up Lq (stop hc.symm)
def Dx(f:aH):Bool:=(auE f.asR.length).all (okL [] (f.asR.map dW.name) λi=>(f.asR.map (J8 f.asT.length)).getD i false)
theorem aiK(L:wS C)(f:aH)(hf:f.Ok)(hz:tO f.asW.length f.asQ.length f.asS.length f.asP.length f.asT.length f.asR.length=true)(b:Bool)(K:cH)[Up K](F:PF)(H:PH)
  (hF:(((((n_.set 1 (.bQ f.cells)).set 7 (.aE)).set 8 (.bool b)).set 21 (.j 0)):PF).le F)
  (V:∀H',K (.exit 14) (((n_.set 1 (.bQ f.cells)).set 8 (.bool (b&&Dx f)))) H'):aK.wp C (.loop EH) K F H:=by
 obtain⟨β,γ,δ,ε,ζ,η⟩:=VE hz;obtain⟨ok,N⟩:∃ok,okL [] (f.asR.map dW.name) (λi=>(f.asR.map (J8 f.asT.length)).getD i false)=ok:=⟨_,rfl⟩;unfold Dx at V;rw[N]at V;refine wp_loop (α:=T3_) (λs=>((((n_.set 1 (.bQ f.cells)).set 7 (s.2.1)).set 8 (.bool (b&&(auE s.1).all ok))).set 21 (.j s.1))) (λs=>s.2.2) (λs=>s.1<=l'' f.asR/\kD s.2.2 s.2.1 [] (f.asR.map dW.name) (b&&(auE s.1).all ok) s.1) (λs=>l'' f.asR-s.1)
  (0,.aE,H) ⟨auK _,⟨[],aQ.nil.lJ 1,λ_=>rfl⟩⟩ (by
   have e:(b&&(auE 0).all ok)=b:=by cases b<;>rfl
   simp only[e];exact hF) b_ ?_
 rintro⟨i,w,Z⟩ ⟨hi,hG⟩;simp only at hi hG ⊢;have fin:∀(c:Bool)(A:PV)(Q:PF)(H':PH),i<l'' f.asR->(b&&(auE (i+1)).all ok)=c->kD H' A [] (f.asR.map dW.name) true (i+1) ->
   (((((n_.set 1 (.bQ f.cells)).set 7 (A)).set 8 (.bool c)).set 21 (.j (i+1:Nat))):PF).le Q ->
   iF (λs:T3_=>((((n_.set 1 (.bQ f.cells)).set 7 (s.2.1)).set 8 (.bool (b&&(auE s.1).all ok))).set 21 (.j s.1))) (λs=>s.2.2) (λs=>s.1<=l'' f.asR/\kD s.2.2 s.2.1 [] (f.asR.map dW.name) (b&&(auE s.1).all ok) s.1) (λs=>l'' f.asR-s.1) (l'' f.asR-i) K .normal Q H':=
  λc A Q H' hlt hb U S=>aF (i+1,A,H') ⟨hlt,U.QX⟩ sO_ (by simp only;rw[hb];exact S) b_
 have l:=vW (p:=ok) i b;have stop:(b&&(auE i).all ok)=(b&&(auE f.asR.length).all ok)->K (.exit 14) (((n_.set 1 (.bQ f.cells)).set 8 (.bool (b&&(auE i).all ok)))) Z:=λe=>by rw[e];exact V Z
 have J:=λh=>vT (p:=ok) (b:=b) hi h;generalize hc:(b&&(auE i).all ok)=c at *
 simp only[go_sem,EH,auD];by_cases hlt:i<l'' f.asR
 ·have u:(i:Int)<(l'' f.asR:Nat):=Om;cases c with
  |false =>simp only[go_sem,u];exact Up.up Lq (stop (J rfl).symm)
  |true=>
   obtain⟨Y,g1,g3⟩:=hG.ex;have M:(f.asR.map dW.cells)[i]?=some (f.asR[i]).cells:=by simp[hlt]
   have W:i<(f.asR.map dW.name).length:=by rw[auD];exact hlt
   have O:ok i=(lH ([]++(f.asR.map dW.name).take i) ((f.asR.map dW.name).getD i [])&&(J8 f.asT.length) f.asR[i]):=by rw[<-N];unfold okL;simp[auM,hlt]
   rw[O]at l;have y:J8 f.asT.length f.asR[i]=within (f.asR[i]).atB 0 ((l'' f.asT:Int)-1):=rfl;rw[y]at l;simp only[go_sem,u,M];refine kD.call L.totT (ns:=(f.asR.map dW.name)) g1 (auK _) Om (g3 rfl) W (by simp only[go_sem,awA]) λA H1 h1 E=>?_;generalize lH ([]++(f.asR.map dW.name).take i) ((f.asR.map dW.name).getD i [])=fb at *
   cases fb with
   |false =>simp only[go_sem];refine bV .nil (inS) a_ ?_;simp only[go_sem,wZz i];exact fin false A _ _ hlt (l.trans rfl) E Lq
   |true =>simp only[go_sem];refine bV .nil (inS) a_ ?_;simp only[go_sem,M,auD,th (Om:l'' f.asT<=1000)];refine cB rfl (L.inn (f.asR[i]).atB 0 ((l'' f.asT:Int)-1)) rfl a_ ?_;simp only[go_sem,wZz i];exact fin _ A _ _ hlt (l.trans rfl) E Lq
 have u:¬(i:Int)<(l'' f.asR:Nat):=Om;have:i=l'' f.asR:=Om;subst this;simp only[go_sem,u];exact Up.up Lq (stop hc.symm)
def Ps:Spec:=λname vs=>match name,vs with
 |76,[.int _ n,.int _ lo,.int _ hi]=>some ([],λ_=>aJ (.bool (within n lo hi)))
 |74,[.agg cs]=>some ([],λ_=>aJ (.bool (dQ (frD cs))))
 |_,_=>none
theorem Pt(x:RF):Ps 74 [.agg x.cells]=some ([],λ_=>aJ (.bool (dQ x))):=by
 show some ([],λ_=>aJ (.bool (dQ (frD x.cells))))=_;rw[zd]
def Fi(f:aH)(i:Nat)(d:cQ):Bool:=
 within d.level 1 4&&(within d.parent 0 i&&(((f.asS.map cQ.level).getD d.parent.toNat 0==i_.wrap (d.level-1))&&(within d.atJ 1 64&&dQ d.atE)))
theorem aeK(f:aH)(i:Nat)(d:cQ):NH f i d=Fi f i d:=by
 unfold NH Fi;have:decide ((f.asS.map cQ.level).getD d.parent.toNat 0=i_.wrap (d.level-1))=((f.asS.map cQ.level).getD d.parent.toNat 0==i_.wrap (d.level-1)):=by generalize(f.asS.map cQ.level).getD d.parent.toNat 0=u;by_cases h:u=i_.wrap (d.level-1)<;>simp[h]
 rw[this];cases within d.parent 0 i<;>cases within d.level 1 4<;>cases within d.atJ 1 64<;>simp
def jV(f:aH):List (List UInt8):=(f.asS.drop 1).map cQ.name
def CR(f:aH)(i:Nat):Bool:=match f.asS[i+1]? with
 |some d=>Fi f i d
 |none=>false
def CS(f:aH):Bool:=(auE (l'' f.asS-1)).all (okL [] (jV f) (CR f))
theorem Fh(f:aH):(jV f).length=l'' f.asS-1:=by simp[jV]
theorem aiH(L:wS C)(f:aH)(hf:f.Ok)(ν:l'' f.asS<=40)(h0:0<l'' f.asS)(b:Bool)(K:cH)[Up K](F:PF)(H:PH)
  (hF:(((((((n_.set 1 (.bQ f.cells)).set 5 (.aE)).set 6 (.aE)).set 7 (.aE)).set 8 (.bool b)).set 13 (.j 1)):PF).le F)
  (hK:∀w H',kD H' w [] (jV f) (b&&CS f) (l'' f.asS-1)->K (.exit 4) ((((((n_.set 1 (.bQ f.cells)).set 5 (w)).set 6 (.aE)).set 7 (.aE)).set 8 (.bool (b&&CS f)))) H'):aK.wp C (.loop ED) K F H:=by
 obtain⟨ok,U⟩:∃ok,okL [] (jV f) (CR f)=ok:=⟨_,rfl⟩;unfold CS at hK;rw[U]at hK;obtain⟨n,hn⟩:∃n,l'' f.asS=n+1:=⟨l'' f.asS-1,by omega⟩;have θ:=Fh f;have η:l'' f.asS-1=n:=Om;rw[η]at hK θ;refine wp_loop (α:=T3_) (λs=>((((((n_.set 1 (.bQ f.cells)).set 5 (s.2.1)).set 6 (.aE)).set 7 (.aE)).set 8 (.bool (b&&(auE s.1).all ok))).set 13 (.j (s.1+1:Nat)))) (λs=>s.2.2) (λs=>s.1<=n/\kD s.2.2 s.2.1 [] (jV f) (b&&(auE s.1).all ok) s.1) (λs=>n-s.1)
  (0,.aE,H) ⟨auK _,⟨[],aQ.nil.lJ 1,λ_=>rfl⟩⟩ (by
   have e:(b&&(auE 0).all ok)=b:=by cases b<;>rfl
   simp only[e];exact hF) b_ ?_
 rintro⟨i,w,H0⟩ ⟨hi,hG⟩;simp only at hi hG ⊢;have fin:∀(c:Bool)(J:PV)(F':PF)(H':PH),i<n->(b&&(auE (i+1)).all ok)=c->kD H' J [] (jV f) true (i+1) ->
   (((((((n_.set 1 (.bQ f.cells)).set 5 (J)).set 6 (.aE)).set 7 (.aE)).set 8 (.bool c)).set 13 (.j (i+1+1:Nat))):PF).le F' ->
   iF (λs:T3_=>((((((n_.set 1 (.bQ f.cells)).set 5 (s.2.1)).set 6 (.aE)).set 7 (.aE)).set 8 (.bool (b&&(auE s.1).all ok))).set 13 (.j (s.1+1:Nat)))) (λs=>s.2.2) (λs=>s.1<=n/\kD s.2.2 s.2.1 [] (jV f) (b&&(auE s.1).all ok) s.1) (λs=>n-s.1) (n-i) K .normal F' H':=
  λc J F' H' hlt hb γ β=>aF (i+1,J,H') ⟨hlt,γ.QX⟩ sO_ (by simp only;rw[hb];exact β) b_
 have l:=vW (p:=ok) i b;have Q:=λh=>vT (p:=ok) (b:=b) hi h;have stop:(b&&(auE i).all ok)=(b&&(auE n).all ok)->((b&&(auE i).all ok)=true->i=n)->K (.exit 4) ((((((n_.set 1 (.bQ f.cells)).set 5 (w)).set 6 (.aE)).set 7 (.aE)).set 8 (.bool (b&&(auE i).all ok)))) H0:=λe e2=>by
  obtain⟨E,g1,g3⟩:=hG.ex;have:=hK w H0 ⟨E,g1,λh=>by have h':=e.trans h;rw[g3 h',e2 h']⟩
  rwa[<-e]at this
 generalize hc:(b&&(auE i).all ok)=c at *
 simp only[go_sem,ED,auD];by_cases hlt:i<n
 ·have y:((i+1:Nat):Int)<(l'' f.asS:Nat):=Om;cases c with
  |false =>simp only[go_sem,y];exact Up.up Lq (stop (Q rfl).symm (λh=>by cases h))
  |true=>
   obtain⟨E,g1,g3⟩:=hG.ex;have N:i+1<l'' f.asS:=Om;have δ:=mO N;have ζ:i<(jV f).length:=Om;have ι:(jV f)[i]=(f.asS[i+1]).name:=by simp[jV,Nat.add_comm]
   have V:ok i=(lH ([]++(jV f).take i) ((jV f).getD i [])&&Fi f i f.asS[i+1]):=by rw[<-U];unfold okL CR;rw[auP N]
   have ε:=hf.dom _ (auH N);rw[V]at l;unfold Fi at l;have e1:i_.wrap (((i+1:Nat):Int)-1)=(i:Nat):=wO_
   have u:i_.wrap (((i+1:Nat):Int)+1)=((i+1+1:Nat):Int):=dU Om;have μ:=L.small _ ε.1;simp only[go_sem,y,δ];refine aS λo ho=>?_;have g4:=g1.new ho (.rows 7 [(f.asS[i+1]).cells]);have g5:=g4.at 0 rfl;simp only[go_sem];generalize H0.set o (.rows 7 [(f.asS[i+1]).cells])=H2 at *
   try simp only[go_sem,g5]
   refine kD.call L.totT (ns:=jV f) g4 (auK _) Om (g3 rfl) ζ (by simp only[go_sem,ι]) λJ H1 h1 A=>?_;have O:=h1.at 0 rfl;generalize lH ([]++(jV f).take i) ((jV f).getD i [])=fb at *
   generalize hd:f.asS[i+1]=M at *
   cases fb with
   |false =>simp only[go_sem];refine bV .nil Ps a_ ?_;simp only[go_sem,u];exact fin false J _ _ hlt (l.trans rfl) A Lq
   |true=>
    simp only[go_sem];refine bV .nil Ps a_ ?_;simp only[go_sem,O];refine cB rfl (L.inn M.level 1 4) rfl a_ ?_;cases Z:within M.level 1 4 with
    |false =>simp only[go_sem,u];exact fin false J _ _ hlt (by rw[l,Z]<;>simp) A Lq
    |true=>
     simp only[go_sem,O,e1];refine cB rfl (L.inn M.parent 0 (i:Nat)) rfl a_ ?_;cases k1:within M.parent 0 (i:Nat)with
     |false =>simp only[go_sem,u];exact fin false J _ _ hlt (by rw[l,Z,k1]<;>simp) A Lq
     |true=>
      obtain⟨p0,p1⟩:=within_iff.1 k1;obtain⟨p,hp⟩:∃p:Nat,M.parent=p:=⟨M.parent.toNat,by omega⟩;have Y:p<l'' f.asS:=Om;obtain⟨lv,S⟩:∃lv,(f.asS.map cQ.level).getD M.parent.toNat 0=lv:=⟨_,rfl⟩;have κ:(f.asS[p]).level=lv:=by rw[<-S,hp,awG,getD_at Y]
      rw[S]at l;have W:=mO Y;simp only[go_sem,O,hp,W,κ];cases k2:lv==i_.wrap (M.level-1)with
      |false =>simp only[go_sem,u];exact fin false J _ _ hlt (by rw[l,Z,k1,k2]<;>simp) A Lq
      |true=>
       simp only[go_sem,O];refine cB rfl (L.inn M.atJ 1 64) rfl a_ ?_;cases k3:within M.atJ 1 64 with
       |false =>simp only[go_sem,u];exact fin false J _ _ hlt (by rw[l,Z,k1,k2,k3]<;>simp) A Lq
       |true =>simp only[go_sem,O];refine cB (Pt _) μ rfl a_ ?_;simp only[go_sem,u];exact fin _ J _ _ hlt (by rw[l,Z,k1,k2,k3]<;>simp) A Lq
 have y:¬((i+1:Nat):Int)<(l'' f.asS:Nat):=Om;have:i=n:=Om;subst this;simp only[go_sem,y];exact Up.up Lq (stop hc.symm (λ_=>rfl))
def Fl(f:aH)(d:eE):Bool:=within d.model 0 ((l'' f.asQ:Int)-1)&&(within d.machine 0 ((l'' f.asS:Int)-1)&&((f.asS.map cQ.level).getD d.machine.toNat 0==4))
def pD(f:aH):List (List UInt8):=f.asP.map eE.name
def AK(f:aH)(i:Nat):Bool:=match f.asP[i]? with
 |some d=>Fl f d
 |none=>false
def EK(f:aH):Bool:=(auE f.asP.length).all (okL (jV f) (pD f) (AK f))
theorem Xl(L:wS C)(f:aH)(hf:f.Ok)(ν:l'' f.asS<=40)(h0:0<l'' f.asS)(ξ:l'' f.asP<=24)(μ:l'' f.asQ<=4)(b:Bool)(w0:PV)(K:cH)[Up K](F:PF)(H:PH)
  (δ:kD H w0 [] (jV f) b (l'' f.asS-1)) (hF:(((((((n_.set 1 (.bQ f.cells)).set 5 (w0)).set 6 (.aE)).set 7 (.aE)).set 8 (.bool b)).set 15 (.j 0)):PF).le F)
  (Y:∀H',K (.exit 6) (((((n_.set 1 (.bQ f.cells)).set 6 (.aE)).set 7 (.aE)).set 8 (.bool (b&&EK f)))) H'):aK.wp C (.loop EE) K F H:=by
 obtain⟨ok,S⟩:∃ok,okL (jV f) (pD f) (AK f)=ok:=⟨_,rfl⟩;unfold EK at Y;rw[S]at Y;obtain⟨n,hn⟩:∃n,l'' f.asP=n:=⟨_,rfl⟩;have ι:=Fh f;have κ:(pD f).length=n:=by simp[pD,hn]
 rw[hn]at Y;refine wp_loop (α:=T3_) (λs=>((((((n_.set 1 (.bQ f.cells)).set 5 (s.2.1)).set 6 (.aE)).set 7 (.aE)).set 8 (.bool (b&&(auE s.1).all ok))).set 15 (.j s.1))) (λs=>s.2.2) (λs=>s.1<=n/\kD s.2.2 s.2.1 (jV f) (pD f) (b&&(auE s.1).all ok) s.1) (λs=>n-s.1)
  (0,w0,H) ⟨auK _,by
   obtain⟨A,q1,q2⟩:=δ.ex;have e:(b&&(auE 0).all ok)=b:=by cases b<;>rfl
   refine⟨A,q1,λh=>?_⟩;simp only[e]at h;rw[q2 h,axI,auZ Om];simp⟩ (by
   have e:(b&&(auE 0).all ok)=b:=by cases b<;>rfl
   simp only[e];exact hF) b_ ?_
 rintro⟨i,w,H0⟩ ⟨hi,hG⟩;simp only at hi hG ⊢;have fin:∀(c:Bool)(J:PV)(Z:PF)(H':PH),i<n->(b&&(auE (i+1)).all ok)=c->kD H' J (jV f) (pD f) true (i+1) ->
   (((((((n_.set 1 (.bQ f.cells)).set 5 (J)).set 6 (.aE)).set 7 (.aE)).set 8 (.bool c)).set 15 (.j (i+1:Nat))):PF).le Z ->
   iF (λs:T3_=>((((((n_.set 1 (.bQ f.cells)).set 5 (s.2.1)).set 6 (.aE)).set 7 (.aE)).set 8 (.bool (b&&(auE s.1).all ok))).set 15 (.j s.1))) (λs=>s.2.2) (λs=>s.1<=n/\kD s.2.2 s.2.1 (jV f) (pD f) (b&&(auE s.1).all ok) s.1) (λs=>n-s.1) (n-i) K .normal Z H':=
  λc J Z H' hlt hb γ β=>aF (i+1,J,H') ⟨hlt,γ.QX⟩ sO_ (by simp only;rw[hb];exact β) b_
 have l:=vW (p:=ok) i b;have N:=λh=>vT (p:=ok) (b:=b) hi h;have stop:(b&&(auE i).all ok)=(b&&(auE n).all ok)->K (.exit 6) (((((n_.set 1 (.bQ f.cells)).set 6 (.aE)).set 7 (.aE)).set 8 (.bool (b&&(auE i).all ok)))) H0:=λe=>by rw[e];exact Y H0
 generalize hc:(b&&(auE i).all ok)=c at *
 simp only[go_sem,EE,auD];by_cases hlt:i<n
 ·have u:((i:Nat):Int)<(l'' f.asP:Nat):=Om;cases c with
  |false =>simp only[go_sem,u];exact Up.up Lq (stop (N rfl).symm)
  |true=>
   obtain⟨A,g1,g3⟩:=hG.ex;have O:i<l'' f.asP:=Om;have ε:=wU O;have ζ:i<(pD f).length:=Om;have η:(pD f)[i]=(f.asP[i]).name:=by simp[pD]
   have U:ok i=(lH (jV f++(pD f).take i) ((pD f).getD i [])&&Fl f f.asP[i]):=by rw[<-S];unfold okL AK;rw[auP O]
   rw[U]at l;unfold Fl at l;have y:i_.wrap ((i:Int)+1)=((i+1:Nat):Int):=dU Om;have e1:=th (Om:l'' f.asQ<=1000);have e2:=th (Om:l'' f.asS<=1000);simp only[go_sem,u,ε];refine aS λo ho=>?_;have g4:=g1.new ho (.rows 3 [(f.asP[i]).cells]);have g5:=g4.at 0 rfl;simp only[go_sem];generalize H0.set o (.rows 3 [(f.asP[i]).cells])=H2 at *
   try simp only[go_sem,g5]
   refine kD.call L.totT (base:=jV f) (ns:=pD f) g4 Om Om (g3 rfl) ζ (by simp only[go_sem,η]) λJ H1 h1 E=>?_;have g6:=h1.at 0 rfl;generalize lH (jV f++(pD f).take i) ((pD f).getD i [])=fb at *
   generalize hd:f.asP[i]=M at *
   cases fb with
   |false =>simp only[go_sem,y];exact fin false J _ _ hlt (l.trans rfl) E Lq
   |true=>
    simp only[go_sem,g6,auD,e1];refine aA (L.inn M.model 0 ((l'' f.asQ:Int)-1)) rfl ?_;cases k0:within M.model 0 ((l'' f.asQ:Int)-1)with
    |false =>simp only[go_sem,y];exact fin false J _ _ hlt (by rw[l,k0]<;>simp) E Lq
    |true=>
     simp only[go_sem,g6,auD,e2];refine aA (L.inn M.machine 0 ((l'' f.asS:Int)-1)) rfl ?_;cases k1:within M.machine 0 ((l'' f.asS:Int)-1)with
     |false =>simp only[go_sem,y];exact fin false J _ _ hlt (by rw[l,k0,k1]<;>simp) E Lq
     |true=>
      obtain⟨p0,p1⟩:=within_iff.1 k1;obtain⟨p,hp⟩:∃p:Nat,M.machine=p:=⟨M.machine.toNat,by omega⟩;have W:p<l'' f.asS:=Om;obtain⟨lv,Q⟩:∃lv,(f.asS.map cQ.level).getD M.machine.toNat 0=lv:=⟨_,rfl⟩;have θ:(f.asS[p]).level=lv:=by rw[<-Q,hp,awG,getD_at W]
      rw[Q]at l;have V:=mO W;simp only[go_sem,g6,hp,V,θ,y];exact fin _ J _ _ hlt (by rw[l,k0,k1]<;>simp) E Lq
 have u:¬((i:Nat):Int)<(l'' f.asP:Nat):=Om;have:i=n:=Om;subst this;simp only[go_sem,u];exact Up.up Lq (stop hc.symm)
theorem dx{xs:I_}{k:Nat}(h:k<l'' xs):(xs.map λx=>[PV.int .i64 x])[k]?=some [.j xs[k]]:=by simp[h]
def zpF(f:aH)(w:PV)(o i:Nat)(c:Bool)(j:Nat):PF:=(((((((n_.set 1 (.bQ f.cells)).set 6 (w)).set 7 (.aE)).set 8 (.bool c)).set 17 (.int .i64 i)).set 18 (.ptr o 17 0 0)).set 19 (.int .i64 j))
theorem acR(f:aH)(w:PV)(o i:Nat)(p:cJ)(Q:l'' p.asQ<=9223372036854775807)(j:Nat)(M:j<l'' p.asQ)(b:Bool)(K:cH)[Up K](F:PF)(H:PH)(N:H o=some (.rows 17 [p.cells]))(E:((zpF f w o i b j).set 20 (.j 0)).le F)
  (J:K (.exit 12) (zpF f w o i (b&&(p.asQ.take j).all λx=>x != p.asQ[j]) j) H):aK.wp C (.loop RK) K F H:=by
 refine wp_loop (α:=Nat) (λk=>(zpF f w o i (b&&(p.asQ.take k).all λx=>x != p.asQ[j]) j).set 20 (.j k)) (λ_=>H) (λk=>k<=j) (λk=>j-k) 0 (auK _) (by
   have e:(b&&(p.asQ.take 0).all λx=>x != p.asQ[j])=b:=by cases b<;>rfl
   simp only[e];exact E) b_ ?_
 intro k O;have y:∀h:k<l'' p.asQ,(b&&(p.asQ.take (k+1)).all λx=>x != p.asQ[j])=((b&&(p.asQ.take k).all λx=>x != p.asQ[j])&&(p.asQ[k] != p.asQ[j])):=λh=>by rw[awE h,List.all_append];simp[ayC]
 have fin:∀(c:Bool)(A:PF),k<j->(b&&(p.asQ.take (k+1)).all λx=>x != p.asQ[j])=c->((zpF f w o i c j).set 20 (.j (k+1:Nat))).le A->iF (λk:Nat=>(zpF f w o i (b&&(p.asQ.take k).all λx=>x != p.asQ[j]) j).set 20 (.j k)) (λ_=>H) (λk=>k<=j) (λk=>j-k) (j-k) K .normal A H:=
  λc A hlt e h=>aF (k+1) hlt Om (by rw[e];exact h) b_
 unfold zpF at fin;simp only[go_sem,RK,zpF];by_cases hlt:k<j
 ·have l:(k:Int)<(j:Nat):=Om;have u:k<l'' p.asQ:=Om;have y:=y u;generalize(b&&(p.asQ.take k).all λx=>x != p.asQ[j])=c at *
  simp only[go_sem,l];refine bV .nil dY a_ ?_;cases c with
  |false =>simp only[go_sem,wZz k];exact fin false _ hlt (y.trans rfl) Lq
  |true =>simp only[go_sem,N,dx u,dx M,wZz k];exact fin _ _ hlt (y.trans rfl) Lq
 ·have l:¬(k:Int)<(j:Nat):=Om;have:k=j:=Om;subst this;simp only[go_sem,l];exact Up.up (by(repeat' (first|exact e_|refine d_ ?_ ?_))<;>first|(simp only[go_sem,zpF]<;>rfl)|rfl) J
def PO(asQ:Nat)(ms:I_)(j:Nat):Bool:=within (ms.getD j 0) 0 ((asQ:Int)-1)&&(ms.take j).all λx=>x != ms.getD j 0
theorem Xi(L:wS C)(f:aH)(Y:l'' f.asQ<=4)(w:PV)(o i:Nat)(p:cJ)(W:l'' p.asQ<=9223372036854775807)(b:Bool)(K:cH)[Up K](F:PF)(H:PH)(J:H o=some (.rows 17 [p.cells]))(Q:(zpF f w o i b 0).le F)
  (N:K (.exit 10) ((((((n_.set 1 (.bQ f.cells)).set 6 (w)).set 7 (.aE)).set 8 (.bool (b&&(auE p.asQ.length).all (PO f.asQ.length p.asQ)))).set 17 (.j i))) H):aK.wp C (.loop EF) K F H:=by
 obtain⟨ok,A⟩:∃ok,PO f.asQ.length p.asQ=ok:=⟨_,rfl⟩;rw[A]at N;refine wp_loop (α:=Nat) (λj=>zpF f w o i (b&&(auE j).all ok) j) (λ_=>H) (λj=>j<=l'' p.asQ) (λj=>l'' p.asQ-j) 0 (auK _) (by
   have e:(b&&(auE 0).all ok)=b:=by cases b<;>rfl
   simp only[e];exact Q) b_ ?_
 intro j V;have u:=vW (p:=ok) j b;have y:=λh=>vT (p:=ok) (b:=b) V h;have fin:∀(c:Bool)(E:PF),j<l'' p.asQ->(b&&(auE (j+1)).all ok)=c->(zpF f w o i c (j+1)).le E->iF (λj:Nat=>zpF f w o i (b&&(auE j).all ok) j) (λ_=>H) (λj=>j<=l'' p.asQ) (λj=>l'' p.asQ-j) (l'' p.asQ-j) K .normal E H:=
  λc E hlt e h=>aF (j+1) hlt Om (by rw[e];exact h) b_
 unfold zpF at fin;have stop:(b&&(auE j).all ok)=(b&&(auE p.asQ.length).all ok)->K (.exit 10) ((((((n_.set 1 (.bQ f.cells)).set 6 (w)).set 7 (.aE)).set 8 (.bool (b&&(auE j).all ok))).set 17 (.j i))) H:=λe=>by rw[e];exact N
 generalize S:(b&&(auE j).all ok)=c at *
 simp only[go_sem,EF,zpF,J,auD];by_cases hlt:j<l'' p.asQ
 ·have l:(j:Int)<(l'' p.asQ:Nat):=Om;cases c with
  |false =>simp only[go_sem,l];exact Up.up Lq (stop (y rfl).symm)
  |true=>
   have O:=th (Om:l'' f.asQ<=1000);have U:p.asQ.getD j 0=p.asQ[j]:=by simp[auM,hlt]
   have M:ok j=(within p.asQ[j] 0 ((l'' f.asQ:Int)-1)&&(p.asQ.take j).all λx=>x != p.asQ[j]):=by rw[<-A];unfold PO;rw[U]
   rw[M]at u;simp only[go_sem,l];refine bV .nil Ps a_ ?_;simp only[go_sem,J,dx hlt,auD,O];refine cB rfl (L.inn p.asQ[j] 0 ((l'' f.asQ:Int)-1)) Sq a_ ?_;simp only[go_sem];refine acR f w o i p W j hlt (within p.asQ[j] 0 ((l'' f.asQ:Int)-1)) _ _ _ J (by(repeat' (first|exact e_|refine d_ ?_ ?_))<;>first|(simp only[go_sem,zpF]<;>rfl)|rfl) ?_;simp only[go_sem,zpF,wZz j];exact fin _ _ hlt (u.trans rfl) Lq
 ·have l:¬(j:Int)<(l'' p.asQ:Nat):=Om;have:j=l'' p.asQ:=Om;subst this;simp only[go_sem,l];exact Up.up Lq (stop S.symm)
def Is(asQ:Nat)(p:cJ):Bool:=PC p.k p.m p.atO p.s0 p.s1 p.s2 p.s3 p.s4&&(TI p.m p.repair p.target p.asZ&&(decide (l'' p.asQ>0)&&(auE p.asQ.length).all (PO asQ p.asQ)))
theorem ahE(asQ:Nat)(p:cJ):lL asQ p=Is asQ p:=by
 unfold lL Is;rw[agQ,ajJ];have i:decide (l'' p.asQ≠0)=decide (l'' p.asQ>0):=decide_eq_decide.2 Om;have l:(auE p.asQ.length).all (λj=>within (p.asQ.getD j 0) 0 ((asQ:Int)-1)&&!(p.asQ.take j).contains (p.asQ.getD j 0))=(auE p.asQ.length).all (PO asQ p.asQ):=by
  congr 1;funext j;unfold PO;congr 1;generalize p.asQ.getD j 0=x
  induction p.asQ.take j with
  |nil=>rfl
  |cons a t u =>rw[List.contains_cons,axP,<-u,Bool.not_or,bne,BEq.comm]
 rw[i,l];cases PC p.k p.m p.atO p.s0 p.s1 p.s2 p.s3 p.s4<;>cases TI p.m p.repair p.target p.asZ<;>cases decide (l'' p.asQ>0)<;>simp
structure vn(C:Ctx):Prop extends wS C where
 dur:∀(m:Int)(rep:List RF),mG rep->∀t h:RF,t.Ok->h.Ok->aG C 69 [.int .i64 m,frs rep,.agg t.cells,.agg h.cells] .nil (aJ (.bool (TI m rep t h)))
def oE(f:aH):List (List UInt8):=f.asT.map cJ.name
def PN(f:aH)(i:Nat):Bool:=match f.asT[i]? with
 |some p=>Is f.asQ.length p
 |none=>false
def p9(f:aH):Bool:=(auE f.asT.length).all (okL [] (oE f) (PN f))
theorem aiJ(L:vn C)(f:aH)(hf:f.Ok)(ι:l'' f.asT<=4)(ζ:l'' f.asQ<=4)(b:Bool)(K:cH)[Up K](F:PF)(H:PH)
  (hF:((((((n_.set 1 (.bQ f.cells)).set 6 (.aE)).set 7 (.aE)).set 8 (.bool b)).set 17 (.j 0)):PF).le F)
  (Y:∀H',K (.exit 8) ((((n_.set 1 (.bQ f.cells)).set 7 (.aE)).set 8 (.bool (b&&p9 f)))) H'):aK.wp C (.loop EG) K F H:=by
 obtain⟨ok,N⟩:∃ok,okL [] (oE f) (PN f)=ok:=⟨_,rfl⟩;unfold p9 at Y;rw[N]at Y;have θ:(oE f).length=l'' f.asT:=by simp[oE]
 refine wp_loop (α:=T3_) (λs=>(((((n_.set 1 (.bQ f.cells)).set 6 (s.2.1)).set 7 (.aE)).set 8 (.bool (b&&(auE s.1).all ok))).set 17 (.j s.1))) (λs=>s.2.2) (λs=>s.1<=l'' f.asT/\kD s.2.2 s.2.1 [] (oE f) (b&&(auE s.1).all ok) s.1) (λs=>l'' f.asT-s.1)
  (0,.aE,H) ⟨auK _,⟨[],aQ.nil.lJ 1,λ_=>rfl⟩⟩ (by
   have e:(b&&(auE 0).all ok)=b:=by cases b<;>rfl
   simp only[e];exact hF) b_ ?_
 rintro⟨i,w,U⟩ ⟨hi,hG⟩;simp only at hi hG ⊢;have fin:∀(c:Bool)(A:PV)(E:PF)(H':PH),i<l'' f.asT->(b&&(auE (i+1)).all ok)=c->kD H' A [] (oE f) true (i+1) ->
   ((((((n_.set 1 (.bQ f.cells)).set 6 (A)).set 7 (.aE)).set 8 (.bool c)).set 17 (.j (i+1:Nat))):PF).le E ->
   iF (λs:T3_=>(((((n_.set 1 (.bQ f.cells)).set 6 (s.2.1)).set 7 (.aE)).set 8 (.bool (b&&(auE s.1).all ok))).set 17 (.j s.1))) (λs=>s.2.2) (λs=>s.1<=l'' f.asT/\kD s.2.2 s.2.1 [] (oE f) (b&&(auE s.1).all ok) s.1) (λs=>l'' f.asT-s.1) (l'' f.asT-i) K .normal E H':=
  λc A E H' hlt hb V J=>aF (i+1,A,H') ⟨hlt,V.QX⟩ sO_ (by simp only;rw[hb];exact J) b_
 have l:=vW (p:=ok) i b;have M:=λh=>vT (p:=ok) (b:=b) hi h;have stop:(b&&(auE i).all ok)=(b&&(auE f.asT.length).all ok)->K (.exit 8) ((((n_.set 1 (.bQ f.cells)).set 7 (.aE)).set 8 (.bool (b&&(auE i).all ok)))) U:=λe=>by rw[e];exact Y U
 generalize hc:(b&&(auE i).all ok)=c at *
 simp only[go_sem,EG,auD];by_cases hlt:i<l'' f.asT
 ·have u:(i:Int)<(l'' f.asT:Nat):=Om;cases c with
  |false =>simp only[go_sem,u];exact Up.up Lq (stop (M rfl).symm)
  |true=>
   obtain⟨η,g1,g3⟩:=hG.ex;have Z:=ai hlt;have δ:i<(oE f).length:=Om;have ε:(oE f)[i]=(f.asT[i]).name:=by simp[oE]
   have O:ok i=(lH ([]++(oE f).take i) ((oE f).getD i [])&&Is f.asQ.length f.asT[i]):=by rw[<-N];unfold okL PN;rw[auP hlt]
   have y:=hf.atB _ (auH hlt);rw[O]at l;unfold Is at l;have Q:i_.wrap ((i:Int)+1)=((i+1:Nat):Int):=dU Om;simp only[go_sem,u,Z];refine aS λo ho=>?_;have g4:=g1.new ho (.rows 17 [(f.asT[i]).cells]);have g5:=g4.at 0 rfl;simp only[go_sem];generalize U.set o (.rows 17 [(f.asT[i]).cells])=H2 at *
   try simp only[go_sem,g5]
   refine kD.call L.totT (ns:=oE f) g4 (auK _) Om (g3 rfl) δ (by simp only[go_sem,ε]) λA H1 h1 W=>?_;have S:=h1.at 0 rfl;generalize lH ([]++(oE f).take i) ((oE f).getD i [])=fb at *
   generalize hd:f.asT[i]=p at *
   have rest:∀(c:Bool)(E:PF),(zpF f A o i c 0).le E->(c&&(auE p.asQ.length).all (PO f.asQ.length p.asQ))=(b&&(auE (i+1)).all ok) ->
     aK.wp C (.loop EF) (fX 10 (fX 9 (jB C (aK.wp C (.region RP)) (iF (λs:T3_=>(((((n_.set 1 (.bQ f.cells)).set 6 (s.2.1)).set 7 (.aE)).set 8 (.bool (b&&(auE s.1).all ok))).set 17 (.j s.1))) (λs=>s.2.2) (λs=>s.1<=l'' f.asT/\kD s.2.2 s.2.1 [] (oE f) (b&&(auE s.1).all ok) s.1) (λs=>l'' f.asT-s.1) (l'' f.asT-i) K)))) E H1:=by
    intro c E J β;refine Xi L.towS f ζ A o i p y.asQ c _ _ _ S J ?_;rw[β];simp only[go_sem,RP,Q];exact fin _ A _ _ hlt rfl W Lq
   cases fb with
   |false =>simp only[go_sem];exact rest false _ (by(repeat' (first|exact e_|refine d_ ?_ ?_))<;>first|(simp only[go_sem,zpF]<;>rfl)|rfl) (by rw[l];rfl)
   |true=>
    simp only[go_sem,S];refine aA (L.nums p.k p.m p.atO p.s0 p.s1 p.s2 p.s3 p.s4) Sq ?_;cases k0:PC p.k p.m p.atO p.s0 p.s1 p.s2 p.s3 p.s4 with
    |false =>simp only[go_sem];exact rest false _ (by(repeat' (first|exact e_|refine d_ ?_ ?_))<;>first|(simp only[go_sem,zpF]<;>rfl)|rfl) (by rw[l,k0];rfl)
    |true=>
     simp only[go_sem,S];refine aA (L.dur p.m p.repair y.repair p.target p.asZ y.target y.asZ) Sq ?_;cases k1:TI p.m p.repair p.target p.asZ with
     |false =>simp only[go_sem];exact rest false _ (by(repeat' (first|exact e_|refine d_ ?_ ?_))<;>first|(simp only[go_sem,zpF]<;>rfl)|rfl) (by rw[l,k0,k1];rfl)
     |true =>have γ:decide ((l'' p.asQ:Int)>0)=decide (l'' p.asQ>0):=decide_eq_decide.2 Om;simp only[go_sem,S,auD,γ];exact rest _ _ (by(repeat' (first|exact e_|refine d_ ?_ ?_))<;>first|(simp only[go_sem,zpF]<;>rfl)|rfl) (by rw[l,k0,k1];rfl)
 ·have u:¬(i:Int)<(l'' f.asT:Nat):=Om;have:i=l'' f.asT:=Om;subst this;simp only[go_sem,u];exact Up.up Lq (stop hc.symm)
def uM(r:cQ):Bool:=(r.name==[])&&((r.level==0)&&((r.parent==-1)&&((r.atJ==0)&&(cK (val r.atE.num) (val r.atE.den)&&(rN r.atE==0)))))
def Q2(f:aH):Bool:=match f.asS with
 |[]=>false
 |r::_=>uM r
def aaQ(f:aH):Bool:=within f.atV 1 4&&(tO f.asW.length f.asQ.length f.asS.length f.asP.length f.asT.length f.asR.length&&(decide (0<l'' f.asS)&&((((((OF f&&EU f)&&Q2 f)&&CS f)&&EK f)&&p9 f)&&Dx f)))
theorem Lt(n:Nat)(p q:Nat->Bool):(auE n).all (λi=>p i&&q i)=((auE n).all p&&(auE n).all q):=by
 induction n with
 |zero=>rfl
 |succ n l =>simp only[ayA,List.all_append,l,axP,List.all_nil,awP];cases(auE n).all p<;>cases(auE n).all q<;>cases p n<;>simp
theorem FK{α:Type}(l:List α)(p:α->Bool):(auE l.length).all (λi=>(l.map p).getD i false)=l.all p:=by
 refine Bool.eq_iff_iff.2 ?_;rw[auX,auX];constructor;intro h x u;obtain⟨i,hi,rfl⟩:=awI u;have:=h i (avM.2 hi);simpa[auM,hi]using this;intro h i hi;have hi:=avM.1 hi;simp[auM,hi,h _ (auH hi)]
theorem LM(ns:List (List UInt8))(n:Nat)(l:l'' ns=n)(P:Nat->Bool):(auE n).all (okL [] ns P)=(distinct ns&&(auE n).all P):=by
 subst l;have:okL [] ns P=λi=>(isName (ns.getD i [])&&!(ns.take i).contains (ns.getD i []))&&P i:=by funext i;rfl
 rw[this,Lt];rfl
theorem agS(base ns:List (List UInt8))(P Q:Nat->Bool):((auE base.length).all (okL [] base P)&&(auE ns.length).all (okL base ns Q))=(distinct (base++ns)&&((auE base.length).all P&&(auE ns.length).all Q)):=by
 have l:okL base ns Q=λi=>(isName (ns.getD i [])&&!(base++ns.take i).contains (ns.getD i []))&&Q i:=by funext i;rfl
 have e2:distinct (base++ns)=(distinct base&&(auE ns.length).all λi=>isName (ns.getD i [])&&!(base++ns.take i).contains (ns.getD i [])):=by
  unfold distinct;rw[auJ,List.range_add,List.all_append,List.all_map];congr 1;refine Bool.eq_iff_iff.2 ?_;rw[auX,auX];refine forall_congr' λi=>forall_congr' λhi=>?_;have hi:=avM.1 hi;have a1:(base++ns).getD i []=base.getD i []:=by simp only[auM];rw[awR hi]
  have a2:(base++ns).take i=base.take i:=by rw[List.take_append_of_le_length Om]
  rw[a1,a2];refine Bool.eq_iff_iff.2 ?_;rw[auX,auX];refine forall_congr' λi=>forall_congr' λ_=>?_;have a1:(base++ns).getD (l'' base+i) []=ns.getD i []:=by simp only[auM];rw[awH Om];congr 2;omega
  have a2:(base++ns).take (l'' base+i)=base++ns.take i:=by rw[List.take_append,auZ Om];congr 2;omega
  simp only[Function.comp,a1,a2]
 rw[LM base base.length rfl P,l,Lt,e2];cases distinct base<;>cases(auE base.length).all P<;>simp
theorem aaW(r:cQ):(decide (r.name=[])&&decide (r.level=0)&&decide (r.parent=-1)&&decide (r.atJ=0)&&dQ r.atE&&!bW r.atE)=uM r:=by
 have w:decide (r.name=[])=(r.name==[]):=by cases r.name<;>rfl
 have y:decide (r.level=0)=(r.level==0):=by generalize r.level=x;by_cases h:x=0<;>simp[h]
 have A:decide (r.parent=-1)=(r.parent==-1):=by generalize r.parent=x;by_cases h:x=-1<;>simp[h]
 have E:decide (r.atJ=0)=(r.atJ==0):=by generalize r.atJ=x;by_cases h:x=0<;>simp[h]
 have h5:(dQ r.atE&&!bW r.atE)=(cK (val r.atE.num) (val r.atE.den)&&(rN r.atE==0)):=by
  rw[QF];by_cases h:val r.atE.num=0
  ·have l:bW r.atE=false:=by unfold bW;simp[h]
   rw[l];simp only[auY,awP];cases i:cK (val r.atE.num) (val r.atE.den)with
   |false =>unfold dQ oF;rw[i];rfl
   |true=>
    obtain⟨F,-,-⟩:=fT.1 i;unfold dQ oF;rw[i,aD rfl,d7 i,h];unfold nZ;have hb:val r.atE.den/auF 0 (val r.atE.den)=1:=by rw[Nat.gcd_zero_left,Nat.div_self (axJ F)]
    have u:dC (0/auF 0 (val r.atE.den))=0:=by rw[Nat.zero_div];exact lZ
    have b1:dC 1=1:=by rw[tB aU,lZ]
    simp only[hb,u,b1];simp
  have l:bW r.atE=true:=by unfold bW;simp[h]
  rw[l];simp
 unfold uM;rw[w,y,A,E];simp only[ayC]at h5 ⊢;rw[h5]
theorem Yr(f:aH){r:cQ}{t:List cQ}(h:f.asS=r::t):HM f r t=(uM r&&(auE t.length).all (CR f)):=by
 unfold HM;rw[aaW];congr 2;funext i;unfold CR;rw[h,List.getElem?_cons_succ];cases t[i]? with
 |none=>rfl
 |some d=>exact aeK f i d
theorem Tn(f:aH):f.asP.all (kT f)=(auE f.asP.length).all (AK f):=by
 have:AK f=λi=>(f.asP.map (kT f)).getD i false:=by
  funext i;unfold AK;rw[auM,avC];cases f.asP[i]? with
  |none=>rfl
  |some d=>
   show Fl f d=kT f d;unfold Fl kT;have:decide ((f.asS.map cQ.level).getD d.machine.toNat 0=4)=((f.asS.map cQ.level).getD d.machine.toNat 0==4):=by generalize(f.asS.map cQ.level).getD d.machine.toNat 0=u;by_cases h:u=4<;>simp[h]
   rw[this,ayC]
 rw[this,FK]
theorem Vi(f:aH):f.asT.all (lL f.asQ.length)=(auE f.asT.length).all (PN f):=by
 have:PN f=λi=>(f.asT.map (lL f.asQ.length)).getD i false:=by
  funext i;unfold PN;rw[auM,avC];cases f.asT[i]? with
  |none=>rfl
  |some d=>exact(ahE _ d).symm
 rw[this,FK]
theorem ahF(f:aH):aaQ f=dR f:=by
 have Q:wt f.asW.length=mX f:=by funext m;unfold wt mX;rw[ayC]
 have F:J8 f.asT.length=rR f:=rfl;have S:(within f.atV 1 4&&tO f.asW.length f.asQ.length f.asS.length f.asP.length f.asT.length f.asR.length)=pV f:=by unfold pV tO;simp only[ayC]
 unfold aaQ dR OF EU p9 Dx;rw[LM _ _ (by rw[auD]),LM _ _ (by rw[auD]),LM _ _ (by rw[oE,auD]),LM _ _ (by rw[auD]),FK,FK,FK,Q,F,Vi,Tn,<-ayC,S];unfold rE Q2;cases l:f.asS with
 |nil=>simp
 |cons r t=>
  have i:decide (0<l'' f.asS)=true:=by rw[l];simp
  rw[l]at i;rw[i,auV];simp only;rw[Yr f l];have E:jV f=(f.asS.drop 1).map cQ.name:=rfl;rw[l]at E;have O:(jV f).length=l'' t:=by rw[E];simp
  have two:=agS (jV f) (pD f) (CR f) (AK f);rw[O,show(pD f).length=f.asP.length by simp[pD]]at two;have N:CS f=(auE t.length).all (okL [] (jV f) (CR f)):=by unfold CS;rw[l];rfl
  have e2:EK f=(auE f.asP.length).all (okL (jV f) (pD f) (AK f)):=rfl;rw[N,e2,<-E];rw[show f.asP.map eE.name=pD f from rfl,show f.asT.map cJ.name=oE f from rfl];generalize(auE t.length).all (okL [] (jV f) (CR f))=a at *
  generalize(auE f.asP.length).all (okL (jV f) (pD f) (AK f))=b at *
  generalize distinct (jV f++pD f)=c at *
  generalize(auE t.length).all (CR f)=d at *
  generalize(auE f.asP.length).all (AK f)=e at *
  generalize pV f=s;generalize uM r=ro;generalize distinct (f.asW.map cT.name)=u;generalize f.asW.all mW=w;generalize distinct (f.asQ.map dN.name)=y;generalize f.asQ.all (mX f)=A;generalize distinct (oE f)=H;generalize(auE f.asT.length).all (PN f)=J;generalize distinct (f.asR.map dW.name)=K;generalize f.asR.all (rR f)=M;have:(s&&(((((((u&&w)&&(y&&A))&&ro)&&a)&&b)&&(H&&J))&&(K&&M)))=(s&&(ro&&((u&&w)&&((y&&A)&&((a&&b)&&((H&&J)&&(K&&M))))))):=by cases s<;>cases ro<;>cases u<;>cases w<;>cases y<;>cases A<;>simp[ayC]
  rw[this,two];cases s<;>cases ro<;>cases u<;>cases w<;>cases y<;>cases A<;>cases c<;>cases d<;>cases e<;>simp;cases H<;>cases J<;>cases K<;>cases M<;>rfl
theorem aaV(f:aH)(h:0<l'' f.asS):Q2 f=uM f.asS[0]:=by
 obtain⟨a,b,c,d,e,g,i⟩:=f;cases d with
 |nil=>simp at h
 |cons r t=>rfl
theorem Xn(L:vn C)(f:aH)(u:f.Ok):ci.wp C (aX dO.res (aJ (.bool (dR f)))) (g_ [.agg f.cells]) .nil:=by
 have l:=ahF f;unfold aaQ at l;have fail:∀(F:PF)(H:PH),dR f=false->F 2=some (.bool false)->aX [.tmp 2] (aJ (.bool (dR f))) .ret F H:=λF H e h=>by rw[e];exact aY (vs:=[.bool false]) (.inr rfl) .nil (by simp only[go_sem,h]) a_ ⟨rfl,rfl⟩
 simp only[go_sem,ci,dO];refine aA (L.inn f.atV 1 4) rfl ?_;cases Y:within f.atV 1 4 with
 |false =>rw[Y,auN]at l;simp only[go_sem,auY];exact fail _ _ l.symm rfl
 |true=>
 rw[Y,auV]at l;simp only[go_sem,auO,auD];refine aA (L.sizes f.asW.length f.asQ.length f.asS.length f.asP.length f.asT.length f.asR.length) rfl ?_;cases k1:tO f.asW.length f.asQ.length f.asS.length f.asP.length f.asT.length f.asR.length with
 |false =>rw[k1,auN]at l;simp only[go_sem,auY];exact fail _ _ l.symm rfl
 |true=>
 rw[k1,auV]at l;obtain⟨Q,E,J,S,U,α⟩:=VE k1;by_cases h0:l'' f.asS=0;rw[bT Om,auN]at l;simp only[go_sem,auO,auD,cI (Om:(l'' f.asS:Int)=0)];exact fail _ _ l.symm rfl;have i:0<l'' f.asS:=Om;rw[bH i,auV]at l;simp only[go_sem,auO,auD,bP (Om:(l'' f.asS:Int)≠0)];refine aiI L.towS f u Q _ _ _ Lq λH1=>?_;simp only[go_sem];refine Xm L.towS f u k1 (OF f) _ _ _ Lq λH2=>?_;have N:=mO i;have A:=(u.dom _ (auH i)).1;have O:=aaV f i;rw[O]at l;generalize f.asS[0]=r at *
 have rest:∀(c:Bool)(F:PF)(H:PH),((((((n_.set 1 (.bQ f.cells)).set 5 (.aE)).set 6 (.aE)).set 7 (.aE)).set 8 (.bool c)):PF).le F->c=((OF f&&EU f)&&uM r) ->
   aK.wp C (.seq (.seq (.region RL) (.block 4 (.loop ED))) (.seq (.seq (.region RM) (.block 6 (.loop EE))) (.seq (.seq (.region RN) (.block 8 (.loop EG))) (.seq (.seq (.region RQ) (.block 14 (.loop EH))) (.seq (.region RR) .ret))))) (aX [.tmp 2] (aJ (.bool (dR f)))) F H:=by
  intro c F H hF hc;refine sT _ (λ_ _ _ _ a b=>Up.up a b) hF ?_;simp only[go_sem,RL];refine aiH L.towS f u J i c _ _ _ Lq λw Z hG=>?_;simp only[go_sem,RM];refine Xl L.towS f u J i S E (c&&CS f) w _ _ _ hG Lq λH4=>?_;simp only[go_sem,RN];refine aiJ L f u U E ((c&&CS f)&&EK f) _ _ _ Lq λH5=>?_;simp only[go_sem,RQ];refine aiK L.towS f u k1 (((c&&CS f)&&EK f)&&p9 f) _ _ _ Lq λH6=>?_;simp only[go_sem,RR];refine aY (vs:=[.bool (dR f)]) (.inr rfl) .nil ?_ a_ ⟨rfl,rfl⟩;rw[<-l,hc];simp only[go_sem]
 simp only[aK.wp,go_sem]at rest;simp only[go_sem,N];refine aS λo ho=>?_;have g0:(H2.set o (.rows 7 [r.cells])) o=some (.rows 7 [r.cells]):=cA ..;simp only[go_sem];generalize H2.set o (.rows 7 [r.cells])=Z at *
 cases k2:(OF f&&EU f)with
 |false =>simp only[go_sem];exact rest false _ _ Lq (by rw[k2];rfl)
 |true=>
  simp only[go_sem,g0];cases y:r.name==[]with
  |false =>simp only[go_sem];exact rest false _ _ Lq (by rw[k2];unfold uM;rw[y];rfl)
  |true=>
   simp only[go_sem,g0];cases K:r.level==0 with
   |false =>simp only[go_sem];exact rest false _ _ Lq (by rw[k2];unfold uM;rw[y,K];rfl)
   |true=>
    simp only[go_sem,g0];cases M:r.parent==-1 with
    |false =>simp only[go_sem];exact rest false _ _ Lq (by rw[k2];unfold uM;rw[y,K,M];rfl)
    |true=>
     simp only[go_sem,g0];cases V:r.atJ==0 with
     |false =>simp only[go_sem];exact rest false _ _ Lq (by rw[k2];unfold uM;rw[y,K,M,V];rfl)
     |true=>
      simp only[go_sem,g0];refine aA (L.valid _ A) rfl ?_;cases W:cK (val r.atE.num) (val r.atE.den)with
      |false =>simp only[go_sem];exact rest false _ _ Lq (by rw[k2];unfold uM;rw[y,K,M,V,W];rfl)
      |true =>simp only[go_sem,g0];refine aA (L.sign _ A W) rfl ?_;simp only[go_sem];exact rest _ _ _ Lq (by rw[k2];unfold uM;rw[y,K,M,V,W];rfl)







def WM:=bR [3,4,37,53,119,142,144,167,191,206] Proofs.Tryz.f17
def bo:=bX WM
def iD:=bR [] Proofs.Tryz.f18
def BA:=aC iD 5
def KE:=eY iD 0
def KF:=aC iD 6
def GU:aK:=(iP (aC iD 7) 38 4 (aC iD 10) (sq (aC iD 8) (.region (aC iD 9))))
def GW:=aC iD 11
def GX:=aC iD 12
def GY:=aC iD 13
def SB:aK:=(.seq .skip (.block 0 (.loop (.block 1 (sq (aC iD 0) (.seq (eH (aC iD 1) 2 (iP (aC iD 2) 20 2 (aC iD 14) (sq (aC iD 3) (sq (aC iD 4) (iE BA 25 (.draw KE) (.seq (eH KF 4 GU) (sq GW (.cond (Tm 49) (sq GX (sq GY (.exit 1))) .skip)))))))) .ret))))))
def tp:=bR [] Proofs.Tryz.f19
def tq:=bX tp
def WN:=bR [] Proofs.Tryz.f20
def br:=bX WN
def WP:=bR [] Proofs.Tryz.f22
def bs:=bX WP
def jX:=bR [3,20,39] Proofs.Tryz.f51
def KD:=aC jX 3
def KC:aK:=(iP (aC jX 4) 26 0 (aC jX 6) (sq (aC jX 5) (.draw (eY jX 1))))
def GT:=aC jX 7
def SA:aK:=(sq (aC jX 0) (sq (aC jX 1) (iE (aC jX 2) 10 (.draw (eY jX 0)) (.seq (eH KD 0 KC) (sq GT .ret)))))
def WU:=bR [3] Proofs.Tryz.f52
def cd:=bX WU
def WT:=bR [] Proofs.Tryz.f53
def cb:=bX WT
def WQ:=bR [] Proofs.Tryz.f54
def bw:=bX WQ
def tj:=bR [] Proofs.Tryz.f57
def tk:=bX tj
def MG:=bR [] Proofs.Tryz.f87
def WO:=bX MG
def mK:=bR [] Proofs.Tryz.f88
def tr:=aC mK 0
def tt:=aC mK 1
def tu:=aC mK 2
def tv:=aC mK 3
def tw:=eY mK 0
def tx:=aC mK 4
def tz:=aC mK 5
def t6:=aC mK 6
def t7:=eY mK 1
def t8:=aC mK 7
def bz:aK:=(iP tz 43 2 t8 (sq t6 (.draw t7)))
def b9:=aC mK 8
def b8:aK:=(iP tu 18 0 b9 (sq tv (dq tw (eH tx 2 bz))))
def WR:aK:=(sq tr (eH tt 0 b8))
def WS:=bR [] Proofs.Tryz.f89
def ca:=bX WS
def eN:=bR [3,4,112,145,179] Proofs.Tryz.f6
def Bs:=aC eN 0
def Bu:=aC eN 1
def Bv:=aC eN 2
def Bw:=aC eN 3
def By:=aC eN 4
def Bz:=aC eN 5
def B0:=aC eN 6
def B5:=aC eN 7
def B6:=aC eN 8
def B7:=aC eN 9
def ug:=aC eN 10
def uh:=aC eN 11
def ui:=aC eN 12
def uj:=aC eN 13
def uk:=aC eN 14
def ul:=eY eN 0
def um:=aC eN 15
def uo:=eY eN 1
def uq:=eY eN 2
def zH:=aC eN 16
def uc:aK:=(iP ui 54 0 zH (sq uj (iE uk 80 (.exit 1) (dq ul (sq um (dq uo (.draw uq)))))))
def ut:=aC eN 17
def uu:=aC eN 18
def uv:=aC eN 19
def uw:=aC eN 20
def ux:=aC eN 21
def EC:=aC eN 22
def RA:=eY eN 3
def RB:=aC eN 23
def uy:=aC eN 24
def ud:aK:=(iP uv 124 2 uy (sq uw (sq ux (iE EC 129 (.draw RA) (.region RB)))))
def uz:=aC eN 25
def u0:=aC eN 26
def u5:=aC eN 27
def u6:=eY eN 4
def u7:=aC eN 28
def u9:=aC eN 29
def ue:aK:=(iP u0 153 4 u9 (sq u5 (dq u6 (.region u7))))
def RC:=aC eN 30
def RD:=aC eN 31
def cc:aK:=(sq Bs (.seq (sq Bu (sq Bv (.cond (Tm 31) (sq Bw .ret) .skip))) (sq By (sq Bz (mM B0 42 B5 (sq B6 (sq B7 (sq ug (.seq (eH uh 0 uc) (sq ut (.seq (eH uu 2 ud) (.seq (eH uz 4 ue) (sq RC (sq RD .ret))))))))))))))
def bB(f:Nat->Int):Nat->Int
 |0=>0
 |n+1=>bB f n+f n
theorem bM{f g:Nat->Int}:∀{n},(∀k,k<n->f k=g k)->bB f n=bB g n
 |0,_=>rfl
 |n+1,h=>by rw[bB,bB,bM λk i=>h k Om,h n Om]
theorem lP(f g:Nat->Int):∀n,bB (λk=>f k+g k) n=bB f n+bB g n
 |0=>rfl
 |n+1=>by rw[bB,bB,bB,lP f g n];omega
theorem dD(a:Int)(f:Nat->Int):∀n,bB (λk=>a*f k) n=a*bB f n
 |0=>(axE a).symm
 |n+1=>by rw[bB,bB,dD a f n,Int.mul_add]
theorem gV{f:Nat->Int}:∀{n},(∀k,k<n->f k=0)->bB f n=0
 |0,_=>rfl
 |n+1,h=>by rw[bB,gV λk i=>h k Om,h n Om];rfl
theorem jW{f:Nat->Int}{i:Nat}:∀{n},i<n->(∀k,k<n->k≠i->f k=0)->bB f n=f i
 |0,hi,_=>absurd hi (axA _)
 |n+1,hi,h=>by rw[bB];by_cases e:i=n;subst e;rw[gV λk u=>h k Om Om,Int.zero_add];rw[jW (i:=i) Om (λk u l=>h k Om l),h n Om (λh=>e h.symm),Int.add_zero]
theorem Jq{f:Nat->Int}{i j:Nat}(u:i≠j):∀{n},i<n->j<n->(∀k,k<n->k≠i->k≠j->f k=0)->bB f n=f i+f j
 |0,hi,_,_=>absurd hi (axA _)
 |n+1,hi,E,h=>by rw[bB];by_cases e:i=n;subst e;rw[jW (i:=j) Om λk w l=>h k Om Om l];omega;by_cases e2:j=n;subst e2;rw[jW (i:=i) Om λk w l=>h k Om l Om];rw[Jq u Om Om (λk w y A=>h k Om y A),h n Om (λh=>e h.symm) (λh=>e2 h.symm),Int.add_zero]
theorem qY(f:Nat->Nat->Int)(m:Nat):∀n,bB (λk=>bB (f k) m) n=bB (λl=>bB (λk=>f k l) n) m
 |0=>(gV λ_ _=>rfl).symm
 |n+1=>by rw[bB,qY f m n,<-lP];rfl
theorem wP{f:Nat->Int}{B:Nat}:∀{n},(∀k,k<n->(f k).natAbs<=B)->(bB f n).natAbs<=n*B
 |0,_=>auK _
 |n+1,h=>by have i:=wP (n:=n) λk w=>h k Om;have l:=h n Om;have u:=Int.natAbs_add_le (bB f n) (f n);rw[bB,axB];omega
abbrev Mx:=Nat->Nat->Int
def cW(c:Mx)(i:Nat)(v:Nat->Int):Mx:=λj=>if j=i then v else c j
theorem gN(c:Mx)(i:Nat)(v:Nat->Int):cW c i v i=v:=aD rfl
theorem jH(c:Mx){i j:Nat}(v:Nat->Int)(h:j≠i):cW c i v j=c j:=aB h
theorem BW(c:Mx)(i:Nat):cW c i (c i)=c:=by
 funext j;unfold cW;split;rename_i h;rw[h];rfl
theorem EA(c:Mx)(i:Nat)(u v:Nat->Int):cW (cW c i u) i v=cW c i v:=by
 funext j;unfold cW;split<;>rfl
theorem BV(c:Mx){i j:Nat}(u v:Nat->Int)(h:i≠j):cW (cW c i u) j v=cW (cW c j v) i u:=by
 funext k;unfold cW;by_cases a:k=j;rw[aD a,aB Om,aD a];rw[aB a,aB a]
def skip(k r:Nat):Nat:=if r<k then r else r+1
def sgZ:Nat->Int
 |0=>1
 |k+1=>- sgZ k
def oW(c:Mx)(k:Nat):Mx:=λj r=>c (j+1) (skip k r)
def dL:Nat->Mx->Int
 |0,_=>1
 |n+1,c=>bB (λk=>sgZ k*c 0 k*dL n (oW c k)) (n+1)
theorem xx{n k r:Nat}(i:r<n):skip k r<n+1:=by
 unfold skip;split<;>omega
theorem pL:∀{n:Nat}{c d:Mx},(∀j r,j<n->r<n->c j r=d j r)->dL n c=dL n d
 |0,_,_,_=>rfl
 |n+1,c,d,h=>by unfold dL;refine bM λk i=>?_;rw[h 0 k Om i,pL (c:=oW c k) (d:=oW d k) λj r u l=>h (j+1) _ Om (xx l)]
theorem x2(c:Mx)(i k:Nat)(v:Nat->Int):oW (cW c (i+1) v) k=cW (oW c k) i λr=>v (skip k r):=by
 funext j r;unfold oW cW;by_cases h:j=i;rw[aD h,aD Om];rw[aB h,aB Om]
theorem iw(c:Mx)(k:Nat)(v:Nat->Int):oW (cW c 0 v) k=oW c k:=by
 funext j r;unfold oW cW;rw[aB Om]
theorem zP:∀{n:Nat}(c:Mx){i:Nat},i<n->∀(a b:Int)(u v:Nat->Int),dL n (cW c i λr=>a*u r+b*v r)=a*dL n (cW c i u)+b*dL n (cW c i v)
 |0,_,_,h,_,_,_,_=>absurd h (axA _)
 |n+1,c,0,_,a,b,u,v=>by
  unfold dL;rw[<-dD,<-dD,<-lP];refine bM λk _=>?_;rw[iw,iw,iw,gN,gN,gN]
  grind
 |n+1,c,i+1,hi,a,b,u,v=>by
  unfold dL;rw[<-dD,<-dD,<-lP];refine bM λk _=>?_;rw[x2,x2,x2,zP (oW c k) (Om:i<n) a b,jH _ _ (Nat.succ_ne_zero i).symm,jH _ _ (Nat.succ_ne_zero i).symm,jH _ _ (Nat.succ_ne_zero i).symm]
  grind
theorem Yn{n:Nat}(c:Mx){i:Nat}(hi:i<n){u:Nat->Int}(h:∀r,r<n->u r=0):dL n (cW c i u)=0:=by
 have l:=zP c hi 0 0 u u;rw[awV,Int.add_zero]at l;rw[<-l];refine pL λj r y w=>?_;unfold cW;split;rw[h r w];simp;rfl
theorem XI{n:Nat}(c:Mx){i:Nat}(hi:i<n)(a:Nat->Int)(w:Nat->Nat->Int):∀m,dL n (cW c i λr=>bB (λk=>a k*w k r) m)=bB (λk=>a k*dL n (cW c i (w k))) m
 |0=>Yn c hi λ_ _=>rfl
 |m+1=>by have h:=zP c hi 1 (a m) (λr=>bB (λk=>a k*w k r) m) (w m);rw[XI c hi a w m,Int.one_mul]at h;rw[bB,<-h];refine congrArg _ (congrArg _ (funext λr=>?_));rw[bB,Int.one_mul]
theorem Wa{k l r:Nat}(h:k<=l):skip k (skip l r)=skip (l+1) (skip k r):=by
 unfold skip;by_cases a:r<k;rw[aD (Om:r<l),aD a,aD (Om:r<l+1)];rw[aB a];by_cases b:r<l;rw[aD b,aB a,aD Om];rw[aB b,aB Om,aB Om]
theorem re(g:Nat->Nat->Int):∀N,bB (λk=>bB (g k) N) (N+1)=bB (λq=>bB (λp=>g p (q-1)+g q p) q) (N+1)
 |0=>rfl
 |N+1=>by
  have h:=re g N;rw[bB,show bB (λq=>bB (λp=>g p (q-1)+g q p) q) (N+1+1)=bB (λq=>bB (λp=>g p (q-1)+g q p) q) (N+1)+bB (λp=>g p (N+1-1)+g (N+1) p) (N+1)from rfl,<-h];have e:bB (λk=>bB (g k) (N+1)) (N+1)=bB (λk=>bB (g k) N) (N+1)+bB (λk=>g k N) (N+1):=by rw[<-lP];rfl
  rw[e,lP];show _=_+(bB (λk=>g k N) (N+1)+_);omega
theorem vz:∀{n:Nat}{c:Mx}{i:Nat},i+1<n->(∀r,r<n->c i r=c (i+1) r)->dL n c=0
 |0,_,_,h,_=>absurd h (axA _)
 |1,_,_,h,_=>absurd h Om
 |n+2,c,0,_,h=>by
  have e:dL (n+2) c=bB (λk=>bB (λl=>sgZ k*c 0 k*(sgZ l*c 1 (skip k l)*dL n (oW (oW c k) l))) (n+1)) (n+2):=by show bB (λk=>sgZ k*c 0 k*bB (λl=>sgZ l*c 1 (skip k l)*dL n (oW (oW c k) l)) (n+1)) (n+2)=_;exact bM λk _=>(dD ..).symm
  rw[e,re];refine gV λq y=>gV λp hp=>?_;obtain⟨s,rfl⟩:∃s,q=s+1:=⟨q-1,by omega⟩;rw[Nat.add_sub_cancel];have u:skip p s=s+1:=aB Om;have e2:skip (s+1) p=p:=aD hp;have w:oW (oW c p) s=oW (oW c (s+1)) p:=by funext j r;unfold oW;rw[Wa (Om:p<=s)]
  rw[u,e2,w,h p Om,h (s+1) y,sgZ]
  grind
 |n+2,c,i+1,hi,h=>by unfold dL;refine gV λk _=>?_;rw[vz (c:=oW c k) (i:=i) Om (λr A=>h _ (xx A)),axE]
def swM(c:Mx)(i j:Nat):Mx:=cW (cW c i (c j)) j (c i)
theorem ZD{n:Nat}{i j:Nat}(hi:i<n)(y:j<n)(l:i≠j)(w:∀c:Mx,(∀r,r<n->c i r=c j r)->dL n c=0)(c:Mx):dL n (swM c i j)=- dL n c:=by
 have e:dL n (cW (cW c i λr=>1*c i r+1*c j r) j λr=>1*c i r+1*c j r)=0:=w _ λr _=>by rw[jH _ _ l,gN,gN]
 have u:j≠i:=λh=>l h.symm;rw[zP _ y]at e;rw[BV c _ _ l,BV c _ _ l,zP _ hi,zP _ hi]at e;have A:dL n (cW (cW c j (c i)) i (c i))=0:=w _ λr _=>by rw[gN,jH _ _ u,gN]
 have E:dL n (cW (cW c j (c j)) i (c j))=0:=w _ λr _=>by rw[gN,jH _ _ u,gN]
 rw[A,E,BW c j,BW c i]at e;unfold swM;rw[BV c _ _ l];omega
theorem Fa:∀(k:Nat){n i:Nat}{c:Mx},i+1+k<n->(∀r,r<n->c i r=c (i+1+k) r)->dL n c=0
 |0,_,_,_,l,h=>vz l h
 |k+1,n,i,c,l,h=>by
  have y:=ZD (n:=n) (i:=i+1+k) (j:=i+1+(k+1)) Om Om Om (λc u=>vz (i:=i+1+k) l u) c;have A:=Fa k (n:=n) (i:=i) (c:=swM c (i+1+k) (i+1+(k+1))) Om λr w=>by unfold swM;rw[jH _ _ Om,jH _ _ Om,jH _ _ Om,gN];exact h r w
  omega
theorem FS{n i j:Nat}{c:Mx}(hi:i<n)(u:j<n)(l:i≠j)(h:∀r,r<n->c i r=c j r):dL n c=0:=by
 rcases Nat.lt_or_gt_of_ne l with a|a
 obtain⟨k,rfl⟩:∃k,j=i+1+k:=⟨j-i-1,by omega⟩;exact Fa k u h;obtain⟨k,rfl⟩:∃k,i=j+1+k:=⟨i-j-1,by omega⟩;exact Fa k hi λr w=>(h r w).symm
theorem Ym{n i j:Nat}(hi:i<n)(u:j<n)(l:i≠j)(c:Mx):dL n (swM c i j)=- dL n c:=ZD hi u l (λ_ h=>FS hi u l h) c
def c8:Nat->Nat
 |0=>1
 |n+1=>(n+1)*c8 n
theorem V8:∀k,(sgZ k).natAbs=1
 |0=>rfl
 |k+1=>by rw[sgZ,Int.natAbs_neg,V8 k]
theorem vw:∀{n:Nat}{c:Mx},(∀j r,j<n->r<n->(c j r).natAbs<=1)->(dL n c).natAbs<=c8 n
 |0,_,_=>auG _
 |n+1,c,h=>by unfold dL c8;refine wP λk u=>?_;have i:=h 0 k Om u;have l:=vw (c:=oW c k) λj r y w=>h (j+1) _ Om (xx w);rw[axO,axO,V8,Nat.one_mul];have:=awY i l;omega
def idM:Mx:=λj r=>if r=j then 1 else 0
theorem TG:∀n,dL n idM=1
 |0=>rfl
 |n+1=>by
  unfold dL;rw[jW (i:=0) (Nat.succ_pos n) λk _ l=>by simp[idM,l]];have e:oW idM 0=idM:=by funext j r;unfold oW idM skip;simp
  rw[e,TG n];rfl
def cj(n:Nat)(c:Mx):Prop:=∀(v:Nat->Int)(r:Nat),r<n->dL n c*v r=bB (λl=>dL n (cW c l v)*c l r) n
theorem x6(v:Nat->Int){n r:Nat}(l:r<n):v r=bB (λk=>v k*idM k r) n:=by
 rw[jW l λk _ i=>by unfold idM;rw[aB (λh=>i h.symm),axE]];unfold idM;rw[aD rfl,Int.mul_one]
theorem L3(n:Nat):cj n idM:=by
 intro v r w;rw[TG,Int.one_mul,x6 v w];refine bM λl u=>congrArg (·*_) ?_;have e:dL n (cW idM l v)=dL n (cW idM l λr=>bB (λk=>v k*idM k r) n):=pL λj r A w=>by unfold cW;split;exact x6 v w;rfl
 rw[e,XI _ u,jW u λk y i=>by rw[FS u y (λh=>i h.symm) λr _=>by rw[gN,jH _ _ i],axE],BW,TG,Int.mul_one]
theorem Yy{n:Nat}{c:Mx}(H:cj n c){i r:Nat}(hi:i<n)(y:r<n)(w:i≠r)(u v:Nat->Int) :
  dL n c*dL n (cW (cW c i u) r v)=dL n (cW c r v)*dL n (cW c i u)-dL n (cW c r u)*dL n (cW c i v):=by
 have e:dL n c*dL n (cW (cW c i u) r v)=dL n (cW (cW c i u) r λk=>bB (λl=>dL n (cW c l v)*c l k) n):=by have h:=zP (cW c i u) y (dL n c) 0 v v;rw[awV,Int.add_zero]at h;rw[<-h];refine pL λj k M J=>?_;by_cases a:j=r;subst a;rw[gN,gN];show dL n c*v k+0*v k=_;rw[awV,Int.add_zero];exact H v k J;rw[jH _ _ a,jH _ _ a]
 rw[e,XI _ y,Jq w hi y λl K F A=>by
  have z:dL n (cW (cW c i u) r (c l))=0:=FS y K (λh=>A h.symm) λk _=>by rw[gN,jH _ _ A,jH _ _ F]
  rw[z,axE]]
 have E:cW (cW c i u) r (c r)=cW c i u:=by
  have:=BW (cW c i u) r
  rwa[jH _ _ (λh=>w h.symm)]at this
 have e2:dL n (cW (cW c i u) r (c i))=- dL n (cW c r u):=by have h:=Ym hi y w (cW c r u);unfold swM at h;rw[gN,jH _ _ w,BV _ _ _ w,EA]at h;rw[<-h,BV _ _ _ w]
 rw[E,e2]
 grind
theorem S8{n:Nat}{c:Mx}(w:cj n c)(E:dL n c≠0){i:Nat}(hi:i<n)(u:Nat->Int):cj n (cW c i u):=by
 intro v k A;refine Int.eq_of_mul_eq_mul_left E ?_;have e:∀l,l<n->dL n c*(dL n (cW (cW c i u) l v)*cW c i u l k)=(if l=i then dL n c*dL n (cW c i v)*u k else(dL n (cW c l v)*dL n (cW c i u)-dL n (cW c l u)*dL n (cW c i v))*c l k):=by intro l y;by_cases a:l=i;subst a;rw[aD rfl,EA,gN,axD];rw[aB a,jH _ _ a,<-axD,Yy w hi y (λh=>a h.symm)]
 have F:=w v k A;have H:=w u k A;have J:bB (λl=>dL n c*(dL n (cW (cW c i u) l v)*cW c i u l k)) n=dL n (cW c i u)*(dL n c*v k)-dL n (cW c i v)*(dL n c*u k)+dL n c*dL n (cW c i v)*u k:=by
  rw[bM e,F,H,<-dD,<-dD];have K:bB (λl=>dL n (cW c i u)*(dL n (cW c l v)*c l k)) n-bB (λl=>dL n (cW c i v)*(dL n (cW c l u)*c l k)) n=bB (λl=>(dL n (cW c l v)*dL n (cW c i u)-dL n (cW c l u)*dL n (cW c i v))*c l k) n:=by rw[show ∀a b:Int,a-b=a+(-1)*b from λa b=>by omega,<-dD,<-lP];exact bM λl _=>by grind
  rw[K,show ∀a b:Int,a+b=a+bB (λl=>if l=i then b else 0) n from λa b=>by rw[jW hi λl _ y=>aB y,aD rfl],<-lP];refine bM λl _=>?_;by_cases a:l=i;subst a;rw[aD rfl,aD rfl]
  grind
  rw[aB a,aB a,Int.add_zero]
 rw[<-dD,J]
 grind
theorem aeG{n:Nat}(c:Mx){i:Nat}(hi:i<n)(v:Nat->Int):dL n (cW c i v)=bB (λk=>v k*dL n (cW c i (idM k))) n:=by
 rw[<-XI _ hi];refine pL λj r u l=>?_;by_cases a:j=i;subst a;rw[gN,gN];exact x6 v l;rw[jH _ _ a,jH _ _ a]
structure Lin where
 m:Nat
 col:Mx
 rhs:Nat->Int
 cost:Nat->Int
def eU(b:Nat->Nat)(i j:Nat):Nat->Nat:=λk=>if k=i then j else b k
namespace Lin
variable (P:Lin)
def mat(b:Nat->Nat):Mx:=λi=>P.col (b i)
def det(b:Nat->Nat):Int:=dL P.m (P.mat b)
def sg(b:Nat->Nat):Int:=if P.det b<0 then -1 else 1
def den(b:Nat->Nat):Int:=P.sg b*P.det b
def tab(b:Nat->Nat)(i:Nat)(v:Nat->Int):Int:=P.sg b*dL P.m (cW (P.mat b) i v)
def inv(b:Nat->Nat)(i k:Nat):Int:=P.tab b i (idM k)
def right(b:Nat->Nat)(i:Nat):Int:=P.tab b i P.rhs
def eF(b:Nat->Nat)(k:Nat):Int:=bB (λi=>P.cost (b i)*P.inv b i k) P.m
def rc(b:Nat->Nat)(j:Nat):Int:=P.cost j*P.den b-bB (λk=>P.eF b k*P.col j k) P.m
def obj(b:Nat->Nat):Int:=bB (λi=>P.cost (b i)*P.right b i) P.m
structure Good(b:Nat->Nat):Prop where
 ne:P.det b≠0
 cram:cj P.m (P.mat b)
variable {P} {b:Nat->Nat}
theorem VD(b:Nat->Nat):P.sg b=1\/P.sg b=-1:=by
 unfold sg;split;exact .inr rfl;exact .inl rfl
theorem Dl(b:Nat->Nat):P.sg b*P.sg b=1:=by
 rcases VD (P:=P) b with h|h<;>rw[h]<;>rfl
theorem Good.pos(h:P.Good b):0<P.den b:=by
 have:=h.ne;unfold den sg;split<;>omega
theorem YE{i:Nat}(hi:i<P.m)(v:Nat->Int):P.tab b i v=bB (λk=>P.inv b i k*v k) P.m:=by
 unfold inv tab;rw[aeG _ hi,<-dD];exact bM λk _=>by grind
theorem ET(i j:Nat):P.mat (eU b i j)=cW (P.mat b) i (P.col j):=by
 funext k;unfold mat eU cW;split<;>rfl
theorem Good.span(h:P.Good b)(v:Nat->Int){r:Nat}(l:r<P.m):P.den b*v r=bB (λi=>P.tab b i v*P.col (b i) r) P.m:=by
 have:=h.cram v r l;unfold den tab;rw[axD];unfold det;rw[this,<-dD];exact bM λk _=>by unfold mat;grind
theorem Bc{i l:Nat}(hi:i<P.m)(u:l<P.m):P.tab b i (P.col (b l))=if l=i then P.den b else 0:=by
 unfold tab den;by_cases e:l=i;subst e;rw[aD rfl,show P.col (b l)=P.mat b l from rfl,BW];rfl;rw[aB e,FS hi u (λh=>e h.symm) λr _=>by rw[gN,jH _ _ e];rfl,axE]
theorem Good.inj(h:P.Good b){i l:Nat}(hi:i<P.m)(u:l<P.m)(e:b i=b l):i=l:=by
 rcases Nat.decEq i l with n|n
 exact absurd (FS hi u n λr _=>by unfold mat;rw[e]) h.ne;exact n
theorem qd(j:Nat):P.rc b j=P.cost j*P.den b-bB (λi=>P.cost (b i)*P.tab b i (P.col j)) P.m:=by
 unfold rc eF;congr 1;have e:bB (λi=>P.cost (b i)*P.tab b i (P.col j)) P.m=bB (λi=>bB (λk=>P.cost (b i)*P.inv b i k*P.col j k) P.m) P.m:=by refine bM λi hi=>?_;rw[YE hi,<-dD];exact bM λk _=>by grind
 rw[e,qY];refine bM λk _=>?_;rw[axW,<-dD];exact bM λi _=>by grind
theorem ik{l:Nat}(u:l<P.m):P.rc b (b l)=0:=by
 rw[qd,jW u λk y w=>by rw[Bc y u,aB (λh=>w h.symm),axE],Bc u u,aD rfl,Int.sub_self]
section step
variable {i j:Nat}
theorem xv(b:Nat->Nat)(i j:Nat):P.det (eU b i j)=P.sg b*P.tab b i (P.col j):=by
 unfold det tab;rw[ET,<-axD,Dl,Int.one_mul]
theorem Good.set(h:P.Good b)(hi:i<P.m)(l:P.tab b i (P.col j)≠0):P.Good (eU b i j):=by
 refine⟨λe=>?_,?_⟩;rw[xv]at e;rcases VD (P:=P) b with h|h<;>rw[h]at e<;>omega
 rw[ET];exact S8 h.cram h.ne hi _
theorem qp(b:Nat->Nat)(i j:Nat):P.sg (eU b i j)=if P.tab b i (P.col j)=0 then 1 else if P.tab b i (P.col j)<0 then-P.sg b else P.sg b:=by
 have l:∀s f:Int,(s=1\/s=-1)->(if s*f<0 then(-1:Int)else 1)=if f=0 then 1 else if f<0 then -s else s:=by rintro s f (rfl|rfl)<;>(repeat' split)<;>omega
 rw[show P.sg (eU b i j)=if P.det (eU b i j)<0 then -1 else 1 from rfl,xv];exact l _ _ (VD b)
theorem L6(b:Nat->Nat)(i j:Nat):P.den (eU b i j)=if P.tab b i (P.col j)<0 then-P.tab b i (P.col j)else P.tab b i (P.col j):=by
 have h:=Dl (P:=P) b;unfold den;rw[qp,xv]
 (repeat' split)<;>grind
theorem YF(v:Nat->Int)(l:0<P.tab b i (P.col j)):P.tab (eU b i j) i v=P.tab b i v:=by
 unfold tab at l ⊢;have h:=qp (P:=P) b i j;unfold tab at h;rw[aB Om,aB Om]at h;rw[ET,EA,h]
theorem Good.GP(h:P.Good b)(hi:i<P.m){r:Nat}(w:r<P.m)(l:r≠i)(v:Nat->Int)(y:0<P.tab b i (P.col j)) :
  P.den b*P.tab (eU b i j) r v=P.tab b r v*P.tab b i (P.col j)-P.tab b r (P.col j)*P.tab b i v:=by
 have u:=qp (P:=P) b i j;rw[aB Om,aB Om]at u;have e:=Yy h.cram hi w (λa=>l a.symm) (P.col j) v;have q:=Dl (P:=P) b;unfold den tab;rw[ET,u];unfold det
 grind
theorem Uu(b:Nat->Nat)(i j:Nat)(l:P.tab b i (P.col j)<0):P.sg (eU b i j)=- P.sg b:=by
 rw[qp,aB Om,aD l]
theorem iz(v:Nat->Int)(l:P.tab b i (P.col j)<0):P.tab (eU b i j) i v=- P.tab b i v:=by
 have h:=Uu b i j l;unfold tab;rw[ET,EA,h]
 grind
theorem Good.VN(h:P.Good b)(hi:i<P.m){r:Nat}(w:r<P.m)(l:r≠i)(v:Nat->Int)(u:P.tab b i (P.col j)<0) :
  P.den b*P.tab (eU b i j) r v=- (P.tab b r v*P.tab b i (P.col j)-P.tab b r (P.col j)*P.tab b i v):=by
 have y:=Uu b i j u;have e:=Yy h.cram hi w (λa=>l a.symm) (P.col j) v;have q:=Dl (P:=P) b;unfold den tab;rw[ET,y];unfold det
 grind
end step
end Lin
end Go.PM
namespace Go.PM
namespace Lin
variable (P:Lin)
def oN(b:Nat->Nat):Prop:=∀i,i<P.m->0<=P.right b i
structure Ent(N:Nat)(b:Nat->Nat)(j:Nat):Prop where
 lt:j<N
 neg:P.rc b j<0
 first:∀l,l<j->0<=P.rc b l
structure Lv(b:Nat->Nat)(j i:Nat):Prop where
 lt:i<P.m
 pos:0<P.tab b i (P.col j)
 least:∀l,l<P.m->0<P.tab b l (P.col j)->P.right b i*P.tab b l (P.col j)<P.right b l*P.tab b i (P.col j)\/(P.right b i*P.tab b l (P.col j)=P.right b l*P.tab b i (P.col j)/\b i<=b l)
variable {P} {b:Nat->Nat} {i j N:Nat}
theorem Ent.uniq{u:Nat}(h:P.Ent N b j)(w:P.Ent N b u):j=u:=by
 rcases Nat.lt_trichotomy j u with a|a|a
 have:=w.first j a;have:=h.neg;omega
 exact a;have:=h.first u a;have:=w.neg;omega
theorem Lv.uniq{w:Nat}(g:P.Good b)(h:P.Lv b j i)(u:P.Lv b j w):i=w:=by
 have y:=h.least w u.lt u.pos;have A:=u.least i h.lt h.pos;refine g.inj h.lt u.lt ?_;omega
theorem Lv.A5(h:P.Lv b j i):P.right (eU b i j) i=P.right b i:=YF _ h.pos
theorem Lv.DS(g:P.Good b)(h:P.Lv b j i){r:Nat}(w:r<P.m)(u:r≠i):P.den b*P.right (eU b i j) r=P.right b r*P.tab b i (P.col j)-P.tab b r (P.col j)*P.right b i:=g.GP h.lt w u _ h.pos
theorem Lv.ajH(h:P.Lv b j i):P.den (eU b i j)=P.tab b i (P.col j):=by
 rw[L6,aB (by have:=h.pos;omega)]
theorem Lv.jA(g:P.Good b)(h:P.Lv b j i):P.Good (eU b i j):=g.set h.lt (by have:=h.pos;omega)
theorem Lv.CE(g:P.Good b)(f:P.oN b)(h:P.Lv b j i):P.oN (eU b i j):=by
 intro r u;by_cases e:r=i;subst e;rw[h.A5];exact f r u;have w:=h.DS g u e;have A:=g.pos;have H:=h.pos;have y:0<=P.den b*P.right (eU b i j) r:=by rw[w];by_cases c:0<P.tab b r (P.col j);have E:=h.least r u c;have:P.right b i*P.tab b r (P.col j)=P.tab b r (P.col j)*P.right b i:=axW ..;omega;have F:0<=P.right b r*P.tab b i (P.col j):=Int.mul_nonneg (f r u) Om;have h5:P.tab b r (P.col j)*P.right b i<=0:=Int.mul_nonpos_of_nonpos_of_nonneg Om (f i h.lt);omega
 exact Int.nonneg_of_mul_nonneg_right y A
theorem wL(b:Nat->Nat)(i j:Nat):eU b i j i=j:=aD rfl
theorem yX(b:Nat->Nat){i r:Nat}(j:Nat)(h:r≠i):eU b i j r=b r:=aB h
theorem Lv.aaD(g:P.Good b)(h:P.Lv b j i):P.den b*P.obj (eU b i j)=P.tab b i (P.col j)*P.obj b+P.rc b j*P.right b i:=by
 have w:P.den b*P.obj (eU b i j)=bB (λr=>P.cost (b r)*(P.right b r*P.tab b i (P.col j)-P.tab b r (P.col j)*P.right b i)+if r=i then P.cost j*P.den b*P.right b i else 0) P.m:=by
  unfold obj;rw[<-dD];refine bM λr A=>?_;by_cases e:r=i;subst e;rw[wL,h.A5,aD rfl]
  grind
  rw[yX b j e,aB e,Int.add_zero,<-h.DS g A e]
  grind
 rw[w,lP,jW (f:=λr=>if r=i then P.cost j*P.den b*P.right b i else 0) h.lt (λr _ u=>aB u),aD rfl,qd];have e2:bB (λr=>P.cost (b r)*(P.right b r*P.tab b i (P.col j)-P.tab b r (P.col j)*P.right b i)) P.m=P.tab b i (P.col j)*P.obj b-P.right b i*bB (λi=>P.cost (b i)*P.tab b i (P.col j)) P.m:=by unfold obj;rw[show ∀x y:Int,x-y=x+(-1)*y from λx y=>by omega,<-dD,<-dD,<-dD,<-lP];exact bM λr _=>by grind
 rw[e2]
 grind
theorem anB{b':Nat->Nat}(g:P.Good b)(j:Nat):P.rc b' j*P.den b-bB (λi=>P.rc b' (b i)*P.tab b i (P.col j)) P.m=P.den b'*P.rc b j:=by
 have u:bB (λi=>P.rc b' (b i)*P.tab b i (P.col j)) P.m=P.den b'*bB (λi=>P.cost (b i)*P.tab b i (P.col j)) P.m-bB (λk=>P.eF b' k*(P.den b*P.col j k)) P.m:=by
  have e2:bB (λk=>P.eF b' k*(P.den b*P.col j k)) P.m=bB (λi=>bB (λk=>P.eF b' k*P.col (b i) k) P.m*P.tab b i (P.col j)) P.m:=by rw[bM λk A=>by rw[g.span _ A],bM (g:=λk=>bB (λi=>P.eF b' k*(P.tab b i (P.col j)*P.col (b i) k)) P.m) λk _=>(dD ..).symm,qY];refine bM λi _=>?_;rw[axW,<-dD];exact bM λk _=>by grind
  rw[e2,show ∀x y:Int,x-y=x+(-1)*y from λx y=>by omega,<-dD,<-dD,<-lP];refine bM λi _=>?_;unfold rc
  grind
 rw[u,qd (b:=b) j,show P.rc b' j=P.cost j*P.den b'-bB (λk=>P.eF b' k*P.col j k) P.m from rfl];have w:bB (λk=>P.eF b' k*(P.den b*P.col j k)) P.m=P.den b*bB (λk=>P.eF b' k*P.col j k) P.m:=by rw[<-dD];exact bM λk _=>by grind
 rw[w]
 grind
theorem iy{f:Nat->Int}:∀{n},(∀k,k<n->f k<=0)->bB f n<=0
 |0,_=>Int.le_refl _
 |n+1,h=>by have u:=iy (n:=n) λk y=>h k Om;have w:=h n Om;rw[bB];omega
theorem Jp{f:Nat->Int}{n:Nat}(h:0<bB f n):∃k,k<n/\0<f k:=
 Classical.byContradiction λw=>by have:=iy (f:=f) (n:=n) λk u=>Int.not_lt.1 λh=>w ⟨k,u,h⟩;omega
structure Run(P:Lin)(N:Nat)(s:Nat->Nat->Nat)(e l:Nat->Nat):Prop where
 jA:P.Good (s 0)
 CE:P.oN (s 0)
 ent:∀n,P.Ent N (s n) (e n)
 lv:∀n,P.Lv (s n) (e n) (l n)
 next:∀n,s (n+1)=eU (s n) (l n) (e n)
section run
variable {s:Nat->Nat->Nat} {e l:Nat->Nat}
theorem Run.inv(R:P.Run N s e l):∀n,P.Good (s n)/\P.oN (s n)
 |0=>⟨R.jA,R.CE⟩
 |n+1=>by obtain⟨u,w⟩:=R.inv n;rw[R.next n];exact⟨(R.lv n).jA u,(R.lv n).CE u w⟩
theorem Run.shift(R:P.Run N s e l)(p:Nat):P.Run N (λn=>s (p+n)) (λn=>e (p+n)) (λn=>l (p+n)):=
 ⟨(R.inv p).1,(R.inv p).2,λn=>R.ent _,λn=>R.lv _,λn=>R.next _⟩
theorem Run.same(R:P.Run N s e l){p q:Nat}(h:s p=s q):∀n,s (p+n)=s (q+n)
 |0=>h
 |n+1=>by have u:=R.same h n;have w:=R.ent (p+n);rw[u]at w;have y:=w.uniq (R.ent (q+n));have A:=R.lv (p+n);rw[u,y]at A;have E:=A.uniq (R.inv _).1 (R.lv (q+n));have a:=R.next (p+n);have c:=R.next (q+n);rw[u,y,E]at a;exact a.trans c.symm
theorem Run.p4(R:P.Run N s e l)(n:Nat):P.den (s n)*P.obj (s (n+1))<=P.den (s (n+1))*P.obj (s n)/\(0<P.right (s n) (l n)->P.den (s n)*P.obj (s (n+1))<P.den (s (n+1))*P.obj (s n)):=by
 obtain⟨g,f⟩:=R.inv n;have h:=R.lv n;have u:=h.aaD g;rw[<-R.next n]at u;have w:=h.ajH;rw[<-R.next n]at w;rw[u,w];have A:=f _ h.lt;have y:=(R.ent n).neg;have:P.rc (s n) (e n)*P.right (s n) (l n)<=0:=Int.mul_nonpos_of_nonpos_of_nonneg Om A;refine⟨by omega,λhp=>?_⟩;have:P.rc (s n) (e n)*P.right (s n) (l n)<0:=Int.mul_neg_of_neg_of_pos y hp;omega
theorem O8{a b c d f g:Int}(y:0<d)(hb:0<b)(F:0<g)(u:b*c<=d*a)(w:d*f<=g*c):b*f<=g*a:=by
 have A:g*(b*c)<=g*(d*a):=ayX u Om;have E:b*(d*f)<=b*(g*c):=ayX w Om;have h5:d*(b*f)<=d*(g*a):=by
  rw[show d*(b*f)=b*(d*f) by grind,show d*(g*a)=g*(d*a) by grind];have:b*(g*c)=g*(b*c):=by grind
  omega
 exact Int.le_of_mul_le_mul_left h5 y
theorem Run.My(R:P.Run N s e l)(n:Nat):∀k,P.den (s n)*P.obj (s (n+k))<=P.den (s (n+k))*P.obj (s n)
 |0=>Int.le_refl _
 |k+1=>O8 (R.inv (n+k)).1.pos (R.inv n).1.pos (R.inv (n+k+1)).1.pos (R.My n k) (R.p4 (n+k)).1
theorem Run.flat(R:P.Run N s e l){L:Nat}(y:0<L)(hp:∀n,s (n+L)=s n)(n:Nat):P.right (s n) (l n)=0:=by
 rcases Int.lt_or_eq_of_le ((R.inv n).2 _ (R.lv n).lt)with h|h
 exfalso;have w:=(R.p4 n).2 h;obtain⟨k,rfl⟩:∃k,L=k+1:=⟨L-1,by omega⟩;have u:=R.My (n+1) k;rw[show n+1+k=n+(k+1) by omega,hp n]at u;omega;exact h.symm
theorem Run.stay(R:P.Run N s e l)(A:∀n,P.right (s n) (l n)=0){n i:Nat}(hi:i<P.m)(h:P.right (s n) i≠0):∀k,s (n+k) i=s n i/\P.right (s (n+k)) i≠0
 |0=>⟨rfl,h⟩
 |k+1=>by
  obtain⟨E,w⟩:=R.stay A hi h k;have u:i≠l (n+k):=by intro e;rw[e]at w;exact w (A _)
  have g:=(R.inv (n+k)).1;have y:=(R.lv (n+k)).DS g hi u;rw[A,axE,Int.sub_zero,<-R.next]at y;have F:=g.pos;have H:=(R.lv (n+k)).pos;refine⟨?_,λe=>?_⟩;show s (n+k+1) i=_;rw[R.next,yX _ _ u,E];rw[show n+(k+1)=n+k+1 by omega]at e;rw[e,axE]at y;rcases Int.mul_eq_zero.1 y.symm with a|a
  exact w a;omega
theorem Run.enters(R:P.Run N s e l){n x:Nat}(h:∀i,i<P.m->s n i≠x):∀k i,i<P.m->s (n+k) i=x->∃q,q<k/\e (n+q)=x
 |0,i,hi,u=>absurd u (h i hi)
 |k+1,i,hi,u=>by rw[show n+(k+1)=n+k+1 by omega,R.next]at u;by_cases c:i=l (n+k);subst c;rw[wL]at u;exact⟨k,by omega,u⟩;rw[yX _ _ c]at u;obtain⟨q,y,w⟩:=R.enters h k i hi u;exact⟨q,by omega,w⟩
theorem Run.leaves(R:P.Run N s e l){n x:Nat}:∀k,(∃i,i<P.m/\s n i=x)->(∀i,i<P.m->s (n+k) i≠x)->∃q,q<k/\s (n+q) (l (n+q))=x
 |0,⟨i,hi,A⟩,h=>absurd A (h i hi)
 |k+1,⟨i,hi,A⟩,h=>by by_cases c:∃i,i<P.m/\s (n+k) i=x;obtain⟨r,y,u⟩:=c;have w:=h r y;rw[show n+(k+1)=n+k+1 by omega,R.next]at w;by_cases d:r=l (n+k);exact⟨k,by omega,by rw[<-d];exact u⟩;rw[yX _ _ d]at w;exact absurd u w;obtain⟨q,E,w⟩:=R.leaves k ⟨i,hi,A⟩ λr y u=>c ⟨r,y,u⟩;exact⟨q,by omega,w⟩
theorem Mq{e:Nat->Nat}:∀{N},(∀n,e n<N)->∃n,∀k,e k<=e n
 |0,h=>absurd (h 0) (axA _)
 |N+1,h=>by by_cases c:∃n,e n=N;obtain⟨n,w⟩:=c;exact⟨n,λk=>by have:=h k;omega⟩;exact Mq (N:=N) λn=>by have:=h n;have:e n≠N:=λu=>c ⟨n,u⟩;omega
theorem Run.aaA(R:P.Run N s e l){L:Nat}(hL:0<L)(hp:∀n,s (n+L)=s n):False:=by
 have W:=R.flat hL hp;obtain⟨u,F⟩:=Mq λn=>(R.ent n).lt;have M:∀i,i<P.m->s u i≠e u:=λi hi h=>by have y:=(R.ent u).neg;rw[<-h,ik hi]at y;omega
 have O:∃i,i<P.m/\s (u+1) i=e u:=⟨_,(R.lv u).lt,by rw[R.next,wL]⟩;obtain⟨k,rfl⟩:∃k,L=k+1:=⟨L-1,by omega⟩;obtain⟨q,hq,w⟩:=R.leaves (n:=u+1) (x:=e u) k O λi hi=>by rw[show u+1+k=u+(k+1) by omega,hp];exact M i hi
 have g:=(R.inv (u+1+q)).1;have E:=R.lv (u+1+q);have H:=R.ent (u+1+q);have β:=F (u+1+q);have hx:=anB (b':=s u) g (e (u+1+q));have Y:=(R.inv u).1.pos;have U:P.den (s u)*P.rc (s (u+1+q)) (e (u+1+q))<0:=Int.mul_neg_of_pos_of_neg Y H.neg;have γ:e (u+1+q)≠e u:=by intro h;have y:=H.neg;rw[h,<-w,ik E.lt]at y;omega
 have J:=(R.ent u).first (e (u+1+q)) Om;have V:0<=P.rc (s u) (e (u+1+q))*P.den (s (u+1+q)):=Int.mul_nonneg J (Int.le_of_lt g.pos);obtain⟨i,hi,A⟩:=Jp (f:=λi=>P.rc (s u) (s (u+1+q) i)*P.tab (s (u+1+q)) i (P.col (e (u+1+q)))) (n:=P.m) Om;have K:∀r,r<P.m->s u r≠s (u+1+q) i:=λr hr h=>by rw[<-h,ik hr,awV]at A;omega
 obtain⟨p,-,S⟩:=R.enters K (1+q) i hi (by rw[<-axG]);have α:s (u+1+q) i<=e u:=by rw[<-S];exact F _
 have hR:P.right (s (u+1+q)) i=0:=Classical.byContradiction λQ=>by have y:=(R.stay W hi Q (k-q)).1;rw[show u+1+q+(k-q)=u+(k+1) by omega,hp]at y;exact K i hi y
 by_cases c:s (u+1+q) i=e u;have:i=l (u+1+q):=g.inj hi E.lt (c.trans w.symm);rw[c,this]at A;have y:P.rc (s u) (e u)*P.tab (s (u+1+q)) (l (u+1+q)) (P.col (e (u+1+q)))<0:=Int.mul_neg_of_neg_of_pos (R.ent u).neg E.pos;omega;have y:=(R.ent u).first (s (u+1+q) i) Om;have Z:0<P.tab (s (u+1+q)) i (P.col (e (u+1+q))):=by
  rcases Int.lt_or_eq_of_le y with a|a
  exact Int.pos_of_mul_pos_right A a;rw[<-a,awV]at A;omega
 have h3:=E.least i hi Z;rw[W,hR,awV,awV,w]at h3;omega
end run
end Lin
end Go.PM
namespace Go.PM
theorem akG{α:Type}(f:Nat->α)(L:List α)(h:∀n,f n∈L):∃p q,p<q/\f p=f q:=
 Classical.byContradiction λy=>by
  have u:((auE (l'' L+1)).map f).Nodup:=by refine List.pairwise_map.2 (List.pairwise_lt_range.imp λ{p q} i e=>y ⟨p,q,i,e⟩)
  have w:=u.length_le_of_subset (l₂:=L) λx A=>by obtain⟨n,-,rfl⟩:=auT.1 A;exact h n
  rw[auD,List.length_range]at w;omega
def rx(K:Nat):Nat->List N_
 |0=>[[]]
 |m+1=>(rx K m).flatMap λt=>(auE K).map λx=>t++[x]
theorem ry{K:Nat}{b:Nat->Nat}:∀{m},(∀i,i<m->b i<K)->(auE m).map b∈rx K m
 |0,_=>avN.2 rfl
 |m+1,h=>by rw[rx,List.mem_flatMap];refine⟨_,ry λi hi=>h i Om,auT.2 ⟨b m,avM.2 (h m Om),?_⟩⟩;rw[ayA,avD];rfl
namespace Lin
variable {P:Lin} {N K:Nat}
section
variable {s:Nat->Nat->Nat} {e l:Nat->Nat}
theorem Run.low(R:P.Run N s e l)(u:N<=K)(h:∀i,i<P.m->s 0 i<K):∀n i,i<P.m->s n i<K
 |0,i,hi=>h i hi
 |n+1,i,hi=>by rw[R.next];by_cases c:i=l n;subst c;rw[wL];exact Nat.lt_of_lt_of_le (R.ent n).lt u;rw[yX _ _ c];exact R.low u h n i hi
theorem Run.high(R:P.Run N s e l):∀n i,¬i<P.m->s n i=s 0 i
 |0,_,_=>rfl
 |n+1,i,hi=>by rw[R.next,yX _ _ (λc=>hi (by rw[c];exact(R.lv n).lt))];exact R.high n i hi
theorem Run.no(R:P.Run N s e l)(w:N<=K)(h:∀i,i<P.m->s 0 i<K):False:=by
 obtain⟨p,q,y,u⟩:=akG (λn=>(auE P.m).map (s n)) (rx K P.m) λn=>ry (R.low w h n);have A:s p=s q:=by funext i;by_cases hi:i<P.m;have:=congrArg (λl=>l[i]?) u;simpa[hi]using this;rw[R.high p i hi,R.high q i hi]
 refine(R.shift p).aaA (L:=q-p) Om λn=>?_;have:=R.same A n;show s (p+(n+(q-p)))=s (p+n);rw[this,show p+(n+(q-p))=q+n by omega]
end
section
variable {b:Nat->Nat} {j:Nat}
def Bt(P:Lin)(b:Nat->Nat)(j i l:Nat):Prop:=P.right b i*P.tab b l (P.col j)<P.right b l*P.tab b i (P.col j)\/(P.right b i*P.tab b l (P.col j)=P.right b l*P.tab b i (P.col j)/\b i<=b l)
theorem Bt.trans{i a l:Nat}(hi:0<P.tab b i (P.col j))(A:0<P.tab b a (P.col j))(E:0<P.tab b l (P.col j))(u:P.Bt b j i a)(w:P.Bt b j a l):P.Bt b j i l:=by
 unfold Bt at *
 generalize P.tab b i (P.col j)=x at *
 generalize P.tab b a (P.col j)=y at *
 generalize P.tab b l (P.col j)=z at *
 generalize P.right b i=r at *
 generalize P.right b a=s at *
 generalize P.right b l=t at *
 have k1:y*(r*z)=z*(r*y):=by grind
 have k2:y*(t*x)=x*(t*y):=by grind
 have J:z*(s*x)=x*(s*z):=by grind
 have F:r*y<=s*x:=Om;have H:s*z<=t*y:=Om;have a1:=ayX F (Int.le_of_lt E);have a2:=ayX H (Int.le_of_lt hi);rcases u with u|⟨u,h1'⟩
 have a3:=Int.mul_lt_mul_of_pos_left u E;exact .inl (Int.lt_of_mul_lt_mul_left (by omega:y*(r*z)<y*(t*x)) (Int.le_of_lt A));rcases w with w|⟨w,h2'⟩
 have a3:=Int.mul_lt_mul_of_pos_left w hi;exact .inl (Int.lt_of_mul_lt_mul_left (by omega:y*(r*z)<y*(t*x)) (Int.le_of_lt A));refine .inr ⟨?_,by omega⟩;rw[u]at k1;rw[<-w]at k2;exact Int.eq_of_mul_eq_mul_left (Int.ne_of_gt A) Om
theorem Bt.self(i:Nat):P.Bt b j i i:=.inr ⟨rfl,auG _⟩
structure LvN(P:Lin)(b:Nat->Nat)(j n i:Nat):Prop where
 lt:i<n
 pos:0<P.tab b i (P.col j)
 least:∀l,l<n->0<P.tab b l (P.col j)->P.Bt b j i l
theorem LvN.lv{i:Nat}(h:P.LvN b j P.m i):P.Lv b j i:=⟨h.lt,h.pos,h.least⟩
theorem LvN.keep{n i:Nat}(h:P.LvN b j n i)(u:0<P.tab b n (P.col j)->P.Bt b j i n):P.LvN b j (n+1) i:=by
 refine⟨by have:=h.lt;omega,h.pos,λl w hp=>?_⟩;by_cases c:l<n;exact h.least l c hp;obtain rfl:l=n:=Om;exact u hp
theorem LvN.VQ{n i:Nat}(h:P.LvN b j n i)(u:0<P.tab b n (P.col j))(w:P.Bt b j n i):P.LvN b j (n+1) n:=by
 refine⟨by omega,u,λl y hp=>?_⟩;by_cases c:l<n;exact w.trans u h.pos hp (h.least l c hp);obtain rfl:l=n:=Om;exact .self l
theorem Bt.total(i l:Nat):P.Bt b j i l\/P.Bt b j l i:=by
 unfold Bt;omega
theorem Un:∀n,(∃k,k<n/\0<P.tab b k (P.col j))->∃i,P.LvN b j n i
 |0,⟨k,w,_⟩=>absurd w (axA _)
 |n+1,⟨k,w,hp⟩=>by
  by_cases c:∃k,k<n/\0<P.tab b k (P.col j);obtain⟨i,hi⟩:=Un n c;rcases Bt.total (P:=P) (b:=b) (j:=j) i n with a|a
  exact⟨i,hi.keep λ_=>a⟩;by_cases d:0<P.tab b n (P.col j);exact⟨n,hi.VQ d a⟩;exact⟨i,hi.keep λh=>absurd h d⟩;obtain rfl:k=n:=Classical.byContradiction λe=>c ⟨k,by omega,hp⟩;exact⟨k,by omega,hp,λl y u=>by by_cases d:l<k;exact absurd ⟨l,d,u⟩ c;obtain rfl:l=k:=Om;exact .self l⟩
theorem abJ(w:∀j,0<=P.cost j)(g:P.Good b)(h:P.rc b j<0):∃k,k<P.m/\0<P.tab b k (P.col j):=by
 rw[qd]at h;have A:0<=P.cost j*P.den b:=Int.mul_nonneg (w j) (Int.le_of_lt g.pos);obtain⟨k,y,hp⟩:=Jp (f:=λi=>P.cost (b i)*P.tab b i (P.col j)) (n:=P.m) Om;exact⟨k,y,Int.lt_of_not_ge λu=>by have:=Int.mul_nonpos_of_nonneg_of_nonpos (w (b k)) u;omega⟩
theorem adF(u:∀j,0<=P.cost j)(g:P.Good b)(h:P.Ent N b j):∃i,P.Lv b j i:=by
 obtain⟨i,hi⟩:=Un P.m (abJ u g h.neg);exact⟨i,hi.lv⟩
end
def Ends(P:Lin)(N:Nat):Nat->(Nat->Nat)->Prop
 |0,b=>∀j,¬P.Ent N b j
 |n+1,b=>(∀j,¬P.Ent N b j)\/∃j i,P.Ent N b j/\P.Lv b j i/\Ends P N n (eU b i j)
theorem aeP(H:∀j,0<=P.cost j)(M:N<=K){b:Nat->Nat}(g:P.Good b)(f:P.oN b)(hb:∀i,i<P.m->b i<K):∃n,P.Ends N n b:=
 Classical.byContradiction λQ=>by
  let u:(Nat->Nat)->Nat × Nat:=λb=>Classical.epsilon λq:Nat × Nat=>P.Ent N b q.1/\P.Lv b q.1 q.2
  let s:Nat->Nat->Nat:=λn=>Nat.rec b (λ_ b=>eU b (u b).2 (u b).1) n
  have F:∀n,P.Good (s n)/\P.oN (s n)/\¬∃k,P.Ends N k (s n):=by
   intro n
   induction n with
   |zero=>exact⟨g,f,Q⟩
   |succ n S=>
    obtain⟨g1,f1,A⟩:=S;have J:∃q:Nat × Nat,P.Ent N (s n) q.1/\P.Lv (s n) q.1 q.2:=Classical.byContradiction λE=>A ⟨0,λj y=>by obtain⟨i,hi⟩:=adF H g1 y;exact E ⟨(j,i),y,hi⟩⟩
    have w:P.Ent N (s n) (u (s n)).1/\P.Lv (s n) (u (s n)).1 (u (s n)).2:=Classical.epsilon_spec J;refine⟨w.2.jA g1,w.2.CE g1 f1,λ⟨k,O⟩=>A ⟨k+1,.inr ⟨_,_,w.1,w.2,O⟩⟩⟩
  have w:∀n,P.Ent N (s n) (u (s n)).1/\P.Lv (s n) (u (s n)).1 (u (s n)).2:=λn=>by obtain⟨g1,f1,A⟩:=F n;exact Classical.epsilon_spec (p:=λq:Nat × Nat=>P.Ent N (s n) q.1/\P.Lv (s n) q.1 q.2) (Classical.byContradiction λE=>A ⟨0,λj y=>by obtain⟨i,hi⟩:=adF H g1 y;exact E ⟨(j,i),y,hi⟩⟩)
  exact Run.no (P:=P) (N:=N) (s:=s) (e:=λn=>(u (s n)).1) (l:=λn=>(u (s n)).2) ⟨g,f,λn=>(w n).1,λn=>(w n).2,λn=>rfl⟩ M hb
end Lin
end Go.PM
namespace Go.PM
theorem On{n:Nat}{c d:Mx}(h:∀j r,j<n->r<n->c j r=d j r)(u:cj n d):cj n c:=by
 intro v r i;rw[pL h,u v r i];refine bM λl A=>?_;rw[h l r A i,pL (c:=cW c l v) (d:=cW d l v) λj k w y=>?_];unfold cW;split;rfl;exact h j k w y
namespace Lin
variable {P:Lin} {N:Nat} {b:Nat->Nat}
theorem afG(h:∀i r,i<P.m->r<P.m->P.col (b i) r=idM i r):P.Good b/\P.den b=1/\(∀i k,i<P.m->P.inv b i k=idM k i)/\∀i,i<P.m->P.right b i=P.rhs i:=by
 have w:P.det b=1:=(pL h).trans (TG _);have A:P.sg b=1:=by unfold sg;rw[w];rfl
 have u:∀i v,i<P.m->P.tab b i v=v i:=λi v hi=>by unfold tab;rw[A,Int.one_mul];have e:=L3 P.m v i hi;rw[TG,Int.one_mul,jW hi λl H y=>by unfold idM;rw[aB (λh=>y h.symm),axE]]at e;rw[show idM i i=1 from aD rfl,Int.mul_one]at e;rw[e];refine pL λj r E F=>?_;unfold cW;split;rfl;exact h j r E F
 exact⟨⟨by rw[w];decide,On h (L3 _)⟩,by unfold den;rw[A,w];rfl,λi k hi=>u i _ hi,λi hi=>u i _ hi⟩
theorem Hx:P.obj b=bB (λk=>P.eF b k*P.rhs k) P.m:=by
 unfold obj eF;rw[bM (f:=λi=>P.cost (b i)*P.right b i) (g:=λi=>bB (λk=>P.cost (b i)*P.inv b i k*P.rhs k) P.m) λi hi=>by unfold right;rw[YE hi,<-dD];exact bM λk _=>by grind,qY];refine bM λk _=>?_;rw[axW,<-dD];exact bM λi _=>by grind
structure acU(P:Lin)(N:Nat)(t:Int)(x:Nat->Int):Prop where
 nn:∀j,j<N->0<=x j
 eq:∀r,r<P.m->bB (λj=>x j*P.col j r) N=t*P.rhs r
theorem sF{f g:Nat->Int}:∀{n},(∀k,k<n->f k<=g k)->bB f n<=bB g n
 |0,_=>Int.le_refl _
 |n+1,h=>by have i:=sF (n:=n) λk u=>h k Om;have l:=h n Om;rw[bB,bB];omega
theorem QX(h:∀j,j<N->0<=P.rc b j){t:Int}{x:Nat->Int}(l:P.acU N t x):t*P.obj b<=P.den b*bB (λj=>x j*P.cost j) N:=by
 have u:t*P.obj b=bB (λj=>x j*bB (λk=>P.eF b k*P.col j k) P.m) N:=by
  rw[Hx,<-dD,bM (g:=λk=>bB (λj=>P.eF b k*(x j*P.col j k)) N) λk y=>by
   rw[dD,l.eq k y]
   grind,qY]
  refine bM λj _=>?_;rw[<-dD];exact bM λk _=>by grind
 rw[u,<-dD];refine sF λj i=>?_;have w:=h j i;unfold rc at w;have A:x j*bB (λk=>P.eF b k*P.col j k) P.m<=x j*(P.cost j*P.den b):=ayX Om (l.nn j i);have E:x j*(P.cost j*P.den b)=P.den b*(x j*P.cost j):=by grind
 omega
def pt(P:Lin)(b:Nat->Nat)(j:Nat):Int:=bB (λi=>if b i=j then P.right b i else 0) P.m
theorem Bb{m N:Nat}(w:Nat->Int)(a:Nat->Nat)(g:Nat->Int)(h:∀i,i<m->a i<N\/w i=0):bB (λj=>bB (λi=>if a i=j then w i else 0) m*g j) N=bB (λi=>w i*g (a i)) m:=by
 rw[bM (g:=λj=>bB (λi=>g j*if a i=j then w i else 0) m) λj _=>by rw[dD,axW],qY];refine bM λi hi=>?_;by_cases c:a i<N;rw[jW c λj _ l=>by rw[aB (λe=>l e.symm),axE],aD rfl,axW];have u:w i=0:=(h i hi).resolve_left c;rw[u,awV];exact gV λj _=>by split<;>exact axE _
theorem aaM(g:P.Good b)(f:P.oN b)(h:∀i,i<P.m->b i<N\/P.right b i=0):P.acU N (P.den b) (P.pt b)/\bB (λj=>P.pt b j*P.cost j) N=P.obj b:=by
 refine⟨⟨λj _=>?_,λr w=>?_⟩,?_⟩;unfold pt;have y:=iy (f:=λi=>- if b i=j then P.right b i else 0) (n:=P.m) λk u=>by have:=f k u;split<;>omega
 have l:=dD (-1) (λi=>if b i=j then P.right b i else 0) P.m;rw[bM (g:=λi=>- if b i=j then P.right b i else 0) λk _=>by omega]at l;omega;unfold pt;rw[Bb (P.right b) b (λj=>P.col j r) h,g.span P.rhs w];rfl;unfold pt;rw[Bb (P.right b) b P.cost h];unfold obj;exact bM λi _=>axW _ _
end Lin
end Go.PM
namespace Go.PM
open Go
open Go Go.Na
def adG(c:UInt8)(n:Nat):List UInt8:=[c,UInt8.ofNat (97+n/26%26),UInt8.ofNat (97+n%26)]
def Fg(ds:List cQ)(level parent atJ:Nat):List cQ:=ds++[⟨adG 110 ds.length,(level:Nat),(parent:Nat),(atJ:Nat),mD⟩]
theorem Z1(a b:Nat)(u:a<4294967296)(hb:b<4294967296):(mkT (a:Int) (b:Int)).Ok:=by
 rw[Mt];have i:=axT a (auF a b);have l:=axT b (auF a b);have k1:nl (a/auF a b)<=1:=(kY _ _).2 Om;have k2:nl (b/auF a b)<=1:=(kY _ _).2 Om;refine⟨bA _,bA _,?_,?_⟩;show(aM _).length<=_;rw[bD];omega;show(aM _).length<=_;rw[bD];omega
theorem Gi{n:Nat}(h:n<=1000000):dS (n:Int):=by unfold dS;omega
def D6(ds:List cQ):Prop:=∀x∈ds,x.atE.Ok/\dS x.level/\dS x.parent
theorem D6.dom{ds:List cQ}(h:D6 ds){level parent atJ:Nat}(l:level<=1000)(u:parent<=1000):D6 (Fg ds level parent atJ):=λx i=>by
 unfold Fg at i;rw[avX,avN]at i;rcases i with i|rfl
 exact h x i;exact⟨Z1 0 1 aU aU,Gi Om,Gi Om⟩
structure FM(f:aH):Prop where
 ok:f.Ok
 km:∀p∈f.asT,1<=p.k/\p.k<=2/\0<=p.m/\p.m<=2
 asP:l'' f.asP<=9
 pols:1<=l'' f.asT/\l'' f.asT<=2
 vols:∀x∈f.asR,0<=x.atB/\x.atB<l'' f.asT
theorem FM.pol{f:aH}(h:FM f){v:Nat}(l:v<l'' f.asR):zZ f v<l'' f.asT/\PP f v∈f.asT:=by
 have u:=h.vols _ (auH l);have w:zZ f v=(f.asR[v]).atB.toNat:=by rw[zZ,getD_at l]
 have i:zZ f v<l'' f.asT:=Om;refine⟨i,?_⟩;unfold PP;rw[auM,auP i,axC];exact auH i
abbrev aoA(l:I_)(a:Nat):aW:=.rows 2 [[ints l,.int .i64 (a:Nat)]]
structure ME where
 o:Nat
 o4:Nat
 o5:Nat
 vols:Nat
abbrev ME.boxes(E:ME)(l:I_)(ext i u w y wp wv:PV)(a:Nat):List BX:=[(E.o5,flB ext i u w y wp wv),(E.o,aoA l a),(E.o4,flZ)]





def aqA(ds:List cQ)(i:Nat)(d:cQ):Prop:=∃l p u:Nat,d.name=adG 110 (i+1)/\d.level=l/\1<=l/\l<=4/\d.parent=p/\p<=i/\(lvs ds)[p]?=some ((l:Int)-1)/\d.atJ=u/\1<=u/\u<=64/\d.atE=mD
structure DV(ds:List cQ):Prop where
 root:ds[0]?=some nI
 dom:∀i (hi:i+1<l'' ds),aqA ds i ds[i+1]
theorem DV.new{ds:List cQ}(h:DV ds){level parent up:Nat}(E:1<=level)(F:level<=4)(hp:(lvs ds)[parent]?=some ((level:Int)-1))(J:1<=up)(K:up<=64) :
  DV (Fg ds level parent up)/\(lvs (Fg ds level parent up))[l'' ds]?=some (level:Int):=by
 have H:parent<l'' ds:=by
  have:=(avP.1 hp).1
  rwa[auD]at this
 unfold Fg;refine⟨⟨by rw[awR Om];exact h.root,λi hi=>?_⟩,?_⟩;simp only[auJ,auS]at hi;by_cases hlt:i+1<l'' ds;rw[List.getElem_append_left hlt];obtain⟨l,p,v,g1,g2,g3,g4,u,w,y,A⟩:=h.dom i hlt;exact⟨l,p,v,g1,g2,g3,g4,u,w,ES y,A⟩;have:i+1=l'' ds:=Om;rw[ayY Om];simp only[List.getElem_singleton];exact⟨level,parent,up,by rw[this],rfl,E,F,rfl,by omega,ES hp,rfl,J,K,rfl⟩;unfold lvs;rw[avD,awH (by rw[auD];exact auG _),auD,awU];rfl




theorem aQ.store{H:PH}{B:List BX}{L:List LI}(h:aQ H B L)(i:Nat){q s n:Nat}{rows:P2_}(hi:L[i]?=some (.osl q s 0 n,s,rows))(k:Nat)(c:V_) :
  ∃rs,H q=some (.rows s rs)/\n<=l'' rs/\rs.take n=rows/\aQ (H.set q (.rows s (rs.set k c))) B (L.set i (.osl q s 0 n,s,rows.set k c)):=by
 obtain⟨rs,w,y,l,u⟩:=(h.own i hi).id rfl;injection y with _ _ _ A
 subst A;refine⟨rs,w,l,u,h.IH i hi (.inr ⟨q,rs.set k c,by rw[avT],by rw[cA],by rw[avT,avT];exact l,by rw[avT,List.take_set,u]⟩) (λp hp=>.inl hp) λp _ hp=>?_⟩;have:p≠q:=hp q rfl;rw[aT,aB this]

open Go Go.RowKit Go.Sort Go.Shelf Go.Proofs
open Go Go.RowKit Go.Sort Go.Shelf Go.Proofs
abbrev lists(i:L2_):PV:=.sl 1 (i.map λw=>[ints w])
abbrev WPs:=List (PV × I_)
def fE(ps:WPs):P2_:=ps.map λp=>[p.1]
def tG(ps:WPs):List LI:=ps.map λp=>(p.1,1,aR p.2)
def wls(ps:WPs):L2_:=ps.map (·.2)
def gX(i:PV)(ps:WPs):List LI:=(i,1,fE ps)::tG ps
section
variable {H:PH} {B:List BX}
theorem qX(ps:WPs):(fE ps).length=l'' ps:=auD _
theorem we{ps:WPs}{i:Nat}{v:PV}{w:I_}(hi:ps[i]?=some (v,w)):(tG ps)[i]?=some (v,1,aR w):=by
 unfold tG;rw[avC,hi];rfl
theorem Ij{ps:WPs}{i:Nat}{v:PV}{w:I_}(hi:ps[i]?=some (v,w)):(fE ps)[i]?=some [v]:=by
 unfold fE;rw[avC,hi];rfl
theorem aQ.XU(h:aQ H B []):aQ H B (gX .aE []):=h.lJ 1
theorem aQ.inner{l:PV}{ps:WPs}(h:aQ H B (gX l ps)){i:Nat}{v:PV}{w:I_}(hi:ps[i]?=some (v,w)):cF H 1 v (aR w):=h.own (i+1) (we hi)
theorem aQ.outer{i:PV}{ps:WPs}(h:aQ H B (gX i ps)):cF H 1 i (fE ps):=h.own 0 rfl
theorem GC(a b:I_):aR (a++b)=aR a++aR b:=avD
theorem aQ.anZ{E:PV}{ps:WPs}(h:aQ H B (gX E ps)){i b:Nat}{v y:PV}{w src:I_}{K:R_}(hi:ps[i]?=some (v,w))(N:dP H 1 y=some (aR src))(J:roomFor w.length src.length b)(u:src≠[])
  (F:∀q H',aQ H' B ((E,1,fE ps)::(tG ps).set i (.osl q 1 0 (w++src).length,1,aR (w++src)))->K (.osl q 1 0 (w++src).length) H'):mJ H 1 b v y K:=by
 have l:aR src≠[]:=λe=>u (List.map_eq_nil_iff.1 e);refine h.append (i+1) (we hi) N (by rw[bG,bG];exact J) λv' H' A M=>?_;obtain⟨q,rfl⟩:=M l;rw[<-GC,bG]at A ⊢;exact F q H' A
theorem aQ.akX{qo n i:Nat}{ps:WPs}{v':PV}{l:I_}(h:aQ H B ((.osl qo 1 0 n,1,fE ps)::(tG ps).set i (v',1,aR l))) :
  ∃rs,H qo=some (.rows 1 rs)/\n<=l'' rs/\rs.take n=fE ps/\aQ (H.set qo (.rows 1 (rs.set i [v']))) B (gX (.osl qo 1 0 n) (ps.set i (v',l))):=by
 obtain⟨rs,u,w,y,A⟩:=h.store 0 rfl i [v'];refine⟨rs,u,w,y,?_⟩;have e:gX (.osl qo 1 0 n) (ps.set i (v',l))=((.osl qo 1 0 n,1,fE ps)::(tG ps).set i (v',1,aR l)).set 0 (.osl qo 1 0 n,1,(fE ps).set i [v']):=by unfold gX fE tG;rw[List.map_set,List.map_set];rfl
 rw[e];exact A
theorem aQ.agD{i:PV}{ps:WPs}{b:Nat}{y:PV}{K:R_}(h:aQ H B (gX i ps))(F:dP H 1 y=some [[.aE]])(A:roomFor ps.length 1 b)
  (w:∀q H',aQ H' B (gX (.osl q 1 0 (l'' ps+1)) (ps++[(.aE,[])]))->K (.osl q 1 0 (l'' ps+1)) H'):mJ H 1 b i y K:=by
 refine h.append 0 (src:=[[.aE]]) rfl F (by rw[qX];exact A) λv' H' u E=>?_;obtain⟨q,rfl⟩:=E bC;have l:=u.lJ 1;rw[auJ,qX]at l ⊢;refine w q H' ?_;have e:gX (.osl q 1 0 (l'' ps+1)) (ps++[(.aE,[])])=(((i,1,fE ps)::tG ps).set 0 (.osl q 1 0 (l'' ps+1),1,fE ps++[[.aE]]))++[(.aE,1,[])]:=by unfold gX fE tG;rw[avD,avD];rfl
 rw[e];exact l
def uX(l:P2_)(u:L2_):Prop:=l'' l=l'' u/\∀(i:Nat) r w,l[i]?=some r->u[i]?=some w->r=[ints w]\/(r=[.aE]/\w=[])
theorem uX.nil:uX [] []:=⟨rfl,λi r w h=>by cases h⟩
theorem uX.snoc{A:P2_}{E:L2_}{u:PV}{w:I_}(h:uX A E)(F:u=ints w\/(u=.aE/\w=[])):uX (A++[[u]]) (E++[w]):=by
 refine⟨by simp[h.1],λi r x l y=>?_⟩;rcases Nat.lt_trichotomy i A.length with c|c|c
 rw[awR c]at l;rw[awR (by rw[<-h.1];exact c)]at y;exact h.2 i r x l y;subst c;rw[awH (auG _),awU]at l;rw[h.1,awH (auG _),awU]at y;cases l;cases y;rcases F with rfl|⟨rfl,rfl⟩
 exact .inl rfl;exact .inr ⟨rfl,rfl⟩;rw[awH Om,avZ (by simp;omega)]at l;cases l
theorem uX.flat{u:P2_}{A:L2_}(h:uX u A):Flat u:=Flat.of λr y c l q s rs=>by
 obtain⟨i,hi⟩:=List.mem_iff_getElem?.1 y;have w:=(avP.1 hi).1;rcases h.2 i r _ hi (auP (by rw[<-h.1];exact w))with rfl|⟨rfl,-⟩
 rw[avN]at l;subst l;rfl;rw[avN]at l;subst l;rfl
theorem uX.co{F:P2_}{E:L2_}(h:uX F E):Co (.sl 1 F) (lists E):=by
 have A:∀(i:Nat) r t,F[i]?=some r->(E.map λw=>[ints w])[i]?=some t->∃w,t=[ints w]/\(r=[ints w]\/(r=[.aE]/\w=[])):=λi r t u l=>by
  rw[avC]at l;cases K:E[i]? with
  |none=>rw[K]at l;cases l
  |some w =>rw[K]at l;cases l;exact⟨w,rfl,h.2 i r w u K⟩
 refine .sl (by rw[auD,h.1]) (λi r t u l=>?_) (λi j p q hp y=>?_);obtain⟨w,rfl,J|⟨J,-⟩⟩:=A i r t u l<;>subst J<;>rfl
 ·unfold at2 at hp y;cases u:F[i]? with
  |none=>rw[u]at hp;cases hp
  |some r=>
   cases l:(E.map λw=>[ints w])[i]? with
   |none=>rw[l]at y;cases y
   |some t=>
    rw[u]at hp;rw[l]at y;obtain⟨w,rfl,J⟩:=A i r t u l;rcases J with rfl|⟨rfl,rfl⟩
    have:some p=some q:=hp.symm.trans y;cases this;exact .refl _
    ·cases j with
     |zero=>cases hp;cases y;exact .nil 1
     |succ j=>cases hp
end
def Fx(u:PV):Prop:=∀q s rs,PV.frz q s rs u=u
theorem Fx.int(k:IntKind)(n:Int):Fx (.int k n):=λ_ _ _=>rfl
theorem Fx.bool(b:Bool):Fx (.bool b):=λ_ _ _=>rfl
theorem Fx.sl(n:Nat)(r:P2_):Fx (.sl n r):=λ_ _ _=>rfl
theorem Fx.aE:Fx .aE:=λ_ _ _=>rfl
theorem Fx.ptr(q z i c:Nat):Fx (.ptr q z i c):=λ_ _ _=>rfl
theorem Fx.bQ(c:V_):Fx (.bQ c):=λ_ _ _=>rfl
theorem cF.cZ{H:PH}{s:Nat}{v:PV}{rows:P2_}(h:cF H s v rows)(q z:Nat)(rs:P2_):PV.frz q z rs v=PV.cZ q z rs v:=by
 rcases h with⟨-,rfl⟩|⟨p,rs',rfl,-⟩<;>rfl
def J7(φ:PV->PV)(F:PF):PF:=λi=>(F i).map φ
theorem MB(φ:PV->PV)(F:PF)(i:Nat):J7 φ F i=(F i).map φ:=rfl
theorem OX:∀(ps:WPs){H:PH}{B:List BX}{A:PV}(y:P2_) (l:L2_),uX y l->aQ H B ((A,1,y++fE ps)::tG ps)->(∀b∈B,∀q s rs,aW.frz q s rs b.2=b.2) ->
  ∃(φ:PV->PV)(E:PH),Co (φ A) (lists (l++wls ps))/\(∀u,Fx u->φ u=u)/\(∀e:Int,φ (.tup [A,.j e])=.tup [φ A,.j e])/\aQ E B []/\(∀F:PF,jI F H (J7 φ F) E)/\∀o,(H o=none\/A.oid=some o\/∃p∈ps,p.1.oid=some o)->E o=none
 |[],H,B,A,y,l,K,h,hB=>by
  have N:y++fE []=y:=awD y;have e1:l++wls []=l:=awD l;rw[N]at h;rw[e1];rcases h.own 0 rfl with⟨S,rfl⟩|⟨q,rs,rfl,_⟩
  ·refine⟨id,H,?_,λ_ _=>rfl,λ_=>rfl,h.Ow 0,λF=>?_,λo ho=>?_⟩
   ·subst S;have:l=[]:=List.length_eq_zero_iff.1 K.1.symm;subst this;exact .nil 1
   ·have:J7 id F=F:=funext λi=>by rw[MB];simp
    rw[this];exact .refl _ _
   ·rcases ho with ho|ho|⟨p,hp,-⟩
    ·exact ho
    ·cases ho
    ·cases hp
  ·obtain⟨rs,Z,z2,z3,z4,M⟩:=h.frz 0 rfl;refine⟨PV.frz q 1 rs,H.frz q 1 rs,?_,λu O=>O _ _ _,λe=>?_,?_,λF=>.step q Z (.refl _ _),λo ho=>?_⟩
   ·rw[z3];exact K.co
   ·show PV.tup [PV.cZ q 1 rs (.osl q 1 0 y.length),.j e]=_;rw[z2,z3]
   ·have Q:(B.map λb=>(b.1,b.2.frz q 1 rs))=B:=by
     conv=>rhs;rw[<-List.map_id B]
     refine axL λb hb=>?_;rw[hB b hb q 1 rs];rfl
    rw[Q]at M;exact M
   ·rw[qM];rcases ho with ho|ho|⟨p,hp,-⟩
    ·rw[ho];split<;>rfl
    ·have:q=o:=by injection ho
     rw[aD this.symm]
    ·cases hp
 |(v,w)::ps,H,B,A,y,l,K,h,hB=>by
  have eo:∀u:PV,y++[[u]]++fE ps=y++[u]::fE ps:=λu=>by rw[avW];rfl
  have ew:l++[w]++wls ps=l++wls ((v,w)::ps):=by rw[avW];rfl
  have ho:cF H 1 v (aR w):=h.own 1 rfl;rcases ho with⟨S,rfl⟩|⟨q,rs,rfl,_⟩
  ·have hw:w=[]:=List.map_eq_nil_iff.1 S;have h2:=h.Ow 1;obtain⟨φ,E,k1,k2,U,V,W,Y⟩:=OX ps (y++[[.aE]]) (l++[w]) (K.snoc (.inr ⟨rfl,hw⟩)) (by rw[eo];exact h2) hB;rw[ew]at k1;refine⟨φ,E,k1,k2,U,V,W,λo ho=>Y o ?_⟩;rcases ho with ho|ho|⟨p,hp,ho⟩
   ·exact .inl ho
   ·exact .inr (.inl ho)
   ·rcases auQ.1 hp with rfl|hp
    ·cases ho
    ·exact .inr (.inr ⟨p,hp,ho⟩)
  ·obtain⟨rs,Z,z2,z3,z4,M⟩:=h.frz 1 rfl;have Q:(B.map λb=>(b.1,b.2.frz q 1 rs))=B:=by
    conv=>rhs;rw[<-List.map_id B]
    refine axL λb hb=>?_;rw[hB b hb q 1 rs];rfl
   have y0:PV.cZ q 1 rs A=A:=z4 0 _ aU rfl;have J:PV.frz q 1 rs A=A:=((h.own 0 rfl).cZ q 1 rs).trans y0;have yp:∀p∈ps,PV.cZ q 1 rs p.1=p.1:=λp hp=>by obtain⟨j,hj⟩:=List.mem_iff_getElem?.1 hp;exact z4 (j+2) (p.1,1,aR p.2) Om (we hj)
   have er:(y++fE ((.osl q 1 0 (aR w).length,w)::ps)).map (λr=>r.map (PV.cZ q 1 rs))=y++[[ints w]]++fE ps:=by
    rw[avD,K.flat,avW];congr 1;show[PV.cZ q 1 rs (.osl q 1 0 (aR w).length)]::(fE ps).map _=_;rw[z2];have:(fE ps).map (λr=>r.map (PV.cZ q 1 rs))=fE ps:=by unfold fE;rw[axM];refine axL λp hp=>?_;show[PV.cZ q 1 rs p.1]=_;rw[yp p hp]
    rw[this];rfl
   have ei:(tG ps).map (λx=>(x.1,x.2.1,x.2.2.map λr=>r.map (PV.cZ q 1 rs)))=tG ps:=by unfold tG;rw[axM];refine axL λp _=>?_;show(p.1,1,(aR p.2).map λr=>r.map (PV.cZ q 1 rs))=_;rw[show(aR p.2).map (λr=>r.map (PV.cZ q 1 rs))=aR p.2 from Flat.map p.2 (λx c hc q s rs=>by rw[avN]at hc;subst hc;rfl) q 1 rs]
   have z6:aQ (H.frz q 1 rs) B ((A,1,y++[[ints w]]++fE ps)::tG ps):=by rw[Q]at M;have z7:aQ (H.frz q 1 rs) B ((A,1,(y++fE ((.osl q 1 0 (aR w).length,w)::ps)).map (λr=>r.map (PV.cZ q 1 rs)))::(tG ps).map (λx=>(x.1,x.2.1,x.2.2.map λr=>r.map (PV.cZ q 1 rs)))):=M;rw[er,ei]at z7;exact z7
   obtain⟨φ,E,k1,k2,U,V,W,Y⟩:=OX ps (y++[[ints w]]) (l++[w]) (K.snoc (.inl rfl)) z6 hB;rw[ew]at k1;refine⟨λu=>φ (PV.frz q 1 rs u),E,?_,λu O=>?_,λe=>?_,V,λF=>.step q Z ?_,λo ho=>Y o ?_⟩
   ·simp only;rw[J];exact k1
   ·simp only;rw[O,k2 u O]
   ·simp only;rw[J];have yt:PV.frz q 1 rs (.tup [A,.j e])=.tup [PV.frz q 1 rs A,.j e]:=by rcases h.own 0 rfl with⟨-,N⟩|⟨p,rs',N,-⟩<;>(subst N;rfl)
    rw[yt,J,U]
   ·have:J7 (λu=>φ (PV.frz q 1 rs u)) F=J7 φ (F.frz q 1 rs):=funext λi=>by rw[MB,MB,rT,Option.map_map];rfl
    rw[this];exact W _
   ·rw[qM];rcases ho with ho|ho|⟨p,hp,ho⟩
    ·left;rw[ho];split<;>rfl
    ·exact .inr (.inl ho)
    ·rcases auQ.1 hp with rfl|hp
     ·have:q=o:=by injection ho
      left;rw[aD this.symm]
     ·exact .inr (.inr ⟨p,hp,ho⟩)
theorem HY{res:List dZ}{F:PF}{H:PH}{i:PV}{ps:WPs}{c:Int}{e:lE}(w:e=.normal\/e=.ret)(h:dZ.evs F H res=some [i,.j c])(u:aQ H [] (gX i ps)):aX res (cN (.tup [lists (wls ps),.j c])) e F H:=by
 obtain⟨φ,E,k1,-,y,-,A,-⟩:=OX ps [] [] .nil u (λb hb=>by cases hb);refine FA w h ⟨_,_,.nil,A _,a_,φ (bO [i,.j c]),?_,?_⟩;rw[MB,mF,aD rfl];rfl
 ·show cN _ (φ (.tup [i,.j c])) .nil;rw[y];refine⟨.tup rfl λj p q hp l=>?_,rfl⟩
  match j with
  |0=>cases hp;cases l;exact k1
  |1=>cases hp;cases l;exact .refl _
  |j+2=>cases hp
variable{C:Ctx}
theorem Tf{F:PF}{H Hs:PH}{S:Spec}{name:Nat}{D:N_}{vs:V_}{v:PV}{args:List aP}{st:Bool}{d:O_}{K:K_}(u:S name vs=some (D,λG r H'=>r=v/\H'=G))(hD:∀o∈D,∃x,H o=some x)
  (h:aG C name vs (H.only D) (λr H'=>r=v/\H'=H.only D)) (w:aP.evs F args=some vs) (i:Hs.le H) (A:K (F.put d v) H):dOp C Hs S st (.call name args) d K F H:=by
 refine⟨vs,D,_,w,u,hD,h,λG=>⟨v,_,⟨rfl,rfl⟩,λq y J l=>?_⟩,λr H' E _=>?_⟩;rw[J]at l;cases l;obtain⟨rfl,rfl⟩:=E;rw[PH.over_self _ (LN H D)];exact⟨i,A⟩
structure XId where
 o:Nat
 qr:Nat
 qb:Nat
 qo:Nat
 q:Nat->Nat
structure XSt where
 m:Nat
 cols:P2_
 row:I_
structure XDy where
 den:Int
 X:Nat->Nat->Int
 R:Nat->Int
 B:Nat->Int
def XSt.cells(S:XSt)(I:XId)(den:Int):V_:=[.sl 3 S.cols,.int .i64 (S.m:Nat),ints S.row,.osl I.qo 1 0 S.m,.int .i64 den,.osl I.qr 1 0 S.m,.osl I.qb 1 0 S.m]
structure XNe(I:XId)(m:Nat):Prop where
 a:¬I.o=I.qr
 b:¬I.o=I.qb
 c:¬I.o=I.qo
 d:¬I.qr=I.qb
 e:¬I.qr=I.qo
 f:¬I.qb=I.qo
 g:∀i,i<m->¬I.q i=I.o/\¬I.q i=I.qr/\¬I.q i=I.qb/\¬I.q i=I.qo
 h:∀i l,i<m->l<m->I.q i=I.q l->i=l
def jO(H:PH)(q m:Nat)(g:Nat->Int):Prop:=∃rs,H q=some (.rows 1 rs)/\∀i,i<m->rs[i]?=some [.int .i64 (g i)]
structure XV(I:XId)(S:XSt)(D:XDy)(H:PH):Prop where
 ne:XNe I S.m
 box:H I.o=some (.rows 7 [S.cells I D.den])
 right:jO H I.qr S.m D.R
 basis:jO H I.qb S.m D.B
 outer:∃rs,H I.qo=some (.rows 1 rs)/\∀i,i<S.m->rs[i]?=some [.osl (I.q i) 1 0 S.m]
 inner:∀i,i<S.m->jO H (I.q i) S.m (D.X i)
theorem jO.le{H H':PH}{q m:Nat}{g:Nat->Int}(h:jO H q m g)(i:H.le H'):jO H' q m g:=by
 obtain⟨rs,l,u⟩:=h;exact⟨rs,i _ _ l,u⟩
theorem XV.le{I:XId}{S:XSt}{D:XDy}{H H':PH}(h:XV I S D H)(l:H.le H'):XV I S D H':=by
 refine⟨h.ne,l _ _ h.box,h.right.le l,h.basis.le l,?_,λi hi=>(h.inner i hi).le l⟩;obtain⟨rs,u,w⟩:=h.outer;exact⟨rs,l _ _ u,w⟩
theorem PH.le.trans{A B D:PH}(h:A.le B)(k:B.le D):A.le D:=PH.le_trans h k
theorem kL{H H':PH}:H'.le (H.over H H'):=λo x i=>by rw[iL,i]
theorem AZ{F:PF}{H:PH}{name:Nat}{vs:V_}{v:PV}{args:List aP}{d:O_}{K:K_}(h:aG C name vs H (λr H'=>r=v/\H'=H))(i:aP.evs F args=some vs)(l:K (F.put d v) H):iW C name args [] d K F H:=by
 refine fD h i b_ ?_;rintro r H' ⟨rfl,rfl⟩ -;rw[PH.over_self _ b_];exact l
def sM(H:PH)(l:I_)(r:PV)(H':PH):Prop:=(l=[]/\r=.aE/\H'=H)\/∃q,H q=none/\r=.osl q 1 0 l.length/\H'=H.set q (.rows 1 (aR l))
theorem Il{H:PH}{q:Nat}{x:aW}:H.over H (H.set q x)=H.set q x:=PH.ext λo=>by
 rw[iL,aT];by_cases e:o=q;simp[e];simp only[aB e];cases H o<;>rfl
theorem sH{F:PF}{H:PH}{name:Nat}{vs:V_}{l:I_}{args:List aP}{d:O_}{K:K_}(h:aG C name vs H (sM H l))(y:aP.evs F args=some vs)(u:∀r H',sM H l r H'->K (F.put d r) H'):iW C name args [] d K F H:=by
 refine fD h y b_ λr H' A _=>?_;rcases A with⟨i,w,rfl⟩|⟨q,h0,i,rfl⟩
 rw[PH.over_self _ b_];exact u _ _ (.inl ⟨i,w,rfl⟩);rw[Il];exact u _ _ (.inr ⟨q,h0,i,rfl⟩)
def FG(i H:PH)(v:PV)(l:I_):Prop:=i.le H/\((l=[]/\v=.aE)\/∃q,i q=none/\v=.osl q 1 0 l.length/\H q=some (.rows 1 (aR l)))
theorem FG.nil{H:PH}:FG H H .aE []:=⟨b_,.inl ⟨rfl,rfl⟩⟩
theorem FG.append{F H:PH}{v:PV}{l:I_}(h:FG F H v l)(x:Int)(M:l'' l<=1000000){K:R_}(E:∀v' H',FG F H' v' (l++[x])->K v' H'):mJ H 1 8 v (.sl 1 [[.j x]]) K:=by
 obtain⟨i,h⟩:=h;have w:(l++[x]).length=l'' l+1:=by simp
 have y:aR (l++[x])=aR l++[[.j x]]:=avD;have u:roomFor l.length 1 8:=by unfold roomFor;simp only[maxLen];omega
 rcases h with⟨rfl,rfl⟩|⟨q,h0,rfl,h1⟩
 refine tP (src:=[[.j x]]) rfl u (λe=>by cases e) λ_ o A=>E _ _ ⟨PH.vG i (PH.le_none i A),.inr ⟨o,PH.le_none i A,rfl,cA ..⟩⟩;have J:(aR l).take l.length=aR l:=auZ (by rw[bG];exact auG _);refine WL (src:=[[.j x]]) rfl u h1 (by rw[bG];exact auG _) ?_ λo' A=>?_;rw[J,<-y];exact E _ _ ⟨PH.vG i h0,.inr ⟨q,h0,by rw[w];rfl,cA ..⟩⟩;rw[J,<-y];exact E _ _ ⟨PH.vG i (PH.le_none i A),.inr ⟨o',PH.le_none i A,by rw[w];rfl,cA ..⟩⟩
theorem FG.ret{t:Nat}{u H:PH}{v:PV}{l:I_}{F:PF}{e:lE}(y:e=.normal\/e=.ret)(h:FG u H v l)(A:F t=some v):aX [.tmp t] (sM u l) e F H:=by
 obtain⟨i,h⟩:=h;rcases h with⟨w,rfl⟩|⟨q,h0,rfl,w⟩
 exact aY y u (vs:=[.aE]) (by rw[kM,nF,A,oM]) i (.inl ⟨w,rfl,rfl⟩);exact aY y (u.set q (.rows 1 (aR l))) (vs:=[.osl q 1 0 l.length]) (by rw[kM,nF,A,oM]) (c_ i w) (.inr ⟨q,h0,rfl,rfl⟩)
abbrev xp(I:XId):PV:=.ptr I.o 7 0 0
theorem tN{t:Nat}{v:PV}{F:PF}{i H:PH}{e:lE}(u:e=.normal\/e=.ret)(h:F t=some v)(l:i.le H):aX [.tmp t] (λr H'=>r=v/\H'=i) e F H:=
 aY u i (vs:=[v]) (by rw[kM,nF,h,oM]) l ⟨rfl,rfl⟩
def qI(m:Nat)(row:I_):Int:=(m:Int)-row.countP λr=>decide (0<=r)
theorem Sb(I:XId)(S:XSt)(D:Int)(F:S.m<=1000)(J:l'' S.row<=1000){H:PH}(hb:H I.o=some (.rows 7 [S.cells I D])) :
  WO.wp C (aX MG.res (λr H'=>r=.j (qI S.m S.row)/\H'=H)) (g_ [xp I]) H:=by
 simp only[go_sem,WO,MG,hb,XSt.cells,auD];refine wp_loop (α:=Nat) (λk=>((((n_.set 3 (.j (qI S.m (S.row.take k)))).set 13 (ints S.row)).set 14 (.j (l'' S.row:Nat))).set 15 (.j k))) (λ_=>H) (λk=>k<=l'' S.row) (λk=>l'' S.row-k) 0 (auK _) (lE1 (show qI S.m (S.row.take 0)=(S.m:Int)from by simp[qI])) b_ ?_;intro k E;simp only[go_sem];by_cases hlt:k<l'' S.row;have i:(k:Int)<(l'' S.row:Nat):=Om;have w:(S.row.map λn=>[PV.int .i64 n])[k]?=some [.j S.row[k]]:=by simp[hlt]
 have u:qI S.m (S.row.take (k+1))=if 0<=S.row[k]then qI S.m (S.row.take k)-1 else qI S.m (S.row.take k):=by unfold qI;rw[awE hlt,ayR,List.countP_cons,List.countP_nil];by_cases c:0<=S.row[k];rw[aD c,bH c];simp only[if_true];omega;rw[aB c,bT c];simp
 have y:=List.countP_le_length (p:=λr=>decide ((0:Int)<=r)) (l:=S.row.take k);rw[auU]at y;have A:i_.wrap (qI S.m (S.row.take k)-1)=qI S.m (S.row.take k)-1:=by unfold qI;exact wrap_i64 Om Om
 generalize S.row[k]=x at *
 by_cases c:0<=x;rw[aD c]at u;simp only[go_sem,i,w,show x>=0 from c,A,wZz k];exact aF (k+1) hlt Om (lE1 u) b_;rw[aB c]at u;simp only[go_sem,i,w,show ¬x>=0 from c,wZz k];exact aF (k+1) hlt Om (lE1 u) b_;have i:¬(k:Int)<(l'' S.row:Nat):=Om;have:k=l'' S.row:=Om;subst this;simp only[go_sem,i,avI];exact tN (.inr rfl) Sq b_
def JJ(n:Nat)(b:Int):Int:=if b<0 then n-b else b
theorem Xa(I:XId)(S:XSt)(D:XDy)(y:l'' S.cols<=1000000)(i:Nat)(hi:i<S.m)(hB:-1000000<=D.B i/\D.B i<=1000000){H:PH}(u:XV I S D H) :
  ca.wp C (aX WS.res (λr H'=>r=.j (JJ S.cols.length (D.B i))/\H'=H)) (g_ [xp I,.j (i:Nat)]) H:=by
 obtain⟨rs,g1,g2⟩:=u.basis;have g3:=g2 i hi;have l:(i:Int)<(S.m:Nat):=Om;have hb:=u.box;have w:i_.wrap ((l'' S.cols:Nat)-D.B i)=(l'' S.cols:Nat)-D.B i:=wrap_i64 Om Om;unfold JJ;simp only[go_sem,ca,WS,hb,XSt.cells,g1,g3,l];by_cases c:D.B i<0;simp only[go_sem,c];refine bV .nil dY a_ ?_;simp only[go_sem,hb,XSt.cells,g1,g3,l,w];exact tN (.inr rfl) Sq b_;simp only[go_sem,c,hb,XSt.cells,g1,g3,l];exact tN (.inr rfl) Sq b_
def XF(cols:P2_)(c:Nat->Int)(first:Bool)(b:Int):Int:=if b<0 then(if first then 1 else 0)else if first then 0 else c b.toNat
theorem acL(I:XId)(S:XSt)(D:XDy)(c:Nat->Int)(E:∀j,j<l'' S.cols->∃x y,S.cols[j]?=some [x,y,.j (c j)])(i:Nat)(hi:i<S.m)(hB:D.B i<(l'' S.cols:Nat))(first:Bool){H:PH}(u:XV I S D H) :
  tk.wp C (aX tj.res (λr H'=>r=.j (XF S.cols c first (D.B i))/\H'=H)) (g_ [xp I,.j (i:Nat),.bool first]) H:=by
 obtain⟨rs,g1,g2⟩:=u.basis;have g3:=g2 i hi;have l:(i:Int)<(S.m:Nat):=Om;have hb:=u.box;unfold XF;simp only[go_sem,tk,tj,hb,XSt.cells,g1,g3,l];by_cases d:D.B i<0
 ·cases first with
  |true =>simp only[go_sem,d];exact tN (.inr rfl) Sq b_
  |false =>simp only[go_sem,d];exact tN (.inr rfl) Sq b_
 ·cases first with
  |true =>simp only[go_sem,d];exact tN (.inr rfl) Sq b_
  |false =>obtain⟨x,y,A⟩:=E (D.B i).toNat Om;have w:0<=D.B i:=Om;simp only[go_sem,d,hb,XSt.cells,A,w,hB];exact tN (.inr rfl) Sq b_
def FT(S:XSt)(pol:Int)(set:I_):I_:=(if 0<=pol then[S.row.getD pol.toNat 0]else[])++set.map λd=>(S.m:Int)-qI S.m S.row+d
def cyR(o:Nat)(v:PV):Spec:=λ_ _=>some ([o],λG r H'=>r=v/\H'=G)
theorem Lo(I:XId)(S:XSt)(D:Int)(hm:S.m<=1000)(hr:l'' S.row<=1000)
  (drv:∀H:PH,H I.o=some (.rows 7 [S.cells I D])->aG C 358 [xp I] H (λr H'=>r=.j (qI S.m S.row)/\H'=H))
  (pol:Int) (hp:pol<(l'' S.row:Nat)) (set:I_) (hs:l'' set<=1000) (V:∀d∈set,0<=d/\d<=1000) (cost:Int) {H:PH} (hb:H I.o=some (.rows 7 [S.cells I D])) :
  SA.wp C (aX jX.res (sM H (FT S pol set))) (g_ [xp I,.agg [.j pol,ints set,.j cost]]) H:=by
 have β:=List.countP_le_length (p:=λr=>decide ((0:Int)<=r)) (l:=S.row);have γ:-1000<=qI S.m S.row/\qI S.m S.row<=1000:=by unfold qI;omega
 have N:∀(v:PV)(O:PH)(M:I_)(F:PF),l'' M<=1->FG H O v M->((((n_.set 0 (xp I)).set 3 (.bQ [.j pol,ints set,.j cost])).set 5 (v)):PF).le F ->
   aK.wp C (.seq (.seq (.region KD) (.block 0 (.loop KC))) (.seq (.region GT) .ret)) (aX jX.res (sM H (M++set.map λd=>(S.m:Int)-qI S.m S.row+d))) F O:=by
  intro v O M F δ J Z;refine sT _ (λ_ _ _ _ a b=>Up.up a b) Z ?_;generalize qI S.m S.row=y at *
  simp only[go_sem,KD,auD,jX];refine wp_loop (α:=T3_) (λt=>(((((n_.set 0 (xp I)).set 5 (t.2.1)).set 23 (ints set)).set 24 (.j (l'' set:Nat))).set 25 (.j t.1))) (λt=>t.2.2) (λt=>t.1<=l'' set/\FG H t.2.2 t.2.1 (M++(set.take t.1).map λd=>(S.m:Int)-y+d)) (λt=>l'' set-t.1) (0,v,O) ⟨auK _,by simp only[List.take_zero,avY,awD];exact J⟩ Lq b_ ?_;rintro⟨k,w,H2⟩ ⟨hk,J⟩;simp only at hk J ⊢;simp only[go_sem,KC];by_cases hlt:k<l'' set;have u:(k:Int)<(l'' set:Nat):=Om;have K:(set.map λn=>[PV.int .i64 n])[k]?=some [.j set[k]]:=by simp[hlt]
  have W:M++(set.take (k+1)).map (λd=>(S.m:Int)-y+d)=(M++(set.take k).map λd=>(S.m:Int)-y+d)++[(S.m:Int)-y+set[k]]:=by rw[awE hlt,avD,avW];rfl
  obtain⟨s1,s2⟩:=V _ (auH hlt);have A:=J.1 _ _ hb;have E:(h_.set I.o (.rows 7 [S.cells I D])).le H2:=c_ a_ A;generalize set[k]=x at *
  have w1:i_.wrap ((S.m:Int)-y)=(S.m:Int)-y:=wrap_i64 Om Om;have w2:i_.wrap ((S.m:Int)-y+x)=(S.m:Int)-y+x:=wrap_i64 Om Om;simp only[go_sem,u,K];refine bV _ (cyR I.o (.j y)) E ?_;simp only[go_sem,A,XSt.cells];refine Tf rfl (λo ho=>by rw[avN.1 ho];exact⟨_,A⟩) (drv _ (by rw[uI,aD (avN.2 rfl)];exact A)) Sq E ?_;simp only[go_sem,w1,w2,show(1:Nat)*1<=16777216 from by decide,avN,forall_eq];refine J.append _ (by simp;omega) λY Q i=>⟨c_ a_ (i.1 _ _ hb),?_⟩;simp only[go_sem,wZz k];exact aF (k+1,Y,Q) ⟨hlt,by rw[W];exact i⟩ sO_ Lq b_;have u:¬(k:Int)<(l'' set:Nat):=Om;have:k=l'' set:=Om;subst this;rw[avI]at J;simp only[go_sem,u,GT];exact J.ret (.inr rfl) Sq
 unfold FT;simp only[go_sem,SA,jX];by_cases c:0<=pol;have K:(S.row.map λn=>[PV.int .i64 n])[pol.toNat]?=some [.j (S.row.getD pol.toNat 0)]:=by have:pol.toNat<l'' S.row:=Om;simp[auM,this]
 have U:(h_.set I.o (.rows 7 [S.cells I D])).le H:=c_ a_ hb;simp only[go_sem,show pol>=0 from c];refine bV _ dY U ?_;simp only[go_sem,hb,XSt.cells,c,hp,auD,K,show(1:Nat)*1<=16777216 from by decide,avN,forall_eq];refine FG.nil.append _ aU λY Q i=>⟨c_ a_ (i.1 _ _ hb),?_⟩;refine N Y Q [S.row.getD pol.toNat 0] _ (auG 1) i ?_;exact Lq;simp only[go_sem,show ¬pol>=0 from c];refine N .aE H [] _ (auK 1) FG.nil ?_;exact Lq
def fl(m:Nat)(g:Nat->Int):I_:=(auE m).map g
theorem yD(m:Nat)(g:Nat->Int):(fl m g).length=m:=by unfold fl;simp
theorem CW{m i:Nat}(g:Nat->Int)(h:i<m):(aR (fl m g))[i]?=some [.j (g i)]:=by unfold aR fl;simp[h]
theorem Fw{m i:Nat}(g:Nat->Int)(v:Int):(aR (fl m g)).set i [.j v]=aR (fl m λj=>if j=i then v else g j):=by
 unfold aR fl;refine axK bC λj l u=>?_;rw[List.getElem_set];simp only[awA,List.getElem_range];by_cases e:i=j;subst e;simp;rw[aB e,aB (λh=>e h.symm)]
theorem wC{m:Nat}{g g':Nat->Int}(h:∀j,j<m->g j=g' j):fl m g=fl m g':=axL λj i=>h j (avM.1 i)
theorem NM(m:Nat):auL m [PV.int .i64 0]=aR (fl m λ_=>0):=by
 unfold aR fl;exact axK bC λi l u=>by simp
def kN(X:Nat->Nat->Int)(E:I_)(i:Nat):Int:=E.foldl (λs k=>s+X i k.toNat) 0
theorem Wi(X:Nat->Nat->Int)(E:I_)(e:Int)(i:Nat):kN X (E++[e]) i=kN X E i+X i e.toNat:=by unfold kN;rw[List.foldl_append];rfl
theorem Jv{X:Nat->Nat->Int}{i:Nat}{B:Nat}:∀(E:I_)(s:Int),(∀e∈E,(X i e.toNat).natAbs<=B)->(E.foldl (λs k=>s+X i k.toNat) s).natAbs<=s.natAbs+l'' E*B
 |[],s,_=>by simp
 |e::t,s,h=>by have u:=Jv t (s+X i e.toNat) λx l=>h x (ayV _ l);have w:=h e List.mem_cons_self;have y:=Int.natAbs_add_le s (X i e.toNat);rw[List.foldl_cons,avG,axB];omega
theorem Xd(I:XId)(S:XSt)(D:XDy)(hm:S.m<=1000)(c:V_)(E:I_)(μ:l'' E<=1000)(hE:∀e∈E,0<=e/\e<(S.m:Nat))(hX:∀i k,i<S.m->k<S.m->(D.X i k).natAbs<=1000000000)
  (ent:∀H:PH,H I.o=some (.rows 7 [S.cells I D.den])->aG C 352 [xp I,.agg c] H (sM H E)) (hc:l'' c=3) (δ:c.all PV.one=true) {H:PH} (hv:XV I S D H) :
  cd.wp C (aX WU.res (sM H (fl S.m (kN D.X E)))) (g_ [xp I,.agg c]) H:=by
 have Z:(S.m:Int)*((8:Nat):Int)<=140737488355328:=Om;have β:(S.m:Int)<=9223372036854775807:=Om;have hb:=hv.box;simp only[go_sem,cd,WU,hb,XSt.cells,Z,β,δ];refine aS λu h5=>?_;rw[NM];have w:H.le (H.set u (.rows 1 (aR (fl S.m λ_=>0)))):=PH.vG (λ_ _ h=>h) h5;simp only[go_sem,hc,show c.take 3=c from auZ Om];refine sH (ent _ (w _ _ hb)) Sq λr J hr=>?_;have h6:H.le J/\J u=some (.rows 1 (aR (fl S.m λ_=>0)))/\r.mB=some (.j (l'' E:Nat))/\∀k (U:k<l'' E),∃q,r=.osl q 1 0 E.length/\¬q=u/\J q=some (.rows 1 (aR E)):=by
  rcases hr with⟨rfl,rfl,rfl⟩|⟨q,h0,rfl,rfl⟩
  exact⟨w,cA ..,rfl,λk U=>absurd U (axA _)⟩;have ne:¬q=u:=by rintro rfl;rw[cA]at h0;cases h0
  exact⟨PH.vG w (PH.le_none w h0),by rw[aT,aB (λe=>ne e.symm),cA],rfl,λk U=>⟨q,rfl,ne,cA ..⟩⟩
 obtain⟨O,g5,Q,K⟩:=h6;have hG:∀x,H.le (J.set u x):=λx=>PH.vG O h5;simp only[go_sem,Q];refine wp_loop (α:=Nat) (λk=>(((((n_.set 0 (xp I)).set 5 (.osl u 1 0 S.m)).set 16 (r)).set 17 (.j (l'' E:Nat))).set 18 (.j k))) (λk=>J.set u (.rows 1 (aR (fl S.m (kN D.X (E.take k)))))) (λk=>k<=l'' E) (λk=>l'' E-k) 0 (auK _) Lq ?_ ?_;refine c_ b_ ?_;rw[g5];rfl;intro k U;simp only[go_sem];by_cases hlt:k<l'' E;have F:(k:Int)<(l'' E:Nat):=Om;have Y:(aR E)[k]?=some [.j E[k]]:=by unfold aR;simp[hlt]
 obtain⟨q,θ,ζ,hq⟩:=K k hlt;obtain⟨e0,e1⟩:=hE _ (auH hlt);have κ:∀i,kN D.X (E.take (k+1)) i=kN D.X (E.take k) i+D.X i E[k].toNat:=λi=>by rw[awE hlt,Wi]
 have γ:∀i,i<S.m->(kN D.X (E.take k) i).natAbs<=1000*1000000000:=λi hi=>by
  have h1:=Jv (X:=D.X) (i:=i) (B:=1000000000) (E.take k) 0 λe he=>by have:=hE e (ayW he);exact hX i _ hi Om
  have h2:(E.take k).length*1000000000<=1000*1000000000:=avL _ (by rw[auU];omega);unfold kN;simp only[Int.natAbs_zero]at h1;omega
 generalize E[k]=e at *
 obtain⟨j,rfl⟩:∃j:Nat,e=j:=⟨e.toNat,by omega⟩;subst θ;simp only[go_sem,F,ζ,hq,Y];refine wp_loop (α:=Nat) (λi=>((((((((n_.set 0 (xp I)).set 5 (.osl u 1 0 S.m)).set 7 (.j j)).set 16 (.osl q 1 0 E.length)).set 17 (.j (l'' E:Nat))).set 18 (.j k)).set 23 (.j (S.m:Nat))).set 24 (.j i))) (λi=>J.set u (.rows 1 (aR (fl S.m λl=>if l<i then kN D.X (E.take (k+1)) l else kN D.X (E.take k) l)))) (λi=>i<=S.m) (λi=>S.m-i) 0 (auK _) Lq (by simp only[axA,if_false];exact b_) ?_;intro i hi;simp only[go_sem];by_cases A:i<S.m;have y:(i:Int)<(S.m:Nat):=Om;have ε:(j:Int)<(S.m:Nat):=Om;have M:=hv.le (hG (.rows 1 (aR (fl S.m λl=>if l<i then kN D.X (E.take (k+1)) l else kN D.X (E.take k) l))));obtain⟨ro,o1,o2⟩:=M.outer;obtain⟨ri,i1,i2⟩:=M.inner i A;have o3:=o2 i A;have i3:=i2 j Om;have b6:=M.box;have N:=CW (m:=S.m) (λl=>if l<i then kN D.X (E.take (k+1)) l else kN D.X (E.take k) l) A;simp only[Nat.lt_irrefl,if_false]at N;have ι:=Fw (m:=S.m) (i:=i) (λl=>if l<i then kN D.X (E.take (k+1)) l else kN D.X (E.take k) l) (kN D.X (E.take k) i+D.X i j);have hx:=hX i j A Om;have ν:=γ i A;have hw:i_.wrap (kN D.X (E.take k) i+D.X i j)=kN D.X (E.take k) i+D.X i j:=wrap_i64 Om Om;have η:(fl S.m λl=>if l=i then kN D.X (E.take k) i+D.X i j else if l<i then kN D.X (E.take (k+1)) l else kN D.X (E.take k) l)=fl S.m λl=>if l<i+1 then kN D.X (E.take (k+1)) l else kN D.X (E.take k) l:=wC λl _=>by by_cases a:l=i;subst a;rw[aD rfl,aD Om,κ];rfl;rw[aB a];by_cases b:l<i;rw[aD b,aD Om];rw[aB b,aB Om]
 simp only[go_sem,y];generalize ξ:aR (fl S.m λl=>if l<i then kN D.X (E.take (k+1)) l else kN D.X (E.take k) l)=rows at *
 have V:(J.set u (.rows 1 rows)) u=some (.rows 1 rows):=cA ..;generalize W:J.set u (.rows 1 rows)=G at *
 refine bV .nil dY a_ ?_;simp only[go_sem,V,N,y,b6,XSt.cells,o1,o3,i1,i3,ε,hw,avQ];refine⟨a_,?_⟩;simp only[go_sem,wZz i];refine aF (i+1) A Om Lq ?_;rw[ι,η,<-W,PH.set_set];exact b_;have y:¬(i:Int)<(S.m:Nat):=Om;have:i=S.m:=Om;subst this;simp only[go_sem,y,wZz k];refine aF (k+1) hlt Om Lq ?_;rw[wC (g':=λl=>kN D.X (E.take (k+1)) l) λl hl=>aD hl];exact b_;have F:¬(k:Int)<(l'' E:Nat):=Om;have:k=l'' E:=Om;subst this;rw[avI];simp only[go_sem,F];refine aY (.inr rfl) (H.set u (.rows 1 (aR (fl S.m (kN D.X E))))) (vs:=[.osl u 1 0 S.m]) Sq (c_ (hG _) (cA ..)) (.inr ⟨u,h5,by rw[yD];rfl,rfl⟩)
theorem W8(I:XId)(S:XSt)(D:XDy)(hm:S.m<=1000)(first:Bool)(c:Nat->Int)(K:∀i,i<S.m->(c i).natAbs<=1000000)(hX:∀i k,i<S.m->k<S.m->(D.X i k).natAbs<=1000000000)
  (O:∀(H:PH),XV I S D H->∀i,i<S.m->aG C 356 [xp I,.j (i:Nat),.bool first] H (λr H'=>r=.j (c i)/\H'=H)) {H:PH} (hv:XV I S D H) :
  bs.wp C (aX WP.res (sM H (fl S.m λk=>bB (λi=>c i*D.X i k) S.m))) (g_ [xp I,.bool first]) H:=by
 have V:(S.m:Int)*((8:Nat):Int)<=140737488355328:=Om;have W:(S.m:Int)<=9223372036854775807:=Om;have hb:=hv.box;simp only[go_sem,bs,WP,hb,XSt.cells,V,W];refine aS λF h5=>?_;rw[NM];have w:∀x,H.le (H.set F x):=λx=>PH.vG (λ_ _ h=>h) h5;have b5:=w (.rows 1 (aR (fl S.m λ_=>0))) _ _ hb;simp only[go_sem,b5,XSt.cells];refine wp_loop (α:=Nat) (λi=>((((((n_.set 0 (xp I)).set 1 (.bool first)).set 5 (.osl F 1 0 S.m)).set 19 (.osl I.qo 1 0 S.m)).set 20 (.j (S.m:Nat))).set 21 (.j i))) (λi=>H.set F (.rows 1 (aR (fl S.m λk=>bB (λl=>c l*D.X l k) i)))) (λi=>i<=S.m) (λi=>S.m-i) 0 (auK _) Lq b_ ?_;intro i hi;have M:=hv.le (w (.rows 1 (aR (fl S.m λk=>bB (λl=>c l*D.X l k) i))));simp only[go_sem];by_cases u:i<S.m;have y:(i:Int)<(S.m:Nat):=Om;obtain⟨ro,o1,o2⟩:=M.outer;have o3:=o2 i u;have Y:=K i u;simp only[go_sem,y,o1,o3];refine AZ (O _ M i u) Sq ?_;simp only[go_sem];by_cases N:c i=0;simp only[go_sem,N,wZz i];refine aF (i+1) u Om Lq ?_;rw[show fl S.m (λk=>bB (λl=>c l*D.X l k) (i+1))=fl S.m (λk=>bB (λl=>c l*D.X l k) i)from wC λk _=>by simp[bB,N]];exact b_;simp only[go_sem,show(c i != 0)=true from by simp[N]];refine wp_loop (α:=Nat) (λk=>((((((((((n_.set 0 (xp I)).set 1 (.bool first)).set 5 (.osl F 1 0 S.m)).set 8 (.j (c i))).set 19 (.osl I.qo 1 0 S.m)).set 20 (.j (S.m:Nat))).set 21 (.j i)).set 32 (.osl (I.q i) 1 0 S.m)).set 33 (.j (S.m:Nat))).set 34 (.j k))) (λk=>H.set F (.rows 1 (aR (fl S.m λj=>if j<k then bB (λl=>c l*D.X l j) (i+1)else bB (λl=>c l*D.X l j) i)))) (λk=>k<=S.m) (λk=>S.m-k) 0 (auK _) Lq (by simp only[axA,if_false];exact b_) ?_;intro k hk;simp only[go_sem];by_cases A:k<S.m;have E:(k:Int)<(S.m:Nat):=Om;have γ:=hv.le (w (.rows 1 (aR (fl S.m λj=>if j<k then bB (λl=>c l*D.X l j) (i+1)else bB (λl=>c l*D.X l j) i))));obtain⟨ri,i1,i2⟩:=γ.inner i u;have i3:=i2 k A;have J:=CW (m:=S.m) (λj=>if j<k then bB (λl=>c l*D.X l j) (i+1)else bB (λl=>c l*D.X l j) i) A;simp only[Nat.lt_irrefl,if_false]at J;have β:=Fw (m:=S.m) (i:=k) (λj=>if j<k then bB (λl=>c l*D.X l j) (i+1)else bB (λl=>c l*D.X l j) i) (bB (λl=>c l*D.X l k) i+c i*D.X i k);have hx:=hX i k u A;have ι:=wP (f:=λl=>c l*D.X l k) (B:=1000000*1000000000) (n:=i) λl hl=>by rw[axO];exact awY (K l Om) (hX l k Om A)
 have ζ:i*(1000000*1000000000)<=1000*(1000000*1000000000):=avL _ Om;have θ:(c i*D.X i k).natAbs<=1000000*1000000000:=by rw[axO];exact awY Y hx
 have δ:i_.wrap (c i*D.X i k)=c i*D.X i k:=wrap_i64 Om Om;have ε:i_.wrap (bB (λl=>c l*D.X l k) i+c i*D.X i k)=bB (λl=>c l*D.X l k) i+c i*D.X i k:=wrap_i64 Om Om;have Z:(fl S.m λj=>if j=k then bB (λl=>c l*D.X l k) i+c i*D.X i k else if j<k then bB (λl=>c l*D.X l j) (i+1)else bB (λl=>c l*D.X l j) i)=fl S.m λj=>if j<k+1 then bB (λl=>c l*D.X l j) (i+1)else bB (λl=>c l*D.X l j) i:=wC λj _=>by by_cases a:j=k;subst a;rw[aD rfl,aD Om];rfl;rw[aB a];by_cases b:j<k;rw[aD b,aD Om];rw[aB b,aB Om]
 generalize η:aR (fl S.m λj=>if j<k then bB (λl=>c l*D.X l j) (i+1)else bB (λl=>c l*D.X l j) i)=rows at *
 have Q:(H.set F (.rows 1 rows)) F=some (.rows 1 rows):=cA ..;generalize U:H.set F (.rows 1 rows)=G at *
 simp only[go_sem,E,i1,i3,Q,J,δ,ε,avQ,wZz k];refine aF (k+1) A Om Lq ?_;rw[β,Z,<-U,PH.set_set];exact b_;have E:¬(k:Int)<(S.m:Nat):=Om;have:k=S.m:=Om;subst this;simp only[go_sem,E,wZz i];refine aF (i+1) u Om Lq ?_;rw[wC (g':=λk=>bB (λl=>c l*D.X l k) (i+1)) λl hl=>aD hl];exact b_;have y:¬(i:Int)<(S.m:Nat):=Om;have:i=S.m:=Om;subst this;simp only[go_sem,y];exact aY (.inr rfl) (H.set F (.rows 1 (aR (fl S.m λk=>bB (λi=>c i*D.X i k) S.m)))) (vs:=[.osl F 1 0 S.m]) Sq b_ (.inr ⟨F,h5,by rw[yD];rfl,rfl⟩)
def upf(g:Nat->Int)(i:Nat)(v:Int):Nat->Int:=λj=>if j=i then v else g j
theorem jO.set{H:PH}{q m i:Nat}{g:Nat->Int}{v:Int}{rs:P2_}(h:jO H q m g)(y:H q=some (.rows 1 rs))(hi:i<m):jO (H.set q (.rows 1 (rs.set i [.j v]))) q m (upf g i v):=by
 obtain⟨rs',e,l⟩:=h;cases y.symm.trans e;refine⟨_,cA ..,λj u=>?_⟩;have w:i<l'' rs:=(avP.1 (l i hi)).1;unfold upf;rw[ayG];by_cases c:i=j;rw[aD c,aD w,aD c.symm];rw[aB c,aB (λe=>c e.symm),l j u]
theorem jO.off{H:PH}{q i m:Nat}{g:Nat->Int}{x:aW}(h:jO H q m g)(ne:¬q=i):jO (H.set i x) q m g:=by
 obtain⟨rs,l,u⟩:=h;exact⟨rs,by rw[aT,aB ne];exact l,u⟩
theorem jO.congr{H:PH}{q m:Nat}{g g':Nat->Int}(h:jO H q m g)(e:∀i,i<m->g i=g' i):jO H q m g':=by
 obtain⟨rs,l,u⟩:=h;exact⟨rs,l,λi hi=>by rw[u i hi,e i hi]⟩
theorem XV.congr{I:XId}{S:XSt}{D l:XDy}{H:PH}(h:XV I S D H)(u:D.den=l.den)(e2:∀i,i<S.m->D.R i=l.R i)(w:∀i,i<S.m->D.B i=l.B i)(y:∀i k,i<S.m->k<S.m->D.X i k=l.X i k):XV I S l H:=
 ⟨h.ne,u ▸ h.box,h.right.congr e2,h.basis.congr w,h.outer,λi hi=>(h.inner i hi).congr λk A=>y i k hi A⟩
theorem XV.akT{I:XId}{S:XSt}{D:XDy}{H:PH}(h:XV I S D H){rs:P2_}(w:H I.qr=some (.rows 1 rs)){i:Nat}(hi:i<S.m)(v:Int):XV I S { D with R:=upf D.R i v } (H.set I.qr (.rows 1 (rs.set i [.j v]))):=
 have n:=h.ne
 ⟨n,by rw[aT,aB n.a];exact h.box,h.right.set w hi,h.basis.off (λe=>n.d e.symm),by
  obtain⟨ro,o1,o2⟩:=h.outer;exact⟨ro,by rw[aT,aB (λe=>n.e e.symm)];exact o1,o2⟩,λl u=>(h.inner l u).off (n.g l u).2.1⟩
theorem XV.eU{I:XId}{S:XSt}{D:XDy}{H:PH}(h:XV I S D H){rs:P2_}(w:H I.qb=some (.rows 1 rs)){i:Nat}(hi:i<S.m)(v:Int):XV I S { D with B:=upf D.B i v } (H.set I.qb (.rows 1 (rs.set i [.j v]))):=
 have n:=h.ne
 ⟨n,by rw[aT,aB n.b];exact h.box,h.right.off n.d,h.basis.set w hi,by
  obtain⟨ro,o1,o2⟩:=h.outer;exact⟨ro,by rw[aT,aB (λe=>n.f e.symm)];exact o1,o2⟩,λl u=>(h.inner l u).off (n.g l u).2.2.1⟩
theorem XV.akU{I:XId}{S:XSt}{D:XDy}{H:PH}(h:XV I S D H){r k:Nat}{rs:P2_}(w:H (I.q r)=some (.rows 1 rs))(hi:r<S.m)(u:k<S.m)(v:Int):XV I S { D with X:=λa b=>if a=r/\b=k then v else D.X a b } (H.set (I.q r) (.rows 1 (rs.set k [.j v]))):=
 have n:=h.ne;have g:=n.g r hi
 ⟨n,by rw[aT,aB (λe=>g.1 e.symm)];exact h.box,h.right.off (λe=>g.2.1 e.symm),h.basis.off (λe=>g.2.2.1 e.symm),by
  obtain⟨ro,o1,o2⟩:=h.outer;exact⟨ro,by rw[aT,aB (λe=>g.2.2.2 e.symm)];exact o1,o2⟩,λl i=>by
  by_cases c:l=r;subst c;refine((h.inner l i).set w u).congr λb _=>?_;unfold upf;simp;refine((h.inner l i).off λe=>c (n.h l r i hi e)).congr λb _=>?_;simp[c]⟩
theorem XV.abG{I:XId}{S:XSt}{D:XDy}{H:PH}(h:XV I S D H)(d:Int):XV I S { D with den:=d } (H.set I.o (.rows 7 [S.cells I d])):=
 have n:=h.ne
 ⟨n,cA ..,h.right.off (λe=>n.a e.symm),h.basis.off (λe=>n.b e.symm),by
  obtain⟨ro,o1,o2⟩:=h.outer;exact⟨ro,by rw[aT,aB (λe=>n.c e.symm)];exact o1,o2⟩,λl i=>(h.inner l i).off (n.g l i).1⟩
def vp(I:XId)(m o:Nat):Prop:=o=I.o\/o=I.qr\/o=I.qb\/∃i,i<m/\o=I.q i
def fQ(I:XId)(m:Nat)(H H':PH):Prop:=∀o x,H o=some x->¬vp I m o->H' o=some x
theorem fQ.refl{I:XId}{m:Nat}{H:PH}:fQ I m H H:=λ_ _ h _=>h
theorem fQ.trans{I:XId}{m:Nat}{H i H2:PH}(h:fQ I m H i)(k:fQ I m i H2):fQ I m H H2:=λo x a b=>k o x (h o x a b) b
theorem fQ.set{I:XId}{m o:Nat}{H H':PH}{x:aW}(h:fQ I m H H')(i:vp I m o):fQ I m H (H'.set o x):=λq y a b=>by
 rw[aT,aB (λe=>b (by rw[e];exact i))];exact h q y a b
theorem fQ.le{I:XId}{m:Nat}{H H' H2:PH}(h:fQ I m H H')(i:H'.le H2):fQ I m H H2:=λo x a b=>i _ _ (h o x a b)
theorem R8{I:XId}{S:XSt}{D:XDy}{F:PF}{H:PH}{name:Nat}{vs:V_}{args:List aP}{d:O_}{K:K_}(h:aG C name vs H (λ_ H'=>XV I S D H'/\fQ I S.m H H'))(l:aP.evs F args=some vs)(u:∀r H',XV I S D H'->fQ I S.m H H'->K (F.put d r) H'):iW C name args [] d K F H:=by
 refine fD h l b_ λr H' i _=>?_;exact u _ _ (i.1.le kL) (i.2.le kL)
def ge(D:XDy):XDy:=⟨-D.den,λi k=>- D.X i k,λi=>- D.R i,D.B⟩
structure XBd(m:Nat)(D:XDy):Prop where
 d:D.den.natAbs<=1000000000
 r:∀i,i<m->(D.R i).natAbs<=1000000000
 x:∀i k,i<m->k<m->(D.X i k).natAbs<=1000000000
theorem jd{v:Int}(h:v.natAbs<=1000000000):i_.wrap (0-v)=-v:=by rw[Int.zero_sub];exact wrap_i64 Om Om
theorem Se(I:XId)(S:XSt)(D:XDy)(hm:S.m<=1000)(U:XBd S.m D){H:PH}(hv:XV I S D H) :
  WR.wp C (aX mK.res (λ_ H'=>XV I S (ge D) H'/\fQ I S.m H H')) (g_ [xp I]) H:=by
 have hb:=hv.box;simp only[go_sem,WR,tr,tt,mK,hb,XSt.cells,jd U.d];have V:=hv.abG (-D.den);have k1:fQ I S.m H (H.set I.o (.rows 7 [S.cells I (-D.den)])):=fQ.refl.set (.inl rfl);refine wp_loop (α:=Nat × PH) (λt=>(((n_.set 0 (xp I)).set 16 (.j (S.m:Nat))).set 17 (.j t.1))) (λt=>t.2) (λt=>t.1<=S.m/\XV I S ⟨-D.den,λa b=>if a<t.1 then-D.X a b else D.X a b,λa=>if a<t.1 then-D.R a else D.R a,D.B⟩ t.2/\fQ I S.m H t.2) (λt=>S.m-t.1) (0,_) ⟨auK _,V.congr rfl (λ_ _=>by simp) (λ_ _=>rfl) (λ_ _ _ _=>by simp),k1⟩ Lq b_ ?_;rintro⟨i,G⟩ ⟨hi,A,Y⟩;simp only at hi A Y ⊢;simp only[go_sem,b8,tu];by_cases l:i<S.m;have u:(i:Int)<(S.m:Nat):=Om;obtain⟨rr,r1,r2⟩:=A.right;have r3:rr[i]?=some [.j (D.R i)]:=(r2 i l).trans (by simp only[Nat.lt_irrefl,if_false]);have Q:=A.box;have J:=A.akT r1 l (- D.R i);have kR:fQ I S.m H (G.set I.qr (.rows 1 (rr.set i [.j (- D.R i)]))):=Y.set (.inr (.inl rfl));simp only[go_sem,u,tv];refine bV .nil dY a_ ?_;simp only[go_sem,tw,Q,XSt.cells,r1,r3,u,jd (U.r i l),avQ];refine⟨a_,?_⟩;generalize G.set I.qr (.rows 1 (rr.set i [.j (- D.R i)]))=G1 at *
 have N:=J.box;obtain⟨ro,o1,o2⟩:=J.outer;have Z:=o2 i l;simp only[go_sem,tx,N,XSt.cells,o1,Z,u];refine wp_loop (α:=Nat × PH) (λt=>((((((n_.set 0 (xp I)).set 2 (.j i)).set 16 (.j (S.m:Nat))).set 17 (.j i)).set 41 (.j (S.m:Nat))).set 42 (.j t.1))) (λt=>t.2) (λt=>t.1<=S.m/\XV I S ⟨-D.den,λa b=>if a<i\/(a=i/\b<t.1)then-D.X a b else D.X a b,λa=>if a<i+1 then-D.R a else D.R a,D.B⟩ t.2/\fQ I S.m H t.2) (λt=>S.m-t.1) (0,G1) ⟨auK _,J.congr rfl (λa _=>?_) (λ_ _=>rfl) (λa b _ _=>by simp),kR⟩ Lq b_ ?_;simp only[upf];by_cases c:a=i;rw[aD c,aD Om,c];rw[aB c];by_cases F:a<i;rw[aD F,aD Om];rw[aB F,aB Om];rintro⟨k,G2⟩ ⟨hk,y,K⟩;simp only at hk y K ⊢;simp only[go_sem,bz,tz];by_cases E:k<S.m;have w:(k:Int)<(S.m:Nat):=Om;have O:=y.box;obtain⟨ro,o1,o2⟩:=y.outer;have Z:=o2 i l;obtain⟨ri,i1,i2⟩:=y.inner i l;have i3:ri[k]?=some [.j (D.X i k)]:=(i2 k E).trans (by simp only[Nat.lt_irrefl,and_false,or_false,if_false]);have W:=y.akU i1 l E (- D.X i k);have kX:fQ I S.m H (G2.set (I.q i) (.rows 1 (ri.set k [.j (- D.X i k)]))):=K.set (.inr (.inr (.inr ⟨i,l,rfl⟩)));simp only[go_sem,w,t6];refine bV .nil dY a_ ?_;simp only[go_sem,t7,O,XSt.cells,o1,Z,i1,i3,u,w,jd (U.x i k l E),avQ];refine⟨a_,?_⟩;simp only[go_sem,t8,wZz k];refine aF (k+1,_) ⟨E,W.congr rfl (λ_ _=>rfl) (λ_ _=>rfl) (λa b _ _=>?_),kX⟩ sO_ Lq b_;simp only;by_cases c:a=i/\b=k;rw[aD c,aD Om,c.1,c.2];rw[aB c];by_cases F:a<i\/(a=i/\b<k);rw[aD F,aD Om];rw[aB F,aB Om];have w:¬(k:Int)<(S.m:Nat):=Om;have:k=S.m:=Om;subst this;simp only[go_sem,w,b9,wZz i];refine aF (i+1,G2) ⟨l,y.congr rfl (λ_ _=>rfl) (λ_ _=>rfl) (λa b _ hb=>?_),K⟩ sO_ Lq b_;simp only;by_cases F:a<i+1;rw[aD F,aD Om];rw[aB F,aB Om];have u:¬(i:Int)<(S.m:Nat):=Om;have:i=S.m:=Om;subst this;simp only[go_sem,u];refine aY (.inl rfl) G (vs:=[]) rfl b_ ⟨A.congr rfl (λa M=>aD M) (λ_ _=>rfl) (λa b M _=>aD M),Y⟩
def pvX(D:XDy)(U:Nat->Int)(i r k:Nat):Int:=if r=i then D.X i k else(D.X r k*U i-U r*D.X i k).tdiv D.den
def pvR(D:XDy)(U:Nat->Int)(i r:Nat):Int:=if r=i then D.R i else(D.R r*U i-U r*D.R i).tdiv D.den
def ia(D:XDy)(U:Nat->Int)(i:Nat)(j:Int):XDy:=⟨U i,pvX D U i,pvR D U i,upf D.B i j⟩
def xh(D:XDy)(U:Nat->Int)(i:Nat)(j:Int):XDy:=if U i<0 then ge (ia D U i j)else ia D U i j
theorem LK{a b:Int}(i:a.natAbs<=1000000000)(hb:b.natAbs<=1000000000):(a*b).natAbs<=1000000000000000000:=by
 rw[axO];exact awY i hb
theorem Nf{a b:Int}:(a.tdiv b).natAbs<=a.natAbs:=by
 rw[Int.natAbs_tdiv];exact axT _ _
theorem Xb(I:XId)(S:XSt)(D:XDy)(hm:S.m<=1000)(hd:XBd S.m D)(W:D.den≠0)(V:Nat)(hq:¬vp I S.m V)(η:¬V=I.qo)(U:Nat->Int)(hU:∀i,i<S.m->(U i).natAbs<=1000000000)(i:Nat)(hi:i<S.m)(j:Int)(hB:XBd S.m (ia D U i j))
  (neg:∀(D:XDy)(H:PH),XBd S.m D->XV I S D H->aG C 359 [xp I] H (λ_ H'=>XV I S (ge D) H'/\fQ I S.m H H')) {H:PH} (hv:XV I S D H) (hu:jO H V S.m U) :
  cb.wp C (aX WT.res (λ_ H'=>XV I S (xh D U i j) H'/\fQ I S.m H H')) (g_ [xp I,.j (i:Nat),.j j,.osl V 1 0 S.m]) H:=by
 have hb:=hv.box;have J:(i:Int)<(S.m:Nat):=Om;obtain⟨ru,u1,u2⟩:=hu;have u3:=u2 i hi;simp only[go_sem,cb,WT,hb,XSt.cells,u1,u3,J];refine wp_loop (α:=Nat × PH) (λt=>(((((((n_.set 0 (xp I)).set 1 (.j i)).set 2 (.j j)).set 3 (.osl V 1 0 S.m)).set 8 (.j (U i))).set 19 (.j (S.m:Nat))).set 20 (.j t.1))) (λt=>t.2) (λt=>t.1<=S.m/\XV I S ⟨D.den,λa b=>if a<t.1 then pvX D U i a b else D.X a b,λa=>if a<t.1 then pvR D U i a else D.R a,D.B⟩ t.2/\fQ I S.m H t.2) (λt=>S.m-t.1) (0,H) ⟨auK _,hv.congr rfl (λ_ _=>by simp) (λ_ _=>rfl) (λ_ _ _ _=>by simp),fQ.refl⟩ Lq b_ ?_;rintro⟨r,G⟩ ⟨hr,E,kG⟩;simp only at hr E kG ⊢;simp only[go_sem];by_cases l:r<S.m;have w:(r:Int)<(S.m:Nat):=Om;simp only[go_sem,w];by_cases e:r=i;have e':((r:Int)==(i:Int))=true:=by simp[e]
 simp only[go_sem,e',wZz r];refine aF (r+1,G) ⟨l,E.congr rfl (λa _=>?_) (λ_ _=>rfl) (λa b _ _=>?_),kG⟩ sO_ Lq b_;simp only;by_cases c:a<r;rw[aD c,aD Om];rw[aB c];by_cases y:a<r+1;rw[aD y,show a=i by omega];unfold pvR;rw[aD rfl];rw[aB y];simp only;by_cases c:a<r;rw[aD c,aD Om];rw[aB c];by_cases y:a<r+1;rw[aD y,show a=i by omega];unfold pvX;rw[aD rfl];rw[aB y];have e':((r:Int)==(i:Int))=false:=by simp[e];omega
 have γ:=E.box;obtain⟨ro,o1,o2⟩:=E.outer;have o3:=o2 r l;simp only[go_sem,e',γ,XSt.cells,o1,o3,w];refine wp_loop (α:=Nat × PH) (λt=>((((((((((n_.set 0 (xp I)).set 1 (.j i)).set 2 (.j j)).set 3 (.osl V 1 0 S.m)).set 8 (.j (U i))).set 9 (.j r)).set 19 (.j (S.m:Nat))).set 20 (.j r)).set 33 (.j (S.m:Nat))).set 34 (.j t.1))) (λt=>t.2) (λt=>t.1<=S.m/\XV I S ⟨D.den,λa b=>if a<r\/(a=r/\b<t.1)then pvX D U i a b else D.X a b,λa=>if a<r then pvR D U i a else D.R a,D.B⟩ t.2/\fQ I S.m H t.2) (λt=>S.m-t.1) (0,G) ⟨auK _,E.congr rfl (λa _=>rfl) (λ_ _=>rfl) (λa b _ _=>by simp),kG⟩ Lq b_ ?_;rintro⟨k,Z⟩ ⟨hk,u,M⟩;simp only at hk u M ⊢;simp only[go_sem];have Y:=M _ _ u1 hq;have u4:=u2 r l;by_cases F:k<S.m;have A:(k:Int)<(S.m:Nat):=Om;have N:=u.box;obtain⟨ro,o1,o2⟩:=u.outer;have o3:=o2 r l;have o4:=o2 i hi;obtain⟨ri,i1,i2⟩:=u.inner r l;have i3:ri[k]?=some [.j (D.X r k)]:=(i2 k F).trans (by simp only[Nat.lt_irrefl,and_false,or_false,if_false]);obtain⟨rj,j1,j2⟩:=u.inner i hi;have j3:rj[k]?=some [.j (D.X i k)]:=(j2 k F).trans (by simp only;by_cases c:i<r\/i=r/\k<k;rw[aD c];unfold pvX;rw[aD rfl];rw[aB c])
 have ζ:=u.akU i1 l F (pvX D U i r k);have kX:fQ I S.m H (Z.set (I.q r) (.rows 1 (ri.set k [.j (pvX D U i r k)]))):=M.set (.inr (.inr (.inr ⟨r,l,rfl⟩)));have p1:=LK (hd.x r k l F) (hU i hi);have p2:=LK (hU r l) (hd.x i k hi F);have O:(D.X r k*U i-U r*D.X i k).tdiv D.den=pvX D U i r k:=by unfold pvX;rw[aB e]
 have p3:=Nf (a:=D.X r k*U i-U r*D.X i k) (b:=D.den);have w1:i_.wrap (D.X r k*U i)=D.X r k*U i:=wrap_i64 Om Om;have w2:i_.wrap (U r*D.X i k)=U r*D.X i k:=wrap_i64 Om Om;have w3:i_.wrap (D.X r k*U i-U r*D.X i k)=D.X r k*U i-U r*D.X i k:=wrap_i64 Om Om;have w4:i_.wrap ((D.X r k*U i-U r*D.X i k).tdiv D.den)=pvX D U i r k:=by rw[<-O];exact wrap_i64 Om Om
 simp only[go_sem,A];refine bV .nil dY a_ ?_;simp only[go_sem,N,XSt.cells,o1,o3,o4,i1,i3,j1,j3,Y,u3,u4,J,w,A,w1,w2,w3,w4,W,avQ];refine⟨a_,?_⟩;simp only[go_sem,wZz k];refine aF (k+1,_) ⟨F,ζ.congr rfl (λ_ _=>rfl) (λ_ _=>rfl) (λa b _ _=>?_),kX⟩ sO_ Lq b_;simp only;by_cases c:a=r/\b=k;rw[aD c,aD Om,c.1,c.2];rw[aB c];by_cases y:a<r\/(a=r/\b<k);rw[aD y,aD Om];rw[aB y,aB Om];have A:¬(k:Int)<(S.m:Nat):=Om;have:k=S.m:=Om;subst this;have N:=u.box;obtain⟨rr,r1,r2⟩:=u.right;have r3:rr[r]?=some [.j (D.R r)]:=(r2 r l).trans (by simp only[Nat.lt_irrefl,if_false]);have r4:rr[i]?=some [.j (D.R i)]:=(r2 i hi).trans (by simp only;by_cases c:i<r;rw[aD c];unfold pvR;rw[aD rfl];rw[aB c])
 have ε:=u.akT r1 l (pvR D U i r);have kR:fQ I S.m H (Z.set I.qr (.rows 1 (rr.set r [.j (pvR D U i r)]))):=M.set (.inr (.inl rfl));have p1:=LK (hd.r r l) (hU i hi);have p2:=LK (hU r l) (hd.r i hi);have O:(D.R r*U i-U r*D.R i).tdiv D.den=pvR D U i r:=by unfold pvR;rw[aB e]
 have p3:=Nf (a:=D.R r*U i-U r*D.R i) (b:=D.den);have w1:i_.wrap (D.R r*U i)=D.R r*U i:=wrap_i64 Om Om;have w2:i_.wrap (U r*D.R i)=U r*D.R i:=wrap_i64 Om Om;have w3:i_.wrap (D.R r*U i-U r*D.R i)=D.R r*U i-U r*D.R i:=wrap_i64 Om Om;have w4:i_.wrap ((D.R r*U i-U r*D.R i).tdiv D.den)=pvR D U i r:=by rw[<-O];exact wrap_i64 Om Om
 simp only[go_sem,A];refine bV .nil dY a_ ?_;simp only[go_sem,N,XSt.cells,r1,r3,r4,Y,u3,u4,J,w,w1,w2,w3,w4,W,avQ];refine⟨a_,?_⟩;simp only[go_sem,wZz r];refine aF (r+1,_) ⟨l,ε.congr rfl (λa _=>?_) (λ_ _=>rfl) (λa b _ hb=>?_),kR⟩ sO_ Lq b_;simp only[upf];by_cases c:a=r;rw[aD c,aD Om,c];rw[aB c];by_cases y:a<r;rw[aD y,aD Om];rw[aB y,aB Om];simp only;by_cases y:a<r+1;rw[aD y,aD Om];rw[aB y,aB Om];have w:¬(r:Int)<(S.m:Nat):=Om;have:r=S.m:=Om;subst this;have K:XV I S ⟨D.den,pvX D U i,pvR D U i,D.B⟩ G:=E.congr rfl (λa ha=>aD ha) (λ_ _=>rfl) (λa b ha _=>aD ha);have β:=K.box;obtain⟨rb,b1,b2⟩:=K.basis;have b3:=b2 i hi;have δ:=K.eU b1 hi j;have k1:fQ I S.m H (G.set I.qb (.rows 1 (rb.set i [.j j]))):=kG.set (.inr (.inr (.inl rfl)));have nb:=K.ne.b;simp only[go_sem,w,β,XSt.cells,b1,b3,J,avQ,nb];generalize G.set I.qb (.rows 1 (rb.set i [.j j]))=G1 at *
 have u:=δ.abG (U i);have k2:fQ I S.m H (G1.set I.o (.rows 7 [S.cells I (U i)])):=k1.set (.inl rfl);have Q:XV I S (ia D U i j) (G1.set I.o (.rows 7 [S.cells I (U i)])):=u;clear u;simp only[XSt.cells]at Q k2;generalize G1.set I.o (.rows 7 [[PV.sl 3 S.cols,PV.int .i64 (S.m:Nat),ints S.row,PV.osl I.qo 1 0 S.m,PV.int .i64 (U i),PV.osl I.qr 1 0 S.m,PV.osl I.qb 1 0 S.m]])=Z at *
 unfold xh;by_cases c:U i<0;rw[aD c];simp only[go_sem,c];refine R8 (neg _ _ hB Q) Sq λr H' h1 h2=>?_;simp only[go_sem];exact aY (.inl rfl) H' (vs:=[]) rfl b_ ⟨h1,k2.trans h2⟩;rw[aB c];simp only[go_sem,c];exact aY (.inl rfl) Z (vs:=[]) rfl b_ ⟨Q,k2⟩
def kZ(R U ord:Nat->Int):Nat->Int
 |0=>-1
 |n+1=>if U n<=0 then kZ R U ord n else if kZ R U ord n<0 then n
  else if R n*U (kZ R U ord n).toNat<R (kZ R U ord n).toNat*U n\/(R n*U (kZ R U ord n).toNat=R (kZ R U ord n).toNat*U n/\ord n<ord (kZ R U ord n).toNat)then n else kZ R U ord n
theorem zy(R U ord:Nat->Int)(n:Nat):kZ R U ord (n+1)=if U n<=0 then kZ R U ord n else if kZ R U ord n<0 then(n:Int)else if R n*U (kZ R U ord n).toNat<R (kZ R U ord n).toNat*U n\/(R n*U (kZ R U ord n).toNat=R (kZ R U ord n).toNat*U n/\ord n<ord (kZ R U ord n).toNat)then(n:Int)else kZ R U ord n:=rfl
theorem Um(R U ord:Nat->Int):∀n,-1<=kZ R U ord n/\kZ R U ord n<n
 |0=>by unfold kZ;omega
 |n+1=>by
  have h:=Um R U ord n;unfold kZ
  repeat' split
  all_goals omega
theorem W9(I:XId)(S:XSt)(D:XDy)(hm:S.m<=1000)(Z:XBd S.m D)(N:Nat)(U:Nat->Int)(Y:∀i,i<S.m->(U i).natAbs<=1000000000)(ord:Nat->Int)
  (A:∀(H:PH),XV I S D H->∀i,i<S.m->aG C 360 [xp I,.j (i:Nat)] H (λr H'=>r=.j (ord i)/\H'=H)) {H:PH} (M:XV I S D H) (hu:jO H N S.m U) :
  bw.wp C (aX WQ.res (λr H'=>r=.j (kZ D.R U ord S.m)/\H'=H)) (g_ [xp I,.osl N 1 0 S.m]) H:=by
 have hb:=M.box;obtain⟨ru,u1,u2⟩:=hu;simp only[go_sem,bw,WQ];refine wp_loop (α:=Nat) (λn=>((((((n_.set 0 (xp I)).set 1 (.osl N 1 0 S.m)).set 5 (.j (kZ D.R U ord n))).set 10 (.osl N 1 0 S.m)).set 11 (.j (S.m:Nat))).set 12 (.j n))) (λ_=>H) (λn=>n<=S.m) (λn=>S.m-n) 0 (auK _) (by(repeat' (first|exact e_|refine d_ ?_ ?_))<;>first|(simp only[go_sem,kZ]<;>rfl)|rfl) b_ ?_;intro n hn;simp only[go_sem];by_cases u:n<S.m;have w:(n:Int)<(S.m:Nat):=Om;have u3:=u2 n u;have V:=Y n u;have W:=Um D.R U ord n;have l:=zy D.R U ord n;simp only[go_sem,w,u1,u3];by_cases J:U n<=0;rw[aD J]at l;simp only[go_sem,J,wZz n];exact aF (n+1) u Om (lE1 l) b_;rw[aB J]at l;simp only[go_sem,J];by_cases F:kZ D.R U ord n<0;rw[aD F]at l;simp only[go_sem,F,wZz n];exact aF (n+1) u Om (lE1 l) b_;rw[aB F]at l;obtain⟨a,ha⟩:∃a:Nat,kZ D.R U ord n=a:=⟨(kZ D.R U ord n).toNat,by omega⟩;rw[ha]at l F W ⊢;have y:a<S.m:=Om;have E:(a:Int)<(S.m:Nat):=Om;rw[awG]at l;obtain⟨rr,r1,r2⟩:=M.right;have r3:=r2 n u;have r4:=r2 a y;have u4:=u2 a y;have p1:=LK (Z.r n u) (Y a y);have p2:=LK (Z.r a y) V;have w1:i_.wrap (D.R n*U a)=D.R n*U a:=wrap_i64 Om Om;have w2:i_.wrap (D.R a*U n)=D.R a*U n:=wrap_i64 Om Om;simp only[go_sem,F];refine bV .nil dY a_ ?_;simp only[go_sem,hb,XSt.cells,r1,r3,r4,u1,u3,u4,E,w,w1,w2]
 try simp only[go_sem]
 by_cases K:D.R n*U a<D.R a*U n;rw[aD (.inl K)]at l;simp only[go_sem,K,wZz n];exact aF (n+1) u Om (lE1 l) b_;by_cases O:D.R n*U a=D.R a*U n;simp only[go_sem,K,O,beq_self_eq_true,Int.lt_irrefl];refine AZ (A _ M n u) Sq ?_;simp only[go_sem];refine AZ (A _ M a y) Sq ?_;by_cases Q:ord n<ord a;rw[aD (.inr ⟨O,Q⟩)]at l;simp only[go_sem,Q,wZz n];exact aF (n+1) u Om (lE1 l) b_;rw[aB (by rintro(h|⟨-,h⟩)<;>contradiction)]at l;simp only[go_sem,Q,wZz n];exact aF (n+1) u Om (lE1 l) b_;rw[aB (by rintro(h|⟨h,-⟩)<;>contradiction)]at l;simp only[go_sem,K,show((D.R n*U a==D.R a*U n):Bool)=false from by simp[O],wZz n];exact aF (n+1) u Om (lE1 l) b_;have w:¬(n:Int)<(S.m:Nat):=Om;have:n=S.m:=Om;subst this;simp only[go_sem,w];exact tN (.inr rfl) Sq b_
def ixX(N:Nat)(B:Int):Nat:=if B<0 then N+(-1-B).toNat else B.toNat
namespace Lin
structure Rl(P:Lin)(N:Nat)(b:Nat->Nat)(D:XDy):Prop where
 jA:P.Good b
 den:D.den=P.den b
 inv:∀i k,i<P.m->k<P.m->D.X i k=P.inv b i k
 right:∀i,i<P.m->D.R i=P.right b i
 bas:∀i,i<P.m->b i=ixX N (D.B i)
 rng:∀i,i<P.m->-(P.m:Int)<=D.B i/\D.B i<N
variable {P:Lin} {N:Nat} {b:Nat->Nat} {D:XDy}
theorem Rl.step(h:P.Rl N b D){i j:Nat}(hi:i<P.m)(M:j<N){U:Nat->Int}(H:∀r,r<P.m->U r=P.tab b r (P.col j))(K:U i≠0):P.Rl N (eU b i j) (xh D U i j):=by
 have E:=H i hi;have hp:=h.jA.pos;have A:∀(r:Nat)(v:Nat->Int),r<P.m->r≠i->(P.tab b r v*U i-U r*P.tab b i v).tdiv D.den=if U i<0 then-P.tab (eU b i j) r v else P.tab (eU b i j) r v:=by intro r v l w;rw[h.den,H r l,E];by_cases c:P.tab b i (P.col j)<0;rw[aD c];have e:=h.jA.VN hi l w v c;rw[show P.tab b r v*P.tab b i (P.col j)-P.tab b r (P.col j)*P.tab b i v=P.den b*(- P.tab (eU b i j) r v) by rw[Int.mul_neg,e,Int.neg_neg]];exact Int.mul_tdiv_cancel_left _ Om;rw[aB c,<-h.jA.GP hi l w v Om];exact Int.mul_tdiv_cancel_left _ Om
 have hB:∀r,r<P.m->eU b i j r=ixX N (upf D.B i j r):=λr l=>by unfold eU upf;by_cases c:r=i;rw[aD c,aD c];unfold ixX;rw[aB Om];omega;rw[aB c,aB c];exact h.bas r l
 have F:∀r,r<P.m->-(P.m:Int)<=upf D.B i j r/\upf D.B i j r<N:=λr l=>by unfold upf;by_cases c:r=i;rw[aD c];omega;rw[aB c];exact h.rng r l
 have J:P.Good (eU b i j):=h.jA.set hi Om;have y:=L6 (P:=P) b i j;unfold xh;by_cases c:U i<0;rw[aD c];rw[aD Om]at y;refine⟨J,by rw[y,<-E];rfl,λr k l u=>?_,λr l=>?_,hB,F⟩;change-pvX D U i r k=P.tab (eU b i j) r (idM k);unfold pvX;by_cases e:r=i;subst e;rw[aD rfl,iz _ Om,h.inv r k l u];rfl;have:=A r (idM k) l e;rw[aD c]at this;rw[aB e,h.inv r k l u,h.inv i k hi u];unfold Lin.inv;rw[this,Int.neg_neg];change-pvR D U i r=P.tab (eU b i j) r P.rhs;unfold pvR;by_cases e:r=i;subst e;rw[aD rfl,iz _ Om,h.right r l];rfl;have:=A r P.rhs l e;rw[aD c]at this;rw[aB e,h.right r l,h.right i hi];unfold Lin.right;rw[this,Int.neg_neg];rw[aB c];rw[aB Om]at y;refine⟨J,by rw[y,<-E];rfl,λr k l u=>?_,λr l=>?_,hB,F⟩;change pvX D U i r k=P.tab (eU b i j) r (idM k);unfold pvX;by_cases e:r=i;subst e;rw[aD rfl,YF _ Om,h.inv r k l u];rfl;have:=A r (idM k) l e;rw[aB c]at this;rw[aB e,h.inv r k l u,h.inv i k hi u];unfold Lin.inv;rw[this];change pvR D U i r=P.tab (eU b i j) r P.rhs;unfold pvR;by_cases e:r=i;subst e;rw[aD rfl,YF _ Om,h.right r l];rfl;have:=A r P.rhs l e;rw[aB c]at this;rw[aB e,h.right r l,h.right i hi];unfold Lin.right;rw[this]
theorem Rl.ord(h:P.Rl N b D){i l:Nat}(hi:i<P.m)(u:l<P.m):JJ N (D.B i)<JJ N (D.B l)↔b i<b l:=by
 have w:=h.rng i hi;have y:=h.rng l u;rw[h.bas i hi,h.bas l u];unfold JJ ixX
 (repeat' split)<;>omega
theorem Rl.leave(h:P.Rl N b D){j:Nat}{U:Nat->Int}(w:∀r,r<P.m->U r=P.tab b r (P.col j)):∀n,n<=P.m->(kZ D.R U (λi=>JJ N (D.B i)) n=-1/\∀k,k<n->¬0<P.tab b k (P.col j))\/∃i:Nat,kZ D.R U (λi=>JJ N (D.B i)) n=i/\P.LvN b j n i
 |0,_=>.inl ⟨rfl,λk H=>absurd H (axA k)⟩
 |n+1,F=>by
  have A:=w n F;rw[zy];rcases h.leave w n Om with⟨e,u⟩|⟨i,e,u⟩
  rw[e];by_cases c:U n<=0;rw[aD c];refine .inl ⟨rfl,λk H=>?_⟩;by_cases d:k<n;exact u k d;obtain rfl:k=n:=Om;omega;rw[aB c,aD aU];refine .inr ⟨n,rfl,by omega,by omega,λl K E=>?_⟩;by_cases d:l<n;exact absurd E (u l d);obtain rfl:l=n:=Om;exact .self l;rw[e];have J:=u.lt;have y:=w i Om;have o1:=h.ord (i:=n) (l:=i) F Om;have r1:=h.right n F;have r2:=h.right i Om;by_cases c:U n<=0;rw[aD c];exact .inr ⟨i,rfl,u.keep λhp=>by omega⟩;rw[aB c,aB Om,awG,r1,r2,A,y];by_cases d:P.right b n*P.tab b i (P.col j)<P.right b i*P.tab b n (P.col j)\/(P.right b n*P.tab b i (P.col j)=P.right b i*P.tab b n (P.col j)/\JJ N (D.B n)<JJ N (D.B i));rw[aD d];refine .inr ⟨n,rfl,u.VQ Om ?_⟩;unfold Bt;omega;rw[aB d];refine .inr ⟨i,rfl,u.keep λ_=>?_⟩;unfold Bt;omega
structure xR(P:Lin):Prop where
 m:P.m<=9
 col:∀j r,r<P.m->(P.col j r).natAbs<=1
 rhs:∀r,r<P.m->(P.rhs r).natAbs<=200
 cost:∀j,0<=P.cost j/\P.cost j<=10000
theorem Tt:∀m,m<=9->c8 m<=362880:=by
 intro m i;have:∀m,m<10->c8 m<=362880:=by decide
 exact this m Om
theorem xR.tab(t:P.xR)(b:Nat->Nat)(i:Nat)(v:Nat->Int)(u:∀r,r<P.m->(v r).natAbs<=1):(P.tab b i v).natAbs<=362880:=by
 unfold Lin.tab;have w:(dL P.m (cW (P.mat b) i v)).natAbs<=c8 P.m:=vw λj r A l=>by unfold cW;split;exact u r l;exact t.col _ r l
 have y:=Tt P.m t.m;rcases VD (P:=P) b with e|e<;>rw[e]<;>omega
theorem xR.inv(t:P.xR)(b:Nat->Nat)(i k:Nat):(P.inv b i k).natAbs<=362880:=t.tab b i _ λr _=>by
 unfold idM;split<;>decide
theorem xR.den(t:P.xR)(b:Nat->Nat):(P.den b).natAbs<=362880:=by
 unfold Lin.den det;have l:(dL P.m (P.mat b)).natAbs<=c8 P.m:=vw λj r w i=>t.col _ r i;have u:=Tt P.m t.m;rcases VD (P:=P) b with e|e<;>rw[e]<;>omega
theorem xR.right(t:P.xR)(b:Nat->Nat){i:Nat}(hi:i<P.m):(P.right b i).natAbs<=1000000000:=by
 unfold Lin.right;rw[YE hi];have h:=wP (f:=λk=>P.inv b i k*P.rhs k) (B:=362880*200) (n:=P.m) λk l=>by rw[axO];exact awY (t.inv b i k) (t.rhs k l)
 have u:P.m*(362880*200)<=9*(362880*200):=avL _ t.m;omega
theorem xR.eF(t:P.xR)(b:Nat->Nat)(k:Nat):(P.eF b k).natAbs<=100000000000:=by
 unfold Lin.eF;have h:=wP (f:=λi=>P.cost (b i)*P.inv b i k) (B:=10000*362880) (n:=P.m) λi hi=>by rw[axO];refine awY ?_ (t.inv b i k);have:=t.cost (b i);omega
 have l:P.m*(10000*362880)<=9*(10000*362880):=avL _ t.m;omega
theorem Rl.bd(h:P.Rl N b D)(t:P.xR):XBd P.m D:=
 ⟨by rw[h.den];have:=t.den b;omega,λi hi=>by rw[h.right i hi];exact t.right b hi,λi k hi l=>by rw[h.inv i k hi l];have:=t.inv b i k;omega⟩
end Lin
end Go.PM
namespace Go.PM
open Go Go.Na
theorem sM.read{H H':PH}{l:I_}{r:PV}(h:sM H l r H'):H.le H'/\r.mB=some (.j (l'' l:Nat))/\∀k,k<l'' l->∃q,r=.osl q 1 0 l.length/\H q=none/\H' q=some (.rows 1 (aR l)):=by
 rcases h with⟨rfl,rfl,rfl⟩|⟨q,h0,rfl,rfl⟩
 exact⟨b_,rfl,λk i=>absurd i (axA _)⟩;exact⟨PH.vG b_ h0,rfl,λk i=>⟨q,rfl,h0,cA ..⟩⟩
theorem jO.fl{H:PH}{q m:Nat}{g:Nat->Int}(h:H q=some (.rows 1 (aR (fl m g)))):jO H q m g:=⟨_,h,λ_ hi=>CW g hi⟩
theorem XV.fresh{I:XId}{S:XSt}{D:XDy}{H:PH}(h:XV I S D H){q:Nat}(l:H q=none):¬vp I S.m q/\¬q=I.qo:=by
 refine⟨?_,?_⟩;rintro(rfl|rfl|rfl|⟨i,hi,rfl⟩);rw[h.box]at l;cases l;obtain⟨rs,u,-⟩:=h.right;rw[u]at l;cases l;obtain⟨rs,u,-⟩:=h.basis;rw[u]at l;cases l;obtain⟨rs,u,-⟩:=h.inner i hi;rw[u]at l;cases l;rintro rfl;obtain⟨rs,u,-⟩:=h.outer;rw[u]at l;cases l
structure acX(S:XSt)(E:Nat->I_)(co:Nat->Int):Prop where
 at':∀j,j<l'' S.cols->∃x y,S.cols[j]?=some [x,y,.int .i64 (co j)]/\PV.one x=true/\PV.one y=true
 len:∀j,j<l'' S.cols->(E j).length<=20
 ent:∀j,j<l'' S.cols->∀e∈E j,0<=e/\e<(S.m:Nat)
 cost:∀j,j<l'' S.cols->0<=co j/\co j<=10000
 num:l'' S.cols<=1000000
def PX(S:XSt)(E:Nat->I_)(rhs co:Nat->Int)(first:Bool):Lin:=
 ⟨S.m,λj k=>if j<S.cols.length then(((E j).count (k:Int):Nat):Int)else idM (j-l'' S.cols) k,rhs,λj=>if j<S.cols.length then(if first then 0 else co j)else if first then 1 else 0⟩
def qT(f:Nat->Int)(E:I_):Int:=E.foldl (λs e=>s+f e.toNat) 0
theorem Wg(f:Nat->Int)(E:I_)(e:Int):qT f (E++[e])=qT f E+f e.toNat:=by unfold qT;rw[List.foldl_append];rfl
theorem TP(f:Nat->Int):∀(E:I_)(s:Int),E.foldl (λs e=>s+f e.toNat) s=s+E.foldl (λs e=>s+f e.toNat) 0
 |[],s=>by simp
 |e::t,s=>by rw[List.foldl_cons,List.foldl_cons,TP f t (s+f e.toNat),TP f t (0+f e.toNat)];omega
theorem BT(f:Nat->Int)(E:I_)(e:Int):qT f (e::E)=f e.toNat+qT f E:=by
 unfold qT;rw[List.foldl_cons,TP];omega
theorem Jn{f:Nat->Int}{B:Nat}:∀(E:I_),(∀e∈E,(f e.toNat).natAbs<=B)->(qT f E).natAbs<=l'' E*B
 |[],_=>by simp[qT]
 |e::t,h=>by rw[BT,avG,axB];have l:=Jn t λx i=>h x (ayV _ i);have u:=h e List.mem_cons_self;omega
theorem zB(f:Nat->Int)(m:Nat):∀(E:I_),(∀e∈E,0<=e/\e<(m:Nat))->bB (λk=>f k*((E.count (k:Int):Nat):Int)) m=qT f E
 |[],_=>gV λk _=>by simp
 |e::t,h=>by
  obtain⟨y,A⟩:=h e List.mem_cons_self;have l:=jW (f:=λk=>if k=e.toNat then f k else 0) (i:=e.toNat) (n:=m) Om λk _ u=>aB u;simp only[if_true]at l;rw[BT,<-zB f m t λx w=>h x (ayV _ w),<-l,<-lP];refine bM λk _=>?_;rw[List.count_cons];by_cases c:e=(k:Int);rw[aD (by simp[c]),aD Om]
  grind
  rw[aB (by simp[c]),aB Om]
  grind
def xP(H:PH)(s:Nat)(q:Nat)(v:PV)(rows:P2_):Prop:=
 ∃rs off,v=.osl q s off rows.length/\H q=some (.rows s rs)/\off+l'' rows<=l'' rs/\(rs.drop off).take rows.length=rows
section
variable {H:PH} {s b q:Nat} {v y:PV} {rows src:P2_}
theorem xP.view(h:xP H s q v rows):dP H s v=some rows:=by
 obtain⟨rs,off,rfl,i,l,u⟩:=h;simp only[dP,if_true,i,true_and,aD l,u]
theorem xP.ext{H':PH}(h:xP H s q v rows)(A:∀x,H q=some x->H' q=some x):xP H' s q v rows:=by
 obtain⟨rs,off,i,l,u,w⟩:=h;exact⟨rs,off,i,A _ l,u,w⟩
theorem xP.tail{r:V_}(h:xP H s q v (r::rows)):∃v',PV.slice s v 1 ((l'' rows+1:Nat):Int) none=some v'/\xP H s q v' rows:=by
 obtain⟨rs,off,rfl,l,u,i⟩:=h;rw[avG]at u i;refine⟨.osl q s (off+1) rows.length,?_,rs,off+1,rfl,l,by omega,?_⟩;unfold PV.slice;show(if s=s/\(0:Int)<=1/\(1:Int)<=((l'' rows+1:Nat):Int)/\((l'' rows+1:Nat):Int)<=((r::rows).length:Nat)/\((none:Option Int)=none\/(none:Option Int)=some ((l'' rows+1:Nat):Int))then some (PV.osl q s (off+(1:Int).toNat) (((l'' rows+1:Nat):Int).toNat-(1:Int).toNat))else none)=_;rw[aD ⟨rfl,by omega,by omega,by rw[avG];omega,.inl rfl⟩];rfl;have:=congrArg (List.drop 1) i;rw[List.drop_take,List.drop_drop,Nat.add_sub_cancel]at this;exact this
theorem xP.append{K:R_}(h:xP H s q v rows)(S:dP H s y=some src)(Q:roomFor rows.length src.length b)
  (O:∀M v' H',xP H' s M v' (rows++src)->(M=q\/H M=none)->(∀o x,o≠q->H o=some x->H' o=some x)->(∀o,o≠M->H o=none->H' o=none)->K v' H'):mJ H s b v y K:=by
 obtain⟨rs,off,rfl,N,J,E⟩:=h;have w:(rows++src).length=l'' rows+l'' src:=auJ;have F:∀off,off+l'' rows<=l'' rs->(rs.drop off).take rows.length=rows->K (.osl q s off (l'' rows+l'' src)) (H.set q (.rows s (rs.take (off+l'' rows)++src))):=λoff J E=>by
  refine O q _ _ ⟨rs.take (off+l'' rows)++src,off,by rw[w],by simp only[aT,if_true],by rw[auJ,auJ,auU];omega,?_⟩ (.inl rfl) (λo x i u=>by simp only[aT,aB i,u]) λo i u=>by simp only[aT,aB i,u]
  have e:(rs.take (off+l'' rows)).drop off=rows:=by rw[List.drop_take,Nat.add_sub_cancel_left,E]
  rw[List.drop_append_of_le_length (by rw[auU];omega),e];exact avI
 have A:∀o,H o=none->K (.osl o s 0 (l'' rows+l'' src)) (H.set o (.rows s (rows++src))):=λo u=>by
  refine O o _ _ ⟨rows++src,0,by rw[w],by simp only[aT,if_true],by omega,by rw[avR,avI]⟩ (.inr u) (λo' x i l=>?_) λo' i l=>by simp only[aT,aB i,l]
  have:o'≠o:=by rintro rfl;rw[u]at l;cases l
  simp only[aT,aB this,l]
 cases off with
 |zero=>
  refine⟨src,S,rfl,rfl,Q,rs,N,by omega,?_,λo u=>?_⟩;have:=F 0 J E
  rwa[avA]at this
  rw[avR]at E;rw[E];exact A o u
 |succ off =>refine⟨src,S,rfl,Q,rs,N,J,F _ J E,λo u=>?_⟩;rw[E];exact A o u
end
variable{C:Ctx}
theorem wp_cut{a c:aK}{K:cH}[Up K]{F:PF}{H:PH}{α:Type}(w:α->PF)(Hs:α->PH)(P:α->Prop)(y:a.wp C (λe u H'=>e=.normal/\∃x,P x/\(w x).le u/\Hs x=H') F H)
  (A:∀x,P x->c.wp C K (w x) (Hs x)):a.wp C (jB C (c.wp C) K) F H:=by
 refine sT a (λe M N H' l J=>?_) (λi v h=>h) y;obtain⟨rfl,x,hp,E,rfl⟩:=J;exact sT c (λe F u H a h=>Up.up a h) (PF.le_trans E l) (A x hp)
structure Xq(C:Ctx)(I:XId)(S:XSt)(E:Nat->I_)(P:Bool->Lin):Prop where
 ent:∀(H:PH)(den:Int),H I.o=some (.rows 7 [S.cells I den])->∀j c,S.cols[j]?=some c->aG C 352 [xp I,.agg c] H (sM H (E j))
 times:∀b D first (H:PH),(P first).Rl S.cols.length b D->XV I S D H->∀j c,S.cols[j]?=some c->aG C 353 [xp I,.agg c] H (sM H (fl S.m λi=>(P first).tab b i ((P first).col j)))
 duals:∀b D first (H:PH),(P first).Rl S.cols.length b D->XV I S D H->aG C 346 [xp I,.bool first] H (sM H (fl S.m ((P first).eF b)))
 leave:∀b D first (H:PH) j qu i,(P first).Rl S.cols.length b D->XV I S D H->jO H qu S.m (λi=>(P first).tab b i ((P first).col j))->(P first).Lv b j i->aG C 355 [xp I,.osl qu 1 0 S.m] H (λr H'=>r=.int .i64 (i:Nat)/\H'=H)
 pivot:∀b D first (H:PH) j qu i,(P first).Rl S.cols.length b D->XV I S D H->jO H qu S.m (λi=>(P first).tab b i ((P first).col j))->¬vp I S.m qu->¬qu=I.qo->i<S.m->j<l'' S.cols->(P first).tab b i ((P first).col j)≠0 ->
  aG C 354 [xp I,.int .i64 (i:Nat),.int .i64 (j:Nat),.osl qu 1 0 S.m] H (λ_ H'=>∃D',(P first).Rl S.cols.length (eU b i j) D'/\XV I S D' H'/\fQ I S.m H H')
theorem bu(I:XId)(S:XSt)(E:Nat->I_)(rhs co:Nat->Int)(L:Xq C I S E (PX S E rhs co))(first:Bool)(hc:acX S E co)(ht:(PX S E rhs co first).xR)
  (b:Nat->Nat) (D:XDy) (h:(PX S E rhs co first).Rl S.cols.length b D) (hf:(PX S E rhs co first).oN b) (J:(Nat->Nat)->Prop) (hJ:J b) (p':∀b i j,(PX S E rhs co first).Good b->(PX S E rhs co first).oN b->J b->j<l'' S.cols->(PX S E rhs co first).Lv b j i->J (eU b i j)) {H:PH} (hv:XV I S D H) :
  SB.wp C (aX iD.res (λ_ H'=>∃b' D',(PX S E rhs co first).Rl S.cols.length b' D'/\(PX S E rhs co first).oN b'/\J b'/\(∀j,¬(PX S E rhs co first).Ent S.cols.length b' j)/\XV I S D' H'/\fQ I S.m H H')) (g_ [xp I,.bool first]) H:=by
 have t':S.m<=9:=ht.m;have hK:∀i,i<S.m->b i<l'' S.cols+S.m:=λi hi=>by have h1:=h.rng i hi;have h2:=h.bas i hi;rw[show(PX S E rhs co first).m=S.m from rfl]at h1;rw[h2];unfold ixX;split<;>omega
 obtain⟨n0,υ⟩:=Lin.aeP (P:=PX S E rhs co first) (N:=l'' S.cols) (K:=l'' S.cols+S.m) (λj=>(ht.cost j).1) Om h.jA hf hK;have q':=hc.num;have a':∀j,0<=(PX S E rhs co first).cost j:=λj=>(ht.cost j).1;have M:=λb k=>ht.eF b k;have σ:=λb=>ht.den b;have β:∀j,j<l'' S.cols->(PX S E rhs co first).cost j=if first then 0 else co j:=λj hj=>aD hj
 have ρ:∀j k,j<l'' S.cols->(PX S E rhs co first).col j k=(((E j).count (k:Int):Nat):Int):=λj k hj=>aD hj;have μ:(PX S E rhs co first).m=S.m:=rfl;generalize PX S E rhs co=w at *
 simp only[go_sem,SB,iD];refine wp_loop (α:=Nat × PH) (λt=>((n_.set 0 (xp I)).set 1 (.bool first))) (λt=>t.2) (λt=>(∃b D,(w first).Rl S.cols.length b D/\(w first).oN b/\J b/\(w first).Ends S.cols.length t.1 b/\XV I S D t.2)/\fQ I S.m H t.2) (λt=>t.1) (n0,H) ⟨⟨b,D,h,hf,hJ,υ,hv⟩,fQ.refl⟩ Lq b_ ?_;clear h hf hJ υ hv hK b D n0;rintro⟨n,G⟩ ⟨⟨b,D,h,hf,hJ,hn,hv⟩,kG⟩;simp only at hn hv kG ⊢;simp only[go_sem];refine sH (L.duals b D first G h hv) Sq λy G1 hy=>?_;obtain⟨ζ,-,Θ⟩:=hy.read;rw[yD]at Θ;have δ:=hv.le ζ;have Ω:=δ.box;simp only[go_sem,Ω,XSt.cells];refine wp_loop (α:=Nat) (λj=>((((((n_.set 0 (xp I)).set 1 (.bool first)).set 4 (y)).set 17 (.sl 3 S.cols)).set 18 (.j (l'' S.cols:Nat))).set 19 (.j j))) (λ_=>G1) (λj=>j<=l'' S.cols/\∀l,l<j->0<=(w first).rc b l) (λj=>l'' S.cols-j) 0 ⟨auK _,λl hl=>absurd hl (axA l)⟩ Lq b_ ?_;rintro j ⟨hj,hl⟩;simp only[go_sem];by_cases A:j<l'' S.cols;have Q:(j:Int)<(l'' S.cols:Nat):=Om;obtain⟨x,y',Y,ox,oy⟩:=hc.at' j A;simp only[go_sem,Q,Y];refine aS λo ho=>?_;have Ξ:∀x,G1.le (G1.set o x):=λx=>PH.vG b_ ho;have one:[x,y',PV.int .i64 (co j)].all PV.one=true:=by rw[axP,ox,axP,oy];rfl
 simp only[go_sem,one];have Γ:=δ.le (Ξ (.rows 3 [[x,y',.j (co j)]]));have η:=Ξ (.rows 3 [[x,y',.j (co j)]]);have γ:(G1.set o (.rows 3 [[x,y',.j (co j)]])) o=some (.rows 3 [[x,y',.j (co j)]]):=cA ..;generalize G1.set o (.rows 3 [[x,y',.j (co j)]])=G3 at *
 have ο:=Γ.box;obtain⟨c0,c1⟩:=hc.cost j A;have Z:=β j A;have c':(D.den).natAbs<=362880:=by rw[h.den];exact σ b
 have p1:(co j*D.den).natAbs<=10000*362880:=by rw[axO];exact awY Om c'
 have w1:i_.wrap (co j*D.den)=co j*D.den:=wrap_i64 Om Om;refine wp_cut (a:=.seq (.region BA) (.cond (.tmp 25) (.draw KE) .skip)) (c:=.seq (.seq (.region KF) (.block 4 (.loop GU))) (.seq (.region GW) (.cond (.tmp 49) (.seq (.region GX) (.seq (.region GY) (.exit 1))) .skip))) (α:=Unit) (λ_=>(((((((((n_.set 0 (xp I)).set 1 (.bool first)).set 4 (y)).set 5 (.j j)).set 6 (.ptr o 3 0 0)).set 7 (.j ((w first).cost j*D.den))).set 17 (.sl 3 S.cols)).set 18 (.j (l'' S.cols:Nat))).set 19 (.j j))) (λ_=>G3) (λ_=>True) ?_ ?_
 ·cases first with
  |true=>
   rw[Z];simp only[go_sem,BA];refine⟨(),?_⟩
   (repeat' (first|exact e_|refine d_ ?_ ?_))<;>first|(simp only[go_sem,awV]<;>rfl)|rfl
  |false=>
   rw[Z];simp only[go_sem,BA];refine bV .nil dY a_ ?_;simp only[go_sem,KE,γ,ο,XSt.cells,w1];refine⟨(),?_⟩
   (repeat' (first|exact e_|refine d_ ?_ ?_))<;>first|(simp only[go_sem,awV]<;>rfl)|rfl
 intro _ _;simp only[go_sem,KF,γ];refine sH (L.ent G3 D.den ο j _ Y) Sq λr G4 hr=>?_;obtain⟨W,k',l'⟩:=hr.read;have ε:=Γ.le W;have r':=hc.len j A;have κ:=hc.ent j A;have o':∀k,k<=(E j).length->(qT ((w first).eF b) ((E j).take k)).natAbs<=20*100000000000:=λk hk=>by have h1:=Jn (f:=(w first).eF b) (B:=100000000000) ((E j).take k) λe _=>M b _;have h2:((E j).take k).length*100000000000<=20*100000000000:=avL _ (by rw[auU];omega);exact avJ h1 h2
 have p2:((w first).cost j*D.den).natAbs<=10000*362880:=by
  rw[Z];cases first with
  |true=>simp
  |false=>exact p1
 simp only[go_sem,k'];refine wp_loop (α:=Nat) (λk=>((((((((((((n_.set 0 (xp I)).set 1 (.bool first)).set 4 (y)).set 5 (.j j)).set 6 (.ptr o 3 0 0)).set 17 (.sl 3 S.cols)).set 18 (.j (l'' S.cols:Nat))).set 19 (.j j)).set 7 (.j ((w first).cost j*D.den-qT ((w first).eF b) ((E j).take k)))).set 35 (r)).set 36 (.j ((E j).length:Nat))).set 37 (.j k))) (λ_=>G4) (λk=>k<=(E j).length) (λk=>(E j).length-k) 0 (auK _) (by(repeat' (first|exact e_|refine d_ ?_ ?_))<;>first|(simp only[go_sem,List.take_zero,show qT ((w first).eF b) []=0 from rfl,Int.sub_zero]<;>rfl)|rfl) b_ ?_;intro k hk;simp only[go_sem,GU];by_cases U:k<(E j).length;have V:(k:Int)<((E j).length:Nat):=Om;have ν:(aR (E j))[k]?=some [.j (E j)[k]]:=by unfold aR;simp[U]
 obtain⟨q,rfl,-,hq⟩:=l' k U;obtain⟨e0,e1⟩:=κ _ (auH U);have ψ:qT ((w first).eF b) ((E j).take (k+1))=qT ((w first).eF b) ((E j).take k)+(w first).eF b (E j)[k].toNat:=by rw[awE U,Wg]
 have b1:=o' k hk;have b2:=M b (E j)[k].toNat;generalize(E j)[k]=e at *
 obtain⟨a,rfl⟩:∃a:Nat,e=a:=⟨e.toNat,by omega⟩;rw[awG]at ψ b2;have θ:a<S.m:=Om;obtain⟨qy,rfl,-,h'⟩:=Θ a θ;have χ:=W _ _ (η _ _ h');have ξ:=CW ((w first).eF b) θ;have ι:(a:Int)<(S.m:Nat):=Om;have w2:i_.wrap ((w first).cost j*D.den-qT ((w first).eF b) ((E j).take k)-(w first).eF b a)=(w first).cost j*D.den-qT ((w first).eF b) ((E j).take (k+1)):=by rw[ψ,wrap_i64 Om Om];omega
 simp only[go_sem,V,hq,ν,χ,ξ,ι,w2,wZz k];exact aF (k+1) U Om Lq b_;have V:¬(k:Int)<((E j).length:Nat):=Om;have:k=(E j).length:=Om;subst this;have i':(w first).cost j*D.den-qT ((w first).eF b) (E j)=(w first).rc b j:=by unfold Lin.rc;rw[μ,h.den,<-zB _ S.m (E j) κ];congr 1;exact bM λk _=>by rw[ρ j k A]
 rw[avI,i'];simp only[go_sem,V,GW];have f':=W _ _ γ;by_cases O:(w first).rc b j<0;have hE:(w first).Ent S.cols.length b j:=⟨A,O,hl⟩;obtain⟨n',rfl,i,F,d'⟩:∃n',n=n'+1/\∃i,(w first).Lv b j i/\(w first).Ends S.cols.length n' (eU b i j):=by
  cases n with
  |zero=>exact absurd hE (hn j)
  |succ n'=>
   rcases hn with e'|⟨j',i,h1,h2,h3⟩
   exact absurd hE (e' j);obtain rfl:=h1.uniq hE;exact⟨n',rfl,i,h2,h3⟩
 have Λ:i<S.m:=μ ▸ F.lt;simp only[go_sem,O,GX,f'];refine sH (L.times b D first G4 h ε j _ Y) Sq λu G5 hu=>?_;obtain⟨Φ,-,ω⟩:=hu.read;rw[yD]at ω;obtain⟨qu,rfl,g',φ⟩:=ω i Λ;have Δ:=ε.le Φ;have τ:=ε.fresh g';simp only[go_sem,GY];refine AZ (L.leave b D first G5 j qu i h Δ (.fl φ) F) Sq ?_;simp only[go_sem];refine fD (L.pivot b D first G5 j qu i h Δ (.fl φ) τ.1 τ.2 Λ A (by have:=F.pos;omega)) Sq b_ ?_;rintro r2 G6 ⟨D',Ψ,m',k6⟩ -;simp only[go_sem];have kk:fQ I S.m H (G5.over G5 G6):=(((kG.le ζ).le η).le W).le Φ |>.trans (k6.le kL)
 exact aF (n',_) ⟨⟨_,D',Ψ,F.CE h.jA hf,p' b i j h.jA hf hJ A F,d',m'.le kL⟩,kk⟩ sO_ Lq b_;simp only[go_sem,O,wZz j];refine aF (j+1) ⟨A,λl s'=>?_⟩ Om Lq (η.trans W);by_cases d:l<j;exact hl l d;obtain rfl:l=j:=Om;omega;have Q:¬(j:Int)<(l'' S.cols:Nat):=Om;have:j=l'' S.cols:=Om;subst this;simp only[go_sem,Q];refine aY (.inr rfl) G1 (vs:=[]) rfl b_ ⟨b,D,h,hf,hJ,λj hj=>?_,δ,kG.le ζ⟩;have:=hl j hj.lt;have:=hj.neg;omega
namespace Lin
def Red(P:Lin)(N:Nat)(b:Nat->Nat):Prop:=∀i,i<P.m->b i<N\/(P.right b i=0/\∀j,j<N->P.tab b i (P.col j)=0)
variable {P:Lin} {N:Nat} {b:Nat->Nat}
structure amK(P:Lin)(b:Nat->Nat)(i j:Nat):Prop where
 CE:P.oN (eU b i j)
 row:P.right (eU b i j) i=0
 right:∀r,r<P.m->r≠i->P.right b r=0->P.right (eU b i j) r=0
 tab:∀r v,r<P.m->r≠i->P.tab b r (P.col j)=0->P.tab b r v=0->P.tab (eU b i j) r v=0
theorem aoP(g:P.Good b)(f:P.oN b){i j:Nat}(hi:i<P.m)(A:P.right b i=0)(K:P.tab b i (P.col j)≠0):P.amK b i j:=by
 have hp:=g.pos;have zero:∀x:Int,P.den b*x=0->x=0:=λx h=>by
  rcases Int.mul_eq_zero.1 h with h|h
  omega;exact h
 have pos:∀x:Int,0<=P.den b*x->0<=x:=λx h=>Int.not_lt.1 λJ=>by have:=Int.mul_neg_of_pos_of_neg hp J;omega
 by_cases c:P.tab b i (P.col j)<0;have w:P.right (eU b i j) i=0:=by rw[show P.right (eU b i j) i=P.tab (eU b i j) i P.rhs from rfl,iz _ c,show P.tab b i P.rhs=P.right b i from rfl,A];rfl
 have y:∀r,r<P.m->r≠i->P.den b*P.right (eU b i j) r=P.right b r*(- P.tab b i (P.col j)):=λr u l=>by
  have e:=g.VN hi u l P.rhs c;rw[show P.tab b i P.rhs=P.right b i from rfl,A]at e;rw[show P.right (eU b i j) r=P.tab (eU b i j) r P.rhs from rfl,e];unfold Lin.right
  grind
 refine⟨λr u=>?_,w,λr u l h=>zero _ (by rw[y r u l,h,awV]),λr v u l F H=>zero _ (by rw[g.VN hi u l v c,F,H];grind)⟩;by_cases e:r=i;rw[e,w];exact Int.le_refl 0;exact pos _ (by rw[y r u e];exact Int.mul_nonneg (f r u) Om);have E:0<P.tab b i (P.col j):=Om;have w:P.right (eU b i j) i=0:=by rw[show P.right (eU b i j) i=P.tab (eU b i j) i P.rhs from rfl,YF _ E,show P.tab b i P.rhs=P.right b i from rfl,A]
 have y:∀r,r<P.m->r≠i->P.den b*P.right (eU b i j) r=P.right b r*P.tab b i (P.col j):=λr u l=>by
  have e:=g.GP hi u l P.rhs E;rw[show P.tab b i P.rhs=P.right b i from rfl,A]at e;rw[show P.right (eU b i j) r=P.tab (eU b i j) r P.rhs from rfl,e];unfold Lin.right
  grind
 refine⟨λr u=>?_,w,λr u l h=>zero _ (by rw[y r u l,h,awV]),λr v u l F H=>zero _ (by rw[g.GP hi u l v E,F,H];grind)⟩;by_cases e:r=i;rw[e,w];exact Int.le_refl 0;exact pos _ (by rw[y r u e];exact Int.mul_nonneg (f r u) Om)
theorem Red.step(g:P.Good b)(f:P.oN b)(h:P.Red N b){i j:Nat}(u:j<N)(w:P.Lv b j i):P.Red N (eU b i j):=by
 intro r y;by_cases e:r=i;left;rw[e,wL];exact u;rw[yX _ _ e];rcases h r y with l|⟨l,h2⟩
 exact .inl l;have hp:=g.pos;have zero:∀x:Int,P.den b*x=0->x=0:=λx h=>by
  rcases Int.mul_eq_zero.1 h with h|h
  omega;exact h
 refine .inr ⟨zero _ ?_,λk A=>zero _ ?_⟩;rw[w.DS g y e,l,h2 j u]
 grind
 rw[g.GP w.lt y e _ w.pos,h2 j u,h2 k A]
 grind
end Lin
end Go.PM
namespace Go.PM
open Go Go.Na
variable{C:Ctx}
theorem acM(I:XId)(S:XSt)(D:XDy)(J:S.m<=1000){H:PH}(w:XV I S D H) :
  tq.wp C (aX tp.res (λr H'=>(∃t:Bool,r=.bool t/\(t=true↔∀i,i<S.m->D.B i<0->D.R i=0))/\H'=H)) (g_ [xp I]) H:=by
 have hb:=w.box;obtain⟨K,b1,b2⟩:=w.basis;obtain⟨M,r1,r2⟩:=w.right;simp only[go_sem,tq,tp,hb,XSt.cells];refine wp_loop (α:=Nat) (λk=>((((n_.set 0 (xp I)).set 8 (.osl I.qb 1 0 S.m)).set 9 (.j (S.m:Nat))).set 10 (.j k))) (λ_=>H) (λk=>k<=S.m/\∀i,i<k->D.B i<0->D.R i=0) (λk=>S.m-k) 0 ⟨auK _,λi hi=>absurd hi (axA i)⟩ Lq b_ ?_;rintro k ⟨F,y⟩;simp only[go_sem];by_cases u:k<S.m;have l:(k:Int)<(S.m:Nat):=Om;have E:=b2 k u;have A:=r2 k u;simp only[go_sem,l,b1,E];by_cases c:D.B k<0;by_cases d:D.R k=0;simp only[go_sem,c,hb,XSt.cells,r1,A,l,d,bne_self_eq_false,wZz k];refine aF (k+1) ⟨u,λi hi hB=>?_⟩ Om Lq b_;by_cases e:i<k;exact y i e hB;obtain rfl:i=k:=Om;exact d;simp only[go_sem,c,hb,XSt.cells,r1,A,l,show(D.R k != 0)=true from by simp[d]];exact aY (.inr rfl) H (vs:=[.bool false]) Sq b_ ⟨⟨false,rfl,⟨λh=>(by cases h),λh=>absurd (h k u c) d⟩⟩,rfl⟩;simp only[go_sem,c,wZz k];refine aF (k+1) ⟨u,λi hi hB=>?_⟩ Om Lq b_;by_cases e:i<k;exact y i e hB;obtain rfl:i=k:=Om;exact absurd hB c;have l:¬(k:Int)<(S.m:Nat):=Om;have:k=S.m:=Om;subst this;simp only[go_sem,l];exact aY (.inr rfl) H (vs:=[.bool true]) Sq b_ ⟨⟨true,rfl,⟨λ_=>y,λ_=>rfl⟩⟩,rfl⟩
theorem W7(I:XId)(S:XSt)(E:Nat->I_)(P:Bool->Lin)(L:Xq C I S E P)(first:Bool)(ο:(P first).m=S.m)(hm:S.m<=1000)(ν:l'' S.cols<=1000000)(hc:∀j,j<l'' S.cols->∃x y z,S.cols[j]?=some [x,y,z])
  (b:Nat->Nat) (D:XDy) (h:(P first).Rl S.cols.length b D) (N:(P first).oN b) (M:∀i,i<S.m->l'' S.cols<=b i->(P first).right b i=0) {H:PH} (A:XV I S D H) :
  br.wp C (aX WN.res (λ_ H'=>∃b' D',(P first).Rl S.cols.length b' D'/\(P first).oN b'/\(P first).Red S.cols.length b'/\XV I S D' H'/\fQ I S.m H H')) (g_ [xp I]) H:=by
 have hb:=A.box;simp only[go_sem,br,WN,hb,XSt.cells];refine wp_loop (α:=Nat × PH) (λt=>(((n_.set 0 (xp I)).set 9 (.j (S.m:Nat))).set 10 (.j t.1))) (λt=>t.2) (λt=>t.1<=S.m/\(∃b D,(P first).Rl S.cols.length b D/\(P first).oN b/\(∀i,i<S.m->l'' S.cols<=b i->(P first).right b i=0)/\(∀i,i<t.1->b i<l'' S.cols\/∀j,j<l'' S.cols->(P first).tab b i ((P first).col j)=0)/\XV I S D t.2)/\fQ I S.m H t.2) (λt=>S.m-t.1) (0,H) ⟨auK _,⟨b,D,h,N,M,λi hi=>absurd hi (axA i),A⟩,fQ.refl⟩ Lq b_ ?_;clear h N M hb A b D;rintro⟨i,G⟩ ⟨hi,⟨b,D,h,N,M,Q,A⟩,O⟩;simp only at hi Q A O ⊢;simp only[go_sem];by_cases F:i<S.m;have w:(i:Int)<(S.m:Nat):=Om;have V:i<(P first).m:=Om;simp only[go_sem,w];refine wp_loop (α:=Nat × PH) (λt=>(((((n_.set 0 (xp I)).set 2 (.j i)).set 3 (.j t.1)).set 9 (.j (S.m:Nat))).set 10 (.j i))) (λt=>t.2) (λt=>t.1<=l'' S.cols/\(∃b D,(P first).Rl S.cols.length b D/\(P first).oN b/\(∀i,i<S.m->l'' S.cols<=b i->(P first).right b i=0)/\(∀l,l<i->b l<l'' S.cols\/∀j,j<l'' S.cols->(P first).tab b l ((P first).col j)=0)/\(b i<l'' S.cols\/∀j,j<t.1->(P first).tab b i ((P first).col j)=0)/\XV I S D t.2)/\fQ I S.m H t.2) (λt=>l'' S.cols-t.1) (0,G) ⟨auK _,⟨b,D,h,N,M,Q,.inr λj hj=>absurd hj (axA j),A⟩,O⟩ Lq b_ ?_;clear h N M Q A O b D G;rintro⟨j,G⟩ ⟨hj,⟨b,D,h,N,M,Q,he,A⟩,O⟩;simp only at hj he A O ⊢;have hb:=A.box;obtain⟨rb,b1,b2⟩:=A.basis;have b3:=b2 i F;have ξ:=h.rng i V;have β:=h.bas i V;have hlt:D.B i<0↔¬b i<l'' S.cols:=by rw[β];unfold ixX;split<;>omega
 simp only[go_sem,hb,XSt.cells];by_cases K:j<l'' S.cols;have J:(j:Int)<(l'' S.cols:Nat):=Om;by_cases c:D.B i<0;obtain⟨x,y,z,Y⟩:=hc j K;simp only[go_sem,J,hb,XSt.cells,b1,b3,w,c,Y];refine sH (L.times b D first G h A j _ Y) Sq λu G1 hu=>?_;obtain⟨W,-,η⟩:=hu.read;rw[yD]at η;obtain⟨qu,rfl,κ,ζ⟩:=η i F;have θ:=A.le W;have γ:=A.fresh κ;have Z:=CW (λi=>(P first).tab b i ((P first).col j)) F;simp only[go_sem,ζ,Z,w];by_cases d:(P first).tab b i ((P first).col j)=0;simp only[go_sem,d,bne_self_eq_false,wZz j];refine aF (j+1,G1) ⟨K,⟨b,D,h,N,M,Q,he.imp id λhe k hk=>?_,θ⟩,O.le W⟩ sO_ Lq b_;by_cases e:k<j;exact he k e;obtain rfl:k=j:=Om;exact d;have U:=Lin.aoP h.jA N V (M i F Om) d;simp only[go_sem,show((P first).tab b i ((P first).col j) != 0)=true from by simp[d]];refine fD (L.pivot b D first G1 j qu i h θ (.fl ζ) γ.1 γ.2 F K d) Sq b_ ?_;rintro r2 G2 ⟨D',ι,μ,k2⟩ -;have kk:fQ I S.m H (G1.over G1 G2):=(O.le W).trans (k2.le kL);simp only[go_sem,wZz j];refine aF (j+1,_) ⟨K,⟨_,D',ι,U.CE,λr hr δ=>?_,λl hl=>?_,.inl (by rw[Lin.wL];exact K),μ.le kL⟩,kk⟩ sO_ Lq b_;by_cases e:r=i;rw[e];exact U.row;rw[Lin.yX _ _ e]at δ;exact U.right r Om e (M r hr δ);have e:l≠i:=Om;rw[Lin.yX _ _ e];exact(Q l hl).imp id λh0 k hk=>U.tab l _ Om e (h0 j K) (h0 k hk);simp only[go_sem,J,hb,XSt.cells,b1,b3,w,c,wZz i];refine aF (i+1,G) ⟨F,⟨b,D,h,N,M,λl hl=>?_,A⟩,O⟩ sO_ Lq b_;by_cases e:l<i;exact Q l e;obtain rfl:l=i:=Om;exact .inl Om;have J:¬(j:Int)<(l'' S.cols:Nat):=Om;have:j=l'' S.cols:=Om;subst this;simp only[go_sem,J,wZz i];refine aF (i+1,G) ⟨F,⟨b,D,h,N,M,λl hl=>?_,A⟩,O⟩ sO_ Lq b_;by_cases e:l<i;exact Q l e;obtain rfl:l=i:=Om;exact he;have w:¬(i:Int)<(S.m:Nat):=Om;have:i=S.m:=Om;subst this;simp only[go_sem,w];refine aY (.inl rfl) G (vs:=[]) rfl b_ ⟨b,D,h,N,λl hl=>?_,A,O⟩;have ε:l<S.m:=Om;rcases Q l ε with h1|h1
 exact .inl h1;by_cases c:b l<l'' S.cols;exact .inl c;exact .inr ⟨M l ε Om,h1⟩
def nL:=bR [3,4] Proofs.Tryz.f119
def cr:aK:=(fY (aC nL 14) 57 4 (aC nL 19) (sq (aC nL 15) (sq (aC nL 16) (sq (aC nL 17) (.cond (Tm 88) (sq (aC nL 18) .ret) .skip)))))
def FP:aK:=(iP (aC nL 9) 37 2 (aC nL 20) (sq (aC nL 10) (mM (aC nL 11) 49 (aC nL 12) (eH (aC nL 13) 4 cr))))
def yf:aK:=(sq (aC nL 0) (sq (aC nL 1) (.seq (eH (aC nL 2) 0 (iP (aC nL 3) 23 0 (aC nL 6) (sq (aC nL 4) (.region (aC nL 5))))) (sq (aC nL 7) (.seq (eH (aC nL 8) 2 FP) (sq (aC nL 21) .ret))))))
def Oe:=bR [] Proofs.Tryz.f129
def yh:=bX Oe
def kf:=bR [2] Proofs.Tryz.f85
def YX:=bX kf
def call17:=bR [2] Proofs.Tryz.f49
def YS:=bX call17
def gE:=bR [2,23,24,50,90] Proofs.Tryz.f44
def CL:aK:=(.seq (sq (aC gE 21) (.cond (Tm 70) .skip (.exit 6))) (.block 7 (.region (aC gE 22))))
def ZB:aK:=(sq (aC gE 0) (sq (aC gE 1) (iE (aC gE 2) 14 (.seq (eH (aC gE 3) 0 (iP (aC gE 4) 19 0 (aC gE 7) (sq (aC gE 5) (.region (aC gE 6))))) (sq (aC gE 8) .ret)) (sq (aC gE 9) (.seq (eH (aC gE 10) 2 (iP (aC gE 11) 36 2 (aC gE 16) (sq (aC gE 12) (sq (aC gE 13) (.cond (Tm 43) (sq (aC gE 14) (.region (aC gE 15))) .skip))))) (.seq (eH (aC gE 17) 4 (iP (aC gE 18) 57 4 (aC gE 23) (sq (aC gE 19) (sq (aC gE 20) (.seq (.block 6 (.loop CL)) (dq (eY gE 0) (.draw (eY gE 1)))))))) (sq (aC gE 24) .ret)))))))
def XA:=bR [] Proofs.Tryz.f45
def SR:=bX XA
def mL:=bR [] Proofs.Tryz.f50
def BG:aK:=(.seq (sq (aC mL 9) (.cond (Tm 37) .skip (.exit 4))) (.block 5 (.region (aC mL 10))))
def HH:aK:=(iP (aC mL 7) 23 2 (aC mL 13) (sq (aC mL 8) (.seq (.block 4 (.loop BG)) (sq (aC mL 11) (.cond (Tm 51) (.region (aC mL 12)) .skip)))))
def kg:aK:=(sq (aC mL 0) (sq (aC mL 1) (.seq (eH (aC mL 2) 0 (iP (aC mL 3) 17 0 (aC mL 16) (sq (aC mL 4) (sq (aC mL 5) (.seq (eH (aC mL 6) 2 HH) (sq (aC mL 14) (.cond (Tm 57) (.region (aC mL 15)) .skip))))))) (sq (aC mL 17) .ret))))
def C1:=bR [] Proofs.Tryz.f46
def lm:=bX C1
def kP:=bR [] Proofs.Tryz.f83
def TD:aK:=(iP (aC kP 3) 16 0 (aC kP 6) (sq (aC kP 4) (.region (aC kP 5))))
def TE:=aC kP 7
def TF:=aC kP 8
def xX:=eY kP 0
def NA:=aC kP 9
def CM:aK:=(.seq (dq xX (.cond (Tm 42) .skip (.exit 4))) (.block 5 (.region NA)))
def CO:=aC kP 10
def NB:=aC kP 11
def NC:=aC kP 12
def CP:=aC kP 13
def ND:=aC kP 14
def NE:=aC kP 15
def CN:aK:=(fY CP 57 6 NE (.region ND))
def ln:aK:=(.seq (sq TE (.cond (Tm 26) .skip (.exit 2))) (.block 3 (sq TF (.seq (.block 4 (.loop CM)) (iE CO 46 .ret (sq NB (eH NC 6 CN)))))))
def ZC:aK:=(iE (aC kP 0) 10 .ret (sq (aC kP 1) (.seq (eH (aC kP 2) 0 TD) (.block 2 (.loop ln)))))
def eC(n:Nat):Nat->Nat->List N_
 |0,_=>[[]]
 |k+1,a=>(awT a (n-k-a)).flatMap λi=>(eC n k (i+1)).map (i::·)
def qD(n:Nat):N_->Option N_
 |[]=>none
 |x::t=>match qD n t with
  |some u=>some (x::u)
  |none=>if x+1+l'' t=n then none else some (awT (x+1) (l'' t+1))
theorem Am{n:Nat}:∀{s u:N_},qD n s=some u->l'' u=l'' s
 |[],_,h=>by cases h
 |x::t,u,h=>by rw[qD]at h;split at h;rename_i v i;cases h;simp[Am i];split at h;cases h;cases h;simp
inductive rB (n:Nat):N_->List N_->Prop
 |last {s:N_} (h:qD n s=none):rB n s [s]
 |step {s t:N_} {l:List N_} (h:qD n s=some t) (w:rB n t l):rB n s (s::l)
theorem rB.map{n x k:Nat}{rest:List N_}(y:(x+1+k=n/\rest=[])\/(x+1+k≠n/\rB n (awT (x+1) (k+1)) rest)){t:N_}{l:List N_}(w:rB n t l)(i:l'' t=k):rB n (x::t) (l.map (x::·)++rest):=by
 induction w with
 |@last s h=>
  rcases y with⟨u,rfl⟩|⟨u,h2⟩
  exact .last (by rw[qD,h];simp only;rw[aD (by rw[i];exact u)]);exact .step (by rw[qD,h];simp only;rw[aB (by rw[i];exact u),i]) h2
 |@step s t l h _ A=>exact .step (by rw[qD,h]) (A (by rw[Am h,i]))
theorem WG(n:Nat):∀(k a:Nat),a+k<=n->rB n (awT a k) (eC n k a)
 |0,a,_=>.last rfl
 |k+1,a,h=>by
  rw[eC];obtain⟨m,l⟩:∃m,n-k-a=m+1:=⟨n-k-a-1,by omega⟩;rw[l];clear h
  induction m generalizing a with
  |zero =>have:=rB.map (n:=n) (x:=a) (k:=k) (rest:=[]) (.inl ⟨by omega,rfl⟩) (WG n k (a+1) Om) List.length_range';rw[List.range'_succ (n:=0),List.flatMap_cons];exact this
  |succ m u =>rw[List.range'_succ (n:=m+1),List.flatMap_cons];have i:=u (a+1) Om;exact rB.map (.inr ⟨by omega,i⟩) (WG n k (a+1) Om) List.length_range'
theorem OY{n:Nat}:∀{s:N_},(∀i (h:i<l'' s),s[i]+l'' s=n+i)->qD n s=none
 |[],_=>rfl
 |x::t,h=>by rw[qD,OY (s:=t) λi hi=>by have:=h (i+1) (by simpa using hi);simp only[List.getElem_cons_succ,avG]at this;omega];have l:=h 0 bC;simp only[List.getElem_cons_zero,avG]at l;simp only;rw[aD Om]
theorem Ho{n:Nat}:∀{s:N_}(i:Nat)(hi:i<l'' s),(∀j (h:j<l'' s),i<j->s[j]+l'' s=n+j)->s[i]+l'' s≠n+i->qD n s=some (s.take i++awT (s[i]+1) (l'' s-i))
 |[],i,hi,_,_=>by cases hi
 |x::t,0,_,h,l=>by rw[qD,OY (s:=t) λi hi=>by have:=h (i+1) (by simpa using hi) Om;simp only[List.getElem_cons_succ,avG]at this;omega];simp only[List.getElem_cons_zero,avG]at l ⊢;rw[aB Om];rfl
 |x::t,i+1,hi,h,l=>by
  have u:i<l'' t:=by simpa using hi
  simp only[List.getElem_cons_succ,avG]at l;rw[qD,Ho (s:=t) i u (λj y w=>by have:=h (j+1) (by simpa using y) Om;simp only[List.getElem_cons_succ,avG]at this;omega) Om];simp only[List.getElem_cons_succ,avG,List.take_succ_cons,axX];rw[show t.length+1-(i+1)=l'' t-i by omega]
theorem wO(n:Nat):∀(k a:Nat),∀s∈eC n k a,l'' s=k/\(∀x∈s,a<=x/\x<n)/\s.Pairwise (· < ·)
 |0,a,s,h=>by rw[eC,avN]at h;subst h;exact⟨rfl,(λx hx=>by cases hx),.nil⟩
 |k+1,a,s,h=>by
  rw[eC,List.mem_flatMap]at h;obtain⟨i,hi,h⟩:=h;rw[auT]at h;obtain⟨t,A,rfl⟩:=h;rw[List.mem_range'_1]at hi;obtain⟨u,l,w⟩:=wO n k (i+1) t A;refine⟨by simp[u],λx hx=>?_,List.pairwise_cons.2 ⟨λy E=>by have:=(l y E).1;omega,w⟩⟩;rcases auQ.1 hx with rfl|hx
  omega;have:=l x hx;omega
theorem GN(n:Nat):∀(k a:Nat),(eC n k a).length<=2^(n-a)
 |0,a=>by rw[eC];exact Nat.one_le_two_pow
 |k+1,a=>by
  rw[eC];have l:∀(m a:Nat),m+a<=n->((awT a m).flatMap λi=>(eC n k (i+1)).map (i::·)).length+2^(n-a-m)<=2^(n-a):=by
   intro m
   induction m with
   |zero=>intro a _;simp
   |succ m u=>
    intro a h;rw[List.range'_succ,List.flatMap_cons,auJ,auD];have w:=GN n k (a+1);have y:=u (a+1) Om;rw[show n-a-(m+1)=n-(a+1)-m by omega];have A:2^(n-a)=2^(n-(a+1))+2^(n-(a+1)):=by rw[show n-a=(n-(a+1))+1 by omega,awL];omega
    omega
  rcases avF n a with h|h
  rw[show n-k-a=0 by omega];simp;exact avJ (Nat.le_add_right _ _) (l (n-k-a) a Om)
def mI(f:aH)(p:cJ)(set:I_):Bool:=(auE f.asS.length).all λi=>!(decide (fP f p i>0)&&decide (gU f set i>fP f p i))
def KK(f:aH)(p:cJ)(d:Int):Bool:=p.asQ.contains ((mdl f d.toNat:Nat):Int)
def oO(f:aH)(p:cJ)(set:I_):Bool:=set.all (KK f p)&&mI f p set
def tV(set:I_)(top:Int)(i:Nat):Bool:=(decide (0<=set.getD i 0)&&decide (set.getD i 0<top))&&(decide (i=0)||decide (set.getD (i-1) 0<set.getD i 0))
def cp(set:I_)(n top:Int):Bool:=decide ((l'' set:Int)=n)&&(auE set.length).all (tV set top)
def lK(f:aH)(atB:Int):cJ:=f.asT.getD atB.toNat DN
def rO(p:cJ):Int:=p.k+p.m
def nS(f:aH)(atB:Int):Bool:=dR f&&(decide (0<=atB)&&decide (atB<l'' f.asT))
def Xt(f:aH)(atB:Int)(set:I_):Bool:=nS f atB&&(cp set (rO (lK f atB)) f.asP.length&&oO f (lK f atB) set)
def cR(s:N_):I_:=s.map λ(x:Nat)=>(x:Int)
def lO(f:aH)(p:cJ):L2_:=((eC f.asP.length (rO p).toNat 0).map cR).filter (oO f p)
def iV(f:aH)(level:Int):L2_:=
 if level=5 then(auE f.asP.length).map λ(d:Nat)=>[(d:Int)]
 else((auE f.asS.length).filter λi=>decide (lvl f i=level)).map λi=>cR ((auE f.asP.length).filter λd=>decide (eJ f d level=i))
def gF(m:Int):Nat->Int
 |0=>1
 |i+1=>Int.tdiv (gF m i*(m-i)) (i+1)
def tZ(u:L2_)(s:N_)(d:Nat):Bool:=s.any λi=>(u.getD i []).contains (d:Int)
def vS(f:aH)(u:L2_)(i:Nat):L2_:=(eC u.length i 0).map λs=>cR ((auE f.asP.length).filter (tZ u s))
def oY(s set:I_):Nat:=set.countP λd=>s.contains d
def DD(sc:L2_)(set:I_)(m:Int):Nat:=sc.countP λs=>decide (((oY s set:Nat):Int)>m)
theorem yd:∀{s t:I_},s.Nodup->t.Nodup->oY s t=oY t s
 |[],t,_,_=>by simp[oY]
 |d::s,t,w,y=>by
  obtain⟨F,H⟩:=List.nodup_cons.1 w;have l:=yd H y;unfold oY at l ⊢;rw[List.countP_cons,<-l];clear l w
  induction t with
  |nil=>simp
  |cons x t u=>
   obtain⟨k1,k2⟩:=List.nodup_cons.1 y;have:=u k2;rw[List.countP_cons,List.countP_cons,this];by_cases e:x=d;subst e;have i:(x::s).contains x=true:=by simp
   have e2:s.contains x=false:=by simpa using F
   have A:t.contains x=false:=by simpa using k1
   have E:(x::t).contains x=true:=by simp
   simp only[i,e2,A,E];have i:(d::s).contains x=s.contains x:=by simp[e]
   have e2:(x::t).contains d=t.contains d:=by have:¬d=x:=λh=>e h.symm;simp[this]
   rw[i,e2];omega
def fM(set:I_)(d:Int):Nat:=(set.takeWhile λx=>decide (x<d)).length
theorem xt(set:I_)(d:Int):fM set d<=l'' set:=(List.takeWhile_prefix _).length_le
theorem QC(set:I_)(d:Int){i:Nat}(h:i<fM set d):set[i]'(Nat.lt_of_lt_of_le h (xt set d))<d:=by
 have hp:=List.takeWhile_prefix (p:=λx=>decide (x<d)) (l:=set);have w:(set.takeWhile λx=>decide (x<d))[i]∈set.takeWhile λx=>decide (x<d):=auH h;have y:=List.all_takeWhile (p:=λx=>decide (x<d)) (l:=set);have u:=auX.1 y _ w;rw[hp.getElem h]at u;exact of_decide_eq_true u
theorem M9(set:I_)(d:Int)(h:fM set d<l'' set):¬set[fM set d]<d:=by
 induction set with
 |nil=>simp at h
 |cons x t i=>
  by_cases c:x<d;have e:fM (x::t) d=fM t d+1:=by simp[fM,List.takeWhile_cons,c]
  simp only[e,List.getElem_cons_succ];exact i (by rw[e]at h;simpa using h);have e:fM (x::t) d=0:=by simp[fM,List.takeWhile_cons,c]
  simp only[e,List.getElem_cons_zero];exact c
theorem abF{set:I_}(w:set.Pairwise (· < ·))(d:Int):set.contains d=(decide (fM set d<l'' set)&&decide (set.getD (fM set d) 0=d)):=by
 by_cases h:fM set d<l'' set;have y:=M9 set d h;rw[bH h,auV,auM,auP h,axC];by_cases e:set[fM set d]=d;rw[bH e];simp only[List.contains_iff_mem];exact e ▸ auH h;rw[bT e];simp only[Bool.eq_false_iff,ne_eq,List.contains_iff_mem];intro u;obtain⟨i,hi,l⟩:=awI u;rcases Nat.lt_trichotomy i (fM set d)with c|c|c
 have:=QC set d c;omega;subst c;exact e l;have:=List.pairwise_iff_getElem.1 w _ _ h hi c;omega;rw[bT h,auN];simp only[Bool.eq_false_iff,ne_eq,List.contains_iff_mem];intro u;obtain⟨i,hi,l⟩:=awI u;have:=QC set d (i:=i) Om;omega
theorem V2(set:I_){d e:Int}(h:d<=e):fM set d<=fM set e:=by
 induction set with
 |nil=>simp[fM]
 |cons x t l =>by_cases c:x<d;have i:x<e:=Om;simp only[fM,List.takeWhile_cons,c,i,decide_true,if_true,avG]at l ⊢;omega;simp[fM,List.takeWhile_cons,c]
theorem Z6(a b:N_):cR (a++b)=cR a++cR b:=avD
theorem iR(a:N_):(cR a).length=l'' a:=auD _
theorem EV{a:N_}{i:Nat}(h:i<l'' a):(aR (cR a))[i]?=some [PV.int .i64 (a[i]:Nat)]:=by
 unfold aR cR;rw[avC,avC,auP h];rfl
theorem gd(a:N_)(i x:Nat):(aR (cR a)).set i [PV.int .i64 (x:Nat)]=aR (cR (a.set i x)):=by
 unfold aR cR;rw[List.map_set,List.map_set]
theorem Wf{top n:Nat}(h:top<n):eC top n 0=[]:=by
 cases n with
 |zero=>omega
 |succ n =>rw[eC,show top-n-0=0 by omega];rfl
theorem rB.head{n:Nat}{s:N_}{l:List N_}(h:rB n s l):∃r,l=s::r:=by
 cases h with
 |last=>exact⟨_,rfl⟩
 |step=>exact⟨_,rfl⟩
def sO(n i:Nat):N_:=awT 0 i++auL (n-i) 0
theorem O5(n:Nat):sO n 0=auL n 0:=by unfold sO;simp
theorem Tv{n i:Nat}(h:i<=n):(sO n i).length=n:=by unfold sO;simp;omega
theorem O4(n:Nat):sO n n=awT 0 n:=by unfold sO;simp
theorem Tw{n i:Nat}(h:i<n):(sO n i).set i i=sO n (i+1):=by
 unfold sO;obtain⟨m,l⟩:∃m,n-i=m+1:=⟨n-i-1,by omega⟩;rw[l,List.replicate_succ,axS _ _ bC,List.length_range',awU,avQ,show n-(i+1)=m by omega,List.range'_concat];simp
def onU(s:N_)(j y m:Nat):N_:=s.take j++awT y (m-j)++s.drop m
theorem M0{s:N_}{j y m:Nat}(i:j<=m)(l:m<=l'' s):(onU s j y m).length=l'' s:=by
 unfold onU;simp;omega
theorem agT{s:N_}{j y:Nat}(h:j<l'' s):s.set j y=onU s j y (j+1):=by
 unfold onU;rw[List.set_eq_take_append_cons_drop,aD h,show j+1-j=1 by omega];simp
theorem aaF{s:N_}{j y m:Nat}(u:j<m)(l:m<=l'' s):∃h,(onU s j y m)[m-1]'h=y+(m-1-j):=by
 refine⟨by rw[M0 Om l];omega,?_⟩;unfold onU;have i:(s.take j).length=j:=by rw[auU];omega
 rw[List.getElem_append_left (by simp;omega),ayY Om];simp[i]
theorem agU{s:N_}{j y m:Nat}(u:j<=m)(l:m<l'' s):(onU s j y m).set m (y+(m-j))=onU s j y (m+1):=by
 unfold onU;have i:(s.take j++awT y (m-j)).length=m:=by simp;omega
 rw[axS _ _ Om,i,awU,awS l,avQ,show m+1-j=(m-j)+1 by omega,List.range'_concat];simp
theorem aaE{s:N_}{j y:Nat}:onU s j y s.length=s.take j++awT y (l'' s-j):=by
 unfold onU;simp
theorem aeC{K:cH}[Up K]{n o1 o2 q:Nat}{y:PV}{F:PF}{H:PH}(Q:n<=1000)(M:H q=some (.rows 1 (aR (cR (sO n 0)))))(E:(((((((n_.set 0 (y)).set 1 (.ptr o1 1 0 0)).set 2 (.ptr o2 1 0 0)).set 4 (.osl q 1 0 n)).set 14 (.j n)).set 15 (.j 0))).le F)
  (J:K (.exit 0) (((((n_.set 0 (y)).set 1 (.ptr o1 1 0 0)).set 2 (.ptr o2 1 0 0)).set 4 (.osl q 1 0 n))) (H.set q (.rows 1 (aR (cR (awT 0 n)))))):aK.wp C (.loop TD) K F H:=by
 refine wp_loop (α:=Nat × PH) (λs=>((((((n_.set 0 (y)).set 1 (.ptr o1 1 0 0)).set 2 (.ptr o2 1 0 0)).set 4 (.osl q 1 0 n)).set 14 (.j n)).set 15 (.j s.1))) (λs=>s.2) (λs=>s.1<=n/\s.2=H.set q (.rows 1 (aR (cR (sO n s.1))))) (λs=>n-s.1) (0,H) ⟨auK _,?_⟩ E b_ ?_;refine PH.ext λo=>?_;show H o=(H.set q _) o;rw[aT];split;rename_i e;rw[e,M];rfl;rintro⟨i,N⟩ ⟨hi,A⟩;simp only at hi A;subst A;simp only[go_sem,TD];by_cases hlt:i<n;have l:(i:Int)<(n:Nat):=Om;have O:=Tv hi;have u:=EV (a:=sO n i) (i:=i) Om;have w:i<(aR (cR (sO n i))).length:=by rw[bG,iR];omega
 simp only[go_sem,l,u,w,avA,gd,Tw hlt,wZz i];exact aF (i+1,_) ⟨hlt,rfl⟩ sO_ Lq b_;have l:¬(i:Int)<(n:Nat):=Om;have:i=n:=Om;subst this;rw[O4];simp only[go_sem,l];exact Up.up Lq J
def cyF(y:PV)(o1 o2 q n:Nat):PF:=((((n_.set 0 (y)).set 1 (.ptr o1 1 0 0)).set 2 (.ptr o2 1 0 0)).set 4 (.osl q 1 0 n))
theorem Te{K:cH}[Up K]{n top o1 o2 q:Nat}{y:PV}{s:N_}(hs:l'' s=n)(hn:n<=1000)(ht:top<=1000)(W:n<=top){F:PF}{H:PH}(b1:H o1=some (.rows 1 [[.j n]]))(b2:H o2=some (.rows 1 [[.j top]]))(O:H q=some (.rows 1 (aR (cR s))))
  (V:((cyF y o1 o2 q n).set 6 (.j ((n:Int)-1))).le F)
  (M:∀m,m<=n->(∀i (h:i<l'' s),m<=i->s[i]+n=top+i)->(0<m->∀(h:m-1<l'' s),s[m-1]+n≠top+(m-1))->K (.exit 4) ((cyF y o1 o2 q n).set 6 (.j ((m:Int)-1))) H):aK.wp C (.loop CM) K F H:=by
 refine wp_loop (α:=Nat) (λm=>(cyF y o1 o2 q n).set 6 (.j ((m:Int)-1))) (λ_=>H) (λm=>m<=n/\∀i (h:i<l'' s),m<=i->s[i]+n=top+i) (λm=>m) n ⟨auG _,λi h Z=>by omega⟩ V b_ ?_;rintro m ⟨N,l⟩;rw[show CM=(.seq (.seq (.draw xX) (.cond (.tmp 42) .skip (.exit 4))) (.block 5 (.region NA)))from rfl];simp only[go_sem];refine bV .nil dY a_ ?_;by_cases U:m=0;subst U;simp only[go_sem,xX,cyF,show ¬((0:Nat):Int)-1>=0 by omega];refine Up.up ?_ (M 0 N l (λh=>by omega));unfold cyF;exact Lq;obtain⟨k,rfl⟩:∃k,m=k+1:=⟨m-1,by omega⟩;have E:(((k+1:Nat):Int)-1)=(k:Int):=Om;have J:k<l'' s:=Om;have w:=EV J;have A:k<(aR (cR s)).length:=by rw[bG,iR];omega
 have Q:i_.wrap ((top:Int)-(n:Int))=(top:Int)-n:=wrap_i64 Om Om;have S:i_.wrap ((top:Int)-(n:Int)+(k:Int))=(top:Int)-n+k:=wrap_i64 Om Om;have u:(k:Int)<(n:Nat):=Om;by_cases c:s[k]+n=top+k;simp only[go_sem,xX,cyF,E,show(k:Int)>=0 by omega,O,w,A,u,b1,b2,avA,Q,S,cI (Om:((s[k]:Nat):Int)=(top:Int)-n+k),NA];have Y:i_.wrap ((k:Int)-1)=(k:Int)-1:=wrap_i64 Om Om;refine aF k ⟨by omega,λi h hi=>?_⟩ Om (lE1 Y) b_;by_cases e:i=k;subst e;exact c;exact l i h Om;simp only[go_sem,xX,cyF,E,show(k:Int)>=0 by omega,O,w,A,u,b1,b2,avA,Q,S,bP (Om:((s[k]:Nat):Int)≠(top:Int)-n+k)];refine Up.up ?_ (M (k+1) N l (λ_ h=>c));unfold cyF;exact lE1 E
theorem aeD{K:cH}[Up K]{n o1 o2 q j x:Nat}{y:PV}{s:N_}(hs:l'' s=n)(hn:n<=1000)(hx:x<=1000000)(Y:j<n){F:PF}{H:PH}(b1:H o1=some (.rows 1 [[.j n]]))(Q:¬o1=q)(Z:H q=some (.rows 1 (aR (cR (onU s j x (j+1))))))
  (U:((cyF y o1 o2 q n).set 7 (.j (j+1:Nat))).le F)
  (V:K (.exit 6) (cyF y o1 o2 q n) (H.set q (.rows 1 (aR (cR (s.take j++awT x (n-j))))))):aK.wp C (.loop CN) K F H:=by
 refine wp_loop (α:=Nat × PH) (λm=>(cyF y o1 o2 q n).set 7 (.j m.1)) (λm=>m.2) (λm=>j+1<=m.1/\m.1<=n/\m.2=H.set q (.rows 1 (aR (cR (onU s j x m.1))))) (λm=>n-m.1) (j+1,H) ⟨auG _,Y,?_⟩ U b_ ?_;refine PH.ext λo=>?_;show H o=(H.set q _) o;rw[aT];split;rename_i e;rw[e,Z];rfl;rintro⟨m,H1⟩ ⟨M,N,S⟩;simp only at M N S;subst S;have E:¬q=o1:=λe=>Q e.symm;rw[show CN=(.seq (.seq (.region CP) (.cond (.tmp 57) .skip (.exit 6))) (.seq (.block 7 (.region ND)) (.region NE)))from rfl];by_cases hlt:m<n;have i:(m:Int)<(n:Nat):=Om;obtain⟨hp,W⟩:=aaF (s:=s) (j:=j) (y:=x) (m:=m) Om Om;have l:=EV hp;rw[W]at l;have hl:=M0 (s:=s) (j:=j) (y:=x) (m:=m) Om Om;have J:m-1<(aR (cR (onU s j x m))).length:=by rw[bG,iR];omega
 have w:m<(aR (cR (onU s j x m))).length:=by rw[bG,iR];omega
 have u:(aR (cR (onU s j x m)))[m]?=some [PV.int .i64 ((onU s j x m)[m]'Om:Nat)]:=EV Om;have w1:i_.wrap ((m:Int)-1)=((m-1:Nat):Int):=wO_
 have w2:i_.wrap (((x+(m-1-j):Nat):Int)+1)=((x+(m-j):Nat):Int):=wO_
 have A:((m-1:Nat):Int)<(n:Nat):=Om;have O:=agU (s:=s) (j:=j) (y:=x) (m:=m) Om Om;simp only[go_sem,CP,cyF,b1,Q,E,i,ND,w1,A,l,J,avA,w2,u,w,gd,O,NE,wZz m];refine aF (m+1,_) ⟨by simp only;omega,hlt,rfl⟩ sO_ Lq b_;have i:¬(m:Int)<(n:Nat):=Om;have:m=n:=Om;subst this;have e:=aaE (s:=s) (j:=j) (y:=x);rw[hs]at e;rw[e];simp only[go_sem,CP,cyF,b1,Q,E,i];refine Up.up ?_ V;unfold cyF;exact Lq
end Go.PM
