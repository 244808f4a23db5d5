/-Lemmas for the law. No condition.-/
import Derived.Test.YtjnaciiebeflnaaGreatDoorGC4
import Derived.Test.YtjnaciiebeflnaaGreatDoorRows
import Derived.KernelRfl
import Derived.LaidMore
import Derived.Stop.Joined
set_option linter.unusedSimpArgs false
set_option linter.unusedVariables false
open Nat renaming reduceEqDiff->γ,reduceAdd->δ,reduceSub->ε,reduceMul->ζ,reduceLT->η,reduceLeDiff->θ,reduceBEq->τ
open Int renaming reduceLT->ι,reduceLE->κ,reduceEq->μ,reduceToNat->ν,reduceAdd->ξ,reduceNeg->ο,reduceBEq->ρ,reduceBNe->σ
open List renaming reduceReplicate->υ
open List renaming length_map->auW,range->auX,length_append->auZ,replicate->avA,getElem_mem->avB,getElem?_eq_getElem->avF,length_singleton->avG,getD_eq_getElem?_getD->avI,mem_cons->avL,length_take->avN,getElem?_map->avO,take_of_length_le->avT,map_append->avU,mem_map->avV,take_length->avW,not_mem_nil->avY,all_eq_true->awA,append_assoc->awB,getElem?_eq_some_iff->awD,map_cons->awE,mem_range->awG,mem_append->awH,append_nil->awJ,length_cons->awK,mem_singleton->awL,drop_zero->awM,getElem?_eq_none->awN,take_succ_eq_append_getElem->awP,getElem_of_mem->awR,length_set->awS,getElem_map->awW,length_drop->awZ,drop_eq_getElem_cons->axB,length_nil->axC,map_nil->axD,mem_of_getElem?->axF,range'->axI,Sublist->axN,getElem?_range->axO,getElem?_append_right->axR,getElem?_append_left->axU,range_succ->axV,Perm->axY,ext_getElem->axZ,map_congr_left->ayB,nodup_append->ayC,map_map->ayD,map_set->ayE,set_append_right->ayF,map_take->ayN,cons_append->ayQ,getElem?_drop->ayR,getElem?_take->ayS,mem_cons_of_mem->ayT,all_cons->ayX,contains_iff_mem->ayY,getElem?_set->ayZ,nil_append->azA,flatten_cons->azE,length_filter_le->azI,mem_or_eq_of_mem_set->azJ
open Nat renaming zero_le->auY,gcd->avC,le_refl->avD,zero_add->avK,lt_or_ge->avX,le_trans->avZ,mul_le_mul_right->awI,add_zero->awQ,eq_zero_or_pos->axJ,add_assoc->axL,succ_mul->axM,sub_self->axT,pos_of_ne_zero->axX,mul_le_mul->ayA,mul_one->ayG,pow_le_pow_right->ayU,div_eq_of_lt->azC
open Bool renaming and_eq_true->avE,not_true->avH,false_and->avJ,not_false->avP,true_and->avR,and_false->awU,false_eq_true->axH,and_true->axP,and_self->ayJ,and_assoc->ayP
open Option renaming map_some->avS,some->awV,getD_some->axK,bind_some->ayV
open Int renaming toNat_natCast->axA,tdiv->axQ
open List renaming length->Z'
set_option maxRecDepth 100000
set_option maxHeartbeats 800000
open Go.IntKind renaming i64->i_,u64->u_
open Go.PM.PF renaming nil->n_,args->g_
open Go.PM.PH renaming nil->h_
noncomputable section
namespace Go.Proofs.YtjnaciiebeflnaaGreatDoor
open Go Go.PM Go.RowKit Go.ChangeShapes Go.WideShapes
noncomputable def C:Ctx:=⟨Tryz.prog,num⟩
def WC:Code->Option (Code × Code)
 | .rangeFunc _ _ a b=>some (a,b)
 | .seq a b=>match WC a with|some x=>some x|none=>WC b
 | .block _ c=>WC c
 |_=>none
def adJ(c:Option Code):Code:=match c with|some c=>((WC c).getD (.skip,.skip)).1|none=>.skip
def adK(c:Option Code):Code:=match c with|some c=>((WC c).getD (.skip,.skip)).2|none=>.skip
theorem bR{k:Nat}{ro:N_}{fn:Func}{x}(e:C.P.funcs[C.num k]?=some fn)(l:(fn.name=="runtime.NumGoroutine")=false:=by kernel_rfl):bO C k (PM.bP ro fn x):=λ_ _ _ i h=>xv (T:=T ro) rfl rfl e l x.2 i h
theorem adM(T:Tbl){k:Nat}{fn:Func}{pf:GJ}(u:C.P.funcs[C.num k]?=some fn)(l:T.Bt fn=some pf)(i:C.P=T.P:=by rfl)(e:C.num=T.num:=by rfl)(x:(fn.name=="runtime.NumGoroutine")=false:=by kernel_rfl):YD C k pf:=λ_ _ _ w h=>Nt i e u x l w h
theorem Tryz.own:ownKnob Tryz.prog.godebug=none:=by kernel_rfl
theorem Tryz.laidOut:laidOutB Tryz.prog=true:=by kernel_rfl
theorem itoa:GH C:=λn u=>by
 refine⟨⟨Tryz.f62,Tryz.func62,by kernel_rfl,by kernel_rfl⟩,λE w vs x hW i=>?_⟩;obtain⟨y⟩:=vs;cases i with
 |cons l e2=>
 cases e2;cases l;refine(Any.strconv_Itoa_small Tryz.afU n u w).mono λe A he=>?_;obtain⟨rfl,rfl⟩:=he;exact⟨_,.str (cP n),E,.nil,rfl,hW,.str ⟨(Lib.decDigits n).toArray⟩,.refl _ _ _,rfl,rfl⟩
set_option maxRecDepth 100000 in
theorem aoF:ma C:=⟨λo xs i e=>J4 Tryz.Yx (by kernel_rfl) ⟨_,Tryz.func55,by kernel_rfl,by kernel_rfl⟩ o xs i e⟩
theorem R8{pv:PV}(h:PV.Ty (.sl [.int .u8]) pv):∃l:N_,pv=.sl 1 (kG l)/\(∀x∈l,x<256)/\Z' l<=9223372036854775807:=by
 obtain⟨xs,rfl,B,i⟩:=Ty.E5 h;refine⟨xs.map Int.toNat,?_,?_,?_⟩;unfold Ot kG;rw[ayD];congr 1;refine ayB λx u=>?_;have:=(i x u).1;simp only[Function.comp];rw[Int.toNat_of_nonneg this];intro y w;obtain⟨x,e,rfl⟩:=avV.1 w;have:=(i x e).2;have A:=(i x e).1;have e:IntKind.u8.max=255:=by decide
 rw[e]at this;omega;rw[auW];have:maxLen<=9223372036854775807:=by decide
 omega
end Go.Proofs.YtjnaciiebeflnaaGreatDoor
namespace Go.PM
open Go Go.Na



theorem yT.move{f:aD}{L:L2_}(h:yT f L){x k d:Nat}(w:x<Z' L)(A:d<Z' f.atH):yT f (L.set x (L[x].set k d)):=by
 refine⟨by rw[awS];exact h.len,λv u=>?_,λr i=>?_⟩;rw[awS]at u;have:=h.row v u;rw[List.getElem_set];split;rename_i e;subst e;rw[awS];exact this;exact this;rcases azJ i with i|rfl
 exact h.home r i;intro y l;rcases azJ l with l|rfl
 exact h.home _ (avB w) y l;omega


structure Bn(C:Ctx):Prop extends l6 C where
 int:∀n:Int,eI n->aH C 47 [.int .i64 n] .nil (aL (.agg (mkT n 1).cells))
 mul:∀a b,Lim a->Lim b->Z' a<=35184372087808->Z' b<=35184372087808->aH C 36 [aN a,aN b] .nil (aL (opV (fK (val a) (val b)) (val a*val b)))
 add:∀a b,Lim a->Lim b->Z' a<=35184372087808->Z' b<=35184372087808->aH C 30 [aN a,aN b] .nil (aL (opV (fK (val a) (val b)) (val a+val b)))
 sub:∀a b,Lim a->Lim b->Z' a<=35184372087808->Z' b<=35184372087808->aH C 37 [aN a,aN b] .nil (aL (xW (val a) (val b)))
theorem As(a b:Nat):dU a b=(decide (nl b>0)&&(decide (nl b<=128)&&decide (nl a<=128))):=by
 have:=@kD b;refine Bool.eq_iff_iff.2 ?_;rw[iR];simp only[avE,dT_];omega
variable{C:Ctx}
theorem Wo(L:Bn C)(neg:Bool)(a b:N_)(x:Lim a)(hb:Lim b)(y:Z' a<=35184372087808)(w:Z' b<=35184372087808) :
  di.wp C (aW ud.res (aL (.bool (dU (val a) (val b))))) (g_ [.agg (fU neg a b)]) .nil:=by
 rw[As];simp only[go_sem,di,ud];refine aB (L.trim b hb w) rfl ?_;simp only[go_sem,auW,bJ];by_cases l:nl (val b)>0;have e:((nl (val b):Nat):Int)>0:=Om;simp only[go_sem,e];refine aB (L.trim b hb w) rfl ?_;simp only[go_sem,auW,bJ];by_cases u:nl (val b)<=128;have i:((nl (val b):Nat):Int)<=128:=Om;simp only[go_sem,i];refine aB (L.trim a x y) rfl ?_;simp only[go_sem,auW,bJ];refine cL ?_;have:decide (((nl (val a):Nat):Int)<=128)=decide (nl (val a)<=128):=by refine decide_eq_decide.2 ?_;omega
 rw[bL,this,bG l,bG u];rfl;have i:¬((nl (val b):Nat):Int)<=128:=Om;simp only[go_sem,i];refine cL ?_;rw[bL,bS u,avJ,awU];have e:¬((nl (val b):Nat):Int)>0:=Om;simp only[go_sem,e];refine cL ?_;rw[bL,bS l,avJ]
theorem gh{neg:Bool}{a b:Nat}(h:dU a b=true):kI neg a b=.ok (qS neg a b):=by
 obtain⟨u,e,i⟩:=iR.1 h;have l:=(pT (a/avC a b) 128).2 (qd _ i);have e2:=(pT (b/avC a b) 128).2 (qd _ e);unfold kI qS;rw[aC Om]
def Nd(a b:Nat):Bool:=decide (nl a>128)||decide (nl b>128)
theorem Wl(neg:Bool)(a b:N_) :
  df.wp C (aW tu.res (aL (.bool (decide (Z' a>128)||decide (Z' b>128))))) (g_ [.agg (fU neg a b)]) .nil:=by
 simp only[go_sem,df,tu,auW];by_cases c:Z' a>128;have e:(Z' a:Int)>128:=Om;simp only[go_sem,e];refine cL ?_;rw[bL,bG c,Bool.true_or];have e:¬(Z' a:Int)>128:=Om;simp only[go_sem,e,auW];refine cL ?_;have:decide ((Z' b:Int)>128)=decide (Z' b>128):=by refine decide_eq_decide.2 ?_;omega
 rw[bL,this,bS c,Bool.false_or]
def Eh(x:FV):FR:=if Nd x.2.1 x.2.2 then .error 2 else .ok x
theorem aeP(neg:Bool)(a b:Nat):Eh (qS neg a b)=kI neg a b:=by
 have e:=pT (a/avC a b) 128;have e2:=pT (b/avC a b) 128;unfold Eh qS kI Nd;simp only[Bool.or_eq_true,dT_];by_cases c:nl (a/avC a b)>128\/nl (b/avC a b)>128;rw[aF c,aF Om];rw[aC c,aC Om]
structure l8(C:Ctx):Prop extends Bn C where
 valid:∀x:RF,x.Ok->aH C 56 [.agg x.cells] .nil (aL (.bool (dU (val x.num) (val x.den))))
 big:∀x:FV,aH C 48 [.agg x.rf.cells] .nil (aL (.bool (Nd x.2.1 x.2.2)))
theorem acD(L:l8 C)(x:FV):tq.wp C (aW Cv.res (cC (frV (Eh x)))) (g_ [.agg x.rf.cells]) .nil:=by
 simp only[go_sem,tq,Cv];refine aS λo e=>?_;simp only[go_sem];refine aB (L.big x) rfl ?_;unfold Eh;cases Nd x.2.1 x.2.2 with
 |true =>simp only[go_sem];refine kC ?_;simp only[go_sem]
 |false =>obtain⟨n,a,b⟩:=x;simp only[go_sem];exact bC (.inr rfl) .nil (vs:=[.agg (FV.rf (n,a,b)).cells,.int .i64 0]) Sq a_ ⟨.refl _,rfl⟩
theorem Re(L:l8 C)(x:RF)(i:x.Ok):XR.wp C (aW ZR.res (cC (frV (sM x)))) (g_ [.agg x.cells]) .nil:=by
 simp only[go_sem,XR,ZR];refine aS λo w=>?_;simp only[go_sem];refine aB (L.valid x i) rfl ?_;unfold sM;cases l:dU (val x.num) (val x.den)with
 |false =>simp only[go_sem,avP];refine kC ?_;simp only[go_sem]
 |true =>obtain⟨u,y,A⟩:=iR.1 l;have e:=gh (neg:=x.neg) l;rw[aF rfl,e];simp only[go_sem,avH];refine aB (L.lowest x.neg x.num x.den i.1 i.2.1 i.2.2.1 i.2.2.2 Om Om u) rfl ?_;simp only[go_sem];exact bC (.inr rfl) .nil (vs:=[.agg (qS x.neg (val x.num) (val x.den)).rf.cells,.int .i64 0]) Sq a_ ⟨.refl _,rfl⟩
theorem Wn(L:Bn C)(a b:N_)(e:Lim a)(hb:Lim b)(i:Z' a<=35184372087808)(l:Z' b<=35184372087808)(u:nl (val a)<=256)(w:nl (val b)<=256) :
  dh.wp C (aW uc.res (aL (aN (aM (val a*val b))))) (g_ [aN a,aN b]) .nil:=by
 simp only[go_sem,dh,uc];refine aB (L.mul a b e hb i l) rfl ?_;have:=pF u w;rw[jZ Om Om,opV,HZ Om];simp only[go_sem];refine cL ?_;rfl
structure De(C:Ctx):Prop extends l8 C where
 fits:∀x:FV,aH C 57 [.agg x.rf.cells] .nil (aL (frV (Eh x)))
 red:∀x:RF,x.Ok->aH C 52 [.agg x.cells] .nil (aL (frV (sM x)))
 prod:∀a b,Lim a->Lim b->Z' a<=35184372087808->Z' b<=35184372087808->nl (val a)<=256->nl (val b)<=256->aH C 60 [aN a,aN b] .nil (aL (aN (aM (val a*val b))))
def RF.valid(x:RF):Prop:=dU (val x.num) (val x.den)=true
def uR(x y:RF):Int:=uQ x.neg (val x.num) (val x.den) y.neg (val y.num) (val y.den)
def voS:Spec:=λname vs=>match name,vs with
 |60,[x,y]=>some ([],λ_=>aL (aN (aM (val (lJ x)*val (lJ y)))))
 |_,_=>none
theorem CY(a b:N_):voS 60 [aN a,aN b]=some ([],λ_=>aL (aN (aM (val a*val b)))):=by
 show some _=_;rw[fS,fS]
theorem xp(a b:Nat):eZ b a=- eZ a b:=by
 unfold eZ;rcases Nat.lt_trichotomy a b with h|h|h
 rw[aC Om,aF h,aF h];rfl;subst h;rw[aC Om,aC Om];rfl;rw[aF h,aC Om,aF h]
set_option maxHeartbeats 1000000 in
theorem Wm {C : Ctx} (L : De C) (x y : RF) (hx : x.Ok) (hy : y.Ok) (vx : x.valid) (vy : y.valid) : dg.wp C (aW tz.res (aL (.j (uR x y)))) (g_ [.agg x.cells, .agg y.cells]) .nil := by
  obtain ⟨n1, a1, b1⟩ := x;obtain ⟨n2, a2, b2⟩ := y;obtain ⟨ha1, hb1, la1, lb1⟩ := hx;obtain ⟨ha2, hb2, la2, lb2⟩ := hy;obtain ⟨v1, v2, v3⟩ := iR.1 vx;obtain ⟨w1, w2, w3⟩ := iR.1 vy;simp only at ha1 hb1 la1 lb1 ha2 hb2 la2 lb2 v1 v2 v3 w1 w2 w3;have m1 := pF v3 w2;have m2 := pF w3 v2;have hA : decide (val a1 ≠ 0) = decide (nl (val a1 * val b2) > 0) := by refine decide_eq_decide.2 ?_;have := @kD (val a1 * val b2);rw [Nat.mul_eq_zero] at this;omega
  have hB : decide (val a2 ≠ 0) = decide (nl (val a2 * val b1) > 0) := by refine decide_eq_decide.2 ?_;have := @kD (val a2 * val b1);rw [Nat.mul_eq_zero] at this;omega
  unfold uR uQ;simp only [hA, hB];simp only[go_sem,dg,tz];refine bK .nil voS a_ ?_;simp only[go_sem];refine cB (CY a1 b2) (L.prod a1 b2 ha1 hb2 la1 lb2 Om Om) rfl a_ ?_;simp only[go_sem];refine cB (CY a2 b1) (L.prod a2 b1 ha2 hb1 la2 lb1 Om Om) rfl a_ ?_;have hc := L.cmp (aM (val a1 * val b2)) (aM (val a2 * val b1)) (bE _) (bE _) (by rw [bJ]; omega) (by rw [bJ]; omega);have hd := L.cmp (aM (val a2 * val b1)) (aM (val a1 * val b2)) (bE _) (bE _) (by rw [bJ]; omega) (by rw [bJ]; omega);rw [aY, aY] at hc hd;rw [xp (val a1 * val b2)] at hd;generalize val a1 * val b2 = A at *
  generalize val a2 * val b1 = B at *
  have gA : decide (((nl A : Nat) : Int) > 0) = decide (nl A > 0) := decide_eq_decide.2 Om;have gB : decide (((nl B : Nat) : Int) > 0) = decide (nl B > 0) := decide_eq_decide.2 Om;generalize decide (nl A > 0) = p at *
  generalize decide (nl B > 0) = q at *
  cases n1 <;> cases n2 <;> cases p <;> cases q
  all_goals
    simp only[go_sem,auW,bJ,gA,gB]
    first
    | (refine cL ?_; rfl)
    | (refine aB hc rfl ?_
       simp only[go_sem];refine cL ?_;rfl)
    | (refine aB hd rfl ?_
       simp only[go_sem];refine cL ?_;rfl)
structure GL(C:Ctx):Prop extends De C where
 order:∀x y:RF,x.Ok->y.Ok->x.valid->y.valid->aH C 51 [.agg x.cells,.agg y.cells] .nil (aL (.int .i64 (uR x y)))
theorem acG(L:GL C)(x y:RF)(e:x.Ok)(i:y.Ok)(l:x.valid)(u:y.valid):tv.wp C (aW Cw.res (aL (.bool (decide (uR x y<0))))) (g_ [.agg x.cells,.agg y.cells]) .nil:=by
 simp only[go_sem,tv,Cw];refine aB (L.order x y e i l u) rfl ?_;simp only[go_sem];refine cL ?_;rfl
theorem acI(L:GL C)(x y:RF)(e:x.Ok)(i:y.Ok)(l:x.valid)(u:y.valid):t6.wp C (aW Cy.res (aL (.bool (uR x y==0)))) (g_ [.agg x.cells,.agg y.cells]) .nil:=by
 simp only[go_sem,t6,Cy];refine aB (L.order x y e i l u) rfl ?_;simp only[go_sem];refine cL ?_;rfl
theorem MQ(n:Int):mkT n 1=⟨decide (n<0),aM n.natAbs,aM 1⟩:=by
 unfold mkT qS FV.rf;rw[show(1:Int).natAbs=1 from rfl,Nat.gcd_one_right,Nat.div_one,Nat.div_one,show decide ((1:Int)<0)=false from rfl];congr 1;by_cases h:n<0;have:n.natAbs≠0:=Om;simp[h,this];simp[h]
theorem MP(n:Int)(h:eI n):(mkT n 1).Ok/\(mkT n 1).valid:=by
 have e:nl n.natAbs<=2:=sI (by unfold eI at h;omega);rw[MQ];refine⟨⟨bE _,bE _,?_,?_⟩,?_⟩;simp only[bJ];omega;simp only[CN];decide;unfold RF.valid;simp only[aY];rw[As];have:nl 1=1:=by rw[nl,CN];rfl
 simp[this];omega
def xF(x:RF):Int:=if val x.num=0 then 0 else if x.neg then -1 else 1
theorem Z1(x:RF):uR x (mkT 0 1)=xF x:=by
 rw[MQ];unfold uR xF uQ;simp only[aY,show(0:Int).natAbs=0 from rfl,ayG,Nat.zero_mul];by_cases h:val x.num=0;simp[h,eZ];cases x.neg<;>simp[h,eZ]
def viS(r:Int):Spec:=λname _=>if name=47 then some ([],λ_=>aL (.agg (mkT 0 1).cells))else some ([],λ_=>aL (.int .i64 r))
theorem acJ(L:GL C)(x:RF)(l:x.Ok)(u:x.valid):t7.wp C (aW Cz.res (aL (.j (xF x)))) (g_ [.agg x.cells]) .nil:=by
 have e:eI 0:=by unfold eI;omega
 have i:=L.order x (mkT 0 1) l (MP 0 e).1 u (MP 0 e).2;rw[Z1]at i;simp only[go_sem,t7,Cz];refine bK .nil (viS (xF x)) a_ ?_;simp only[go_sem];refine cB rfl (L.int 0 e) rfl a_ ?_;simp only[go_sem];refine cB rfl i rfl a_ ?_;simp only[go_sem];refine cL ?_;rfl
theorem Wi(L:GL C)(l u:Bool)(a1 b1 a2 b2:N_)(S:Lim a1)(M:Lim b1)(U:Lim a2)(N:Lim b2)
  (V:Z' a1<=35184372087808) (O:Z' b1<=35184372087808) (W:Z' a2<=35184372087808) (R:Z' b2<=35184372087808) :
  XN.wp C (aW Iw.res (cC (frV (jN (l,val a1,val b1) (u,val a2,val b2))))) (g_ [.agg (fU l a1 b1),.agg (fU u a2 b2)]) .nil:=by
 have vx:aH C 56 [.agg (fU l a1 b1)] .nil (aL (.bool (dU (val a1) (val b1)))):=L.valid ⟨l,a1,b1⟩ ⟨S,M,V,O⟩;have vy:aH C 56 [.agg (fU u a2 b2)] .nil (aL (.bool (dU (val a2) (val b2)))):=L.valid ⟨u,a2,b2⟩ ⟨U,N,W,R⟩;simp only[go_sem,XN,Iw];refine aS λo ho=>?_;simp only[go_sem];refine aB vx rfl ?_;simp only[jN];cases hv:dU (val a1) (val b1)with
 |false =>simp only[go_sem,avP,avJ];refine kC ?_;simp only[go_sem]
 |true=>
  obtain⟨v1,v2,v3⟩:=iR.1 hv;simp only[go_sem,avH];refine aB vy rfl ?_;cases hw:dU (val a2) (val b2)with
  |false =>simp only[go_sem,avP,awU];refine kC ?_;simp only[go_sem]
  |true=>
   obtain⟨w1,w2,w3⟩:=iR.1 hw;simp only[go_sem,avH,axP];refine bK .nil voS a_ ?_;simp only[go_sem];refine cB (CY a1 b2) (L.prod a1 b2 S N V R Om Om) rfl a_ ?_;simp only[go_sem];refine cB (CY a2 b1) (L.prod a2 b1 U M W O Om Om) rfl a_ ?_;simp only[go_sem];refine cB (CY b1 b2) (L.prod b1 b2 M N O R Om Om) rfl a_ ?_;simp only[go_sem];have m1:=pF v3 w2;have m2:=pF w3 v2;have m3:=pF v2 w2;have d0:val b1*val b2≠0:=Nat.mul_ne_zero v1 w1;generalize hA:val a1*val b2=A at *
   generalize hB:val a2*val b1=B at *
   generalize hD:val b1*val b2=D at *
   have fin:∀(F:PF)(H:PH)(r:FR),(∃i x y e,frV r=.tup [.agg (fU i x y),.j e]/\F 4=some (.ptr o 3 0 0)/\F 5=some (.j e)/\H o=some (.rows 3 [fU i x y]))->aW [.cell 4 (some 3),.tmp 5] (cC (frV r)) .ret F H:=by rintro F H r ⟨i,x,y,e,he,f4,f5,hH⟩;rw[he];exact bC (.inr rfl) .nil (vs:=[.agg (fU i x y),.j e]) (by simp only[go_sem,f4,f5,hH]) a_ ⟨.refl _,rfl⟩
   have eb:(l==u)=decide (l=u):=by cases l<;>cases u<;>rfl
   have low:∀neg x,nl x<=257->aH C 58 [.bool neg,aN (aM x),aN (aM D)] .nil (aL (.agg (qS neg x D).rf.cells)):=by
    intro neg x hx;have h1:(aM x).length<=35184372087808:=by rw[bJ];omega
    have h2:(aM D).length<=35184372087808:=by rw[bJ];omega
    have:=L.lowest neg (aM x) (aM D) (bE _) (bE _) h1 h2;rw[aY,aY]at this;exact this Om Om d0
   have K:∀neg x,aH C 57 [.agg (qS neg x D).rf.cells] .nil (aL (frV (kI neg x D))):=λneg x=>by
    have:=L.fits (qS neg x D)
    rwa[aeP]at this
   have lA:(aM A).length<=35184372087808:=by rw[bJ];omega
   have lB:(aM B).length<=35184372087808:=by rw[bJ];omega
   try simp only[go_sem]
   by_cases c:l=u;rw[aF c];have Z:(l==u)=true:=by rw[eb,bG c]
   simp only[go_sem,Z];have E:=L.add (aM A) (aM B) (bE _) (bE _) lA lB;have α:=Gp m1 m2;rw[aY,aY,jZ Om Om,opV,HZ Om]at E;refine aB E rfl ?_;simp only[go_sem];refine aB (low l _ Om) rfl ?_;simp only[go_sem];refine aB (K l _) rfl ?_;obtain⟨i,x,y,e,w⟩:=AK (kI l (A+B) D);rw[w];simp only[go_sem];rw[<-w];exact fin _ _ _ ⟨i,x,y,e,w,s_,s_,s_⟩;rw[aC c];have Z:(l==u)=false:=by rw[eb,bS c]
   simp only[go_sem,Z];have hc:=L.cmp (aM A) (aM B) (bE _) (bE _) lA lB;rw[aY,aY]at hc;refine aB hc rfl ?_;have J:∀X Y:Nat,nl X<=256->nl Y<=256->Y<=X->aH C 37 [aN (aM X),aN (aM Y)] .nil (aL (.tup [aN (aM (X-Y)),.j 0])):=by intro X Y h1 h2 h;have:=L.sub (aM X) (aM Y) (bE _) (bE _) (by rw[bJ];omega) (by rw[bJ];omega);have h3:=iW (Om:X-Y<=X);rw[aY,aY,xW,jZ Om Om,aC aU,aC Om,HZ Om]at this;exact this
   by_cases g:B<=A;have g':eZ A B>=0:=(YH A B).2 g;rw[aF g];simp only[go_sem,g'];refine aB (J A B Om Om g) rfl ?_;simp only[go_sem];have h3:=iW (Om:A-B<=A);refine aB (low l (A-B) Om) rfl ?_;simp only[go_sem];refine aB (K l _) rfl ?_;obtain⟨i,x,y,e,w⟩:=AK (kI l (A-B) D);rw[w];simp only[go_sem];rw[<-w];exact fin _ _ _ ⟨i,x,y,e,w,s_,s_,s_⟩;have g':¬eZ A B>=0:=λh=>g ((YH A B).1 h);rw[aC g];simp only[go_sem,g'];refine aB (J B A Om Om Om) rfl ?_;simp only[go_sem];have h3:=iW (Om:B-A<=B);refine aB (low u (B-A) Om) rfl ?_;simp only[go_sem];refine aB (K u _) rfl ?_;obtain⟨i,x,y,e,w⟩:=AK (kI u (B-A) D);rw[w];simp only[go_sem];rw[<-w];exact fin _ _ _ ⟨i,x,y,e,w,s_,s_,s_⟩
theorem aiH(L:GL C)(x y:RF)(e:x.Ok)(i:y.Ok):XN.wp C (aW Iw.res (cC (frV (jN x.v y.v)))) (g_ [.agg x.cells,.agg y.cells]) .nil:=
 Wi L x.neg y.neg x.num x.den y.num y.den e.1 e.2.1 i.1 i.2.1 e.2.2.1 e.2.2.2 i.2.2.1 i.2.2.2
structure M1(C:Ctx):Prop extends GL C where
 less:∀x y:RF,x.Ok->y.Ok->x.valid->y.valid->aH C 49 [.agg x.cells,.agg y.cells] .nil (aL (.bool (decide (uR x y<0))))
 same:∀x y:RF,x.Ok->y.Ok->x.valid->y.valid->aH C 53 [.agg x.cells,.agg y.cells] .nil (aL (.bool (uR x y==0)))
 sign:∀x:RF,x.Ok->x.valid->aH C 54 [.agg x.cells] .nil (aL (.int .i64 (xF x)))
 plus:∀x y:RF,x.Ok->y.Ok->aH C 46 [.agg x.cells,.agg y.cells] .nil (aL (frV (jN x.v y.v)))
def vsF(l:List RF)(o2 o4 k:Nat):PF:=((((n_.set 0 (frs l)).set 2 (.ptr o2 3 0 0)).set 4 (.ptr o4 3 0 0)).set 5 (.int .i64 k))
theorem aiK(L:M1 C)(l:List RF)(hl:∀x∈l,x.Ok)(X:Z' l<=9223372036854775807) :
  Aw.wp C (aW BC.res (cC (frV (rT (l.map RF.v))))) (g_ [frs l]) .nil:=by
 have h0:eI 0:=by unfold eI;omega
 have hi:(mkT 0 1).cells=(FV.rf (false,0,1)).cells:=by rw[MQ];rfl
 have B:=L.int 0 h0;rw[hi]at B;simp only[go_sem,Aw,Mp,BC];refine aS λo2 β=>?_;have h1:aQ (h_.set o2 (.rows 3 [[.bool false,.aJ,.aJ]])) [(o2,.rows 3 [[.bool false,.aJ,.aJ]])] []:=aQ.nil.new (H:=h_) rfl _;generalize(h_.set o2 _)=H1 at *
 simp only[go_sem,Mq];refine aB B rfl ?_;simp only[go_sem];refine aS λo4 V=>?_;have h2:=h1.new V (.rows 3 [(FV.rf (false,0,1)).cells]);simp only[go_sem,Mr];refine wp_loop (α:=Nat × FV × PH) (λt=>vsF l o2 o4 t.1) (λt=>t.2.2) (λt=>t.1<=Z' l/\((l.map RF.v).take t.1).foldlM jN (false,0,1)=.ok t.2.1/\aQ t.2.2 [(o2,.rows 3 [[.bool false,.aJ,.aJ]]),(o4,.rows 3 [(FV.rf t.2.1).cells])] []/\(FV.rf t.2.1).Ok) (λt=>Z' l-t.1)
  (0,(false,0,1),_) ⟨auY _,rfl,h2,⟨bE _,bE _,?_,?_⟩⟩ ?_ b_ ?_
 ·show(aM 0).length<=_;rw[iO];simp
 ·show(aM 1).length<=_;rw[CN];simp
 ·unfold vsF;exact Lq
 rintro⟨k,u,W⟩ ⟨hk,N,F,y⟩;simp only at hk N F y ⊢;simp only[go_sem,Mo,Ms,vsF,auW];by_cases hlt:k<Z' l
 ·have w:(k:Int)<(Z' l:Nat):=Om;have hr:(l.map RF.cells)[k]?=some (l[k]).cells:=by simp[hlt]
  have A:=L.plus (FV.rf u) l[k] y (hl _ (avB hlt));rw[FV.akV]at A;have i:=be (f:=jN) (l.map RF.v) (false,0,1) (k:=k) (by simpa using hlt);rw[N]at i;simp only[Except.bind,awW]at i;have O:=F.at 1 rfl;simp only[go_sem,w];refine bK .nil (λ_ _=>some ([],λ_=>aL (frV (jN u (l[k]).v)))) a_ ?_;simp only[go_sem,Mt,O,hr];refine cB rfl A rfl a_ ?_;cases he:jN u (l[k]).v with
  |error e=>
   have U:e≠0:=by
    revert he;obtain⟨n1,a1,b1⟩:=u;obtain⟨n2,a2,b2⟩:=(l[k]).v;simp only[jN,kI]
    repeat' split
    all_goals (intro h;first|(injection h with h;subst h;decide)|cases h)
   rw[he]at i;simp only[go_sem,frV];refine aS λo6 E=>?_;simp only[go_sem];refine⟨a_,?_⟩;have J:=F.new E (.rows 3 [[.bool false,aN [],aN []]]);have e2:=J.at 0 rfl;simp only[go_sem,xh,cY U,Mu,e2];rw[rT,np _ _ i];refine kC ?_;simp only[go_sem]
  |ok r=>
   rw[he]at i;obtain⟨rn,K,M⟩:=r;simp only[go_sem,frV];refine aS λo6 E=>?_;simp only[go_sem];refine⟨a_,?_⟩;have J:=F.new E (.rows 3 [(FV.rf (rn,K,M)).cells]);have Z:=J.at 2 rfl;have R:=J.at 1 rfl;generalize hG:W.set o6 (.rows 3 [(FV.rf (rn,K,M)).cells])=Y at *
   have S:W.set o6 (.rows 3 [[.bool rn,aN (aM K),aN (aM M)]])=Y:=hG;simp only[go_sem,xh,Mv,S,Z,R,Mw,wZz k];have h7:=(J.set 1 rfl (.rows 3 [(FV.rf (rn,K,M)).cells])).xA 2;refine aE (k+1,(rn,K,M),_) ⟨hlt,i,h7,uz he⟩ sO_ ?_ b_;exact Lq
 ·have w:¬(k:Int)<(Z' l:Nat):=Om;have:k=Z' l:=Om;subst this;rw[avT aZ]at N;rw[rT,N];have e2:=F.at 0 rfl;have O:=F.at 1 rfl;obtain⟨n,a,b⟩:=u;simp only[go_sem,w,I1,O,e2];exact bC (.inr rfl) .nil (vs:=[.agg (FV.rf (n,a,b)).cells,.j 0]) Sq a_ ⟨.refl _,rfl⟩
theorem dge{n:Nat}(k:Nat):decide ((n:Int)>=(k:Int))=decide (k<=n):=decide_eq_decide.2 Om
theorem dle{n:Nat}(k:Nat):decide ((n:Int)<=(k:Int))=decide (n<=k):=decide_eq_decide.2 Om
theorem Ri(n:Nat):XW.wp C (aW ZU.res (aL (.bool (gP n)))) (g_ [.int .u8 n]) .nil:=by
 have e:=dge (n:=n) 97;have i:=dle (n:=n) 122;have l:=dge (n:=n) 65;have u:=dle (n:=n) 90;simp only[Int.cast_ofNat_Int]at e i l u;unfold gP;generalize decide (97<=n)=a at *
 generalize decide (n<=122)=b at *
 generalize decide (65<=n)=c at *
 generalize decide (n<=90)=d at *
 cases a<;>cases b<;>cases c<;>cases d
 all_goals
  simp only[go_sem,XW,ZU,e,i,l,u];refine cL ?_;rfl
theorem Wp(n:Nat):dj.wp C (aW ug.res (aL (.bool (qA n)))) (g_ [.int .u8 n]) .nil:=by
 have e:=dge (n:=n) 48;have i:=dle (n:=n) 57;simp only[Int.cast_ofNat_Int]at e i;unfold qA;generalize decide (48<=n)=a at *
 generalize decide (n<=57)=b at *
 cases a<;>cases b
 all_goals
  simp only[go_sem,dj,ug,e,i];refine cL ?_;rfl
theorem Rf(e:∀n:Nat,aH C 65 [.int .u8 n] .nil (aL (.bool (gP n))))(i:∀n:Nat,aH C 63 [.int .u8 n] .nil (aL (.bool (qA n))))(n:Nat) :
  XU.wp C (aW ZS.res (aL (.bool (iJ n)))) (g_ [.int .u8 n]) .nil:=by
 have g1:((n:Int)==45)=decide (n=45):=by by_cases h:n=45<;>simp[h];omega
 have g2:((n:Int)==46)=decide (n=46):=by by_cases h:n=46<;>simp[h];omega
 have k1:=e n;have k2:=i n;unfold iJ;generalize decide (n=45)=a at *
 generalize decide (n=46)=b at *
 simp only[go_sem,XU,ZS];refine aB k1 rfl ?_;cases gP n with
 |true =>simp only[go_sem];refine cL ?_;rfl
 |false=>
  simp only[go_sem];refine aB k2 rfl ?_;cases qA n<;>cases a<;>cases b
  all_goals
   simp only[go_sem,g1,g2];refine cL ?_;rfl
theorem Rh(E:∀n:Nat,aH C 65 [.int .u8 n] .nil (aL (.bool (gP n))))(F:∀n:Nat,aH C 64 [.int .u8 n] .nil (aL (.bool (iJ n))))(s:List UInt8) :
  XV.wp C (aW ZT.res (aL (.bool (isName s)))) (g_ [.str s]) .nil:=by
 simp only[go_sem,XV,ZT];cases s with
 |nil =>have B:decide (((0:Nat):Int)<1)=true:=rfl;simp only[go_sem,axC,B];refine cL ?_;rfl
 |cons c t=>
  have J:(c::t)[0]?=some c:=rfl;have l:isName (c::t)=(decide ((c::t).length<=16)&&gP c.toNat&&(c::t).all λc=>iJ c.toNat):=rfl;have i:¬(((c::t).length:Nat):Int)<1:=by simp only[awK];omega
  generalize c::t=s at *
  by_cases A:Z' s<=16
  ·have u:¬(Z' s:Int)>16:=Om;rw[bG A,avR]at l;have k1:=E c.toNat;simp only[go_sem,i,u,J,avS];refine aB k1 rfl ?_;cases y:gP c.toNat with
   |false =>simp only[go_sem,avP];refine cL ?_;rw[bL,l,y,avJ]
   |true=>
    rw[y,avR]at l;simp only[go_sem,avH];refine wp_loop (α:=Nat) (λk=>((n_.set 0 (.str s)).set 3 (.j k))) (λ_=>.nil) (λk=>k<=Z' s/\(s.take k).all (λc=>iJ c.toNat)=true) (λk=>Z' s-k) 0 ⟨auY _,rfl⟩ Lq a_ ?_;rintro k ⟨K,w⟩;simp only[go_sem];by_cases hlt:k<Z' s
    ·have e:(k:Int)<(Z' s:Nat):=Om;have x:s[k]?=some s[k]:=avF hlt;have k2:=F (s[k]).toNat;simp only[go_sem,e,x,avS];refine aB k2 rfl ?_;cases hi:iJ (s[k]).toNat with
     |false =>simp only[go_sem,avP];refine cL ?_;rw[bL,l,uF hlt hi]
     |true =>simp only[go_sem,avH,wZz k];exact aE (k+1) ⟨hlt,by simpa using uE hlt w hi⟩ Om Lq b_
    have e:¬(k:Int)<(Z' s:Nat):=Om;have:k=Z' s:=Om;subst this;rw[avW]at w;simp only[go_sem,e];refine cL ?_;rw[bL,l,w]
  have u:(Z' s:Int)>16:=Om;rw[bS A,avJ,avJ]at l;simp only[go_sem,i,u];refine cL ?_;rw[bL,l]
def NN(k m:Int):Bool:=within k 1 6&&(within m 0 4&&decide (k+m<=8))
theorem aaT(k m:Int):wA.wp C (aW IZ.res (aL (.bool (NN k m)))) (g_ [.j k,.j m]) .nil:=by
 unfold NN within;by_cases e:1<=k;by_cases i:k<=6;by_cases l:0<=m;by_cases u:m<=4;have w:i_.wrap (k+m)=k+m:=wrap_i64 Om Om;simp only[go_sem,wA,IZ,ge_iff_le,e,i,l,u,w];refine cL ?_;simp[bL,e,i,l,u];simp only[go_sem,wA,IZ,ge_iff_le,e,i,l,u];refine cL ?_;simp[bL,e,i,l,u];simp only[go_sem,wA,IZ,ge_iff_le,e,i,l];refine cL ?_;simp[bL,e,i,l];simp only[go_sem,wA,IZ,ge_iff_le,e,i];refine cL ?_;simp[bL,e,i];simp only[go_sem,wA,IZ,ge_iff_le,e];refine cL ?_;simp[bL,e]
theorem Rq(n lo hi:Int):IE.wp C (aW NE.res (aL (.bool (within n lo hi)))) (g_ [.j n,.j lo,.j hi]) .nil:=by
 unfold within;by_cases h:lo<=n;simp only[go_sem,IE,NE,ge_iff_le,h];refine cL ?_;simp[bL,h];simp only[go_sem,IE,NE,ge_iff_le,h];refine cL ?_;simp[bL,h]
def uW(a b c d e f:Nat):Bool:=decide (a<=4)&&(decide (b<=4)&&(decide (c<=40)&&(decide (d<=24)&&(decide (e<=4)&&decide (f<=12)))))
theorem Wz(a b c d e f:Nat):du.wp C (aW um.res (aL (.bool (uW a b c d e f)))) (g_ [.j a,.j b,.j c,.j d,.j e,.j f]) .nil:=by
 have g:∀x k:Nat,decide ((x:Int)<=(k:Int))=decide (x<=k):=λx k=>decide_eq_decide.2 Om;have i:=g a 4;have l:=g b 4;have u:=g c 40;have w:=g d 24;have h5:=g e 4;have y:=g f 12;simp only[Int.cast_ofNat_Int]at i l u w h5 y;unfold uW;simp only[go_sem,du,um,i];cases decide (a<=4)with
 |false =>simp only[go_sem];refine cL ?_;rfl
 |true=>
  simp only[go_sem,l];cases decide (b<=4)with
  |false =>simp only[go_sem];refine cL ?_;rfl
  |true=>
   simp only[go_sem,u];cases decide (c<=40)with
   |false =>simp only[go_sem];refine cL ?_;rfl
   |true=>
    simp only[go_sem,w];cases decide (d<=24)with
    |false =>simp only[go_sem];refine cL ?_;rfl
    |true=>
     simp only[go_sem,h5];cases decide (e<=4)with
     |false =>simp only[go_sem];refine cL ?_;rfl
     |true =>simp only[go_sem,y];refine cL ?_;rfl
structure lm(C:Ctx):Prop extends M1 C where
 sum:∀l:List RF,(∀x∈l,x.Ok)->Z' l<=9223372036854775807->aH C 55 [frs l] .nil (aL (frV (rT (l.map RF.v))))
 inn:∀n lo hi:Int,aH C 76 [.int .i64 n,.int .i64 lo,.int .i64 hi] .nil (aL (.bool (within n lo hi)))
 code:∀k m:Int,aH C 61 [.int .i64 k,.int .i64 m] .nil (aL (.bool (NN k m)))
def QH(k m q s0 s1 s2 s3 s4:Int):Bool:=NN k m&&(within q k (k+m)&&(decide (s0=0)&&(within s1 0 8&&(within s2 0 8&&(within s3 0 8&&within s4 0 8)))))
theorem agP(p:cO):QG p=QH p.k p.m p.auI p.s0 p.s1 p.s2 p.s3 p.s4:=by
 unfold QG QH NN;have:within p.s0 0 8=true\/p.s0≠0:=by by_cases h:p.s0=0;rw[h];exact .inl rfl;exact .inr h
 simp only[ayX,List.all_nil,axP];rcases this with h|h
 rw[h];simp only[avR,ayP];simp only[h,decide_false,avJ,awU]
def spR(s1 s2 s3 s4:Int)(k:Nat):Int:=match k with
 |1=>s1
 |2=>s2
 |3=>s3
 |_=>s4
theorem Kh(L:lm C)(k m q s0 s1 s2 s3 s4:Int) :
  TI.wp C (aW SO.res (aL (.bool (QH k m q s0 s1 s2 s3 s4)))) (g_ [.j k,.j m,.j q,.agg [.j s0,.j s1,.j s2,.j s3,.j s4]]) .nil:=by
 obtain⟨X,w⟩:∃X,QH k m q s0 s1 s2 s3 s4=X:=⟨_,rfl⟩;rw[w];unfold QH at w;simp only[go_sem,TI,SO];refine aB (L.code k m) rfl ?_;cases J:NN k m with
 |false =>rw[J,avJ]at w;simp only[go_sem,avP];refine cL ?_;rw[bL,w]
 |true=>
  rw[J,avR]at w;have hb:1<=k/\k<=6/\0<=m/\m<=4:=by simp only[NN,avE,within_iff]at J;omega
  have U:i_.wrap (k+m)=k+m:=wrap_i64 Om Om;simp only[go_sem,avH,U];refine aB (L.inn q k (k+m)) rfl ?_;cases M:within q k (k+m)with
  |false =>rw[M,avJ]at w;simp only[go_sem,avP];refine cL ?_;rw[bL,w]
  |true=>
   rw[M,avR]at w;have F:(0:Int)<((5:Nat):Int):=by decide
   by_cases K:s0=0
   ·rw[bG K,avR]at w;simp only[go_sem,avH,F,cF K];refine wp_loop (α:=Nat) (λj=>((n_.set 7 (.aX [.j s0,.j s1,.j s2,.j s3,.j s4])).set 9 (.j j))) (λ_=>.nil) (λj=>1<=j/\j<=5/\∀i,1<=i->i<j->within (spR s1 s2 s3 s4 i) 0 8=true) (λj=>5-j) 1 ⟨by decide,by decide,λi J M=>by omega⟩ Lq a_ ?_;rintro j ⟨O,R,l⟩;simp only[go_sem];by_cases hlt:j<5
    ·have u:(j:Int)<5:=Om;have A:((j:Nat):Int)<((5:Nat):Int):=Om;have y:=L.inn (spR s1 s2 s3 s4 j) 0 8;obtain⟨c,x⟩:∃c,within (spR s1 s2 s3 s4 j) 0 8=c:=⟨_,rfl⟩;rw[x]at y;have B:c=true->∀i,1<=i->i<j+1->within (spR s1 s2 s3 s4 i) 0 8=true:=λE i a b=>by
      by_cases e:i=j
      ·rw[e,x,E]
      ·exact l i a Om
     have bad:c=false->X=false:=by intro h;rw[h]at x;have E:j=1\/j=2\/j=3\/j=4:=Om;rw[<-w];rcases E with rfl|rfl|rfl|rfl<;>(simp only[spR]at x;rw[x];simp)
     have E:j=1\/j=2\/j=3\/j=4:=Om;cases c with
     |false=>
      have N:=bad rfl;rcases E with rfl|rfl|rfl|rfl
      all_goals
       simp only[spR]at y;simp only[go_sem,u,A];refine aB y rfl ?_;simp only[go_sem,avP];refine cL ?_;rw[bL,N]
     |true=>
      have S:=B rfl;rcases E with rfl|rfl|rfl|rfl
      all_goals
       simp only[spR]at y;simp only[go_sem,u,A];refine aB y rfl ?_;simp only[go_sem,avH];refine aE (_+1) ⟨by omega,hlt,S⟩ Om Lq b_
    ·have u:¬(j:Int)<5:=Om;have:j=5:=Om;subst this;simp only[go_sem,u];refine cL ?_;have a1:=l 1 aU aU;have a2:=l 2 aU aU;have a3:=l 3 aU aU;have a4:=l 4 aU aU;simp only[spR]at a1 a2 a3 a4;rw[bL,<-w,a1,a2,a3,a4];rfl
   ·rw[bS K,avJ]at w;simp only[go_sem,avH,F,cY K];refine cL ?_;rw[bL,w]
theorem vN{x:RF}(h:dS x=true):x.valid:=by
 unfold dS sM at h;unfold RF.valid;cases e:dU (val x.num) (val x.den)with
 |true=>rfl
 |false =>rw[e]at h;simp at h
theorem W0(L:lm C)(x:RF)(A:x.Ok):dw.wp C (aW uo.res (aL (.bool (dS x)))) (g_ [.agg x.cells]) .nil:=by
 have y:=L.red x A;unfold dS;simp only[go_sem,dw,uo];refine aB y rfl ?_;cases he:sM x with
 |error e =>have u:=Hi he;simp only[go_sem,frV];refine aS λo w=>?_;simp only[go_sem,bA u];refine cL ?_;rfl
 |ok r=>
  obtain⟨n,a,b⟩:=r;have B:=pT a 1;have E:=pT b 1;have i:decide (((nl a:Nat):Int)<=1)=decide (dC a<=32):=decide_eq_decide.2 Om;have l:decide (((nl b:Nat):Int)<=1)=decide (dC b<=32):=decide_eq_decide.2 Om;simp only[go_sem,frV];refine aS λo w=>?_;cases n with
  |true =>simp only[go_sem,avH];refine cL ?_;rfl
  |false=>
   simp only[go_sem,avP,auW,bJ,i];cases decide (dC a<=32)with
   |false =>simp only[go_sem];refine cL ?_;rfl
   |true =>simp only[go_sem,auW,bJ,l];refine cL ?_;rfl
structure ut(C:Ctx):Prop extends lm C where
 small:∀x:RF,x.Ok->aH C 74 [.agg x.cells] .nil (aL (.bool (dS x)))
 nums:∀k m q s0 s1 s2 s3 s4:Int,aH C 72 [.int .i64 k,.int .i64 m,.int .i64 q,.agg [.int .i64 s0,.int .i64 s1,.int .i64 s2,.int .i64 s3,.int .i64 s4]] .nil (aL (.bool (QH k m q s0 s1 s2 s3 s4)))
 sizes:∀a b c d e f:Nat,aH C 73 [.int .i64 a,.int .i64 b,.int .i64 c,.int .i64 d,.int .i64 e,.int .i64 f] .nil (aL (.bool (uW a b c d e f)))
theorem nr{l:List RF}{k:Nat}(h:k<Z' l):(l.map RF.cells)[k]?=some (l[k]).cells:=by simp[h]
theorem Rp(L:ut C)(l:List RF)(w:mP l)(n:Int):XZ.wp C (aW ZV.res (aL (.bool (decide ((Z' l:Int)=n)&&l.all dS)))) (g_ [frs l,.j n]) .nil:=by
 have x:=w.fits;unfold Fits at x;simp only[go_sem,XZ,ZV,auW];by_cases h:(Z' l:Int)=n;rw[bG h,avR];subst h;simp only[go_sem,cF (show(Z' l:Int)=(Z' l:Nat)from rfl)];refine wp_loop (α:=Nat) (λk=>(((n_.set 0 (frs l)).set 1 (.j (Z' l:Nat))).set 5 (.j k))) (λ_=>.nil) (λk=>k<=Z' l/\(l.take k).all dS=true) (λk=>Z' l-k) 0 ⟨auY _,rfl⟩ Lq a_ ?_;rintro k ⟨A,i⟩;simp only[go_sem];by_cases hlt:k<Z' l
 ·have e:(k:Int)<(Z' l:Nat):=Om;have y:=L.small l[k] (w.all _ (avB hlt));simp only[go_sem,e,nr hlt];refine aB y rfl ?_;cases hi:dS l[k]with
  |false =>simp only[go_sem,avP];refine cL ?_;rw[bL,uF hlt hi]
  |true =>have u:=awA.1 (uE hlt i hi);simp only[go_sem,avH,wZz k];exact aE (k+1) ⟨hlt,u⟩ Om Lq b_
 have e:¬(k:Int)<(Z' l:Nat):=Om;have:k=Z' l:=Om;subst this;rw[avW]at i;simp only[go_sem,e];refine cL ?_;rw[bL,i];rw[bS h,avJ];simp only[go_sem,cY h];refine cL ?_;rfl
structure uu(C:Ctx):Prop extends ut C where
 smalls:∀l:List RF,mP l->∀n:Int,aH C 75 [frs l,.int .i64 n] .nil (aL (.bool (decide ((Z' l:Int)=n)&&l.all dS)))
theorem RI(x:RF):(xF x==0)=!bW x:=by
 unfold xF bW;by_cases h:val x.num=0;simp[h];cases x.neg<;>simp[h]
def jt(l:List RF)(m:Int):Bool:=decide ((Z' l:Int)=max m 1)&&l.all dS&&l.all bW
theorem aiS(L:uu C)(l:List RF)(y:mP l)(m:Int):A4.wp C (aW Ro.res (aL (.bool (jt l m)))) (g_ [frs l,.j m]) .nil:=by
 have B:=y.fits;unfold Fits at B;have F:=L.smalls l y (max m 1);unfold jt;simp only[go_sem,A4,Ro,max_eq];refine aB F rfl ?_;cases h:(decide ((Z' l:Int)=max m 1)&&l.all dS)with
 |false =>simp only[go_sem,avP];refine cL ?_;rfl
 |true=>
  rw[avE]at h;have i:=awA.1 h.2;simp only[go_sem,avH];refine wp_loop (α:=Nat) (λk=>((n_.set 0 (frs l)).set 5 (.j k))) (λ_=>.nil) (λk=>k<=Z' l/\(l.take k).all bW=true) (λk=>Z' l-k) 0 ⟨auY _,rfl⟩ Lq a_ ?_;rintro k ⟨J,w⟩;simp only[go_sem,auW];by_cases hlt:k<Z' l
  ·have e:(k:Int)<(Z' l:Nat):=Om;have A:=avB hlt;have E:=L.sign l[k] (y.all _ A) (vN (i _ A));have u:=RI l[k];simp only[go_sem,e,nr hlt];refine aB E rfl ?_;cases hi:bW l[k]with
   |false =>rw[hi]at u;simp only[go_sem,u,avP];refine cL ?_;rw[bL,uF hlt hi]
   |true =>rw[hi]at u;have x:=awA.1 (uE hlt w hi);simp only[go_sem,u,avH,wZz k];exact aE (k+1) ⟨hlt,x⟩ Om Lq b_
  have e:¬(k:Int)<(Z' l:Nat):=Om;have:k=Z' l:=Om;subst this;rw[avW]at w;simp only[go_sem,e];refine cL ?_;rw[bL,w]
structure uv(C:Ctx):Prop extends uu C where
 reps:∀l:List RF,mP l->∀m:Int,aH C 66 [frs l,.int .i64 m] .nil (aL (.bool (jt l m)))
def frD:V_->RF
 |[.bool n,a,b]=>⟨n,lJ a,lJ b⟩
 |_=>⟨false,[],[]⟩
theorem x4(x:RF):frD x.cells=x:=by
 show(⟨x.neg,lJ (aN x.num),lJ (aN x.den)⟩:RF)=x;rw[fS,fS]
def zdS(r s:Bool):Spec:=λname vs=>match name,vs with
 |66,_=>some ([],λ_=>aL (.bool r))
 |74,[.agg cs]=>some ([],λ_=>aL (.bool (dS (frD cs))))
 |47,_=>some ([],λ_=>aL (.agg (mkT 1 1).cells))
 |49,_=>some ([],λ_=>aL (.bool s))
 |_,_=>none
theorem A1(r s:Bool)(x:RF):zdS r s 74 [.agg x.cells]=some ([],λ_=>aL (.bool (dS x))):=by
 show some ([],λ_=>aL (.bool (dS (frD x.cells))))=_;rw[x4]
theorem Ul(x y:RF):uR y x=- uR x y:=by
 unfold uR uQ;have e:=xp (val x.num*val y.den) (val y.num*val x.den);cases x.neg&&decide (val x.num≠0)<;>cases y.neg&&decide (val y.num≠0)<;>simp only[e,Int.neg_neg]<;>rfl
theorem Zy{x:RF}(e:x.valid):decide (uR (mkT 1 1) x<0)=!DG x:=by
 rw[Ul x];unfold DG;rw[show dU (val x.num) (val x.den)=true from e,avR,MQ];unfold uR;simp only[aY,show(1:Int).natAbs=1 from rfl,show decide ((1:Int)<0)=false from rfl];by_cases h:uQ x.neg (val x.num) (val x.den) false 1 1<=0;rw[bG h,bS Om];rfl;rw[bS h,bG Om];rfl
def UK(m:Int)(rep:List RF)(t h:RF):Bool:=jt rep m&&(dS t&&(DG t&&dS h))
theorem aiQ(L:uv C)(m:Int)(rep:List RF)(x:mP rep)(t h:RF)(u:t.Ok)(w:h.Ok) :
  A2.wp C (aW Rm.res (aL (.bool (UK m rep t h)))) (g_ [.j m,frs rep,.agg t.cells,.agg h.cells]) .nil:=by
 have i:eI 1:=by unfold eI;omega
 unfold UK;simp only[go_sem,A2,Rm];refine bK .nil (zdS (jt rep m) (!DG t)) a_ ?_;simp only[go_sem];refine cB rfl (L.reps rep x m) rfl a_ ?_;cases jt rep m with
 |false =>simp only[go_sem];refine cL ?_;rfl
 |true=>
  simp only[go_sem];refine cB (A1 _ _ t) (L.small t u) rfl a_ ?_;cases l:dS t with
  |false =>simp only[go_sem];refine cL ?_;rfl
  |true=>
   have e:=L.less (mkT 1 1) t (MP 1 i).1 u (MP 1 i).2 (vN l);rw[Zy (vN l)]at e;simp only[go_sem];refine cB rfl (L.int 1 i) rfl a_ ?_;simp only[go_sem];refine cB rfl e rfl a_ ?_;cases DG t with
   |false =>simp only[go_sem,avP,avH];refine cL ?_;rfl
   |true =>simp only[go_sem,avH,avP];refine cB (A1 _ _ h) (L.small h w) rfl a_ ?_;simp only[go_sem];refine cL ?_;rfl
theorem ajU(p:cO):IW p=UK p.m p.repair p.target p.atU:=by
 unfold IW UK jt;have:(p.repair.all λx=>dS x&&bW x)=(p.repair.all dS&&p.repair.all bW):=by
  induction p.repair with
  |nil=>rfl
  |cons a t e =>simp only[ayX,e];cases dS a<;>cases bW a<;>simp
 rw[this];simp only[ayP]
section
variable {H:PH} {B:List BX} {L:List LI}
theorem aQ.M7(h:aQ H B L)(i:Nat){s b:Nat}{v y:PV}{rows src:P2_}{K:R_}(hi:L[i]?=some (v,s,rows))(E:dH H s y=some src)(A:roomFor rows.length src.length b)
  (u:∀v' H',bF H' s v rows->aQ H' B (L.set i (v',s,rows++src))->K v' H'):kJ H s b v y K:=by
 rcases h.own i hi with⟨rfl,rfl⟩|⟨q,rs,rfl,h1,h2,h3⟩
 exact h.append i hi E A λv' H' F _=>u v' H' (.inl ⟨rfl,rfl⟩) F;have e:(rows++src).length=Z' rows+Z' src:=auZ;refine⟨src,E,rfl,rfl,A,rs,h1,h2,?_,λo l=>?_⟩;rw[h3];refine u _ _ (.inr ⟨q,rows++src,rfl,by rw[cE],by rw[e];omega,List.take_left' rfl⟩) (h.RX i hi (.inr ⟨q,rows++src,by rw[e],by simp only[aP,if_true],avD _,avW⟩) (λp hp=>by cases hp;exact .inl rfl) λp _ hp=>?_);rw[aP,aC (hp q rfl)];rw[h3];have x:q≠o:=by rintro rfl;rw[h1]at l;cases l
 refine u _ _ (.inr ⟨q,rs,rfl,by rw[aP,aC x];exact h1,h2,h3⟩) (h.RX i hi (.inr ⟨o,rows++src,by rw[e],by simp only[aP,if_true],avD _,avW⟩) (λp hp=>by cases hp;exact .inr l) λp w hp=>?_);obtain⟨f1,f2⟩:=h.fresh l;have J:p≠o:=by rintro rfl;exact w.elim f1 f2
 rw[aP,aC J]
end
abbrev qL(l:List (List UInt8)):P2_:=l.map λs=>[PV.str s]
def HC:List (List UInt8)->List UInt8->Nat->Int
 |[],_,_=>-1
 |x::t,s,i=>if x==s then(i:Int)else HC t s (i+1)
theorem Ez(s:List UInt8):∀(l:List (List UInt8)) (i:Nat),decide (HC l s i<0)=!l.contains s
 |[],i=>rfl
 |x::t,i=>by rw[HC,List.contains_cons,BEq.comm (a:=s)];by_cases h:(x==s)=true;rw[aF h,h,Bool.true_or,bS Om];rfl;rw[aC h,Ez s t (i+1)];simp only[Bool.not_eq_true]at h;rw[h,Bool.false_or]
theorem Wx(l:List (List UInt8))(y:Z' l<=1000000)(s:List UInt8):dt.wp C (aW ul.res (aL (.j (HC l s 0)))) (g_ [.sl 1 (qL l),.str s]) .nil:=by
 simp only[go_sem,dt,ul];refine wp_loop (α:=Nat) (λk=>(((n_.set 0 (.sl 1 (qL l))).set 1 (.str s)).set 5 (.j k))) (λ_=>.nil) (λk=>k<=Z' l/\HC l s 0=HC (l.drop k) s k) (λk=>Z' l-k) 0 ⟨auY _,rfl⟩ Lq a_ ?_;rintro k ⟨x,i⟩;simp only[go_sem,auW];by_cases hlt:k<Z' l
 ·have e:(k:Int)<(Z' l:Nat):=Om;have u:(qL l)[k]?=some [.str l[k]]:=by simp[hlt]
  rw[axB hlt,HC]at i;cases w:l[k]==s with
  |true =>rw[w,aF rfl]at i;simp only[go_sem,e,u,w];refine cL ?_;rw[bL,i]
  |false =>rw[w,aC aU]at i;simp only[go_sem,e,u,w,wZz k];exact aE (k+1) ⟨hlt,i⟩ Om Lq b_
 have e:¬(k:Int)<(Z' l:Nat):=Om;have:k=Z' l:=Om;subst this;rw[List.drop_length,HC]at i;simp only[go_sem,e];refine cL ?_;rw[bL,i]
structure uw(C:Ctx):Prop extends uv C where
 name:∀s:List UInt8,aH C 62 [.str s] .nil (aL (.bool (isName s)))
 index:∀(l:List (List UInt8)),Z' l<=1000000->∀s:List UInt8,aH C 71 [.sl 1 (qL l),.str s] .nil (aL (.int .i64 (HC l s 0)))
def lN(l:List (List UInt8))(s:List UInt8):Bool:=isName s&&!l.contains s
def lf(l:List (List UInt8))(s:List UInt8)(r:PV)(B:List BX)(L:List LI):Prop:=∃e,r=.tup [e,.bool (lN l s)]/\B=[]/\L=[(e,1,qL (l++[s]))]
theorem Ww(L:uw C)(l:List (List UInt8))(V:Z' l<=1000000)(s:List UInt8)(w:PV)(H:PH)(S:aQ H [] [(w,1,qL l)]) :
  dp.wp C (aW uk.res (λr H'=>∃B' L',lf l s r B' L'/\aQ H' B' L')) (g_ [w,.str s]) H:=by
 have y:=L.index l V s;have M:=L.name s;have u:=Ez s l 0;have K:(1:Nat)*1<=16777216:=by decide
 have fin:∀(F:PF)(H':PH)(i:PV)(b:Bool),F 4=some i->F 5=some (.bool b)->b=lN l s->aQ H' [] [(i,1,qL (l++[s]))]->aW [.tmp 4,.tmp 5] (λr H'=>∃B' L',lf l s r B' L'/\aQ H' B' L') .ret F H':=λF H' i b O R e J=>
  bC (vs:=[i,.bool b]) (.inr rfl) H' (by simp only[go_sem,O,R]) b_ ⟨[],_,⟨i,by rw[e];rfl,rfl,rfl⟩,J⟩
 simp only[go_sem,dp,uk,K];refine S.M7 0 (src:=[[.str s]]) rfl rfl (by unfold roomFor;rw[auW];simp only[avG,maxLen];omega) λi H' U J=>?_;have x:aQ H' [] [(i,1,qL (l++[s]))]:=by
  have e:qL (l++[s])=qL l++[[.str s]]:=by simp[qL]
  rw[e];exact J
 refine aB M rfl ?_;cases N:isName s with
 |false =>simp only[go_sem];exact fin _ _ i false rfl rfl (by unfold lN;rw[N,avJ]) x
 |true=>
  have A:lN l s=!l.contains s:=by unfold lN;rw[N,avR]
  rcases U with⟨W,rfl⟩|⟨q,rs,rfl,q1,q2,q3⟩
  simp only[go_sem];rw[W]at y;have E:aH C 71 [.aJ,.str s] .nil (aL (.j (HC l s 0))):=y.args (.cons (.nil 1) (.cons (.refl _) .nil));refine aB E rfl ?_;simp only[go_sem,u];exact fin _ _ i _ rfl rfl A.symm x;simp only[go_sem];refine Kb (vs:=[.osl q 1 0 (qL l).length,.str s]) (.int .i64 (HC l s 0)) ?_ q1 Sq ?_;rw[awE,awE,axD,AM q2,q3];exact y;simp only[go_sem,u];exact fin _ _ i _ rfl rfl A.symm x
theorem Vv{x:RF}(h:dS x=true):decide (xF x>0)=bW x:=by
 have i:=vN h;unfold dS sM at h;rw[show dU (val x.num) (val x.den)=true from i,aF rfl,gh i]at h;unfold xF bW;by_cases e:val x.num=0;simp[e];have hq:val x.num/avC (val x.num) (val x.den)≠0:=by have:=Nat.div_pos (Nat.gcd_le_left (val x.den) (axX e)) (Nat.gcd_pos_of_pos_left _ (axX e));omega
 have l:x.neg=false:=by unfold qS at h;simp only[hq,ne_eq,not_false_eq_true,decide_true,axP,avE]at h;simpa using h.1
 rw[aC e,l];simp[e]
structure C7(l:cU):Prop where
 exit:∀x∈l.exit,dS x=true
 row:∀r∈l.atM,∀x∈r,dS x=true
structure vE(C:Ctx):Prop extends uw C where
 fresh:∀(l:List (List UInt8)),Z' l<=1000000->∀(s:List UInt8)(w:PV)(H:PH),aQ H [] [(w,1,qL l)]->aH C 70 [w,.str s] H (λr H'=>∃B' L',lf l s r B' L'/\aQ H' B' L')
theorem vE.pos(L:vE C){x:RF}(e:x.Ok)(h:dS x=true):∃n:Int,aH C 54 [.agg x.cells] .nil (aL (.j n))/\decide (n>0)=bW x:=⟨_,L.sign x e (vN h),Vv h⟩
def zlF(l:cU)(o r i:Nat):PF:=(((((n_.set 1 (.aX l.cells)).set 3 (.int .i64 (Z' l.exit:Nat))).set 7 (.osl o 1 0 l.exit.length)).set 8 (.int .i64 r)).set 9 (.int .i64 i))
theorem acM(L:vE C)(l:cU)(o r i:Nat)(row:List RF)(W:(l.atM.map λr=>[frs r])[i]?=some [frs row])(O:mP row)(N:∀x∈row,dS x=true)(β:Z' row=Z' l.exit)(hi:i<Z' l.exit)(hn:Z' l.exit<=4)(u:List Bool)(hR:Z' u=Z' l.exit)(K:bZ)[Up K](F:PF)(H:PH)
  (U:((zlF l o r i).set 10 (.j 0)).le F) (S:(jX o u).le H)
  (Z:K (.exit 6) (zlF l o r i) (jX o (dA u i row row.length))):aI.wp C (.loop SN) K F H:=by
 refine wp_loop (α:=Nat) (λk=>(zlF l o r i).set 10 (.j k)) (λk=>jX o (dA u i row k)) (λk=>k<=Z' row) (λk=>Z' row-k) 0 (auY _) U S ?_;intro k hk;have Y:=zV u i row k;have E:∀h:k<Z' row,dA u i row (k+1)=(dA u i row k).set i ((dA u i row k).getD i false||bW row[k]&&(dA u i row k).getD k false):=λh=>by simp only[dA,avI,avO,avF h,avS,axK]
 have fin:∀(b:Bool)(F:PF)(H:PH),k<Z' row->dW (dA u i row (k+1))=(dW (dA u i row k)).set i [.bool b]->((zlF l o r i).set 10 (.j (k+1:Nat))).le F->H o=some (.rows 1 ((dW (dA u i row k)).set i [.bool b])) ->
   fL (λk:Nat=>(zlF l o r i).set 10 (.j k)) (λk=>jX o (dA u i row k)) (λk=>k<=Z' row) (λk=>Z' row-k) (Z' row-k) K .normal F H:=by
  intro b F H hlt hb U S;refine aE (k+1) hlt Om U ?_;rw[<-hb]at S;exact e_ a_ S
 unfold zlF jX at fin;simp only[go_sem,SN,zlF,jX];by_cases hlt:k<Z' row
 ·have e:(k:Int)<(Z' l.exit:Nat):=Om;have B:(i:Int)<(Z' l.exit:Nat):=Om;have y:=qP (R:=dA u i row k) (i:=i) Om;have J:=qP (R:=dA u i row k) (i:=k) Om;have w:=E hlt;obtain⟨n,X,M⟩:=L.pos (O.all _ (avB hlt)) (N _ (avB hlt));have V:=nr hlt;generalize hb:(dA u i row k).getD i false=b at *
  generalize hc:(dA u i row k).getD k false=c at *
  generalize hA:bW row[k]=A at *
  cases b with
  |true =>simp only[go_sem,e,B,avK,y,wZz k];exact fin true _ _ hlt (by rw[w,kK,Bool.true_or]) Lq Sq
  |false=>
   simp only[go_sem,e,B,avK,y,W,V];refine aB X rfl ?_;cases A with
   |false =>simp only[go_sem,M,B,e,avK,y,J,wZz k];exact fin false _ _ hlt (by rw[w,kK,Bool.false_or,avJ]) Lq Sq
   |true =>simp only[go_sem,M,B,e,avK,y,J,wZz k];exact fin c _ _ hlt (by rw[w,kK,Bool.false_or,avR]) Lq Sq
 have e:¬(k:Int)<(Z' l.exit:Nat):=Om;have:k=Z' row:=Om;subst this;simp only[go_sem,e];refine Up.up ?_ Z
 (repeat' (first|exact d_|refine c_ ?_ ?_))<;>first|(simp only[go_sem,zlF]<;>rfl)|rfl
theorem acO(L:vE C)(l:cU)(V:l.Ok)(he:IF l)(X:C7 l)(o r:Nat)(R:List Bool)(hR:Z' R=Z' l.exit)(K:bZ)[Up K](F:PF)(H:PH)
  (N:(zlF l o r 0).le F) (O:(jX o R).le H)
  (Z:K (.exit 4) (zlF l o r l.exit.length) (jX o (eA l R l.exit.length))):aI.wp C (.loop kr) K F H:=by
 refine wp_loop (α:=Nat) (λi=>zlF l o r i) (λi=>jX o (eA l R i)) (λi=>i<=Z' l.exit) (λi=>Z' l.exit-i) 0 (auY _) N O ?_;intro i hi;have W:=vX l R i;have hn:=he.n;simp only[go_sem,kr,zlF,jX];by_cases hlt:i<Z' l.exit
 ·have e:(i:Int)<(Z' l.exit:Nat):=Om;have w:i<Z' l.atM:=by rw[he.atM];exact hlt
  have y:=qP (R:=eA l R i) (i:=i) Om;have hx:=nr hlt;have J:(l.atM.map λr=>[frs r])[i]?=some [frs l.atM[i]]:=by simp[w]
  have S:(l.atM[i]).length=Z' l.exit:=he.row _ (avB w);generalize x:(eA l R i).set i ((eA l R i).getD i false||bW l.exit[i])=M;have B:Z' M=Z' l.exit:=by rw[<-x,awS];omega
  have A:eA l R (i+1)=dA M i l.atM[i] (l.atM[i]).length:=by
   simp only[eA,nY];have Y:(l.exit.map bW).getD i false=bW l.exit[i]:=by simp[avI,hlt]
   have e2:l.atM.getD i []=l.atM[i]:=by simp[avI,w]
   rw[Y,e2,x]
  obtain⟨n,U,E⟩:=L.pos (V.exit.all _ (avB hlt)) (X.exit _ (avB hlt));have rest:∀(F:PF)(H:PH),(zlF l o r i).le F->H o=some (.rows 1 (dW M)) ->
    aI.wp C (.seq (.region kx) (.block 6 (.loop SN))) (fA 5 (fZ C (aI.wp C (.region ky)) (fL (λi:Nat=>zlF l o r i) (λi=>jX o (eA l R i)) (λi=>i<=Z' l.exit) (λi=>Z' l.exit-i) (Z' l.exit-i) K))) F H:=by
   intro F H N O;refine sT _ (λ_ _ _ _ a b=>Up.up a b) N ?_;simp only[go_sem,kx];refine acM L l o r i l.atM[i] J (V.row _ (avB w)) (X.row _ (avB w)) S hlt hn M B _ _ _ (by(repeat' (first|exact d_|refine c_ ?_ ?_))<;>first|(simp only[go_sem,zlF]<;>rfl)|rfl) (e_ a_ O) ?_;simp only[go_sem,zlF,ky,wZz i];exact aE (i+1) hlt Om Lq (by rw[A];exact b_)
  simp only[zlF,jX]at rest;have u:=rest;simp only[aI.wp,go_sem]at u;generalize hb:(eA l R i).getD i false=b at *
  cases b with
  |true =>simp only[go_sem,e,e,avK,y];refine u _ _ Lq ?_;rw[<-x];simp only[go_sem,kK,Bool.true_or]
  |false =>simp only[go_sem,e,e,avK,y,hx];refine aB U rfl ?_;simp only[go_sem,e,avK,y,E];refine u _ _ Lq ?_;rw[<-x];simp only[go_sem,kK,Bool.false_or]
 have e:¬(i:Int)<(Z' l.exit:Nat):=Om;have:i=Z' l.exit:=Om;subst this;simp only[go_sem,e];exact Up.up (by(repeat' (first|exact d_|refine c_ ?_ ?_))<;>first|(simp only[go_sem,zlF]<;>rfl)|rfl) Z
theorem acN(L:vE C)(l:cU)(y:l.Ok)(he:IF l)(A:C7 l)(o:Nat)(K:bZ)[Up K](F:PF)(H:PH)
  (u:(((((n_.set 1 (.aX l.cells)).set 3 (.j (Z' l.exit:Nat))).set 7 (.osl o 1 0 l.exit.length)).set 8 (.j 0)):PF).le F) (w:(jX o (eD l 0)).le H)
  (x:K (.exit 2) (((n_.set 3 (.j (Z' l.exit:Nat))).set 7 (.osl o 1 0 l.exit.length))) (jX o (eD l l.exit.length))):aI.wp C (.loop ku) K F H:=by
 have B:=he.n;refine wp_loop (α:=Nat) (λr=>((((n_.set 1 (.aX l.cells)).set 3 (.j (Z' l.exit:Nat))).set 7 (.osl o 1 0 l.exit.length)).set 8 (.j r))) (λr=>jX o (eD l r)) (λr=>r<=Z' l.exit) (λr=>Z' l.exit-r) 0 (auY _) u w ?_;intro r E;have i:=vW l r;simp only[go_sem,ku];by_cases hlt:r<Z' l.exit;have e:(r:Int)<(Z' l.exit:Nat):=Om;simp only[go_sem,e];refine acO L l y he A o r (eD l r) i _ _ _ (by(repeat' (first|exact d_|refine c_ ?_ ?_))<;>first|(simp only[go_sem,zlF]<;>rfl)|rfl) b_ ?_;simp only[go_sem,zlF,wZz r];exact aE (r+1) hlt Om Lq b_;have e:¬(r:Int)<(Z' l.exit:Nat):=Om;have:r=Z' l.exit:=Om;subst this;simp only[go_sem,e];exact Up.up Lq x
theorem alS(R:List Bool)(K:Z' R<=4)(o:Nat)(X:Bool)(E:X=R.all id)(Q:R_)(B:Q=aL (.bool X))(F:PF)(H:PH)
  (y:((((n_.set 3 (.j (Z' R:Nat))).set 7 (.osl o 1 0 R.length)).set 11 (.j 0)):PF).le F) (A:(jX o R).le H):aI.wp C (.loop kw) (fA 8 (fZ C (aI.wp C (.seq (.region kz) .ret)) (aW [.tmp 2] Q))) F H:=by
 subst E B;refine wp_loop (α:=Nat) (λk=>(((n_.set 3 (.j (Z' R:Nat))).set 7 (.osl o 1 0 R.length)).set 11 (.j k))) (λ_=>jX o R) (λk=>k<=Z' R/\(R.take k).all id=true) (λk=>Z' R-k) 0 ⟨auY _,rfl⟩ y A ?_;rintro k ⟨M,w⟩;simp only[go_sem,kw,jX];by_cases hlt:k<Z' R
 ·have e:(k:Int)<(Z' R:Nat):=Om;have l:=qP (R:=R) (i:=k) hlt;have J:R.getD k false=R[k]:=by simp[avI,hlt]
  rw[J]at l;cases u:R[k]with
  |false =>rw[u]at l;simp only[go_sem,e,avK,l,avP];refine cL ?_;rw[bL,uF hlt (p:=id) u]
  |true =>rw[u]at l;have x:=uE hlt w (p:=id) u;simp only[go_sem,e,avK,l,avH,wZz k];exact aE (k+1) ⟨hlt,by simpa using awA.1 x⟩ Om Lq b_
 have e:¬(k:Int)<(Z' R:Nat):=Om;have:k=Z' R:=Om;subst this;rw[avW]at w;simp only[go_sem,e,kz];refine cL ?_;rw[bL,w]
def Marks(R S:List Bool):Prop:=Z' R=Z' S/\∀j:Nat,R[j]?=some true->S[j]?=some true
theorem Marks.akW(R:List Bool):Marks R R:=⟨rfl,λ_ h=>h⟩
theorem Marks.trans{R S T:List Bool}(h:Marks R S)(k:Marks S T):Marks R T:=⟨h.1.trans k.1,λj a=>k.2 j (h.2 j a)⟩
theorem Fv(R:List Bool)(i:Nat)(b:Bool):Marks R (R.set i (R.getD i false||b)):=by
 refine⟨by rw[awS],λj h=>?_⟩;rw[ayZ];obtain⟨l,he⟩:=awD.1 h;split;rename_i e;subst e;rw[aF l,avI,h];rfl;exact h
theorem ym(R:List Bool)(i:Nat)(row:List RF):∀k,Marks R (dA R i row k)
 |0=>Marks.akW R
 |k+1=>(ym R i row k).trans (Fv _ _ _)
theorem JW(l:cU)(R:List Bool):∀i,Marks R (eA l R i)
 |0=>Marks.akW R
 |i+1=>(JW l R i).trans ((Fv _ _ _).trans (ym _ _ _ _))
theorem Fw:∀{R S:List Bool},Marks R S->R≠S->R.count true<S.count true
 |[],[],_,h=>absurd rfl h
 |[],_::_,h,_=>by have:=h.1;simp at this
 |_::_,[],h,_=>by have:=h.1;simp at this
 |a::R,b::S,h,i=>by
  have l:a=true->b=true:=λe=>by have:=h.2 0 (by rw[e];rfl);simpa using this
  have w:Marks R S:=⟨by have:=h.1;simpa using this,λj u=>by have:=h.2 (j+1) (by simpa using u);simpa using this⟩;by_cases e:R=S;subst e;have:a≠b:=λe=>i (by rw[e]);cases a<;>cases b<;>simp at this l ⊢;have:=Fw w e;cases a<;>cases b<;>simp at l ⊢<;>omega
theorem mm:∀{R:List Bool},Z' R<=R.count true->R.all id=true
 |[],_=>rfl
 |a::R,h=>by
  have e:=List.count_le_length (a:=true) (l:=R);cases a with
  |true =>simp only[List.count_cons_self,awK]at h;simp only[ayX,id,avR];exact mm Om
  |false =>simp at h;omega
theorem QT(l:cU){s:Nat}(h:eD l (s+1)=eD l s):∀d,eD l (s+d)=eD l s
 |0=>rfl
 |d+1=>by show eA l (eD l (s+d)) l.exit.length=_;rw[QT l h d];exact h
theorem rg(l:cU):∀r,(∃s,s<r/\eD l (s+1)=eD l s)\/r<=(eD l r).count true
 |0=>.inr (auY _)
 |r+1=>by
  rcases rg l r with⟨s,u,i⟩|h
  exact .inl ⟨s,by omega,i⟩;by_cases e:eD l (r+1)=eD l r;exact .inl ⟨r,by omega,e⟩;have:=Fw (JW l (eD l r) l.exit.length) (λh=>e h.symm);exact .inr (by show r+1<=(eA l (eD l r) l.exit.length).count true;omega)
theorem aeL(l:cU):tT l=(eD l l.exit.length).all id:=by
 unfold tT;rcases rg l l.exit.length with⟨s,E,i⟩|h
 obtain⟨d,A⟩:∃d,Z' l.exit=s+d:=⟨Z' l.exit-s,by omega⟩;rw[show l.exit.length+1=s+(d+1) by omega,A,QT l i,QT l i];have u:(eD l l.exit.length).all id=true:=mm (by rw[vW];exact h);have y:Marks (eD l l.exit.length) (eD l (Z' l.exit+1)):=JW l (eD l l.exit.length) l.exit.length;rw[u,awA];intro x B;obtain⟨j,w,rfl⟩:=awR B;have e:j<(eD l l.exit.length).length:=by rw[y.1];exact w
 have:=y.2 j (by rw[avF e];have:=awA.1 u _ (avB e);simpa using this);rw[avF w]at this;simpa using this
def zsS(s:Bool):Spec:=λname vs=>match name,vs with
 |47,_=>some ([],λ_=>aL (.agg (mkT 1 1).cells))
 |53,_=>some ([],λ_=>aL (.bool s))
 |_,_=>none
theorem Yu(l:cU):nE l=(within l.start.length 1 4&&((decide ((Z' l.start:Int)=Z' l.start)&&l.start.all dS)&&((decide ((Z' l.exit:Int)=Z' l.start)&&l.exit.all dS)&&(decide (Z' l.atM=Z' l.start)&&((auX l.atM.length).all (xT l)&&(AZ l&&tT l)))))):=by
 rw[K8,bG (rfl:(Z' l.start:Int)=Z' l.start),avR];have:decide (Z' l.exit=Z' l.start)=decide ((Z' l.exit:Int)=Z' l.start):=decide_eq_decide.2 Om;rw[this];cases within l.start.length 1 4<;>cases decide ((Z' l.exit:Int)=Z' l.start)<;>cases decide (Z' l.atM=Z' l.start)<;>cases l.start.all dS<;>cases l.exit.all dS<;>simp[ayP]
theorem Hn(l:cU){i:Nat}(h:i<Z' l.atM):xT l i=((decide (((l.atM[i]).length:Int)=Z' l.start)&&(l.atM[i]).all dS)&&!((l.atM[i]).map bW).getD i false):=by
 unfold xT;have:l.atM.getD i []=l.atM[i]:=by simp[avI,h]
 rw[this];have:decide ((l.atM[i]).length=Z' l.start)=decide (((l.atM[i]).length:Int)=Z' l.start):=decide_eq_decide.2 Om;rw[this]
theorem aiR(L:vE C)(l:cU)(S:l.Ok):A3.wp C (aW jU.res (aL (.bool (nE l)))) (g_ [.agg l.cells]) .nil:=by
 have u:=Yu l;have fail:∀(F:PF)(H:PH),nE l=false->F 2=some (.bool false)->aW [.tmp 2] (aL (.bool (nE l))) .ret F H:=λF H e h=>by rw[e];exact bC (vs:=[.bool false]) (.inr rfl) .nil (by simp only[go_sem,h]) a_ ⟨rfl,rfl⟩
 have e1:=L.smalls l.start S.start l.start.length;have e2:=L.smalls l.exit S.exit l.start.length;simp only[go_sem,A3,jU,auW];by_cases c1:(Z' l.start:Int)<1
 ·simp only[go_sem,c1];exact fail _ _ (by rw[u,show within l.start.length 1 4=false from by unfold within;rw[bS Om,avJ],avJ]) rfl
 by_cases c2:(Z' l.start:Int)>4
 ·simp only[go_sem,c1,c2];exact fail _ _ (by rw[u,show within l.start.length 1 4=false from by unfold within;rw[bS (Om:¬(Z' l.start:Int)<=4),awU],avJ]) rfl
 rw[show within l.start.length 1 4=true from by unfold within;rw[bG (Om:(1:Int)<=(Z' l.start:Nat)),bG (Om:(Z' l.start:Int)<=4)];rfl,avR]at u;simp only[go_sem,c1,c2];refine aB e1 rfl ?_;cases k1:(decide ((Z' l.start:Int)=Z' l.start)&&l.start.all dS)with
 |false =>rw[k1,avJ]at u;simp only[go_sem,avP];exact fail _ _ u rfl
 |true=>
 rw[k1,avR]at u;simp only[go_sem,avH];refine aB e2 rfl ?_;cases k2:(decide ((Z' l.exit:Int)=Z' l.start)&&l.exit.all dS)with
 |false =>rw[k2,avJ]at u;simp only[go_sem,avP];exact fail _ _ u rfl
 |true=>
 rw[k2,avR]at u;rw[avE,dT_]at k2;have E:Z' l.exit=Z' l.start:=Om;have R:=awA.1 k2.2;by_cases c3:Z' l.atM=Z' l.start
 case neg =>rw[bS c3,avJ]at u;simp only[go_sem,avH,auW,cY (Om:(Z' l.atM:Int)≠(Z' l.start:Nat))];exact fail _ _ u rfl
 rw[bG c3,avR]at u;simp only[go_sem,avH,auW,cF (Om:(Z' l.atM:Int)=(Z' l.start:Nat))];refine wp_loop (α:=Nat) (λi=>(((n_.set 1 (.aX l.cells)).set 3 (.j (Z' l.start:Nat))).set 4 (.j i))) (λ_=>.nil) (λi=>i<=Z' l.start/\∀j,j<i->xT l j=true) (λi=>Z' l.start-i) 0 ⟨auY _,λj h=>by omega⟩ Lq a_ ?_;rintro i ⟨hi,y⟩;simp only[go_sem];by_cases hlt:i<Z' l.start
 ·have A:(i:Int)<(Z' l.start:Nat):=Om;have B:i<Z' l.atM:=Om;have K:(l.atM.map λr=>[frs r])[i]?=some [frs l.atM[i]]:=by simp[B]
  have Y:=S.row _ (avB B);have e3:=L.smalls l.atM[i] Y l.start.length;have w:=Hn l B;have bad:xT l i=false->nE l=false:=λh=>by rw[u,show(auX l.atM.length).all (xT l)=false from List.all_eq_false.2 ⟨i,awG.2 B,by simp[h]⟩,avJ]
  simp only[go_sem,A,K];refine aB e3 rfl ?_;cases k3:(decide (((l.atM[i]).length:Int)=Z' l.start)&&(l.atM[i]).all dS)with
  |false =>rw[k3,avJ]at w;simp only[go_sem,avP];exact fail _ _ (bad w) rfl
  |true=>
   rw[k3,avR]at w;rw[avE,dT_]at k3;have κ:(l.atM[i]).length=Z' l.start:=Om;have M:i<(l.atM[i]).length:=Om;have hm:=avB M;have hs:=L.sign _ (Y.all _ hm) (vN (awA.1 k3.2 _ hm));have hz:=RI (l.atM[i])[i];have hg:((l.atM[i]).map bW).getD i false=bW (l.atM[i])[i]:=by simp[avI,M]
   rw[hg]at w;have J:(xF (l.atM[i])[i] != 0)=bW (l.atM[i])[i]:=by rw[bne,hz,Bool.not_not]
   simp only[go_sem,avH,K,nr M];refine aB hs rfl ?_;cases k4:bW (l.atM[i])[i]with
   |true =>rw[k4]at w J;simp only[go_sem,J];exact fail _ _ (bad w) rfl
   |false=>
    rw[k4]at w J;simp only[go_sem,J,wZz i];exact aE (i+1) ⟨hlt,λj hj=>by
     by_cases e:j=i
     ·rw[e];exact w
     ·exact y j Om⟩ Om Lq b_
 ·have A:¬(i:Int)<(Z' l.start:Nat):=Om;have:i=Z' l.start:=Om;subst this;have N:(auX l.atM.length).all (xT l)=true:=awA.2 λj hj=>y j (by rw[<-c3];exact awG.1 hj);rw[N,avR]at u;have β:∀r∈l.atM,Z' r=Z' l.start/\∀x∈r,dS x=true:=λr X=>by obtain⟨j,hj,rfl⟩:=awR X;have h:=y j Om;rw[Hn l hj,avE,avE,dT_]at h;exact⟨by omega,awA.1 h.1.2⟩
  have W:C7 l:=⟨R,λr X=>(β r X).2⟩;have V:IF l:=⟨by omega,by omega,λr X=>by rw[(β r X).1,E]⟩;have γ:=L.sum l.start S.start.all S.start.fits;simp only[go_sem,A];refine aB γ rfl ?_;cases U:rT (l.start.map RF.v)with
  |error e=>
   have ζ:=Ii U;have:AZ l=false:=by unfold AZ;rw[U]
   rw[this,avJ]at u;simp only[go_sem,frV];refine aS λo ho=>?_;simp only[go_sem];refine bK .nil cS a_ ?_;simp only[go_sem,cY ζ];exact fail _ _ u rfl
  |ok r=>
   have Z:=Mg U;have θ:=su U;obtain⟨n,a,b⟩:=r;have h1:eI 1:=by unfold eI;omega
   have O:=L.same (FV.rf (n,a,b)) (mkT 1 1) Z (MP 1 h1).1 (by unfold RF.valid FV.rf;simp only[aY];exact θ) (MP 1 h1).2;have hP:AZ l=(uR (FV.rf (n,a,b)) (mkT 1 1)==0):=by unfold AZ;rw[U,MQ];unfold uR FV.rf;simp only[aY,show(1:Int).natAbs=1 from rfl,show decide ((1:Int)<0)=false from rfl];by_cases h:uQ n a b false 1 1=0<;>simp[h]
   simp only[go_sem,frV];refine aS λo ho=>?_;have hH:aQ (h_.set o (.rows 3 [(FV.rf (n,a,b)).cells])) [(o,.rows 3 [(FV.rf (n,a,b)).cells])] []:=aQ.nil.new (H:=h_) rfl _;simp only[go_sem];refine bK (h_.set o (.rows 3 [(FV.rf (n,a,b)).cells])) (zsS (uR (FV.rf (n,a,b)) (mkT 1 1)==0)) b_ ?_;simp only[go_sem,cF (show(0:Int)=0 from rfl)];refine cB rfl (L.int 1 h1) rfl b_ ?_;simp only[go_sem];refine cB rfl O rfl b_ ?_;rw[<-hP];cases hp:AZ l with
   |false =>rw[hp,avJ]at u;simp only[go_sem,avP];exact fail _ _ u rfl
   |true=>
    rw[hp,avR,aeL]at u;have δ:(Z' l.start:Int)*((1:Nat):Int)<=140737488355328:=Om;have ε:(Z' l.start:Int)<=9223372036854775807:=Om;simp only[go_sem,avH,δ,ε];refine aS λq hq=>?_;simp only[go_sem];have ι:avA l.start.length [PV.bool false]=dW (eD l 0):=by rw[<-E];simp[eD,dW]
    rw[<-E];refine acN L l S V W q _ _ _ Lq ?_ ?_
    ·refine e_ a_ ?_;rw[cE,E,ι]
    simp only[go_sem];have η:(eD l l.exit.length).length<=4:=by rw[vW];omega
    refine alS (eD l l.exit.length) η q (nE l) u _ rfl _ _ ?_ b_;rw[vW];exact Lq
structure yA(C:Ctx):Prop extends vE C where
 law:∀l:cU,l.Ok->aH C 68 [.agg l.cells] .nil (aL (.bool (nE l)))
def okL(base ns:List (List UInt8))(P:Nat->Bool)(i:Nat):Bool:=lN (base++ns.take i) (ns.getD i [])&&P i
theorem xH{p:Nat->Bool}(k:Nat)(b:Bool):(b&&(auX (k+1)).all p)=((b&&(auX k).all p)&&p k):=by
 rw[axV,List.all_append];cases(auX k).all p<;>cases b<;>simp
theorem xG{p:Nat->Bool}{b:Bool}{i n:Nat}(hi:i<=n)(h:(b&&(auX i).all p)=false):(b&&(auX n).all p)=false:=by
 cases b with
 |false=>rfl
 |true =>rw[avR]at h ⊢;obtain⟨x,e,hp⟩:=List.all_eq_false.1 h;exact List.all_eq_false.2 ⟨x,awG.2 (by have:=awG.1 e;omega),hp⟩
structure jW(H:PH)(w:PV)(base ns:List (List UInt8))(c:Bool)(i:Nat):Prop where
 ex:∃names,aQ H [] [(w,1,qL names)]/\(c=true->names=base++ns.take i)
section
variable {C:Ctx} {F:PF} {H:PH} {d:O_} {K:K_}
theorem jW.call(L:vE C){w:PV}{base ns:List (List UInt8)}{i:Nat}{B:List BX}{e:List (List UInt8)}(h:aQ H B [(w,1,qL e)])(O:Z' base<=1000)(hi:i<=1000)(A:e=base++ns.take i)(u:i<Z' ns){a b:Nat}(l:aR.evs F [.tmp a,.tmp b]=some [w,.str ns[i]])
  (J:∀x H',aQ H' B [(x,1,qL (e++[ns[i]]))]->jW H' x base ns true (i+1)->K (F.put d (.tup [x,.bool (lN (base++ns.take i) (ns.getD i []))])) H'):jS C 70 [.tmp a,.tmp b] [] d K F H:=by
 refine LN (B1:=[]) (B2:=B) (L1:=[(w,1,qL e)]) (L2:=[]) (Q:=lf e ns[i]) h (λM N=>L.fresh e (by rw[A,auZ,avN];omega) ns[i] w M N) l ?_;rintro r B' L' H' ⟨x,rfl,rfl,rfl⟩ E;have y:ns.getD i []=ns[i]:=by simp[avI,u]
 rw[y,<-A]at J;refine J x H' E ⟨e++[ns[i]],E.sub (List.nil_sublist _) (axN.refl _),λ_=>?_⟩;rw[awP u,<-awB,A]
end
theorem jW.xi{H:PH}{w:PV}{base ns:List (List UInt8)}{c:Bool}{i:Nat}(h:jW H w base ns true i):jW H w base ns c i:=by
 obtain⟨e,l,u⟩:=h.ex;exact⟨e,l,λ_=>u rfl⟩
def OW(f:aD):Bool:=(auX f.atQ.length).all (okL [] (f.atQ.map cU.name) λi=>(f.atQ.map nE).getD i false)
theorem aiU(L:yA C)(f:aD)(hf:f.Ok)(hs:Z' f.atQ<=4)(K:bZ)[Up K](F:PF)(H:PH)
  (Y:(((((((((n_.set 1 (.aX f.cells)).set 3 (.aJ)).set 4 (.aJ)).set 5 (.aJ)).set 6 (.aJ)).set 7 (.aJ)).set 8 (.bool true)).set 9 (.j 0)):PF).le F)
  (S:∀H',K (.exit 0) (((((((n_.set 1 (.aX f.cells)).set 4 (.aJ)).set 5 (.aJ)).set 6 (.aJ)).set 7 (.aJ)).set 8 (.bool (OW f)))) H'):aI.wp C (.loop SP) K F H:=by
 obtain⟨ok,J⟩:∃ok,okL [] (f.atQ.map cU.name) (λi=>(f.atQ.map nE).getD i false)=ok:=⟨_,rfl⟩;unfold OW at S;rw[J]at S;refine wp_loop (α:=T3_) (λs=>((((((((n_.set 1 (.aX f.cells)).set 3 (s.2.1)).set 4 (.aJ)).set 5 (.aJ)).set 6 (.aJ)).set 7 (.aJ)).set 8 (.bool (true&&(auX s.1).all ok))).set 9 (.j s.1))) (λs=>s.2.2) (λs=>s.1<=Z' f.atQ/\jW s.2.2 s.2.1 [] (f.atQ.map cU.name) (true&&(auX s.1).all ok) s.1) (λs=>Z' f.atQ-s.1)
  (0,.aJ,H) ⟨auY _,⟨[],aQ.nil.nT 1,λ_=>rfl⟩⟩ Y b_ ?_
 rintro⟨i,w,W⟩ ⟨hi,X⟩;simp only at hi X ⊢;have fin:∀(b:Bool)(y:PV)(N:PF)(H':PH),i<Z' f.atQ->(true&&(auX (i+1)).all ok)=b->jW H' y [] (f.atQ.map cU.name) true (i+1) ->
   (((((((((n_.set 1 (.aX f.cells)).set 3 (y)).set 4 (.aJ)).set 5 (.aJ)).set 6 (.aJ)).set 7 (.aJ)).set 8 (.bool b)).set 9 (.j (i+1:Nat))):PF).le N ->
   fL (λs:T3_=>((((((((n_.set 1 (.aX f.cells)).set 3 (s.2.1)).set 4 (.aJ)).set 5 (.aJ)).set 6 (.aJ)).set 7 (.aJ)).set 8 (.bool (true&&(auX s.1).all ok))).set 9 (.j s.1))) (λs=>s.2.2) (λs=>s.1<=Z' f.atQ/\jW s.2.2 s.2.1 [] (f.atQ.map cU.name) (true&&(auX s.1).all ok) s.1) (λs=>Z' f.atQ-s.1) (Z' f.atQ-i) K .normal N H':=
  λb y N H' hlt hb R O=>aE (i+1,y,H') ⟨hlt,R.xi⟩ sO_ (by simp only;rw[hb];exact O) b_
 have l:=xH (p:=ok) i true;have x:(true&&(auX i).all ok)=(true&&(auX f.atQ.length).all ok)->K (.exit 0) (((((((n_.set 1 (.aX f.cells)).set 4 (.aJ)).set 5 (.aJ)).set 6 (.aJ)).set 7 (.aJ)).set 8 (.bool (true&&(auX i).all ok)))) W:=λe=>by rw[e,avR];exact S W
 have B:=λh=>xG (p:=ok) (b:=true) hi h;generalize Z:(true&&(auX i).all ok)=c at *
 simp only[go_sem,SP,auW];by_cases hlt:i<Z' f.atQ
 ·have u:(i:Int)<(Z' f.atQ:Nat):=Om;cases c with
  |false =>simp only[go_sem,u];exact Up.up Lq (x (B rfl).symm)
  |true=>
   obtain⟨V,g1,g3⟩:=X.ex;have E:(f.atQ.map cU.cells)[i]?=some (f.atQ[i]).cells:=by simp[hlt]
   have U:i<(f.atQ.map cU.name).length:=by rw[auW];exact hlt
   have M:ok i=(lN ([]++(f.atQ.map cU.name).take i) ((f.atQ.map cU.name).getD i [])&&nE f.atQ[i]):=by rw[<-J];unfold okL;simp[avI,hlt]
   have hl:=L.law _ (hf.law _ (avB hlt));rw[M]at l;simp only[go_sem,u,E];refine jW.call L.tovE (ns:=f.atQ.map cU.name) g1 (auY _) Om (g3 rfl) U (by simp only[go_sem,awW]) λy H1 h1 A=>?_;generalize lN ([]++(f.atQ.map cU.name).take i) ((f.atQ.map cU.name).getD i [])=fb at *
   cases fb with
   |false =>simp only[go_sem,wZz i];exact fin false y _ _ hlt (l.trans rfl) A Lq
   |true =>simp only[go_sem,E];refine aB hl rfl ?_;simp only[go_sem,wZz i];exact fin _ y _ _ hlt (l.trans rfl) A Lq
 have u:¬(i:Int)<(Z' f.atQ:Nat):=Om;have:i=Z' f.atQ:=Om;subst this;simp only[go_sem,u];exact Up.up Lq (x Z.symm)
theorem WN{a b c d e f:Nat}(h:uW a b c d e f=true):a<=4/\b<=4/\c<=40/\d<=24/\e<=4/\f<=12:=by
 simp only[uW,avE,dT_]at h;omega
theorem uh{n:Nat}(h:n<=1000):i_.wrap ((n:Int)-1)=(n:Int)-1:=wrap_i64 Om Om
def inS:Spec:=λname vs=>match name,vs with
 |76,[.int _ n,.int _ lo,.int _ hi]=>some ([],λ_=>aL (.bool (within n lo hi)))
 |_,_=>none
def vz(atQ:Nat)(m:dR):Bool:=within m.auA 1 16&&(within m.port 1 64&&within m.law 0 ((atQ:Int)-1))
def I0(pols:Nat)(v:gN):Bool:=within v.atW 0 ((pols:Int)-1)
def FX(f:aD):Bool:=(auX f.atI.length).all (okL [] (f.atI.map dR.name) λi=>(f.atI.map (vz f.atQ.length)).getD i false)
theorem W2(L:yA C)(f:aD)(hf:f.Ok)(hz:uW f.atQ.length f.atI.length f.atK.length f.atH.length f.atL.length f.atJ.length=true)(b:Bool)(K:bZ)[Up K](F:PF)(H:PH)
  (hF:((((((((n_.set 1 (.aX f.cells)).set 4 (.aJ)).set 5 (.aJ)).set 6 (.aJ)).set 7 (.aJ)).set 8 (.bool b)).set 10 (.j 0)):PF).le F)
  (V:∀H',K (.exit 2) ((((((n_.set 1 (.aX f.cells)).set 5 (.aJ)).set 6 (.aJ)).set 7 (.aJ)).set 8 (.bool (b&&FX f)))) H'):aI.wp C (.loop SQ) K F H:=by
 obtain⟨β,γ,δ,ε,ζ,η⟩:=WN hz;obtain⟨ok,J⟩:∃ok,okL [] (f.atI.map dR.name) (λi=>(f.atI.map (vz f.atQ.length)).getD i false)=ok:=⟨_,rfl⟩;unfold FX at V;rw[J]at V;refine wp_loop (α:=T3_) (λs=>(((((((n_.set 1 (.aX f.cells)).set 4 (s.2.1)).set 5 (.aJ)).set 6 (.aJ)).set 7 (.aJ)).set 8 (.bool (b&&(auX s.1).all ok))).set 10 (.j s.1))) (λs=>s.2.2) (λs=>s.1<=Z' f.atI/\jW s.2.2 s.2.1 [] (f.atI.map dR.name) (b&&(auX s.1).all ok) s.1) (λs=>Z' f.atI-s.1)
  (0,.aJ,H) ⟨auY _,⟨[],aQ.nil.nT 1,λ_=>rfl⟩⟩ (by
   have e:(b&&(auX 0).all ok)=b:=by cases b<;>rfl
   simp only[e];exact hF) b_ ?_
 rintro⟨i,w,O⟩ ⟨hi,hG⟩;simp only at hi hG ⊢;have fin:∀(c:Bool)(y:PV)(N:PF)(H':PH),i<Z' f.atI->(b&&(auX (i+1)).all ok)=c->jW H' y [] (f.atI.map dR.name) true (i+1) ->
   ((((((((n_.set 1 (.aX f.cells)).set 4 (y)).set 5 (.aJ)).set 6 (.aJ)).set 7 (.aJ)).set 8 (.bool c)).set 10 (.j (i+1:Nat))):PF).le N ->
   fL (λs:T3_=>(((((((n_.set 1 (.aX f.cells)).set 4 (s.2.1)).set 5 (.aJ)).set 6 (.aJ)).set 7 (.aJ)).set 8 (.bool (b&&(auX s.1).all ok))).set 10 (.j s.1))) (λs=>s.2.2) (λs=>s.1<=Z' f.atI/\jW s.2.2 s.2.1 [] (f.atI.map dR.name) (b&&(auX s.1).all ok) s.1) (λs=>Z' f.atI-s.1) (Z' f.atI-i) K .normal N H':=
  λc y N H' hlt hb U S=>aE (i+1,y,H') ⟨hlt,U.xi⟩ sO_ (by simp only;rw[hb];exact S) b_
 have l:=xH (p:=ok) i b;have A:(b&&(auX i).all ok)=(b&&(auX f.atI.length).all ok)->K (.exit 2) ((((((n_.set 1 (.aX f.cells)).set 5 (.aJ)).set 6 (.aJ)).set 7 (.aJ)).set 8 (.bool (b&&(auX i).all ok)))) O:=λe=>by rw[e];exact V O
 have E:=λh=>xG (p:=ok) (b:=b) hi h;generalize hc:(b&&(auX i).all ok)=c at *
 simp only[go_sem,SQ,auW];by_cases hlt:i<Z' f.atI
 ·have u:(i:Int)<(Z' f.atI:Nat):=Om;cases c with
  |false =>simp only[go_sem,u];exact Up.up Lq (A (E rfl).symm)
  |true=>
   obtain⟨Z,g1,g3⟩:=hG.ex;have W:(f.atI.map dR.cells)[i]?=some (f.atI[i]).cells:=by simp[hlt]
   have X:i<(f.atI.map dR.name).length:=by rw[auW];exact hlt
   have M:ok i=(lN ([]++(f.atI.map dR.name).take i) ((f.atI.map dR.name).getD i [])&&(vz f.atQ.length) f.atI[i]):=by rw[<-J];unfold okL;simp[avI,hlt]
   rw[M]at l;have B:vz f.atQ.length f.atI[i]=(within (f.atI[i]).auA 1 16&&(within (f.atI[i]).port 1 64&&within (f.atI[i]).law 0 ((Z' f.atQ:Int)-1))):=rfl;rw[B]at l;simp only[go_sem,u,W];refine aS λo ho=>?_;have g4:=g1.new ho (.rows 4 [(f.atI[i]).cells]);have g5:=g4.at 0 rfl;simp only[go_sem];generalize O.set o (.rows 4 [(f.atI[i]).cells])=H2 at *
   try simp only[go_sem,g5]
   refine jW.call L.tovE (ns:=(f.atI.map dR.name)) g4 (auY _) Om (g3 rfl) X (by simp only[go_sem,awW]) λy H1 h1 x=>?_;have R:=h1.at 0 rfl;generalize lN ([]++(f.atI.map dR.name).take i) ((f.atI.map dR.name).getD i [])=fb at *
   cases fb with
   |false =>simp only[go_sem,wZz i];exact fin false y _ _ hlt (l.trans rfl) x Lq
   |true=>
    simp only[go_sem,R];refine aB (L.inn (f.atI[i]).auA 1 16) rfl ?_;cases Y:within (f.atI[i]).auA 1 16 with
    |false =>simp only[go_sem,wZz i];exact fin false y _ _ hlt (by rw[l,Y]<;>simp) x Lq
    |true=>
     simp only[go_sem,R];refine aB (L.inn (f.atI[i]).port 1 64) rfl ?_;cases k1:within (f.atI[i]).port 1 64 with
     |false =>simp only[go_sem,wZz i];exact fin false y _ _ hlt (by rw[l,Y,k1]<;>simp) x Lq
     |true =>simp only[go_sem,R,auW,uh (Om:Z' f.atQ<=1000)];refine aB (L.inn (f.atI[i]).law 0 ((Z' f.atQ:Int)-1)) rfl ?_;simp only[go_sem,wZz i];exact fin _ y _ _ hlt (by rw[l,Y,k1]<;>simp) x Lq
 have u:¬(i:Int)<(Z' f.atI:Nat):=Om;have:i=Z' f.atI:=Om;subst this;simp only[go_sem,u];exact Up.up Lq (A hc.symm)
def Cx(f:aD):Bool:=(auX f.atJ.length).all (okL [] (f.atJ.map gN.name) λi=>(f.atJ.map (I0 f.atL.length)).getD i false)
theorem aiW(L:yA C)(f:aD)(hf:f.Ok)(hz:uW f.atQ.length f.atI.length f.atK.length f.atH.length f.atL.length f.atJ.length=true)(b:Bool)(K:bZ)[Up K](F:PF)(H:PH)
  (Z:(((((n_.set 1 (.aX f.cells)).set 7 (.aJ)).set 8 (.bool b)).set 21 (.j 0)):PF).le F)
  (U:∀H',K (.exit 14) (((n_.set 1 (.aX f.cells)).set 8 (.bool (b&&Cx f)))) H'):aI.wp C (.loop FH) K F H:=by
 obtain⟨β,γ,δ,ε,ζ,η⟩:=WN hz;obtain⟨ok,M⟩:∃ok,okL [] (f.atJ.map gN.name) (λi=>(f.atJ.map (I0 f.atL.length)).getD i false)=ok:=⟨_,rfl⟩;unfold Cx at U;rw[M]at U;refine wp_loop (α:=T3_) (λs=>((((n_.set 1 (.aX f.cells)).set 7 (s.2.1)).set 8 (.bool (b&&(auX s.1).all ok))).set 21 (.j s.1))) (λs=>s.2.2) (λs=>s.1<=Z' f.atJ/\jW s.2.2 s.2.1 [] (f.atJ.map gN.name) (b&&(auX s.1).all ok) s.1) (λs=>Z' f.atJ-s.1)
  (0,.aJ,H) ⟨auY _,⟨[],aQ.nil.nT 1,λ_=>rfl⟩⟩ (by
   have e:(b&&(auX 0).all ok)=b:=by cases b<;>rfl
   simp only[e];exact Z) b_ ?_
 rintro⟨i,w,X⟩ ⟨hi,Y⟩;simp only at hi Y ⊢;have fin:∀(c:Bool)(A:PV)(O:PF)(H':PH),i<Z' f.atJ->(b&&(auX (i+1)).all ok)=c->jW H' A [] (f.atJ.map gN.name) true (i+1) ->
   (((((n_.set 1 (.aX f.cells)).set 7 (A)).set 8 (.bool c)).set 21 (.j (i+1:Nat))):PF).le O ->
   fL (λs:T3_=>((((n_.set 1 (.aX f.cells)).set 7 (s.2.1)).set 8 (.bool (b&&(auX s.1).all ok))).set 21 (.j s.1))) (λs=>s.2.2) (λs=>s.1<=Z' f.atJ/\jW s.2.2 s.2.1 [] (f.atJ.map gN.name) (b&&(auX s.1).all ok) s.1) (λs=>Z' f.atJ-s.1) (Z' f.atJ-i) K .normal O H':=
  λc A O H' hlt hb S R=>aE (i+1,A,H') ⟨hlt,S.xi⟩ sO_ (by simp only;rw[hb];exact R) b_
 have l:=xH (p:=ok) i b;have x:(b&&(auX i).all ok)=(b&&(auX f.atJ.length).all ok)->K (.exit 14) (((n_.set 1 (.aX f.cells)).set 8 (.bool (b&&(auX i).all ok)))) X:=λe=>by rw[e];exact U X
 have E:=λh=>xG (p:=ok) (b:=b) hi h;generalize hc:(b&&(auX i).all ok)=c at *
 simp only[go_sem,FH,auW];by_cases hlt:i<Z' f.atJ
 ·have u:(i:Int)<(Z' f.atJ:Nat):=Om;cases c with
  |false =>simp only[go_sem,u];exact Up.up Lq (x (E rfl).symm)
  |true=>
   obtain⟨W,g1,g3⟩:=Y.ex;have J:(f.atJ.map gN.cells)[i]?=some (f.atJ[i]).cells:=by simp[hlt]
   have V:i<(f.atJ.map gN.name).length:=by rw[auW];exact hlt
   have N:ok i=(lN ([]++(f.atJ.map gN.name).take i) ((f.atJ.map gN.name).getD i [])&&(I0 f.atL.length) f.atJ[i]):=by rw[<-M];unfold okL;simp[avI,hlt]
   rw[N]at l;have y:I0 f.atL.length f.atJ[i]=within (f.atJ[i]).atW 0 ((Z' f.atL:Int)-1):=rfl;rw[y]at l;simp only[go_sem,u,J];refine jW.call L.tovE (ns:=(f.atJ.map gN.name)) g1 (auY _) Om (g3 rfl) V (by simp only[go_sem,awW]) λA H1 h1 B=>?_;generalize lN ([]++(f.atJ.map gN.name).take i) ((f.atJ.map gN.name).getD i [])=fb at *
   cases fb with
   |false =>simp only[go_sem];refine bK .nil (inS) a_ ?_;simp only[go_sem,wZz i];exact fin false A _ _ hlt (l.trans rfl) B Lq
   |true =>simp only[go_sem];refine bK .nil (inS) a_ ?_;simp only[go_sem,J,auW,uh (Om:Z' f.atL<=1000)];refine cB rfl (L.inn (f.atJ[i]).atW 0 ((Z' f.atL:Int)-1)) rfl a_ ?_;simp only[go_sem,wZz i];exact fin _ A _ _ hlt (l.trans rfl) B Lq
 have u:¬(i:Int)<(Z' f.atJ:Nat):=Om;have:i=Z' f.atJ:=Om;subst this;simp only[go_sem,u];exact Up.up Lq (x hc.symm)
def Oo:Spec:=λname vs=>match name,vs with
 |76,[.int _ n,.int _ lo,.int _ hi]=>some ([],λ_=>aL (.bool (within n lo hi)))
 |74,[.agg cs]=>some ([],λ_=>aL (.bool (dS (frD cs))))
 |_,_=>none
theorem Oq(x:RF):Oo 74 [.agg x.cells]=some ([],λ_=>aL (.bool (dS x))):=by
 show some ([],λ_=>aL (.bool (dS (frD x.cells))))=_;rw[x4]
def D9(f:aD)(i:Nat)(d:cR):Bool:=
 within d.level 1 4&&(within d.parent 0 i&&(((f.atK.map cR.level).getD d.parent.toNat 0==i_.wrap (d.level-1))&&(within d.auE 1 64&&dS d.atZ)))
theorem aeG(f:aD)(i:Nat)(d:cR):NY f i d=D9 f i d:=by
 unfold NY D9;have:decide ((f.atK.map cR.level).getD d.parent.toNat 0=i_.wrap (d.level-1))=((f.atK.map cR.level).getD d.parent.toNat 0==i_.wrap (d.level-1)):=by generalize(f.atK.map cR.level).getD d.parent.toNat 0=u;by_cases h:u=i_.wrap (d.level-1)<;>simp[h]
 rw[this];cases within d.parent 0 i<;>cases within d.level 1 4<;>cases within d.auE 1 64<;>simp
def jT(f:aD):List (List UInt8):=(f.atK.drop 1).map cR.name
def DX(f:aD)(i:Nat):Bool:=match f.atK[i+1]? with
 |some d=>D9 f i d
 |none=>false
def DY(f:aD):Bool:=(auX (Z' f.atK-1)).all (okL [] (jT f) (DX f))
theorem D8(f:aD):(jT f).length=Z' f.atK-1:=by simp[jT]
theorem aiT(L:yA C)(f:aD)(hf:f.Ok)(ν:Z' f.atK<=40)(h0:0<Z' f.atK)(b:Bool)(K:bZ)[Up K](F:PF)(H:PH)
  (hF:(((((((n_.set 1 (.aX f.cells)).set 5 (.aJ)).set 6 (.aJ)).set 7 (.aJ)).set 8 (.bool b)).set 13 (.j 1)):PF).le F)
  (Y:∀w H',jW H' w [] (jT f) (b&&DY f) (Z' f.atK-1)->K (.exit 4) ((((((n_.set 1 (.aX f.cells)).set 5 (w)).set 6 (.aJ)).set 7 (.aJ)).set 8 (.bool (b&&DY f)))) H'):aI.wp C (.loop FC) K F H:=by
 obtain⟨ok,S⟩:∃ok,okL [] (jT f) (DX f)=ok:=⟨_,rfl⟩;unfold DY at Y;rw[S]at Y;obtain⟨n,hn⟩:∃n,Z' f.atK=n+1:=⟨Z' f.atK-1,by omega⟩;have θ:=D8 f;have η:Z' f.atK-1=n:=Om;rw[η]at Y θ;refine wp_loop (α:=T3_) (λs=>((((((n_.set 1 (.aX f.cells)).set 5 (s.2.1)).set 6 (.aJ)).set 7 (.aJ)).set 8 (.bool (b&&(auX s.1).all ok))).set 13 (.j (s.1+1:Nat)))) (λs=>s.2.2) (λs=>s.1<=n/\jW s.2.2 s.2.1 [] (jT f) (b&&(auX s.1).all ok) s.1) (λs=>n-s.1)
  (0,.aJ,H) ⟨auY _,⟨[],aQ.nil.nT 1,λ_=>rfl⟩⟩ (by
   have e:(b&&(auX 0).all ok)=b:=by cases b<;>rfl
   simp only[e];exact hF) b_ ?_
 rintro⟨i,w,H0⟩ ⟨hi,hG⟩;simp only at hi hG ⊢;have fin:∀(c:Bool)(B:PV)(Z:PF)(H':PH),i<n->(b&&(auX (i+1)).all ok)=c->jW H' B [] (jT f) true (i+1) ->
   (((((((n_.set 1 (.aX f.cells)).set 5 (B)).set 6 (.aJ)).set 7 (.aJ)).set 8 (.bool c)).set 13 (.j (i+1+1:Nat))):PF).le Z ->
   fL (λs:T3_=>((((((n_.set 1 (.aX f.cells)).set 5 (s.2.1)).set 6 (.aJ)).set 7 (.aJ)).set 8 (.bool (b&&(auX s.1).all ok))).set 13 (.j (s.1+1:Nat)))) (λs=>s.2.2) (λs=>s.1<=n/\jW s.2.2 s.2.1 [] (jT f) (b&&(auX s.1).all ok) s.1) (λs=>n-s.1) (n-i) K .normal Z H':=
  λc B Z H' hlt hb γ β=>aE (i+1,B,H') ⟨hlt,γ.xi⟩ sO_ (by simp only;rw[hb];exact β) b_
 have l:=xH (p:=ok) i b;have O:=λh=>xG (p:=ok) (b:=b) hi h;have J:(b&&(auX i).all ok)=(b&&(auX n).all ok)->((b&&(auX i).all ok)=true->i=n)->K (.exit 4) ((((((n_.set 1 (.aX f.cells)).set 5 (w)).set 6 (.aJ)).set 7 (.aJ)).set 8 (.bool (b&&(auX i).all ok)))) H0:=λe e2=>by
  obtain⟨A,g1,g3⟩:=hG.ex;have:=Y w H0 ⟨A,g1,λh=>by have h':=e.trans h;rw[g3 h',e2 h']⟩
  rwa[<-e]at this
 generalize hc:(b&&(auX i).all ok)=c at *
 simp only[go_sem,FC,auW];by_cases hlt:i<n
 ·have x:((i+1:Nat):Int)<(Z' f.atK:Nat):=Om;cases c with
  |false =>simp only[go_sem,x];exact Up.up Lq (J (O rfl).symm (λh=>by cases h))
  |true=>
   obtain⟨A,g1,g3⟩:=hG.ex;have M:i+1<Z' f.atK:=Om;have δ:=gR M;have ζ:i<(jT f).length:=Om;have ι:(jT f)[i]=(f.atK[i+1]).name:=by simp[jT,Nat.add_comm]
   have U:ok i=(lN ([]++(jT f).take i) ((jT f).getD i [])&&D9 f i f.atK[i+1]):=by rw[<-S];unfold okL DX;rw[avF M]
   have ε:=hf.dom _ (avB M);rw[U]at l;unfold D9 at l;have e1:i_.wrap (((i+1:Nat):Int)-1)=(i:Nat):=wO_
   have u:i_.wrap (((i+1:Nat):Int)+1)=((i+1+1:Nat):Int):=eC Om;have μ:=L.small _ ε.1;simp only[go_sem,x,δ];refine aS λo ho=>?_;have g4:=g1.new ho (.rows 7 [(f.atK[i+1]).cells]);have g5:=g4.at 0 rfl;simp only[go_sem];generalize H0.set o (.rows 7 [(f.atK[i+1]).cells])=H2 at *
   try simp only[go_sem,g5]
   refine jW.call L.tovE (ns:=jT f) g4 (auY _) Om (g3 rfl) ζ (by simp only[go_sem,ι]) λB H1 h1 y=>?_;have N:=h1.at 0 rfl;generalize lN ([]++(jT f).take i) ((jT f).getD i [])=fb at *
   generalize hd:f.atK[i+1]=E at *
   cases fb with
   |false =>simp only[go_sem];refine bK .nil Oo a_ ?_;simp only[go_sem,u];exact fin false B _ _ hlt (l.trans rfl) y Lq
   |true=>
    simp only[go_sem];refine bK .nil Oo a_ ?_;simp only[go_sem,N];refine cB rfl (L.inn E.level 1 4) rfl a_ ?_;cases X:within E.level 1 4 with
    |false =>simp only[go_sem,u];exact fin false B _ _ hlt (by rw[l,X]<;>simp) y Lq
    |true=>
     simp only[go_sem,N,e1];refine cB rfl (L.inn E.parent 0 (i:Nat)) rfl a_ ?_;cases k1:within E.parent 0 (i:Nat)with
     |false =>simp only[go_sem,u];exact fin false B _ _ hlt (by rw[l,X,k1]<;>simp) y Lq
     |true=>
      obtain⟨p0,p1⟩:=within_iff.1 k1;obtain⟨p,hp⟩:∃p:Nat,E.parent=p:=⟨E.parent.toNat,by omega⟩;have W:p<Z' f.atK:=Om;obtain⟨lv,R⟩:∃lv,(f.atK.map cR.level).getD E.parent.toNat 0=lv:=⟨_,rfl⟩;have κ:(f.atK[p]).level=lv:=by rw[<-R,hp,axA,getD_at W]
      rw[R]at l;have V:=gR W;simp only[go_sem,N,hp,V,κ];cases k2:lv==i_.wrap (E.level-1)with
      |false =>simp only[go_sem,u];exact fin false B _ _ hlt (by rw[l,X,k1,k2]<;>simp) y Lq
      |true=>
       simp only[go_sem,N];refine cB rfl (L.inn E.auE 1 64) rfl a_ ?_;cases k3:within E.auE 1 64 with
       |false =>simp only[go_sem,u];exact fin false B _ _ hlt (by rw[l,X,k1,k2,k3]<;>simp) y Lq
       |true =>simp only[go_sem,N];refine cB (Oq _) μ rfl a_ ?_;simp only[go_sem,u];exact fin _ B _ _ hlt (by rw[l,X,k1,k2,k3]<;>simp) y Lq
 have x:¬((i+1:Nat):Int)<(Z' f.atK:Nat):=Om;have:i=n:=Om;subst this;simp only[go_sem,x];exact Up.up Lq (J hc.symm (λ_=>rfl))
def Ec(f:aD)(d:eP):Bool:=within d.model 0 ((Z' f.atI:Int)-1)&&(within d.machine 0 ((Z' f.atK:Int)-1)&&((f.atK.map cR.level).getD d.machine.toNat 0==4))
def pN(f:aD):List (List UInt8):=f.atH.map eP.name
def BG(f:aD)(i:Nat):Bool:=match f.atH[i]? with
 |some d=>Ec f d
 |none=>false
def FL(f:aD):Bool:=(auX f.atH.length).all (okL (jT f) (pN f) (BG f))
theorem W1(L:yA C)(f:aD)(hf:f.Ok)(ν:Z' f.atK<=40)(h0:0<Z' f.atK)(ξ:Z' f.atH<=24)(μ:Z' f.atI<=4)(b:Bool)(w0:PV)(K:bZ)[Up K](F:PF)(H:PH)
  (δ:jW H w0 [] (jT f) b (Z' f.atK-1)) (hF:(((((((n_.set 1 (.aX f.cells)).set 5 (w0)).set 6 (.aJ)).set 7 (.aJ)).set 8 (.bool b)).set 15 (.j 0)):PF).le F)
  (W:∀H',K (.exit 6) (((((n_.set 1 (.aX f.cells)).set 6 (.aJ)).set 7 (.aJ)).set 8 (.bool (b&&FL f)))) H'):aI.wp C (.loop FD) K F H:=by
 obtain⟨ok,R⟩:∃ok,okL (jT f) (pN f) (BG f)=ok:=⟨_,rfl⟩;unfold FL at W;rw[R]at W;obtain⟨n,hn⟩:∃n,Z' f.atH=n:=⟨_,rfl⟩;have ι:=D8 f;have κ:(pN f).length=n:=by simp[pN,hn]
 rw[hn]at W;refine wp_loop (α:=T3_) (λs=>((((((n_.set 1 (.aX f.cells)).set 5 (s.2.1)).set 6 (.aJ)).set 7 (.aJ)).set 8 (.bool (b&&(auX s.1).all ok))).set 15 (.j s.1))) (λs=>s.2.2) (λs=>s.1<=n/\jW s.2.2 s.2.1 (jT f) (pN f) (b&&(auX s.1).all ok) s.1) (λs=>n-s.1)
  (0,w0,H) ⟨auY _,by
   obtain⟨y,q1,q2⟩:=δ.ex;have e:(b&&(auX 0).all ok)=b:=by cases b<;>rfl
   refine⟨y,q1,λh=>?_⟩;simp only[e]at h;rw[q2 h,azA,avT Om];simp⟩ (by
   have e:(b&&(auX 0).all ok)=b:=by cases b<;>rfl
   simp only[e];exact hF) b_ ?_
 rintro⟨i,w,Y⟩ ⟨hi,hG⟩;simp only at hi hG ⊢;have fin:∀(c:Bool)(B:PV)(X:PF)(H':PH),i<n->(b&&(auX (i+1)).all ok)=c->jW H' B (jT f) (pN f) true (i+1) ->
   (((((((n_.set 1 (.aX f.cells)).set 5 (B)).set 6 (.aJ)).set 7 (.aJ)).set 8 (.bool c)).set 15 (.j (i+1:Nat))):PF).le X ->
   fL (λs:T3_=>((((((n_.set 1 (.aX f.cells)).set 5 (s.2.1)).set 6 (.aJ)).set 7 (.aJ)).set 8 (.bool (b&&(auX s.1).all ok))).set 15 (.j s.1))) (λs=>s.2.2) (λs=>s.1<=n/\jW s.2.2 s.2.1 (jT f) (pN f) (b&&(auX s.1).all ok) s.1) (λs=>n-s.1) (n-i) K .normal X H':=
  λc B X H' hlt hb γ β=>aE (i+1,B,H') ⟨hlt,γ.xi⟩ sO_ (by simp only;rw[hb];exact β) b_
 have l:=xH (p:=ok) i b;have M:=λh=>xG (p:=ok) (b:=b) hi h;have E:(b&&(auX i).all ok)=(b&&(auX n).all ok)->K (.exit 6) (((((n_.set 1 (.aX f.cells)).set 6 (.aJ)).set 7 (.aJ)).set 8 (.bool (b&&(auX i).all ok)))) Y:=λe=>by rw[e];exact W Y
 generalize hc:(b&&(auX i).all ok)=c at *
 simp only[go_sem,FD,auW];by_cases hlt:i<n
 ·have u:((i:Nat):Int)<(Z' f.atH:Nat):=Om;cases c with
  |false =>simp only[go_sem,u];exact Up.up Lq (E (M rfl).symm)
  |true=>
   obtain⟨y,g1,g3⟩:=hG.ex;have N:i<Z' f.atH:=Om;have ε:=mF N;have ζ:i<(pN f).length:=Om;have η:(pN f)[i]=(f.atH[i]).name:=by simp[pN]
   have S:ok i=(lN (jT f++(pN f).take i) ((pN f).getD i [])&&Ec f f.atH[i]):=by rw[<-R];unfold okL BG;rw[avF N]
   rw[S]at l;unfold Ec at l;have x:i_.wrap ((i:Int)+1)=((i+1:Nat):Int):=eC Om;have e1:=uh (Om:Z' f.atI<=1000);have e2:=uh (Om:Z' f.atK<=1000);simp only[go_sem,u,ε];refine aS λo ho=>?_;have g4:=g1.new ho (.rows 3 [(f.atH[i]).cells]);have g5:=g4.at 0 rfl;simp only[go_sem];generalize Y.set o (.rows 3 [(f.atH[i]).cells])=H2 at *
   try simp only[go_sem,g5]
   refine jW.call L.tovE (base:=jT f) (ns:=pN f) g4 Om Om (g3 rfl) ζ (by simp only[go_sem,η]) λB H1 h1 A=>?_;have Z:=h1.at 0 rfl;generalize lN (jT f++(pN f).take i) ((pN f).getD i [])=fb at *
   generalize hd:f.atH[i]=J at *
   cases fb with
   |false =>simp only[go_sem,x];exact fin false B _ _ hlt (l.trans rfl) A Lq
   |true=>
    simp only[go_sem,Z,auW,e1];refine aB (L.inn J.model 0 ((Z' f.atI:Int)-1)) rfl ?_;cases k0:within J.model 0 ((Z' f.atI:Int)-1)with
    |false =>simp only[go_sem,x];exact fin false B _ _ hlt (by rw[l,k0]<;>simp) A Lq
    |true=>
     simp only[go_sem,Z,auW,e2];refine aB (L.inn J.machine 0 ((Z' f.atK:Int)-1)) rfl ?_;cases k1:within J.machine 0 ((Z' f.atK:Int)-1)with
     |false =>simp only[go_sem,x];exact fin false B _ _ hlt (by rw[l,k0,k1]<;>simp) A Lq
     |true=>
      obtain⟨p0,p1⟩:=within_iff.1 k1;obtain⟨p,hp⟩:∃p:Nat,J.machine=p:=⟨J.machine.toNat,by omega⟩;have V:p<Z' f.atK:=Om;obtain⟨lv,O⟩:∃lv,(f.atK.map cR.level).getD J.machine.toNat 0=lv:=⟨_,rfl⟩;have θ:(f.atK[p]).level=lv:=by rw[<-O,hp,axA,getD_at V]
      rw[O]at l;have U:=gR V;simp only[go_sem,Z,hp,U,θ,x];exact fin _ B _ _ hlt (by rw[l,k0,k1]<;>simp) A Lq
 have u:¬((i:Nat):Int)<(Z' f.atH:Nat):=Om;have:i=n:=Om;subst this;simp only[go_sem,u];exact Up.up Lq (E hc.symm)
theorem gb{xs:I_}{k:Nat}(h:k<Z' xs):(xs.map λx=>[PV.int .i64 x])[k]?=some [.j xs[k]]:=by simp[h]
def zpF(f:aD)(w:PV)(o i:Nat)(c:Bool)(j:Nat):PF:=(((((((n_.set 1 (.aX f.cells)).set 6 (w)).set 7 (.aJ)).set 8 (.bool c)).set 17 (.int .i64 i)).set 18 (.ptr o 17 0 0)).set 19 (.int .i64 j))
theorem acP(f:aD)(w:PV)(o i:Nat)(p:cO)(O:Z' p.atI<=9223372036854775807)(j:Nat)(J:j<Z' p.atI)(b:Bool)(K:bZ)[Up K](F:PF)(H:PH)(M:H o=some (.rows 17 [p.cells]))(B:((zpF f w o i b j).set 20 (.j 0)).le F)
  (E:K (.exit 12) (zpF f w o i (b&&(p.atI.take j).all λx=>x != p.atI[j]) j) H):aI.wp C (.loop SR) K F H:=by
 refine wp_loop (α:=Nat) (λk=>(zpF f w o i (b&&(p.atI.take k).all λx=>x != p.atI[j]) j).set 20 (.j k)) (λ_=>H) (λk=>k<=j) (λk=>j-k) 0 (auY _) (by
   have e:(b&&(p.atI.take 0).all λx=>x != p.atI[j])=b:=by cases b<;>rfl
   simp only[e];exact B) b_ ?_
 intro k N;have y:∀h:k<Z' p.atI,(b&&(p.atI.take (k+1)).all λx=>x != p.atI[j])=((b&&(p.atI.take k).all λx=>x != p.atI[j])&&(p.atI[k] != p.atI[j])):=λh=>by rw[awP h,List.all_append];simp[ayP]
 have fin:∀(c:Bool)(A:PF),k<j->(b&&(p.atI.take (k+1)).all λx=>x != p.atI[j])=c->((zpF f w o i c j).set 20 (.j (k+1:Nat))).le A->fL (λk:Nat=>(zpF f w o i (b&&(p.atI.take k).all λx=>x != p.atI[j]) j).set 20 (.j k)) (λ_=>H) (λk=>k<=j) (λk=>j-k) (j-k) K .normal A H:=
  λc A hlt e h=>aE (k+1) hlt Om (by rw[e];exact h) b_
 unfold zpF at fin;simp only[go_sem,SR,zpF];by_cases hlt:k<j
 ·have l:(k:Int)<(j:Nat):=Om;have u:k<Z' p.atI:=Om;have y:=y u;generalize(b&&(p.atI.take k).all λx=>x != p.atI[j])=c at *
  simp only[go_sem,l];refine bK .nil cS a_ ?_;cases c with
  |false =>simp only[go_sem,wZz k];exact fin false _ hlt (y.trans rfl) Lq
  |true =>simp only[go_sem,M,gb u,gb J,wZz k];exact fin _ _ hlt (y.trans rfl) Lq
 ·have l:¬(k:Int)<(j:Nat):=Om;have:k=j:=Om;subst this;simp only[go_sem,l];exact Up.up (by(repeat' (first|exact d_|refine c_ ?_ ?_))<;>first|(simp only[go_sem,zpF]<;>rfl)|rfl) E
def QQ(atI:Nat)(ms:I_)(j:Nat):Bool:=within (ms.getD j 0) 0 ((atI:Int)-1)&&(ms.take j).all λx=>x != ms.getD j 0
theorem Wy(L:yA C)(f:aD)(X:Z' f.atI<=4)(w:PV)(o i:Nat)(p:cO)(W:Z' p.atI<=9223372036854775807)(b:Bool)(K:bZ)[Up K](F:PF)(H:PH)(J:H o=some (.rows 17 [p.cells]))(R:(zpF f w o i b 0).le F)
  (N:K (.exit 10) ((((((n_.set 1 (.aX f.cells)).set 6 (w)).set 7 (.aJ)).set 8 (.bool (b&&(auX p.atI.length).all (QQ f.atI.length p.atI)))).set 17 (.j i))) H):aI.wp C (.loop FF) K F H:=by
 obtain⟨ok,B⟩:∃ok,QQ f.atI.length p.atI=ok:=⟨_,rfl⟩;rw[B]at N;refine wp_loop (α:=Nat) (λj=>zpF f w o i (b&&(auX j).all ok) j) (λ_=>H) (λj=>j<=Z' p.atI) (λj=>Z' p.atI-j) 0 (auY _) (by
   have e:(b&&(auX 0).all ok)=b:=by cases b<;>rfl
   simp only[e];exact R) b_ ?_
 intro j V;have u:=xH (p:=ok) j b;have A:=λh=>xG (p:=ok) (b:=b) V h;have fin:∀(c:Bool)(E:PF),j<Z' p.atI->(b&&(auX (j+1)).all ok)=c->(zpF f w o i c (j+1)).le E->fL (λj:Nat=>zpF f w o i (b&&(auX j).all ok) j) (λ_=>H) (λj=>j<=Z' p.atI) (λj=>Z' p.atI-j) (Z' p.atI-j) K .normal E H:=
  λc E hlt e h=>aE (j+1) hlt Om (by rw[e];exact h) b_
 unfold zpF at fin;have y:(b&&(auX j).all ok)=(b&&(auX p.atI.length).all ok)->K (.exit 10) ((((((n_.set 1 (.aX f.cells)).set 6 (w)).set 7 (.aJ)).set 8 (.bool (b&&(auX j).all ok))).set 17 (.j i))) H:=λe=>by rw[e];exact N
 generalize S:(b&&(auX j).all ok)=c at *
 simp only[go_sem,FF,zpF,J,auW];by_cases hlt:j<Z' p.atI
 ·have l:(j:Int)<(Z' p.atI:Nat):=Om;cases c with
  |false =>simp only[go_sem,l];exact Up.up Lq (y (A rfl).symm)
  |true=>
   have O:=uh (Om:Z' f.atI<=1000);have U:p.atI.getD j 0=p.atI[j]:=by simp[avI,hlt]
   have M:ok j=(within p.atI[j] 0 ((Z' f.atI:Int)-1)&&(p.atI.take j).all λx=>x != p.atI[j]):=by rw[<-B];unfold QQ;rw[U]
   rw[M]at u;simp only[go_sem,l];refine bK .nil Oo a_ ?_;simp only[go_sem,J,gb hlt,auW,O];refine cB rfl (L.inn p.atI[j] 0 ((Z' f.atI:Int)-1)) Sq a_ ?_;simp only[go_sem];refine acP f w o i p W j hlt (within p.atI[j] 0 ((Z' f.atI:Int)-1)) _ _ _ J (by(repeat' (first|exact d_|refine c_ ?_ ?_))<;>first|(simp only[go_sem,zpF]<;>rfl)|rfl) ?_;simp only[go_sem,zpF,wZz j];exact fin _ _ hlt (u.trans rfl) Lq
 ·have l:¬(j:Int)<(Z' p.atI:Nat):=Om;have:j=Z' p.atI:=Om;subst this;simp only[go_sem,l];exact Up.up Lq (y S.symm)
def Ha(atI:Nat)(p:cO):Bool:=QH p.k p.m p.auI p.s0 p.s1 p.s2 p.s3 p.s4&&(UK p.m p.repair p.target p.atU&&(decide (Z' p.atI>0)&&(auX p.atI.length).all (QQ atI p.atI)))
theorem agX(atI:Nat)(p:cO):lT atI p=Ha atI p:=by
 unfold lT Ha;rw[agP,ajU];have e:decide (Z' p.atI≠0)=decide (Z' p.atI>0):=decide_eq_decide.2 Om;have i:(auX p.atI.length).all (λj=>within (p.atI.getD j 0) 0 ((atI:Int)-1)&&!(p.atI.take j).contains (p.atI.getD j 0))=(auX p.atI.length).all (QQ atI p.atI):=by
  congr 1;funext j;unfold QQ;congr 1;generalize p.atI.getD j 0=x
  induction p.atI.take j with
  |nil=>rfl
  |cons a t l =>rw[List.contains_cons,ayX,<-l,Bool.not_or,bne,BEq.comm]
 rw[e,i];cases QH p.k p.m p.auI p.s0 p.s1 p.s2 p.s3 p.s4<;>cases UK p.m p.repair p.target p.atU<;>cases decide (Z' p.atI>0)<;>simp
structure ux(C:Ctx):Prop extends yA C where
 dur:∀(m:Int)(rep:List RF),mP rep->∀t h:RF,t.Ok->h.Ok->aH C 69 [.int .i64 m,frs rep,.agg t.cells,.agg h.cells] .nil (aL (.bool (UK m rep t h)))
def oN(f:aD):List (List UInt8):=f.atL.map cO.name
def QP(f:aD)(i:Nat):Bool:=match f.atL[i]? with
 |some p=>Ha f.atI.length p
 |none=>false
def qw(f:aD):Bool:=(auX f.atL.length).all (okL [] (oN f) (QP f))
theorem aiV(L:ux C)(f:aD)(hf:f.Ok)(η:Z' f.atL<=4)(δ:Z' f.atI<=4)(b:Bool)(K:bZ)[Up K](F:PF)(H:PH)
  (hF:((((((n_.set 1 (.aX f.cells)).set 6 (.aJ)).set 7 (.aJ)).set 8 (.bool b)).set 17 (.j 0)):PF).le F)
  (W:∀H',K (.exit 8) ((((n_.set 1 (.aX f.cells)).set 7 (.aJ)).set 8 (.bool (b&&qw f)))) H'):aI.wp C (.loop FG) K F H:=by
 obtain⟨ok,M⟩:∃ok,okL [] (oN f) (QP f)=ok:=⟨_,rfl⟩;unfold qw at W;rw[M]at W;have ζ:(oN f).length=Z' f.atL:=by simp[oN]
 refine wp_loop (α:=T3_) (λs=>(((((n_.set 1 (.aX f.cells)).set 6 (s.2.1)).set 7 (.aJ)).set 8 (.bool (b&&(auX s.1).all ok))).set 17 (.j s.1))) (λs=>s.2.2) (λs=>s.1<=Z' f.atL/\jW s.2.2 s.2.1 [] (oN f) (b&&(auX s.1).all ok) s.1) (λs=>Z' f.atL-s.1)
  (0,.aJ,H) ⟨auY _,⟨[],aQ.nil.nT 1,λ_=>rfl⟩⟩ (by
   have e:(b&&(auX 0).all ok)=b:=by cases b<;>rfl
   simp only[e];exact hF) b_ ?_
 rintro⟨i,w,S⟩ ⟨hi,hG⟩;simp only at hi hG ⊢;have fin:∀(c:Bool)(A:PV)(B:PF)(H':PH),i<Z' f.atL->(b&&(auX (i+1)).all ok)=c->jW H' A [] (oN f) true (i+1) ->
   ((((((n_.set 1 (.aX f.cells)).set 6 (A)).set 7 (.aJ)).set 8 (.bool c)).set 17 (.j (i+1:Nat))):PF).le B ->
   fL (λs:T3_=>(((((n_.set 1 (.aX f.cells)).set 6 (s.2.1)).set 7 (.aJ)).set 8 (.bool (b&&(auX s.1).all ok))).set 17 (.j s.1))) (λs=>s.2.2) (λs=>s.1<=Z' f.atL/\jW s.2.2 s.2.1 [] (oN f) (b&&(auX s.1).all ok) s.1) (λs=>Z' f.atL-s.1) (Z' f.atL-i) K .normal B H':=
  λc A B H' hlt hb U E=>aE (i+1,A,H') ⟨hlt,U.xi⟩ sO_ (by simp only;rw[hb];exact E) b_
 have l:=xH (p:=ok) i b;have J:=λh=>xG (p:=ok) (b:=b) hi h;have y:(b&&(auX i).all ok)=(b&&(auX f.atL.length).all ok)->K (.exit 8) ((((n_.set 1 (.aX f.cells)).set 7 (.aJ)).set 8 (.bool (b&&(auX i).all ok)))) S:=λe=>by rw[e];exact W S
 generalize hc:(b&&(auX i).all ok)=c at *
 simp only[go_sem,FG,auW];by_cases hlt:i<Z' f.atL
 ·have u:(i:Int)<(Z' f.atL:Nat):=Om;cases c with
  |false =>simp only[go_sem,u];exact Up.up Lq (y (J rfl).symm)
  |true=>
   obtain⟨ε,g1,g3⟩:=hG.ex;have X:=oT hlt;have β:i<(oN f).length:=Om;have γ:(oN f)[i]=(f.atL[i]).name:=by simp[oN]
   have N:ok i=(lN ([]++(oN f).take i) ((oN f).getD i [])&&Ha f.atI.length f.atL[i]):=by rw[<-M];unfold okL QP;rw[avF hlt]
   have x:=hf.atW _ (avB hlt);rw[N]at l;unfold Ha at l;have O:i_.wrap ((i:Int)+1)=((i+1:Nat):Int):=eC Om;simp only[go_sem,u,X];refine aS λo ho=>?_;have g4:=g1.new ho (.rows 17 [(f.atL[i]).cells]);have g5:=g4.at 0 rfl;simp only[go_sem];generalize S.set o (.rows 17 [(f.atL[i]).cells])=H2 at *
   try simp only[go_sem,g5]
   refine jW.call L.tovE (ns:=oN f) g4 (auY _) Om (g3 rfl) β (by simp only[go_sem,γ]) λA H1 h1 V=>?_;have R:=h1.at 0 rfl;generalize lN ([]++(oN f).take i) ((oN f).getD i [])=fb at *
   generalize hd:f.atL[i]=p at *
   have rest:∀(c:Bool)(B:PF),(zpF f A o i c 0).le B->(c&&(auX p.atI.length).all (QQ f.atI.length p.atI))=(b&&(auX (i+1)).all ok) ->
     aI.wp C (.loop FF) (fA 10 (fA 9 (fZ C (aI.wp C (.region SW)) (fL (λs:T3_=>(((((n_.set 1 (.aX f.cells)).set 6 (s.2.1)).set 7 (.aJ)).set 8 (.bool (b&&(auX s.1).all ok))).set 17 (.j s.1))) (λs=>s.2.2) (λs=>s.1<=Z' f.atL/\jW s.2.2 s.2.1 [] (oN f) (b&&(auX s.1).all ok) s.1) (λs=>Z' f.atL-s.1) (Z' f.atL-i) K)))) B H1:=by
    intro c B E Y;refine Wy L.toyA f δ A o i p x.atI c _ _ _ R E ?_;rw[Y];simp only[go_sem,SW,O];exact fin _ A _ _ hlt rfl V Lq
   cases fb with
   |false =>simp only[go_sem];exact rest false _ (by(repeat' (first|exact d_|refine c_ ?_ ?_))<;>first|(simp only[go_sem,zpF]<;>rfl)|rfl) (by rw[l];rfl)
   |true=>
    simp only[go_sem,R];refine aB (L.nums p.k p.m p.auI p.s0 p.s1 p.s2 p.s3 p.s4) Sq ?_;cases k0:QH p.k p.m p.auI p.s0 p.s1 p.s2 p.s3 p.s4 with
    |false =>simp only[go_sem];exact rest false _ (by(repeat' (first|exact d_|refine c_ ?_ ?_))<;>first|(simp only[go_sem,zpF]<;>rfl)|rfl) (by rw[l,k0];rfl)
    |true=>
     simp only[go_sem,R];refine aB (L.dur p.m p.repair x.repair p.target p.atU x.target x.atU) Sq ?_;cases k1:UK p.m p.repair p.target p.atU with
     |false =>simp only[go_sem];exact rest false _ (by(repeat' (first|exact d_|refine c_ ?_ ?_))<;>first|(simp only[go_sem,zpF]<;>rfl)|rfl) (by rw[l,k0,k1];rfl)
     |true =>have Z:decide ((Z' p.atI:Int)>0)=decide (Z' p.atI>0):=decide_eq_decide.2 Om;simp only[go_sem,R,auW,Z];exact rest _ _ (by(repeat' (first|exact d_|refine c_ ?_ ?_))<;>first|(simp only[go_sem,zpF]<;>rfl)|rfl) (by rw[l,k0,k1];rfl)
 ·have u:¬(i:Int)<(Z' f.atL:Nat):=Om;have:i=Z' f.atL:=Om;subst this;simp only[go_sem,u];exact Up.up Lq (y hc.symm)
def vY(r:cR):Bool:=(r.name==[])&&((r.level==0)&&((r.parent==-1)&&((r.auE==0)&&(dU (val r.atZ.num) (val r.atZ.den)&&(xF r.atZ==0)))))
def P9(f:aD):Bool:=match f.atK with
 |[]=>false
 |r::_=>vY r
def aaC(f:aD):Bool:=within f.auO 1 4&&(uW f.atQ.length f.atI.length f.atK.length f.atH.length f.atL.length f.atJ.length&&(decide (0<Z' f.atK)&&((((((OW f&&FX f)&&P9 f)&&DY f)&&FL f)&&qw f)&&Cx f)))
theorem Ko(n:Nat)(p q:Nat->Bool):(auX n).all (λi=>p i&&q i)=((auX n).all p&&(auX n).all q):=by
 induction n with
 |zero=>rfl
 |succ n e =>simp only[axV,List.all_append,e,ayX,List.all_nil,axP];cases(auX n).all p<;>cases(auX n).all q<;>cases p n<;>simp
theorem GN{α:Type}(l:List α)(p:α->Bool):(auX l.length).all (λi=>(l.map p).getD i false)=l.all p:=by
 refine Bool.eq_iff_iff.2 ?_;rw[awA,awA];constructor;intro h x e;obtain⟨i,hi,rfl⟩:=awR e;have:=h i (awG.2 hi);simpa[avI,hi]using this;intro h i hi;have hi:=awG.1 hi;simp[avI,hi,h _ (avB hi)]
theorem MS(ns:List (List UInt8))(n:Nat)(e:Z' ns=n)(P:Nat->Bool):(auX n).all (okL [] ns P)=(distinct ns&&(auX n).all P):=by
 subst e;have:okL [] ns P=λi=>(isName (ns.getD i [])&&!(ns.take i).contains (ns.getD i []))&&P i:=by funext i;rfl
 rw[this,Ko];rfl
theorem agQ(base ns:List (List UInt8))(P Q:Nat->Bool):((auX base.length).all (okL [] base P)&&(auX ns.length).all (okL base ns Q))=(distinct (base++ns)&&((auX base.length).all P&&(auX ns.length).all Q)):=by
 have e:okL base ns Q=λi=>(isName (ns.getD i [])&&!(base++ns.take i).contains (ns.getD i []))&&Q i:=by funext i;rfl
 have e2:distinct (base++ns)=(distinct base&&(auX ns.length).all λi=>isName (ns.getD i [])&&!(base++ns.take i).contains (ns.getD i [])):=by
  unfold distinct;rw[auZ,List.range_add,List.all_append,List.all_map];congr 1;refine Bool.eq_iff_iff.2 ?_;rw[awA,awA];refine forall_congr' λi=>forall_congr' λhi=>?_;have hi:=awG.1 hi;have a1:(base++ns).getD i []=base.getD i []:=by simp only[avI];rw[axU hi]
  have a2:(base++ns).take i=base.take i:=by rw[List.take_append_of_le_length Om]
  rw[a1,a2];refine Bool.eq_iff_iff.2 ?_;rw[awA,awA];refine forall_congr' λi=>forall_congr' λ_=>?_;have a1:(base++ns).getD (Z' base+i) []=ns.getD i []:=by simp only[avI];rw[axR Om];congr 2;omega
  have a2:(base++ns).take (Z' base+i)=base++ns.take i:=by rw[List.take_append,avT Om];congr 2;omega
  simp only[Function.comp,a1,a2]
 rw[MS base base.length rfl P,e,Ko,e2];cases distinct base<;>cases(auX base.length).all P<;>simp
theorem aaH(r:cR):(decide (r.name=[])&&decide (r.level=0)&&decide (r.parent=-1)&&decide (r.auE=0)&&dS r.atZ&&!bW r.atZ)=vY r:=by
 have u:decide (r.name=[])=(r.name==[]):=by cases r.name<;>rfl
 have w:decide (r.level=0)=(r.level==0):=by generalize r.level=x;by_cases h:x=0<;>simp[h]
 have y:decide (r.parent=-1)=(r.parent==-1):=by generalize r.parent=x;by_cases h:x=-1<;>simp[h]
 have A:decide (r.auE=0)=(r.auE==0):=by generalize r.auE=x;by_cases h:x=0<;>simp[h]
 have h5:(dS r.atZ&&!bW r.atZ)=(dU (val r.atZ.num) (val r.atZ.den)&&(xF r.atZ==0)):=by
  rw[RI];by_cases h:val r.atZ.num=0
  ·have i:bW r.atZ=false:=by unfold bW;simp[h]
   rw[i];simp only[avP,axP];cases e:dU (val r.atZ.num) (val r.atZ.den)with
   |false =>unfold dS sM;rw[e];rfl
   |true=>
    obtain⟨B,-,-⟩:=iR.1 e;unfold dS sM;rw[e,aF rfl,gh e,h];unfold qS;have hb:val r.atZ.den/avC 0 (val r.atZ.den)=1:=by rw[Nat.gcd_zero_left,Nat.div_self (axX B)]
    have l:dC (0/avC 0 (val r.atZ.den))=0:=by rw[Nat.zero_div];exact mE
    have b1:dC 1=1:=by rw[uH aU,mE]
    simp only[hb,l,b1];simp
  have i:bW r.atZ=true:=by unfold bW;simp[h]
  rw[i];simp
 unfold vY;rw[u,w,y,A];simp only[ayP]at h5 ⊢;rw[h5]
theorem X0(f:aD){r:cR}{t:List cR}(h:f.atK=r::t):IJ f r t=(vY r&&(auX t.length).all (DX f)):=by
 unfold IJ;rw[aaH];congr 2;funext i;unfold DX;rw[h,List.getElem?_cons_succ];cases t[i]? with
 |none=>rfl
 |some d=>exact aeG f i d
theorem Ss(f:aD):f.atH.all (kN f)=(auX f.atH.length).all (BG f):=by
 have:BG f=λi=>(f.atH.map (kN f)).getD i false:=by
  funext i;unfold BG;rw[avI,avO];cases f.atH[i]? with
  |none=>rfl
  |some d=>
   show Ec f d=kN f d;unfold Ec kN;have:decide ((f.atK.map cR.level).getD d.machine.toNat 0=4)=((f.atK.map cR.level).getD d.machine.toNat 0==4):=by generalize(f.atK.map cR.level).getD d.machine.toNat 0=u;by_cases h:u=4<;>simp[h]
   rw[this,ayP]
 rw[this,GN]
theorem Ut(f:aD):f.atL.all (lT f.atI.length)=(auX f.atL.length).all (QP f):=by
 have:QP f=λi=>(f.atL.map (lT f.atI.length)).getD i false:=by
  funext i;unfold QP;rw[avI,avO];cases f.atL[i]? with
  |none=>rfl
  |some d=>exact(agX _ d).symm
 rw[this,GN]
theorem ahF(f:aD):aaC f=cM f:=by
 have O:vz f.atQ.length=nF f:=by funext m;unfold vz nF;rw[ayP]
 have B:I0 f.atL.length=sR f:=rfl;have R:(within f.auO 1 4&&uW f.atQ.length f.atI.length f.atK.length f.atH.length f.atL.length f.atJ.length)=rR f:=by unfold rR uW;simp only[ayP]
 unfold aaC cM OW FX qw Cx;rw[MS _ _ (by rw[auW]),MS _ _ (by rw[auW]),MS _ _ (by rw[oN,auW]),MS _ _ (by rw[auW]),GN,GN,GN,O,B,Ut,Ss,<-ayP,R];unfold sD P9;cases l:f.atK with
 |nil=>simp
 |cons r t=>
  have i:decide (0<Z' f.atK)=true:=by rw[l];simp
  rw[l]at i;rw[i,avR];simp only;rw[X0 f l];have A:jT f=(f.atK.drop 1).map cR.name:=rfl;rw[l]at A;have N:(jT f).length=Z' t:=by rw[A];simp
  have two:=agQ (jT f) (pN f) (DX f) (BG f);rw[N,show(pN f).length=f.atH.length by simp[pN]]at two;have M:DY f=(auX t.length).all (okL [] (jT f) (DX f)):=by unfold DY;rw[l];rfl
  have e2:FL f=(auX f.atH.length).all (okL (jT f) (pN f) (BG f)):=rfl;rw[M,e2,<-A];rw[show f.atH.map eP.name=pN f from rfl,show f.atL.map cO.name=oN f from rfl];generalize(auX t.length).all (okL [] (jT f) (DX f))=a at *
  generalize(auX f.atH.length).all (okL (jT f) (pN f) (BG f))=b at *
  generalize distinct (jT f++pN f)=c at *
  generalize(auX t.length).all (DX f)=d at *
  generalize(auX f.atH.length).all (BG f)=e at *
  generalize rR f=s;generalize vY r=ro;generalize distinct (f.atQ.map cU.name)=u;generalize f.atQ.all nE=w;generalize distinct (f.atI.map dR.name)=x;generalize f.atI.all (nF f)=y;generalize distinct (oN f)=E;generalize(auX f.atL.length).all (QP f)=F;generalize distinct (f.atJ.map gN.name)=J;generalize f.atJ.all (sR f)=K;have:(s&&(((((((u&&w)&&(x&&y))&&ro)&&a)&&b)&&(E&&F))&&(J&&K)))=(s&&(ro&&((u&&w)&&((x&&y)&&((a&&b)&&((E&&F)&&(J&&K))))))):=by cases s<;>cases ro<;>cases u<;>cases w<;>cases x<;>cases y<;>simp[ayP]
  rw[this,two];cases s<;>cases ro<;>cases u<;>cases w<;>cases x<;>cases y<;>cases c<;>cases d<;>cases e<;>simp;cases E<;>cases F<;>cases J<;>cases K<;>rfl
theorem aaG(f:aD)(h:0<Z' f.atK):P9 f=vY f.atK[0]:=by
 obtain⟨a,b,c,d,e,g,i⟩:=f;cases d with
 |nil=>simp at h
 |cons r t=>rfl
theorem A5(L:ux C)(f:aD)(u:f.Ok):dx.wp C (aW dO.res (aL (.bool (cM f)))) (g_ [.agg f.cells]) .nil:=by
 have l:=ahF f;unfold aaC at l;have fail:∀(F:PF)(H:PH),cM f=false->F 2=some (.bool false)->aW [.tmp 2] (aL (.bool (cM f))) .ret F H:=λF H e h=>by rw[e];exact bC (vs:=[.bool false]) (.inr rfl) .nil (by simp only[go_sem,h]) a_ ⟨rfl,rfl⟩
 simp only[go_sem,dx,dO];refine aB (L.inn f.auO 1 4) rfl ?_;cases V:within f.auO 1 4 with
 |false =>rw[V,avJ]at l;simp only[go_sem,avP];exact fail _ _ l.symm rfl
 |true=>
 rw[V,avR]at l;simp only[go_sem,avH,auW];refine aB (L.sizes f.atQ.length f.atI.length f.atK.length f.atH.length f.atL.length f.atJ.length) rfl ?_;cases k1:uW f.atQ.length f.atI.length f.atK.length f.atH.length f.atL.length f.atJ.length with
 |false =>rw[k1,avJ]at l;simp only[go_sem,avP];exact fail _ _ l.symm rfl
 |true=>
 rw[k1,avR]at l;obtain⟨N,A,B,O,R,α⟩:=WN k1;by_cases h0:Z' f.atK=0;rw[bS Om,avJ]at l;simp only[go_sem,avH,auW,bN (Om:(Z' f.atK:Int)=0)];exact fail _ _ l.symm rfl;have i:0<Z' f.atK:=Om;rw[bG i,avR]at l;simp only[go_sem,avH,auW,bA (Om:(Z' f.atK:Int)≠0)];refine aiU L.toyA f u N _ _ _ Lq λH1=>?_;simp only[go_sem];refine W2 L.toyA f u k1 (OW f) _ _ _ Lq λH2=>?_;have K:=gR i;have y:=(u.dom _ (avB i)).1;have M:=aaG f i;rw[M]at l;generalize f.atK[0]=r at *
 have rest:∀(c:Bool)(F:PF)(H:PH),((((((n_.set 1 (.aX f.cells)).set 5 (.aJ)).set 6 (.aJ)).set 7 (.aJ)).set 8 (.bool c)):PF).le F->c=((OW f&&FX f)&&vY r) ->
   aI.wp C (.seq (.seq (.region SS) (.block 4 (.loop FC))) (.seq (.seq (.region SU) (.block 6 (.loop FD))) (.seq (.seq (.region SV) (.block 8 (.loop FG))) (.seq (.seq (.region SX) (.block 14 (.loop FH))) (.seq (.region SY) .ret))))) (aW [.tmp 2] (aL (.bool (cM f)))) F H:=by
  intro c F H X Z;refine sT _ (λ_ _ _ _ a b=>Up.up a b) X ?_;simp only[go_sem,SS];refine aiT L.toyA f u B i c _ _ _ Lq λw W Y=>?_;simp only[go_sem,SU];refine W1 L.toyA f u B i O A (c&&DY f) w _ _ _ Y Lq λH4=>?_;simp only[go_sem,SV];refine aiV L f u R A ((c&&DY f)&&FL f) _ _ _ Lq λH5=>?_;simp only[go_sem,SX];refine aiW L.toyA f u k1 (((c&&DY f)&&FL f)&&qw f) _ _ _ Lq λH6=>?_;simp only[go_sem,SY];refine bC (vs:=[.bool (cM f)]) (.inr rfl) .nil ?_ a_ ⟨rfl,rfl⟩;rw[<-l,Z];simp only[go_sem]
 simp only[aI.wp,go_sem]at rest;simp only[go_sem,K];refine aS λo ho=>?_;have g0:(H2.set o (.rows 7 [r.cells])) o=some (.rows 7 [r.cells]):=cE ..;simp only[go_sem];generalize H2.set o (.rows 7 [r.cells])=W at *
 cases k2:(OW f&&FX f)with
 |false =>simp only[go_sem];exact rest false _ _ Lq (by rw[k2];rfl)
 |true=>
  simp only[go_sem,g0];cases x:r.name==[]with
  |false =>simp only[go_sem];exact rest false _ _ Lq (by rw[k2];unfold vY;rw[x];rfl)
  |true=>
   simp only[go_sem,g0];cases E:r.level==0 with
   |false =>simp only[go_sem];exact rest false _ _ Lq (by rw[k2];unfold vY;rw[x,E];rfl)
   |true=>
    simp only[go_sem,g0];cases J:r.parent==-1 with
    |false =>simp only[go_sem];exact rest false _ _ Lq (by rw[k2];unfold vY;rw[x,E,J];rfl)
    |true=>
     simp only[go_sem,g0];cases S:r.auE==0 with
     |false =>simp only[go_sem];exact rest false _ _ Lq (by rw[k2];unfold vY;rw[x,E,J,S];rfl)
     |true=>
      simp only[go_sem,g0];refine aB (L.valid _ y) rfl ?_;cases U:dU (val r.atZ.num) (val r.atZ.den)with
      |false =>simp only[go_sem];exact rest false _ _ Lq (by rw[k2];unfold vY;rw[x,E,J,S,U];rfl)
      |true =>simp only[go_sem,g0];refine aB (L.sign _ y U) rfl ?_;simp only[go_sem];exact rest _ _ _ Lq (by rw[k2];unfold vY;rw[x,E,J,S,U];rfl)
theorem Vw(f:aD)(l:L2_)(hl:iV l)(o i:Nat)(hlt:i<Z' l)(K:bZ)[Up K](F:PF)(H:PH)
  (S:((((((n_.set 1 (lay l)).set 2 (.aX f.cells)).set 5 (.osl o 1 0 f.atH.length)).set 6 (.j i)).set 7 (.j 0)):PF).le F) (U:(h_.set o (.rows 1 (aT (fJ f.atH.length (l.take i).flatten)))).le H)
  (X:K (.exit 2) (((((n_.set 1 (lay l)).set 2 (.aX f.cells)).set 5 (.osl o 1 0 f.atH.length)).set 6 (.j i))) (h_.set o (.rows 1 (aT (fJ f.atH.length (l.take (i+1)).flatten))))):aI.wp C (.loop RJ) K F H:=by
 obtain⟨β,γ⟩:=hl;have O:(l.map λr=>[ints r])[i]?=some [ints l[i]]:=by simp[hlt]
 have V:=yD l hlt;have M:=GY l (i+1);rw[V]at M X;rw[auZ]at M;generalize Y:l[i]=row at *
 generalize hn:Z' f.atH=n at *
 generalize hA:(l.take i).flatten=A at *
 refine wp_loop (α:=Nat) (λk=>(((((n_.set 1 (lay l)).set 2 (.aX f.cells)).set 5 (.osl o 1 0 n)).set 6 (.j i)).set 7 (.j k))) (λk=>h_.set o (.rows 1 (aT (fJ n (A++row.take k))))) (λk=>k<=Z' row) (λk=>Z' row-k) 0 (auY _) S (by rw[List.take_zero,awJ];exact U) ?_;intro k hk;simp only[go_sem,RJ,O,auW];by_cases y:k<Z' row;have e:(k:Int)<(Z' row:Nat):=Om;have B:(row.map λn=>[PV.int .i64 n])[k]?=some [.j row[k]]:=by simp[y]
 have E:A++row.take (k+1)=(A++row.take k)++[row[k]]:=by rw[awP y,awB]
 have fin:∀(F:PF),((((((n_.set 1 (lay l)).set 2 (.aX f.cells)).set 5 (.osl o 1 0 n)).set 6 (.j i)).set 7 (.j (k+1:Nat))):PF).le F->∀H:PH,H o=some (.rows 1 (aT (fJ n (A++row.take (k+1))))) ->
   fL (λk:Nat=>(((((n_.set 1 (lay l)).set 2 (.aX f.cells)).set 5 (.osl o 1 0 n)).set 6 (.j i)).set 7 (.j k))) (λk=>h_.set o (.rows 1 (aT (fJ n (A++row.take k))))) (λk=>k<=Z' row) (λk=>Z' row-k) (Z' row-k) K .normal F H:=by
  intro F S H U;exact aE (k+1) y Om S (e_ a_ U)
 generalize hx:row[k]=x at *
 by_cases R:x>=0;by_cases W:x<(n:Nat);obtain⟨d,rfl⟩:∃d:Nat,x=d:=⟨x.toNat,by omega⟩;have w:d<n:=Om;have J:=sG (l:=fJ n (A++row.take k)) (i:=d) (by rw[jI];exact w);rw[YI _ w]at J;have Z:(A++row.take k).count (d:Int)<=16777216:=by refine avZ (List.count_le_length ..) ?_;rw[auZ,avN];omega
 have N:=va (A++row.take k) w;rw[<-E]at N;have hw:i_.wrap ((((A++row.take k).count (d:Int):Nat):Int)+1)=(((A++row.take k).count (d:Int):Nat):Int)+1:=wrap_i64 Om Om;simp only[go_sem,e,B,R,W,avK,J,hw,mG,N,wZz k,O];exact fin _ Lq _ Sq;have u:=GT (n:=n) (A++row.take k) (x:=x) Om;simp only[go_sem,e,B,R,W,wZz k,O];exact fin _ Lq _ (by rw[E,u];simp only[go_sem]);have u:=GT (n:=n) (A++row.take k) (x:=x) Om;simp only[go_sem,e,B,R,wZz k,O];exact fin _ Lq _ (by rw[E,u];simp only[go_sem]);have e:¬(k:Int)<(Z' row:Nat):=Om;have:k=Z' row:=Om;subst this;simp only[go_sem,e,avW];exact Up.up Lq X
theorem Vx(L:TN C)(f:aD)(A:f.Ok)(l:L2_)(y:iV l) :
  cx.wp C (aW oG.res (cC (ints (HF f l)))) (g_ [.agg f.cells,lay l]) .nil:=by
 simp only[go_sem,cx,oG];refine aB (L.valid f A) rfl ?_;unfold HF;cases E:cM f with
 |false =>simp only[go_sem,avP];exact uU rfl
 |true =>have F:=(VF.of E).small.atH;have w:(Z' f.atH:Int)*((8:Nat):Int)<=140737488355328:=Om;have x:(Z' f.atH:Int)<=9223372036854775807:=Om;simp only[go_sem,avH,auW,w,x];refine aS λo J=>?_;simp only[go_sem];refine wp_loop (α:=Nat) (λi=>((((n_.set 1 (lay l)).set 2 (.aX f.cells)).set 5 (.osl o 1 0 f.atH.length)).set 6 (.int .i64 i))) (λi=>h_.set o (.rows 1 (aT (fJ f.atH.length (l.take i).flatten)))) (λi=>i<=Z' l) (λi=>Z' l-i) 0 (auY _) Lq (e_ a_ (by rw[List.take_zero,List.flatten_nil,d9,tG];simp only[go_sem])) ?_;intro i hi;simp only[go_sem,auW];have B:=y.rows;by_cases hlt:i<Z' l;have e:(i:Int)<(Z' l:Nat):=Om;simp only[go_sem,e];have u:=Vw (C:=C) f l y o i hlt;simp only[aI.wp,go_sem]at u;refine u _ _ _ Lq b_ ?_;simp only[go_sem,wZz i];exact aE (i+1) hlt Om Lq b_;have e:¬(i:Int)<(Z' l:Nat):=Om;have:i=Z' l:=Om;subst this;simp only[go_sem,e,avW];refine QW (.inr rfl) (o:=o) (s:=1) (k:=Z' f.atH) (rs:=aT (fJ f.atH.length l.flatten)) rfl Sq (by rw[cJ,jI];omega) ⟨?_,rfl⟩;rw[pe,avT (by rw[cJ,jI];omega),iF];exact .refl _
structure Km(C:Ctx):Prop extends TN C where
 bad:∀(f:aD)(row:I_),Z' row<=16777216->aH C 89 [.agg f.cells,ints row] .nil (aL (.int .i64 (d6 f row)))
def Ho(f:aD)(v:Nat)(row:I_):List jE:=
 if(Z' row:Int)=fT f v then(match gO (kW f) row 0 with|some i=>[⟨1,v,(i:Nat)⟩]|none=>tB f (cT f v) v row)else[⟨1,v,(Z' row:Nat)⟩]
theorem Zx(f:aD)(l:L2_)(v:Nat):uO f l v=Ho f v (l.getD v []):=by
 unfold uO sZ Ho;split<;>rename_i h;split at h
 ·rename_i c;rw[aF c];cases hb:gO (kW f) (l.getD v []) 0 with
  |none=>rw[hb]at h;cases h
  |some i=>rw[hb]at h;cases h;rfl
 rename_i c;rw[aC c];cases h;rfl;split at h
 ·rename_i c;rw[aF c];cases hb:gO (kW f) (l.getD v []) 0 with
  |none=>rfl
  |some i=>rw[hb]at h;cases h
 cases h
structure YC(C:Ctx):Prop extends Km C where
 allowed:∀(f:aD)(p:cO)(d:Nat),VF f->Fits p.atI->d<Z' f.atH->aH C 77 [.agg p.cells,.agg f.cells,.int .i64 d] .nil (aL (.bool (p.atI.contains ((mdl f d:Nat):Int))))
 count:∀(f:aD)(row:I_)(n:Nat),VF f->BE f row->n<Z' f.atK->aH C 80 [.agg f.cells,ints row,.int .i64 n] .nil (aL (.int .i64 (row.countP (lP f n):Nat)))
theorem ahK(f:aD)(v:Nat)(row:I_)(N:BE f row)(K:bZ)[Up K](F:PF)(H:PH)
  (E:((((((n_.set 1 (.j v)).set 2 (ints row)).set 3 (.aX f.cells)).set 8 (.aJ)).set 9 (.j 0)):PF).le F)
  (J:∀w H',bF H' 3 w (dX (cD 2 v row.length (home row)))->K (.exit 0) (((((n_.set 1 (.j v)).set 2 (ints row)).set 3 (.aX f.cells)).set 8 (w))) H'):aI.wp C (.loop j2) K F H:=by
 obtain⟨O,y⟩:=N;refine wp_loop (α:=T3_) (λt=>(((((n_.set 1 (.j v)).set 2 (ints row)).set 3 (.aX f.cells)).set 8 (t.2.1)).set 9 (.j t.1))) (λt=>t.2.2) (λt=>t.1<=Z' row/\bF t.2.2 3 t.2.1 (dX (cD 2 v t.1 (home row)))) (λt=>Z' row-t.1) (0,.aJ,H) ⟨auY _,.nil⟩ E b_ ?_;rintro⟨k,w,A⟩ ⟨M,i⟩;simp only at M i ⊢;simp only[go_sem,j2,auW];by_cases hlt:k<Z' row;have e:(k:Int)<(Z' row:Nat):=Om;have l:(row.map λn=>[PV.int .i64 n])[k]?=some [.j row[k]]:=by simp[hlt]
 have R:=y row[k] (avB hlt);have B:home row k=decide (row[k]<0):=by simp[home,avI,hlt]
 have e2:=jL 2 v k (home row);have S:=fH 2 v k (home row);generalize row[k]=x at *
 by_cases c:x=-1;rw[aF (by rw[B];simp;omega)]at e2;have u:(1:Nat)*3<=16777216:=by decide
 simp only[go_sem,e,l,bN c,u];refine eX (src:=[(⟨2,v,k⟩:jE).cells]) i rfl (by unfold roomFor;rw[iM];simp only[avG,maxLen];omega) λv' H' g1 _=>?_;rw[mB,<-e2]at g1;simp only[go_sem,wZz k];exact aE (k+1,v',H') ⟨hlt,g1⟩ sO_ Lq b_;rw[aC (by rw[B];simp;omega)]at e2;rw[<-e2]at i;simp only[go_sem,e,l,bA c,wZz k];exact aE (k+1,w,A) ⟨hlt,i⟩ sO_ Lq b_;have e:¬(k:Int)<(Z' row:Nat):=Om;have:k=Z' row:=Om;subst this;simp only[go_sem,e];exact Up.up Lq (J w A i)
theorem akZ(f:aD)(v:Nat)(row:I_)(M:Z' row<=16777216)(w:PV)(d:Nat)(K:bZ)[Up K](F:PF)(H:PH)
  (B:((((((((n_.set 1 (.j v)).set 2 (ints row)).set 3 (.aX f.cells)).set 8 (w)).set 10 (.j d)).set 11 (.j 0)).set 12 (.j 0)):PF).le F)
  (E:K (.exit 4) (((((((n_.set 1 (.j v)).set 2 (ints row)).set 3 (.aX f.cells)).set 8 (w)).set 10 (.j d)).set 11 (.j (row.count (d:Int):Nat)))) H):aI.wp C (.loop j3) K F H:=by
 refine wp_loop (α:=Nat) (λk=>(((((((n_.set 1 (.j v)).set 2 (ints row)).set 3 (.aX f.cells)).set 8 (w)).set 10 (.j d)).set 11 (.j ((row.take k).count (d:Int):Nat))).set 12 (.j k))) (λ_=>H) (λk=>k<=Z' row) (λk=>Z' row-k) 0 (auY _) B b_ ?_;intro k N;simp only[go_sem,j3,auW];by_cases hlt:k<Z' row;have i:(k:Int)<(Z' row:Nat):=Om;have l:(row.map λn=>[PV.int .i64 n])[k]?=some [.j row[k]]:=by simp[hlt]
 have u:=ai (p:=(·==(d:Int))) hlt;have J:(row.take k).count (d:Int)<=16777216:=avZ (List.count_le_length ..) (by rw[avN];omega);simp only[<-List.count_eq_countP]at u;have fin:∀(c:Nat)(A:PF),(row.take (k+1)).count (d:Int)=c->((((((((n_.set 1 (.j v)).set 2 (ints row)).set 3 (.aX f.cells)).set 8 (w)).set 10 (.j d)).set 11 (.j c)).set 12 (.j (k+1:Nat))):PF).le A ->
   fL (λk:Nat=>(((((((n_.set 1 (.j v)).set 2 (ints row)).set 3 (.aX f.cells)).set 8 (w)).set 10 (.j d)).set 11 (.j ((row.take k).count (d:Int):Nat))).set 12 (.j k))) (λ_=>H) (λk=>k<=Z' row) (λk=>Z' row-k) (Z' row-k) K .normal A H:=
  λc A e h=>aE (k+1) hlt Om (by rw[e];exact h) b_
 generalize(row.take k).count (d:Int)=c at *
 generalize row[k]=x at *
 by_cases y:x=d;rw[aF (by simp[y])]at u;simp only[go_sem,i,l,bN y,wZz c,wZz k];exact fin (c+1) _ u Lq;rw[aC (by simp[y]),awQ]at u;simp only[go_sem,i,l,bA y,wZz k];exact fin c _ u Lq;have i:¬(k:Int)<(Z' row:Nat):=Om;have:k=Z' row:=Om;subst this;simp only[go_sem,i,avW];exact Up.up Lq E
theorem abN(f:aD)(row:I_){k:Nat}(h:k<Z' f.atH):lY f row k=decide ((row.count (k:Int):Nat)>1):=by
 have:(fJ f.atH.length row)[k]?=some ((row.count (k:Int):Nat):Int):=by rw[avF (by rw[jI];exact h),YI _ h]
 rw[lY,avI,this,axK];exact decide_eq_decide.2 Om
theorem aaM(f:aD)(hV:VF f)(v:Nat)(row:I_)(B:Z' row<=16777216)(y:List jE)(S:Z' y<=16777216)(E:PV)(K:bZ)[Up K](F:PF)(H:PH)
  (M:((((((n_.set 1 (.j v)).set 2 (ints row)).set 3 (.aX f.cells)).set 8 (E)).set 10 (.j 0)):PF).le F) (N:bF H 3 E (dX y))
  (O:∀w H',bF H' 3 w (dX (y++cD 3 v f.atH.length (lY f row)))->K (.exit 2) (((((n_.set 1 (.j v)).set 2 (ints row)).set 3 (.aX f.cells)).set 8 (w))) H'):aI.wp C (.loop j4) K F H:=by
 have U:=hV.small.atH;refine wp_loop (α:=T3_) (λt=>(((((n_.set 1 (.j v)).set 2 (ints row)).set 3 (.aX f.cells)).set 8 (t.2.1)).set 10 (.j t.1))) (λt=>t.2.2) (λt=>t.1<=Z' f.atH/\bF t.2.2 3 t.2.1 (dX (y++cD 3 v t.1 (lY f row)))) (λt=>Z' f.atH-t.1) (0,E,H)
  ⟨auY _,by rw[show cD 3 v 0 (lY f row)=[]from rfl,awJ];exact N⟩ M b_ ?_
 rintro⟨k,w,J⟩ ⟨R,u⟩;simp only at R u ⊢;simp only[go_sem,j4,auW];by_cases hlt:k<Z' f.atH;have e:(k:Int)<(Z' f.atH:Nat):=Om;have l:=jL 3 v k (lY f row);have V:=fH 3 v k (lY f row);rw[abN f row hlt]at l;simp only[go_sem,e];have i:=akZ (C:=C) f v row B w k;simp only[aI.wp,go_sem]at i;refine i _ _ _ Lq ?_;by_cases c:row.count (k:Int)>1;have A:((row.count (k:Int):Nat):Int)>1:=Om;rw[aF (by simp;omega)]at l;have x:(1:Nat)*3<=16777216:=by decide
 simp only[go_sem,A,x];refine eX (src:=[(⟨3,v,k⟩:jE).cells]) u rfl (by unfold roomFor;rw[iM,auZ];simp only[avG,maxLen];omega) λv' H' g1 _=>?_;rw[mB,awB,<-l]at g1;simp only[go_sem,wZz k];exact aE (k+1,v',H') ⟨hlt,g1⟩ sO_ Lq b_;have A:¬((row.count (k:Int):Nat):Int)>1:=Om;rw[aC (by simp;omega)]at l;rw[<-l]at u;simp only[go_sem,A,wZz k];exact aE (k+1,w,J) ⟨hlt,u⟩ sO_ Lq b_;have e:¬(k:Int)<(Z' f.atH:Nat):=Om;have:k=Z' f.atH:=Om;subst this;simp only[go_sem,e];exact Up.up Lq (O w J u)
def raS(f:aD)(p:cO):Spec:=λname vs=>match name,vs with
 |77,[_,_,.int _ d]=>some ([],λ_=>aL (.bool (p.atI.contains ((mdl f d.toNat:Nat):Int))))
 |_,_=>none
theorem akT(f:aD)(p:cO)(d:Nat):raS f p 77 [.agg p.cells,.agg f.cells,.j d]=some ([],λ_=>aL (.bool (p.atI.contains ((mdl f d:Nat):Int)))):=rfl
theorem aaK(L:YC C)(f:aD)(hV:VF f)(p:cO)(hp:Fits p.atI)(o v:Nat)(row:I_)(hr:BE f row)(J:List jE)(β:Z' J<=100000000)(R:PV)(K:bZ)[Up K](F:PF)(H:PH)
  (S:(((((((n_.set 1 (.j v)).set 2 (ints row)).set 3 (.aX f.cells)).set 8 (R)).set 13 (.ptr o 17 0 0)).set 14 (.j 0)):PF).le F) (U:bF H 3 R (dX J)) (ho:H o=some (.rows 17 [p.cells]))
  (V:∀w H',bF H' 3 w (dX (J++cD 4 v row.length (dZ f p row)))->H' o=some (.rows 17 [p.cells])->K (.exit 6) ((((((n_.set 1 (.j v)).set 2 (ints row)).set 3 (.aX f.cells)).set 8 (w)).set 13 (.ptr o 17 0 0))) H'):aI.wp C (.loop j5) K F H:=by
 obtain⟨γ,O⟩:=hr;refine wp_loop (α:=T3_) (λt=>((((((n_.set 1 (.j v)).set 2 (ints row)).set 3 (.aX f.cells)).set 8 (t.2.1)).set 13 (.ptr o 17 0 0)).set 14 (.j t.1))) (λt=>t.2.2) (λt=>t.1<=Z' row/\bF t.2.2 3 t.2.1 (dX (J++cD 4 v t.1 (dZ f p row)))/\t.2.2 o=some (.rows 17 [p.cells])) (λt=>Z' row-t.1) (0,R,H)
  ⟨auY _,by rw[show cD 4 v 0 (dZ f p row)=[]from rfl,awJ];exact U,ho⟩ S b_ ?_
 rintro⟨k,w,N⟩ ⟨Z,y,i⟩;simp only at Z y i ⊢;have B:=e_ a_ i;simp only[go_sem,j5,auW];by_cases hlt:k<Z' row;have l:(k:Int)<(Z' row:Nat):=Om;have A:(row.map λn=>[PV.int .i64 n])[k]?=some [.j row[k]]:=by simp[hlt]
 have hx:=O row[k] (avB hlt);have Y:row.getD k 0=row[k]:=by simp[avI,hlt]
 have W:dZ f p row k=(decide (0<=row[k])&&!p.atI.contains ((mdl f (row[k]).toNat:Nat):Int)):=by rw[dZ,Y]
 have u:=jL 4 v k (dZ f p row);have l4:=fH 4 v k (dZ f p row);rw[W]at u;generalize row[k]=x at *
 have skip:∀M,cD 4 v (k+1) (dZ f p row)=cD 4 v k (dZ f p row)->(((((((n_.set 1 (.j v)).set 2 (ints row)).set 3 (.aX f.cells)).set 8 (w)).set 13 (.ptr o 17 0 0)).set 14 (.j (k+1:Nat))):PF).le M ->
   fL (λt:T3_=>((((((n_.set 1 (.j v)).set 2 (ints row)).set 3 (.aX f.cells)).set 8 (t.2.1)).set 13 (.ptr o 17 0 0)).set 14 (.j t.1))) (λt=>t.2.2) (λt=>t.1<=Z' row/\bF t.2.2 3 t.2.1 (dX (J++cD 4 v t.1 (dZ f p row)))/\t.2.2 o=some (.rows 17 [p.cells])) (λt=>Z' row-t.1) (Z' row-k) K .normal M N:=
  λM e h=>aE (k+1,w,N) ⟨hlt,by simp only;rw[e];exact y,i⟩ sO_ h b_
 simp only[go_sem,l];refine bK (h_.set o (.rows 17 [p.cells])) (raS f p) B ?_;by_cases c:x>=0
 ·obtain⟨d,rfl⟩:∃d:Nat,x=d:=⟨x.toNat,by omega⟩;have X:d<Z' f.atH:=Om;rw[bG (Om:(0:Int)<=d),avR,axA]at u;simp only[go_sem,A,c,i];refine cB (akT f p d) (L.allowed f p d hV hp X) rfl B ?_;cases hb:p.atI.contains ((mdl f d:Nat):Int)with
  |true =>rw[hb,aC aU]at u;simp only[go_sem,avH,wZz k];exact skip _ u Lq
  |false=>
   rw[hb,aF aU]at u;have E:(1:Nat)*3<=16777216:=by decide
   simp only[go_sem,avP,E];refine eX (src:=[(⟨4,v,k⟩:jE).cells]) y rfl (by unfold roomFor;rw[iM,auZ];simp only[avG,maxLen];omega) λv' H' g1 g2=>?_;rw[mB,awB,<-u]at g1;have go:=g2 o _ i (y.ne i aU);simp only[go_sem,wZz k];exact aE (k+1,v',H') ⟨hlt,g1,go⟩ sO_ Lq b_
 rw[bS (show ¬0<=x from c),avJ,aC aU]at u;simp only[go_sem,A,c,wZz k];exact skip _ u Lq;have l:¬(k:Int)<(Z' row:Nat):=Om;have:k=Z' row:=Om;subst this;simp only[go_sem,l];exact Up.up Lq (V w N y i)
theorem Xp(f:aD)(p:cO)(row:I_){k:Nat}(e:k≠0)(h:k<Z' f.atK):nM f p row k=(decide (eN f p k>0)&&decide (((row.countP (lP f k):Nat):Int)>eN f p k)):=by
 have:(fO f row)[k]?=some ((row.countP (lP f k):Nat):Int):=by simp only[fO,avO,axO h,avS,kX,aC e]
 rw[nM,avI,this,axK]
theorem Se(f:aD)(hV:VF f)(p:cO)(v:Int)(row:I_):cD 5 v 1 (nM f p row)=[]:=by
 have h:=hV.root.1;have e:(fO f row)[0]?=some 0:=by simp only[fO,avO,axO h,avS,kX,if_true]
 have:nM f p row 0=false:=by rw[nM,avI,e,axK];by_cases c:eN f p 0>0;rw[bS (Om:¬(0:Int)>eN f p 0),awU];rw[bS c,avJ]
 rw[jL,this];rfl
theorem aaL(L:YC C)(f:aD)(hV:VF f)(p:cO)(o v:Nat)(row:I_)(R:BE f row)(y:List jE)(Z:Z' y<=200000000)(O:PV)(K:bZ)[Up K](F:PF)(H:PH)
  (U:(((((((n_.set 1 (.j v)).set 2 (ints row)).set 3 (.aX f.cells)).set 8 (O)).set 13 (.ptr o 17 0 0)).set 15 (.j 1)):PF).le F) (V:bF H 3 O (dX y)) (ho:H o=some (.rows 17 [p.cells]))
  (W:∀w H',bF H' 3 w (dX (y++cD 5 v f.atK.length (nM f p row)))->K (.exit 8) ((n_.set 8 (w))) H'):aI.wp C (.loop j6) K F H:=by
 have hs:=hV.small.atK;refine wp_loop (α:=T3_) (λt=>((((((n_.set 1 (.j v)).set 2 (ints row)).set 3 (.aX f.cells)).set 8 (t.2.1)).set 13 (.ptr o 17 0 0)).set 15 (.j t.1))) (λt=>t.2.2) (λt=>1<=t.1/\t.1<=Z' f.atK/\bF t.2.2 3 t.2.1 (dX (y++cD 5 v t.1 (nM f p row)))/\t.2.2 o=some (.rows 17 [p.cells])) (λt=>Z' f.atK-t.1) (1,O,H)
  ⟨avD _,hV.root.1,by rw[Se f hV,awJ];exact V,ho⟩ U b_ ?_
 rintro⟨k,w,A⟩ ⟨N,Y,u,e⟩;simp only at N Y u e ⊢;simp only[go_sem,j6,auW];by_cases hlt:k<Z' f.atK
 ·have i:(k:Int)<(Z' f.atK:Nat):=Om;have l:=jL 5 v k (nM f p row);have l5:=fH 5 v k (nM f p row);rw[Xp f p row Om hlt]at l;obtain⟨q0,q4,-⟩:=hV.qF hlt;have h5:((lvl f k)<((5:Nat):Int)):=Om;have fin:∀(J:PF),((((((((n_.set 1 (.j v)).set 2 (ints row)).set 3 (.aX f.cells)).set 8 (w)).set 13 (.ptr o 17 0 0)).set 15 (.j k)).set 16 (.j (eN f p k))):PF).le J ->
    aI.wp C (.seq (.region RM) (.cond (.tmp 145) (.region j7) .skip)) (fA 9 (fZ C (aI.wp C (.region HX)) (fL (λt:T3_=>((((((n_.set 1 (.j v)).set 2 (ints row)).set 3 (.aX f.cells)).set 8 (t.2.1)).set 13 (.ptr o 17 0 0)).set 15 (.j t.1))) (λt=>t.2.2) (λt=>1<=t.1/\t.1<=Z' f.atK/\bF t.2.2 3 t.2.1 (dX (y++cD 5 v t.1 (nM f p row)))/\t.2.2 o=some (.rows 17 [p.cells])) (λt=>Z' f.atK-t.1) (Z' f.atK-k) K))) J A:=by
   intro J M;refine sT _ (λ_ _ _ _ a b=>Up.up a b) M ?_;have β:row.countP (lP f k)<=16777216:=avZ List.countP_le_length R.len;generalize eN f p k=S at *
   by_cases B:S>0
   ·rw[bG B,avR]at l;simp only[go_sem,RM,B];refine aB (L.count f row k hV R hlt) rfl ?_;by_cases E:((row.countP (lP f k):Nat):Int)>S
    ·rw[bG E,aF rfl]at l;have x:(1:Nat)*3<=16777216:=by decide
     simp only[go_sem,E,j7,x];refine eX (src:=[(⟨5,v,k⟩:jE).cells]) u rfl (by unfold roomFor;rw[iM,auZ];simp only[avG,maxLen];omega) λv' H' g1 g2=>?_;rw[mB,awB,<-l]at g1;have go:=g2 o _ e (u.ne e aU);simp only[go_sem,HX,wZz k];exact aE (k+1,v',H') ⟨by omega,hlt,g1,go⟩ sO_ Lq b_
    ·rw[bS E,aC aU]at l;rw[<-l]at u;simp only[go_sem,E,HX,wZz k];exact aE (k+1,w,A) ⟨by omega,hlt,u,e⟩ sO_ Lq b_
   ·rw[bS B,avJ,aC aU]at l;rw[<-l]at u;simp only[go_sem,RM,B,HX,wZz k];exact aE (k+1,w,A) ⟨by omega,hlt,u,e⟩ sO_ Lq b_
  simp only[aI.wp,go_sem,eN]at fin;simp only[go_sem,i,gR hlt,wU hlt,q0,h5,ayG];have X:lvl f k=0\/lvl f k=1\/lvl f k=2\/lvl f k=3\/lvl f k=4:=Om;rcases X with h|h|h|h|h
  all_goals
   rw[h]at fin ⊢;simp only[go_sem,e];exact fin _ (by(repeat' (first|exact d_|refine c_ ?_ ?_))<;>first|(simp only[go_sem,cO.spread]<;>rfl)|rfl)
 ·have i:¬(k:Int)<(Z' f.atK:Nat):=Om;have:k=Z' f.atK:=Om;subst this;simp only[go_sem,i];exact Up.up Lq (W w A u)
theorem adU{f:aD}{row:I_}(e:Z' row<=16777216)(h:gO (kW f) row 0=none):BE f row:=⟨e,λx i=>by
 have:=xB h x i;simp[kW]at this;omega⟩
theorem ahU(L:YC C)(f:aD)(hV:VF f)(x:∀p∈f.atL,Fits p.atI)(v:Nat)(e:v<Z' f.atJ)(row:I_)(u:Z' row<=16777216) :
  Ai.wp C (aW iQ.res (cC (LK (Ho f v row)))) (g_ [.agg f.cells,.j v,ints row]) .nil:=by
 have w:(1:Nat)*3<=16777216:=by decide
 simp only[go_sem,Ai,iQ,auW];refine aB (L.fh f v hV e) rfl ?_;unfold Ho;by_cases c:(Z' row:Int)=fT f v
 ·rw[aF c];simp only[go_sem,cF c];refine aB (L.bad f row u) rfl ?_;cases hb:gO (kW f) row 0 with
  |some i=>
   have l:d6 f row=(i:Int):=by rw[d6,hb]
   simp only[go_sem,l,show(i:Int)>=0 by omega,w];exact bC (.inr rfl) .nil rfl a_ ⟨.refl _,rfl⟩
  |none=>
   have l:d6 f row=-1:=by rw[d6,hb]
   have A:=adU u hb;obtain⟨hp,he⟩:=mS hV e;have y:=x _ (avB hp);rw[he]at y;have B:=hV.small;have s1:=B.atH;have s2:=B.atK;have X:=fH 2 v row.length (home row);have Y:=fH 3 v f.atH.length (lY f row);have Z:=fH 4 v row.length (dZ f (cT f v) row);simp only[go_sem,l,show ¬(-1:Int)>=0 by omega];have E:=ahK (C:=C) f v row A;simp only[aI.wp,go_sem]at E;refine E _ _ _ Lq λO U g1=>?_;simp only[go_sem];have F:=aaM (C:=C) f hV v row u (cD 2 v row.length (home row)) Om O;simp only[aI.wp,go_sem]at F;refine F _ _ _ Lq g1 λR H2 g2=>?_;simp only[go_sem];refine bK .nil cS a_ ?_;simp only[go_sem,sS e,hV.HO e,oT hp,he];refine aS λo M=>?_;simp only[go_sem];have J:=aaK L f hV (cT f v) y o v row A (cD 2 v row.length (home row)++cD 3 v f.atH.length (lY f row)) (by rw[auZ];omega) R;simp only[aI.wp,go_sem]at J;refine⟨a_,?_⟩;refine J _ _ _ Lq (g2.fresh M _).1 Sq λS V g3 N=>?_;simp only[go_sem];have K:=aaL L f hV (cT f v) o v row A (cD 2 v row.length (home row)++cD 3 v f.atH.length (lY f row)++cD 4 v row.length (dZ f (cT f v) row)) (by simp only[auZ];omega) S;simp only[aI.wp,go_sem]at K;refine K _ _ _ Lq g3 N λw4 W g4=>?_;simp only[go_sem];exact kE (.inr rfl) g4 rfl
 rw[aC c];simp only[go_sem,cY c,w,auW];exact bC (.inr rfl) .nil rfl a_ ⟨.refl _,rfl⟩
structure uy(C:Ctx):Prop extends TN C where
 room:∀(f:aD)(room:I_),f.Ok->aH C 85 [.agg f.cells,ints room] .nil (aL (ints (sO f room)))
 loads:∀(f:aD)(l:L2_),f.Ok->iV l->aH C 84 [.agg f.cells,lay l] .nil (aL (ints (HF f l)))
 row:∀(f:aD)(v:Nat)(row:I_),VF f->(∀p∈f.atL,Fits p.atI)->v<Z' f.atJ->Z' row<=16777216->aH C 90 [.agg f.cells,.int .i64 v,ints row] .nil (aL (LK (Ho f v row)))
def svS(f:aD)(l:L2_)(room:I_):Spec:=λname vs=>match name,vs with
 |90,[_,.int _ v,_]=>some ([],λ_=>aL (LK (uO f l v.toNat)))
 |85,_=>some ([],λ_=>aL (ints (sO f room)))
 |84,_=>some ([],λ_=>aL (ints (HF f l)))
 |_,_=>none
theorem ahW(f:aD)(hV:VF f)(l:L2_)(room:I_)(J:List jE)(W:Z' J<=2000000000)(N:PV)(K:bZ)[Up K](F:PF)(H:PH)
  (R:(((((n_.set 7 (N)).set 9 (ints (iE f room))).set 10 (ints (iF f l))).set 11 (.j 0)):PF).le F) (U:bF H 3 N (dX J))
  (S:∀w H',bF H' 3 w (dX (J++cD 6 (-1) f.atH.length (over f l room)))->K (.exit 2) ((n_.set 7 (w))) H'):aI.wp C (.loop WW) K F H:=by
 have Y:=hV.small.atH;have M:=rW f room;refine wp_loop (α:=T3_) (λt=>((((n_.set 7 (t.2.1)).set 9 (ints (iE f room))).set 10 (ints (iF f l))).set 11 (.j t.1))) (λt=>t.2.2) (λt=>t.1<=Z' f.atH/\bF t.2.2 3 t.2.1 (dX (J++cD 6 (-1) t.1 (over f l room)))) (λt=>Z' f.atH-t.1) (0,N,H)
  ⟨auY _,by rw[show cD 6 (-1) 0 (over f l room)=[]from rfl,awJ];exact U⟩ R b_ ?_
 rintro⟨k,w,O⟩ ⟨V,u⟩;simp only at V u ⊢;simp only[go_sem,WW,auW,M];by_cases hlt:k<Z' f.atH;have e:(k:Int)<(Z' f.atH:Nat):=Om;have A:k<(iF f l).length:=by rw[iF,jI];exact hlt
 have B:k<(iE f room).length:=by rw[rW];exact hlt
 have a1:((iF f l).map λn=>[PV.int .i64 n])[k]?=some [.j (iF f l)[k]]:=by simp[A]
 have a2:((iE f room).map λn=>[PV.int .i64 n])[k]?=some [.j (iE f room)[k]]:=by simp[B]
 have X:over f l room k=decide ((iF f l)[k]>(iE f room)[k]):=by simp only[over,avI,avF A,avF B,axK]
 have i:=jL 6 (-1) k (over f l room);have Z:=fH 6 (-1) k (over f l room);rw[X]at i;generalize(iF f l)[k]=x at *
 generalize(iE f room)[k]=y at *
 simp only[go_sem,e];refine bK .nil cS a_ ?_;by_cases c:x>y;rw[aF (bG c)]at i;have E:(1:Nat)*3<=16777216:=by decide
 simp only[go_sem,a1,a2,c,E];refine eX (src:=[(⟨6,-1,k⟩:jE).cells]) u rfl (by unfold roomFor;rw[iM,auZ];simp only[avG,maxLen];omega) λv' H' k1 _=>?_;rw[mB,awB,<-i]at k1;simp only[go_sem,wZz k];exact aE (k+1,v',H') ⟨hlt,k1⟩ sO_ Lq b_;rw[aC (by rw[bS c];decide)]at i;rw[<-i]at u;simp only[go_sem,a1,a2,c,wZz k];exact aE (k+1,w,O) ⟨hlt,u⟩ sO_ Lq b_;have e:¬(k:Int)<(Z' f.atH:Nat):=Om;have:k=Z' f.atH:=Om;subst this;simp only[go_sem,e];exact Up.up Lq (S w O u)
theorem abB(L:uy C)(f:aD)(E:f.Ok)(l:L2_)(A:iV l)(room:I_) :
  sv.wp C (aW nP.res (cC (LK (sQ f l room)))) (g_ [.agg f.cells,lay l,ints room]) .nil:=by
 simp only[go_sem,sv,nP];refine aB (L.valid f E) rfl ?_;unfold sQ;have β:=A.rows;have B:∀p∈f.atL,Fits p.atI:=λp hp=>(E.atW p hp).atI;cases S:cM f with
 |false =>simp only[go_sem,avP];exact kE (rows:=[]) (.inr rfl) .nil rfl
 |true=>
  have hV:=VF.of S;by_cases c:Z' l=Z' f.atJ;have F:((Z' l:Int) != (Z' f.atJ:Int))=false:=cF Om;rw[aF c];have W:=hV.small.atJ;simp only[go_sem,avH,auW,F];refine wp_loop (α:=T3_) (λt=>(((((n_.set 1 (lay l)).set 2 (ints room)).set 3 (.aX f.cells)).set 7 (t.2.1)).set 8 (.j t.1))) (λt=>t.2.2) (λt=>t.1<=Z' l/\bF t.2.2 3 t.2.1 (dX (qW f l t.1))) (λt=>Z' l-t.1) (0,.aJ,.nil) ⟨auY _,.nil⟩ Lq a_ ?_;rintro⟨k,w,Y⟩ ⟨hk,K⟩;simp only at hk K ⊢;simp only[go_sem,auW];by_cases hlt:k<Z' l;have e:(k:Int)<(Z' l:Nat):=Om;have O:=CH hV.small A (n:=k) Om;have y:=OD f l k;have V:=i7 hV.small A hlt;have R:(l[k]).length<=16777216:=by have h1:=GY l (k+1);have:=A.all;rw[yD l hlt,auZ]at h1;omega
  have N:(l.map λr=>[ints r])[k]?=some [ints l[k]]:=by simp[hlt]
  have i:=L.row f k l[k] hV B Om R;rw[<-show l.getD k []=l[k] by simp[avI,hlt],<-Zx]at i;rw[show l.getD k []=l[k] by simp[avI,hlt]]at i;simp only[go_sem,e];refine bK .nil (svS f l room) a_ ?_;simp only[go_sem,N];refine cB (show svS f l room 90 [.agg f.cells,.j k,ints l[k]]=some ([],λ_=>aL (LK (uO f l k)))from rfl) i rfl a_ ?_;simp only[go_sem];refine eX (src:=dX (uO f l k)) K rfl (by unfold roomFor;rw[iM,iM];simp only[maxLen];omega) λv' H' k1 _=>?_;have U:dX (qW f l k)++dX (uO f l k)=dX (qW f l (k+1)):=by rw[y];simp only[dX,avU]
  rw[U]at k1;refine⟨a_,?_⟩;simp only[go_sem,wZz k];exact aE (k+1,v',H') ⟨hlt,k1⟩ sO_ Lq b_;have e:¬(k:Int)<(Z' l:Nat):=Om;have:k=Z' l:=Om;subst this;have O:=CH hV.small A (n:=Z' l) (avD _);have x:=L.room f room E;have u:=L.loads f l E A;have Z:sO f room=iE f room:=by rw[sO,S];rfl
  have e2:HF f l=iF f l:=by rw[HF,S];rfl
  simp only[go_sem,e];refine bK .nil (svS f l room) a_ ?_;simp only[go_sem];refine cB (show svS f l room 85 [.agg f.cells,ints room]=some ([],λ_=>aL (ints (sO f room)))from rfl) x rfl a_ ?_;simp only[go_sem];refine cB (show svS f l room 84 [.agg f.cells,lay l]=some ([],λ_=>aL (ints (HF f l)))from rfl) u rfl a_ ?_;rw[Z,e2];simp only[go_sem];have X:=ahW (C:=C) f hV l room (qW f l l.length) Om w;simp only[aI.wp,go_sem]at X;refine X _ _ Y Lq K λw' H' M=>?_;simp only[go_sem];exact kE (.inr rfl) M rfl;have F:((Z' l:Int) != (Z' f.atJ:Int))=true:=cY Om;have J:(1:Nat)*3<=16777216:=by decide
  rw[aC c];simp only[go_sem,avH,auW,F,J];exact bC (.inr rfl) .nil rfl a_ ⟨.refl _,rfl⟩
structure Rw(C:Ctx):Prop extends uy C where
 viol:∀(f:aD)(l:L2_) (room:I_),f.Ok->iV l->aH C 87 [.agg f.cells,lay l,ints room] .nil (aL (LK (sQ f l room)))
theorem Vu(L:Rw C)(f:aD)(e:f.Ok)(l:L2_)(i:iV l)(room:I_) :
  cw.wp C (aW sg.res (aL (.bool (lO f l room)))) (g_ [.agg f.cells,lay l,ints room]) .nil:=by
 simp only[go_sem,cw,sg];refine aB (L.valid f e) rfl ?_;unfold lO;cases u:cM f with
 |false =>simp only[go_sem];refine cL ?_;rfl
 |true =>simp only[go_sem];refine aB (L.viol f l room e i) rfl ?_;by_cases c:(sQ f l room).length=0;simp only[go_sem,auW,bN (show(((sQ f l room).length:Nat):Int)=0 by omega)];refine cL ?_;simp[bL,c];simp only[go_sem,auW,bA (show(((sQ f l room).length:Nat):Int)≠0 by omega)];refine cL ?_;rw[bL,bS c]



def chT(n k a i:Nat):List N_:=(axI a (i-a)).flatMap λx=>(dK n k (x+1)).map (x::·)
theorem Xh(n k a:Nat):chT n k a a=[]:=by unfold chT;rw[axT];rfl
theorem Xg(n k a:Nat){i:Nat}(h:a<=i):chT n k a (i+1)=chT n k a i++(dK n k (i+1)).map (i::·):=by
 unfold chT;rw[show i+1-a=(i-a)+1 by omega,List.range'_concat,List.flatMap_append,Nat.one_mul,show a+(i-a)=i by omega];simp
theorem Xf(n k a i:Nat)(h:i=a\/i<=n-k)(e:n<=i+k):chT n k a i=dK n (k+1) a:=by
 unfold chT;rw[dK,show i-a=n-k-a by omega]
theorem ajS(n k a:Nat){i:Nat}(h:a<=i)(l:i+k<n):(chT n k a (i+1)).length<=(dK n (k+1) a).length:=by
 obtain⟨d,e⟩:∃d,n-k-a=(i+1-a)+d:=⟨n-k-a-(i+1-a),by omega⟩;unfold chT;rw[dK,e,<-List.range'_append (s:=a) (m:=i+1-a) (n:=d) (step:=1),List.flatMap_append,auZ];omega
def nI(l:List N_):L2_:=l.map cA
theorem Zm(a b:List N_):nI (a++b)=nI a++nI b:=avU
theorem re(k a n:Nat)(hk:k<=10)(ha:a<=1000)(hn:n<=40)(rec:∀J k':Nat,J<=1000->k=k'+1->aH C 215 [.j J,.j n,.j k'] .nil (aL (lay (nI (dK n k' J))))) :
  HR.wp C (aW MT.res (cC (lay (nI (dK n k a))))) (g_ [.j a,.j n,.j k]) .nil:=by
 cases k with
 |zero =>simp only[go_sem,HR,bN (show((0:Nat):Int)=0 from rfl),MT];refine bC (.inr rfl) .nil (vs:=[.sl 1 [[.aJ]]]) Sq a_ ⟨?_,rfl⟩;exact(rE.nil.snoc (u:=.aJ) (w:=[]) (.inr ⟨rfl,rfl⟩)).co
 |succ k=>
  have O:=λ(J:Nat)(h:J<=1000)=>rec J k h rfl;clear rec;have η:=AY n (k+1) a;have β:2^(n-a)<=2^40:=ayU Om Om;have γ:(2:Nat)^40=1099511627776:=by decide
  have wk:i_.wrap (((k+1:Nat):Int)-1)=(k:Int):=wO_
  simp only[go_sem,HR,bA (Om:((k+1:Nat):Int)≠0),MT];refine wp_loop (α:=Nat × PV × WPs × PH) (λs=>((((n_.set 1 (.j n)).set 2 (.j (k+1:Nat))).set 7 (s.2.1)).set 8 (.j s.1))) (λs=>s.2.2.2) (λs=>a<=s.1/\(s.1=a\/s.1<=n-k)/\wls s.2.2.1=nI (chT n k a s.1)/\aQ s.2.2.2 [] (eW s.2.1 s.2.2.1)) (λs=>n-s.1) (a,.aJ,[],.nil) ⟨avD _,.inl rfl,by simp only;rw[Xh];rfl,aQ.IR aQ.nil⟩ Lq b_ ?_;rintro⟨i,V,ps,H⟩ ⟨E,N,y,B⟩;simp only at E N y B;have wi:i_.wrap ((i:Int)+((k+1:Nat):Int))=(i:Int)+((k+1:Nat):Int):=wrap_i64 Om Om;simp only[go_sem,wi];by_cases c:i+(k+1)<=n;have W:(i:Int)+((k+1:Nat):Int)<=(n:Nat):=Om;have l:=Xg n k a E;have M:=ajS n k a E (Om:i+k<n);have hr:=O (i+1) Om;have K:=xX n k (i+1);generalize dK n k (i+1)=R at *
  have δ:Z' R<=1099511627776:=by rw[l,auZ,auW]at M;omega
  simp only[go_sem,W,wZz i,wk];refine aB hr Sq ?_;simp only[go_sem];refine wp_loop (α:=Nat × PV × WPs × PH) (λs=>((((((n_.set 1 (.j n)).set 2 (.j (k+1:Nat))).set 7 (s.2.1)).set 8 (.j i)).set 9 (lay (nI R))).set 10 (.j s.1))) (λs=>s.2.2.2) (λs=>s.1<=Z' R/\wls s.2.2.1=nI (chT n k a i++(R.take s.1).map (i::·))/\aQ s.2.2.2 [] (eW s.2.1 s.2.2.1)) (λs=>Z' R-s.1) (0,V,ps,H) ⟨auY _,by simp only;rw[y];simp,B⟩ Lq b_ ?_;clear y B;rintro⟨j,V,ps,H⟩ ⟨hj,y,B⟩;simp only at hj y B;have F:(nI R).length=Z' R:=auW _;simp only[go_sem,auW,F];by_cases A:j<Z' R;have x:(j:Int)<(Z' R:Nat):=Om;have Y:((nI R).map λr=>[ints r])[j]?=some [ints (cA R[j])]:=by unfold nI;simp[A]
  have Z:R.take (j+1)=R.take j++[R[j]]:=awP A;have ζ:=(K _ (avB A)).1;have ε:Z' ps<=1099511627776:=by have X:=congrArg List.length y;rw[BD]at X;unfold nI at X;rw[auW,auZ,auW,avN]at X;rw[l,auZ,auW]at M;omega
  generalize R[j]=r at *
  simp only[go_sem,x];refine aS λo ho=>?_;have h2:=B.Ph (s:=1) (rows:=aT [(i:Int)]) ho;simp only[go_sem,x,F,auW,Y];refine h2.append (Z' ps+1) (rows:=aT [(i:Int)]) (src:=aT (cA r)) (FU _ _ _ (IS _ _)) rfl (by unfold roomFor;rw[cJ,cJ,gZ];simp only[avG,maxLen];omega) λv' H' U _=>?_;have S:aT [(i:Int)]++aT (cA r)=aT (cA (i::r)):=rfl;rw[S]at U;have hO:bF H' 1 v' (aT (cA (i::r))):=U.own (Z' ps+1) (by rw[List.getElem?_set_self (by rw[auZ,IS];simp)]);rcases hO with⟨h0,-⟩|⟨q,rs,rfl,-,-,-⟩
  cases h0;rw[ayF _ _ (by rw[IS];exact avD _),IS,axT]at U;simp only[go_sem,avL,avY,or_false,forall_eq];refine U.append 0 (rows:=dJ ps) (src:=[[PV.osl q 1 0 (aT (cA (i::r))).length]]) rfl Sq (by unfold roomFor;rw[mH];simp only[avG,maxLen];omega) λv2 H2 h4 _=>?_;simp only[go_sem,wZz j];refine aE (j+1,v2,ps++[(PV.osl q 1 0 (aT (cA (i::r))).length,cA (i::r))],H2) ⟨A,?_,?_⟩ sO_ (lE1 F) b_;simp only;rw[Z,avU,<-awB,Zm,<-y];unfold wls;rw[avU];rfl;have e:eW v2 (ps++[(PV.osl q 1 0 (aT (cA (i::r))).length,cA (i::r))])=((eW V ps)++[(PV.osl q 1 0 (aT (cA (i::r))).length,1,aT (cA (i::r)))]).set 0 (v2,1,dJ ps++[[PV.osl q 1 0 (aT (cA (i::r))).length]]):=by unfold eW dJ kY;rw[avU,avU];rfl
  simp only;rw[e];exact h4;have x:¬(j:Int)<(Z' R:Nat):=Om;have:j=Z' R:=Om;subst this;rw[avW,<-l]at y;simp only[go_sem,x,wZz i];exact aE (i+1,V,ps,H) ⟨by simp only;omega,.inr sO_,y,B⟩ sO_ Lq b_;have W:¬(i:Int)+((k+1:Nat):Int)<=(n:Nat):=Om;rw[Xf n k a i N Om]at y;simp only[go_sem,W];rw[<-y];exact QY (.inr rfl) Sq B

def aqO(name:Nat)(r r':PV):Spec:=λe _=>if e=name then some ([],λ_=>aL r)else some ([],λ_=>aL r')
theorem Md{f:aD}(u:cM f=true)(lv e:Int):(mZ f lv e).length<=1099511627776/\∀s∈mZ f lv e,Z' s<=1000000000000000/\s.Pairwise (· < ·):=by
 unfold mZ;split;obtain⟨w,l⟩:=aaS (VF.of u) (iU f lv) (kh (VF.of u) lv).2 e.toNat;exact⟨w,λs i=>⟨by have:=(l s i).1;omega,(l s i).2⟩⟩;exact⟨auY _,λs i=>by cases i⟩
structure acS(C:Ctx):Prop where
 Hv:∀(f:aD)(lv cnt:Int),f.Ok->aH C 230 [.agg f.cells,tU lv cnt] .nil (aL (.tup [lay (mZ f lv cnt),.int .i64 (gD f lv cnt)]))
 holds:∀(f:aD)(l:L2_) (room:I_),f.Ok->iV l->aH C 150 [.agg f.cells,lay l,ints room] .nil (aL (.bool (lO f l room)))
 srt:∀row:I_,row≠[]->Z' row<=1000->aH C 368 [ints row] .nil (aL (ints (sorted row)))
 loss:∀(sc:L2_),Z' sc<=1000000000000000->(∀s∈sc,Z' s<=1000000000000000/\s.Pairwise (· < ·))->∀(set:I_),Z' set<=1000000000000000->set.Pairwise (· < ·)->∀m:Int,
  aH C 367 [lay sc,ints set,.int .i64 m] .nil (aL (.int .i64 (pK sc set m:Nat)))
theorem Yy(y:acS C)(f:aD)(J:f.Ok)(lv e:Int)(L:L2_)(O:iV L) :
  pq.wp C (aW B6.res (aL (.tup [.j (YK f lv e L:Nat),.j (DP f lv e L)]))) (g_ [.agg f.cells,tU lv e,lay L]) .nil:=by
 have hB:YK f lv e L=if DP f lv e L=0 then nL f (mZ f lv e) L L.length else 0:=rfl
 have l:DP f lv e L=if gD f lv e≠0 then gD f lv e else if lO f L []then 0 else 1:=rfl
 simp only[go_sem,pq,B6];refine aB (y.Hv f lv e J) Ev ?_;by_cases c:gD f lv e≠0;rw[aF c]at l;rw[l,aC c]at hB;simp only[go_sem,cY c];refine dN (.inr rfl) Ev ?_;rw[hB,l];rfl;have c:gD f lv e=0:=Decidable.not_not.1 c;rw[aC (λh=>h c)]at l;simp only[go_sem,c,cF (show(0:Int)=0 from rfl)];refine aB ((y.holds f L [] J O).args (args:=[.agg f.cells,lay L,.aJ]) (.cons (.refl _) (.cons (.refl _) (.cons (.nil 1) .nil)))) Ev ?_;cases w:lO f L []with
 |false =>rw[w,aC aU]at l;rw[l,aC aU]at hB;simp only[go_sem,avP];refine dN (.inr rfl) Ev ?_;rw[hB,l];rfl
 |true=>
  rw[w,aF rfl]at l;rw[l,aF rfl]at hB;have M:=wR w;have hV:=VF.of M;have R:=vi w;have S:=hV.small.atJ;have K:=R.len;obtain⟨k1,k2⟩:=Md M lv e;have B:=λk=>ef f (mZ f lv e) L k;rw[hB,l];generalize mZ f lv e=sc at *
  simp only[go_sem,avH,auW];refine wp_loop (α:=Nat) (λk=>((((((n_.set 3 (.aX f.cells)).set 8 (lay sc)).set 10 (.j (nL f sc L k:Nat))).set 28 (lay L)).set 29 (.j (Z' L:Nat))).set 30 (.j k))) (λ_=>.nil) (λk=>k<=Z' L) (λk=>Z' L-k) 0 (auY _) (lE1 (show nL f sc L 0=0 from rfl)) a_ ?_;intro k W;simp only[go_sem];by_cases hlt:k<Z' L;have i:(k:Int)<(Z' L:Nat):=Om;have A:(L.map λr=>[ints r])[k]?=some [ints L[k]]:=by simp[hlt]
  have E:L.getD k []=L[k]:=by simp[avI,hlt]
  obtain⟨hp,he⟩:=mS hV (Om:k<Z' f.atJ);obtain⟨r1,-,r3,r4⟩:=Te w hlt;have F:(k:Int)<(Z' f.atJ:Nat):=Om;have u:nL f sc L (k+1)=nL f sc L k+pK sc L[k] (cT f k).m:=by rw[nL,E]
  have U:=y.srt L[k] r3 Om;have N:=y.loss sc Om k2 (sorted L[k]) (by rw[RK];omega) (Qn r1) (cT f k).m;rw[Tv (sorted_perm L[k])]at N;have b1:=B k;have b2:=gg sc L[k] (cT f k).m;have V:k*Z' sc<=1000*1099511627776:=ayA Om k1;generalize L[k]=row at *
  generalize pK sc row (cT f k).m=x at *
  generalize sorted row=st at *
  simp only[go_sem,i,A];refine bK .nil (aqO 368 (ints st) (.j (x:Nat))) a_ ?_;simp only[go_sem];refine cB rfl U Sq a_ ?_;simp only[go_sem,F,auW,sS (Om:k<Z' f.atJ),hV.HO (Om:k<Z' f.atJ),oT hp,he];refine cB rfl N Sq a_ ?_;simp only[go_sem,wrap_i64 (Om:-9223372036854775808<=((nL f sc L k:Nat):Int)+(x:Nat)) Om,wZz k];exact aE (k+1) hlt Om (by(repeat' (first|exact d_|refine c_ ?_ ?_))<;>first|(simp only[go_sem,u,Int.natCast_add]<;>rfl)|rfl) a_;have i:¬(k:Int)<(Z' L:Nat):=Om;have:k=Z' L:=Om;subst this;simp only[go_sem,i];refine dN (.inr rfl) Ev ?_;rfl
def ry(e:L2_):P2_:=e.map λw=>[ints w]
theorem Ve(e:L2_):(ry e).length=Z' e:=auW _
structure k6(C:Ctx):Prop where
 valid:∀f:aD,f.Ok->aH C 67 [.agg f.cells] .nil (aL (.bool (cM f)))
 choose:∀k a n:Nat,k<=10->a<=1000->n<=40->aH C 215 [.int .i64 a,.int .i64 n,.int .i64 k] .nil (aL (lay (nI (dK n k a))))
 atH:∀(f:aD)(dom:Int),f.Ok->aH C 81 [.agg f.cells,.int .i64 dom] .nil (aL (ints (MC f dom)))
 has:∀(l:I_)(x:Int),Z' l<=1000000000000000->aH C 218 [ints l,.int .i64 x] .nil (aL (.bool (l.contains x)))
theorem Jg{f:aD}(e:cM f=true){lv:Int}{i:Nat}(hi:i<Z' f.atK)(h:lvl f i=lv):MC f i=cA (rK f lv f.atH.length i):=by
 unfold MC;rw[aF ⟨e,by omega,by omega⟩];subst h;rfl
def ET(f:aD)(lv:Int)(k:Nat):L2_:=((auX k).filter (OV f lv)).map λi=>cA (rK f lv f.atH.length i)
theorem Qd(f:aD)(lv:Int)(k:Nat):ET f lv (k+1)=if lvl f k=lv then ET f lv k++[cA (rK f lv f.atH.length k)]else ET f lv k:=by
 unfold ET;rw[axV,List.filter_append,avU];by_cases h:lvl f k=lv;rw[aF h];simp[OV,h];rw[aC h];simp[OV,h]
theorem Vf(f:aD)(lv:Int)(k:Nat):(ET f lv k).length<=k:=by
 unfold ET;rw[auW];exact avZ (azI ..) aZ
theorem Vk(L:k6 C)(f:aD)(F:f.Ok)(B:cM f=true)(lv:Int)(K:1<=lv)(h5:lv<=5) :
  cn.wp C (aW r9.res (cC (lay (iU f lv)))) (g_ [.agg f.cells,.j lv]) .nil:=by
 have hV:=VF.of B;have M:=hV.small.atH;have E:=hV.small.atK;simp only[go_sem,cn,r9];by_cases y:lv=5;subst y;rw[Ap];simp only[go_sem,bN (show(5:Int)=5 from rfl)];refine wp_loop (α:=T3_) (λs=>(((n_.set 2 (.aX f.cells)).set 5 (s.2.1)).set 6 (.j s.1))) (λs=>s.2.2) (λs=>s.1<=Z' f.atH/\bF s.2.2 1 s.2.1 (ES s.1)) (λs=>Z' f.atH-s.1) (0,.aJ,.nil) ⟨auY _,.nil⟩ Lq b_ ?_;rintro⟨k,v,H⟩ ⟨A,w⟩;simp only at A w;simp only[go_sem,auW];by_cases hlt:k<Z' f.atH;have i:(k:Int)<(Z' f.atH:Nat):=Om;simp only[go_sem,i];refine eX (src:=[[ints [(k:Int)]]]) w (by simp only[go_sem];rfl) (by unfold roomFor;rw[zz];simp only[avG,maxLen];omega) λv' H' u _=>?_;rw[<-rx]at u;simp only[go_sem,wZz k];exact aE (k+1,v',H') ⟨hlt,u⟩ sO_ Lq b_;have i:¬(k:Int)<(Z' f.atH:Nat):=Om;have:k=Z' f.atH:=Om;subst this;simp only[go_sem,i];exact kE (.inr rfl) w Sq;rw[kg f y];simp only[go_sem,bA y];refine wp_loop (α:=T3_) (λs=>((((n_.set 1 (.j lv)).set 2 (.aX f.cells)).set 5 (s.2.1)).set 7 (.j s.1))) (λs=>s.2.2) (λs=>s.1<=Z' f.atK/\bF s.2.2 1 s.2.1 (ry (ET f lv s.1))) (λs=>Z' f.atK-s.1) (0,.aJ,.nil) ⟨auY _,.nil⟩ Lq b_ ?_;rintro⟨k,v,H⟩ ⟨A,w⟩;simp only at A w;simp only[go_sem,auW];by_cases hlt:k<Z' f.atK;have i:(k:Int)<(Z' f.atK:Nat):=Om;have l:=Qd f lv k;have J:=Vf f lv k;simp only[go_sem,i,gR hlt,wU hlt];by_cases c:lvl f k=lv;rw[aF c]at l;have x:=L.atH f k F;rw[Jg B hlt c]at x;simp only[go_sem,bN c];refine aB x Sq ?_;simp only[go_sem];refine eX (src:=[[ints (cA (rK f lv f.atH.length k))]]) w Sq (by unfold roomFor;rw[Ve];simp only[avG,maxLen];omega) λv' H' u _=>?_;have e:ry (ET f lv k)++[[ints (cA (rK f lv f.atH.length k))]]=ry (ET f lv (k+1)):=by rw[l];unfold ry;rw[avU];rfl
 rw[e]at u;simp only[go_sem,wZz k];exact aE (k+1,v',H') ⟨hlt,u⟩ sO_ Lq b_;rw[aC c]at l;rw[<-l]at w;simp only[go_sem,bA c,wZz k];exact aE (k+1,v,H) ⟨hlt,w⟩ sO_ Lq b_;have i:¬(k:Int)<(Z' f.atK:Nat):=Om;have:k=Z' f.atK:=Om;subst this;simp only[go_sem,i];exact kE (.inr rfl) w Sq
theorem aaD(L:k6 C)(sc:L2_)(K:Z' sc<=1000000000000000)(E:∀s∈sc,Z' s<=1000000000000000)(set:I_)(N:Z' set<=1000000000000000)(m:Int) :
  rj.wp C (aW Cg.res (aL (.j (pK sc set m:Nat)))) (g_ [lay sc,ints set,.j m]) .nil:=by
 simp only[go_sem,rj,Cg];refine wp_loop (α:=Nat) (λi=>(((((n_.set 0 (lay sc)).set 1 (ints set)).set 2 (.j m)).set 7 (.j ((sc.take i).countP λs=>decide (((kA s set:Nat):Int)>m):Nat))).set 8 (.j i))) (λ_=>.nil) (λi=>i<=Z' sc) (λi=>Z' sc-i) 0 (auY _) Lq a_ ?_;intro i hi;simp only[go_sem,auW];by_cases hlt:i<Z' sc;have w:(i:Int)<(Z' sc:Nat):=Om;have y:(sc.map λr=>[ints r])[i]?=some [ints sc[i]]:=by simp[hlt]
 have u:=BF (λs=>decide (((kA s set:Nat):Int)>m)) sc hlt;have k1:=E sc[i] (avB hlt);have J:(sc.take i).countP (λs=>decide (((kA s set:Nat):Int)>m))<=i:=avZ List.countP_le_length (by rw[avN];omega);generalize(sc.take i).countP (λs=>decide (((kA s set:Nat):Int)>m))=n at *
 generalize sc[i]=s at *
 simp only[go_sem,w];refine wp_loop (α:=Nat) (λj=>(((((((n_.set 0 (lay sc)).set 1 (ints set)).set 2 (.j m)).set 7 (.j n)).set 8 (.j i)).set 9 (.j ((set.take j).countP λd=>s.contains d:Nat))).set 10 (.j j))) (λ_=>.nil) (λj=>j<=Z' set) (λj=>Z' set-j) 0 (auY _) Lq a_ ?_;intro j M;simp only[go_sem,auW];by_cases x:j<Z' set
 ·have l:(j:Int)<(Z' set:Nat):=Om;have B:(set.map λn=>[PV.int .i64 n])[j]?=some [.j set[j]]:=by simp[x]
  have e:=BF (λd=>s.contains d) set x;have F:(set.take j).countP (λd=>s.contains d)<=j:=avZ List.countP_le_length (by rw[avN];omega);generalize(set.take j).countP (λd=>s.contains d)=b at *
  generalize set[j]=d at *
  simp only[go_sem,l];refine bK .nil (cyS (.bool (s.contains d))) a_ ?_;simp only[go_sem,w,y,auW,l,B];refine cB rfl (L.has s d k1) Sq a_ ?_;cases hb:s.contains d with
  |true =>rw[hb]at e;simp only[go_sem,wZz b,wZz j];exact aE (j+1) x Om (by(repeat' (first|exact d_|refine c_ ?_ ?_))<;>first|(simp only[go_sem,e,zG]<;>rfl)|rfl) a_
  |false =>rw[hb]at e;simp only[go_sem,wZz j];exact aE (j+1) x Om (by(repeat' (first|exact d_|refine c_ ?_ ?_))<;>first|(simp only[go_sem,e,zG]<;>rfl)|rfl) a_
 have l:¬(j:Int)<(Z' set:Nat):=Om;have:j=Z' set:=Om;subst this;have A:set.countP (λd=>s.contains d)=kA s set:=rfl;rw[avW,A];by_cases c:((kA s set:Nat):Int)>m;rw[bG c]at u;simp only[go_sem,l,c,wZz n,wZz i];exact aE (i+1) hlt Om (by(repeat' (first|exact d_|refine c_ ?_ ?_))<;>first|(simp only[go_sem,u,zG]<;>rfl)|rfl) a_;rw[bS c]at u;simp only[go_sem,l,c,wZz i];exact aE (i+1) hlt Om (by(repeat' (first|exact d_|refine c_ ?_ ?_))<;>first|(simp only[go_sem,u,zG]<;>rfl)|rfl) a_;have w:¬(i:Int)<(Z' sc:Nat):=Om;have:i=Z' sc:=Om;subst this;rw[avW];simp only[go_sem,w];refine dN (.inr rfl) Ev ?_;rfl
structure TK(C:Ctx):Prop extends k6 C where
 units:∀(f:aD)(lv:Int),f.Ok->cM f=true->1<=lv->lv<=5->aH C 217 [.agg f.cells,.int .i64 lv] .nil (aL (lay (iU f lv)))
theorem aaN{K:bZ}[Up K](L:TK C)(B:PV)(U:L2_){n:Nat}(Z:UOk n U)(S:List N_)(j:Nat)(hj:j<Z' S)(s:N_)(hs:S[j]?=some s)(O:∀x∈s,x<Z' U)(β:Z' s<=1000)(W v:PV)(d:Nat){F:PF}{H:PH}
  (X:((((((((((n_.set 2 (B)).set 6 (lay U)).set 9 (lay (nI S))).set 10 (W)).set 11 (.j j)).set 12 (v)).set 13 (.j d)).set 14 (.bool false)).set 15 (.j 0))).le F)
  (Y:K (.exit 6) (((((((((n_.set 2 (B)).set 6 (lay U)).set 9 (lay (nI S))).set 10 (W)).set 11 (.j j)).set 12 (v)).set 13 (.j d)).set 14 (.bool (lK U s d)))) H):aI.wp C (.loop WG) K F H:=by
 have y:(j:Int)<(Z' S:Nat):=Om;have l:(nI S).length=Z' S:=auW _;have w:((nI S).map λr=>[ints r])[j]?=some [ints (cA s)]:=by unfold nI;rw[avO,avO,hs];rfl
 have A:(cA s).length=Z' s:=gZ s;refine wp_loop (α:=Nat) (λk=>(((((((((n_.set 2 (B)).set 6 (lay U)).set 9 (lay (nI S))).set 10 (W)).set 11 (.j j)).set 12 (v)).set 13 (.j d)).set 14 (.bool (lK U (s.take k) d))).set 15 (.j k))) (λ_=>H) (λk=>k<=Z' s) (λk=>Z' s-k) 0 (auY _) X b_ ?_;intro k hk;simp only[go_sem,WG,y,l,auW,w,A];by_cases hlt:k<Z' s
 ·have i:(k:Int)<(Z' s:Nat):=Om;have N:((cA s).map λn=>[PV.int .i64 n])[k]?=some [.j (s[k]:Nat)]:=AR hlt;have R:=O s[k] (avB hlt);have V:((s[k]:Nat):Int)<(Z' U:Nat):=Om;have M:=Z.at_ U[s[k]] (avB R);have J:U.getD s[k] []=U[s[k]]:=by simp[avI,R]
  have E:(U.map λr=>[ints r])[s[k]]?=some [ints U[s[k]]]:=by simp[R]
  have e:lK U (s.take (k+1)) d=(lK U (s.take k) d||(U[s[k]]).contains (d:Int)):=by unfold lK;rw[awP hlt,List.any_append,<-J];simp
  generalize U[s[k]]=u at *
  generalize s[k]=x at *
  cases hb:lK U (s.take k) d with
  |true =>rw[hb,Bool.true_or]at e;simp only[go_sem,i,wZz k];exact aE (k+1) hlt Om (lE2 e l) b_
  |false =>rw[hb,Bool.false_or]at e;simp only[go_sem,i,y,l,auW,w,A,N,V,E];refine aB (L.has u d (by have:=M.1;omega)) Sq ?_;simp only[go_sem,wZz k];exact aE (k+1) hlt Om (lE2 e l) b_
 have i:¬(k:Int)<(Z' s:Nat):=Om;have:k=Z' s:=Om;subst this;rw[avW];simp only[go_sem,i];exact Up.up (lE1 l) Y
def dnL(U:L2_)(s:N_)(d:Nat):I_:=cA ((auX d).filter (lK U s))
theorem Xy(U:L2_)(s:N_)(d:Nat):dnL U s (d+1)=if lK U s d then dnL U s d++[(d:Int)]else dnL U s d:=by
 unfold dnL;rw[axV,List.filter_append,Gg];by_cases h:lK U s d;rw[aF h];simp[cA,h];rw[aC h];simp[cA,h]
theorem aeD(U:L2_)(s:N_)(d:Nat):(dnL U s d).length<=d:=by
 unfold dnL;rw[gZ];exact avZ (azI ..) aZ
theorem Vj{K:bZ}[Up K](L:TK C)(f:aD)(X:Z' f.atH<=24)(U:L2_){n:Nat}(R:UOk n U)(S:List N_)(j:Nat)(V:j<Z' S)(s:N_)(W:S[j]?=some s)(B:∀x∈s,x<Z' U)(A:Z' s<=1000)(w:PV){F:PF}{H:PH}{Ls:List LI}
  (l:aQ H [] Ls)
  (N:((((((((n_.set 2 (.aX f.cells)).set 6 (lay U)).set 9 (lay (nI S))).set 10 (w)).set 11 (.j j)).set 12 (.aJ)).set 13 (.j 0))).le F)
  (O:∀v H',aQ H' [] (Ls++[(v,1,aT (dnL U s f.atH.length))])->K (.exit 4) (((((((n_.set 2 (.aX f.cells)).set 6 (lay U)).set 9 (lay (nI S))).set 10 (w)).set 11 (.j j)).set 12 (v))) H'):aI.wp C (.loop WH) K F H:=by
 refine wp_loop (α:=T3_) (λt=>(((((((n_.set 2 (.aX f.cells)).set 6 (lay U)).set 9 (lay (nI S))).set 10 (w)).set 11 (.j j)).set 12 (t.2.1)).set 13 (.j t.1))) (λt=>t.2.2) (λt=>t.1<=Z' f.atH/\aQ t.2.2 [] (Ls++[(t.2.1,1,aT (dnL U s t.1))])) (λt=>Z' f.atH-t.1) (0,.aJ,H) ⟨auY _,l.nT 1⟩ N b_ ?_;clear l;rintro⟨d,v,E⟩ ⟨y,l⟩;simp only at y l;simp only[go_sem,WH,auW];by_cases hlt:d<Z' f.atH
 ·have i:(d:Int)<(Z' f.atH:Nat):=Om;have e:=Xy U s d;have M:=aeD U s d;simp only[go_sem,i];have inn:=λ{K:bZ} [Up K] {F:PF} {H:PH}=>aaN (C:=C) (K:=K) L (.aX f.cells) U R S j V s W B A w v d (F:=F) (H:=H);refine inn Lq ?_;cases hb:lK U s d with
  |true=>
   rw[hb,aF rfl]at e;simp only[go_sem];refine l.append Ls.length (rows:=aT (dnL U s d)) (src:=[[.j d]]) (FU _ _ _ rfl) Sq (by unfold roomFor;rw[cJ];simp only[avG,maxLen];omega) λv' H' J _=>?_;have u:aT (dnL U s d)++[[.j d]]=aT (dnL U s (d+1)):=by rw[e,zH];rfl
   rw[u,ayF _ _ (avD _),axT]at J;simp only[go_sem,wZz d];exact aE (d+1,v',H') ⟨hlt,J⟩ sO_ Lq b_
  |false =>rw[hb,aC aU]at e;rw[<-e]at l;simp only[go_sem,wZz d];exact aE (d+1,v,E) ⟨hlt,l⟩ sO_ Lq b_
 have i:¬(d:Int)<(Z' f.atH:Nat):=Om;have:d=Z' f.atH:=Om;subst this;simp only[go_sem,i];exact Up.up Lq (O v E l)
theorem Vi{K:bZ}[Up K](L:TK C)(f:aD)(W:Z' f.atH<=24)(U:L2_){n:Nat}(V:UOk n U)(S:List N_)(O:∀s∈S,Z' s<=1000/\∀x∈s,x<Z' U)(R:Z' S<=1099511627776){F:PF}{H:PH}
  (J:((((((n_.set 2 (.aX f.cells)).set 6 (lay U)).set 9 (lay (nI S))).set 10 (.aJ)).set 11 (.j 0))).le F)
  (M:∀w ps H',aQ H' [] (eW w ps)->wls ps=S.map (λs=>dnL U s f.atH.length)->K (.exit 2) ((n_.set 10 (w))) H'):aI.wp C (.loop WI) K F H:=by
 refine wp_loop (α:=Nat × PV × WPs × PH) (λt=>(((((n_.set 2 (.aX f.cells)).set 6 (lay U)).set 9 (lay (nI S))).set 10 (t.2.1)).set 11 (.j t.1))) (λt=>t.2.2.2) (λt=>t.1<=Z' S/\wls t.2.2.1=(S.take t.1).map (λs=>dnL U s f.atH.length)/\aQ t.2.2.2 [] (eW t.2.1 t.2.2.1)) (λt=>Z' S-t.1) (0,.aJ,[],.nil) ⟨auY _,rfl,aQ.IR aQ.nil⟩ J a_ ?_;rintro⟨j,w,ps,H⟩ ⟨X,B,E⟩;simp only at X B E;have u:(nI S).length=Z' S:=auW _;simp only[go_sem,WI,auW,u];by_cases hlt:j<Z' S;have i:(j:Int)<(Z' S:Nat):=Om;obtain⟨s1,s2⟩:=O S[j] (avB hlt);have Y:Z' ps<=1099511627776:=by rw[<-BD,B,auW,avN];omega
 have A:(S.take (j+1)).map (λs=>dnL U s f.atH.length)=wls ps++[dnL U S[j] f.atH.length]:=by rw[awP hlt,avU,<-B];rfl
 have one:=λ{K:bZ} [Up K] {F:PF} {H:PH}=>Vj (C:=C) (K:=K) L f W U V S j hlt S[j] (avF hlt) s2 s1 w (F:=F) (H:=H) (Ls:=eW w ps);simp only[go_sem,i];refine one E (lE1 u) λv H2 h5=>?_;have N:=h5.own (eW w ps).length (FU _ _ _ rfl);generalize dnL U S[j] f.atH.length=D at *
 have room:roomFor (dJ ps).length 1 24:=by unfold roomFor;rw[mH];simp only[maxLen];omega
 have fin:∀(l:PV)(H':PH),aQ H' [] ((eW w ps++[(v,1,aT D)]).set 0 (l,1,dJ ps++[[v]]))->aQ H' [] (eW l (ps++[(v,D)]))/\wls (ps++[(v,D)])=wls ps++[D]:=by
  intro l H' y;refine⟨?_,?_⟩;have e:eW l (ps++[(v,D)])=(eW w ps++[(v,1,aT D)]).set 0 (l,1,dJ ps++[[v]]):=by unfold eW dJ kY;rw[avU,avU];rfl
  rw[e];exact y;unfold wls;rw[avU];rfl
 rcases N with⟨-,rfl⟩|⟨q,rs,rfl,-,-,-⟩
 simp only[go_sem,avL,avY,or_false,forall_eq];refine h5.append 0 (rows:=dJ ps) (src:=[[PV.aJ]]) rfl Sq room λl H' y _=>?_;obtain⟨k1,k2⟩:=fin l H' y;simp only[go_sem,wZz j];exact aE (j+1,l,_,H') ⟨hlt,k2.trans A.symm,k1⟩ sO_ (lE1 u) b_;simp only[go_sem,avL,avY,or_false,forall_eq];refine h5.append 0 (rows:=dJ ps) (src:=[[PV.osl q 1 0 (aT D).length]]) rfl Sq room λl H' y _=>?_;obtain⟨k1,k2⟩:=fin l H' y;simp only[go_sem,wZz j];exact aE (j+1,l,_,H') ⟨hlt,k2.trans A.symm,k1⟩ sO_ (lE1 u) b_;have i:¬(j:Int)<(Z' S:Nat):=Om;have:j=Z' S:=Om;subst this;rw[avW]at B;simp only[go_sem,i];exact Up.up Lq (M w ps H E B)
theorem aaO(L:TK C)(f:aD)(hf:f.Ok)(lv l:Int) :
  rz.wp C (aW gG.res (cC (.tup [lay (mZ f lv l),.j (gD f lv l)]))) (g_ [.agg f.cells,tU lv l]) .nil:=by
 have hB:mZ f lv l=if gD f lv l=0 then vZ f (iU f lv) l.toNat else[]:=rfl
 have J:gD f lv l=if cM f&&(decide (1<=lv)&&decide (lv<=5)&&decide (1<=l)&&decide (l<=3))then(if 12<Z' f.atH\/512<eO ((iU f lv).length:Nat) l.toNat then 2 else 0)else 1:=rfl
 have bad:∀(e:Int)(F:PF),e≠0->gD f lv l=e->F 4=some .aJ->F 5=some (.j e)->aW [.tmp 4,.tmp 5] (cC (.tup [lay (mZ f lv l),.j (gD f lv l)])) .ret F .nil:=by intro e F he u h2 h3;rw[u,aC he]at hB;rw[hB,u];exact CS (.inr rfl) (by simp only[go_sem,h2,h3]) (aQ.IR aQ.nil)
 have M:(cM f&&(decide (1<=lv)&&decide (lv<=5)&&decide (1<=l)&&decide (l<=3)))=false->gD f lv l=1:=λh=>by rw[J,h];rfl
 simp only[go_sem,rz,gG];refine aB (L.valid f hf) Ev ?_;cases hp:cM f with
 |false =>have u:=M (by rw[hp];rfl);simp only[go_sem,avP];exact bad 1 _ aU u Sq Sq
 |true=>
  have hV:=VF.of hp;by_cases B:lv<1;have u:=M (by rw[bS (Om:¬1<=lv)];simp);simp only[go_sem,avH,B];exact bad 1 _ aU u Sq Sq;by_cases E:lv>5;have u:=M (by rw[bS (Om:¬lv<=5)];simp);simp only[go_sem,avH,B,E];exact bad 1 _ aU u Sq Sq;by_cases N:l<1;have u:=M (by rw[bS (Om:¬1<=l)];simp);simp only[go_sem,avH,B,E,N];exact bad 1 _ aU u Sq Sq;by_cases R:l>3;have u:=M (by rw[bS (Om:¬l<=3)];simp);simp only[go_sem,avH,B,E,N,R];exact bad 1 _ aU u Sq Sq;obtain⟨n,rfl⟩:∃n:Nat,l=n:=⟨l.toNat,by omega⟩;rw[hp,bG (Om:1<=lv),bG (Om:lv<=5),bG (Om:(1:Int)<=(n:Int)),bG (Om:(n:Int)<=3),ayJ,ayJ,ayJ,ayJ,aF rfl,axA]at J;rw[axA]at hB;obtain⟨hU,β⟩:=kh hV lv;have y:=L.units f lv hf hp Om Om;generalize iU f lv=U at *
  by_cases Y:12<Z' f.atH;have u:gD f lv n=2:=by rw[J,aF (.inl Y)]
  simp only[go_sem,avH,B,E,N,R,auW,show(Z' f.atH:Int)>12 by omega];exact bad 2 _ aU u Sq Sq;simp only[go_sem,avH,B,E,N,R,auW,show ¬(Z' f.atH:Int)>12 by omega];refine aB y Ev ?_;simp only[go_sem];refine wp_loop (α:=Nat) (λk=>(((((n_.set 2 (.aX f.cells)).set 3 (.aX [.j lv,.j n])).set 6 (lay U)).set 7 (.j (eO (Z' U:Nat) k))).set 8 (.j k))) (λ_=>.nil) (λk=>k<=n) (λk=>n-k) 0 (auY _) (by(repeat' (first|exact d_|refine c_ ?_ ?_))<;>first|(simp only[go_sem,eO]<;>rfl)|rfl) a_ ?_;intro k hk;have W:Z' U<=1000:=Om;simp only[go_sem];by_cases hlt:k<n;have w:(k:Int)<(n:Nat):=Om;obtain⟨b1,b2⟩:=DO W (i:=k) Om;have O:=DN W k Om;have hb:((Z' U:Int)-(k:Int)).natAbs<=1000:=Om;have K:=ayA (avZ O (ayU Om (Om:k<=2))) hb;rw[<-Int.natAbs_mul]at K;have e:(1000:Nat)^2*1000=1000000000:=by decide
  have w1:i_.wrap ((Z' U:Int)-(k:Int))=(Z' U:Int)-k:=wrap_i64 Om Om;have w2:i_.wrap (eO (Z' U:Nat) k*((Z' U:Int)-(k:Int)))=eO (Z' U:Nat) k*((Z' U:Int)-k):=wrap_i64 Om Om;have w3:i_.wrap ((k:Int)+1)=(k:Int)+1:=wrap_i64 Om Om;have X:¬((k:Int)+1)=0:=Om;obtain⟨b3,b4⟩:=DO W (i:=k+1) Om;have hq:eO (Z' U:Nat) (k+1)=axQ (eO (Z' U:Nat) k*((Z' U:Int)-k)) ((k:Int)+1):=by rw[eO]
  rw[hq]at b3 b4;have w4:i_.wrap (axQ (eO (Z' U:Nat) k*((Z' U:Int)-k)) ((k:Int)+1))=axQ (eO (Z' U:Nat) k*((Z' U:Int)-k)) ((k:Int)+1):=wrap_i64 Om Om;simp only[go_sem,w,auW,w1,w2,w3,X,w4,wZz k];exact aE (k+1) hlt Om (lE1 hq) a_;have w:¬(k:Int)<(n:Nat):=Om;have:k=n:=Om;subst this;by_cases Z:512<eO (Z' U:Nat) k;have u:gD f lv k=2:=by rw[J,aF (.inr Z)]
  simp only[go_sem,w,show eO (Z' U:Nat) k>512 by omega];exact bad 2 _ aU u Sq Sq;have u:gD f lv k=0:=by rw[J,aC (λh=>h.elim Y Z)]
  rw[u,aF rfl]at hB;rw[hB,u];have V:=L.choose k 0 U.length Om Om Om;have A:=xX U.length k 0;have ε:=AY U.length k 0;have γ:2^(Z' U-0)<=2^40:=ayU Om Om;have δ:(2:Nat)^40=1099511627776:=by decide
  have hP:vZ f U k=(dK U.length k 0).map λs=>dnL U s f.atH.length:=rfl;rw[hP];generalize dK U.length k 0=S at *
  simp only[go_sem,w,show ¬eO (Z' U:Nat) k>512 by omega,auW];refine aB V (by simp only[go_sem];rfl) ?_;simp only[go_sem];refine Vi (C:=C) L f Om U hU S (λs O=>⟨by have:=(A s O).1;omega,λx hx=>((A s O).2.1 x hx).2⟩) Om Lq λvo ps H' hH hw=>?_;simp only[go_sem];rw[<-hw];exact CS (.inr rfl) Sq hH

structure Mz(C:Ctx):Prop where
 gG:∀(f:aD)(lv cnt:Int),f.Ok->aH C 219 [.agg f.cells,tU lv cnt] .nil (aL (.tup [lay (mZ f lv cnt),.int .i64 (gD f lv cnt)]))
 rholds:∀(f:aD)(l:L2_) (room:I_),f.Ok->iV l->aH C 83 [.agg f.cells,lay l,ints room] .nil (aL (.bool (lO f l room)))
 lost:∀(sc:L2_) (set:I_) (m:Int),Z' sc<=1000000000000000->(∀s∈sc,Z' s<=1000000000000000)->Z' set<=1000000000000000->aH C 220 [lay sc,ints set,.int .i64 m] .nil (aL (.int .i64 (pK sc set m:Nat)))
theorem aaE(F:Mz C)(f:aD)(M:cM f=true)(sc L:L2_)(B:yT f L)(k1:Z' sc<=1099511627776)(k2:∀s∈sc,Z' s<=1000000000000000) :
  rk.wp C (aW Ch.res (aL (.j (nL f sc L L.length:Nat)))) (g_ [.agg f.cells,lay sc,lay L]) .nil:=by
 have hV:=VF.of M;have N:=hV.small.atJ;have E:=B.len;have w:=λk=>ef f sc L k;simp only[go_sem,rk,Ch];refine wp_loop (α:=Nat) (λk=>(((((n_.set 1 (lay sc)).set 2 (lay L)).set 3 (.aX f.cells)).set 7 (.j (nL f sc L k:Nat))).set 8 (.j k))) (λ_=>.nil) (λk=>k<=Z' L) (λk=>Z' L-k) 0 (auY _) (lE1 (show nL f sc L 0=0 from rfl)) a_ ?_;intro k S;simp only[go_sem,auW];by_cases hlt:k<Z' L;have e:(k:Int)<(Z' L:Nat):=Om;have u:(L.map λr=>[ints r])[k]?=some [ints L[k]]:=by simp[hlt]
 have y:L.getD k []=L[k]:=by simp[avI,hlt]
 obtain⟨hp,he⟩:=mS hV (Om:k<Z' f.atJ);have l:=hV.atW _ (avB hp);rw[he]at l;have K:=B.row k hlt;have J:fT f k=(cT f k).k+(cT f k).m:=rfl;have A:(k:Int)<(Z' f.atJ:Nat):=Om;have i:nL f sc L (k+1)=nL f sc L k+pK sc L[k] (cT f k).m:=by rw[nL,y]
 have O:=F.lost sc L[k] (cT f k).m Om k2 Om;have b1:=w k;have b2:=gg sc L[k] (cT f k).m;have R:k*Z' sc<=1000*1099511627776:=ayA Om k1;generalize L[k]=row at *
 generalize pK sc row (cT f k).m=x at *
 simp only[go_sem,e];refine bK .nil (cyS (.j (x:Nat))) a_ ?_;simp only[go_sem,e,u,A,auW,sS (Om:k<Z' f.atJ),hV.HO (Om:k<Z' f.atJ),oT hp,he];refine cB rfl O Sq a_ ?_;simp only[go_sem,wrap_i64 (Om:-9223372036854775808<=((nL f sc L k:Nat):Int)+(x:Nat)) Om,wZz k];exact aE (k+1) hlt Om (by(repeat' (first|exact d_|refine c_ ?_ ?_))<;>first|(simp only[go_sem,i,Int.natCast_add]<;>rfl)|rfl) a_;have e:¬(k:Int)<(Z' L:Nat):=Om;have:k=Z' L:=Om;subst this;simp only[go_sem,e];refine dN (.inr rfl) Ev ?_;rfl
structure Rt(C:Ctx):Prop extends Mz C where
 sum:∀(f:aD),cM f=true->∀(sc L:L2_),yT f L->Z' sc<=1099511627776->(∀s∈sc,Z' s<=1000000000000000)->aH C 377 [.agg f.cells,lay sc,lay L] .nil (aL (.int .i64 (nL f sc L L.length:Nat)))
theorem U9(u:Rt C)(f:aD)(w:f.Ok)(lv e:Int)(L:L2_)(x:iV L) :
  ck.wp C (aW ri.res (aL (.tup [.j (YK f lv e L:Nat),.j (DP f lv e L)]))) (g_ [.agg f.cells,tU lv e,lay L]) .nil:=by
 have hB:YK f lv e L=if DP f lv e L=0 then nL f (mZ f lv e) L L.length else 0:=rfl
 have i:DP f lv e L=if gD f lv e≠0 then gD f lv e else if lO f L []then 0 else 1:=rfl
 simp only[go_sem,ck,ri];refine aB (u.gG f lv e w) Ev ?_;by_cases c:gD f lv e≠0;rw[aF c]at i;rw[i,aC c]at hB;simp only[go_sem,cY c];refine dN (.inr rfl) Ev ?_;rw[hB,i];rfl;have c:gD f lv e=0:=Decidable.not_not.1 c;rw[aC (λh=>h c)]at i;simp only[go_sem,c,cF (show(0:Int)=0 from rfl)];refine aB ((u.rholds f L [] w x).args (args:=[.agg f.cells,lay L,.aJ]) (.cons (.refl _) (.cons (.refl _) (.cons (.nil 1) .nil)))) Ev ?_;cases l:lO f L []with
 |false =>rw[l,aC aU]at i;rw[i,aC aU]at hB;simp only[go_sem,avP];refine dN (.inr rfl) Ev ?_;rw[hB,i];rfl
 |true =>rw[l,aF rfl]at i;rw[i,aF rfl]at hB;obtain⟨k1,k2⟩:=Md (wR l) lv e;simp only[go_sem,avH];refine aB (u.sum f (wR l) _ L (vi l) k1 λs y=>(k2 s y).1) Ev ?_;simp only[go_sem];refine dN (.inr rfl) Ev ?_;rw[hB,i];rfl
















def mo:=bP [] Proofs.Tryz.f4
def NO:=bV mo






theorem aQ.aoH{F:PF}{H:PH}{B:List BX}{L:List LI}{args:List aR}{d:O_}{K:K_}(h:aQ H B L){l:N_}(w:aH C 28 [.sl 1 (kG l)] .nil (uq l))(i:aR.evs F args=some [.sl 1 (kG l)])(u:∀o v H',Tp (l.take 400) v->aQ H' (B++[(o,bB v 0)]) L->K (F.put d (.ptr o 2 0 0)) H'):jS C 28 args [] d K F H:=by
 refine iS w i a_ ?_;rintro r H' ⟨o,v,rfl,T,rfl⟩ e;rw[PH.pG];exact u o v _ T (h.new (e o (bB v 0) (by rw[cE]) rfl) _)
def DK(l:N_):Nat × Nat:=aG l 5 0
def wK(l:N_):Nat × Nat:=aG l 2 (DK l).2
def rdF(l:N_)(d v:Nat):aD × Nat:=jJ l d v (wK l).2
def rdR(l:N_)(d v:Nat):I_ × Nat:=tZ l (rdF l d v).1 (rdF l d v).2
theorem aaF(l:N_)(f:aD){a:Nat}(h:a<=Z' l):(tZ l f a).2<=Z' l:=by
 have e:=bU l 4 h;unfold tZ;simp only;split;exact e;exact(WD l e _).1
theorem adI(l:N_)(d v:Nat):(wK l).2<=Z' l/\(rdF l d v).2<=Z' l/\(rdR l d v).2<=Z' l:=by
 have u:=bU l 5 (auY l.length);have e:(wK l).2<=Z' l:=bU l 2 u;have i:(rdF l d v).2<=Z' l:=S0 l d v e;exact⟨e,i,aaF l _ i⟩
def Bo(l:N_)(d e:Nat)(r:PV)(H:PH):Prop:=∃o v,r=.tup [.agg (rdF (l.take 400) d e).1.cells,tU (1+(DK (l.take 400)).1:Nat) (1+(wK (l.take 400)).1:Nat),ints (rdR (l.take 400) d e).1,.ptr o 2 0 0]/\Tp (l.take 400) v/\H=h_.set o (bB v (rdR (l.take 400) d e).2)
structure Rr(C:Ctx):Prop where
 new:∀(l:N_),(∀x∈l,x<256)->Z' l<=9223372036854775807->aH C 28 [.sl 1 (kG l)] .nil (uq l)
 tfleet:∀(l:N_)(v:PV),Tp l v->∀(o atH atJ a:Nat),atH<=60->atJ<=50->a<=Z' l ->
  aH C 0 [.ptr o 2 0 0,.int .i64 atH,.int .i64 atJ] (h_.set o (bB v a)) (λr H=>r=.agg (jJ l atH atJ a).1.cells/\H=h_.set o (bB v (jJ l atH atJ a).2))
 JG:∀(l:N_)(v:PV),Tp l v->∀(o a:Nat)(f:aD),Z' f.atH<=1000->a<=Z' l->aH C 6 [.ptr o 2 0 0,.agg f.cells] (h_.set o (bB v a)) (λr H=>r=ints (tZ l f a).1/\H=h_.set o (bB v (tZ l f a).2))
 next:∀(l:N_)(v:PV),Tp l v->∀(o n a:Nat),n<=1000000->a<=Z' l->aH C 4 [.ptr o 2 0 0,.int .i64 n] (h_.set o (bB v a)) (λr H=>r=.int .i64 ((aG l n a).1:Nat)/\H=h_.set o (bB v (aG l n a).2))
theorem Xo(J:Rr C)(l:N_)(hb:∀x∈l,x<256)(hl:Z' l<=9223372036854775807)(d u:Nat)(hd:d<=24)(V:u<=12) :
  NO.wp C (aW mo.res (Bo l d u)) (g_ [.sl 1 (kG l),.j (d:Nat),.j (u:Nat)]) .nil:=by
 have U:=cK (l.take 400) (n:=5) aU 0;have i1:=bU (l.take 400) 5 (auY _);have S:=cK (l.take 400) (n:=2) aU (DK (l.take 400)).2;obtain⟨i2,i3,i4⟩:=adI (l.take 400) d u;obtain⟨hv,hf⟩:=UP (l.take 400) d u (wK (l.take 400)).2 hd V;have β:=(VF.of hv).small.atH;have Z:=λv T o=>J.next (l.take 400) v T o 5 0 aU (auY _);have k1:=λv T o=>J.next (l.take 400) v T o 2 (DK (l.take 400)).2 aU i1;have k2:=λv T o=>J.tfleet (l.take 400) v T o d u (wK (l.take 400)).2 Om Om i2;have k3:=λv T o=>J.JG (l.take 400) v T o (rdF (l.take 400) d u).2 (rdF (l.take 400) d u).1 (by show(jJ (l.take 400) d u (wK (l.take 400)).2).1.atH.length<=1000;omega) i3;unfold Bo;show NO.wp C (aW mo.res (λr H=>∃o v,r=.tup [.agg (rdF (l.take 400) d u).1.cells,tU (1+(DK (l.take 400)).1:Nat) (1+(wK (l.take 400)).1:Nat),ints (rdR (l.take 400) d u).1,.ptr o 2 0 0]/\Tp (l.take 400) v/\H=h_.set o (bB v (rdR (l.take 400) d u).2))) _ _;change ∀v,Tp (l.take 400) v->∀o,aH C 4 [.ptr o 2 0 0,.j 5] (h_.set o (bB v 0)) (λr H=>r=.j ((DK (l.take 400)).1:Nat)/\H=h_.set o (bB v (DK (l.take 400)).2))at Z;change ∀v,Tp (l.take 400) v->∀o,aH C 4 [.ptr o 2 0 0,.j 2] (h_.set o (bB v (DK (l.take 400)).2)) (λr H=>r=.j ((wK (l.take 400)).1:Nat)/\H=h_.set o (bB v (wK (l.take 400)).2))at k1;change ∀v,Tp (l.take 400) v->∀o,aH C 0 [.ptr o 2 0 0,.j (d:Nat),.j (u:Nat)] (h_.set o (bB v (wK (l.take 400)).2)) (λr H=>r=.agg (rdF (l.take 400) d u).1.cells/\H=h_.set o (bB v (rdF (l.take 400) d u).2))at k2;change ∀v,Tp (l.take 400) v->∀o,aH C 6 [.ptr o 2 0 0,.agg (rdF (l.take 400) d u).1.cells] (h_.set o (bB v (rdF (l.take 400) d u).2)) (λr H=>r=ints (rdR (l.take 400) d u).1/\H=h_.set o (bB v (rdR (l.take 400) d u).2))at k3;change(DK (l.take 400)).1<5 at U;change(wK (l.take 400)).1<2 at S;generalize(rdR (l.take 400) d u).1=room at *
 generalize(rdR (l.take 400) d u).2=N at *
 generalize(rdF (l.take 400) d u).2=af at *
 generalize(rdF (l.take 400) d u).1=f at *
 generalize(wK (l.take 400)).2=ac at *
 generalize(DK (l.take 400)).2=al at *
 generalize(wK (l.take 400)).1=F at *
 generalize(DK (l.take 400)).1=lv at *
 have w1:i_.wrap (1+((lv:Nat):Int))=((1+lv:Nat):Int):=wO_
 have w2:i_.wrap (1+((F:Nat):Int))=((1+F:Nat):Int):=wO_
 simp only[go_sem,NO,mo];refine aQ.nil.TV λo6 H1 h1=>?_;simp only[go_sem];refine h1.TV λo7 H2 h2=>?_;simp only[go_sem];refine h2.aoH (J.new l hb hl) Sq λo v H3 T h3=>?_;simp only[go_sem];refine h3.kd 2 rfl (Z v T o) Sq λH4 h4=>?_;simp only[go_sem,w1];refine h4.kd 2 rfl (k1 v T o) Sq λH5 h5=>?_;simp only[go_sem,w2];refine h5.TV λB H6 X=>?_;have e6:=X.at 3 rfl;have h7:=X.set 3 rfl (.rows 2 [[.j ((1+lv:Nat):Int),.j ((1+F:Nat):Int)]]);simp only[go_sem,e6];generalize H6.set B _=H7 at *
 try simp only[go_sem]
 refine h7.kd 2 rfl (k2 v T o) Sq λH8 h8=>?_;simp only[go_sem];refine h8.TV λE H9 Y=>?_;have e9:=Y.at 4 rfl;have i:=Y.set 4 rfl (.rows 7 [f.cells]);simp only[go_sem,e9];generalize H9.set E _=O at *
 have K:=i.at 4 rfl;have R:=i.at 3 rfl;have go:=i.at 2 rfl;have m1:=i.ne 2 3 rfl rfl aU;have m2:=i.ne 2 4 rfl rfl aU;have m3:=i.ne 0 3 rfl rfl aU;have m4:=i.ne 0 4 rfl rfl aU;have m5:=i.ne 1 3 rfl rfl aU;have m6:=i.ne 1 4 rfl rfl aU;have m7:=i.ne 3 4 rfl rfl aU;have m8:=i.ne 0 1 rfl rfl aU;have m9:=i.ne 0 2 rfl rfl aU;have γ:=i.ne 1 2 rfl rfl aU;have g6:=i.at 0 rfl;have g7:=i.at 1 rfl;refine bK ((h_.set E (.rows 7 [f.cells])).set B (.rows 2 [[.j ((1+lv:Nat):Int),.j ((1+F:Nat):Int)]])) (λ_ _=>some ([o],λ_ r H'=>r=ints room/\H'=h_.set o (bB v N))) (e_ (e_ a_ K) R) ?_;have W:¬E=B:=λe=>m7 e.symm;simp only[go_sem,W,K];have w:=i.set 2 rfl (bB v N);refine D1 rfl go (k3 v T o) ⟨rfl,rfl⟩ (λr' H' h=>h) Sq (e_ (e_ a_ (w.at 4 rfl)) (w.at 3 rfl)) ?_;generalize O.set o (bB v N)=α at *
 have q6:=w.at 0 rfl;have y:=w.set 0 rfl (.rows 7 [f.cells]);simp only[go_sem,q6];refine⟨e_ (e_ a_ (y.at 4 rfl)) (y.at 3 rfl),?_⟩;have q7:=w.at 1 rfl;have M:¬o7=o6:=λe=>m8 e.symm;have A:=y.set 1 rfl (.rows 2 [[.j ((1+lv:Nat):Int),.j ((1+F:Nat):Int)]]);simp only[go_sem,M,q7];refine⟨e_ (e_ a_ (A.at 4 rfl)) (A.at 3 rfl),?_⟩;exact bC (.inr rfl) (h_.set o (bB v N)) (vs:=[.agg f.cells,tU (1+lv:Nat) (1+F:Nat),ints room,.ptr o 2 0 0]) (by simp only[go_sem,m8,M]) (e_ a_ (A.at 2 rfl)) ⟨o,v,rfl,T,rfl⟩
def qp:=bP [1] Proofs.Tryz.f46
def cg:=bV qp
def qq:=bP [2] Proofs.Tryz.f48
def ch:=bV qq
def qn:=bP [2,78,115] Proofs.Tryz.f47
def ce:=bV qn
def HJ:=bP [1] Proofs.Tryz.f19
def cf:=bV HJ
def qx:=bP [3] Proofs.Tryz.f43
def QR:=bV qx
def P0:=bP [2] Proofs.Tryz.f42
def zj:=bV P0
def qz:=bP [1] Proofs.Tryz.f20
def cj:=bV qz
def iY:=bP [2,52,95,124,147] Proofs.Tryz.f18
def jj:=aA iY 8
def jk:=eH iY 3
def jl:=eH iY 4
def jm:=aA iY 11
def jf:aI:=(dY (aA iY 7) 59 2 jm (sq jj (iH (aA iY 9) 72 (.region (aA iY 10)) (dq jk (.draw jl)))))
def jg:aI:=(dY (aA iY 13) 102 4 (aA iY 15) (sq (aA iY 14) (.cond (Tm 108) (dq (eH iY 5) (.draw (eH iY 6))) .skip)))
def jh:aI:=(dY (aA iY 5) 28 0 (aA iY 16) (dq (eH iY 0) (.seq (dq (eH iY 1) (.draw (eH iY 2))) (.seq (dD (aA iY 6) 2 jf) (dD (aA iY 12) 4 jg)))))
def ji:aI:=(dY (aA iY 19) 134 6 (aA iY 20) (dq (eH iY 7) (.draw (eH iY 8))))
def zl:aI:=(sq (aA iY 0) (kB (aA iY 1) 16 (aA iY 2) (sq (aA iY 3) (.seq (dD (aA iY 4) 0 jh) (sq (aA iY 17) (.seq (dD (aA iY 18) 6 ji) (sq (aA iY 21) .ret)))))))
def rN:=bP [3,4,70] Proofs.Tryz.f21
def jc:aI:=(dY (aA rN 6) 44 2 (aA rN 8) (dq (eH rN 1) (.cond (Tm 62) (.region (aA rN 7)) .skip)))
def jd:=aA rN 10
def zk:aI:=(sq (aA rN 0) (sq (aA rN 1) (.seq (dD (aA rN 2) 0 (dY (aA rN 3) 19 0 (aA rN 9) (dq (eH rN 0) (iH (aA rN 4) 39 (.exit 1) (dD (aA rN 5) 2 jc))))) (sq jd .ret))))
def qy:=bP [2] Proofs.Tryz.f7
def ci:=bV qy
def vD(H:PH)(s:Nat)(q:Nat)(v:PV)(rows:P2_):Prop:=
 ∃rs off,v=.osl q s off rows.length/\H q=some (.rows s rs)/\off+Z' rows<=Z' rs/\(rs.drop off).take rows.length=rows
section
variable {H:PH} {s b q:Nat} {v y:PV} {rows src:P2_}
theorem vD.view(h:vD H s q v rows):dH H s v=some rows:=by
 obtain⟨rs,off,rfl,e,i,l⟩:=h;simp only[dH,if_true,e,true_and,aF i,l]
theorem vD.ext{H':PH}(h:vD H s q v rows)(w:∀x,H q=some x->H' q=some x):vD H' s q v rows:=by
 obtain⟨rs,off,e,i,l,u⟩:=h;exact⟨rs,off,e,w _ i,l,u⟩
theorem vD.tail{r:V_}(h:vD H s q v (r::rows)):∃v',PV.slice s v 1 ((Z' rows+1:Nat):Int) none=some v'/\vD H s q v' rows:=by
 obtain⟨rs,off,rfl,i,l,e⟩:=h;rw[awK]at l e;refine⟨.osl q s (off+1) rows.length,?_,rs,off+1,rfl,i,by omega,?_⟩;unfold PV.slice;show(if s=s/\(0:Int)<=1/\(1:Int)<=((Z' rows+1:Nat):Int)/\((Z' rows+1:Nat):Int)<=((r::rows).length:Nat)/\((none:Option Int)=none\/(none:Option Int)=some ((Z' rows+1:Nat):Int))then some (PV.osl q s (off+(1:Int).toNat) (((Z' rows+1:Nat):Int).toNat-(1:Int).toNat))else none)=_;rw[aF ⟨rfl,by omega,by omega,by rw[awK];omega,.inl rfl⟩];rfl;have:=congrArg (List.drop 1) e;rw[List.drop_take,List.drop_drop,Nat.add_sub_cancel]at this;exact this
theorem vD.append{K:R_}(h:vD H s q v rows)(R:dH H s y=some src)(O:roomFor rows.length src.length b)
  (N:∀J v' H',vD H' s J v' (rows++src)->(J=q\/H J=none)->(∀o x,o≠q->H o=some x->H' o=some x)->(∀o,o≠J->H o=none->H' o=none)->K v' H'):kJ H s b v y K:=by
 obtain⟨rs,off,rfl,M,F,B⟩:=h;have w:(rows++src).length=Z' rows+Z' src:=auZ;have E:∀off,off+Z' rows<=Z' rs->(rs.drop off).take rows.length=rows->K (.osl q s off (Z' rows+Z' src)) (H.set q (.rows s (rs.take (off+Z' rows)++src))):=λoff F B=>by
  refine N q _ _ ⟨rs.take (off+Z' rows)++src,off,by rw[w],by simp only[aP,if_true],by rw[auZ,auZ,avN];omega,?_⟩ (.inl rfl) (λo x i u=>by simp only[aP,aC i,u]) λo i u=>by simp only[aP,aC i,u]
  have e:(rs.take (off+Z' rows)).drop off=rows:=by rw[List.drop_take,Nat.add_sub_cancel_left,B]
  rw[List.drop_append_of_le_length (by rw[avN];omega),e];exact avW
 have A:∀o,H o=none->K (.osl o s 0 (Z' rows+Z' src)) (H.set o (.rows s (rows++src))):=λo u=>by
  refine N o _ _ ⟨rows++src,0,by rw[w],by simp only[aP,if_true],by omega,by rw[awM,avW]⟩ (.inr u) (λo' x i l=>?_) λo' i l=>by simp only[aP,aC i,l]
  have:o'≠o:=by rintro rfl;rw[u]at l;cases l
  simp only[aP,aC this,l]
 cases off with
 |zero=>
  refine⟨src,R,rfl,rfl,O,rs,M,by omega,?_,λo u=>?_⟩;have:=E 0 F B
  rwa[avK]at this
  rw[awM]at B;rw[B];exact A o u
 |succ off =>refine⟨src,R,rfl,O,rs,M,F,E _ F B,λo u=>?_⟩;rw[B];exact A o u
end
theorem Kp{l:List dV}{k:Nat}(h:k<Z' l):(l.map dV.cells)[k]?=some (l[k]).cells:=by simp[h]
abbrev aoC(n:dP):aV:=.rows 4 [n.cells]
abbrev iB(N:Nat)(v:PV):aV:=.rows 4 [[.int .i64 (N:Nat),.int .i64 0,.int .i64 1,v]]
def aqG(f:aD)(room:I_):Prop:=∃u,YA f room u

def FB(f:aD)(a:dV):Nat:=(a.src-2-Z' f.atJ)/(Z' f.atK-1)
def Pz(f:aD)(v:Nat)(a:dV)(x:Nat):Bool:=decide (fF f 0<=a.dst)&&(decide (x≠0)&&decide (FB f a=v))
def VX(f:aD)(v:Nat)(a:dV)(x:Nat):I_:=if Pz f v a x=true then[((a.dst-fF f 0:Nat):Int)]else[]
def qJ(f:aD)(v:Nat):List dV->N_->I_
 |a::l,x::xs=>VX f v a x++qJ f v l xs
 |_,_=>[]
def HE(f:aD)(l:List dV)(xs:N_):L2_:=(auX f.atJ.length).map λv=>qJ f v l xs
theorem WE(f:aD)(v:Nat):∀{u:List dV}{w:N_}(e:List dV)(i:N_),Z' u=Z' w->qJ f v (u++e) (w++i)=qJ f v u w++qJ f v e i
 |[],[],e,i,_=>rfl
 |a::l,x::xs,e,i,h=>by rw[ayQ,ayQ,qJ,qJ,WE f v e i (by simpa using h),awB]
theorem flatMap_nil{α β:Type}{g:α->List β}:∀{L:List α},(∀k∈L,g k=[])->L.flatMap g=[]
 |[],_=>rfl
 |k::L,h=>by rw[List.flatMap_cons,h k aZ,flatMap_nil λj e=>h j (by simp[e])];rfl
theorem alN{f:aD}(h:VF f){v d:Nat}(i:d<Z' f.atH):FB f (pB f v d)=v:=by
 have w:=(h.drive d i).2.2.2;have x:=w.2;have y:=h.root;have l:eJ f d≠0:=λe=>by have u:=(h.drive d i).2.2.2.2;rw[e]at u;have:=y.2.1;omega
 have hlt:eJ f d<Z' f.atK:=by have:=(h.drive d i).2.2;omega
 unfold FB pB gX;simp only;rw[aC l,show 2+Z' f.atJ+v*(Z' f.atK-1)+eJ f d-1-2-Z' f.atJ=(eJ f d-1)+v*(Z' f.atK-1) by omega,Nat.add_mul_div_right _ _ Om,azC Om,avK]
structure ajB where
 vols:List Bool
 atT:List (List Bool)
 auD:List Bool
def ajB.shape(f:aD)(c:ajB):Bool:=decide (Z' c.vols=Z' f.atJ)&&(decide (Z' c.atT=Z' f.atJ)&&(decide (Z' c.auD=Z' f.atH)&&c.atT.all λr=>decide (Z' r=Z' f.atK-1)))

theorem Ll{a b:Nat}(i:a<=100)(hb:b<=100):i_.wrap ((a:Int)*(b:Int))=((a*b:Nat):Int)/\a*b<=10000:=by
 have e:a*b<=100*100:=ayA i hb;rw[<-Int.natCast_mul,wrap_i64 Om Om];exact⟨rfl,e⟩
theorem Zs{f:aD}(w:Small f){v i:Nat}(x:v<=100)(hi:i<=100)(e:i≠0)(A:0<Z' f.atK) :
  i_.wrap (i_.wrap (i_.wrap (i_.wrap (2+(Z' f.atJ:Int))+i_.wrap ((v:Int)*i_.wrap ((Z' f.atK:Int)-1)))+(i:Int))-1)=((gX f v i:Nat):Int):=by
 obtain⟨s1,s2,s3,s4,B,E⟩:=w;rw[wrap_i64 (n:=(Z' f.atK:Int)-1) Om Om,show(Z' f.atK:Int)-1=((Z' f.atK-1:Nat):Int) by omega];obtain⟨l,y⟩:=Ll (a:=v) (b:=Z' f.atK-1) x Om;rw[l];have u:gX f v i=2+Z' f.atJ+v*(Z' f.atK-1)+i-1:=by unfold gX;rw[aC e]
 rw[u];generalize v*(Z' f.atK-1)=z at *
 rw[wrap_i64 (n:=2+(Z' f.atJ:Int)) Om Om,wrap_i64 (n:=2+(Z' f.atJ:Int)+(z:Int)) Om Om,wrap_i64 (n:=2+(Z' f.atJ:Int)+(z:Int)+(i:Int)) Om Om,wrap_i64 Om Om];omega
theorem aeI{f:aD}(i:Small f){d:Nat}(u:d<=100) :
  i_.wrap (i_.wrap (2+i_.wrap ((Z' f.atJ:Int)*(Z' f.atK:Int)))+(d:Int))=((fF f d:Nat):Int):=by
 obtain⟨s1,s2,s3,s4,w,x⟩:=i;obtain⟨e,l⟩:=Ll (a:=Z' f.atJ) (b:=Z' f.atK) Om Om;rw[e];unfold fF;generalize f.atJ.length*Z' f.atK=z at *
 rw[wrap_i64 (n:=2+(z:Int)) Om Om,wrap_i64 Om Om];omega
theorem Z9(f:aD)(w:Small f)(u:0<Z' f.atK)(v i:Nat)(x:v<=100)(hi:i<=100) :
  QR.wp C (aW qx.res (aL (.j ((gX f v i:Nat):Int)))) (g_ [.agg f.cells,.j (v:Nat),.j (i:Nat)]) .nil:=by
 by_cases l:i=0;subst l;have e:i_.wrap (2+(v:Int))=((2+v:Nat):Int):=wO_
 simp only[go_sem,QR,qx,Int.natCast_zero,bN (show((0:Nat):Int)=0 from rfl),e];refine cL ?_;rfl;have e:=Zs w x hi l u;simp only[go_sem,QR,qx,bA (Om:¬((i:Nat):Int)=0),auW,e];refine cL ?_;rfl
theorem ahB(f:aD)(l:Small f)(d:Nat)(i:d<=100):zj.wp C (aW P0.res (aL (.j ((fF f d:Nat):Int)))) (g_ [.agg f.cells,.j (d:Nat)]) .nil:=by
 have e:=aeI l i;simp only[go_sem,zj,P0,auW,e];refine cL ?_;rfl
theorem adQ{f:aD}(hV:VF f)(k:Nat)(i:k<=Z' f.atJ):fE (lL f) k<=8*k:=by
 induction k with
 |zero=>exact avD _
 |succ k e =>have:=(AD hV (v:=k) Om).1;have:=e Om;rw[fE];omega
theorem U1(u:∀(f:aD)(v:Nat),VF f->v<Z' f.atJ->aH C 82 [.agg f.cells,.j (v:Nat)] .nil (aL (.j (fT f v))))(f:aD)(hV:VF f) :
  cj.wp C (aW qz.res (aL (.j ((Do f:Nat):Int)))) (g_ [.agg f.cells]) .nil:=by
 have y:=hV.small.atJ;simp only[go_sem,cj,qz];refine wp_loop (α:=Nat) (λk=>(((n_.set 1 (.aX f.cells)).set 3 (.j ((fE (lL f) k:Nat):Int))).set 4 (.j (k:Nat)))) (λ_=>.nil) (λk=>k<=Z' f.atJ) (λk=>Z' f.atJ-k) 0 (auY _) (by(repeat' (first|exact d_|refine c_ ?_ ?_))<;>first|(simp only[go_sem,fE]<;>rfl)|rfl) a_ ?_;intro k w;simp only[go_sem,auW];by_cases hlt:k<Z' f.atJ;have i:(k:Int)<(Z' f.atJ:Nat):=Om;obtain⟨b1,b2,l,-⟩:=AD hV hlt;have x:=adQ hV k w;have e:i_.wrap (((fE (lL f) k:Nat):Int)+fT f k)=((fE (lL f) (k+1):Nat):Int):=by rw[fE,<-l,wrap_i64 Om Om];omega
 simp only[go_sem,i];refine aB (u f k hV hlt) rfl ?_;simp only[go_sem,e,wZz k];exact aE (k+1) hlt Om Lq a_;have i:¬(k:Int)<(Z' f.atJ:Nat):=Om;have:k=Z' f.atJ:=Om;subst this;simp only[go_sem,i];refine cL ?_;rfl
abbrev sU:aV:=.rows 4 [[.int .i64 0,.int .i64 0,.int .i64 0,.aJ]]
abbrev HN(p:cO):aV:=.rows 17 [p.cells]
theorem akA{a b:Nat}{x y:aV}(h:¬a=b):∃Hs:PH,Hs a=some x/\Hs b=some y/\∀H':PH,H' a=some x->H' b=some y->Hs.le H':=
 ⟨(h_.set a x).set b y,by rw[aP,aC h,cE],cE _ _,λH' e i=>e_ (e_ a_ e) i⟩
theorem Ds(pre:List dV)(g:Nat->dV)(k:Nat):pre++(auX (k+1)).map g=pre++(auX k).map g++[g k]:=by
 rw[axV,avU,awB];rfl
theorem Fe{G F:PF}{i:Nat}{v:PV}(h:G.le F)(hi:G i=none):G.le (F.set i v):=λj x l=>by
 rw[mO];by_cases e:j=i;subst e;rw[hi]at l;cases l;rw[aC e];exact h j x l
theorem Ji(p:Nat->Bool)(k:Nat):(auX (k+1)).filter p=(auX k).filter p++if p k=true then[k]else[]:=by
 rw[axV,List.filter_append,List.filter_cons,List.filter_nil]
theorem tr(f:aD)(k:Nat):(auX (k+1)).flatMap (pR f)=(auX k).flatMap (pR f)++pR f k:=by
 rw[axV,List.flatMap_append,List.flatMap_cons,List.flatMap_nil,awJ]
theorem XP{f:aD}(e:Small f):∀k,((auX k).flatMap (pR f)).length<=k*65
 |0=>avD _
 |k+1=>by have i:=XP e k;have l:=Iz f k;have u:=e.atK;have w:=e.atH;rw[tr,auZ];omega
def Gl(f:aD)(room:I_):dP:=if cM f=true then lD f room else⟨0,0,0,[]⟩
def Zp(f:aD):Int:=if cM f=true then 0 else 1
def wc(f:aD)(room:I_):PV:=.tup [.agg (Gl f room).cells,.int .i64 (Zp f)]
theorem Lo{f:aD}(h:cM f=true)(room:I_):Gl f room=lD f room:=aF h
theorem Ln{f:aD}(h:cM f=true):Zp f=0:=aF h
theorem agK{f:aD}(h:cM f=false):Zp f=1:=aC (by rw[h];decide)
theorem agL{f:aD}(h:cM f=false)(room:I_):Gl f room=⟨0,0,0,[]⟩:=aC (by rw[h];decide)
theorem coL{a b:PV}(h:Co a b)(x y z w:PV):Co (.tup [.agg [x,y,z,a],w]) (.tup [.agg [x,y,z,b],w]):=by
 refine .tup rfl λj p q hp hq=>?_
 match j with
 |0=>
  cases hp;cases hq;refine .agg rfl λj p q hp hq=>?_
  match j with
  |0=>cases hp;cases hq;exact .refl _
  |1=>cases hp;cases hq;exact .refl _
  |2=>cases hp;cases hq;exact .refl _
  |3=>cases hp;cases hq;exact h
  |j+4=>cases hp
 |1=>cases hp;cases hq;exact .refl _
 |j+2=>cases hp
theorem K3{H:PH}{B:List BX}{v:PV}{rows:P2_}{a b c e:Int}(h:aQ H B [(v,4,rows)]):yS (.tup [.agg [.j a,.j b,.j c,v],.j e]) H (cC (.tup [.agg [.j a,.j b,.j c,.sl 4 rows],.j e])):=by
 rcases h.own 0 rfl with⟨i,rfl⟩|⟨q,rs,rfl,_⟩
 subst i;exact .done (H2:=.nil) ⟨coL (.nil 4) _ _ _ _,rfl⟩ a_;obtain⟨rs,l,u,-,-,-⟩:=h.frz 0 rfl;refine .step l ?_;show yS (.tup [.agg [.j a,.j b,.j c,PV.dL q 4 rs (.osl q 4 0 rows.length)],.j e]) _ _;rw[u];exact .done (H2:=.nil) ⟨.refl _,rfl⟩ a_
structure GK(C:Ctx):Prop where
 node:∀(f:aD),Small f->0<Z' f.atK->∀v i:Nat,v<=100->i<=100->aH C 304 [.agg f.cells,.int .i64 (v:Nat),.int .i64 (i:Nat)] .nil (aL (.int .i64 ((gX f v i:Nat):Int)))
 drv:∀(f:aD),Small f->∀d:Nat,d<=100->aH C 305 [.agg f.cells,.int .i64 (d:Nat)] .nil (aL (.int .i64 ((fF f d:Nat):Int)))
 total:∀f:aD,VF f->aH C 306 [.agg f.cells] .nil (aL (.int .i64 ((Do f:Nat):Int)))
 qvalid:∀f:aD,f.Ok->aH C 67 [.agg f.cells] .nil (aL (.bool (cM f)))
 allowed:∀(f:aD)(p:cO)(d:Nat),VF f->Fits p.atI->d<Z' f.atH->aH C 77 [.agg p.cells,.agg f.cells,.int .i64 d] .nil (aL (.bool (p.atI.contains ((mdl f d:Nat):Int))))
 qroom:∀(f:aD)(room:I_),f.Ok->aH C 85 [.agg f.cells,ints room] .nil (aL (ints (sO f room)))
def quS(f:aD):Spec:=λname vs=>match name,vs with
 |304,[_,.int _ v,.int _ i]=>some ([],λ_=>aL (.int .i64 ((gX f v.toNat i.toNat:Nat):Int)))
 |305,[_,.int _ d]=>some ([],λ_=>aL (.int .i64 ((fF f d.toNat:Nat):Int)))
 |_,_=>none
section
variable {C:Ctx} {F:PF} {H Hs:PH} {st:Bool} {f:aD} {args:List aR} {d:O_} {K:K_}
theorem CE(l:GK C)(y:Small f)(u:0<Z' f.atK){v i:Nat}(A:v<=100)(hi:i<=100)(w:aR.evs F args=some [.agg f.cells,.j (v:Nat),.j (i:Nat)])(e:Hs.le H)(x:K (F.put d (.j ((gX f v i:Nat):Int))) H):dOp C Hs (quS f) st (.call 304 args) d K F H:=
 cB (v:=.j ((gX f v i:Nat):Int)) (by rfl) (l.node f y u v i A hi) w e x
theorem el(l:GK C)(x:Small f){i:Nat}(hi:i<=100)(u:aR.evs F args=some [.agg f.cells,.j (i:Nat)])(e:Hs.le H)(w:K (F.put d (.j ((fF f i:Nat):Int))) H):dOp C Hs (quS f) st (.call 305 args) d K F H:=
 cB (v:=.j ((fF f i:Nat):Int)) (by rfl) (l.drv f x i hi) u e w
end
theorem DM{H:PH}{B:List BX}{v:PV}{l:List dV}{K:R_}(a:dV)(h:aQ H B [(v,4,l.map dV.cells)])(w:Z' l<=1000000)(u:∀q n H',aQ H' B [(.osl q 4 0 n,4,(l++[a]).map dV.cells)]->K (.osl q 4 0 n) H'):kJ H 4 32 v (.sl 4 [a.cells]) K:=by
 refine h.append 0 (src:=[a.cells]) rfl rfl (by unfold roomFor;rw[auW];simp only[avG,maxLen];omega) λv' H' i e=>?_;obtain⟨q,hq⟩:=e aZ;generalize((l.map dV.cells++[a.cells]).length)=n at hq;subst hq;refine u q n H' ?_;rw[avU];exact i
structure QO where
 o:Nat
 z:Nat
 p:Nat
def nU(f:aD)(room:I_)(e:QO)(k:Nat):PF:=(((((n_.set 1 (ints room)).set 2 (.aX f.cells)).set 4 (.ptr e.z 4 0 0)).set 6 (.ptr e.o 4 0 0)).set 7 (.int .i64 (k:Nat)))
def HP(f:aD)(room:I_)(e:QO)(k i:Nat):PF:=((nU f room e k).set 8 (.ptr e.p 17 0 0)).set 9 (.int .i64 ((i+1:Nat):Int))
def je(f:aD)(room:I_)(e:QO)(k i:Nat):PF:=((nU f room e k).set 8 (.ptr e.p 17 0 0)).set 11 (.int .i64 (i:Nat))
theorem Jz(f:aD)(p:cO){i:Nat}(hi:i<Z' f.atK)(J:0<=lvl f i)(M:lvl f i<5){op:Nat}(K:K_)(F:PF)(H:PH)(x:F 2=some (.aX f.cells))(y:F 9=some (.j (i:Nat)))(h8:F 8=some (.ptr op 17 0 0))(u:H op=some (HN p))
  (w:∀e:PF,e 10=some (.j (p.spread (lvl f i).toNat))->(∀G:PF,G.le F->(∀j,62<=j->j<71->G j=none)->G 10=none->G.le e)->K e H):wpOps C jj K F H:=by
 have h5:lvl f i<((5:Nat):Int):=Om;simp only[go_sem,jj,x,y,h8,gR hi,wU hi,J,h5,ayG];have B:lvl f i=0\/lvl f i=1\/lvl f i=2\/lvl f i=3\/lvl f i=4:=Om;have fin:∀e:PF,e 10=some (.j (p.spread (lvl f i).toNat))->(∀G:PF,G.le F->(∀j,62<=j->j<71->G j=none)->G 10=none->G.le e)->K e H:=w;clear w;rcases B with h|h|h|h|h
 all_goals
  rw[h]at fin ⊢;simp only[go_sem,u];refine fin _ rfl λG A E l=>?_
  repeat' (first|exact A|exact l|(exact E _ aU aU)|refine Fe ?_ ?_)
theorem Ux(Lb:GK C){K:bZ}[Up K](f:aD)(hV:VF f)(room:I_)(e:QO)(N k:Nat)(hk:k<Z' f.atJ)(pre:List dV)(δ:Z' pre<=900000){F:PF}{H:PH}{B:List BX}(v:PV)
  (E:B[0]?=some (e.p,HN (cT f k)))
  (w:aQ H ((e.o,iB N v)::B) [(v,4,pre.map dV.cells)]) (hF:(HP f room e k 0).le F)
  (hK:∀v' H',aQ H' ((e.o,iB N v')::B) [(v',4,(pre++(auX (Z' f.atK-1)).map (DD f k)).map dV.cells)]->K (.exit 2) ((nU f room e k).set 8 (.ptr e.p 17 0 0)) H'):aI.wp C (.loop jf) K F H:=by
 have U:=hV.small;have hr:=hV.root;have ζ:=U.atK;have η:=U.atJ;have ε:¬e.o=e.p:=w.ne 0 1 rfl E aU;refine wp_loop (α:=T3_) (λs=>HP f room e k s.1) (λs=>s.2.2) (λs=>s.1+1<=Z' f.atK/\aQ s.2.2 ((e.o,iB N s.2.1)::B) [(s.2.1,4,(pre++(auX s.1).map (DD f k)).map dV.cells)]) (λs=>Z' f.atK-s.1) (0,v,H) ⟨by have:=hr.1;omega,by simpa using w⟩ hF b_ ?_;rintro⟨i,v,O⟩ ⟨hi,w⟩;simp only at hi w;simp only[go_sem,jf,HP,nU,auW];by_cases hlt:i+1<Z' f.atK
 ·have u:((i+1:Nat):Int)<(Z' f.atK:Nat):=Om;have β:=eC (Om:i+1<9223372036854775807);obtain⟨d1,d2,d3,d4,d5⟩:=hV.dom (i+1) Om hlt;have γ:=hV.ZE (Om:0<i+1) hlt;have A:O e.p=some (HN (cT f k)):=w.at 1 E;have X:O e.o=some (iB N v):=w.at 0 rfl;obtain⟨b1,b2,b3,b4⟩:=AD hV hk;obtain⟨hp,he⟩:=mS hV hk;have x:=hV.atW _ (avB hp);rw[he]at x;have W:i_.wrap ((cT f k).k+(cT f k).m)=((lL f k:Nat):Int):=by rw[b3];exact wrap_i64 Om Om
  have θ:=x.2.2.2.2.2.2.1 (lvl f (i+1)).toNat;have l:((QC f k (i+1):Nat):Int)=if(cT f k).spread (lvl f (i+1)).toNat=0 then((lL f k:Nat):Int)else(cT f k).spread (lvl f (i+1)).toNat:=by
   unfold QC eN;split
   ·rfl
   ·omega
  simp only[go_sem,u];refine Jz f (cT f k) hlt Om Om (op:=e.p) _ _ _ rfl rfl rfl A λF1 y M=>?_;have hG:=M (HP f room e k i) (by(repeat' (first|exact d_|refine c_ ?_ ?_))<;>first|(simp only[go_sem,HP,nU]<;>rfl)|rfl) (λj S h2=>by have:j=62\/j=63\/j=64\/j=65\/j=66\/j=67\/j=68\/j=69\/j=70:=Om;rcases this with rfl|rfl|rfl|rfl|rfl|rfl|rfl|rfl|rfl<;>rfl) rfl
  clear M;have J:∀V:PF,((HP f room e k i).set 10 (.j ((QC f k (i+1):Nat):Int))).le V ->
    aI.wp C (.draw jk) (fZ C (aI.wp C (.draw jl)) (fA 3 (fZ C (aI.wp C (.region jm)) (fL (λs:T3_=>HP f room e k s.1) (λs=>s.2.2) (λs=>s.1+1<=Z' f.atK/\aQ s.2.2 ((e.o,iB N s.2.1)::B) [(s.2.1,4,(pre++(auX s.1).map (DD f k)).map dV.cells)]) (λs=>Z' f.atK-s.1) (Z' f.atK-i) K)))) V O:=by
   intro V Z;refine sT _ (λ_ _ _ _ a b=>Up.up a b) Z ?_;refine bK (h_.set e.o (iB N v)) (quS f) (e_ a_ X) ?_;simp only[go_sem,jk,HP,nU,gR hlt,qt hlt,γ];refine CE Lb U hr.1 (v:=k) (i:=tP f (i+1)) Om Om rfl (e_ a_ X) ?_;simp only[go_sem];refine CE Lb U hr.1 (v:=k) (i:=i+1) Om Om rfl (e_ a_ X) ?_;simp only[go_sem];refine DM (DD f k i) w (by rw[auZ,auW,List.length_range];omega) λq n H1 S=>?_;refine⟨e_ a_ (S.at 0 rfl),?_⟩;have Y:=S.at 0 rfl;refine bK .nil cS a_ ?_;simp only[go_sem,jl,Y];refine⟨a_,?_⟩;have h2:=S.set 0 rfl (iB N (.osl q 4 0 n));simp only[go_sem,jm,β];refine aE (i+1,.osl q 4 0 n,_) ⟨hlt,?_⟩ sO_ (by(repeat' (first|exact d_|refine c_ ?_ ?_))<;>first|(simp only[go_sem,HP,nU]<;>rfl)|rfl) b_;simp only;rw[Ds];exact h2
  by_cases R:(cT f k).spread (lvl f (i+1)).toNat=0
  ·rw[aF R]at l;have f8:=hG 8 _ rfl;simp only[go_sem,y,bN R,f8,A,W];refine J _ (c_ ?_ (by simp only[go_sem,l]))
   repeat' (first|exact hG|refine Fe ?_ rfl)
  ·rw[aC R]at l;simp only[go_sem,y,bA R];refine J _ (c_ ?_ (by simp only[go_sem,y,l]))
   repeat' (first|exact hG|refine Fe ?_ rfl)
 ·have u:¬((i+1:Nat):Int)<(Z' f.atK:Nat):=Om;have:i=Z' f.atK-1:=Om;subst this;simp only[go_sem,u];exact Up.up (by(repeat' (first|exact d_|refine c_ ?_ ?_))<;>first|(simp only[go_sem,HP,nU]<;>rfl)|rfl) (hK v O w)
theorem Uy(J:GK C){K:bZ}[Up K](f:aD)(hV:VF f)(room:I_)(e:QO)(N k:Nat)(hk:k<Z' f.atJ)(x:Fits (cT f k).atI)(pre:List dV)(X:Z' pre<=900000){F:PF}{H:PH}{B:List BX}(v:PV)
  (U:B[0]?=some (e.p,HN (cT f k)))
  (u:aQ H ((e.o,iB N v)::B) [(v,4,pre.map dV.cells)]) (Z:(je f room e k 0).le F)
  (hK:∀v' H',aQ H' ((e.o,iB N v')::B) [(v',4,(pre++((auX f.atH.length).filter (okD f k)).map (pB f k)).map dV.cells)]->K (.exit 4) (nU f room e k) H'):aI.wp C (.loop jg) K F H:=by
 have A:=hV.small;have hr:=hV.root;have β:=A.atK;have γ:=A.atH;have δ:=A.atJ;refine wp_loop (α:=T3_) (λs=>je f room e k s.1) (λs=>s.2.2) (λs=>s.1<=Z' f.atH/\aQ s.2.2 ((e.o,iB N s.2.1)::B) [(s.2.1,4,(pre++((auX s.1).filter (okD f k)).map (pB f k)).map dV.cells)]) (λs=>Z' f.atH-s.1) (0,v,H) ⟨auY _,by simpa using u⟩ Z b_ ?_;rintro⟨i,v,E⟩ ⟨hi,u⟩;simp only at hi u;simp only[go_sem,jg,je,nU,auW];by_cases hlt:i<Z' f.atH
 ·have l:(i:Int)<(Z' f.atH:Nat):=Om;have y:=wZz i;obtain⟨d1,d2,d3,d4,d5⟩:=hV.drive i hlt;have W:okD f k i=(cT f k).atI.contains ((mdl f i:Nat):Int):=rfl;have M:E e.p=some (HN (cT f k)):=u.at 1 U;have O:E e.o=some (iB N v):=u.at 0 rfl;have w:=Ji (okD f k) i;simp only[go_sem,l,M];refine aB (J.allowed f (cT f k) i hV x hlt) rfl ?_;rw[<-W];cases hb:okD f k i with
  |false =>rw[hb,aC aU,awJ]at w;rw[<-w]at u;simp only[go_sem,y];exact aE (i+1,v,E) ⟨hlt,u⟩ sO_ (by(repeat' (first|exact d_|refine c_ ?_ ?_))<;>first|(simp only[go_sem,je,nU]<;>rfl)|rfl) b_
  |true=>
   rw[hb,aF rfl]at w;have V:=azI (okD f k) (auX i);rw[List.length_range]at V;simp only[go_sem];refine bK (h_.set e.o (iB N v)) (quS f) (e_ a_ O) ?_;simp only[go_sem,mF hlt,hV.MN hlt];refine CE J A hr.1 (v:=k) (i:=eJ f i) Om Om rfl (e_ a_ O) ?_;simp only[go_sem];refine el J A (i:=i) Om rfl (e_ a_ O) ?_;simp only[go_sem];refine DM (pB f k i) u (by rw[auZ,auW];omega) λq n H1 S=>?_;refine⟨e_ a_ (S.at 0 rfl),?_⟩;have R:=S.at 0 rfl;refine bK .nil cS a_ ?_;simp only[go_sem,R];refine⟨a_,?_⟩;have Y:=S.set 0 rfl (iB N (.osl q 4 0 n));simp only[go_sem,y];refine aE (i+1,.osl q 4 0 n,_) ⟨hlt,?_⟩ sO_ (by(repeat' (first|exact d_|refine c_ ?_ ?_))<;>first|(simp only[go_sem,je,nU]<;>rfl)|rfl) b_;simp only;have e2:pre++((auX (i+1)).filter (okD f k)).map (pB f k)=pre++((auX i).filter (okD f k)).map (pB f k)++[pB f k i]:=by rw[w,avU,<-awB];rfl
   rw[e2];exact Y
 have l:¬(i:Int)<(Z' f.atH:Nat):=Om;have:i=Z' f.atH:=Om;subst this;simp only[go_sem,l];exact Up.up (by(repeat' (first|exact d_|refine c_ ?_ ?_))<;>first|(simp only[go_sem,je,nU]<;>rfl)|rfl) (hK v E u)
theorem Uz(O:GK C){K:bZ}[Up K](f:aD)(hf:f.Ok)(hV:VF f)(room:I_)(o z:Nat)(N:Nat){F:PF}{H:PH}
  (w:aQ H [(o,iB N .aJ),(z,sU)] [(.aJ,4,[])]) (hF:(nU f room ⟨o,z,0⟩ 0).le F)
  (hK:∀v' H',aQ H' [(o,iB N v'),(z,sU)] [(v',4,((auX f.atJ.length).flatMap (pR f)).map dV.cells)]->K (.exit 0) (nU f room ⟨o,z,0⟩ f.atJ.length) H'):aI.wp C (.loop jh) K F H:=by
 have E:=hV.small;have hr:=hV.root;have γ:=E.atK;have δ:=E.atH;have ε:=E.atJ;refine wp_loop (α:=T3_) (λs=>nU f room ⟨o,z,0⟩ s.1) (λs=>s.2.2) (λs=>s.1<=Z' f.atJ/\aQ s.2.2 [(o,iB N s.2.1),(z,sU)] [(s.2.1,4,((auX s.1).flatMap (pR f)).map dV.cells)]) (λs=>Z' f.atJ-s.1) (0,.aJ,H) ⟨auY _,by simpa using w⟩ hF b_ ?_;rintro⟨k,v,H0⟩ ⟨hk,w⟩;simp only at hk w;simp only[go_sem,jh,nU,auW];by_cases hlt:k<Z' f.atJ;have e:(k:Int)<(Z' f.atJ:Nat):=Om;have V:=wZz k;obtain⟨hp,he⟩:=mS hV hlt;have l:=(hf.atW _ (avB hp)).atI;rw[he]at l;have A:=hV.atW _ (avB hp);rw[he]at A;obtain⟨b1,b2,b3,b4⟩:=AD hV hlt;have R:i_.wrap ((cT f k).k+(cT f k).m)=((lL f k:Nat):Int):=by rw[b3];exact wrap_i64 Om Om
 have β:=XP E k;simp only[go_sem,e];refine bK .nil cS a_ ?_;simp only[go_sem,sS hlt,hV.HO hlt,oT hp,he];refine w.TV λp H1 Z=>?_;have g1:=Z.LX;have h2:=Z.ZK (HN (cT f k));simp only[go_sem,g1];refine⟨a_,?_⟩;generalize H1.set p (.rows 17 [(cT f k).cells])=H2 at *
 have J:aQ H2 [(o,iB N v),(p,HN (cT f k)),(z,sU)] [(v,4,((auX k).flatMap (pR f)).map dV.cells)]:=by refine h2.perm ?_ (axY.refl _);exact .cons _ (.swap _ _ _)
 have X:H2 o=some (iB N v):=J.at 0 rfl;have Y:H2 p=some (HN (cT f k)):=J.at 1 rfl;have W:¬o=p:=J.ne 0 1 rfl rfl aU;obtain⟨Hs,so,sp,u⟩:=akA (x:=iB N v) (y:=HN (cT f k)) W;refine bK Hs (quS f) (u _ X Y) ?_;simp only[go_sem,so];refine CE O E hr.1 (v:=k) (i:=0) Om Om rfl (u _ X Y) ?_;simp only[go_sem,sp,R];refine DM (⟨0,gX f k 0,lL f k⟩:dV) J Om λq n H3 M=>?_;refine⟨u _ (M.at 0 rfl) (M.at 1 rfl),?_⟩;have S:=M.at 0 rfl;refine bK .nil cS a_ ?_;simp only[go_sem,S];refine⟨a_,?_⟩;have h5:=M.set 0 rfl (iB N (.osl q 4 0 n))
 try simp only[go_sem]
 refine Ux O f hV room ⟨o,z,p⟩ N k hlt ((auX k).flatMap (pR f)++[(⟨0,gX f k 0,lL f k⟩:dV)]) (by rw[auZ,avG];omega) (.osl q 4 0 n) (B:=[(p,HN (cT f k)),(z,sU)]) rfl h5 (by(repeat' (first|exact d_|refine c_ ?_ ?_))<;>first|(simp only[go_sem,HP,nU]<;>rfl)|rfl) λv2 H8 h9=>?_;simp only[go_sem,nU];refine Uy O f hV room ⟨o,z,p⟩ N k hlt l ((auX k).flatMap (pR f)++[(⟨0,gX f k 0,lL f k⟩:dV)]++(auX (Z' f.atK-1)).map (DD f k)) (by rw[auZ,auZ,avG,auW,List.length_range];omega) (B:=[(p,HN (cT f k)),(z,sU)]) v2 rfl h9 (by(repeat' (first|exact d_|refine c_ ?_ ?_))<;>first|(simp only[go_sem,je,nU]<;>rfl)|rfl) λv3 H9 U=>?_;simp only[go_sem,nU,V];refine aE (k+1,v3,H9) ⟨hlt,?_⟩ sO_ (by(repeat' (first|exact d_|refine c_ ?_ ?_))<;>first|(simp only[go_sem,nU]<;>rfl)|rfl) b_;simp only;have ev:(auX (k+1)).flatMap (pR f)=(auX k).flatMap (pR f)++[(⟨0,gX f k 0,lL f k⟩:dV)]++(auX (Z' f.atK-1)).map (DD f k)++((auX f.atH.length).filter (okD f k)).map (pB f k):=by rw[tr];unfold pR;simp[gX]
 rw[ev];exact U.xA 1;have e:¬(k:Int)<(Z' f.atJ:Nat):=Om;have:k=Z' f.atJ:=Om;subst this;simp only[go_sem,e];exact Up.up (by(repeat' (first|exact d_|refine c_ ?_ ?_))<;>first|(simp only[go_sem,nU]<;>rfl)|rfl) (hK v H0 w)
theorem P1(O:GK C){K:bZ}[Up K](f:aD)(hV:VF f)(room:I_)(o z N:Nat)(pre:List dV)(E:Z' pre<=900000){F:PF}{H:PH}(v:PV)
  (l:aQ H [(o,iB N v),(z,sU)] [(v,4,pre.map dV.cells)])
  (S:((((((n_.set 2 (.aX f.cells)).set 4 (.ptr z 4 0 0)).set 6 (.ptr o 4 0 0)).set 12 (.sl 1 (aT (iE f room)))).set 13 (.j 0))).le F)
  (U:∀v' H',aQ H' [(o,iB N v'),(z,sU)] [(v',4,(pre++(auX f.atH.length).map (JD f room)).map dV.cells)]->K (.exit 6) (((n_.set 4 (.ptr z 4 0 0)).set 6 (.ptr o 4 0 0))) H'):aI.wp C (.loop ji) K F H:=by
 have J:=hV.small;have V:=J.atH;refine wp_loop (α:=T3_) (λs=>(((((n_.set 2 (.aX f.cells)).set 4 (.ptr z 4 0 0)).set 6 (.ptr o 4 0 0)).set 12 (.sl 1 (aT (iE f room)))).set 13 (.j (s.1:Nat)))) (λs=>s.2.2) (λs=>s.1<=Z' f.atH/\aQ s.2.2 [(o,iB N s.2.1),(z,sU)] [(s.2.1,4,(pre++(auX s.1).map (JD f room)).map dV.cells)]) (λs=>Z' f.atH-s.1) (0,v,H) ⟨auY _,by simpa using l⟩ S b_ ?_;rintro⟨i,v,M⟩ ⟨hi,l⟩;simp only at hi l;simp only[go_sem,ji,auW];by_cases hlt:i<Z' f.atH;have e:(i:Int)<(Z' f.atH:Nat):=Om;have y:=wZz i;have A:i<(iE f room).length:=by rw[rW];exact hlt
 have u:=sG A;obtain⟨r1,r2⟩:=rt hV room hlt;rw[ju,<-r2]at u;have B:=l.at 0 rfl;simp only[go_sem,e];refine bK (h_.set o (iB N v)) (quS f) (e_ a_ B) ?_;simp only[go_sem];refine el O J (i:=i) Om rfl (e_ a_ B) ?_;simp only[go_sem,u,cJ,rW,e];refine DM (JD f room i) l (by rw[auZ,auW,List.length_range];omega) λq n W x=>?_;refine⟨e_ a_ (x.at 0 rfl),?_⟩;have w:=x.at 0 rfl;refine bK .nil cS a_ ?_;simp only[go_sem,w];refine⟨a_,?_⟩;have R:=x.set 0 rfl (iB N (.osl q 4 0 n));simp only[go_sem,y];refine aE (i+1,.osl q 4 0 n,_) ⟨hlt,?_⟩ sO_ Lq b_;simp only;rw[Ds];exact R;have e:¬(i:Int)<(Z' f.atH:Nat):=Om;have:i=Z' f.atH:=Om;subst this;simp only[go_sem,e];exact Up.up Lq (U v M l)
theorem ahD(l:GK C)(f:aD)(y:f.Ok)(room:I_) :
  zl.wp C (aW iY.res (cC (wc f room))) (g_ [.agg f.cells,ints room]) .nil:=by
 simp only[go_sem,zl,iY];refine aS λz O=>?_;simp only[go_sem];refine aB (l.qvalid f y) rfl ?_;have x:aQ (h_.set z sU) [(z,sU)] []:=aQ.nil.new O sU;generalize(h_.set z sU)=S at *
 have J:=x.at 0 rfl;cases i:cM f with
 |false =>simp only[go_sem,avP,J];rw[wc,agL i,agK i];have K:=(x.set 0 rfl sU).nT 4;refine rO (vs:=[.agg [.int .i64 0,.int .i64 0,.int .i64 0,.aJ],.int .i64 1]) (.inr rfl) Sq ?_;exact K3 K
 |true=>
  have hV:=VF.of i;have w:=hV.small;rw[wc,Lo i,Ln i];simp only[go_sem,avH,auW];refine aB (l.drv f w f.atH.length (by have:=w.atH;omega)) rfl ?_;simp only[go_sem];refine x.TV λo E A=>?_;have g4:=A.at 1 rfl;have h5:=A.set 1 rfl (iB (fF f f.atH.length) .aJ);simp only[go_sem,g4];generalize E.set o (.rows 4 [[.j ((fF f f.atH.length:Nat):Int),.j 0,.j 1,.aJ]])=F at *
  have M:aQ F [(o,iB (fF f f.atH.length) .aJ),(z,sU)] [(.aJ,4,[])]:=by refine(h5.nT 4).perm ?_ (axY.refl _);exact(List.reverse_perm _).symm
  try simp only[go_sem]
  refine Uz l f y hV room o z _ M (by(repeat' (first|exact d_|refine c_ ?_ ?_))<;>first|(simp only[go_sem,nU]<;>rfl)|rfl) λR U h7=>?_;have u:=l.qroom f room y;rw[sO,aF i]at u;simp only[go_sem,nU];refine aB u rfl ?_;simp only[go_sem];refine P1 l f hV room o z _ ((auX f.atJ.length).flatMap (pR f)) (by have:=XP w f.atJ.length;have:=w.atJ;omega) R h7 Lq λB V h8=>?_;have a7:=h8.at 0 rfl;have a4:=h8.at 1 rfl;have N:=h8.set 1 rfl (iB (fF f f.atH.length) B);simp only[go_sem,a7,a4];refine⟨_,aF ?_,?_⟩;rcases h8.own 0 rfl with⟨_,e⟩|⟨q,rs,e,_⟩<;>rw[e]
  refine rO (vs:=[.agg [.j ((fF f f.atH.length:Nat):Int),.j 0,.j 1,B],.j 0]) (.inr rfl) Sq ?_;exact K3 N
theorem Uo(n:dP)(i:lF n):cg.wp C (aW qp.res (aL (.bool true))) (g_ [.agg n.cells]) .nil:=by
 have a1:¬(n.nodes:Int)<2:=by have:=i.two;omega
 have a2:¬(n.nodes:Int)>700:=by have:=i.few;omega
 have a3:¬(Z' n.arcs:Int)>2500:=by have:=i.num;omega
 have a4:¬(n.source:Int)=n.sink:=by have:=i.apart;omega
 have a5:¬(n.source:Int)<0:=Om;have a6:¬(n.source:Int)>=n.nodes:=by have:=i.source;omega
 have a7:¬(n.sink:Int)<0:=Om;have a8:¬(n.sink:Int)>=n.nodes:=by have:=i.sink;omega
 have E:=i.num;simp only[go_sem,cg,qp,a1,a2,a3,a5,a6,a7,a8,bA a4,auW];refine wp_loop (α:=Nat) (λk=>((n_.set 1 (.aX n.cells)).set 3 (.j (k:Nat)))) (λ_=>.nil) (λk=>k<=Z' n.arcs) (λk=>Z' n.arcs-k) 0 (auY _) Lq a_ ?_;intro k y;simp only[go_sem,auW];by_cases hlt:k<Z' n.arcs;have e:(k:Int)<(Z' n.arcs:Nat):=Om;obtain⟨A,e2,B⟩:=i.ends _ (avB hlt);have b1:¬((n.arcs[k]).src:Int)<0:=Om;have b2:¬((n.arcs[k]).src:Int)>=n.nodes:=Om;have l:¬((n.arcs[k]).dst:Int)<0:=Om;have u:¬((n.arcs[k]).dst:Int)>=n.nodes:=Om;have w:¬((n.arcs[k]).cap:Int)<0:=Om;have x:¬((n.arcs[k]).cap:Int)>2147483647:=Om;simp only[go_sem,e,Kp hlt];refine aS λp hp=>?_;simp only[go_sem,b1,b2,l,u,w,x,wZz k];exact aE (k+1) hlt Om Lq a_;have e:¬(k:Int)<(Z' n.arcs:Nat):=Om;simp only[go_sem,e];refine dN (.inr rfl) Ev ?_;rfl
abbrev dM:=Nat × Bool
def noA:dV:=⟨0,0,0⟩
def cZ(n:dP)(i:Nat):dV:=n.arcs.getD i noA
def jR(n:dP)(s:dM):Nat:=if s.2=true then(cZ n s.1).dst else(cZ n s.1).src
def eY(n:dP)(s:dM):Nat:=if s.2=true then(cZ n s.1).src else(cZ n s.1).dst
def iG(n:dP)(xs:N_)(s:dM):Nat:=if s.2=true then(cZ n s.1).cap-xs.getD s.1 0 else xs.getD s.1 0
structure uD(n:dP)(xs:N_)(Q:N_)(way:Nat->dM):Prop where
 first:∃t,Q=n.source::t
 nd:Q.Nodup
 lt:∀v∈Q,v<n.nodes
 way:∀v∈Q,v≠n.source->(way v).1<Z' n.arcs/\jR n (way v)=v/\0<iG n xs (way v)/\eY n (way v)∈Q/\Q.idxOf (eY n (way v))<Q.idxOf v
def NG(n:dP)(xs:N_)(Q:N_)(k:Nat):Prop:=∀v∈Q.take k,∀s:dM,s.1<Z' n.arcs->eY n s=v->0<iG n xs s->jR n s∈Q
theorem xI{n:dP}{i:Nat}{a:dV}(h:n.arcs[i]?=some a):cZ n i=a:=by unfold cZ;rw[avI,h];rfl
theorem aaW{n:dP}(E:lF n){xs:N_}(y:mM n xs){Q:N_}{way:Nat->dM}(A:uD n xs Q way)(hD:NG n xs Q Q.length)(F:n.sink ∉ Q):uX n xs=mI (λv=>Q.contains v) n.arcs:=by
 obtain⟨t,J⟩:=A.first;refine y.full E (by rw[J];simp) (by simpa using F) λi a x e w=>⟨λl u=>?_,λl u=>?_⟩;have hi:=(awD.1 e).1;have l:a.src∈Q:=by simpa using l
 have u:a.dst ∉ Q:=by simpa using u
 have B:=y.le i a x e w;rcases avX x a.cap with c|c
 refine absurd (hD a.src (by rw[avW];exact l) (i,true) hi ?_ ?_) ?_;unfold eY;rw[aF rfl,xI e];unfold iG;rw[aF rfl,xI e,avI,w];simp only[axK];omega;unfold jR;rw[aF rfl,xI e];exact u;omega;have hi:=(awD.1 e).1;have l:a.src ∉ Q:=by simpa using l
 have u:a.dst∈Q:=by simpa using u
 rcases axJ x with c|c
 exact c;refine absurd (hD a.dst (by rw[avW];exact u) (i,false) hi ?_ ?_) ?_;unfold eY;rw[aC (show ¬(false=true) by decide),xI e];unfold iG;rw[aC (show ¬(false=true) by decide),avI,w];exact c;unfold jR;rw[aC (show ¬(false=true) by decide),xI e];exact l
inductive AG (n:dP) (Q:N_) (way:Nat->dM):Nat->List dM->Prop
 |nil:AG n Q way n.source []
 |cons {v:Nat} {L:List dM} (hv:v∈Q) (hne:v≠n.source) (h:AG n Q way (eY n (way v)) L):AG n Q way v (way v::L)
theorem R5{n:dP}{xs Q:N_}{way:Nat->dM}(w:uD n xs Q way):∀(m v:Nat),Q.idxOf v=m->v∈Q->∃L,AG n Q way v L/\Z' L<=m:=by
 intro m
 induction m using Nat.strongRecOn with
 |ind m x =>intro v F i;by_cases e:v=n.source;subst e;exact⟨[],.nil,auY _⟩;obtain⟨y,A,B,l,h5⟩:=w.way v i e;obtain⟨L,u,E⟩:=x _ Om (eY n (way v)) rfl l;exact⟨way v::L,.cons i e u,by simp;omega⟩
theorem AG.arM{n:dP}{xs Q:N_}{way:Nat->dM}(x:uD n xs Q way):∀{v:Nat}{L:List dM},AG n Q way v L->v∈Q->∀s∈L,s.1<Z' n.arcs/\0<iG n xs s/\Q.idxOf (eY n s)<Q.idxOf (jR n s)/\Q.idxOf (jR n s)<=Q.idxOf v:=by
 intro v L h
 induction h with
 |nil=>intro _ s hs;cases hs
 |@cons v L y e h A=>
  intro _ s hs;obtain⟨l,i,u,w,h5⟩:=x.way v y e;rcases avL.1 hs with rfl|hs
  exact⟨l,u,by rw[i];exact h5,by rw[i];exact avD _⟩;obtain⟨g1,g2,g3,g4⟩:=A w s hs;exact⟨g1,g2,g3,by omega⟩
theorem AG.apart{n:dP}{xs Q:N_}{way:Nat->dM}(w:uD n xs Q way){v:Nat}{s:dM}{L:List dM}(h:AG n Q way v (s::L))(B:v∈Q):∀s'∈L,s'.1≠s.1:=by
 intro s' u e;cases h with
 |cons _ l h=>
  obtain⟨E,y,F,A,h5⟩:=w.way v B l;obtain⟨g1,g2,g3,g4⟩:=h.arM w A s' u;have x:Q.idxOf (eY n (way v))<Q.idxOf (jR n (way v)):=by rw[y];exact h5
  unfold jR eY at x g3 g4;rw[e]at g3 g4;have J:=g4;cases hb:(way v).2<;>cases i:s'.2<;>simp only[hb,i,axH,if_true,if_false]at x g3 g4<;>omega
def push(e:Nat)(ys:N_)(s:dM):N_:=ys.set s.1 (if s.2=true then ys.getD s.1 0+e else ys.getD s.1 0-e)
theorem Z5(e:Nat)(ys:N_)(s:dM):(push e ys s).length=Z' ys:=by unfold push;rw[awS]
structure lj(n:dP)(xs ys:N_)(amt v:Nat)(L:List dM):Prop where
 len:Z' ys=Z' n.arcs
 le:∀(i:Nat) a x,n.arcs[i]?=some a->ys[i]?=some x->x<=a.cap
 net:∀w,oL n.arcs ys w=oL n.arcs xs w-(if w=n.sink then(amt:Int)else 0)+(if w=v then(amt:Int)else 0)
 same:∀s∈L,ys.getD s.1 0=xs.getD s.1 0
theorem T0{n:dP}{xs:N_}(i:mM n xs)(e:Nat)(L:List dM):lj n xs xs e n.sink L:=⟨i.len,i.le,λw=>by split<;>omega,λ_ _=>rfl⟩
theorem Zd{n:dP}{xs ys Q:N_}{way:Nat->dM}(S:uD n xs Q way){l v:Nat}{s:dM}{L:List dM}(u:lj n xs ys l v (s::L))(hB:AG n Q way v (s::L))(V:v∈Q)(F:l<=iG n xs s) :
  eY n s∈Q/\AG n Q way (eY n s) L/\lj n xs (push l ys s) l (eY n s) L:=by
 have N:=hB.apart S V;cases hB with
 |cons _ O hB=>
  obtain⟨R,E,X,W,h5⟩:=S.way v V O;generalize way v=s at *
  have y:n.arcs[s.1]?=some (cZ n s.1):=by unfold cZ;rw[avI,avF R];rfl
  have K:s.1<Z' ys:=by rw[u.len];exact R
  have J:ys[s.1]?=some (ys.getD s.1 0):=by rw[avI,avF K];rfl
  have A:=u.same s aZ;have U:=u.le _ _ _ y J;unfold iG at F;rw[<-A]at F;refine⟨W,hB,by rw[Z5];exact u.len,λi a x hi B=>?_,λw=>?_,λs' M=>?_⟩;unfold push at B;by_cases e:i=s.1
  ·subst e;rw[List.getElem?_set_self K]at B;rw[y]at hi;cases hi;simp only[awV.injEq]at B;subst B;cases hb:s.2 with
   |true=>rw[hb,aF rfl]at F;rw[aF rfl];omega
   |false=>rw[aC aU];omega
  rw[List.getElem?_set_ne (λh=>e h.symm)]at B;exact u.le i a x hi B
  ·unfold push;rw[Lp _ y J,u.net];unfold jR at E;unfold eY;cases hb:s.2 with
   |true =>rw[hb,aF rfl]at F E;simp only[if_true];rw[E];split<;>split<;>split<;>split<;>omega
   |false =>rw[hb,aC aU]at F E;simp only[axH,if_false];rw[E];split<;>split<;>split<;>split<;>omega
  unfold push;have:=N s' M;rw[avI,List.getElem?_set_ne (λh=>this h.symm),<-avI];exact u.same s' (ayT _ M)
theorem Zc{n:dP}(x:lF n){xs ys:N_}(w:mM n xs){e:Nat}{L:List dM}(i:lj n xs ys e n.source L):mM n ys/\uX n ys=uX n xs+e:=by
 refine⟨⟨i.len,i.le,λv y l u=>?_⟩,?_⟩;rw[i.net,w.node v y l u,aC u,aC l];rfl;unfold uX;rw[i.net,aC x.apart,aF rfl];omega
abbrev jC(xs:N_):P2_:=xs.map λx=>[PV.int .i64 ((x:Nat):Int)]
theorem mT{xs:N_}{i:Nat}(h:i<Z' xs):(jC xs)[i]?=some [.j ((xs.getD i 0:Nat):Int)]:=by
 rw[avO,avF h,avI,avF h];rfl
def stI(s:dM):Int:=if s.2=true then(s.1:Int)else -1-(s.1:Int)
structure BW(n:dP)(xs:N_):Prop where
 len:Z' xs=Z' n.arcs
 le:∀i,i<Z' n.arcs->xs.getD i 0<=(cZ n i).cap
theorem tD{n:dP}{i:Nat}(h:i<Z' n.arcs):n.arcs[i]=cZ n i:=(xI (avF h)).symm
theorem qN{n:dP}{i:Nat}(h:i<Z' n.arcs):(n.arcs.map dV.cells)[i]?=some (cZ n i).cells:=by rw[Kp h,tD h]
def IC(way:Nat->dM)(v:Nat)(s:dM):Nat->dM:=λw=>if w=v then s else way w
theorem Ql{n:dP}(l:lF n)(xs:N_)(way:Nat->dM):uD n xs [n.source] way:=by
 refine⟨⟨[],rfl⟩,by simp,λv e=>?_,λv e i=>?_⟩;rw[awL]at e;subst e;exact l.source;exact absurd (awL.1 e) i
theorem ga{Q:N_}{v a:Nat}(h:v∈Q):(Q++[a]).idxOf v=Q.idxOf v:=by
 rw[List.idxOf_append,aF h]
theorem Vq{n:dP}(O:lF n){xs Q:N_}{way:Nat->dM}(i:uD n xs Q way){s:dM}(w:s.1<Z' n.arcs)(l:eY n s∈Q)(x:jR n s ∉ Q)(R:0<iG n xs s) :
  uD n xs (Q++[jR n s]) (IC way (jR n s) s):=by
 obtain⟨t,M⟩:=i.first;have y:jR n s<n.nodes:=by have:=O.ends _ (avB w);rw[show n.arcs[s.1]=cZ n s.1 from(xI (avF w)).symm]at this;unfold jR;split<;>omega
 refine⟨⟨t++[jR n s],by rw[M];rfl⟩,?_,λv A=>?_,λv A u=>?_⟩;rw[ayC];refine⟨i.nd,by simp,λa N b hb=>?_⟩;rw[awL]at hb;subst hb;rintro rfl;exact x N;rcases awH.1 A with h|h
 exact i.lt v h;rw[awL]at h;subst h;exact y;rcases awH.1 A with h|h
 have B:v≠jR n s:=λe=>x (e ▸ h);obtain⟨E,J,K,F,h5⟩:=i.way v h u;unfold IC;rw[aC B];exact⟨E,J,K,List.mem_append_left _ F,by rw[ga F,ga h];exact h5⟩;rw[awL]at h;subst h;unfold IC;rw[aF rfl];refine⟨w,rfl,R,List.mem_append_left _ l,?_⟩;rw[ga l];have E:=List.idxOf_lt_length_of_mem l;rw[List.idxOf_append,aC x];omega
theorem Fp:∀(n:Nat)(Q:N_),Q.Nodup->(∀v∈Q,v<n)->Z' Q<=n
 |0,[],_,_=>avD _
 |0,v::Q,_,h=>absurd (h v aZ) Om
 |n+1,Q,l,h=>by
  by_cases e:n∈Q;have u:=Fp n (Q.erase n) (l.erase n) λv i=>by have w:=(l.mem_erase_iff).1 i;have:=h v w.2;omega
  rw[List.length_erase_of_mem e]at u;omega;have u:=Fp n Q l λv i=>by have:=h v i;have:v≠n:=λe2=>e (e2 ▸ i);omega
  omega
theorem jx{n:dP}{xs Q:N_}{way:Nat->dM}(e:uD n xs Q way):Z' Q<=n.nodes:=Fp _ _ e.nd e.lt
theorem Sp(n:dP)(xs Q:N_):NG n xs Q 0:=λv e=>by simp at e
theorem Sn{n:dP}{xs Q:N_}{k:Nat}(h:NG n xs Q k)(w:k<=Z' Q)(a:Nat):NG n xs (Q++[a]) k:=λv e s i l u=>by
 rw[List.take_append_of_le_length w]at e;exact List.mem_append_left _ (h v e s i l u)
theorem So{n:dP}{xs Q:N_}{k v:Nat}(h:NG n xs Q k)(B:Q[k]?=some v)(i:∀s:dM,s.1<Z' n.arcs->eY n s=v->0<iG n xs s->jR n s∈Q):NG n xs Q (k+1):=λw y s l u x=>by
 obtain⟨A,e⟩:=awD.1 B;rw[awP A,e]at y;rcases awH.1 y with g|g
 exact h w g s l u x;rw[awL]at g;subst g;exact i s l u x
structure amR(n:dP)(outL:L2_):Prop where
 len:Z' outL=n.nodes
 all:∀s:dM,s.1<Z' n.arcs->stI s∈outL.getD (eY n s) []
 only:∀v c,c∈outL.getD v []->∃s:dM,s.1<Z' n.arcs/\eY n s=v/\c=stI s
 few:∀v,(outL.getD v []).length<=1000000
def byL(cd:dM->Int)(n:dP)(Q:N_)(way:Nat->dM):I_:=(auX n.nodes).map λv=>if v∈Q/\v≠n.source then cd (way v)else 0
def seL(n:dP)(Q:N_):List Bool:=(auX n.nodes).map λv=>Q.contains v
theorem pU{α:Type}(g h:Nat->α)(N t:Nat)(x:α)(w:h t=x)(u:∀v,v≠t->h v=g v):((auX N).map g).set t x=(auX N).map h:=by
 refine List.ext_getElem? λi=>?_;rw[ayZ,auW,List.length_range,avO,avO];by_cases e:t=i;subst e;rw[aF rfl];by_cases l:t<N;rw[aF l,axO l,<-w];rfl;rw[aC l,awN (by simpa using l)];rfl;rw[aC e];by_cases l:i<N;rw[axO l,avS,avS,u i λe2=>e e2.symm];rw[awN (by simpa using l)];rfl
theorem Kt{cd:dM->Int}{n:dP}{Q:N_}{way:Nat->dM}{t:Nat}{s:dM}(l:n.source∈Q)(u:t ∉ Q):(byL cd n Q way).set t (cd s)=byL cd n (Q++[t]) (IC way t s):=by
 refine pU _ _ _ _ _ ?_ λv i=>?_;have:t≠n.source:=λe=>u (e ▸ l);rw[aF ⟨by simp,this⟩,IC,aF rfl];rw[IC,aC i];have:(v∈Q++[t])↔v∈Q:=by simp[i]
 simp only[this]
theorem Me(n:dP)(Q:N_)(t:Nat):(seL n Q).set t true=seL n (Q++[t]):=by
 refine pU _ _ _ _ _ ?_ λv e=>?_;simp;simp[e]
theorem Xa(cd:dM->Int)(n:dP)(way:Nat->dM):avA n.nodes [PV.int .i64 0]=aT (byL cd n [n.source] way):=by
 refine List.ext_getElem? λi=>?_;unfold aT byL;rw[List.getElem?_replicate,avO,avO];by_cases l:i<n.nodes;rw[aF l,axO l,avS,avS,aC aZ];rw[aC l,awN (by simpa using l)];rfl
theorem aaU(n:dP):(avA n.nodes [PV.bool false]).set n.source [PV.bool true]=dW (seL n [n.source]):=by
 have w:avA n.nodes [PV.bool false]=(auX n.nodes).map λ_=>[PV.bool false]:=by refine List.ext_getElem? λi=>?_;rw[List.getElem?_replicate,avO];by_cases l:i<n.nodes;rw[aF l,axO l];rfl;rw[aC l,awN (by simpa using l)];rfl
 have u:[n.source].contains n.source=true:=by simp
 have e2:∀v,v≠n.source->[n.source].contains v=false:=by intro v e;simp[e]
 have x:=pU (λ_=>[PV.bool false]) (λv=>[PV.bool ([n.source].contains v)]) n.nodes n.source [PV.bool true] (by rw[u]) (λv e=>by rw[e2 v e]);rw[w,x];unfold dW seL;rw[ayD];rfl
theorem u7(cd:dM->Int)(n:dP)(Q:N_)(way:Nat->dM):(byL cd n Q way).length=n.nodes:=by simp[byL]
theorem ZJ(n:dP)(Q:N_):(seL n Q).length=n.nodes:=by simp[seL]
theorem xc{n:dP}{Q:N_}{v:Nat}(h:v<n.nodes):(seL n Q).getD v false=Q.contains v:=by
 unfold seL;rw[avI,avO,axO h];rfl
structure RS where
 Q:N_
 k:Nat
 way:Nat->dM
 v:PV
 q:Nat
 H:PH
 d:Nat
structure rD(n:dP)(xs:N_)(X:PH)(cd:dM->Int)(b e:Nat)(a:RS):Prop where
 seen:uD n xs a.Q a.way
 done:NG n xs a.Q a.d
 dk:a.d<=a.k
 k:a.k<=Z' a.Q
 base:X.le a.H
 hb:a.H b=some (.rows 1 (aT (byL cd n a.Q a.way)))
 he:a.H e=some (.rows 1 (dW (seL n a.Q)))
 hq:vD a.H 1 a.q a.v (jC (a.Q.drop a.k))
 ne:X a.q=none/\a.q≠b/\a.q≠e
theorem EE{X H:PH}{o:Nat}{y:aV}(h:X.le H)(i:X o=none):X.le (H.set o y):=λq x hq=>by
 rw[aP,aC (λe=>by subst e;rw[i]at hq;cases hq)];exact h q x hq
theorem rD.step{n:dP}(U:lF n){xs:N_}{X:PH}{cd:dM->Int}{b e:Nat}{a:RS}(h:rD n xs X cd b e a)(hd:X b=none/\X e=none/\¬b=e){s:dM}(hs:s.1<Z' n.arcs)(hf:eY n s∈a.Q)(ht:jR n s ∉ a.Q)(hr:0<iG n xs s)
  {K:R_} (hK:∀u:RS,rD n xs X cd b e u->u.Q=a.Q++[jR n s]->u.k=a.k->u.d=a.d->K u.v u.H) :
  kJ ((a.H.set e (.rows 1 (dW (seL n (a.Q++[jR n s]))))).set b (.rows 1 (aT (byL cd n (a.Q++[jR n s]) (IC a.way (jR n s) s))))) 1 8 a.v (.sl 1 [[.j ((jR n s:Nat):Int)]]) K:=by
 obtain⟨W,Y,Z⟩:=hd;obtain⟨V,N,O⟩:=h.ne;have R:=Vq U h.seen hs hf ht hr;have w:=jx R;rw[auZ,avG]at w;have S:=U.few;have hq:vD ((a.H.set e (.rows 1 (dW (seL n (a.Q++[jR n s]))))).set b (.rows 1 (aT (byL cd n (a.Q++[jR n s]) (IC a.way (jR n s) s))))) 1 a.q a.v (jC (a.Q.drop a.k)):=h.hq.ext λx i=>by rw[aP,aC N,aP,aC O];exact i
 refine hq.append (src:=[[.j ((jR n s:Nat):Int)]]) rfl ?_ λy v' H' g1 g2 g3 g4=>?_;unfold roomFor;rw[auW,awZ,avG];simp only[maxLen];omega;have J:∀o x,o≠a.q->a.H o=some x->o≠b->o≠e->H' o=some x:=λo x hq M hb he=>g3 o x hq (by rw[aP,aC hb,aP,aC he];exact M);have F:jC (a.Q.drop a.k)++[[PV.int .i64 ((jR n s:Nat):Int)]]=jC ((a.Q++[jR n s]).drop a.k):=by rw[List.drop_append_of_le_length h.k,show ∀A B:N_,jC (A++B)=jC A++jC B from λA B=>avU];rfl
 rw[F]at g1;have l:∀o x,a.H o=some x->o≠a.q->y≠o:=λo x M hq e2=>by
  subst e2;rcases g2 with g|g
  exact hq g;rw[aP]at g;split at g;cases g;rw[aP]at g;split at g;cases g;rw[M]at g;cases g
 have E:X y=none:=by
  cases i:X y with
  |none=>rfl
  |some x=>exact absurd rfl (l y x (h.base _ _ i) λe2=>by rw[e2,V]at i;cases i)
 refine hK ⟨a.Q++[jR n s],a.k,IC a.way (jR n s) s,v',y,H',a.d⟩ ⟨R,Sn h.done (avZ h.dk h.k) _,h.dk,?_,λo x i=>J o x (λe2=>by rw[e2,V]at i;cases i) (h.base _ _ i) (λe2=>by rw[e2,W]at i;cases i) (λe2=>by rw[e2,Y]at i;cases i),?_,?_,g1,?_⟩ rfl rfl rfl;have:=h.k;show a.k<=(a.Q++[jR n s]).length;rw[auZ];omega;exact g3 b _ N.symm (by rw[cE]);exact g3 e _ O.symm (by rw[aP,aC (λe2=>Z e2.symm),cE]);exact⟨E,l _ _ h.hb N.symm,l _ _ h.he O.symm⟩
theorem fk{H:PH}{o q s:Nat}{rs:P2_}{x:aV}(h:H o=some x)(e:¬o=q)(i:aV.frz q s rs x=x):(H.frz q s rs) o=some x:=by
 show(if o=q then none else(H o).map (aV.frz q s rs))=some x;rw[aC e,h,avS,i]
theorem fj{q s:Nat}{rs r:P2_}(h:Flat r)(z:Nat):aV.frz q s rs (.rows z r)=.rows z r:=by
 show aV.rows z (r.map λc=>c.map (PV.dL q s rs))=_;rw[h]
theorem S5{H H2:PH}{b e m:Nat}{i l:P2_}{R:R_}(hb:H b=some (.rows 1 i))(he:H e=some (.rows 1 l))(u:¬e=b)(x:Flat l)(A:Z' i=m)(le:Z' l=m)
  (w:H2.le ((H.frz b 1 i).frz e 1 l)) (y:R (.tup [.sl 1 i,.sl 1 l]) H2):yS (.tup [.osl b 1 0 m,.osl e 1 0 m]) H R:=by
 have B:PV.frz b 1 i (.tup [.osl b 1 0 m,.osl e 1 0 m])=.tup [.sl 1 i,.osl e 1 0 m]:=by simp[PV.frz,PV.qR,PV.dL,u,<-A]
 have E:PV.frz e 1 l (.tup [.sl 1 i,.osl e 1 0 m])=.tup [.sl 1 i,.sl 1 l]:=by simp[PV.frz,PV.qR,PV.dL,<-le]
 refine .step hb ?_;rw[B];refine .step (fk he u (fj x 1)) ?_;rw[E];exact .done y w
theorem rE.at{u:P2_}{l:L2_}(h:rE u l){i:Nat}(hi:i<Z' l):∃lv,u[i]?=some [lv]/\(lv=ints (l.getD i [])\/(lv=.aJ/\l.getD i []=[])):=by
 have w:i<Z' u:=by rw[h.1];exact hi
 have x:l.getD i []=l[i]:=by rw[avI,avF hi];rfl
 rw[x];rcases h.2 i u[i] l[i] (avF w) (avF hi)with e|⟨e,e2⟩
 exact⟨_,by rw[avF w,e],.inl rfl⟩;exact⟨_,by rw[avF w,e],.inr ⟨rfl,e2⟩⟩
theorem room_le{n:dP}(l:lF n){xs:N_}(u:BW n xs){s:dM}(e:s.1<Z' n.arcs):iG n xs s<=2147483647:=by
 have i:=(l.ends _ (avB e)).2.2;rw[tD e]at i;have w:=u.le _ e;unfold iG;split<;>omega
theorem zm(xs:N_)(i x:Nat):(jC xs).set i [.j (x:Nat)]=jC (xs.set i x):=by
 exact(ayE ..).symm
theorem mM.in{n:dP}{xs:N_}(h:mM n xs):BW n xs:=⟨h.len,λi hi=>by
 have e:i<Z' xs:=by rw[h.len];exact hi
 have:=h.le i n.arcs[i] xs[i] (avF hi) (avF e);rw[tD hi]at this;rw[avI,avF e];exact this⟩
theorem yz:∀{l:List dV}{xs:N_}(a:dV)(x w:Nat),Z' l=Z' xs->oL (l++[a]) (xs++[x]) w=oL l xs w+(if a.src=w then(x:Int)else 0)-(if a.dst=w then(x:Int)else 0)
 |[],[],a,x,w,_=>by show(if a.src=w then(x:Int)else 0)-(if a.dst=w then(x:Int)else 0)+0=0+(if a.src=w then(x:Int)else 0)-(if a.dst=w then(x:Int)else 0);omega
 |b::l,y::xs,a,x,w,h=>by rw[ayQ,ayQ,oL,oL,yz (l:=l) (xs:=xs) a x w (by simpa using h)];omega
def sH(n:dP)(xs:N_)(k w:Nat):Int:=oL (n.arcs.take k) (xs.take k) w
def HK(n:dP)(xs:N_)(k:Nat):I_:=(auX n.nodes).map (sH n xs k)
theorem y6{n:dP}{xs:N_}(l:BW n xs){k:Nat}(i:k<Z' n.arcs)(w:Nat):sH n xs (k+1) w=sH n xs k w+(if(cZ n k).src=w then((xs.getD k 0:Nat):Int)else 0)-(if(cZ n k).dst=w then((xs.getD k 0:Nat):Int)else 0):=by
 have e:k<Z' xs:=by rw[l.len];exact i
 unfold sH;rw[awP i,awP e,yz _ _ _ (by rw[avN,avN,l.len]),tD i];rw[avI,avF e];rfl
theorem QD{n:dP}(l:lF n){xs:N_}(i:BW n xs)(w:Nat):∀(k:Nat),k<=Z' n.arcs->-((k:Int)*2147483647)<=sH n xs k w/\sH n xs k w<=(k:Int)*2147483647
 |0,_=>by have:sH n xs 0 w=0:=rfl;omega
 |k+1,h=>by have x:=QD l i w k Om;have e:k<Z' n.arcs:=Om;have y:=i.le k e;have u:=(l.ends _ (avB e)).2.2;rw[tD e]at u;rw[y6 i e w];split<;>split<;>omega
theorem Uq(hc:∀n:dP,lF n->aH C 299 [.agg n.cells] .nil (aL (.bool true)))(n:dP)(O:lF n)(xs:N_)(hF:mM n xs) :
  ch.wp C (aW qq.res (aL (.tup [.j (uX n xs),.bool true]))) (g_ [.agg n.cells,.sl 1 (jC xs)]) .nil:=by
 have R:=hF.in;have σ:=O.few;have hk:=O.num;have γ:(n.nodes:Int)*((8:Nat):Int)<=140737488355328:=Om;have δ:(n.nodes:Int)<=9223372036854775807:=Om;have hl:(Z' xs:Int)=(Z' n.arcs:Nat):=by have:=R.len;omega
 have hz:avA n.nodes [PV.int .i64 0]=aT (HK n xs 0):=by refine List.ext_getElem? λi=>?_;unfold aT HK;rw[List.getElem?_replicate,avO,avO];by_cases l:i<n.nodes;rw[aF l,axO l];rfl;rw[aC l,awN (by simpa using l)];rfl
 simp only[go_sem,ch,qq];refine aB (hc n O) rfl ?_;simp only[go_sem,auW,cF hl,γ,δ];refine aS λb hb=>?_;simp only[go_sem];rw[hz];refine wp_loop (α:=Nat) (λk=>((((n_.set 1 (.sl 1 (jC xs))).set 2 (.aX n.cells)).set 6 (.osl b 1 0 n.nodes)).set 7 (.j (k:Nat)))) (λk=>h_.set b (.rows 1 (aT (HK n xs k)))) (λk=>k<=Z' n.arcs) (λk=>Z' n.arcs-k) 0 (auY _) Lq (λ_ _ h=>h) ?_;intro k S;simp only[go_sem,auW];by_cases hlt:k<Z' n.arcs;have U:k<Z' xs:=by rw[R.len];exact hlt
 have F:(k:Int)<(Z' xs:Nat):=Om;obtain⟨e1,e2,e3⟩:=O.ends _ (avB hlt);rw[tD hlt]at e1 e2 e3;have η:=R.le k hlt;have V:¬((xs.getD k 0:Nat):Int)<0:=Om;have W:¬((xs.getD k 0:Nat):Int)>((cZ n k).cap:Int):=Om;have X:(((cZ n k).src:Nat):Int)<(n.nodes:Nat):=Om;have Y:(((cZ n k).dst:Nat):Int)<(n.nodes:Nat):=Om;simp only[go_sem,F,qN hlt];refine aS λp hp=>?_;have J:¬p=b:=λe=>by rw[e,cE]at hp;cases hp
 have A:¬b=p:=λe=>J e.symm;simp only[go_sem,J,A];refine bK .nil cS a_ ?_;simp only[go_sem,J,A,mT U,V,W];obtain⟨r1,r2⟩:=QD O R (cZ n k).src k S;obtain⟨r3,r4⟩:=QD O R (cZ n k).dst k S;have K:=y6 R hlt;have ρ:=η;generalize ξ:xs.getD k 0=x at *
 generalize ο:cZ n k=a at *
 have B:∀(g:Nat->Int)(t:Nat),t<n.nodes->(aT ((auX n.nodes).map g))[t]?=some [.j (g t)]:=λg t ht=>by unfold aT;rw[avO,avO,axO ht];rfl
 let g1:Nat->Int:=λw=>sH n xs k w+(if a.src=w then(x:Int)else 0)
 have ε:g1 a.src=sH n xs k a.src+x:=by show _+(if a.src=a.src then(x:Int)else 0)=_;rw[aF rfl]
 have ι:(aT (HK n xs k)).set a.src [.j (sH n xs k a.src+x)]=aT ((auX n.nodes).map g1):=by rw[mG];unfold HK;rw[pU (sH n xs k) g1 n.nodes a.src _ ε λv hv=>by show _+(if a.src=v then(x:Int)else 0)=_;rw[aC λe=>hv e.symm,Int.add_zero]]
 have κ:(aT ((auX n.nodes).map g1)).set a.dst [.j (g1 a.dst-x)]=aT (HK n xs (k+1)):=by rw[mG];unfold HK;rw[pU g1 (sH n xs (k+1)) n.nodes a.dst (g1 a.dst-x) (by rw[K,aF rfl]) λv hv=>by rw[K,aC (c:=a.dst=v) (λe=>hv e.symm),Int.sub_zero]]
 have Z:(aT (HK n xs k))[a.src]?=some [.j (sH n xs k a.src)]:=B _ _ e1;have β:(aT ((auX n.nodes).map g1))[a.dst]?=some [.j (g1 a.dst)]:=B _ _ e2;have τ:g1 a.dst=sH n xs k a.dst\/g1 a.dst=sH n xs k a.dst+x:=by show _+(if a.src=a.dst then(x:Int)else 0)=_\/_+(if a.src=a.dst then(x:Int)else 0)=_;split;exact .inr rfl;exact .inl (Int.add_zero _)
 have μ:i_.wrap (sH n xs k a.src+(x:Int))=sH n xs k a.src+x:=wrap_i64 Om Om;have ν:i_.wrap (g1 a.dst-(x:Int))=g1 a.dst-x:=wrap_i64 Om Om;have E:=wZz k;have M:=mT U;rw[ξ]at M;generalize g1=g2 at *
 refine bK .nil cS a_ ?_;simp only[go_sem,J,A,X,avK,Z,M,μ,ι];refine⟨a_,?_⟩;refine bK .nil cS a_ ?_;simp only[go_sem,J,A,Y,avK,β,M,ν,κ];refine⟨a_,?_⟩;simp only[go_sem,E];exact aE (k+1) hlt Om Lq (e_ a_ (by rw[cE]));have F:¬(k:Int)<(Z' xs:Nat):=Om;have ζ:k=Z' n.arcs:=Om;subst ζ;simp only[go_sem,F];have N:∀w,sH n xs n.arcs.length w=oL n.arcs xs w:=λw=>by unfold sH;rw[avT (avD _),avT (by rw[R.len];exact avD _)]
 have B:∀t,t<n.nodes->(aT (HK n xs n.arcs.length))[t]?=some [.j (oL n.arcs xs t)]:=λt ht=>by unfold aT HK;rw[avO,avO,axO ht,<-N];rfl
 refine wp_loop (α:=Nat) (λi=>((((n_.set 1 (.sl 1 (jC xs))).set 2 (.aX n.cells)).set 6 (.osl b 1 0 n.nodes)).set 9 (.j (i:Nat)))) (λ_=>h_.set b (.rows 1 (aT (HK n xs n.arcs.length)))) (λi=>i<=n.nodes) (λi=>n.nodes-i) 0 (auY _) Lq (λ_ _ h=>h) ?_;intro i hi;simp only[go_sem];by_cases y:i<n.nodes;have u:(i:Int)<(n.nodes:Nat):=Om;have E:=wZz i;by_cases V:i=n.source;simp only[go_sem,u,cF (Om:((i:Nat):Int)=n.source),E];exact aE (i+1) y Om Lq (λ_ _ h=>h);by_cases W:i=n.sink;simp only[go_sem,u,cY (Om:¬((i:Nat):Int)=n.source),cF (Om:((i:Nat):Int)=n.sink),E];exact aE (i+1) y Om Lq (λ_ _ h=>h);have h0:=B i y;rw[hF.node i y V W]at h0;simp only[go_sem,u,cY (Om:¬((i:Nat):Int)=n.source),cY (Om:¬((i:Nat):Int)=n.sink),avK,h0,E];exact aE (i+1) y Om Lq (λ_ _ h=>h);have u:¬(i:Int)<(n.nodes:Nat):=Om;have hs:=O.source;have θ:(n.source:Int)<(n.nodes:Nat):=Om;simp only[go_sem,u,θ,avK,B n.source hs];refine cL ?_;rfl
theorem wp_cut{a c:aI}{K:bZ}[Up K]{F:PF}{H:PH}{α:Type}(w:α->PF)(Hs:α->PH)(P:α->Prop)(y:a.wp C (λe u H'=>e=.normal/\∃x,P x/\(w x).le u/\Hs x=H') F H)
  (A:∀x,P x->c.wp C K (w x) (Hs x)):a.wp C (fZ C (c.wp C) K) F H:=by
 refine sT a (λe J M H' l E=>?_) (λi v h=>h) y;obtain⟨rfl,x,hp,B,rfl⟩:=E;exact sT c (λe F u H a h=>Up.up a h) (PF.le_trans B l) (A x hp)
def stO(m:Nat)(s:dM):Int:=if s.2=true then(s.1:Int)else((m+s.1:Nat):Int)
abbrev oX(fo:Nat)(xs:N_):PH:=h_.set fo (.rows 1 (jC xs))
def Rx(n:dP)(fo:Nat)(xs:N_)(r:PV)(H:PH):Prop:=
 ∃Q way,uD n xs Q way/\NG n xs Q Q.length/\r=.tup [.sl 1 (dW (seL n Q)),ints (byL (stO n.arcs.length) n Q way)]/\H=oX fo xs
theorem rD.new{n:dP}{xs:N_}{X:PH}{cd:dM->Int}{b e:Nat}{a:RS}(h:rD n xs X cd b e a){p:Nat}(hp:a.H p=none)(y:aV):rD n xs X cd b e { a with H:=a.H.set p y }:=by
 have l:∀o x,a.H o=some x->(a.H.set p y) o=some x:=λo x i=>by rw[aP,aC (λe2=>by subst e2;rw[hp]at i;cases i)];exact i
 exact⟨h.seen,h.done,h.dk,h.k,λo x i=>l o x (h.base o x i),l _ _ h.hb,l _ _ h.he,h.hq.ext λx u=>l _ x u,h.ne⟩
theorem rD.box{n:dP}{xs:N_}{X:PH}{cd:dM->Int}{b e:Nat}{a:RS}(h:rD n xs X cd b e a){p:Nat}(hp:a.H p=none)(y:aV):rD n xs (X.set p y) cd b e { a with H:=a.H.set p y }:=by
 have l:∀o x,a.H o=some x->(a.H.set p y) o=some x:=λo x i=>by rw[aP,aC (λe2=>by subst e2;rw[hp]at i;cases i)];exact i
 have hq:a.q≠p:=λe2=>by obtain⟨rs,off,_,u,_⟩:=h.hq;rw[e2,hp]at u;cases u
 refine⟨h.seen,h.done,h.dk,h.k,λo x i=>?_,l _ _ h.hb,l _ _ h.he,h.hq.ext λx w=>l _ x w,?_,h.ne.2⟩;show(a.H.set p y) o=some x;rw[aP]at i ⊢;by_cases e2:o=p;rw[aF e2]at i ⊢;exact i;rw[aC e2]at i ⊢;exact h.base o x i;rw[aP,aC hq];exact h.ne.1
theorem rD.unbox{n:dP}{xs:N_}{X:PH}{cd:dM->Int}{b e:Nat}{a:RS}{p:Nat}{y:aV}(h:rD n xs (X.set p y) cd b e a)(hp:X p=none):rD n xs X cd b e a:=by
 have l:∀o x,X o=some x->(X.set p y) o=some x:=λo x i=>by rw[aP,aC (λe2=>by subst e2;rw[hp]at i;cases i)];exact i
 refine⟨h.seen,h.done,h.dk,h.k,λo x i=>h.base o x (l o x i),h.hb,h.he,h.hq,?_,h.ne.2⟩;have:=h.ne.1;rw[aP]at this;split at this;cases this;exact this
theorem aiO{a1 a2 c:aI}{K:bZ}[Up K]{F:PF}{H:PH}{α:Type}(i:α->PF)(Hs:α->PH)(P:α->Prop)(u:a1.wp C (fZ C (a2.wp C) (λe l H'=>e=.normal/\∃x,P x/\(i x).le l/\Hs x=H')) F H)
  (w:∀x,P x->c.wp C K (i x) (Hs x)):a1.wp C (fZ C (a2.wp C) (fZ C (c.wp C) K)) F H:=wp_cut (a:=.seq a1 a2) i Hs P u w
theorem Um {C : Ctx} (n : dP) (hn : lF n) (fo : Nat) (xs : N_) (hx : BW n xs) :
    ce.wp C (aW qn.res (Rx n fo xs)) (g_ [.agg n.cells, .osl fo 1 0 xs.length]) (oX fo xs) := by
  have hfew := hn.few;have hsrc := hn.source;have hmany := hn.num;have hb1 : (n.nodes : Int) * ((8 : Nat) : Int) <= 140737488355328 := Om;have hb2 : (n.nodes : Int) <= 9223372036854775807 := Om;have hb3 : (n.nodes : Int) * ((1 : Nat) : Int) <= 140737488355328 := Om;have hs1 : (n.source : Int) < (n.nodes : Nat) := Om;simp only[go_sem,ce,qn];refine bK .nil cS a_ ?_;simp only[go_sem,hb1,hb2,hb3];refine aS fun e he => ?_;have e1 : ¬ fo = e := fun e0 => by rw [<- e0, cE] at he; cases he
  have e1' : ¬ e = fo := fun e0 => e1 e0.symm;simp only[go_sem,hb1,hb2,hb3];refine aS fun b hb => ?_;have b1 : ¬ fo = b := fun e0 => by rw [<- e0, aP, aC e1, cE] at hb; cases hb
  have b2 : ¬ e = b := fun e0 => by rw [<- e0, cE] at hb; cases hb
  have b2' : ¬ b = e := fun e0 => b2 e0.symm;have hXb : (oX fo xs) b = none := by rw [aP, aC b2'] at hb; exact hb
  simp only[go_sem,b2,b2',hs1,List.getElem?_replicate,List.length_replicate,hsrc,avK];refine aS fun q hq => ?_;have q3 : ¬ b = q := fun e0 => by rw [<- e0, aP, aC b2', cE] at hq; cases hq
  have q4 : ¬ e = q := fun e0 => by rw [<- e0, cE] at hq; cases hq
  have hXq : (oX fo xs) q = none := by rw [aP, aC (fun h => q4 h.symm), aP, aC (fun h => q3 h.symm), aP, aC (fun h => q4 h.symm)] at hq; exact hq
  have hfoX : (oX fo xs) fo = some (.rows 1 (jC xs)) := by rw [cE]
  simp only[go_sem];rw [Xa (stO n.arcs.length) n (fun _ => (0, true)), aaU];refine wp_loop (α := RS) (fun a => (((((n_.set 1 (.osl fo 1 0 xs.length)).set 2 (.aX n.cells)).set 6 (.osl e 1 0 n.nodes)).set 7 (.osl b 1 0 n.nodes)).set 8 (a.v))) (fun a => a.H) (fun a => rD n xs (oX fo xs) (stO n.arcs.length) b e a /\ a.d = a.k) (fun a => n.nodes - a.k)
    ⟨[n.source], 0, fun _ => (0, true), .osl q 1 0 1, q, ((((oX fo xs).set e (.rows 1 (avA n.nodes [.bool false]))).set b (.rows 1 (aT (byL (stO n.arcs.length) n [n.source] (fun _ => (0, true)))))).set e (.rows 1 (dW (seL n [n.source])))).set q (.rows 1 [[.j (n.source : Nat)]]), 0⟩
    ⟨⟨Ql hn xs _, Sp n xs _, avD _, auY _, EE (EE (EE (EE (fun _ _ h => h) he) hXb) he) hXq,
      by rw [aP, aC q3, aP, aC b2', cE], by rw [aP, aC q4, cE], ⟨[[.j (n.source : Nat)]], 0, rfl, by rw [cE], by simp, rfl⟩, hXq, fun h => q3 h.symm, fun h => q4 h.symm⟩, rfl⟩ Lq (fun _ _ h => h) ?_
  rintro a ⟨hI, hdk⟩;obtain ⟨rs, off, hv, hq1, hq2, hq3⟩ := hI.hq;rw [auW, awZ] at hv hq2 hq3;simp only[go_sem,hv];by_cases hk : a.k < a.Q.length
  · have c0 : ((a.Q.length - a.k : Nat) : Int) > 0 := Om
    have hc0 : (0 : Int) < ((a.Q.length - a.k : Nat) : Int) := c0;have hc1 : (1 : Int) <= ((a.Q.length - a.k : Nat) : Int) := Om;have hrs : rs[off]? = some [.j ((a.Q[a.k] : Nat) : Int)] := by
      have h5 : ((rs.drop off).take (a.Q.length - a.k))[0]? = (jC (a.Q.drop a.k))[0]? := by rw [hq3]
      rw [ayS, aF Om, ayR, awQ, avO, ayR, awQ, avF hk] at h5;exact h5
    simp only[go_sem,c0,hc0,hq1,awQ,hrs,hc1,Int.le_refl];have hkn := jx hI.seen;have hI0 : rD n xs (oX fo xs) (stO n.arcs.length) b e ⟨a.Q, a.k + 1, a.way, .osl a.q 1 (off + 1) (a.Q.length - a.k - 1), a.q, a.H, a.d⟩ := by
      have hfl : (jC (a.Q.drop (a.k + 1))).length = a.Q.length - a.k - 1 := by rw [auW, awZ, Nat.sub_sub]
      refine ⟨hI.seen, hI.done, Nat.le_succ_of_le hI.dk, hk, hI.base, hI.hb, hI.he, ⟨rs, off + 1, by rw [hfl], hq1, by rw [hfl]; omega, ?_⟩, hI.ne⟩;rw [hfl];have h7 := congrArg (List.drop 1) hq3;rw [List.drop_take, List.drop_drop] at h7;rw [h7];show List.drop 1 (List.map _ _) = _;rw [<- List.map_drop, List.drop_drop]
    refine wp_loop (α := RS × Nat) (fun c => (((((((n_.set 1 (.osl fo 1 0 xs.length)).set 2 (.aX n.cells)).set 6 (.osl e 1 0 n.nodes)).set 7 (.osl b 1 0 n.nodes)).set 8 (c.1.v)).set 9 (.j ((a.Q[a.k] : Nat) : Int))).set 10 (.j (c.2 : Nat)))) (fun c => c.1.H)
      (fun c => rD n xs (oX fo xs) (stO n.arcs.length) b e c.1 /\ c.1.d = a.k /\ c.1.k = a.k + 1 /\ c.1.Q[a.k]? = some a.Q[a.k] /\ c.2 <= n.arcs.length /\ ∀ s : dM, s.1 < c.2 -> eY n s = a.Q[a.k] -> 0 < iG n xs s -> jR n s ∈ c.1.Q) (fun c => n.arcs.length - c.2) (⟨a.Q, a.k + 1, a.way, .osl a.q 1 (off + 1) (a.Q.length - a.k - 1), a.q, a.H, a.d⟩, 0)
      ⟨hI0, hdk, rfl, avF hk, auY _, fun s h => by omega⟩ Lq (fun _ _ h => h) ?_
    rintro ⟨a', j⟩ ⟨hI', hd', hk', hQk, hj, auP⟩;dsimp only at hI' hd' hk' hQk hj auP;simp only[go_sem,auW];by_cases hlt : j < n.arcs.length
    · have atP : (j : Int) < (n.arcs.length : Nat) := Om
      have hjx : j < xs.length := by rw [hx.len]; exact hlt
      have hjx' : (j : Int) < (xs.length : Nat) := Om;have hm := hn.num;obtain ⟨z1, z2, z3⟩ := hn.ends _ (avB hlt);rw [tD hlt] at z1 z2 z3;have z1' : (((cZ n j).src : Nat) : Int) < (n.nodes : Nat) := Om;have z2' : (((cZ n j).dst : Nat) : Int) < (n.nodes : Nat) := Om;have hxle := hx.le j hlt;have hjw := wZz j;have hmw : i_.wrap ((n.arcs.length : Int) + (j : Int)) = ((n.arcs.length + j : Nat) : Int) := by rw [wrap_i64 Om Om]; omega
      have hwQ : a.Q[a.k] ∈ a'.Q := axF hQk;simp only[go_sem,atP,qN hlt];refine aS fun p hp => ?_;have hXp : (oX fo xs) p = none := by
        cases hxp : (oX fo xs) p with
        | none => rfl
        | some y => rw [hI'.base _ _ hxp] at hp; cases hp
      have p1 : ¬ p = fo := fun e0 => by rw [e0, hfoX] at hXp; cases hXp
      have p1' : ¬ fo = p := fun e0 => p1 e0.symm;have p2 : ¬ p = e := fun e0 => by rw [e0, hI'.he] at hp; cases hp
      have p2' : ¬ e = p := fun e0 => p2 e0.symm;have p3 : ¬ p = b := fun e0 => by rw [e0, hI'.hb] at hp; cases hp
      have p3' : ¬ b = p := fun e0 => p3 e0.symm;simp only[go_sem];have hI1 := hI'.box hp (.rows 4 [(cZ n j).cells]);have hQk1 : ({ a' with H := a'.H.set p (.rows 4 [(cZ n j).cells]) } : RS).Q[a.k]? = some a.Q[a.k] := hQk;have hd1 : ({ a' with H := a'.H.set p (.rows 4 [(cZ n j).cells]) } : RS).d = a.k := hd';have hk1 : ({ a' with H := a'.H.set p (.rows 4 [(cZ n j).cells]) } : RS).k = a.k + 1 := hk';have hX1 : ((oX fo xs).set p (.rows 4 [(cZ n j).cells])) b = none /\ ((oX fo xs).set p (.rows 4 [(cZ n j).cells])) e = none /\ ¬ b = e := ⟨by rw [aP, aC p3']; exact hXb, by rw [aP, aC p2']; exact he, b2'⟩;have hQs : ∀ Q : N_, Q[a.k]? = some a.Q[a.k] -> ∀ t, (Q ++ [t])[a.k]? = some a.Q[a.k] := fun Q h t => by obtain ⟨l1, l2⟩ := awD.1 h;rw [axU l1]; exact h
      have hsrcQ : ∀ c : RS, rD n xs ((oX fo xs).set p (.rows 4 [(cZ n j).cells])) (stO n.arcs.length) b e c -> n.source ∈ c.Q := fun c h => by obtain ⟨t, ht⟩ := h.seen.first; rw [ht]; simp
      refine aiO (α := RS) (fun c => ((((((((n_.set 1 (.osl fo 1 0 xs.length)).set 2 (.aX n.cells)).set 6 (.osl e 1 0 n.nodes)).set 7 (.osl b 1 0 n.nodes)).set 8 (c.v)).set 9 (.j ((a.Q[a.k] : Nat) : Int))).set 10 (.j (j : Nat))).set 11 (.ptr p 4 0 0))) (fun c => c.H)
        (fun c => rD n xs ((oX fo xs).set p (.rows 4 [(cZ n j).cells])) (stO n.arcs.length) b e c /\ c.d = a.k /\ c.k = a.k + 1 /\ c.Q[a.k]? = some a.Q[a.k] /\ (∀ v ∈ a'.Q, v ∈ c.Q) /\ ((cZ n j).src = a.Q[a.k] -> xs.getD j 0 < (cZ n j).cap -> (cZ n j).dst ∈ c.Q)) ?_ ?_
      · have hel : (cZ n j).dst < (seL n a'.Q).length := by rw [ZJ]; exact z2
        have hbl : (cZ n j).dst < (byL (stO n.arcs.length) n a'.Q a'.way).length := by rw [u7]; exact z2
        have hbr := qP hel;rw [xc z2] at hbr;have hir := sG hbl;by_cases c1 : (cZ n j).src = a.Q[a.k]
        · have c1' : ((((cZ n j).src : Nat) : Int) == ((a.Q[a.k] : Nat) : Int)) = true := bN Om
          cases hc : a'.Q.contains (cZ n j).dst with
          | true =>rw [hc] at hbr;refine bK .nil cS a_ ?_;simp only[go_sem,c1',p2,p2',z2',hI'.he,avK,hbr];exact ⟨_, ⟨hI1, hd1, hk1, hQk1, fun _ h => h, fun _ _ => ayY.1 hc⟩, by exact Lq, rfl⟩
          | false =>
            rw [hc] at hbr;have hnin : (cZ n j).dst ∉ a'.Q := fun h => by rw [ayY.2 h] at hc; cases hc
            by_cases c3 : xs.getD j 0 < (cZ n j).cap
            · have c3' : ((xs.getD j 0 : Nat) : Int) < ((cZ n j).cap : Int) := Om
              have hs1 : (aT (byL (stO n.arcs.length) n a'.Q a'.way)).set (cZ n j).dst [.j (j : Int)] = aT (byL (stO n.arcs.length) n (a'.Q ++ [(cZ n j).dst]) (IC a'.way (cZ n j).dst (j, true))) := by rw [mG]; exact congrArg aT (Kt (s := (j, true)) (by obtain ⟨t, ht⟩ := hI'.seen.first; rw [ht]; simp) hnin)
              refine bK .nil cS a_ ?_;simp only[go_sem,c1',p2,p2',z2',hI'.he,avK,hbr,p1,p1',hI'.base _ _ hfoX,hjx',mT hjx,c3'];refine bK (h_.set p (.rows 4 [(cZ n j).cells])) cS (e_ a_ (by rw [cE])) ?_;simp only[go_sem,p2,p2',z2',hI'.he,avK,hbr];refine ⟨e_ a_ (by rw [aP, aC p2, cE]), ?_⟩;refine bK .nil cS a_ ?_;simp only[go_sem,b2,b2',p3,p3',hI'.hb,avK,hir,hs1,kK,Me];refine ⟨a_, ?_⟩;simp only[go_sem,p2,p2',p3,p3'];refine rD.step hn hI1 hX1 (s := (j, true)) hlt (by rw [show eY n (j, true) = (cZ n j).src from rfl, c1]; exact hwQ) hnin (by show 0 < (cZ n j).cap - xs.getD j 0; omega) fun a2 g1 g2 g3 g4 => ?_;exact ⟨a2, ⟨g1, g4.trans hd', g3.trans hk', by rw [g2]; exact hQs _ hQk _, fun v h => by rw [g2]; exact List.mem_append_left _ h, fun _ _ => by rw [g2]; exact List.mem_append_right _ (awL.2 rfl)⟩, by exact Lq, rfl⟩
            · have c3' : ¬ ((xs.getD j 0 : Nat) : Int) < ((cZ n j).cap : Int) := Om
              refine bK .nil cS a_ ?_;simp only[go_sem,c1',p2,p2',z2',hI'.he,avK,hbr,p1,p1',hI'.base _ _ hfoX,hjx',mT hjx,c3'];exact ⟨_, ⟨hI1, hd1, hk1, hQk1, fun _ h => h, fun _ h => absurd h c3⟩, by exact Lq, rfl⟩
        · have c1' : ((((cZ n j).src : Nat) : Int) == ((a.Q[a.k] : Nat) : Int)) = false := bA Om
          refine bK .nil cS a_ ?_;simp only[go_sem,c1'];exact ⟨_, ⟨hI1, hd1, hk1, hQk1, fun _ h => h, fun h => absurd h c1⟩, by exact Lq, rfl⟩
      · rintro a2 ⟨hI2, hd2, hk2, hQk2, hup, hf⟩
        have hpp : a2.H p = some (.rows 4 [(cZ n j).cells]) := hI2.base _ _ (by rw [cE]);have hfo2 : a2.H fo = some (.rows 1 (jC xs)) := hI2.base _ _ (by rw [aP, aC p1']; exact hfoX);have hel : (cZ n j).src < (seL n a2.Q).length := by rw [ZJ]; exact z1
        have hbl : (cZ n j).src < (byL (stO n.arcs.length) n a2.Q a2.way).length := by rw [u7]; exact z1
        have hbr := qP hel;rw [xc z1] at hbr;have hir := sG hbl;have hend : ∀ c : RS, rD n xs ((oX fo xs).set p (.rows 4 [(cZ n j).cells])) (stO n.arcs.length) b e c -> (∀ v ∈ a2.Q, v ∈ c.Q) -> ((cZ n j).dst = a.Q[a.k] -> 0 < xs.getD j 0 -> (cZ n j).src ∈ c.Q) -> ∀ s : dM, s.1 < j + 1 -> eY n s = a.Q[a.k] -> 0 < iG n xs s -> jR n s ∈ c.Q := fun c _ g2 g3 s g4 g5 g6 => by
          rcases avX s.1 j with h | h
          · exact g2 _ (hup _ (auP s h g5 g6))
          · obtain ⟨i, bb⟩ := s
            have hij : i = j := by have : i < j + 1 := g4; have : j <= i := h; omega
            subst hij;cases bb with
            | true => exact g2 _ (hf g5 (by have : 0 < (cZ n i).cap - xs.getD i 0 := g6; omega))
            | false => exact g3 g5 g6
        by_cases c1 : (cZ n j).dst = a.Q[a.k]
        · have c1' : ((((cZ n j).dst : Nat) : Int) == ((a.Q[a.k] : Nat) : Int)) = true := bN Om
          cases hc : a2.Q.contains (cZ n j).src with
          | true =>rw [hc] at hbr;simp only[go_sem,c1',hpp,z1',hI2.he,avK,hbr,hjw];exact aE (a2, j + 1) ⟨hI2.unbox hXp, hd2, hk2, hQk2, hlt, hend a2 hI2 (fun _ h => h) fun _ _ => ayY.1 hc⟩ (by dsimp only; omega) Lq (fun _ _ h => h)
          | false =>
            rw [hc] at hbr;have hnin : (cZ n j).src ∉ a2.Q := fun h => by rw [ayY.2 h] at hc; cases hc
            by_cases c3 : 0 < xs.getD j 0
            · have c3' : ((xs.getD j 0 : Nat) : Int) > 0 := Om
              have hs1 : (aT (byL (stO n.arcs.length) n a2.Q a2.way)).set (cZ n j).src [.j ((n.arcs.length + j : Nat) : Int)] = aT (byL (stO n.arcs.length) n (a2.Q ++ [(cZ n j).src]) (IC a2.way (cZ n j).src (j, false))) := by rw [mG]; exact congrArg aT (Kt (s := (j, false)) (hsrcQ _ hI2) hnin)
              simp only[go_sem,c1',hpp,z1',hI2.he,avK,hbr,hfo2,hjx',mT hjx,c3'];refine bK (h_.set p (.rows 4 [(cZ n j).cells])) cS (e_ a_ hpp) ?_;simp only[go_sem,p2,p2',hpp,z1',hI2.he,avK,hbr,auW,hmw];refine ⟨e_ a_ (by rw [aP, aC p2]; exact hpp), ?_⟩;refine bK .nil cS a_ ?_;simp only[go_sem,b2,b2',p3,p3',hI2.hb,avK,hir,hs1,kK,Me];refine ⟨a_, ?_⟩;simp only[go_sem,p2,p2',p3,p3',hpp];refine rD.step hn hI2 hX1 (s := (j, false)) hlt (by rw [show eY n (j, false) = (cZ n j).dst from rfl, c1]; exact axF hQk2) hnin c3 fun a3 g1 g2 g3 g4 => ?_;simp only[go_sem,hjw];exact aE (a3, j + 1) ⟨g1.unbox hXp, g4.trans hd2, g3.trans hk2, by rw [g2]; exact hQs _ hQk2 _, hlt, hend a3 g1 (fun v h => by rw [g2]; exact List.mem_append_left _ h) fun _ _ => by rw [g2]; exact List.mem_append_right _ (awL.2 rfl)⟩ (by dsimp only; omega) Lq (fun _ _ h => h)
            · have c3' : ¬ ((xs.getD j 0 : Nat) : Int) > 0 := Om
              simp only[go_sem,c1',hpp,z1',hI2.he,avK,hbr,hfo2,hjx',mT hjx,c3',hjw];exact aE (a2, j + 1) ⟨hI2.unbox hXp, hd2, hk2, hQk2, hlt, hend a2 hI2 (fun _ h => h) fun _ h => absurd h c3⟩ (by dsimp only; omega) Lq (fun _ _ h => h)
        · have c1' : ((((cZ n j).dst : Nat) : Int) == ((a.Q[a.k] : Nat) : Int)) = false := bA Om
          simp only[go_sem,c1',hpp,hjw];exact aE (a2, j + 1) ⟨hI2.unbox hXp, hd2, hk2, hQk2, hlt, hend a2 hI2 (fun _ h => h) fun h => absurd h c1⟩ (by dsimp only; omega) Lq (fun _ _ h => h)
    · have atP : ¬ (j : Int) < (n.arcs.length : Nat) := Om
      have hdn : NG n xs a'.Q (a.k + 1) := So (by rw [<- hd']; exact hI'.done) hQk fun s g1 g2 g3 => auP s Om g2 g3;have hsl := jx hI'.seen;obtain ⟨l1, l2⟩ := awD.1 hQk;simp only[go_sem,atP];exact aE { a' with d := a.k + 1 } ⟨⟨hI'.seen, hdn, by show a.k + 1 <= a'.k; omega, hI'.k, hI'.base, hI'.hb, hI'.he, hI'.hq, hI'.ne⟩, hk'.symm⟩ (by show n.nodes - a'.k < n.nodes - a.k; omega) Lq (fun _ _ h => h)
  · have c0 : ¬ ((a.Q.length - a.k : Nat) : Int) > 0 := Om
    have hkk : a.k = a.Q.length := by have := hI.k; omega
    simp only[go_sem,c0];refine rO (vs := [.osl e 1 0 n.nodes, .osl b 1 0 n.nodes]) (.inr rfl) rfl ?_;refine S5 (H2 := oX fo xs) hI.he hI.hb b2' (Flat.map _ fun x c hc q s rs => by rw [awL] at hc; subst hc; rfl) (by rw [CB, ZJ]) (by unfold aT; rw [auW, u7]) ?_ ⟨a.Q, a.way, hI.seen, by rw [<- hkk, <- hdk]; exact hI.done, rfl, rfl⟩;have flx : Flat (jC xs) := Flat.map xs fun x c hc q s rs => by rw [awL] at hc;subst hc;rfl
    exact e_ a_ (fk (fk (hI.base _ _ hfoX) e1 (fj flx 1)) b1 (fj flx 1))
theorem R7{cd:dM->Int}{n:dP}{Q:N_}{way:Nat->dM}{v:Nat}(h:v<n.nodes)(i:v∈Q)(e:v≠n.source):((byL cd n Q way).map λx=>[PV.int .i64 x])[v]?=some [.j (cd (way v))]:=by
 unfold byL;rw[avO,avO,axO h,avS,avS,aF ⟨i,e⟩]
def Ry(n:dP)(r:PV)(H:PH):Prop:=
 ∃xs S,mM n xs/\uX n xs=mI S n.arcs/\S n.source=true/\S n.sink=false/\r=.tup [.sl 1 (jC xs),.int .i64 (uX n xs),.sl 1 (dW ((auX n.nodes).map S)),.int .i64 0]/\H=h_
def ajR(n:dP):Nat:=mI (λv=>decide (v=n.source)) n.arcs
theorem acC{n:dP}(i:lF n){xs:N_}(h:mM n xs):uX n xs<=ajR n:=h.akE i aZ (by simpa using λe=>i.apart e.symm)
theorem P3(m:Nat):avA m [PV.int .i64 0]=jC (avA m 0):=by
 show _=List.map _ (avA m 0);rw[List.map_replicate];rfl
theorem Un(U:∀n:dP,lF n->aH C 299 [.agg n.cells] .nil (aL (.bool true)))
  (V:∀(n:dP)(xs:N_),lF n->mM n xs->aH C 300 [.agg n.cells,.sl 1 (jC xs)] .nil (aL (.tup [.j (uX n xs),.bool true])))
  (S:∀(n:dP)(fo:Nat)(xs:N_),lF n->BW n xs->aH C 302 [.agg n.cells,.osl fo 1 0 n.arcs.length] (oX fo xs) (Rx n fo xs))
  (n:dP) (y:lF n):cf.wp C (aW HJ.res (Ry n)) (g_ [.agg n.cells]) .nil:=by
 have hm:=y.num;have ο:(Z' n.arcs:Int)*((8:Nat):Int)<=140737488355328:=Om;have ρ:(Z' n.arcs:Int)<=9223372036854775807:=Om;have Θ:(n.sink:Int)<(n.nodes:Nat):=by have:=y.sink;omega
 simp only[go_sem,cf,HJ];refine aB (U n y) rfl ?_;simp only[go_sem,auW,ο,ρ];refine aS λfo ω=>?_;simp only[go_sem];rw[P3];refine wp_loop (α:=N_) (λ_=>((n_.set 1 (.aX n.cells)).set 6 (.osl fo 1 0 n.arcs.length))) (λxs=>oX fo xs) (λxs=>mM n xs) (λxs=>(ajR n-uX n xs).toNat) (avA n.arcs.length 0) (S1 n).1 Lq (λ_ _ h=>h) ?_;intro xs hF;have hx:=hF.in;have κ:=hF.len;simp only[go_sem];refine iS (S n fo xs y hx) rfl (λ_ _ h=>h) ?_;rintro r H' ⟨Q,way,X,hD,rfl,rfl⟩ -;rw[PH.over_self _ (λ_ _ h=>h)];have J:=qP (R:=seL n Q) (i:=n.sink) (by rw[ZJ];exact y.sink);rw[xc y.sink]at J;cases hc:Q.contains n.sink with
 |false=>
  rw[hc]at J;simp only[go_sem,J];have ι:n.sink ∉ Q:=λh=>by rw[ayY.2 h]at hc;cases hc
  have hT:(jC xs).take n.arcs.length=jC xs:=avT (by rw[auW,κ];exact avD _);have θ:Z' n.arcs<=Z' xs:=Om;refine tN (o:=fo) (s:=1) (rs:=jC xs) (V n xs y hF) Sq (by simp only[go_sem,hT,θ];rfl) ?_;simp only[go_sem,hT,θ];refine bC (vs:=[.sl 1 (jC xs),.j (uX n xs),.sl 1 (dW (seL n Q)),.j 0]) (.inr rfl) .nil rfl a_ ⟨xs,λv=>Q.contains v,hF,aaW y hF X hD ι,?_,hc,rfl,rfl⟩;obtain⟨t,ht⟩:=X.first;rw[ht];simp
 |true=>
  rw[hc]at J;have K:n.sink∈Q:=ayY.1 hc;simp only[go_sem,J];obtain⟨L0,ζ,-⟩:=R5 X _ n.sink rfl K;refine wp_loop (α:=Nat × List dM × List dM × Int) (λc=>(((((n_.set 1 (.aX n.cells)).set 6 (.osl fo 1 0 n.arcs.length)).set 8 (ints (byL (stO n.arcs.length) n Q way))).set 11 (.j c.2.2.2)).set 12 (.j (c.1:Nat)))) (λ_=>oX fo xs)
   (λc=>c.1∈Q/\AG n Q way c.1 c.2.1/\c.2.2.1++c.2.1=L0/\0<c.2.2.2/\c.2.2.2<=2147483647/\∀s∈c.2.2.1,c.2.2.2<=iG n xs s) (λc=>c.2.1.length) (n.sink,L0,[],2147483647)
   ⟨K,ζ,rfl,(show(0:Int)<2147483647 by decide),(show(2147483647:Int)<=2147483647 by decide),λs h=>by cases h⟩ Lq (λ_ _ h=>h) ?_
  rintro⟨v,L,P,z⟩ ⟨hv,hB,N,δ,φ,ε⟩;dsimp only at hv hB N δ φ ε;have υ:=X.lt v hv;have Ξ:(v:Int)<(n.nodes:Nat):=Om;simp only[go_sem];by_cases W:v=n.source;have hL:L=[]:=by
   cases hB with
   |nil=>rfl
   |cons _ h _=>exact absurd W h
  subst hL;rw[awJ]at N;subst N;have O:(v:Int)=n.source:=Om;obtain⟨e,rfl⟩:∃e:Nat,z=e:=⟨z.toNat,by omega⟩;simp only[go_sem,cF O];refine wp_loop (α:=Nat × List dM × N_) (λc=>(((((n_.set 1 (.aX n.cells)).set 6 (.osl fo 1 0 n.arcs.length)).set 8 (ints (byL (stO n.arcs.length) n Q way))).set 11 (.j (e:Nat))).set 14 (.j (c.1:Nat)))) (λc=>oX fo c.2.2)
   (λc=>c.1∈Q/\AG n Q way c.1 c.2.1/\lj n xs c.2.2 e c.1 c.2.1/\∀s∈c.2.1,e<=iG n xs s) (λc=>c.2.1.length) (n.sink,P,xs)
   ⟨K,ζ,T0 hF e P,λs hs=>by have:=ε s hs;omega⟩ Lq (λ_ _ h=>h) ?_
  rintro⟨u,L,ys⟩ ⟨hu,E,hM,w⟩;dsimp only at hu E hM w;simp only[go_sem];have τ:=X.lt u hu;have Λ:(u:Int)<(n.nodes:Nat):=Om;by_cases M:u=n.source;have hL:L=[]:=by
   cases E with
   |nil=>rfl
   |cons _ h _=>exact absurd M h
  subst hL;subst M;obtain⟨k1,k2⟩:=Zc y hF hM;have ψ:=acC y k1;simp only[go_sem,cF (show(n.source:Int)=n.source from rfl)];exact aE ys k1 Om Lq (λ_ _ h=>h)
  ·have η:¬(u:Int)=n.source:=Om;have ξ:=E;cases E with
   |nil=>exact absurd rfl M
   |@cons _ L _ _ E=>
   have σ:=w _ (List.mem_cons_self ..);obtain⟨g1,g2,g3⟩:=Zd X hM ξ hu σ;obtain⟨s1,s2,s3,s4,s5⟩:=X.way u hu M;have γ:=hM.same _ (List.mem_cons_self ..);have F:=R7 (cd:=stO n.arcs.length) (way:=way) τ hu M;generalize hs:way u=s at *
   obtain⟨i,bb⟩:=s;have s1:i<Z' n.arcs:=s1;have ν:i<Z' ys:=by rw[hM.len];exact s1
   have μ:(i:Int)<(Z' n.arcs:Nat):=Om;have χ:=room_le y hx (s:=(i,bb)) s1;have B:=hx.le i s1;have l:=(y.ends _ (avB s1)).2.2;rw[tD s1]at l;dsimp only at γ;have Y:∀s∈L,e<=iG n xs s:=λs hs=>w s (ayT _ hs);cases bb with
   |true=>
    have Z:stO n.arcs.length (i,true)=(i:Int):=rfl;have hp:push e ys (i,true)=ys.set i (ys.getD i 0+e):=rfl;have e2:iG n xs (i,true)=(cZ n i).cap-xs.getD i 0:=rfl;have ew:i_.wrap (((ys.getD i 0:Nat):Int)+((e:Nat):Int))=((ys.getD i 0+e:Nat):Int):=wO_
    simp only[go_sem,cY η,F,Z,auW,μ,mT ν,avK,ew,zm,PH.set_set,qN s1];rw[<-hp];exact aE (eY n (i,true),L,push e ys (i,true)) ⟨g1,g2,g3,Y⟩ aZ Lq (λ_ _ h=>h)
   |false=>
    have Z:stO n.arcs.length (i,false)=((Z' n.arcs+i:Nat):Int):=rfl;have hp:push e ys (i,false)=ys.set i (ys.getD i 0-e):=rfl;have e2:iG n xs (i,false)=xs.getD i 0:=rfl;have β:¬((Z' n.arcs+i:Nat):Int)<(Z' n.arcs:Nat):=Om;have ei:i_.wrap (((Z' n.arcs+i:Nat):Int)-(Z' n.arcs:Int))=(i:Int):=wO_
    have ew:i_.wrap (((ys.getD i 0:Nat):Int)-((e:Nat):Int))=((ys.getD i 0-e:Nat):Int):=wO_
    simp only[go_sem,cY η,F,Z,auW,β];refine bK .nil cS a_ ?_;simp only[go_sem,auW,ei,μ,mT ν,avK,ew,zm,PH.set_set];rw[<-hp];refine⟨a_,?_⟩;simp only[go_sem,auW,ei,qN s1];exact aE (eY n (i,false),L,push e ys (i,false)) ⟨g1,g2,g3,Y⟩ aZ Lq (λ_ _ h=>h)
  ·have O:¬(v:Int)=n.source:=Om;cases hB with
   |nil=>exact absurd rfl W
   |@cons _ L _ _ hB=>
   obtain⟨s1,s2,s3,s4,s5⟩:=X.way v hv W;have F:=R7 (cd:=stO n.arcs.length) (way:=way) υ hv W;have Δ:=room_le y hx s1;have x:∀z2:Int,0<z2->z2<=z->z2<=iG n xs (way v)->eY n (way v)∈Q/\AG n Q way (eY n (way v)) L/\(P++[way v])++L=L0/\0<z2/\z2<=2147483647/\∀s∈P++[way v],z2<=iG n xs s:=λz2 h0 h1 h2=>
    ⟨s4,hB,by rw[awB];exact N,h0,by omega,λs hs=>by
     rcases awH.1 hs with g|g
     have:=ε s g;omega;rw[awL]at g;subst g;exact h2⟩
   generalize hs:way v=s at *
   obtain⟨i,bb⟩:=s;have s1:i<Z' n.arcs:=s1;have A:i<Z' xs:=by rw[κ];exact s1
   have B:(i:Int)<(Z' n.arcs:Nat):=Om;have Γ:=hx.le i s1;have l:=(y.ends _ (avB s1)).2.2;rw[tD s1]at l;cases bb with
   |true=>
    have Z:stO n.arcs.length (i,true)=(i:Int):=rfl;have e2:iG n xs (i,true)=(cZ n i).cap-xs.getD i 0:=rfl;have ew:i_.wrap (((cZ n i).cap:Int)-((xs.getD i 0:Nat):Int))=((iG n xs (i,true):Nat):Int):=by rw[wrap_i64 Om Om,e2];omega
    simp only[go_sem,cY O,F,Z,auW,B];refine bK .nil cS a_ ?_;by_cases hlt:((iG n xs (i,true):Nat):Int)<z;simp only[go_sem,qN s1,B,mT A,avK,ew,hlt];exact aE (eY n (i,true),L,P++[(i,true)],((iG n xs (i,true):Nat):Int)) (x ((iG n xs (i,true):Nat):Int) Om Om (Int.le_refl _)) aZ Lq (λ_ _ h=>h);simp only[go_sem,qN s1,B,mT A,avK,ew,hlt];exact aE (eY n (i,true),L,P++[(i,true)],z) (x z δ (Int.le_refl _) Om) aZ Lq (λ_ _ h=>h)
   |false=>
    have Z:stO n.arcs.length (i,false)=((Z' n.arcs+i:Nat):Int):=rfl;have e2:iG n xs (i,false)=xs.getD i 0:=rfl;have β:¬((Z' n.arcs+i:Nat):Int)<(Z' n.arcs:Nat):=Om;have ei:i_.wrap (((Z' n.arcs+i:Nat):Int)-(Z' n.arcs:Int))=(i:Int):=wO_
    simp only[go_sem,cY O,F,Z,auW,β];refine bK .nil cS a_ ?_;by_cases hlt:((xs.getD i 0:Nat):Int)<z;simp only[go_sem,auW,ei,qN s1,B,mT A,avK,hlt];exact aE (eY n (i,false),L,P++[(i,false)],((xs.getD i 0:Nat):Int)) (x ((xs.getD i 0:Nat):Int) Om Om (Int.le_refl _)) aZ Lq (λ_ _ h=>h);simp only[go_sem,auW,ei,qN s1,B,mT A,avK,hlt];exact aE (eY n (i,false),L,P++[(i,false)],z) (x z δ (Int.le_refl _) Om) aZ Lq (λ_ _ h=>h)
theorem aQ.adE{H:PH}{B:List BX}{L:List LI}(h:aQ H B L):∀N:Nat,aQ H B (L++avA N (.aJ,1,[]))
 |0=>by rw[List.replicate_zero,awJ];exact h
 |N+1=>by rw[List.replicate_succ',<-awB];exact(h.adE N).nT 1
structure dz(n:dP)(T:dM->Prop)(c:Nat)(ws:L2_):Prop where
 len:Z' ws=n.nodes
 all:∀s:dM,T s->stI s∈ws.getD (eY n s) []
 only:∀v c,c∈ws.getD v []->∃s:dM,T s/\eY n s=v/\c=stI s
 few:∀v,(ws.getD v []).length<=c
theorem dz.add{n:dP}{T:dM->Prop}{c:Nat}{l:L2_}(h:dz n T c l){s0:dM}(u:eY n s0<n.nodes) :
  dz n (λs=>T s\/s=s0) (c+1) (l.set (eY n s0) (l.getD (eY n s0) []++[stI s0])):=by
 have E:eY n s0<Z' l:=by rw[h.len];exact u
 have i:∀v,(l.set (eY n s0) (l.getD (eY n s0) []++[stI s0])).getD v []=if v=eY n s0 then l.getD v []++[stI s0]else l.getD v []:=λv=>by rw[avI,ayZ];by_cases e:v=eY n s0;subst e;rw[aF rfl,aF E,aF rfl];rfl;rw[aC (λe2=>e e2.symm),aC e,<-avI]
 refine⟨by rw[awS];exact h.len,λs u=>?_,λv x w=>?_,λv=>?_⟩;rw[i];rcases u with u|rfl
 split;exact List.mem_append_left _ (h.all s u);exact h.all s u;rw[aF rfl];simp;rw[i]at w;split at w;rename_i e;rcases awH.1 w with g|g
 obtain⟨s,y,A,B⟩:=h.only v x g;exact⟨s,.inl y,A,B⟩;rw[awL]at g;exact⟨s0,.inr rfl,e.symm,g⟩;obtain⟨s,y,A,B⟩:=h.only v x w;exact⟨s,.inl y,A,B⟩;have:=h.few v;rw[i];split;rw[auZ,avG];omega;omega
theorem dz.zero(n:dP):dz n (λs=>s.1<0) 0 (avA n.nodes []):=by
 have:∀v,(avA n.nodes ([]:I_)).getD v []=[]:=λv=>by rw[avI,List.getElem?_replicate];split<;>rfl
 exact⟨by simp,λs i=>absurd i (Nat.not_lt_zero _),λv c e=>(by rw[this]at e;cases e),λv=>by rw[this];exact avD _⟩
theorem dz.ok{n:dP}(i:lF n){e:L2_}(h:dz n (λs=>s.1<Z' n.arcs) (2*Z' n.arcs) e):amR n e:=
 ⟨h.len,h.all,h.only,λv=>by have:=h.few v;have:=i.num;omega⟩
theorem aiM(ps:WPs)(i:Nat)(p:PV × I_):wls (ps.set i p)=(wls ps).set i p.2:=ayE ..
theorem aiL{ps:WPs}{i:Nat}{p:PV × I_}(h:ps[i]?=some p):(wls ps).getD i []=p.2:=by
 unfold wls;rw[avI,avO,h];rfl

def pO(f:aD)(l:List dV)(xs:N_)(k:Nat):L2_:=(auX f.atJ.length).map λv=>qJ f v (l.take k) (xs.take k)
theorem Fb(f:aD)(l:List dV)(xs:N_)(k:Nat):(pO f l xs k).length=Z' f.atJ:=by simp[pO]
theorem Tk(f:aD)(l:List dV)(xs:N_):pO f l xs 0=avA f.atJ.length []:=by
 refine axZ (by simp[pO]) λi e u=>?_;simp[pO,qJ]
theorem Yv{f:aD}{l:List dV}{xs:N_}(h:Z' xs=Z' l):pO f l xs l.length=HE f l xs:=by
 unfold pO HE;rw[avW,avT Om]
theorem RB(f:aD)(v:Nat){l:List dV}{xs:N_}(u:Z' xs=Z' l){k:Nat}(i:k<Z' l):qJ f v (l.take (k+1)) (xs.take (k+1))=qJ f v (l.take k) (xs.take k)++VX f v l[k] (xs.getD k 0):=by
 have e:k<Z' xs:=Om;rw[awP i,awP e,WE f v _ _ (by rw[avN,avN,u])];rw[show xs.getD k 0=xs[k] by simp[avI,e]];simp[qJ]
theorem Tj{f:aD}{l:List dV}{xs:N_}(i:Z' xs=Z' l){k:Nat}(e:k<Z' l)(h:l[k].dst<fF f 0\/xs.getD k 0=0):pO f l xs (k+1)=pO f l xs k:=by
 unfold pO;refine ayB λv _=>?_;rw[RB f v i e];have:VX f v l[k] (xs.getD k 0)=[]:=by
  unfold VX Pz;rcases h with h|h
  rw[bS Om];rfl;rw[h];simp
 rw[this,awJ]
theorem Yw{f:aD}{l:List dV}{xs:N_}(u:Z' xs=Z' l){k:Nat}(i:k<Z' l)(w:fF f 0<=l[k].dst)(x:xs.getD k 0≠0)(B:FB f l[k]<Z' f.atJ) :
  (pO f l xs k).set (FB f l[k]) ((pO f l xs k).getD (FB f l[k]) []++[((l[k].dst-fF f 0:Nat):Int)])=pO f l xs (k+1):=by
 have y:(pO f l xs k).getD (FB f l[k]) []=qJ f (FB f l[k]) (l.take k) (xs.take k):=by unfold pO;rw[avI,avO,axO B];rfl
 rw[y];unfold pO;refine pU _ _ _ _ _ ?_ λv A=>?_;rw[RB f _ u i];unfold VX Pz;rw[bG w,bG x,bG rfl];rfl;rw[RB f _ u i];unfold VX Pz;rw[bS (show ¬FB f l[k]=v from λe=>A e.symm),awU,awU];simp
theorem adR{f:aD}(hV:VF f){room:I_}{a:dV}(ha:a∈mJ f room)(h:fF f 0<=a.dst):∃v d,v<Z' f.atJ/\d<Z' f.atH/\a=pB f v d:=by
 unfold mJ at ha;rcases awH.1 ha with ha|ha
 obtain⟨v,e,ha⟩:=List.mem_flatMap.1 ha;have e:=awG.1 e;unfold pR at ha;rcases avL.1 ha with rfl|ha
 have:=(FK hV e hV.root.1).2;simp only[gX,if_true]at this;simp only at h;omega;rcases awH.1 ha with ha|ha
 obtain⟨i,hi,rfl⟩:=avV.1 ha;have:=awG.1 hi;have:=(FK (i:=i+1) hV e Om).2;simp only[DD]at h;omega;obtain⟨d,l,rfl⟩:=avV.1 ha;exact⟨v,d,e,awG.1 (List.mem_filter.1 l).1,rfl⟩;obtain⟨d,l,rfl⟩:=avV.1 ha;simp only[JD,fF]at h;omega
theorem Y6{f:aD}(hV:VF f){d:Nat}(u:d<Z' f.atH):0<eJ f d/\eJ f d<Z' f.atK:=by
 have i:=hV.drive d u;refine⟨?_,i.2.2.2.1⟩;rcases axJ (eJ f d)with e|e
 have l:=i.2.2.2.2;rw[e,hV.root.2.1]at l;omega;exact e
theorem aQ.aqL{H:PH}{B:List BX}{L:List LI}{o s:Nat}{rows:P2_}(h:aQ H ((o,.rows s rows)::B) L):aQ H B ((.osl o s 0 rows.length,s,rows)::L):=by
 refine⟨λb hb=>h.box b (ayT _ hb),λx hx=>?_,?_⟩;rcases avL.1 hx with rfl|hx
 exact .inr ⟨o,rows,rfl,h.box _ (List.mem_cons_self ..),avD _,avW⟩;exact h.lst x hx;have e:fN ((.osl o s 0 rows.length,s,rows)::L)=o::fN L:=rfl;rw[e];exact(List.perm_middle.nodup_iff).2 h.nd
theorem aQ.aoD{H:PH}{B:List BX}(h:aQ H B [])(N:Nat):aQ H B (kY (avA N ((.aJ,[]):PV × I_))):=by
 have i:=h.adE N;have e:kY (avA N ((.aJ,[]):PV × I_))=[]++avA N (.aJ,1,[]):=by unfold kY;rw[List.map_replicate];rfl
 rw[e];exact i
theorem zx{res:List eE}{R A:R_}{e:lG}{F:PF}{H:PH}(B:∀r H',R r H'->A r H')(h:aW res R e F H):aW res A e F H:=by
 cases e with
 |exit=>exact h
 |normal =>obtain⟨vs,u,i,l,H2,w,x,v,y,h5⟩:=h;exact⟨vs,u,i,l,H2,w,x,v,y,B _ _ h5⟩
 |ret =>obtain⟨vs,u,i,l,H2,w,x,v,y,h5⟩:=h;exact⟨vs,u,i,l,H2,w,x,v,y,B _ _ h5⟩
def Kj(f:aD)(room:I_)(e:L2_)(c:Int):Prop:=
 (cM f=false/\e=[]/\c=1)\/(cM f=true/\(∃u,YA f room u/\e=arH f u)/\c=0)\/(cM f=true/\¬aqG f room/\e=[]/\c=12)
def ajG(f:aD)(room:I_)(r:PV)(H:PH):Prop:=∃e c,Kj f room e c/\cC (.tup [lists e,.int .i64 c]) r H
def ajF(f:aD)(room:I_)(r:PV)(H:PH):Prop:=∃e c,Kj f room e c/\r=.tup [lists e,.int .i64 c]/\H=h_
theorem aH.place{name:Nat}{args:V_}{f:aD}{room:I_}(h:aH C name args .nil (ajG f room)):aH C name args .nil (ajF f room):=
 h.post λr H' ⟨u,c,e,i,l⟩=>⟨_,i,u,c,e,rfl,l⟩
theorem jv(f:aD)(v:Nat):∀(l:List dV)(xs:N_),(qJ f v l xs).length<=Z' l
 |[],_=>by simp[qJ]
 |_::_,[]=>by simp[qJ]
 |a::l,x::xs=>by
  have e:=jv f v l xs;have i:(VX f v a x).length<=1:=by unfold VX;split<;>simp
  rw[qJ,auZ,awK];omega
theorem P6{res:List eE}{F:PF}{H:PH}{i:PV}{ps:WPs}{e:lG}(he:e=.normal\/e=.ret)(h:eE.evs F H res=some [i])(l:aQ H [] (eW i ps)):aW res (cC (lists (wls ps))) e F H:=by
 obtain⟨φ,w,k1,-,-,-,u,-⟩:=HI ps [] [] .nil l (λb hb=>by cases hb);refine rO he h ⟨_,_,.nil,u _,a_,φ (bL [i]),?_,?_⟩;rw[GG,mO,aF rfl];rfl;exact⟨k1,rfl⟩
theorem Sj{f:aD}{v w i:Nat}(e:0<i)(hi:i<Z' f.atK)(h:gX f v i=gX f w i):v=w:=by
 unfold gX at h;rw[aC Om,aC Om]at h;rcases Nat.lt_trichotomy v w with c|c|c
 have:=awI (Z' f.atK-1) (Om:v+1<=w);rw[axM]at this;omega;exact c;have:=awI (Z' f.atK-1) (Om:w+1<=v);rw[axM]at this;omega
def wJ(f:aD)(n:dP)(xs:N_)(e k:Nat):PF:=(((((n_.set 2 (.sl 1 (jC xs))).set 3 (.aX f.cells)).set 4 (.aX n.cells)).set 7 (.osl e 1 0 f.atJ.length)).set 8 (.int .i64 (k:Nat)))
def jb(f:aD)(n:dP)(xs:N_)(e k:Nat)(d j:Nat):PF:=((wJ f n xs e k).set 9 (.int .i64 (d:Nat))).set 10 (.int .i64 (j:Nat))
theorem Z8(Lb:GK C){K:bZ}[Up K](f:aD)(hV:VF f)(room:I_)(xs:N_)(N k v d:Nat)(hk:k<(lD f room).arcs.length)(hv:v<Z' f.atJ)(hd:d<Z' f.atH)(ha:cZ (lD f room) k=pB f v d)(W Z:L2_)(hW:Z' W=Z' f.atJ)(ε:(W.getD v []).length<=1000000)
  (S:W.set v (W.getD v []++[(d:Int)])=Z) (ps:WPs) (l:wls ps=W) {F:PF} {H:PH} (E:aQ H [(N,.rows 1 (dJ ps))] (kY ps)) (hF:(jb f (lD f room) xs N k d 0).le F)
  (hK:∀M H',wls M=Z->aQ H' [(N,.rows 1 (dJ M))] (kY M)->K (.exit 2) (wJ f (lD f room) xs N k) H'):aI.wp C (.loop jc) K F H:=by
 have hs:=hV.small;have hr:=hV.root;have ι:=hs.atK;have κ:=hs.atJ;have Y:=Y6 hV hd;refine wp_loop (α:=Nat × WPs × PH) (λs=>jb f (lD f room) xs N k d s.1) (λs=>s.2.2) (λs=>s.1<=Z' f.atJ/\wls s.2.1=(if v<s.1 then Z else W)/\aQ s.2.2 [(N,.rows 1 (dJ s.2.1))] (kY s.2.1)) (λs=>Z' f.atJ-s.1) (0,ps,H) ⟨auY _,by simpa using l,E⟩ hF b_ ?_;rintro⟨j,ps,H0⟩ ⟨hj,l,E⟩;simp only at hj l E;have R:Z' Z=Z' f.atJ:=by rw[<-S,awS,hW]
 have θ:Z' ps=Z' f.atJ:=by have:=congrArg List.length l;unfold wls at this;rw[auW]at this;rw[this];split;exact R;exact hW
 simp only[go_sem,jc,jb,wJ,auW];by_cases hlt:j<Z' f.atJ;have y:(j:Int)<(Z' f.atJ:Nat):=Om;have X:=wZz j;have U:=qN hk;rw[ha]at U;have η:(k:Int)<((lD f room).arcs.length:Nat):=Om;have ζ:(d:Int)<(Z' f.atH:Nat):=Om;simp only[go_sem,y];refine bK .nil (quS f) a_ ?_;simp only[go_sem,U,mF hd,hV.MN hd];refine CE Lb hs hr.1 (v:=j) (i:=eJ f d) Om Om rfl a_ ?_;have B:(pB f v d).src=gX f v (eJ f d):=rfl;by_cases c:j=v;subst c;rw[aC (Nat.lt_irrefl _)]at l;have V:j<Z' ps:=Om;obtain⟨u,w,A⟩:∃u w,ps[j]?=some (u,w):=⟨(ps[j]).1,(ps[j]).2,avF V⟩;have J:(wls ps).getD j []=w:=aiL A;rw[l]at J;have β:=E.at 0 rfl;simp only[go_sem,bN (show(((pB f j d).src:Nat):Int)=((gX f j (eJ f d):Nat):Int) by rw[B]),y,β,avK,QM A];refine E.append j (YQ A) (src:=aT [(d:Int)]) rfl (by unfold roomFor;rw[cJ,cJ,<-J];simp only[avG,maxLen];omega) λO H3 h3 hu=>?_;obtain⟨q',rfl⟩:=hu (by simp[aT]);rw[<-zH]at h3 ⊢;have e3:=h3.at 0 rfl;have δ:j<(dJ ps).length:=by rw[mH];exact V
 have h4:=h3.set 0 rfl (.rows 1 ((dJ ps).set j [.osl q' 1 0 (aT (w++[(d:Int)])).length]));generalize(aT (w++[(d:Int)])).length=nn at *
 simp only[go_sem,y,e3,avK,QM A,δ];refine⟨_,aF (λx hx=>by rw[awL]at hx;subst hx;rfl),?_⟩;generalize μ:PV.osl q' 1 0 nn=O at *
 simp only[go_sem,X];refine aE (j+1,ps.set j (O,w++[(d:Int)]),_) ⟨hlt,?_,?_⟩ sO_ (by(repeat' (first|exact d_|refine c_ ?_ ?_))<;>first|(simp only[go_sem,jb,wJ]<;>rfl)|rfl) b_;simp only;rw[aF (Nat.lt_succ_self _),aiM,l,<-J];exact S;simp only;have e5:dJ (ps.set j (O,w++[(d:Int)]))=(dJ ps).set j [O]:=ayE ..;have e6:kY (ps.set j (O,w++[(d:Int)]))=(kY ps).set j (O,1,aT (w++[(d:Int)])):=ayE ..;rw[e5,e6];exact h4;have γ:¬(((pB f v d).src:Nat):Int)=((gX f j (eJ f d):Nat):Int):=by rw[B];intro e;exact c (Sj Y.1 Y.2 Om).symm
 simp only[go_sem,bA γ,X];refine aE (j+1,ps,H0) ⟨hlt,?_,E⟩ sO_ (by(repeat' (first|exact d_|refine c_ ?_ ?_))<;>first|(simp only[go_sem,jb,wJ]<;>rfl)|rfl) b_;simp only;rw[l];by_cases c2:v<j;rw[aF c2,aF Om];rw[aC c2,aC Om];have y:¬(j:Int)<(Z' f.atJ:Nat):=Om;rw[aF Om]at l;simp only[go_sem,y];exact Up.up (by(repeat' (first|exact d_|refine c_ ?_ ?_))<;>first|(simp only[go_sem,jb,wJ]<;>rfl)|rfl) (hK ps H0 l E)
theorem ahC(Lb:GK C)(f:aD)(hV:VF f)(room:I_)(xs:N_)(hx:BW (lD f room) xs) :
  zk.wp C (aW rN.res (cC (lists (HE f (mJ f room) xs)))) (g_ [.agg f.cells,.agg (lD f room).cells,.sl 1 (jC xs)]) .nil:=by
 have hs:=hV.small;have μ:=hs.atJ;have hn:=T3 hV room;have hm:=hn.num;have ι:=hn.few;have J:Z' xs=(mJ f room).length:=hx.len;have X:(Z' f.atJ:Int)*((24:Nat):Int)<=140737488355328:=Om;have Y:(Z' f.atJ:Int)<=9223372036854775807:=Om;have Z:(0:Int)<=(Z' f.atJ:Int):=Om;have eo:dJ (avA f.atJ.length ((.aJ,[]):PV × I_))=avA f.atJ.length [.aJ]:=by unfold dJ;rw[List.map_replicate]
 simp only[go_sem,zk,rN,auW,X,Y,Z,Int.le_refl,axA];refine aS λK ε=>?_;have h1:=(aQ.nil.new ε (.rows 1 (avA f.atJ.length [.aJ]))).aoD f.atJ.length;generalize h_.set K (.rows 1 (avA f.atJ.length [.aJ]))=H1 at *
 rw[<-eo]at h1;simp only[go_sem];refine wp_loop (α:=Nat × WPs × PH) (λs=>wJ f (lD f room) xs K s.1) (λs=>s.2.2) (λs=>s.1<=(lD f room).arcs.length/\wls s.2.1=pO f (mJ f room) xs s.1/\aQ s.2.2 [(K,.rows 1 (dJ s.2.1))] (kY s.2.1)) (λs=>(lD f room).arcs.length-s.1) (0,avA f.atJ.length (.aJ,[]),H1) ⟨auY _,?_,h1⟩ (by(repeat' (first|exact d_|refine c_ ?_ ?_))<;>first|(simp only[go_sem,wJ]<;>rfl)|rfl) b_ ?_;rw[Tk];unfold wls;simp only[List.map_replicate];rintro⟨k,ps,H0⟩ ⟨hk,y,W⟩;simp only at hk y W;have ζ:Z' ps=Z' f.atJ:=by have:=congrArg List.length y;rw[Fb]at this;unfold wls at this;rw[auW]at this;exact this
 simp only[go_sem,wJ,auW];by_cases hlt:k<(lD f room).arcs.length;have x:(k:Int)<((lD f room).arcs.length:Nat):=Om;have E:=wZz k;have B:k<(mJ f room).length:=hlt;have δ:k<Z' xs:=Om;have N:=qN hlt;have M:cZ (lD f room) k=(mJ f room)[k]:=(tD hlt).symm;rw[M]at N;have γ:=avB B;obtain⟨z1,z2,z3⟩:=hn.ends _ (avB hlt);have z1:((mJ f room)[k]).src<(lD f room).nodes:=z1;have z2:((mJ f room)[k]).dst<(lD f room).nodes:=z2;have κ:fF f 0<=(lD f room).nodes:=by show fF f 0<=fF f f.atH.length;unfold fF;omega
 have F:=Tj (f:=f) (l:=mJ f room) (xs:=xs) J B;have u:=Yw (f:=f) (l:=mJ f room) (xs:=xs) J B;have R:=adR hV (room:=room) γ;generalize(mJ f room)[k]=a at *
 have A:(a.dst<fF f 0\/xs.getD k 0=0)->fL (λs:Nat × WPs × PH=>wJ f (lD f room) xs K s.1) (λs=>s.2.2) (λs=>s.1<=(lD f room).arcs.length/\wls s.2.1=pO f (mJ f room) xs s.1/\aQ s.2.2 [(K,.rows 1 (dJ s.2.1))] (kY s.2.1)) (λs=>(lD f room).arcs.length-s.1) ((lD f room).arcs.length-k) (fA 0 (fZ C (aI.wp C (.seq (.region jd) .ret)) (aW rN.res (cC (lists (HE f (mJ f room) xs)))))) .normal (wJ f (lD f room) xs K (k+1)) H0:=λh=>
  aE (k+1,ps,H0) ⟨hlt,by rw[F h];exact y,W⟩ sO_ (λ_ _ h=>h) b_
 have w7:i_.wrap ((a.dst:Int)-((fF f 0:Nat):Int))=(a.dst:Int)-((fF f 0:Nat):Int):=wrap_i64 Om Om;simp only[go_sem,x];refine bK .nil (quS f) a_ ?_;simp only[go_sem,N];refine el Lb hs (i:=0) aU rfl a_ ?_;by_cases c1:a.dst<fF f 0;have w:(a.dst:Int)-((fF f 0:Nat):Int)<0:=Om;simp only[go_sem,w7,w,E];exact Up.up (by unfold wJ;exact Lq) (A (.inl c1));have w:¬(a.dst:Int)-((fF f 0:Nat):Int)<0:=Om;have V:=mT δ;by_cases c2:xs.getD k 0=0;simp only[go_sem,w7,w,V,bN (Om:((xs.getD k 0:Nat):Int)=0),E];exact Up.up (by unfold wJ;exact Lq) (A (.inr c2));obtain⟨v,d,hv,hd,rfl⟩:=R Om;have U:=alN hV (v:=v) hd;have u:=u Om c2 (by rw[U];exact hv);rw[U]at u;have β:((pB f v d).dst-fF f 0:Nat)=d:=by simp only[pB,fF];omega
 have O:((pB f v d).dst:Int)-((fF f 0:Nat):Int)=(d:Int):=Om;rw[β]at u;rw[O]at w;have η:((pO f (mJ f room) xs k).getD v []).length<=1000000:=by unfold pO;rw[avI,avO,axO hv];exact avZ (jv f v _ _) (by rw[avN];omega)
 have w8:i_.wrap (d:Int)=(d:Int):=wrap_i64 Om Om;simp only[go_sem,O,w8,w,V,bA (Om:¬((xs.getD k 0:Nat):Int)=0)];refine Z8 Lb f hV room xs K k v d hlt hv hd M (pO f (mJ f room) xs k) (pO f (mJ f room) xs (k+1)) (Fb ..) η u ps y W (by(repeat' (first|exact d_|refine c_ ?_ ?_))<;>first|(simp only[go_sem,jb,wJ]<;>rfl)|rfl) λθ H' S h'=>?_;simp only[go_sem,wJ,E];exact aE (k+1,θ,H') ⟨hlt,S,h'⟩ sO_ (by(repeat' (first|exact d_|refine c_ ?_ ?_))<;>first|(simp only[go_sem,wJ]<;>rfl)|rfl) b_;have x:¬(k:Int)<((lD f room).arcs.length:Nat):=Om;have:k=(lD f room).arcs.length:=Om;subst this;have h2:=W.aqL;rw[mH,ζ]at h2;have e:HE f (mJ f room) xs=wls ps:=by rw[y];exact(Yv J).symm
 rw[e];simp only[go_sem,x,jd];exact P6 (.inr rfl) rfl h2

structure ajH(C:Ctx):Prop extends GK C where
 iY:∀(f:aD)(room:I_),f.Ok->aH C 307 [.agg f.cells,ints room] .nil (aL (wc f room))
 HJ:∀n:dP,lF n->aH C 303 [.agg n.cells] .nil (Ry n)
 rN:∀(f:aD)(room:I_)(xs:N_),VF f->BW (lD f room) xs->aH C 308 [.agg f.cells,.agg (lD f room).cells,.sl 1 (jC xs)] .nil (aL (lists (HE f (mJ f room) xs)))
def Rv(r:PV)(H:PH):Prop:=∃e c,iV e/\r=.tup [lay e,.int .i64 c]/\H=h_
theorem iV.nil:iV []:=⟨by decide,by decide⟩
def Kl(r:PV)(H:PH):Prop:=∃e c,iV e/\cC (.tup [lay e,.int .i64 c]) r H
theorem aH.akP{name:Nat}{args:V_}(h:aH C name args .nil Kl):aH C name args .nil Rv:=
 h.post λr H' ⟨u,c,e,i,l⟩=>⟨_,i,u,c,e,rfl,l⟩
theorem afS(f:aD)(B:Z' f.atJ<=1000)(l:List dV)(w:Z' l<=10000)(xs:N_):iV (HE f l xs):=by
 have u:(HE f l xs).length=Z' f.atJ:=by simp[HE]
 have i:∀L:L2_,(∀r∈L,Z' r<=10000)->Z' L.flatten<=Z' L*10000:=by
  intro L
  induction L with
  |nil=>intro _;exact auY _
  |cons x t y =>intro h;have u:=y λr e=>h r (ayT _ e);have A:=h x List.mem_cons_self;rw[azE,auZ,awK,axM];omega
 refine⟨by omega,avZ (i _ λr e=>?_) (by rw[u];omega)⟩;obtain⟨v,-,rfl⟩:=avV.1 e;exact avZ (jv f v l xs) w
theorem P2(e:ajH C)(f:aD)(J:f.Ok)(l:cM f=true)(room:I_) :
  ci.wp C (aW qy.res Kl) (g_ [.agg f.cells,ints room]) .nil:=by
 simp only[go_sem,ci,qy];refine aB (e.iY f room J) Sq ?_;simp only[go_sem,wc];refine aS λq hq=>?_;have w:aQ (h_.set q sU) [(q,sU)] []:=aQ.nil.new hq sU;generalize(h_.set q sU)=A at *
 have M:=w.at 0 rfl;have i:=w.set 0 rfl (aoC (Gl f room));simp only[go_sem,M];generalize A.set q (.rows 4 [(Gl f room).cells])=H2 at *
 have u:=i.at 0 rfl;have hV:=VF.of l;have K:=hV.small;have x:=T3 hV room;rw[Lo l]at u i;simp only[go_sem,Ln l,u];refine iS (e.HJ _ x) Sq a_ ?_;rintro r H' ⟨xs,S,B,y,E,F,rfl,rfl⟩ -;rw[PH.xS];simp only[go_sem];refine aB (e.total f hV) Sq ?_;by_cases hlt:uX (lD f room) xs<((Do f:Nat):Int);simp only[go_sem,hlt];refine zx (R:=cC (.tup [lay [],.j 12])) (λr H' h=>⟨[],12,.nil,h⟩) ?_;exact CS (.inr rfl) Sq (aQ.IR (i.xA 0));have N:(mJ f room).length<=2500:=x.num;simp only[go_sem,hlt,u];refine aB (e.rN f room xs hV B.in) Sq ?_;simp only[go_sem];refine zx (R:=cC (.tup [lay (HE f (mJ f room) xs),.j 0])) (λr H' h=>⟨_,0,afS f (by have:=K.atJ;omega) _ Om xs,h⟩) ?_;exact bC (vs:=[lists (HE f (mJ f room) xs),.j 0]) (.inr rfl) .nil Sq a_ ⟨.refl _,rfl⟩
structure acR(C:Ctx):Prop where
 read:∀(l:N_),(∀x∈l,x<256)->Z' l<=9223372036854775807->aH C 375 [.sl 1 (kG l),.int .i64 (8:Nat),.int .i64 (4:Nat)] .nil (Bo l 8 4)
 next:∀(l:N_)(v:PV),Tp l v->∀(o n a:Nat),n<=1000000->a<=Z' l->aH C 4 [.ptr o 2 0 0,.int .i64 n] (h_.set o (bB v a)) (λr H=>r=.int .i64 ((aG l n a).1:Nat)/\H=h_.set o (bB v (aG l n a).2))
 tlayout:∀(l:N_)(v:PV),Tp l v->∀(o a:Nat)(f:aD),VF f->a<=Z' l->aH C 3 [.ptr o 2 0 0,.agg f.cells] (h_.set o (bB v a)) (λr H=>r=lay (eG l f a f.atJ.length).1/\H=h_.set o (bB v (eG l f a f.atJ.length).2))
 place:∀(f:aD)(room:I_),f.Ok->cM f=true->aH C 309 [.agg f.cells,ints room] .nil Rv
 cost:∀(f:aD)(lv cnt:Int)(l:L2_),f.Ok->iV l->aH C 365 [.agg f.cells,tU lv cnt,lay l] .nil (aL (.tup [.int .i64 (YK f lv cnt l:Nat),.int .i64 (DP f lv cnt l)]))
 rcost:∀(f:aD)(lv cnt:Int)(l:L2_),f.Ok->iV l->aH C 376 [.agg f.cells,tU lv cnt,lay l] .nil (aL (.tup [.int .i64 (YK f lv cnt l:Nat),.int .i64 (DP f lv cnt l)]))
 YE:aH C 362 [] .nil (aL (.bool true))
theorem nc:∀{L:L2_},(∀r∈L,Z' r<=20)->Z' L.flatten<=Z' L*20
 |[],_=>auY _
 |x::t,h=>by have i:=nc λr e=>h r (ayT _ e);have l:=h x List.mem_cons_self;rw[azE,auZ,awK,axM];omega
theorem Tt(y:acR C)(l:N_)(hb:∀x∈l,x<256)(hl:Z' l<=9223372036854775807)(i:L2_)(level count:Int) :
  bs.wp C (aW jA.res (aL (.bool true))) (g_ [.sl 1 (kG l),lay i,.j level,.j count]) .nil:=by
 obtain⟨i2,i3,i4⟩:=adI (l.take 400) 8 4;obtain⟨hv,U⟩:=UP (l.take 400) 8 4 (wK (l.take 400)).2 aU aU;have E:=y.read l hb hl;unfold Bo at E;change cM (rdF (l.take 400) 8 4).1=true at hv;change(rdF (l.take 400) 8 4).1.Ok at U;generalize(rdF (l.take 400) 8 4).1=f at *
 generalize(rdR (l.take 400) 8 4).1=room at *
 generalize(rdR (l.take 400) 8 4).2=w at *
 generalize(1+(DK (l.take 400)).1:Nat)=lv at *
 generalize(1+(wK (l.take 400)).1:Nat)=S at *
 have hV:=VF.of hv;have kl:=λv T o=>y.tlayout (l.take 400) v T o w f hV i4;obtain⟨s1,s2,s3⟩:=yh (l.take 400) hV i4 f.atJ.length (avD _);have hS:yT f (eG (l.take 400) f w f.atJ.length).1:=⟨s1,s2,s3⟩;have W:=(ED (l.take 400) f i4 f.atJ.length).1;clear s1 s2 s3;generalize eG (l.take 400) f w f.atJ.length=lt at *
 obtain⟨L,at2⟩:=lt;simp only at hS kl W;have V:=hS.ok hV;have kn:=λv T o=>y.next (l.take 400) v T o 2 at2 aU W;generalize aG (l.take 400) 2 at2=nx at *
 simp only[go_sem,bs,jA];refine iS E (by simp only[go_sem];rfl) a_ ?_;rintro r H' ⟨o,v,rfl,T,rfl⟩ ε;rw[PH.pG];have h1:aQ (h_.set o (bB v w)) [(o,bB v w)] []:=aQ.nil.new (H:=h_) rfl _;generalize h_.set o (bB v w)=H1 at h1 ⊢;simp only[go_sem];refine h1.TV λN H2 h2=>?_;simp only[go_sem];refine h2.TV λu H3 Y=>?_;have q9:=Y.at 1 rfl;have h4:=Y.set 1 rfl (.rows 7 [f.cells]);have n9:¬u=N:=λe=>Y.ne 1 2 rfl rfl aU e.symm;have δ:=Y.at 2 rfl;have h5:=h4.set 2 rfl (.rows 2 [[.j ((lv:Nat):Int),.j ((S:Nat):Int)]]);simp only[go_sem,q9,δ,n9];generalize(H3.set N _).set u _=H5 at *
 try simp only[go_sem,auW]
 by_cases c1:(Z' i:Int)>20;simp only[go_sem,c1];refine aB y.YE Ev ?_;simp only[go_sem];exact UV Sq rfl;simp only[go_sem,c1];refine wp_loop (α:=Nat) (λk=>((((((((n_.set 1 (lay i)).set 2 (.j level)).set 3 (.j count)).set 9 (.ptr N 7 0 0)).set 10 (.ptr u 2 0 0)).set 11 (ints room)).set 12 (.ptr o 2 0 0)).set 13 (.j k))) (λ_=>H5)
  (λk=>k<=Z' i/\∀r∈i.take k,Z' r<=20) (λk=>Z' i-k) 0 ⟨auY _,by simp⟩ Lq b_ ?_
 rintro k ⟨hk,hr⟩;simp only[go_sem,auW];by_cases hlt:k<Z' i;have B:(k:Int)<(Z' i:Nat):=Om;have β:(i.map λr=>[ints r])[k]?=some [ints i[k]]:=by simp[hlt]
 have γ:i.take (k+1)=i.take k++[i[k]]:=awP hlt;simp only[go_sem,B,β,auW];by_cases c2:(i[k].length:Int)>20;simp only[go_sem,c2];refine aB y.YE Ev ?_;simp only[go_sem];exact UV Sq rfl;simp only[go_sem,c2,wZz k];refine aE (k+1) ⟨hlt,λr hm=>?_⟩ Om Lq b_;rw[γ]at hm;rcases awH.1 hm with hm|hm
 exact hr r hm;rw[awL]at hm;subst hm;omega;have B:¬(k:Int)<(Z' i:Nat):=Om;have:k=Z' i:=Om;subst this;rw[avW]at hr;have M:iV i:=⟨by omega,by have:=nc hr;omega⟩;have J:=h5.at 1 rfl;simp only[go_sem,B,J];refine h5.kd 0 rfl (kl v T o) Sq λH6 Z=>?_;have J:=Z.at 1 rfl;simp only[go_sem,J];refine iS (y.place f room U hv) Sq a_ ?_;rintro r H' ⟨P,c,hP,rfl,rfl⟩ -;rw[PH.xS];have R:∀(Q:L2_) (hQ:iV Q) (F:PF) (O:PH),(((((((n_.set 1 (lay i)).set 2 (.j level)).set 3 (.j count)).set 9 (.ptr N 7 0 0)).set 10 (.ptr u 2 0 0)).set 14 (lay Q))).le F->aQ O [(o,bB v nx.2),(N,.rows 7 [f.cells]),(u,.rows 2 [[.j ((lv:Nat):Int),.j ((S:Nat):Int)]])] []\/aQ O [(o,bB v at2),(N,.rows 7 [f.cells]),(u,.rows 2 [[.j ((lv:Nat):Int),.j ((S:Nat):Int)]])] [] ->
   aI.wp C (.seq (.region OZ) (.seq (.region PA) (.seq (.region PB) (.seq (.region PC) (.seq (.region PD) (.seq (.region PE) .ret)))))) (aW jA.res (aL (.bool true))) F O:=by
  intro Q hQ F O hF h7;have J:O N=some (.rows 7 [f.cells]):=by rcases h7 with h|h<;>exact h.at 1 rfl
  have A:O u=some (.rows 2 [[.j ((lv:Nat):Int),.j ((S:Nat):Int)]]):=by rcases h7 with h|h<;>exact h.at 2 rfl
  refine sT _ (λ_ _ _ _ a b=>Up.up a b) hF ?_;simp only[go_sem,OZ,J,A];refine aB (y.cost f lv S Q U hQ) Ev ?_;simp only[go_sem,PA,J,A];refine aB (y.rcost f lv S Q U hQ) Ev ?_;simp only[go_sem,PB];refine aS λX K=>?_;have m1:¬N=X:=λe=>by rw[<-e,J]at K;cases K
  have m2:¬u=X:=λe=>by rw[<-e,A]at K;cases K
  simp only[go_sem,PC,J,A,m1,m2];refine aB (y.cost f level count i U M) Ev ?_;simp only[go_sem,PD,J,A,m1,m2];refine aB (y.rcost f level count i U M) Ev ?_;simp only[go_sem,PE,bN];refine aB y.YE Ev ?_;simp only[go_sem];exact UV Sq rfl
 simp only[go_sem];by_cases c0:c=0;simp only[go_sem,bN c0];refine Z.kd 0 rfl (kn v T o) (by simp only[go_sem];rfl) λO h7=>?_;simp only[go_sem];by_cases c3:(nx.1:Int)=0;simp only[go_sem,bN c3];exact R P hP _ _ Lq (.inl h7);simp only[go_sem,bA c3];exact R L V _ _ Lq (.inl h7);simp only[go_sem,bA c0];exact R L V _ _ Lq (.inr Z)
abbrev Ren:=Nat->Nat × P2_
def up(t:Nat->Nat):Ren:=λi=>(t i,[])
mutual
def PV.ren(r:Ren):PV->PV
 | .osl o s off len=>.osl (r o).1 s (off+(r o).2.length) len
 | .ptr o s i c=>.ptr (r o).1 s (i+(r o).2.length) c
 | .map o=>.map (r o).1
 | .sl s rows=>.sl s (PV.mY r rows)
 | .aX cs=>.aX (PV.mU r cs)
 | .fn n cs=>.fn n (PV.mU r cs)
 | .agg cs=>.agg (PV.mU r cs)
 | .tup cs=>.tup (PV.mU r cs)
 | .int k n=>.int k n
 | .bool b=>.bool b
 | .str s=>.str s
 | .aJ=>.aJ
 | .lit v=>.lit v
 | .junk=>.junk
def PV.mU(r:Ren):V_->V_
 |[]=>[]
 |v::vs=>PV.ren r v::PV.mU r vs
def PV.mY(r:Ren):P2_->P2_
 |[]=>[]
 |v::vs=>PV.mU r v::PV.mY r vs
end
theorem PV.gF(r:Ren):∀l,PV.mU r l=l.map (PV.ren r)
 |[]=>rfl
 |v::vs=>by rw[PV.mU,PV.gF r vs];rfl
theorem PV.kP(r:Ren):∀l,PV.mY r l=l.map λx=>x.map (PV.ren r)
 |[]=>rfl
 |v::vs=>by rw[PV.mY,PV.kP r vs,PV.gF];rfl
mutual
def PV.bound(n:Nat):PV->Bool
 | .osl o _ _ _=>decide (o<n)
 | .ptr o _ _ _=>decide (o<n)
 | .map o=>decide (o<n)
 | .sl _ rows=>PV.eQ n rows
 | .aX cs=>PV.bounds n cs
 | .fn _ cs=>PV.bounds n cs
 | .agg cs=>PV.bounds n cs
 | .tup cs=>PV.bounds n cs
 | .int _ _=>true
 | .bool _=>true
 | .str _=>true
 | .aJ=>true
 | .lit _=>true
 | .junk=>true
def PV.bounds(n:Nat):V_->Bool
 |[]=>true
 |v::vs=>PV.bound n v&&PV.bounds n vs
def PV.eQ(n:Nat):P2_->Bool
 |[]=>true
 |v::vs=>PV.bounds n v&&PV.eQ n vs
end
mutual
theorem PV.WA{n:Nat}{r r':Ren}(h:∀i,i<n->r i=r' i):∀v:PV,v.bound n=true->v.ren r=v.ren r'
 | .osl o s off len,hb=>by simp only[PV.bound,dT_]at hb;simp only[PV.ren,h o hb]
 | .ptr o s i c,hb=>by simp only[PV.bound,dT_]at hb;simp only[PV.ren,h o hb]
 | .map o,hb=>by simp only[PV.bound,dT_]at hb;simp only[PV.ren,h o hb]
 | .sl s rows,hb=>by simp only[PV.bound]at hb;simp only[PV.ren,PV.KT h rows hb]
 | .aX cs,hb=>by simp only[PV.bound]at hb;simp only[PV.ren,PV.sN h cs hb]
 | .fn _ cs,hb=>by simp only[PV.bound]at hb;simp only[PV.ren,PV.sN h cs hb]
 | .agg cs,hb=>by simp only[PV.bound]at hb;simp only[PV.ren,PV.sN h cs hb]
 | .tup cs,hb=>by simp only[PV.bound]at hb;simp only[PV.ren,PV.sN h cs hb]
 | .int _ _,_=>rfl
 | .bool _,_=>rfl
 | .str _,_=>rfl
 | .aJ,_=>rfl
 | .lit _,_=>rfl
 | .junk,_=>rfl
theorem PV.sN{n:Nat}{r r':Ren}(h:∀i,i<n->r i=r' i):∀l:V_,PV.bounds n l=true->PV.mU r l=PV.mU r' l
 |[],_=>rfl
 |v::vs,hb=>by simp only[PV.bounds,avE]at hb;rw[PV.mU,PV.mU,PV.WA h v hb.1,PV.sN h vs hb.2]
theorem PV.KT{n:Nat}{r r':Ren}(h:∀i,i<n->r i=r' i):∀l:P2_,PV.eQ n l=true->PV.mY r l=PV.mY r' l
 |[],_=>rfl
 |v::vs,hb=>by simp only[PV.eQ,avE]at hb;rw[PV.mY,PV.mY,PV.sN h v hb.1,PV.KT h vs hb.2]
end
mutual
theorem PV.U5:∀v:PV,v.ren (up id)=v
 | .osl o s off len=>rfl
 | .ptr o s i c=>rfl
 | .map o=>rfl
 | .sl s rows=>by simp only[PV.ren,PV.Hk rows]
 | .aX cs=>by simp only[PV.ren,PV.AS cs]
 | .fn _ cs=>by simp only[PV.ren,PV.AS cs]
 | .agg cs=>by simp only[PV.ren,PV.AS cs]
 | .tup cs=>by simp only[PV.ren,PV.AS cs]
 | .int _ _=>rfl
 | .bool _=>rfl
 | .str _=>rfl
 | .aJ=>rfl
 | .lit _=>rfl
 | .junk=>rfl
theorem PV.AS:∀l:V_,PV.mU (up id) l=l
 |[]=>rfl
 |v::vs=>by rw[PV.mU,PV.U5 v,PV.AS vs]
theorem PV.Hk:∀l:P2_,PV.mY (up id) l=l
 |[]=>rfl
 |v::vs=>by rw[PV.mY,PV.AS v,PV.Hk vs]
end
theorem PV.oO{v:PV}(h:v.bound 0=true)(r:Ren):v.ren r=v:=(PV.WA (r':=up id) (λi hi=>absurd hi (Nat.not_lt_zero i)) v h).trans (PV.U5 v)
theorem PV.mX{l:V_}(h:PV.bounds 0 l=true)(r:Ren):l.map (PV.ren r)=l:=by
 rw[<-PV.gF];exact(PV.sN (r':=up id) (λi hi=>absurd hi (Nat.not_lt_zero i)) l h).trans (PV.AS l)
theorem yJ(r:Ren)(v:PV):(v.ren r).cells=v.cells.map (PV.ren r):=by
 cases v<;>simp only[PV.ren,PV.cells,PV.gF,awE,axD]
theorem ahH(r:Ren)(v:PV):(v.ren r).one=v.one:=by
 cases v<;>simp only[PV.ren,PV.one]
theorem wV(r:Ren)(l:V_):(l.map (PV.ren r)).all PV.one=l.all PV.one:=by
 rw[List.all_map];congr 1;exact funext λv=>ahH r v
theorem HT(r:Ren):∀(vs:V_)(l:V_)(c:Nat),(setCells l c vs).map (PV.ren r)=setCells (l.map (PV.ren r)) c (vs.map (PV.ren r))
 |[],_,_=>rfl
 |v::vs,l,c=>by simp only[setCells,awE];rw[HT r vs,ayE]
theorem ahG{r:Ren}{op:BinOp}{x y v:PV}(h:PV.bin op x y=some v):PV.bin op (x.ren r) (y.ren r)=some (v.ren r):=by
 have e:∀{k:IntKind}{n:Int},(PV.int k n).ren r=.int k n:=rfl;cases x<;>cases y<;>try (cases op<;>simp[PV.bin]at h;done)
 simp only[PV.ren];rw[h];congr 1;revert h;unfold PV.bin;cases op<;>simp only[shift,oE]<;>intro h<;>(repeat' split at h)<;>cases h<;>rfl;simp only[PV.ren];rw[h];congr 1;revert h;unfold PV.bin;cases op<;>simp only[LY]<;>intro h<;>(repeat' split at h)<;>cases h<;>rfl
def aV.ren(r:Ren)(pre:P2_):aV->aV
 | .rows s rs=>.rows s (pre++rs.map λx=>x.map (PV.ren r))
 | .map sh g=>.map sh λk=>(g k).map (PV.ren r)
 | .loop F n t a b=>.loop F n t a b
 | .dead=>.dead
def PF.ren(r:Ren)(F:PF):PF:=λi=>(F i).map (PV.ren r)
def JP(r:Ren)(h H:PH):Prop:=∀i x,h i=some x->H (r i).1=some (x.ren r (r i).2)
theorem JP.ex{r:Ren}{h H:PH}(e:JP r h H){i:Nat}{x:aV}(l:h i=some x):∃pre:P2_,(r i).2.length=Z' pre/\(r i).2=pre/\H (r i).1=some (x.ren r pre):=⟨_,rfl,rfl,e i x l⟩
theorem MD{α:Type}:∀(pre l:List α)(k:Nat),(pre++l).drop (k+Z' pre)=l.drop k
 |[],l,k=>rfl
 |x::pre,l,k=>by rw[awK,<-axL];exact MD pre l k
theorem Er{α:Type}:∀(pre l:List α)(k:Nat),(pre++l)[k+Z' pre]?=l[k]?
 |[],l,k=>rfl
 |x::pre,l,k=>by rw[awK,<-axL,ayQ,List.getElem?_cons_succ];exact Er pre l k
theorem Vt{α:Type}(y:α):∀(pre l:List α)(k:Nat),(pre++l).set (k+Z' pre) y=pre++l.set k y
 |[],l,k=>rfl
 |x::pre,l,k=>by rw[awK,<-axL,ayQ,List.set_cons_succ,Vt y pre l k];rfl
def aR.clo:aR->Bool
 | .tmp _=>true
 | .const v=>v.bound 0
section
variable {r:Ren} {F:PF} {h H:PH}
theorem dT{x:aR}{v:PV}(i:x.clo=true)(e:x.ev F=some v):x.ev (F.ren r)=some (v.ren r):=by
 cases x with
 |tmp t=>simp only[aR.ev]at e ⊢;simp only[PF.ren,e,avS]
 |const u=>simp only[aR.ev,awV.injEq]at e ⊢;subst e;exact(PV.oO i r).symm
theorem FN:∀{l:List aR}{vs:V_},l.all aR.clo=true->aR.evs F l=some vs->aR.evs (F.ren r) l=some (vs.map (PV.ren r))
 |[],vs,_,e=>by cases e;rfl
 |x::xs,vs,i,e=>by simp only[ayX,avE]at i;simp only[aR.evs]at e ⊢;split at e;rename_i v y u w;cases e;rw[dT i.1 u,FN i.2 w];rfl;cases e
theorem alL{op:UnOp}{x v:PV}(e:PV.un op x=some v):PV.un op (x.ren r)=some (v.ren r):=by
 unfold PV.un at e;split at e;split at e<;>cases e<;>rfl;split at e<;>cases e;rfl;cases e
theorem x3:∀{l:List (Nat × Nat × aR)}{cells v:V_},(l.all λx=>x.2.2.clo)=true->qC cells F l=some v->qC (cells.map (PV.ren r)) (F.ren r) l=some (v.map (PV.ren r))
 |[],_,_,_,e=>by cases e;rfl
 |(off,size,x)::l,cells,v,i,e=>by simp only[ayX,avE]at i;simp only[qC]at e ⊢;split at e;rename_i w u;rw[dT i.1 u];simp only[yJ,wV,auW];split at e;rename_i y;rw[aF y,<-HT];exact x3 i.2 e;cases e;cases e
theorem GX{size:Nat}:∀{l:List (Nat × aR)}{rows v:P2_},(l.all λx=>x.2.clo)=true->gY size rows F l=some v ->
  gY size (rows.map λx=>x.map (PV.ren r)) (F.ren r) l=some (v.map λx=>x.map (PV.ren r))
 |[],_,_,_,e=>by cases e;rfl
 |(i,x)::l,rows,v,u,e=>by simp only[ayX,avE]at u;simp only[gY]at e ⊢;split at e;rename_i w y;rw[dT u.1 y];simp only[yJ,wV,auW];split at e;rename_i A;rw[aF A,<-ayE];exact GX u.2 e;cases e;cases e
theorem xE(A:JP r h H){p:PV}{n:Nat}{v:V_}(e:loadCells h p n=some v):loadCells H (p.ren r) n=some (v.map (PV.ren r)):=by
 unfold loadCells at e;split at e;split at e;rename_i o size i c s rs x;obtain⟨pre,l,-,w⟩:=A.ex x;simp only[aV.ren]at w;simp only[PV.ren,loadCells,w,l,Er];split at e;rename_i u;rw[aF u,avO];split at e;rename_i q y;rw[y];simp only[avS,auW];split at e;rename_i h5;rw[aF h5,<-List.map_drop,<-ayN];cases e;rfl;cases e;cases e;cases e;cases e;simp only[PV.ren,loadCells,PV.gF,auW];split at e;rename_i u;rw[aF u,<-ayN];cases e;rfl;cases e;cases e
theorem IB(y:JP r h H){s:Nat}{p:PV}{v:P2_}(e:dH h s p=some v):dH H s (p.ren r)=some (v.map λx=>x.map (PV.ren r)):=by
 unfold dH at e;split at e;cases e;rfl;simp only[PV.ren,dH,PV.kP];split at e;rename_i l;rw[aF l];cases e;rfl;cases e;split at e;rename_i l;split at e;rename_i w;obtain⟨pre,i,-,u⟩:=y.ex w;simp only[aV.ren]at u;simp only[PV.ren,dH,u,i,MD,auW,auZ];rw[aF l];split at e;rename_i A;rw[aF Om,<-List.map_drop,<-ayN];cases e;rfl;cases e;cases e;cases e;cases e
theorem u5{d n:Int}{x:Option aR}(l:(x.all aR.clo)=true)(e:bnd F d x=some n):bnd (F.ren r) d x=some n:=by
 cases x with
 |none=>exact e
 |some x=>
  simp only[bnd]at e ⊢;cases i:x.ev F with
  |none=>rw[i]at e;cases e
  |some v =>rw[i]at e;rw[dT (by simpa using l) i];cases v<;>first|exact e|cases e
theorem Af{size:Nat}{x v:PV}{l m:Int}{mx:Option Int}(e:PV.slice size x l m mx=some v):PV.slice size (x.ren r) l m mx=some (v.ren r):=by
 unfold PV.slice at e;split at e;split at e;rename_i i;cases e;simp only[PV.ren,PV.slice];rw[aF i];cases e;split at e;rename_i i;cases e;simp only[PV.ren,PV.slice,PV.kP,auW];rw[aF i,<-ayN,<-List.map_drop];cases e;split at e;rename_i i;cases e;simp only[PV.ren,PV.slice];rw[aF i,Nat.add_right_comm];cases e;cases e
theorem Ou{x:PV}{b:Bool}(e:PV.wT x=some b):PV.wT (x.ren r)=some b:=by
 unfold PV.wT at e;split at e<;>first|exact e|cases e
theorem Yz{x v:PV}(e:PV.tO x=some v):PV.tO (x.ren r)=some (v.ren r):=by
 unfold PV.tO at e;split at e<;>cases e<;>simp only[PV.ren,PV.tO,PV.kP,auW]
end
def POp.clo:POp->Bool
 | .mv x | .un _ x | .conv _ x | .box _ x | .load _ x | .atX x | .auN _ x | .len x | .isNil _ x | .extract x _=>x.clo
 | .pick c a b=>c.clo&&(a.clo&&b.clo)
 | .bin _ x y | .eqb _ x y | .auB _ x y | .idxA _ _ x y | .auL x y | .auF _ x y | .store _ x y | .append _ _ x y=>x.clo&&y.clo
 | .alloc cells=>PV.bounds 0 cells
 | .build zero parts=>PV.bounds 0 zero&&parts.all λx=>x.2.2.clo
 | .atO _ _ _ zero parts=>PV.bounds 0 zero&&parts.all λx=>x.2.clo
 | .slice _ x lo hi mx=>x.clo&&(lo.all aR.clo&&(hi.all aR.clo&&mx.all aR.clo))
 | .atS _ _ zero l c=>PV.bounds 0 zero&&(l.clo&&c.clo)
 | .mkfn _ l=>l.all aR.clo
 | .call _ l=>l.all aR.clo
 | .auM x l=>x.clo&&l.all aR.clo
 |_=>false
section
variable {r:Ren} {F:PF} {h H:PH}
theorem VW(K:JP r h H){op:POp}{v:PV}(A:op.clo=true)(e:bD op F h=some v):bD op (F.ren r) H=some (v.ren r):=by
 cases op<;>try (simp[bD]at e;done)
 all_goals try (simp[POp.clo]at A;done)
 case mv x=>exact dT A e
 case pick c a b=>
  simp only[POp.clo,avE]at A;simp only[bD]at e ⊢;split at e
  ·rename_i t u;rw[dT A.1 u];cases t with
   |true=>exact dT A.2.1 e
   |false=>exact dT A.2.2 e
  ·cases e
 case bin op x y=>
  simp only[POp.clo,avE]at A;simp only[bD]at e ⊢;split at e
  ·rename_i a b u B;rw[dT A.1 u,dT A.2 B];exact ahG e
  ·cases e
 case eqb n x y=>
  simp only[POp.clo,avE]at A;simp only[bD]at e ⊢;split at e
  ·rename_i a b u B;rw[dT A.1 u,dT A.2 B];cases e;rfl
  ·cases e
 case un op x=>
  simp only[bD]at e ⊢;split at e
  ·rename_i a u;rw[dT A u];exact alL e
  ·cases e
 case conv k x=>
  simp only[bD]at e ⊢;split at e
  ·rename_i N n u;rw[dT A u];cases e;rfl
  ·cases e
 case box ro x=>
  cases ro with
  |false=>simp[bD]at e
  |true=>
   simp only[bD]at e ⊢;split at e
   ·rename_i a u;rw[dT A u];simp only[yJ,wV];split at e
    ·rename_i B;rw[aF B];cases e;simp only[PV.ren,PV.gF]
    ·cases e
   ·cases e
 case build zero parts=>
  simp only[POp.clo,avE]at A;simp only[bD]at e ⊢;cases u:qC zero F parts with
  |none=>rw[u]at e;cases e
  |some w =>rw[u]at e;have B:=x3 (r:=r) A.2 u;rw[PV.mX A.1]at B;rw[B];cases e;simp only[avS,PV.ren,PV.gF]
 case atO ro size len zero parts=>
  cases ro with
  |false=>simp[bD]at e
  |true=>
   simp only[POp.clo,avE]at A;simp only[bD]at e ⊢;split at e
   ·rename_i M;rw[aF M];cases u:gY size (avA len zero) F parts with
    |none=>rw[u]at e;cases e
    |some w =>rw[u]at e;have B:=GX (r:=r) A.2 u;rw[List.map_replicate,PV.mX A.1]at B;rw[B];cases e;simp only[avS,PV.ren,PV.kP]
   ·cases e
 case load n p=>
  cases n with
  |none=>
   simp only[bD]at e ⊢;split at e
   ·rename_i a u;rw[dT A u];split at e
    ·rename_i w B;have E:=xE K B;simp only[awE,axD]at E;simp only[E];cases e;rfl
    ·cases e
   ·cases e
  |some n=>
   simp only[bD]at e ⊢;split at e
   ·rename_i a u;rw[dT A u];cases B:loadCells h a n with
    |none=>rw[B]at e;cases e
    |some w =>rw[B]at e;simp only[xE K B];cases e;simp only[avS,PV.ren,PV.gF]
   ·cases e
 case atX x=>
  simp only[bD]at e ⊢;split at e
  ·rename_i u;rw[dT A u];cases e;rfl
  ·rename_i u;rw[dT A u];cases e;rfl
  ·cases e
 case auN off x=>
  simp only[bD]at e ⊢;split at e
  ·rename_i u;rw[dT A u];cases e;rfl
  ·rename_i u;rw[dT A u];cases e;simp only[PV.ren,PV.gF,List.map_drop]
  ·cases e
 case auB size x i=>
  simp only[POp.clo,avE]at A;simp only[bD]at e ⊢;split at e
  ·rename_i s rows k n u B;rw[dT A.1 u,dT A.2 B];simp only[PV.ren,PV.kP];split at e
   ·rename_i E;rw[aF E,avO];split at e
    ·rename_i q J;rw[J];cases e;simp only[avS,PV.ren,PV.gF]
    ·cases e
   ·cases e
  ·rename_i o s off len k n u B;rw[dT A.1 u,dT A.2 B];simp only[PV.ren];split at e
   ·rename_i E;rw[aF E];cases e;simp only[PV.ren,Nat.add_right_comm]
   ·cases e
  ·cases e
 case idxA n size x i=>
  simp only[POp.clo,avE]at A;simp only[bD]at e ⊢;split at e
  ·rename_i u B;rw[dT A.1 u,dT A.2 B];simp only[PV.ren];split at e
   ·rename_i E;rw[aF E];cases e;rfl
   ·cases e
  ·rename_i u B;rw[dT A.1 u,dT A.2 B];simp only[PV.ren,PV.gF];split at e
   ·rename_i E;rw[aF E];cases e;simp only[PV.ren,PV.gF,List.map_drop]
   ·cases e
  ·cases e
 case auL x i=>
  simp only[POp.clo,avE]at A;simp only[bD]at e ⊢;split at e
  ·rename_i s k n u B;rw[dT A.1 u,dT A.2 B];simp only[PV.ren];split at e
   ·rename_i E;rw[aF E];cases J:s[n.toNat]? with
    |none=>rw[J]at e;cases e
    |some b=>rw[J]at e;cases e;rfl
   ·cases e
  ·cases e
 case len x=>
  simp only[bD]at e ⊢;cases u:x.ev F with
  |none=>rw[u]at e;cases e
  |some a=>rw[u]at e;rw[dT A u];exact Yz e
 case isNil n x=>
  simp only[bD]at e ⊢;cases u:x.ev F with
  |none=>rw[u]at e;cases e
  |some a=>
   rw[u]at e;rw[dT A u];simp only[ayV]at e ⊢;cases B:a.wT with
   |none=>rw[B]at e;cases e
   |some b=>rw[B]at e;rw[Ou B];cases e;rfl
 case extract x i=>
  simp only[bD]at e ⊢;split at e
  ·rename_i vs u;rw[dT A u];simp only[PV.ren,PV.gF];rw[avO,e];rfl
  ·cases e
 case auF mx x y=>
  simp only[POp.clo,avE]at A;simp only[bD]at e ⊢;split at e
  ·rename_i u B;rw[dT A.1 u,dT A.2 B];simp only[PV.ren];split at e
   ·rename_i E;rw[aF E];cases e;rfl
   ·cases e
  ·cases e
 case mkfn name l=>
  simp only[bD]at e ⊢;cases u:aR.evs F l with
  |none=>rw[u]at e;cases e
  |some vs =>rw[u]at e;rw[FN A u];cases e;simp only[avS,PV.ren,PV.gF]
 case slice size x lo hi mx=>
  simp only[POp.clo,avE]at A;simp only[bD]at e ⊢;split at e
  ·rename_i a u;rw[dT A.1 u];cases a<;>try (simp at e;done)
   all_goals
    simp only[PV.ren,PV.kP,auW]at e ⊢;split at e
    ·rename_i l m B E;rw[u5 A.2.1 B,u5 A.2.2.1 E];simp only;cases mx with
     |none =>simp only at e ⊢;have J:=Af (r:=r) e;simpa only [PV.ren,PV.kP]using J
     |some q=>
      simp only at e ⊢;cases h5:bnd F 0 (some q)with
      |none=>rw[h5]at e;cases e
      |some z =>rw[h5]at e;rw[u5 A.2.2.2 h5];have J:=Af (r:=r) (by simpa using e);simpa only [PV.ren,PV.kP,ayV]using J
    ·cases e
  ·cases e
end
end Go.PM
